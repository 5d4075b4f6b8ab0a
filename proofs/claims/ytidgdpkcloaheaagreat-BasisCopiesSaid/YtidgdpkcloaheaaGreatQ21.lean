/- Lemmas of the claim; no condition. -/
import Derived.Test.YtidgdpkcloaheaaGreatQ19
set_option linter.all false
set_option maxRecDepth 100000
set_option maxHeartbeats 40000000
namespace Go.Proofs.YtidgdpkcloaheaaGreat
open Go.RowKit
open Pl
attribute [local go_sem ↓] Go.wp_at_zero Go.wp_at_succ
theorem Zev [Old] (v:Value) (es:List En) (e:En) (w:World) (h:Wy w v es) (he:es[es.length - 1]? =some e) (hOl:Zb w:=by (repeat (first | assumption | exact Zb.up (by assumption) hOl | exact Zb.up (Hid.out (by assumption)) hOl | with_reducible refine Zb.set ?_ _ _ | with_reducible refine Zb.mk_ ?_ _ | with_reducible refine Zb.dr ?_ | with_reducible refine Zb.drN ?_ | refine Zb.up (by assumption) ?_ | refine Zb.up (Hid.out (by assumption)) ?_))):
 Calls Tryz.prog 79 #[v] w fun o w'=>∃v',o= .returned v'∧Zm w' v' e.f∧Below w.heap.size w w':=by
 have g:=hOl.le;obtain ⟨A,c,rfl,m,n⟩:=h.shape;have hp:0 < es.length:=by have:=(List.getElem?_eq_some_iff.1 he).1;omega
 obtain ⟨W,hW,hR,a⟩:=Zah w (.bool false) (.slice none 0 0) (.bool false) (.slice none 0 0);obtain ⟨b,p,A1,n1,k1,A2,n2,k2,rfl,q,⟨x0,x1,x2,x3,x4⟩,d⟩:=h.elem a he;generalize hk:es.length - 1=k at *;generalize hl:es.length=l at *;have i:(l:Int) - 1=(k:Int):=by omega
 have j:(k:Int) < l:=by omega
 obtain ⟨ei,f⟩:=e;simp only at *;obtain ⟨c0,c1,c2,c3⟩:=hR.four;obtain ⟨f0,f1,f2,f3⟩:=hR.fourF;clear he hl hk h hp;go_enter Tryz.func79,Tryz.ntmps79;go_wp2;refine Zn Tryz.results79 Tryz.underlying36 (by kernel_rfl) rfl (hR.set4 _ _ _ _) rfl ?_;exact Yn hR d a (JY _)
namespace Pl
def Zdg (n:Nat) (R:Nat→Nat):List Int:=(List.range n).map fun i=>(R i:Int)
theorem Zba (n:Nat) (R:Nat→Nat):(Zdg n R).length=n:=by simp [Zdg]
theorem UY {n i:Nat} {R:Nat→Nat} (h:i < n):(Zdg n R)[i]? =some (R i:Int):=by simp [Zdg,h]
def vcL (n:Nat) (L:Mx):List (List En):=(List.range n).map fun t=>spV (L t) n
theorem UI (n:Nat) (L:Mx):(vcL n L).length=n:=by simp [vcL]
theorem Zbb {n i:Nat} {L:Mx} (h:i < n):(vcL n L)[i]? =some (spV (L i) n):=by simp [vcL,h]
theorem Zfe {f:Nat→Rat} {m:Nat}:∀{d:Nat},(∀s,m≤s→s < m+d→f s=0)→spV f (m+d)=spV f m
 | 0,_=>rfl
 | d+1,h=>by rw [← Nat.add_assoc,Y8 (h _ (by omega) (by omega))];exact Zfe fun s h1 h2=>h s h1 (by omega)
theorem Zqq {f:Nat→Rat} {n k:Nat} (hk:k < n) (h:f k≠0) (h0:∀s,k < s→s < n→f s=0):(spV f n)[(spV f n).length - 1]? =some ⟨(k:Int),canF (f k)⟩:=by
 have e:spV f n=spV f k++[⟨(k:Int),canF (f k)⟩]:=by
  rw [← Xo h];have:=Zfe (f:=f) (m:=k+1) (d:=n - (k+1)) fun s h1 h2=>h0 s (by omega) (by omega)
  rwa [show k+1+(n - (k+1))=n by omega] at this
 rw [e];simp
end Pl
theorem Vi.cap {w:World} {A:Option Addr} {n c:Nat} {zs:List Int} (h:Vi w (.slice A n c) zs):n≤c∧c≤9223372036854775807:=by
 obtain ⟨_,_,e,h1,h2⟩:=h.shape;injection e with _ e1 e2;omega
theorem Xf.cap [Old] {w:World} {A:Option Addr} {n c:Nat} {cols:List (List En)} (h:Xf w (.slice A n c) cols):n≤c∧c≤9223372036854775807:=by
 obtain ⟨_,_,e,h1,h2⟩:=h.shape;injection e with _ e1 e2;omega
def Zwy [Old] (w:World) (g off n:Nat) (R C:Nat→Nat) (L U:Mx):Prop:=
 ∃A0 c0 A1 c1 A2 c2 A3 c3,(w.cell? ⟨g,off,none⟩=some (.slice A0 n c0)∧w.cell? ⟨g,off+1,none⟩=some (.slice A1 n c1)∧w.cell? ⟨g,off+2,none⟩=some (.slice A2 n c2)∧w.cell? ⟨g,off+3,none⟩=some (.slice A3 n c3))∧
  Vi w (.slice A0 n c0) (Zdg n R)∧Vi w (.slice A1 n c1) (Zdg n C)∧Xf w (.slice A2 n c2) (vcL n L)∧Xf w (.slice A3 n c3) (vcL n U)
theorem Vi.nat {w wr:World} {a:Option Addr} {n cap:Nat} {R:Nat→Nat} (h:Vi w (.slice a n cap) (Zdg n R)) (hb:Below w.heap.size w wr) {i:Nat} (hi:i < n):
 ∃b o,a=some ⟨b,o,none⟩∧wr.cell? ⟨b,o+i,none⟩=some (.int .i64 (R i:Int)):=by
 obtain ⟨b,o,z,e,hc,hz,_,_⟩:=h.at_ hi;rw [UY hi] at hz;injection hz with hz;subst hz;exact ⟨b,o,e,ZH hb hc⟩
theorem Xf.vc [Old] {w wr:World} {a:Option Addr} {n cap:Nat} {L:Mx} (h:Xf w (.slice a n cap) (vcL n L)) (hb:Below w.heap.size w wr) {i:Nat} (hi:i < n):
 ∃b o A1 c1,a=some ⟨b,o,none⟩∧wr.cell? ⟨b,o+i,none⟩=some (.slice A1 (spV (L i) n).length c1)∧Wy wr (.slice A1 (spV (L i) n).length c1) (spV (L i) n):=by
 obtain ⟨b,o,A1,c1,e,_,hc,hv⟩:=h.elem hb (Zbb hi);exact ⟨b,o,A1,c1,e,hc,hv⟩
theorem UQ.congr [Old] {base:Nat} {v:Value} {n:Nat} {g g':Nat→Rat} {w w':World} (h:UQ base v n g w w') (e:∀i,i < n→g i=g' i):UQ base v n g' w w':=by
 unfold UQ at *;rw [← Yf e];exact h
namespace Pl
theorem Zff {n k J:Nat} {f g:Nat→Rat} {G:Nat→Rat} (hg:∀i,i < n→Sz J (g i)) (hG:∀i,i < n→Sz J (G i)) (e:∀i,i < n→(if i < n∧i≠k then g i - f i * g k else g i)=G i):
 ∀t i,t≤(spV f n).length→i < n→Sz J (VE (spV f n) (k:Int) (g k) g t i):=fun t i ht hi=>by
 rcases Zin f k (g k) g i n t ht with h | ⟨h1,h2,h3⟩
 ·rw [h];exact hg i hi
 ·have:=e i hi
  rw [if_pos ⟨h1,h2⟩] at this
  rw [h3,this];exact hG i hi
theorem Znu {n k:Nat} {f g:Nat→Rat} {G:Nat→Rat} (e:∀i,i < n→(if i < n∧i≠k then g i - f i * g k else g i)=G i):
 ∀i,i < n→VE (spV f n) (k:Int) (g k) g (spV f n).length i=G i:=fun i hi=>by
 rw [Zde];exact e i hi
end Pl
theorem Zfg [Old] (gp off:Nat) (vc:Value) (n E J:Nat) (A:Mx) (R C:Nat→Nat) (L U:Mx) (b:Nat→Rat) (w:World) (hF:Zwy w gp off n R C L U) (h2:Zbn w vc (YT n b)) (S:Znq n E A R C L U) (hb:∀i,i < n→Sz J (b i)) (hJ:J≤30 * E) (hX:∀i,i < n→Sz E (solQ n R C L U b i)) (hOl:Zb w:=by (repeat (first | assumption | exact Zb.up (by assumption) hOl | exact Zb.up (Hid.out (by assumption)) hOl | with_reducible refine Zb.set ?_ _ _ | with_reducible refine Zb.mk_ ?_ _ | with_reducible refine Zb.dr ?_ | with_reducible refine Zb.drN ?_ | refine Zb.up (by assumption) ?_ | refine Zb.up (Hid.out (by assumption)) ?_))):
 Calls Tryz.prog 73 #[.pointer (some ⟨gp,off,none⟩),vc] w fun o w'=>∃v',o= .returned v'∧YL w.heap.size w' v' (YT n (solQ n R C L U b))∧Below w.heap.size w w':=by
 have cg:=hOl.le;obtain ⟨A0,c0,A1,c1,A2,c2,A3,c3,⟨k0,k1,k2,k3⟩,i0,i1,i2,i3⟩:=hF;obtain ⟨Ac,cc,rfl,az,bu⟩:=h2.shape;rw [Zu] at h2 az ⊢;obtain ⟨bv,bw⟩:=i0.cap;obtain ⟨bx,ca⟩:=i1.cap;obtain ⟨cb,cd⟩:=i2.cap;obtain ⟨ce,cf⟩:=i3.cap;have K0:=JZ k0;have K1:=JZ k1;have K2:=JZ k2;have K3:=JZ k3;have I0:=JZ i0;have I1:=JZ i1;have I2:=JZ i2;have I3:=JZ i3;have H2:=JZ h2;have HS:=JZ S;have ch:=S.n7;have cj:=S.e1;have cl:=S.e2;obtain ⟨z0,G⟩:∃z0,z0=fun p=>b (R p):=⟨_,rfl⟩
 obtain ⟨FW,r⟩:∃FW,FW=VG L z0:=⟨_,rfl⟩;obtain ⟨BW,u⟩:∃BW,BW=VJ n U (FW n):=⟨_,rfl⟩;have bf:Hid (FW 0=z0):=JZ (by rw [r];rfl);have bg:Hid (BW 0=FW n):=JZ (by rw [u];rfl);have ak:Hid (∀j,j < n→∀i,i < n→(if i < n∧i≠j then FW j i - L j i * FW j j else FW j i)=FW (j+1) i):=JZ fun j hj i hi=>by rw [r];exact Zty S.fac.l0 hj hi
 have bh:Hid (∀j k,k+1+j=n→∀i,i < n→(if i < n∧i≠k then Zdf (BW j) k (U k k) i - U k i * Zdf (BW j) k (U k k) k else Zdf (BW j) k (U k k) i)=BW (j+1) i):=JZ fun j k hk i hi=>by rw [u];exact Ztz S.fac.u0 hk hi
 have al:Hid (∀j i,j≤n→i < n→Sz (256 * E) (FW j i)):=JZ fun j i hj hi=>by rw [r,G];exact (S.fB hb hX j i hj hi).mono (by omega)
 have M:Hid (∀j i,j≤n→i < n→Sz (59 * E) (BW j i)):=JZ fun j i hj hi=>by rw [u,r,G];exact S.bB hX j i hj hi
 have bi:Hid (∀j k,k+1+j=n→BW (j+1) k=BW n k):=JZ fun j k hk=>by rw [u];exact (UG (show k < n by omega) (by omega) (by omega)).trans (UG (show k < n by omega) (by omega) (JY n)).symm
 have am:Hid (YT n (solQ n R C L U b)=UH n n C (BW n)):=JZ (by rw [Znp S.fac.ci,u,r,G];rfl);have bj:Hid (∀p,b (R p)=z0 p):=JZ fun p=>by rw [G]
 rw [am.out];have bk:Hid (∀t,t < n→∀(k:Nat) (e:En),(spV (L t) n)[k]? =some e→e.f.Rs (2 * E)):=JZ fun t ht=>Zsc fun i hi=>S.lB t i ht hi
 have bl:Hid (∀t,t < n→∀(k:Nat) (e:En),(spV (U t) n)[k]? =some e→e.f.Rs (2 * E)):=JZ fun t ht=>Zsc fun i hi=>S.uB t i ht hi
 have bm:Hid (∀k,k < n→Sz (2 * E) (U k k)∧U k k≠0∧(spV (U k) n)[(spV (U k) n).length - 1]? =some ⟨(k:Int),canF (U k k)⟩):=JZ fun k hk=>⟨S.uB k k hk hk,S.fac.u1 k hk,Zqq hk (S.fac.u1 k hk) fun s h1 h2=>S.fac.u0 k s hk h2 h1⟩
 have cm:=X5 n (by omega);have a7:=YL.zeros w n (by unfold maxLen;omega);have N:=Zd w (.cells (zfc n) 36);rw [← Zaz (w:=z0)] at a7;have y0:=ZH N k0;have bn:=k0;clear i0 i1 i2 i3 h2 S G r u hb hX am k0 k1 k2 k3;go_enter Tryz.func73,Tryz.ntmps73;go_wp2;have O:=N.size;clear y0 bn;generalize w.alloc (.cells (zfc n) 36)=W at *
 go_loopw [24] (fun i wr=>∃k:Nat,k≤n∧i= .int .i64 k∧YL w.heap.size wr (.slice (some ⟨w.heap.size,0,none⟩) n n) (XQ n k z0)∧Below w.heap.size w wr) (fun i _=>n - (intOf i).toNat)
 case atStart=>exact ⟨0,by omega,rfl,a7,N⟩
 case round=>
  clear a7 N O;obtain ⟨k,hk,rfl,hO,a⟩:=hrel;rcases JX k n with c | c
  ·obtain ⟨b0,o0,rfl,x0⟩:=I0.out.nat a c;have bo:R k < n:=HS.out.fac.ri.1 k c;obtain ⟨bc,oc,A4,n4,c4,A5,n5,c5,rfl,_,⟨u0,u1,u2,u3⟩,hm⟩:=H2.out.elem a (Z7 bo);rw [bj.out] at u0 u2 hm;have P:=JZ (VH (w:=z0) c);have Y:(XQ n k z0)[k]? =some zeroF:=(by unfold XQ;rw [Yt c,if_neg (by omega)]);obtain ⟨_,_,_,_,⟨t0,t1,t2,t3⟩,⟨f0,f1,f2,f3⟩,_⟩:=hO.at_ Y;obtain ⟨b5,cr⟩:=hO.set_ (k:=k) (by rw [Un];exact c) hm;rw [P.out] at b5;have an:=ZB a (JY _) (k * 4) (k * 4+1) (k * 4+2) (k * 4+3);have bp:(k:Int) < n:=(by omega);generalize R k=rk at *;have cn:(rk:Int) < n:=(by omega);clear hO a Y hm P;go_wp2;go_roundw
   case rel=>exact ⟨k+1,by omega,by go_num,b5,an _ _ _ _⟩
   case measure=>simp [intOf];omega
  ·obtain rfl:n=k:=by omega
   rw [Zcc,← bf.out] at hO;go_wp2
   go_loopw [38] (fun i wr=>∃j:Nat,j≤n∧i= .int .i64 j∧YL w.heap.size wr (.slice (some ⟨w.heap.size,0,none⟩) n n) (YT n (FW j))∧Below w.heap.size w wr) (fun i _=>n - (intOf i).toNat)
   case atStart=>exact ⟨0,by omega,rfl,hO,a⟩
   case round=>
    clear hO a;obtain ⟨j,hj,rfl,hO,a⟩:=hrel;rcases JX j n with hjl | hjl
    ·obtain ⟨b2,o2,A4,c4,rfl,x0,hL⟩:=I2.out.vc a hjl;have y2:=ZH a K2.out;have a8:=JZ (Zff (J:=256 * E) (fun i hi=>al.out j i (by omega) hi) (fun i hi=>al.out (j+1) i (by omega) hi) (ak.out j hjl));have a9:=JZ (Znu (ak.out j hjl));have HR:=JZ (bk.out j hjl);have aa:=JZ (Zgv (L j) n);have co:(j:Int) < n:=(by omega);go_wp2_with fail;refine (UM _ _ n (FW j) (spV (L j) n) j (2 * E) (256 * E) w.heap.size _ hO hL hjl aa.out HR.out a8.out (by omega) (by omega) (by omega)).mono ?_;rintro _ w1 ⟨rfl,hs⟩;obtain ⟨T,_,bs,a0⟩:=hs.congr a9.out;have ao:=a.trans a0;clear hO a hL x0 y2 hs a0 bs;go_wp2;go_roundw
     case rel=>exact ⟨j+1,by omega,by go_num,T,ao⟩
     case measure=>simp [intOf];omega
    ·obtain rfl:n=j:=by omega
     rw [← bg.out] at hO;have ab:=YL.zeros wr n (by unfold maxLen;omega);have ac:=Zd wr (.cells (zfc n) 36);rw [← Zkf (X:=BW n) HS.out.fac.ci] at ab;have T:=hO.below ac;have bq:0 < n→w.heap.size < wr.heap.size:=fun hp=>by
      obtain ⟨g,_,e,_,h,_⟩:=hO.shape (by rw [Zu];exact hp);injection e with e;injection e with e;injection e with e;omega
     have Z:=Za a ac a.size;have br:=a.size;clear hO a;go_wp2;generalize wr.heap.size=gx at *;generalize wr.alloc (.cells (zfc n) 36)=W2 at *
     go_loopw [11] (fun i wx=>∃(j:Nat) (kz:Int),j≤n∧kz=(n:Int) - 1 - j∧i= .int .i64 kz∧YL w.heap.size wx (.slice (some ⟨w.heap.size,0,none⟩) n n) (YT n (BW j))∧YL gx wx (.slice (some ⟨gx,0,none⟩) n n) (UH n j C (BW n))∧Below w.heap.size w wx) (fun i _=>(intOf i+1).toNat)
     case atStart=>exact ⟨0,(n:Int) - 1,by omega,by omega,rfl,T,ab,Z⟩
     case round=>
      clear T ab Z ac;obtain ⟨j,kz,hj,b6,rfl,hO,hx,a⟩:=hrel;rcases Int.lt_or_le kz 0 with hneg | hpos
      ·obtain rfl:n=j:=by omega
       go_wp2;go_ret;exact ⟨_,rfl,hx.monoB br,a⟩
      ·obtain ⟨k,rfl⟩:=JT hpos;have x:k+1+j=n:=(by omega);have c:k < n:=(by omega);have cp:=bq (by omega);obtain ⟨b3,o3,A4,c4,rfl,x0,H⟩:=I3.out.vc a c;have y3:=ZH a K3.out;obtain ⟨ah,a1,I⟩:=bm.out k c;have y:=JZ I;obtain ⟨D,hD⟩:∃D,D=Zdf (BW j) k (U k k):=⟨_,rfl⟩;have ap:Hid ((YT n (BW j)).set k (canF (BW j k / U k k))=YT n D):=JZ (by rw [V9 c,hD];rfl);have V:=bh.out j k x;rw [← hD] at V;have aq:∀i,i < n→Sz (61 * E) (D i):=fun i hi=>by
        rw [hD];unfold Zdf;split
        ·exact (Zbv (M.out j k (by omega) c) ah).mono (by omega)
        ·exact (M.out j i (by omega) hi).mono (by omega)
       have a8:=JZ (Zff (J:=61 * E) aq (fun i hi=>(M.out (j+1) i (by omega) hi).mono (by omega)) V);have a9:=JZ (Znu V);have HR:=JZ (bl.out k c);have aa:=JZ (Zgv (U k) n);have O:(canF (BW j k)).Sm:=(M.out j k (by omega) c).rs.sm (by omega);have ar:(canF (U k k)).Sm:=ah.rs.sm (by omega);have au:(canF (U k k)).q≠0:=(by rw [ZG];exact a1);have ad:(YT n (BW j))[k]? =some (canF (BW j k)):=Z7 c;have P:Hid ((UH n j C (BW n)).set (C k) (canF (BW (j+1) k))=UH n (j+1) C (BW n)):=JZ (by rw [bi.out j k x];exact Zkg HS.out.fac.ci x);have av:C k < n:=HS.out.fac.ci.1 k c;have bp:(k:Int) < n:=(by omega);have cq:=JZ b6;have aw:=JZ x;clear b6 x;obtain ⟨bz,oz,A5,n5,c5,A6,n6,c6,hA,_,⟨t0,t1,t2,t3⟩,K⟩:=hO.frs.elem (JR _ _) ad;injection hA with hA;injection hA with hA1 hA2;subst hA1;subst hA2;simp only [Nat.zero_add] at t0 t1 t2 t3;generalize BW j k=zk at *;generalize U k k=uk at *;clear V aq hD I ah a1 hpos
       go_upto_region 17 with (fail)
       have C0:=Zr t0;have C1:=Zr t1;have C2:=Zr t2;have C3:=Zr t3;have D0:=Zr x0;have D1:=Zr y3;have z:=Zj wr;clear t0 t1 t2 t3 x0 y3;refine Zt 19 [0,1,2,3,4,5,6,7,8,9,10,11,12,13,14,15,16,17,18,19] (by kernel_rfl) (by kernel_rfl) ?_;repeat ((first | (refine Zc (v:=?_) rfl rfl rfl ?_ ?_;rotate_left;(· (intro _ l;go_simp;(try go_bits);(try with_reducible rfl)))) | (refine Ze (v:=?_) rfl rfl rfl ?_ ?_;rotate_left;(· (intro _ l;go_simp;(try go_bits);(try with_reducible rfl)))) | refine Zf rfl rfl rfl ?_);(try simp only [Act.put,pu1,pu2,pu3,pu4,pu5,pu6]))
       refine Zg rfl rfl (fun KR hKR=>?_);go_simp;(with_reducible refine (Zev _ _ ⟨(k:Int),canF uk⟩ _ (H.below z) y.out).mono ?_);rintro _ w6 ⟨v6,rfl,e6,bd⟩;have B:=Za z bd z.size;refine hKR.out _ _ (Or.inr B) ?_;clear hKR KR;(try simp only [Act.put,pu1,pu2,pu3,pu4,pu5,pu6]);repeat ((first | (refine Zc (v:=?_) rfl rfl rfl ?_ ?_;rotate_left;(· (intro _ l;go_simp;(try go_bits);(try with_reducible rfl)))) | (refine Ze (v:=?_) rfl rfl rfl ?_ ?_;rotate_left;(· (intro _ l;go_simp;(try go_bits);(try with_reducible rfl)))) | refine Zf rfl rfl rfl ?_);(try simp only [Act.put,pu1,pu2,pu3,pu4,pu5,pu6]))
       refine Zg rfl rfl (fun KR hKR=>?_);go_simp;(with_reducible refine (UX _ _ (canF zk) (canF uk) _ (K.below B) e6 O ar au).mono ?_);rw [ZG,ZG];rintro _ w7 ⟨v7,rfl,e7,be⟩;have F:=Za B be B.size;obtain ⟨B9,l9,k9,b7,b8,b9,rfl,_,_⟩:=id e7;have ae:=hO.below F;obtain ⟨_,_,_,_,⟨c0,c1,c2,c3⟩,⟨f0,f1,f2,f3⟩,_⟩:=ae.at_ ad;refine hKR.out _ _ (Or.inr F) ?_;clear hKR KR;(try simp only [Act.put,pu1,pu2,pu3,pu4,pu5,pu6]);repeat ((first | (refine Zc (v:=?_) rfl rfl rfl ?_ ?_;rotate_left;(· (intro _ l;go_simp;(try go_bits);(try with_reducible rfl)))) | (refine Ze (v:=?_) rfl rfl rfl ?_ ?_;rotate_left;(· (intro _ l;go_simp;(try go_bits);(try with_reducible rfl)))) | refine Zf rfl rfl rfl ?_);(try simp only [Act.put,pu1,pu2,pu3,pu4,pu5,pu6]))
       refine Zg rfl rfl (fun KR hKR=>?_);go_simp;refine hKR.out _ _ (Or.inl (by decide)) ?_;clear hKR KR;(try simp only [Act.put,pu1,pu2,pu3,pu4,pu5,pu6]);refine Zv ?_;clear C0 C1 C2 C3 D0 D1;obtain ⟨ai,ba⟩:=ae.set_ (k:=k) (by rw [Zu];exact c) e7;rw [ap.out] at ai;have ax:=(hx.below F).others Yb (ba.keep (by decide)) (fun b hb e=>by simp [Value.ownBlock] at hb;injection e with e;omega);have m:=ZB (Za a F a.size) (JY _) (k * 4) (k * 4+1) (k * 4+2) (k * 4+3) (.bool (canF (zk / uk)).num.neg) (.slice B9 l9 k9) (.bool (canF (zk / uk)).den.neg) (.slice b7 b8 b9);clear hO ae hx a z B F e6 e7 bd be c0 c1 c2 c3 f0 f1 f2 f3 K ba H ad O ar au ap y;generalize ((((w7.setCell ⟨w.heap.size,k * 4,none⟩ (.bool (canF (zk / uk)).num.neg)).setCell ⟨w.heap.size,k * 4+1,none⟩ (.slice B9 l9 k9)).setCell ⟨w.heap.size,k * 4+2,none⟩ (.bool (canF (zk / uk)).den.neg)).setCell ⟨w.heap.size,k * 4+3,none⟩ (.slice b7 b8 b9))=W8 at *;obtain ⟨b4,o4,A7,c7,hA,x0,H⟩:=I3.out.vc m c;injection hA with hA;injection hA with hA1 hA2;subst hA1;subst hA2;have y3:=ZH m K3.out;go_wp2_with fail;refine (UM _ _ n D (spV (U k) n) k (2 * E) (61 * E) w.heap.size _ ai H c aa.out HR.out a8.out (by omega) (by omega) (by omega)).mono ?_;rintro _ w9 ⟨rfl,hs⟩;obtain ⟨aj,a2,a3,a4⟩:=hs.congr a9.out;have af:=ax.others a3 (a2.keep (by decide)) (fun b hb e=>by simp [Value.ownBlock] at hb e;omega);have d:=m.trans a4;clear ai H hs x0 y3 ax m a2 a3 a4;obtain ⟨b1,o1,rfl,x1⟩:=I1.out.nat d c;have y1:=ZH d K1.out;obtain ⟨bz,oz,A8,n8,c8,A9,n9,c9,hA,_,⟨t0,t1,t2,t3⟩,K⟩:=aj.frs.elem (JR _ _) (Z7 c);injection hA with hA;injection hA with hA1 hA2;subst hA1;subst hA2;simp only [Nat.zero_add] at t0 t1 t2 t3;obtain ⟨rf,bb⟩:=Zcs (fs:=UH n j C (BW n)) (i:=C k) (by rw [UN];exact av);obtain ⟨a5,a6⟩:=af.set_ (k:=C k) (by rw [UN];exact av) K;rw [P.out] at a5;have ay:=aj.others (g:=some gx) Yb (a6.keep (by decide)) (fun b hb e=>by simp [Value.ownBlock] at hb;injection e with e;omega);have ag:=ZB d (show w.heap.size≤gx by omega) (C k * 4) (C k * 4+1) (C k * 4+2) (C k * 4+3);obtain ⟨_,_,_,_,⟨c0,c1,c2,c3⟩,⟨f0,f1,f2,f3⟩,_⟩:=af.at_ bb;generalize C k=ck at *;have bt:(ck:Int) < n:=(by omega);generalize BW (j+1) k=cs at *;clear bb af aj d K a6
       go_upto_region 19 with (fail)
       have C0:=Zr t0;have C1:=Zr t1;have C2:=Zr t2;have C3:=Zr t3;have D0:=Zr x1;have D1:=Zr y1;have z:=Zj w9;clear t0 t1 t2 t3 x1 y1;refine Zt 13 [0,1,2,3,4,5,6,7,8,9,10,11,12,13] (by kernel_rfl) (by kernel_rfl) ?_;repeat ((first | (refine Zc (v:=?_) rfl rfl rfl ?_ ?_;rotate_left;(· (intro _ l;go_simp;(try go_bits);(try with_reducible rfl)))) | (refine Ze (v:=?_) rfl rfl rfl ?_ ?_;rotate_left;(· (intro _ l;go_simp;(try go_bits);(try with_reducible rfl)))) | refine Zf rfl rfl rfl ?_);(try simp only [Act.put,pu1,pu2,pu3,pu4,pu5,pu6]))
       refine Zg rfl rfl (fun KR hKR=>?_);go_simp;refine hKR.out _ _ (Or.inl (by decide)) ?_;clear hKR KR;(try simp only [Act.put,pu1,pu2,pu3,pu4,pu5,pu6]);refine Zv ?_;clear C0 C1 C2 C3 D0 D1;go_wp2;go_roundw
       case rel=>exact ⟨j+1,(k:Int) - 1,by have:=aw.out;omega,by have:=aw.out;omega,rfl,ay,a5,(ag _ _ _ _).drew⟩
       case measure=>simp [intOf] <;> omega
def ElM [Old] (base:Nat) (w:World) (ge n:Nat) (va vr vc:Value) (M:Nat→Nat→RF) (G D:Nat→Nat) (rp cp:List Int):Prop:=
 Bk w ge 98 [.int .i64 (n:Int),va,vr,vc]∧VC base w va n n M G D∧ZJ base w vr rp∧ZJ base w vc cp∧rp.length=n∧cp.length=n
theorem ElM.below [Old] {base:Nat} {w w':World} {ge n:Nat} {va vr vc:Value} {M:Nat→Nat→RF} {G D:Nat→Nat} {rp cp:List Int} (h:ElM base w ge n va vr vc M G D rp cp) (hb:Below w.heap.size w w'):ElM base w' ge n va vr vc M G D rp cp:=
 ⟨h.1.later hb,h.2.1.below hb,h.2.2.1.below hb,h.2.2.2.1.below hb,h.2.2.2.2⟩
theorem Zm.numLen [Old] {w:World} {b b':Bool} {A A':Option Addr} {n c n' c':Nat} {f:RF} (h:Zm w (.agg #[.bool b,.slice A n c,.bool b',.slice A' n' c']) f):n=f.num.ds.length:=by
 obtain ⟨_,_,_,_,_,_,hv,h1,h2⟩:=h;simp at hv;obtain ⟨_,⟨rfl,rfl,rfl⟩,_,rfl,rfl,rfl⟩:=hv;obtain ⟨e1,e2,_,_⟩:=h1.len;omega
namespace Pl
def Zki (rp cp:List Int) (M:Nat→Nat→RF) (i j:Nat):Bool:=decide (rp.getD i 0 < 0) && (decide (cp.getD j 0 < 0) && decide (0 < (M i j).num.ds.length))
theorem Zbc {l:List Int} {i:Nat} {z:Int} (h:l[i]? =some z):l.getD i 0=z:=by simp [List.getD,h]
theorem Xu {l:List Int} {i:Nat} (h:i < l.length):∃z,l[i]? =some z:=⟨l[i],JQ h⟩
theorem Zvo {x y:Int} (h1: -100≤x) (h2:x≤100) (h3: -100≤y) (h4:y≤100): -10000≤x * y∧x * y≤10000:=by
 have a:=Int.mul_nonneg (show 0≤100 - x by omega) (show 0≤100 - y by omega);have b:=Int.mul_nonneg (show 0≤100 - x by omega) (show 0≤100+y by omega);have c:=Int.mul_nonneg (show 0≤100+x by omega) (show 0≤100 - y by omega);have d:=Int.mul_nonneg (show 0≤100+x by omega) (show 0≤100+y by omega);constructor <;> grind
end Pl
theorem Zcd [Old] (base ge n:Nat) (va vr vc:Value) (M:Nat→Nat→RF) (G D:Nat→Nat) (rp cp:List Int) (i j:Nat) (w:World) (h:ElM base w ge n va vr vc M G D rp cp) (hi:i < n) (hj:j < n) (hOl:Zb w:=by (repeat (first | assumption | exact Zb.up (by assumption) hOl | exact Zb.up (Hid.out (by assumption)) hOl | with_reducible refine Zb.set ?_ _ _ | with_reducible refine Zb.mk_ ?_ _ | with_reducible refine Zb.dr ?_ | with_reducible refine Zb.drN ?_ | refine Zb.up (by assumption) ?_ | refine Zb.up (Hid.out (by assumption)) ?_))) (hO:Old.n≤base:=by first | assumption | exact Nat.zero_le _ | omega | ((first | with_reducible refine Zb.le ?_ | with_reducible refine Zb.le1 ?_ | with_reducible refine Zb.le2 ?_ | with_reducible refine Zb.le3 ?_);repeat (first | assumption | exact Zb.up (by assumption) hOl | exact Zb.up (Hid.out (by assumption)) hOl | with_reducible refine Zb.set ?_ _ _ | with_reducible refine Zb.mk_ ?_ _ | with_reducible refine Zb.dr ?_ | with_reducible refine Zb.drN ?_ | refine Zb.up (by assumption) ?_ | refine Zb.up (Hid.out (by assumption)) ?_))):
 Calls Tryz.prog 95 #[.pointer (some ⟨ge,0,none⟩),.int .i64 (i:Int),.int .i64 (j:Int)] w fun o w'=>o= .returned (.bool (Zki rp cp M i j))∧Below w.heap.size w w':=by
 have r:=hOl.le;obtain ⟨hB,hM,hR,hC,f,g⟩:=h;obtain ⟨go,co,rfl,_,_,p,q,a⟩:=hM.outer (by omega);obtain ⟨m1,m2⟩:=a i hi;obtain ⟨A1,n1,c1,A2,n2,c2,⟨x0,x1,x2,x3⟩,hf⟩:=hM.at_ hi hj;obtain ⟨l1,l2,l3,l4⟩:=hM.lt hi (by omega);have e:=hf.numLen;obtain ⟨gr,cr,rfl,_,_,k,y⟩:=hR.shape (by omega);obtain ⟨gc,cc,rfl,_,_,m,z⟩:=hC.shape (by omega);obtain ⟨zi,c⟩:=Xu (l:=rp) (i:=i) (by omega);obtain ⟨zj,d⟩:=Xu (l:=cp) (i:=j) (by omega);obtain ⟨r0,_,_,_⟩:=hR.at_ c;obtain ⟨k0,_,_,_⟩:=hC.at_ d;obtain ⟨b0,b1,b2,b3⟩:=hB.four;have b:Zki rp cp M i j=(decide (zi < 0) && (decide (zj < 0) && decide (0 < n1))):=by unfold Zki;rw [Zbc c,Zbc d,e]
 rw [b];unfold YP at m1;have s:(i:Int) < n:=by omega
 have t:(j:Int) < n:=by omega
 rw [f] at b2 k;rw [g] at b3 m;clear b e c d hf a hM hR hC hB m2 f g;generalize G i=gi at *;generalize D i=di at *;by_cases c1':zi < 0
 ·by_cases c2':zj < 0
  ·by_cases c3':0 < n1
   ·have u:(0:Int) < n1:=(by omega);go_enter Tryz.func95,Tryz.ntmps95;go_wp2;go_ret;exact ⟨by simp [c1',c2',c3'],JR _ _⟩
   ·obtain rfl:n1=0:=by omega
    go_enter Tryz.func95,Tryz.ntmps95;go_wp2;go_ret;exact ⟨by simp,JR _ _⟩
  ·have v:0≤zj:=(by omega);go_enter Tryz.func95,Tryz.ntmps95;go_wp2;go_ret;exact ⟨by simp;intro h;omega,JR _ _⟩
 ·have x:0≤zi:=by omega
  go_enter Tryz.func95,Tryz.ntmps95;go_wp2;go_ret;exact ⟨by simp;intro h;omega,JR _ _⟩
def Zwp (V:World) (n:Nat) (s5 s6:Value) (wx:World):Prop:=
 ∃g5 g6,s5= .slice (some ⟨g5,0,none⟩) n n∧s6= .slice (some ⟨g6,0,none⟩) n n∧g5≠g6∧ZJ V.heap.size wx (.slice (some ⟨g5,0,none⟩) n n) (List.replicate n 0)∧ZJ V.heap.size wx (.slice (some ⟨g6,0,none⟩) n n) (List.replicate n 0)∧Below V.heap.size V wx
def UJ (w:World) (n g5 g6:Nat) (N:Int) (wr:World):Prop:=
 ∃zs ys:List Int,zs.length=n∧ys.length=n∧(∀z∈zs,0≤z∧z≤N)∧(∀z∈ys,0≤z∧z≤N)∧ZJ w.heap.size wr (.slice (some ⟨g5,0,none⟩) n n) zs∧ZJ w.heap.size wr (.slice (some ⟨g6,0,none⟩) n n) ys∧Below w.heap.size w wr
theorem UJ.mono {w wr:World} {n g5 g6:Nat} {N N':Int} (h:UJ w n g5 g6 N wr) (hn:N≤N'):UJ w n g5 g6 N' wr:=by
 obtain ⟨zs,ys,h1,h2,h3,h4,h5⟩:=h;exact ⟨zs,ys,h1,h2,fun z hz=>⟨(h3 z hz).1,by have:=(h3 z hz).2;omega⟩,fun z hz=>⟨(h4 z hz).1,by have:=(h4 z hz).2;omega⟩,h5⟩
theorem UJ.below {w wr w':World} {n g5 g6:Nat} {N:Int} (h:UJ w n g5 g6 N wr) (hb:Below wr.heap.size wr w'):UJ w n g5 g6 N w':=by
 obtain ⟨zs,ys,h1,h2,h3,h4,h5,h6,h7⟩:=h;exact ⟨zs,ys,h1,h2,h3,h4,h5.below hb,h6.below hb,Za h7 hb h7.size⟩
def YV (n:Nat) (rp cp:List Int) (M:Nat→Nat→RF) (i j:Nat) (s2 s3 s4 s9:Value):Prop:=
 ∃(r c b:Int) (ok:Bool),s2= .int .i64 r∧s3= .int .i64 c∧s4= .bool ok∧s9= .int .i64 b∧(ok=true→∃r' c':Nat,r=r'∧c=c'∧r' < n∧c' < n∧Zki rp cp M r' c'=true)∧
  (ok=false→∀i' j',j' < n→(i' < i∨(i'=i∧j' < j))→Zki rp cp M i' j'=false)
theorem YV.skip {n i j:Nat} {rp cp:List Int} {M:Nat→Nat→RF} {s2 s3 s4 s9:Value} (h:YV n rp cp M i j s2 s3 s4 s9) (ha:Zki rp cp M i j=false):YV n rp cp M i (j+1) s2 s3 s4 s9:=by
 obtain ⟨r,c,b,ok,e2,e3,e4,e9,h1,h2⟩:=h;refine ⟨r,c,b,ok,e2,e3,e4,e9,h1,fun ho i' j' hj hl=>?_⟩;by_cases e:i'=i∧j'=j
 ·rw [e.1,e.2];exact ha
 ·exact h2 ho i' j' hj (by omega)
theorem YV.skipT {n i j:Nat} {rp cp:List Int} {M:Nat→Nat→RF} {r c b:Int} {ok:Bool} (h:YV n rp cp M i j (.int .i64 r) (.int .i64 c) (.bool ok) (.int .i64 b)):ok=true→YV n rp cp M i (j+1) (.int .i64 r) (.int .i64 c) (.bool ok) (.int .i64 b):=by
 intro ht;obtain ⟨r',c',b',a,e2,e3,e4,e9,h1,h2⟩:=h;injection e4 with e4;subst e4;exact ⟨r',c',b',ok,e2,e3,rfl,e9,h1,fun ho=>by rw [ht] at ho;cases ho⟩
theorem YV.take {n i j:Nat} {rp cp:List Int} {M:Nat→Nat→RF} {m:Int} (hi:i < n) (hj:j < n) (ha:Zki rp cp M i j=true):YV n rp cp M i (j+1) (.int .i64 i) (.int .i64 j) (.bool true) (.int .i64 m):=
 ⟨_,_,_,_,rfl,rfl,rfl,rfl,fun _=>⟨i,j,rfl,rfl,hi,hj,ha⟩,fun ho=>by cases ho⟩
theorem YV.row {n i:Nat} {rp cp:List Int} {M:Nat→Nat→RF} {s2 s3 s4 s9:Value} (h:YV n rp cp M i n s2 s3 s4 s9):YV n rp cp M (i+1) 0 s2 s3 s4 s9:=by
 obtain ⟨r,c,b,ok,e2,e3,e4,e9,h1,h2⟩:=h;exact ⟨r,c,b,ok,e2,e3,e4,e9,h1,fun ho i' j' hj hl=>h2 ho i' j' hj (by omega)⟩
def Zkj (n:Nat) (rp cp:List Int) (M:Nat→Nat→RF) (w:World) (o:Ending) (w':World):Prop:=
 ∃(r c:Int) (ok:Bool),o= .returned (.tuple #[.int .i64 r,.int .i64 c,.bool ok])∧(ok=true→∃r' c':Nat,r=r'∧c=c'∧r' < n∧c' < n∧Zki rp cp M r' c'=true)∧
  (ok=false→∀i' j',i' < n→j' < n→Zki rp cp M i' j'=false)∧Below w.heap.size w w'
theorem Zkk [Old] (base ge n:Nat) (va vr vc:Value) (M:Nat→Nat→RF) (G D:Nat→Nat) (rp cp:List Int) (w:World) (h:ElM base w ge n va vr vc M G D rp cp) (hn:n≤7) (hOl:Zb w:=by (repeat (first | assumption | exact Zb.up (by assumption) hOl | exact Zb.up (Hid.out (by assumption)) hOl | with_reducible refine Zb.set ?_ _ _ | with_reducible refine Zb.mk_ ?_ _ | with_reducible refine Zb.dr ?_ | with_reducible refine Zb.drN ?_ | refine Zb.up (by assumption) ?_ | refine Zb.up (Hid.out (by assumption)) ?_))) (hO:Old.n≤base:=by first | assumption | exact Nat.zero_le _ | omega | ((first | with_reducible refine Zb.le ?_ | with_reducible refine Zb.le1 ?_ | with_reducible refine Zb.le2 ?_ | with_reducible refine Zb.le3 ?_);repeat (first | assumption | exact Zb.up (by assumption) hOl | exact Zb.up (Hid.out (by assumption)) hOl | with_reducible refine Zb.set ?_ _ _ | with_reducible refine Zb.mk_ ?_ _ | with_reducible refine Zb.dr ?_ | with_reducible refine Zb.drN ?_ | refine Zb.up (by assumption) ?_ | refine Zb.up (Hid.out (by assumption)) ?_))):
 Calls Tryz.prog 67 #[.pointer (some ⟨ge,0,none⟩)] w (Zkj n rp cp M w):=by
 have ar:=hOl.le;have HE:=JZ h;have HB:=JZ h.1;have ai:=Zez n (by omega);obtain ⟨b0,b1,b2,b3⟩:=h.1.four;clear h b1 b2 b3;go_enter Tryz.func67,Tryz.ntmps67
 go_upto_region 1 with (fail)
 go_cut [5,6] (fun s5 s6 wx=>Zwp w n s5 s6 wx)
 case first=>
  have C0:=Zr b0;have C:=Zj w;clear b0;refine Xg 12 (.go 0 (.go 1 (.go 2 (.go 3 (.go 5 (.go 6 (.go 7 (.go 8 (.fork 4 (.go 10 (.go 9 (.go 11 .done))) 9 (.go 4 (.go 10 (.go 11 .done)))))))))))) (by kernel_rfl) (by kernel_rfl) ?_;repeat ((first | (refine Yg (v:=?_) rfl rfl rfl ?_ ?_;rotate_left;(· (intro _ u;go_simp;(try go_bits);(try with_reducible rfl)))) | (refine YA (v:=?_) rfl rfl rfl ?_ ?_;rotate_left;(· (intro _ u;go_simp;(try go_bits);(try with_reducible rfl)))) | refine YB rfl rfl rfl ?_ | refine Yh rfl rfl rfl (by assumption) ?_);(try simp only [Act.put,pu1,pu2,pu3,pu4,pu5,pu6]))
  refine Zan rfl rfl (fun KR hKR=>?_) (fun KR hKR=>?_)
  ·have a:=ZJ.zeros w.drew n (by unfold maxLen;omega);have s:=Zd w.drew (.cells (zic n) 3);obtain ⟨W5,H⟩:∃W5,w.drew.alloc (.cells (zic n) 3)=W5:=⟨_,rfl⟩;have V:W5.heap.size=w.drew.heap.size+1:=(by rw [← H];simp);rw [H] at a s;have E:=Za C s C.size;have L:=C.size;go_simp;refine hKR.out _ _ (Or.inr E) ?_;clear hKR KR H;(try simp only [Act.put,pu1,pu2,pu3,pu4,pu5,pu6]);replace a:=a.monoB L;repeat ((first | (refine Yg (v:=?_) rfl rfl rfl ?_ ?_;rotate_left;(· (intro _ u;go_simp;(try go_bits);(try with_reducible rfl)))) | (refine YA (v:=?_) rfl rfl rfl ?_ ?_;rotate_left;(· (intro _ u;go_simp;(try go_bits);(try with_reducible rfl)))) | refine YB rfl rfl rfl ?_ | refine Yh rfl rfl rfl (by assumption) ?_);(try simp only [Act.put,pu1,pu2,pu3,pu4,pu5,pu6]))
   have f:=ZJ.zeros W5 n (by unfold maxLen;omega);have t:=Zd W5 (.cells (zic n) 3);obtain ⟨W6,I⟩:∃W6,W5.alloc (.cells (zic n) 3)=W6:=⟨_,rfl⟩;have X:W6.heap.size=W5.heap.size+1:=(by rw [← I];simp);rw [I] at f t;have F:=Za E t E.size;have N:=E.size;refine ZQ rfl rfl (fun KR hKR=>?_);go_simp;refine hKR.out _ _ (Or.inr F) ?_;clear hKR KR I;(try simp only [Act.put,pu1,pu2,pu3,pu4,pu5,pu6]);replace a:=a.below t;replace f:=f.monoB N;rw [V] at f;repeat ((first | (refine Yg (v:=?_) rfl rfl rfl ?_ ?_;rotate_left;(· (intro _ u;go_simp;(try go_bits);(try with_reducible rfl)))) | (refine YA (v:=?_) rfl rfl rfl ?_ ?_;rotate_left;(· (intro _ u;go_simp;(try go_bits);(try with_reducible rfl)))) | refine YB rfl rfl rfl ?_ | refine Yh rfl rfl rfl (by assumption) ?_);(try simp only [Act.put,pu1,pu2,pu3,pu4,pu5,pu6]))
   refine Y7 ?_;go_wp2_with fail
   go_meet
   exact ⟨_,_,rfl,rfl,by first | omega | (simp at *;omega),a,f,F⟩
  ·have f:=ZJ.zeros w.drew n (by unfold maxLen;omega);have t:=Zd w.drew (.cells (zic n) 3);obtain ⟨W6,I⟩:∃W6,w.drew.alloc (.cells (zic n) 3)=W6:=⟨_,rfl⟩;have X:W6.heap.size=w.drew.heap.size+1:=(by rw [← I];simp);rw [I] at f t;have F:=Za C t C.size;have N:=C.size;go_simp;refine hKR.out _ _ (Or.inr F) ?_;clear hKR KR I;(try simp only [Act.put,pu1,pu2,pu3,pu4,pu5,pu6]);replace f:=f.monoB N;have a:=ZJ.zeros W6 n (by unfold maxLen;omega);have s:=Zd W6 (.cells (zic n) 3);obtain ⟨W5,H⟩:∃W5,W6.alloc (.cells (zic n) 3)=W5:=⟨_,rfl⟩;have V:W5.heap.size=W6.heap.size+1:=(by rw [← H];simp);rw [H] at a s;have E:=Za F s F.size;have L:=F.size;refine ZQ rfl rfl (fun KR hKR=>?_);go_simp;refine hKR.out _ _ (Or.inr E) ?_;clear hKR KR H;(try simp only [Act.put,pu1,pu2,pu3,pu4,pu5,pu6]);replace f:=f.below s;replace a:=a.monoB L;rw [X] at a;repeat ((first | (refine Yg (v:=?_) rfl rfl rfl ?_ ?_;rotate_left;(· (intro _ u;go_simp;(try go_bits);(try with_reducible rfl)))) | (refine YA (v:=?_) rfl rfl rfl ?_ ?_;rotate_left;(· (intro _ u;go_simp;(try go_bits);(try with_reducible rfl)))) | refine YB rfl rfl rfl ?_ | refine Yh rfl rfl rfl (by assumption) ?_);(try simp only [Act.put,pu1,pu2,pu3,pu4,pu5,pu6]))
   refine Y7 ?_;go_wp2_with fail
   go_meet
   exact ⟨_,_,rfl,rfl,by first | omega | (simp at *;omega),a,f,E⟩
 case rest=>
  clear ai b0;obtain ⟨g5,g6,rfl,rfl,au,a,f,hb⟩:=hcut;have a5:UJ w n g5 g6 0 wc:=⟨_,_,by simp,by simp,fun z hz=>by have:=List.eq_of_mem_replicate hz;omega,fun z hz=>by have:=List.eq_of_mem_replicate hz;omega,a,f,hb⟩;obtain ⟨b0,_,_,_⟩:=(HB.out.later hb).four;clear a f hb;go_wp2;clear b0
  go_loopw [27] (fun x wr=>∃i:Nat,i≤n∧x= .int .i64 i∧UJ w n g5 g6 (8 * i) wr) (fun x _=>n - (intOf x).toNat)
  case atStart=>exact ⟨0,by omega,rfl,a5⟩
  case round=>
   clear a5;obtain ⟨i,hi,rfl,hc⟩:=hrel;rcases JX i n with hil | hil
   ·have aj:(i:Int) < n:=(by omega);have d:Below w.heap.size w wr:=(by obtain ⟨_,_,_,_,_,_,_,_,h⟩:=hc;exact h);obtain ⟨b0,_,_,_⟩:=(HB.out.later d).four;clear d;go_wp2;clear b0
    go_loopw [34] (fun x wr=>∃j:Nat,j≤n∧x= .int .i64 j∧UJ w n g5 g6 (8 * i+j) wr) (fun x _=>n - (intOf x).toNat)
    case atStart=>exact ⟨0,by omega,rfl,by simpa using hc⟩
    case round=>
     clear hc;obtain ⟨j,hj,rfl,hc⟩:=hrel;rcases JX j n with hjl | hjl
     ·have ak:(j:Int) < n:=(by omega);have d:Below w.heap.size w wr:=(by obtain ⟨_,_,_,_,_,_,_,_,h⟩:=hc;exact h);have O:=HE.out.below d;have al:=Zb.up d hOl;clear d;go_wp2_with fail;refine (Zcd base ge n va vr vc M G D rp cp i j _ O hil hjl).mono ?_;rintro _ w1 ⟨rfl,T⟩;have o:=hc.below T;clear hc T O
      cases hact:Zki rp cp M i j
      ·clear hact;go_wp2;go_roundw
       case rel=>exact ⟨j+1,by omega,by go_num,o.mono (by omega)⟩
       case measure=>simp [intOf];omega
      ·clear hact;obtain ⟨zs,ys,ag,ah,J,K,a,f,d⟩:=o;obtain ⟨z,hz⟩:=Xu (l:=zs) (i:=i) (by omega);obtain ⟨y,hy⟩:=Xu (l:=ys) (i:=j) (by omega);obtain ⟨x0,f0,_,_⟩:=a.at_ hz;have P:=J z (List.mem_of_getElem? hz);have R:=K y (List.mem_of_getElem? hy);obtain ⟨Z,_⟩:=a.set_ (k:=i) (z:=z+1) (by omega) (by omega) (by omega);have S:=f.others (ZN.of_set (g:=g5) (i:=i) (v:= .int .i64 (z+1)) (w:=w1)) (fun b hb e=>by simp [Value.ownBlock] at hb;injection e with e;omega);have am:=a.base;have an:=f.base;have Y:=d.setCell (p:=⟨g5,i,none⟩) am (.int .i64 (z+1));clear a f d;have a6:=P.1;have a7:=P.2;have a8:=R.1;have a9:=R.2;have aa:∀x∈zs.set i (z+1),0≤x∧x≤8 * (i:Int)+((j+1:Nat):Int):=fun x hx=>by
        rcases List.mem_or_eq_of_mem_set hx with hx | rfl
        ·have:=J x hx;omega
        ·omega
       have ab:∀x∈ys.set j (y+1),0≤x∧x≤8 * (i:Int)+((j+1:Nat):Int):=fun x hx=>by
        rcases List.mem_or_eq_of_mem_set hx with hx | rfl
        ·have:=K x hx;omega
        ·omega
       have ao:=JZ aa;have ap:=JZ ab;clear J K aa ab P R
       go_upto_region 10 with (fail)
       clear x0 f0;generalize w1.setCell ⟨g5,i,none⟩ (.int .i64 (z+1))=W9 at *;obtain ⟨x0,f0,_,_⟩:=S.at_ hy;obtain ⟨a4,_⟩:=S.set_ (k:=j) (z:=y+1) (by omega) (by omega) (by omega);have a0:=Z.others (ZN.of_set (g:=g6) (i:=j) (v:= .int .i64 (y+1)) (w:=W9)) (fun b hb e=>by simp [Value.ownBlock] at hb;injection e with e;omega);have a1:=Y.setCell (p:=⟨g6,j,none⟩) an (.int .i64 (y+1));clear Z S Y;go_wp2;go_roundw
       case rel=>exact ⟨j+1,by omega,by go_num,_,_,by rw [List.length_set];exact ag,by rw [List.length_set];exact ah,ao.out,ap.out,a0,a4,a1⟩
       case measure=>simp [intOf];omega
     ·obtain rfl:n=j:=by omega
      have o:UJ w n g5 g6 (8 * ((i+1:Nat):Int)) wr:=hc.mono (by omega);clear hc;go_wp2;go_roundw
      case rel=>exact ⟨i+1,by omega,by go_num,o⟩
      case measure=>simp [intOf];omega
   ·obtain rfl:n=i:=by omega
    have o:UJ w n g5 g6 100 wr:=hc.mono (by omega);have d:Below w.heap.size w wr:=(by obtain ⟨_,_,_,_,_,_,_,_,h⟩:=hc;exact h);obtain ⟨b0,_,_,_⟩:=(HB.out.later d).four;clear d hc;have q:YV n rp cp M 0 0 (.int .i64 0) (.int .i64 0) (.bool false) (.int .i64 0):=⟨0,0,0,false,rfl,rfl,rfl,rfl,(fun h=>by cases h),fun _ i' j' _ h=>by omega⟩;go_wp2;clear b0
    go_loopw [2,3,4,9,59] (fun s2 s3 s4 s9 x wr=>∃i:Nat,i≤n∧x= .int .i64 i∧YV n rp cp M i 0 s2 s3 s4 s9∧UJ w n g5 g6 100 wr) (fun _ _ _ _ x _=>n - (intOf x).toNat)
    case atStart=>exact ⟨0,by omega,rfl,q,o⟩
    case round=>
     clear o q;obtain ⟨i,hi,rfl,q,hc⟩:=hrel;rcases JX i n with hil | hil
     ·have aj:(i:Int) < n:=(by omega);have d:Below w.heap.size w wr:=(by obtain ⟨_,_,_,_,_,_,_,_,h⟩:=hc;exact h);obtain ⟨b0,_,_,_⟩:=(HB.out.later d).four;clear d;go_wp2;clear b0
      go_loopw [2,3,4,9,66] (fun s2 s3 s4 s9 x wr=>∃j:Nat,j≤n∧x= .int .i64 j∧YV n rp cp M i j s2 s3 s4 s9∧UJ w n g5 g6 100 wr) (fun _ _ _ _ x _=>n - (intOf x).toNat)
      case atStart=>exact ⟨0,by omega,rfl,q,hc⟩
      case round=>
       clear hc q;obtain ⟨j,hj,rfl,q,hc⟩:=hrel;rcases JX j n with hjl | hjl
       ·have ak:(j:Int) < n:=(by omega);have d:Below w.heap.size w wr:=(by obtain ⟨_,_,_,_,_,_,_,_,h⟩:=hc;exact h);have O:=HE.out.below d;have al:=Zb.up d hOl;have ac:=JZ q;obtain ⟨r,c,b,ok,rfl,rfl,rfl,rfl,A,B⟩:=q;have ad:=JZ A;have ae:=JZ B;clear d A B;go_wp2_with fail;refine (Zcd base ge n va vr vc M G D rp cp i j _ O hil hjl).mono ?_;rintro _ w1 ⟨rfl,T⟩;have o:=hc.below T;clear hc T O
        cases hact:Zki rp cp M i j
        ·have U:YV n rp cp M i (j+1) (.int .i64 r) (.int .i64 c) (.bool ok) (.int .i64 b):=YV.skip ac.out hact;have a2:=JZ U;clear hact U;go_wp2;go_roundw
         case rel=>exact ⟨j+1,by omega,by go_num,a2.out,o⟩
         case measure=>simp [intOf];omega
        ·have aq:=JZ (YV.skipT ac.out);have af:Hid (∀m,YV n rp cp M i (j+1) (.int .i64 i) (.int .i64 j) (.bool true) (.int .i64 m)):=JZ fun m=>YV.take hil hjl hact
         clear hact;have a3:=JZ o;obtain ⟨zs,ys,ag,ah,J,K,a,f,d⟩:=o;obtain ⟨z,hz⟩:=Xu (l:=zs) (i:=i) (by omega);obtain ⟨y,hy⟩:=Xu (l:=ys) (i:=j) (by omega);obtain ⟨x0,_,_,_⟩:=a.at_ hz;obtain ⟨y0,_,_,_⟩:=f.at_ hy;have P:=J z (List.mem_of_getElem? hz);have R:=K y (List.mem_of_getElem? hy);obtain ⟨a6,a7⟩:=P;obtain ⟨a8,a9⟩:=R;obtain ⟨av,aw⟩:=Zvo (x:=z - 1) (y:=y - 1) (by omega) (by omega) (by omega) (by omega);clear a f d J K hz hy
         go_upto_region 21 with (fail)
         have C0:=Zr x0;have C1:=Zr y0;have C:=Zj w1;clear x0 y0;refine Zt 12 [0,1,2,3,4,5,6,7,8,9,10,11] (by kernel_rfl) (by kernel_rfl) ?_;repeat ((first | (refine Zc (v:=?_) rfl rfl rfl ?_ ?_;rotate_left;(· (intro _ u;go_simp;(try go_bits);(try with_reducible rfl)))) | (refine Ze (v:=?_) rfl rfl rfl ?_ ?_;rotate_left;(· (intro _ u;go_simp;(try go_bits);(try with_reducible rfl)))) | refine Zf rfl rfl rfl ?_);(try simp only [Act.put,pu1,pu2,pu3,pu4,pu5,pu6]))
         refine Zv ?_;clear C0 C1;generalize (z - 1) * (y - 1)=mm at *
         cases ok
         ·go_wp2;go_roundw
          case rel=>exact ⟨j+1,by omega,by go_num,af.out _,a3.out.below (Zj _)⟩
          case measure=>simp [intOf];omega
         ·by_cases ax:mm < b
          ·go_wp2;go_roundw
           case rel=>exact ⟨j+1,by omega,by go_num,af.out _,a3.out.below (Zj _)⟩
           case measure=>simp [intOf];omega
          ·go_wp2;go_roundw
           case rel=>exact ⟨j+1,by omega,by go_num,aq.out rfl,a3.out.below (Zj _)⟩
           case measure=>simp [intOf];omega
       ·obtain rfl:n=j:=by omega
        have U:=YV.row q;clear q;obtain ⟨r,c,b,ok,rfl,rfl,rfl,rfl,A,B⟩:=U;have a2:Hid (YV n rp cp M (i+1) 0 (.int .i64 r) (.int .i64 c) (.bool ok) (.int .i64 b)):=JZ ⟨r,c,b,ok,rfl,rfl,rfl,rfl,A,B⟩;clear A B;go_wp2;go_roundw
        case rel=>exact ⟨i+1,by omega,by go_num,a2.out,hc⟩
        case measure=>simp [intOf];omega
     ·obtain rfl:n=i:=by omega
      obtain ⟨r,c,b,ok,rfl,rfl,rfl,rfl,A,B⟩:=q;have ad:=JZ A;have ae:=JZ B;have d:Below w.heap.size w wr:=(by obtain ⟨_,_,_,_,_,_,_,_,h⟩:=hc;exact h);clear A B hc;go_wp2;(try simp only [Exit.inBlock,Exit.then]);refine bodyPost_ret (results_tmp3 rfl _ _ _) rfl ?_;exact ⟨r,c,ok,rfl,ad.out,fun h i' j' h1 h2=>ae.out h i' j' h2 (.inl h1),d⟩
theorem UZ (T:TypeId) (w:World) (n:Nat) (hn:n≤maxLen):(w.alloc (.cells (zvc n) T)).ownsRow w.heap.size T 1 (.slice (some ⟨w.heap.size,0,none⟩) n n) n (List.replicate n (.slice none 0 0)):=by
 have a:(zvc n).size=n * 1:=size_madeCells _ _;refine ⟨by simp,.inr ⟨w.heap.size,n,zvc n,by simp,JY _,heap_alloc_new w _,by simp,hn,by simpa using a,?_⟩⟩;refine List.ext_getElem? fun i=>?_
 rcases JX i n with e | e
 ·have:=Zsd e;simp [List.getElem?_take,e,this]
 ·rw [JU (by simp [a];omega),JU (by simp;omega)]
theorem Zfh (n:Nat) (hn:n≤1099511627776) (w:World):
 (Instr.makeSlice 89 (.int .i64 (n:Int)) (.int .i64 (n:Int))).run Tryz.prog w= .ok (.slice (some ⟨w.heap.size,0,none⟩) n n) (w.alloc (.cells (zvc n) 77)):=by
 obtain ⟨i0,hi,a,b,c⟩:=info_parts info_rowT;have hb:(i0.bytes:Int) * (n:Int)≤281474976710656:=by rw [c];omega
 have hr:=run_make (P:=Tryz.prog) w 89 77 i0 _ Tryz.underlying89 hi a .i64 .i64 n n (by omega) (by omega) hb (by omega);simp only [JP,b] at hr;exact hr
def MkR (U:World) (n:Nat) (D:Nat→Prop) (s29 s31 s33 s34 s5:Value) (w:World):Prop:=
 Below U.heap.size U w∧(D 2→∃g,s29= .slice (some ⟨g,0,none⟩) n n∧w.ownsRow U.heap.size 77 1 (.slice (some ⟨g,0,none⟩) n n) n (List.replicate n (.slice none 0 0)))∧
  (D 4→∃g,s31= .slice (some ⟨g,0,none⟩) n n∧g < w.heap.size∧ZJ U.heap.size w (.slice (some ⟨g,0,none⟩) n n) (List.replicate n 0))∧
  (D 6→∃g,s33= .slice (some ⟨g,0,none⟩) n n∧g < w.heap.size∧ZJ U.heap.size w (.slice (some ⟨g,0,none⟩) n n) (List.replicate n 0))∧
  (D 7→(D 2∧D 4∧D 6)∧s34= .agg #[.int .i64 (n:Int),s29,s31,s33])∧(D 8→∃g,s5= .pointer (some ⟨g,0,none⟩)∧U.heap.size≤g∧Bk w g 98 [.int .i64 0,.slice none 0 0,.slice none 0 0,.slice none 0 0])∧(D 4→D 6→s31≠s33)
theorem MkR.later {U w w':World} {n:Nat} {D:Nat→Prop} {s1 s2 s3 s4 s5:Value} (h:MkR U n D s1 s2 s3 s4 s5 w) (hb:Below w.heap.size w w'):MkR U n D s1 s2 s3 s4 s5 w':=by
 obtain ⟨h0,h1,h2,h3,h4,h5,h6⟩:=h;have hs:=hb.size;refine ⟨Za h0 hb h0.size,fun d=>?_,fun d=>?_,fun d=>?_,h4,fun d=>?_,h6⟩
 ·obtain ⟨g,e,k⟩:=h1 d;exact ⟨g,e,own_below k hb⟩
 ·obtain ⟨g,e,k,l⟩:=h2 d;exact ⟨g,e,by omega,l.below hb⟩
 ·obtain ⟨g,e,k,l⟩:=h3 d;exact ⟨g,e,by omega,l.below hb⟩
 ·obtain ⟨g,e,k,l⟩:=h5 d;exact ⟨g,e,k,l.later hb⟩
theorem MkR.set2 {U w:World} {n:Nat} {D:Nat→Prop} {s1 s2 s3 s4 s5:Value} (h:MkR U n D s1 s2 s3 s4 s5 w) (hn:n≤maxLen) (hd:¬D 2):MkR U n (fun k=>D k∨k=2) (.slice (some ⟨w.heap.size,0,none⟩) n n) s2 s3 s4 s5 (w.alloc (.cells (zvc n) 77)):=by
 have hz:=UZ 77 w n hn;obtain ⟨h0,h1,h2,h3,h4,h5,h6⟩:=h.later (Zd w (.cells (zvc n) 77));exact ⟨h0,fun _=>⟨_,rfl,WX hz h.1.size⟩,fun d=>h2 (d.resolve_right (by decide)),fun d=>h3 (d.resolve_right (by decide)),fun d=>absurd (d.resolve_right (by decide)) (fun h7=>hd (h4 h7).1.1),fun d=>h5 (d.resolve_right (by decide)),fun d e=>h6 (d.resolve_right (by decide)) (e.resolve_right (by decide))⟩
theorem MkR.set4 {U w:World} {n:Nat} {D:Nat→Prop} {s1 s2 s3 s4 s5:Value} (h:MkR U n D s1 s2 s3 s4 s5 w) (hn:n≤maxLen) (hd:¬D 4):MkR U n (fun k=>D k∨k=4) s1 (.slice (some ⟨w.heap.size,0,none⟩) n n) s3 s4 s5 (w.alloc (.cells (zic n) 3)):=by
 have hz:=ZJ.zeros w n hn;obtain ⟨h0,h1,h2,h3,h4,h5,h6⟩:=h.later (Zd w (.cells (zic n) 3));exact ⟨h0,fun d=>h1 (d.resolve_right (by decide)),fun _=>⟨_,rfl,by simp,hz.monoB h.1.size⟩,fun d=>h3 (d.resolve_right (by decide)),fun d=>absurd (d.resolve_right (by decide)) fun h7=>hd (h4 h7).1.2.1,fun d=>h5 (d.resolve_right (by decide)),fun _ e he=>by
  obtain ⟨g,e1,e2,_⟩:=h.2.2.2.1 (e.resolve_right (by decide));rw [e1] at he;injection he with he;injection he with he;injection he with he;omega⟩
theorem MkR.set6 {U w:World} {n:Nat} {D:Nat→Prop} {s1 s2 s3 s4 s5:Value} (h:MkR U n D s1 s2 s3 s4 s5 w) (hn:n≤maxLen) (hd:¬D 6):MkR U n (fun k=>D k∨k=6) s1 s2 (.slice (some ⟨w.heap.size,0,none⟩) n n) s4 s5 (w.alloc (.cells (zic n) 3)):=by
 have hz:=ZJ.zeros w n hn;obtain ⟨h0,h1,h2,h3,h4,h5,h6⟩:=h.later (Zd w (.cells (zic n) 3));exact ⟨h0,fun d=>h1 (d.resolve_right (by decide)),fun d=>h2 (d.resolve_right (by decide)),fun _=>⟨_,rfl,by simp,hz.monoB h.1.size⟩,fun d=>absurd (d.resolve_right (by decide)) fun h7=>hd (h4 h7).1.2.2,fun d=>h5 (d.resolve_right (by decide)),fun e _ he=>by
  obtain ⟨g,e1,e2,_⟩:=h.2.2.1 (e.resolve_right (by decide));rw [e1] at he;injection he with he;injection he with he;injection he with he;omega⟩
theorem MkR.set8 {U w:World} {n:Nat} {D:Nat→Prop} {s1 s2 s3 s4 s5:Value} (h:MkR U n D s1 s2 s3 s4 s5 w):MkR U n (fun k=>D k∨k=8) s1 s2 s3 s4 (.pointer (some ⟨w.heap.size,0,none⟩)) (w.alloc (.cells #[.int .i64 0,.slice none 0 0,.slice none 0 0,.slice none 0 0] 98)):=by
 have hz:=Bk.new w 98 [.int .i64 0,.slice none 0 0,.slice none 0 0,.slice none 0 0];obtain ⟨h0,h1,h2,h3,h4,h5,h6⟩:=h.later (Zd w (.cells #[.int .i64 0,.slice none 0 0,.slice none 0 0,.slice none 0 0] 98));exact ⟨h0,fun d=>h1 (d.resolve_right (by decide)),fun d=>h2 (d.resolve_right (by decide)),fun d=>h3 (d.resolve_right (by decide)),fun d=>by
  obtain ⟨⟨a,b,c⟩,e⟩:=h4 (d.resolve_right (by decide));exact ⟨⟨.inl a,.inl b,.inl c⟩,e⟩,fun _=>⟨_,rfl,h.1.size,hz⟩,fun d e=>h6 (d.resolve_right (by decide)) (e.resolve_right (by decide))⟩
theorem MkR.set7 {U w:World} {n:Nat} {D:Nat→Prop} {s1 s2 s3 s4 s5:Value} (h:MkR U n D s1 s2 s3 s4 s5 w) (d2:D 2) (d4:D 4) (d6:D 6):MkR U n (fun k=>D k∨k=7) s1 s2 s3 (.agg #[.int .i64 (n:Int),s1,s2,s3]) s5 w:=by
 obtain ⟨h0,h1,h2,h3,h4,h5,h6⟩:=h;exact ⟨h0,fun d=>h1 (d.resolve_right (by decide)),fun d=>h2 (d.resolve_right (by decide)),fun d=>h3 (d.resolve_right (by decide)),fun _=>⟨⟨.inl d2,.inl d4,.inl d6⟩,rfl⟩,fun d=>h5 (d.resolve_right (by decide)),fun d e=>h6 (d.resolve_right (by decide)) (e.resolve_right (by decide))⟩
theorem Bk.but4 [Old] {w:World} {g:Nat} {t:TypeId} {a b c d:Value} (h:Bk w g t [a,b,c,d]) (x y z u:Value) (hg:Old.n≤g:=by first | assumption | exact Nat.zero_le _ | omega | ((first | with_reducible refine Zb.le ?_ | with_reducible refine Zb.le1 ?_ | with_reducible refine Zb.le2 ?_ | with_reducible refine Zb.le3 ?_);repeat (first | assumption | exact Zb.up (by assumption) hOl | exact Zb.up (Hid.out (by assumption)) hOl | with_reducible refine Zb.set ?_ _ _ | with_reducible refine Zb.mk_ ?_ _ | with_reducible refine Zb.dr ?_ | with_reducible refine Zb.drN ?_ | refine Zb.up (by assumption) ?_ | refine Zb.up (Hid.out (by assumption)) ?_))):Zk t w ((((w.setCell ⟨g,0,none⟩ x).setCell ⟨g,1,none⟩ y).setCell ⟨g,2,none⟩ z).setCell ⟨g,3,none⟩ u):=
 (((Zk.setCell (hg:=hg) h 0 x).trans (Zk.setCell (hg:=hg) (h.set_ 0 x) 1 y)).trans (Zk.setCell (hg:=hg) ((h.set_ 0 x).set_ 1 y) 2 z)).trans (Zk.setCell (hg:=hg) (((h.set_ 0 x).set_ 1 y).set_ 2 z) 3 u)
def Zvp (U:World) (n:Nat) (s5:Value) (wx:World):Prop:=
 ∃ge ga gr gc,s5= .pointer (some ⟨ge,0,none⟩)∧gr≠gc∧Bk wx ge 98 [.int .i64 (n:Int),.slice (some ⟨ga,0,none⟩) n n,.slice (some ⟨gr,0,none⟩) n n,.slice (some ⟨gc,0,none⟩) n n]∧
  wx.ownsRow U.heap.size 77 1 (.slice (some ⟨ga,0,none⟩) n n) n (List.replicate n (.slice none 0 0))∧ZJ U.heap.size wx (.slice (some ⟨gr,0,none⟩) n n) (List.replicate n 0)∧ZJ U.heap.size wx (.slice (some ⟨gc,0,none⟩) n n) (List.replicate n 0)∧Below U.heap.size U wx∧U.heap.size≤ge
namespace Pl
def Zft (n i:Nat) (G D:Nat→Nat):List Value:=(List.range n).map fun r=>if r < i then YP n G D r else .slice none 0 0
theorem Zfi {n:Nat} {G D:Nat→Nat}:Zft n 0 G D=List.replicate n (.slice none 0 0):=by
 refine List.ext_getElem? fun r=>?_
 rcases JX r n with e | e
 ·simp [Zft,e]
 ·rw [JU (by simp [Zft];exact e),JU (by simp;exact e)]
theorem Xi {n i:Nat} {G D:Nat→Nat}:(Zft n i G D).length=n:=by simp [Zft]
theorem Zio {n:Nat} {G D:Nat→Nat}:Zft n n G D=Zam n n G D:=by
 refine List.ext_getElem? fun r=>?_
 rcases JX r n with e | e
 ·rw [Y6 e];simp [Zft,e]
 ·rw [JU (by rw [Xi];exact e),JU (by rw [Yq];exact e)]
theorem Zip {n i:Nat} {G D:Nat→Nat} (h:i < n):(Zft n i G D)[i]? =some (.slice none 0 0):=by simp [Zft,h]
theorem Ziq {n i g d:Nat} {G D:Nat→Nat} (h:i < n):(Zft n i G D).set i (.slice (some ⟨g,0,none⟩) n d)=Zft n (i+1) (putN G i g) (putN D i d):=by
 refine List.ext_getElem? fun r=>?_
 rcases JX r n with e | e
 ·rw [List.getElem?_set];by_cases g:i=r
  ·subst g;rw [if_pos rfl,if_pos (by rw [Xi];exact e)];simp [Zft,e,YP,putN]
  ·rw [if_neg g];by_cases e2:r < i
   ·simp [Zft,e,e2,show r < i+1 by omega,YP,putN,show r≠i by omega]
   ·simp [Zft,e,e2,show ¬r < i+1 by omega]
 ·rw [JU (by rw [List.length_set,Xi];exact e),JU (by rw [Xi];exact e)]
def Zha (n i:Nat):List Int:=(List.range n).map fun s=>if s < i then -1 else 0
theorem YX {n i:Nat}:(Zha n i).length=n:=by simp [Zha]
theorem Zdh {n i:Nat} (h:i < n):(Zha n i)[i]? =some 0:=by simp [Zha,h]
theorem Zfj {n:Nat}:Zha n 0=List.replicate n 0:=by
 refine List.ext_getElem? fun r=>?_
 rcases JX r n with e | e
 ·simp [Zha,e]
 ·rw [JU (by rw [YX];exact e),JU (by simp;exact e)]
theorem Zqr {n i:Nat} (h:i < n):(Zha n i).set i (-1)=Zha n (i+1):=by
 refine List.ext_getElem? fun r=>?_
 rcases JX r n with e | e
 ·rw [List.getElem?_set];by_cases g:i=r
  ·subst g;rw [if_pos rfl,if_pos (by rw [YX];exact e)];simp [Zha,e]
  ·rw [if_neg g];by_cases e2:r < i
   ·simp [Zha,e,e2,show r < i+1 by omega]
   ·simp [Zha,e,e2,show ¬r < i+1 by omega]
 ·rw [JU (by rw [List.length_set,YX];exact e),JU (by rw [YX];exact e)]
theorem Zqs {n:Nat}:Zha n n=List.replicate n (-1):=by
 refine List.ext_getElem? fun r=>?_
 rcases JX r n with e | e
 ·simp [Zha,e]
 ·rw [JU (by rw [YX];exact e),JU (by simp;exact e)]
theorem Zbe {n:Nat}:List.replicate n zeroF=rfL n fun _=>zeroF:=by
 refine List.ext_getElem? fun i=>?_
 rcases JX i n with e | e
 ·rw [Yt e];simp [e]
 ·rw [JU (by simp;exact e),JU (by rw [Zq];exact e)]
end Pl
def Zua [Old] (U:World) (ge ga gr gc n i:Nat) (wr:World):Prop:=
 ∃G D:Nat→Nat,Bk wr ge 98 [.int .i64 (n:Int),.slice (some ⟨ga,0,none⟩) n n,.slice (some ⟨gr,0,none⟩) n n,.slice (some ⟨gc,0,none⟩) n n]∧wr.ownsRow U.heap.size 77 1 (.slice (some ⟨ga,0,none⟩) n n) n (Zft n i G D)∧
  (∀r,r < i→YL U.heap.size wr (YP n G D r) (rfL n fun _=>zeroF))∧(∀r s,r < i→s < i→G r=G s→r=s)∧ZJ U.heap.size wr (.slice (some ⟨gr,0,none⟩) n n) (Zha n i)∧ZJ U.heap.size wr (.slice (some ⟨gc,0,none⟩) n n) (Zha n i)∧Below U.heap.size U wr
end Go.Proofs.YtidgdpkcloaheaaGreat
