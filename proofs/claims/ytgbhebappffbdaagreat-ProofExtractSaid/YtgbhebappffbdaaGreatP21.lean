/- Lemmas of the claim; no condition. -/
import Derived.Test.YtgbhebappffbdaaGreatP20
import Derived.Test.YtgbhebappffbdaaGreatP22
set_option linter.all false
set_option maxRecDepth 100000
set_option maxHeartbeats 40000000
namespace Go.Proofs.YtgbhebappffbdaaGreat
open Go.RowKit
open Pl
attribute [local go_sem ↓] Go.wp_at_zero Go.wp_at_succ
theorem Ym.at_ {base:Nat} {w:World} {g n c:Nat} {cols:List (List En)} (h:Ym base w (.slice (some ⟨g,0,none⟩) n c) cols) {k:Nat} {es:List En} (he:cols[k]? =some es):
 ∃u,w.cell? ⟨g,k,none⟩=some u∧w.frozen? ⟨g,k,none⟩=false∧Vf w u es:=by
 obtain ⟨cs,h1,h2⟩:=h;have hn:n=cols.length:=(V7.of_own h1).len;subst hn;obtain ⟨u,c0,hm⟩:=h2 k es he;exact ⟨u,(ZM h1 c0).1,(ZM h1 c0).2,hm⟩
theorem Ym.set_ {base:Nat} {w:World} {g n c:Nat} {cols:List (List En)} (h:Ym base w (.slice (some ⟨g,0,none⟩) n c) cols) {k:Nat} (hk:k < cols.length) {u:Value} {es:List En} (hu:Vf w u es):
 Ym base (w.setCell ⟨g,k,none⟩ u) (.slice (some ⟨g,0,none⟩) n c) (cols.set k es)∧Ze 66 w (w.setCell ⟨g,k,none⟩ u):=by
 obtain ⟨cs,h1,h2⟩:=h;have hn:n=cols.length:=(V7.of_own h1).len;subst hn;have hl:cs.length=cols.length * 1:=h1.1;have o1:=XD h1 k u (by omega);obtain ⟨_,b0,_⟩:=Yl h1;have kp:=Ze.setCell b0 k u;refine ⟨⟨cs.set k u,by rw [List.length_set];exact o1,fun j d hd=>?_⟩,kp⟩;rw [List.getElem?_set] at hd;by_cases c:k=j
 ·subst c;rw [if_pos rfl,if_pos hk] at hd;injection hd with hd;subst hd;exact ⟨u,List.getElem?_set_self (by omega),hu.but kp (by decide) (by decide)⟩
 ·rw [if_neg c] at hd;obtain ⟨u',hc,hm⟩:=h2 j d hd;exact ⟨u',by rw [List.getElem?_set_ne c];exact hc,hm.but kp (by decide) (by decide)⟩
def zvc (n:Nat):Array Value:=madeCells (Value.cells (.slice none 0 0)) (n * 1)
theorem Yab {n k:Nat} (hk:k < n):(zvc n)[k]? =some (.slice none 0 0):=by
 have a:k < n * 1:=by omega
 unfold zvc madeCells;simp [hk,Value.cells,Nat.mod_one]
theorem Ym.zeros (w:World) (n:Nat) (hn:n≤maxLen):Ym w.heap.size (w.alloc (.cells (zvc n) 66)) (.slice (some ⟨w.heap.size,0,none⟩) n n) (List.replicate n []):=by
 have a:(zvc n).size=n * 1:=size_madeCells _ _;refine ⟨(zvc n).toList,⟨by simp [a],.inr ⟨w.heap.size,n,zvc n,by simp,JY _,heap_alloc_new w _,by simp,hn,a,?_⟩⟩,fun k f hf=>?_⟩
 ·rw [List.take_of_length_le (by simp [a])]
 ·rw [List.getElem?_replicate] at hf;split at hf
  ·rename_i hk
   injection hf with hf;subst hf;exact ⟨_,by have:=Yab hk;simpa using this,(Ut.nil 0 _).vec⟩
  ·cases hf
theorem Zdx (n:Nat) (hn:n≤1099511627776) (w:World):
 (Instr.makeSlice 24 (.int .i64 (n:Int)) (.int .i64 (n:Int))).run Tryz.prog w= .ok (.slice (some ⟨w.heap.size,0,none⟩) n n) (w.alloc (.cells (zvc n) 66)):=by
 obtain ⟨i0,hi,a,b,c⟩:=info_parts info_vector;have hb:(i0.bytes:Int) * (n:Int)≤281474976710656:=by rw [c];omega
 have hr:=run_make (P:=Tryz.prog) w 24 66 i0 _ Tryz.underlying24 hi a .i64 .i64 n n (by omega) (by omega) hb (by omega);simp only [JP,b] at hr;exact hr
namespace Pl
def Zke (n:Nat) (R:Nat→Nat):List Int:=(List.range n).map fun i=>(R i:Int)
theorem Zdy (n:Nat) (R:Nat→Nat):(Zke n R).length=n:=by simp [Zke]
theorem Zch {n i:Nat} {R:Nat→Nat} (h:i < n):(Zke n R)[i]? =some (R i:Int):=by simp [Zke,h]
def vcL (n:Nat) (L:Mx):List (List En):=(List.range n).map fun t=>spV (L t) n
theorem Zbg (n:Nat) (L:Mx):(vcL n L).length=n:=by simp [vcL]
theorem Zdz {n i:Nat} {L:Mx} (h:i < n):(vcL n L)[i]? =some (spV (L i) n):=by simp [vcL,h]
theorem Zkf {f:Nat→Rat} {m:Nat}:∀{d:Nat},(∀s,m≤s→s < m+d→f s=0)→spV f (m+d)=spV f m
 | 0,_=>rfl
 | d+1,h=>by rw [← Nat.add_assoc,Xf (h _ (by omega) (by omega))];exact Zkf fun s h1 h2=>h s h1 (by omega)
theorem Zoo {f:Nat→Rat} {n k:Nat} (hk:k < n) (h:f k≠0) (h0:∀s,k < s→s < n→f s=0):(spV f n)[(spV f n).length - 1]? =some ⟨(k:Int),canF (f k)⟩:=by
 have e:spV f n=spV f k++[⟨(k:Int),canF (f k)⟩]:=by
  rw [← Xu h];have:=Zkf (f:=f) (m:=k+1) (d:=n - (k+1)) fun s h1 h2=>h0 s (by omega) (by omega)
  rwa [show k+1+(n - (k+1))=n by omega] at this
 rw [e];simp
end Pl
theorem XE.cap {w:World} {A:Option Addr} {n c:Nat} {zs:List Int} (h:XE w (.slice A n c) zs):n≤c∧c≤9223372036854775807:=by
 obtain ⟨_,_,e,h1,h2⟩:=h.shape;injection e with _ e1 e2;omega
theorem XO.cap {w:World} {A:Option Addr} {n c:Nat} {cols:List (List En)} (h:XO w (.slice A n c) cols):n≤c∧c≤9223372036854775807:=by
 obtain ⟨_,_,e,h1,h2⟩:=h.shape;injection e with _ e1 e2;omega
def Ydp (w:World) (g off n:Nat) (R C:Nat→Nat) (L U:Mx):Prop:=
 ∃A0 c0 A1 c1 A2 c2 A3 c3,(w.cell? ⟨g,off,none⟩=some (.slice A0 n c0)∧w.cell? ⟨g,off+1,none⟩=some (.slice A1 n c1)∧w.cell? ⟨g,off+2,none⟩=some (.slice A2 n c2)∧w.cell? ⟨g,off+3,none⟩=some (.slice A3 n c3))∧
  XE w (.slice A0 n c0) (Zke n R)∧XE w (.slice A1 n c1) (Zke n C)∧XO w (.slice A2 n c2) (vcL n L)∧XO w (.slice A3 n c3) (vcL n U)
theorem Ydp.below {w w':World} {g off n:Nat} {R C:Nat→Nat} {L U:Mx} (h:Ydp w g off n R C L U) (hb:Below w.heap.size w w'):Ydp w' g off n R C L U:=by
 obtain ⟨A0,c0,A1,c1,A2,c2,A3,c3,⟨k0,k1,k2,k3⟩,i0,i1,i2,i3⟩:=h;exact ⟨A0,c0,A1,c1,A2,c2,A3,c3,⟨Zf hb k0,Zf hb k1,Zf hb k2,Zf hb k3⟩,i0.below hb,i1.below hb,i2.below hb,i3.below hb⟩
theorem XE.nat {w wr:World} {a:Option Addr} {n cap:Nat} {R:Nat→Nat} (h:XE w (.slice a n cap) (Zke n R)) (hb:Below w.heap.size w wr) {i:Nat} (hi:i < n):
 ∃b o,a=some ⟨b,o,none⟩∧wr.cell? ⟨b,o+i,none⟩=some (.int .i64 (R i:Int)):=by
 obtain ⟨b,o,z,e,hc,hz,_,_⟩:=h.at_ hi;rw [Zch hi] at hz;injection hz with hz;subst hz;exact ⟨b,o,e,Zf hb hc⟩
theorem XO.vc {w wr:World} {a:Option Addr} {n cap:Nat} {L:Mx} (h:XO w (.slice a n cap) (vcL n L)) (hb:Below w.heap.size w wr) {i:Nat} (hi:i < n):
 ∃b o A1 c1,a=some ⟨b,o,none⟩∧wr.cell? ⟨b,o+i,none⟩=some (.slice A1 (spV (L i) n).length c1)∧Vf wr (.slice A1 (spV (L i) n).length c1) (spV (L i) n):=by
 obtain ⟨b,o,A1,c1,e,_,hc,hv⟩:=h.elem hb (Zdz hi);exact ⟨b,o,A1,c1,e,hc,hv⟩
theorem Zbx.congr {base:Nat} {v:Value} {n:Nat} {g g':Nat→Rat} {w w':World} (h:Zbx base v n g w w') (e:∀i,i < n→g i=g' i):Zbx base v n g' w w':=by
 unfold Zbx at *;rw [← ZT e];exact h
namespace Pl
theorem Zkg {n k J:Nat} {f g:Nat→Rat} {G:Nat→Rat} (hg:∀i,i < n→Sz J (g i)) (hG:∀i,i < n→Sz J (G i)) (e:∀i,i < n→(if i < n∧i≠k then g i - f i * g k else g i)=G i):
 ∀t i,t≤(spV f n).length→i < n→Sz J (Uv (spV f n) (k:Int) (g k) g t i):=fun t i ht hi=>by
 rcases Zom f k (g k) g i n t ht with h | ⟨h1,h2,h3⟩
 ·rw [h];exact hg i hi
 ·have:=e i hi
  rw [if_pos ⟨h1,h2⟩] at this
  rw [h3,this];exact hG i hi
theorem Zuo {n k:Nat} {f g:Nat→Rat} {G:Nat→Rat} (e:∀i,i < n→(if i < n∧i≠k then g i - f i * g k else g i)=G i):
 ∀i,i < n→Uv (spV f n) (k:Int) (g k) g (spV f n).length i=G i:=fun i hi=>by
 rw [Zhm];exact e i hi
end Pl
theorem Zkh (gp off:Nat) (vc:Value) (n E J:Nat) (A:Mx) (R C:Nat→Nat) (L U:Mx) (b:Nat→Rat) (w:World) (hF:Ydp w gp off n R C L U) (h2:Xh w vc (Yj n b)) (S:Zml n E A R C L U) (hb:∀i,i < n→Sz J (b i)) (hJ:J≤30 * E) (hX:∀i,i < n→Sz E (solQ n R C L U b i)):
 Calls Tryz.prog 157 #[.pointer (some ⟨gp,off,none⟩),vc] w fun o w'=>∃v',o= .returned v'∧Z4 w.heap.size w' v' (Yj n (solQ n R C L U b))∧Below w.heap.size w w':=by
 obtain ⟨A0,c0,A1,c1,A2,c2,A3,c3,⟨k0,k1,k2,k3⟩,i0,i1,i2,i3⟩:=hF;obtain ⟨Ac,cc,rfl,az,bu⟩:=h2.shape;rw [Zm] at h2 az ⊢;obtain ⟨bv,bw⟩:=i0.cap;obtain ⟨bx,ca⟩:=i1.cap;obtain ⟨cb,cd⟩:=i2.cap;obtain ⟨ce,cf⟩:=i3.cap;have K0:=JZ k0;have K1:=JZ k1;have K2:=JZ k2;have K3:=JZ k3;have I0:=JZ i0;have I1:=JZ i1;have I2:=JZ i2;have I3:=JZ i3;have H2:=JZ h2;have HS:=JZ S;have cg:=S.n7;have ch:=S.e1;have cj:=S.e2;obtain ⟨z0,G⟩:∃z0,z0=fun p=>b (R p):=⟨_,rfl⟩
 obtain ⟨FW,r⟩:∃FW,FW=Us L z0:=⟨_,rfl⟩;obtain ⟨BW,u⟩:∃BW,BW=UE n U (FW n):=⟨_,rfl⟩;have bf:Hid (FW 0=z0):=JZ (by rw [r];rfl);have bg:Hid (BW 0=FW n):=JZ (by rw [u];rfl);have ak:Hid (∀j,j < n→∀i,i < n→(if i < n∧i≠j then FW j i - L j i * FW j j else FW j i)=FW (j+1) i):=JZ fun j hj i hi=>by rw [r];exact Ycp S.fac.l0 hj hi
 have bh:Hid (∀j k,k+1+j=n→∀i,i < n→(if i < n∧i≠k then Zho (BW j) k (U k k) i - U k i * Zho (BW j) k (U k k) k else Zho (BW j) k (U k k) i)=BW (j+1) i):=JZ fun j k hk i hi=>by rw [u];exact Ycq S.fac.u0 hk hi
 have al:Hid (∀j i,j≤n→i < n→Sz (256 * E) (FW j i)):=JZ fun j i hj hi=>by rw [r,G];exact (S.fB hb hX j i hj hi).mono (by omega)
 have M:Hid (∀j i,j≤n→i < n→Sz (59 * E) (BW j i)):=JZ fun j i hj hi=>by rw [u,r,G];exact S.bB hX j i hj hi
 have bi:Hid (∀j k,k+1+j=n→BW (j+1) k=BW n k):=JZ fun j k hk=>by rw [u];exact (Zbe (show k < n by omega) (by omega) (by omega)).trans (Zbe (show k < n by omega) (by omega) (JY n)).symm
 have am:Hid (Yj n (solQ n R C L U b)=Vs n n C (BW n)):=JZ (by rw [Zka S.fac.ci,u,r,G];rfl);have bj:Hid (∀p,b (R p)=z0 p):=JZ fun p=>by rw [G]
 rw [am.out];have bk:Hid (∀t,t < n→∀(k:Nat) (e:En),(spV (L t) n)[k]? =some e→e.f.Rs (2 * E)):=JZ fun t ht=>Zaf fun i hi=>S.lB t i ht hi
 have bl:Hid (∀t,t < n→∀(k:Nat) (e:En),(spV (U t) n)[k]? =some e→e.f.Rs (2 * E)):=JZ fun t ht=>Zaf fun i hi=>S.uB t i ht hi
 have bm:Hid (∀k,k < n→Sz (2 * E) (U k k)∧U k k≠0∧(spV (U k) n)[(spV (U k) n).length - 1]? =some ⟨(k:Int),canF (U k k)⟩):=JZ fun k hk=>⟨S.uB k k hk hk,S.fac.u1 k hk,Zoo hk (S.fac.u1 k hk) fun s h1 h2=>S.fac.u0 k s hk h2 h1⟩
 have cl:=Y1 n (by omega);have a7:=Z4.zeros w n (by unfold maxLen;omega);have N:=Zb w (.cells (zfc n) 46);rw [← Uw (w:=z0)] at a7;have y0:=Zf N k0;have bn:=k0;clear i0 i1 i2 i3 h2 S G r u hb hX am k0 k1 k2 k3;go_enter Tryz.func157,Tryz.ntmps157;go_wp2;have O:=N.size;clear y0 bn;generalize w.alloc (.cells (zfc n) 46)=W at *
 go_loopw [24] (fun i wr=>∃k:Nat,k≤n∧i= .int .i64 k∧Z4 w.heap.size wr (.slice (some ⟨w.heap.size,0,none⟩) n n) (Yz n k z0)∧Below w.heap.size w wr) (fun i _=>n - (intOf i).toNat)
 case atStart=>exact ⟨0,by omega,rfl,a7,N⟩
 case round=>
  clear a7 N O;obtain ⟨k,hk,rfl,hO,a⟩:=hrel;rcases JX k n with c | c
  ·obtain ⟨b0,o0,rfl,x0⟩:=I0.out.nat a c;have bo:R k < n:=HS.out.fac.ri.1 k c;obtain ⟨bc,oc,A4,n4,c4,A5,n5,c5,rfl,_,⟨u0,u1,u2,u3⟩,hm⟩:=H2.out.elem a (ZK bo);rw [bj.out] at u0 u2 hm;have P:=JZ (Ux (w:=z0) c);have Y:(Yz n k z0)[k]? =some zeroF:=(by unfold Yz;rw [Yi c,if_neg (by omega)]);obtain ⟨_,_,_,_,⟨t0,t1,t2,t3⟩,⟨f0,f1,f2,f3⟩,_⟩:=hO.at_ Y;obtain ⟨b5,cq⟩:=hO.set_ (k:=k) (by rw [Xw];exact c) hm;rw [P.out] at b5;have an:=Zw a (JY _) (k * 4) (k * 4+1) (k * 4+2) (k * 4+3);have bp:(k:Int) < n:=(by omega);generalize R k=rk at *;have cm:(rk:Int) < n:=(by omega);clear hO a Y hm P;go_wp2;go_roundw
   case rel=>exact ⟨k+1,by omega,by go_num,b5,an _ _ _ _⟩
   case measure=>simp [intOf];omega
  ·obtain rfl:n=k:=by omega
   rw [Zbf,← bf.out] at hO;go_wp2
   go_loopw [38] (fun i wr=>∃j:Nat,j≤n∧i= .int .i64 j∧Z4 w.heap.size wr (.slice (some ⟨w.heap.size,0,none⟩) n n) (Yj n (FW j))∧Below w.heap.size w wr) (fun i _=>n - (intOf i).toNat)
   case atStart=>exact ⟨0,by omega,rfl,hO,a⟩
   case round=>
    clear hO a;obtain ⟨j,hj,rfl,hO,a⟩:=hrel;rcases JX j n with hjl | hjl
    ·obtain ⟨b2,o2,A4,c4,rfl,x0,hL⟩:=I2.out.vc a hjl;have y2:=Zf a K2.out;have a8:=JZ (Zkg (J:=256 * E) (fun i hi=>al.out j i (by omega) hi) (fun i hi=>al.out (j+1) i (by omega) hi) (ak.out j hjl));have a9:=JZ (Zuo (ak.out j hjl));have HR:=JZ (bk.out j hjl);have aa:=JZ (Zdl (L j) n);have cn:(j:Int) < n:=(by omega);go_wp2_with fail;refine (Zbt _ _ n (FW j) (spV (L j) n) j (2 * E) (256 * E) w.heap.size _ hO hL hjl aa.out HR.out a8.out (by omega) (by omega) (by omega)).mono ?_;rintro _ w1 ⟨rfl,hs⟩;obtain ⟨T,_,bs,a0⟩:=hs.congr a9.out;have ao:=a.trans a0;clear hO a hL x0 y2 hs a0 bs;go_wp2;go_roundw
     case rel=>exact ⟨j+1,by omega,by go_num,T,ao⟩
     case measure=>simp [intOf];omega
    ·obtain rfl:n=j:=by omega
     rw [← bg.out] at hO;have ab:=Z4.zeros wr n (by unfold maxLen;omega);have ac:=Zb wr (.cells (zfc n) 46);rw [← Zfz (X:=BW n) HS.out.fac.ci] at ab;have T:=hO.below ac;have bq:0 < n→w.heap.size < wr.heap.size:=fun hp=>by
      obtain ⟨g,_,e,_,h,_⟩:=hO.shape (by rw [Zm];exact hp);injection e with e;injection e with e;injection e with e;omega
     have Z:=Za a ac a.size;have br:=a.size;clear hO a;go_wp2;generalize wr.heap.size=gx at *;generalize wr.alloc (.cells (zfc n) 46)=W2 at *
     go_loopw [11] (fun i wx=>∃(j:Nat) (kz:Int),j≤n∧kz=(n:Int) - 1 - j∧i= .int .i64 kz∧Z4 w.heap.size wx (.slice (some ⟨w.heap.size,0,none⟩) n n) (Yj n (BW j))∧Z4 gx wx (.slice (some ⟨gx,0,none⟩) n n) (Vs n j C (BW n))∧Below w.heap.size w wx) (fun i _=>(intOf i+1).toNat)
     case atStart=>exact ⟨0,(n:Int) - 1,by omega,by omega,rfl,T,ab,Z⟩
     case round=>
      clear T ab Z ac;obtain ⟨j,kz,hj,b6,rfl,hO,hx,a⟩:=hrel;rcases Int.lt_or_le kz 0 with hneg | hpos
      ·obtain rfl:n=j:=by omega
       go_wp2;go_ret;exact ⟨_,rfl,hx.monoB br,a⟩
      ·obtain ⟨k,rfl⟩:=JT hpos;have x:k+1+j=n:=(by omega);have c:k < n:=(by omega);have co:=bq (by omega);obtain ⟨b3,o3,A4,c4,rfl,x0,H⟩:=I3.out.vc a c;have y3:=Zf a K3.out;obtain ⟨ah,a1,I⟩:=bm.out k c;have y:=JZ I;obtain ⟨D,hD⟩:∃D,D=Zho (BW j) k (U k k):=⟨_,rfl⟩;have ap:Hid ((Yj n (BW j)).set k (canF (BW j k / U k k))=Yj n D):=JZ (by rw [Vg c,hD];rfl);have V:=bh.out j k x;rw [← hD] at V;have aq:∀i,i < n→Sz (61 * E) (D i):=fun i hi=>by
        rw [hD];unfold Zho;split
        ·exact (Zje (M.out j k (by omega) c) ah).mono (by omega)
        ·exact (M.out j i (by omega) hi).mono (by omega)
       have a8:=JZ (Zkg (J:=61 * E) aq (fun i hi=>(M.out (j+1) i (by omega) hi).mono (by omega)) V);have a9:=JZ (Zuo V);have HR:=JZ (bl.out k c);have aa:=JZ (Zdl (U k) n);have O:(canF (BW j k)).Sm:=(M.out j k (by omega) c).rs.sm (by omega);have ar:(canF (U k k)).Sm:=ah.rs.sm (by omega);have au:(canF (U k k)).q≠0:=(by rw [Zu];exact a1);have ad:(Yj n (BW j))[k]? =some (canF (BW j k)):=ZK c;have P:Hid ((Vs n j C (BW n)).set (C k) (canF (BW (j+1) k))=Vs n (j+1) C (BW n)):=JZ (by rw [bi.out j k x];exact Zga HS.out.fac.ci x);have av:C k < n:=HS.out.fac.ci.1 k c;have bp:(k:Int) < n:=(by omega);have cp:=JZ b6;have aw:=JZ x;clear b6 x;obtain ⟨bz,oz,A5,n5,c5,A6,n6,c6,hA,_,⟨t0,t1,t2,t3⟩,K⟩:=hO.frs.elem (JR _ _) ad;injection hA with hA;injection hA with hA1 hA2;subst hA1;subst hA2;simp only [Nat.zero_add] at t0 t1 t2 t3;generalize BW j k=zk at *;generalize U k k=uk at *;clear V aq hD I ah a1 hpos
       go_upto_region 17 with (fail)
       have C0:=Zp t0;have C1:=Zp t1;have C2:=Zp t2;have C3:=Zp t3;have D0:=Zp x0;have D1:=Zp y3;have z:=Zj wr;clear t0 t1 t2 t3 x0 y3;refine Zq 19 [0,1,2,3,4,5,6,7,8,9,10,11,12,13,14,15,16,17,18,19] (by kernel_rfl) (by kernel_rfl) ?_;repeat ((first | (refine Zc (v:=?_) rfl rfl rfl ?_ ?_;rotate_left;(· (intro _ l;go_simp;(try go_bits);(try with_reducible rfl)))) | (refine Zg (v:=?_) rfl rfl rfl ?_ ?_;rotate_left;(· (intro _ l;go_simp;(try go_bits);(try with_reducible rfl)))) | refine Zh rfl rfl rfl ?_);(try simp only [Act.put,pu1,pu2,pu3,pu4,pu5,pu6]))
       refine Zd rfl rfl (fun KR hKR=>?_);go_simp;(with_reducible refine (Zbs _ _ ⟨(k:Int),canF uk⟩ _ (H.below z) y.out).mono ?_);rintro _ w6 ⟨v6,rfl,e6,bd⟩;have B:=Za z bd z.size;refine hKR.out _ _ (Or.inr B) ?_;clear hKR KR;(try simp only [Act.put,pu1,pu2,pu3,pu4,pu5,pu6]);repeat ((first | (refine Zc (v:=?_) rfl rfl rfl ?_ ?_;rotate_left;(· (intro _ l;go_simp;(try go_bits);(try with_reducible rfl)))) | (refine Zg (v:=?_) rfl rfl rfl ?_ ?_;rotate_left;(· (intro _ l;go_simp;(try go_bits);(try with_reducible rfl)))) | refine Zh rfl rfl rfl ?_);(try simp only [Act.put,pu1,pu2,pu3,pu4,pu5,pu6]))
       refine Zd rfl rfl (fun KR hKR=>?_);go_simp;(with_reducible refine (VY _ _ (canF zk) (canF uk) _ (K.below B) e6 O ar au).mono ?_);rw [Zu,Zu];rintro _ w7 ⟨v7,rfl,e7,be⟩;have F:=Za B be B.size;obtain ⟨B9,l9,k9,b7,b8,b9,rfl,_,_⟩:=id e7;have ae:=hO.below F;obtain ⟨_,_,_,_,⟨c0,c1,c2,c3⟩,⟨f0,f1,f2,f3⟩,_⟩:=ae.at_ ad;refine hKR.out _ _ (Or.inr F) ?_;clear hKR KR;(try simp only [Act.put,pu1,pu2,pu3,pu4,pu5,pu6]);repeat ((first | (refine Zc (v:=?_) rfl rfl rfl ?_ ?_;rotate_left;(· (intro _ l;go_simp;(try go_bits);(try with_reducible rfl)))) | (refine Zg (v:=?_) rfl rfl rfl ?_ ?_;rotate_left;(· (intro _ l;go_simp;(try go_bits);(try with_reducible rfl)))) | refine Zh rfl rfl rfl ?_);(try simp only [Act.put,pu1,pu2,pu3,pu4,pu5,pu6]))
       refine Zd rfl rfl (fun KR hKR=>?_);go_simp;refine hKR.out _ _ (Or.inl (by decide)) ?_;clear hKR KR;(try simp only [Act.put,pu1,pu2,pu3,pu4,pu5,pu6]);refine Zz ?_;clear C0 C1 C2 C3 D0 D1;obtain ⟨ai,ba⟩:=ae.set_ (k:=k) (by rw [Zm];exact c) e7;rw [ap.out] at ai;have ax:=(hx.below F).others Yq (ba.keep (by decide)) (fun b hb e=>by simp [Value.ownBlock] at hb;injection e with e;omega);have m:=Zw (Za a F a.size) (JY _) (k * 4) (k * 4+1) (k * 4+2) (k * 4+3) (.bool (canF (zk / uk)).num.neg) (.slice B9 l9 k9) (.bool (canF (zk / uk)).den.neg) (.slice b7 b8 b9);clear hO ae hx a z B F e6 e7 bd be c0 c1 c2 c3 f0 f1 f2 f3 K ba H ad O ar au ap y;generalize ((((w7.setCell ⟨w.heap.size,k * 4,none⟩ (.bool (canF (zk / uk)).num.neg)).setCell ⟨w.heap.size,k * 4+1,none⟩ (.slice B9 l9 k9)).setCell ⟨w.heap.size,k * 4+2,none⟩ (.bool (canF (zk / uk)).den.neg)).setCell ⟨w.heap.size,k * 4+3,none⟩ (.slice b7 b8 b9))=W8 at *;obtain ⟨b4,o4,A7,c7,hA,x0,H⟩:=I3.out.vc m c;injection hA with hA;injection hA with hA1 hA2;subst hA1;subst hA2;have y3:=Zf m K3.out;go_wp2_with fail;refine (Zbt _ _ n D (spV (U k) n) k (2 * E) (61 * E) w.heap.size _ ai H c aa.out HR.out a8.out (by omega) (by omega) (by omega)).mono ?_;rintro _ w9 ⟨rfl,hs⟩;obtain ⟨aj,a2,a3,a4⟩:=hs.congr a9.out;have af:=ax.others a3 (a2.keep (by decide)) (fun b hb e=>by simp [Value.ownBlock] at hb e;omega);have d:=m.trans a4;clear ai H hs x0 y3 ax m a2 a3 a4;obtain ⟨b1,o1,rfl,x1⟩:=I1.out.nat d c;have y1:=Zf d K1.out;obtain ⟨bz,oz,A8,n8,c8,A9,n9,c9,hA,_,⟨t0,t1,t2,t3⟩,K⟩:=aj.frs.elem (JR _ _) (ZK c);injection hA with hA;injection hA with hA1 hA2;subst hA1;subst hA2;simp only [Nat.zero_add] at t0 t1 t2 t3;obtain ⟨rf,bb⟩:=Yb (fs:=Vs n j C (BW n)) (i:=C k) (by rw [WE];exact av);obtain ⟨a5,a6⟩:=af.set_ (k:=C k) (by rw [WE];exact av) K;rw [P.out] at a5;have ay:=aj.others (g:=some gx) Yq (a6.keep (by decide)) (fun b hb e=>by simp [Value.ownBlock] at hb;injection e with e;omega);have ag:=Zw d (show w.heap.size≤gx by omega) (C k * 4) (C k * 4+1) (C k * 4+2) (C k * 4+3);obtain ⟨_,_,_,_,⟨c0,c1,c2,c3⟩,⟨f0,f1,f2,f3⟩,_⟩:=af.at_ bb;generalize C k=ck at *;have bt:(ck:Int) < n:=(by omega);generalize BW (j+1) k=cr at *;clear bb af aj d K a6
       go_upto_region 19 with (fail)
       have C0:=Zp t0;have C1:=Zp t1;have C2:=Zp t2;have C3:=Zp t3;have D0:=Zp x1;have D1:=Zp y1;have z:=Zj w9;clear t0 t1 t2 t3 x1 y1;refine Zq 13 [0,1,2,3,4,5,6,7,8,9,10,11,12,13] (by kernel_rfl) (by kernel_rfl) ?_;repeat ((first | (refine Zc (v:=?_) rfl rfl rfl ?_ ?_;rotate_left;(· (intro _ l;go_simp;(try go_bits);(try with_reducible rfl)))) | (refine Zg (v:=?_) rfl rfl rfl ?_ ?_;rotate_left;(· (intro _ l;go_simp;(try go_bits);(try with_reducible rfl)))) | refine Zh rfl rfl rfl ?_);(try simp only [Act.put,pu1,pu2,pu3,pu4,pu5,pu6]))
       refine Zd rfl rfl (fun KR hKR=>?_);go_simp;refine hKR.out _ _ (Or.inl (by decide)) ?_;clear hKR KR;(try simp only [Act.put,pu1,pu2,pu3,pu4,pu5,pu6]);refine Zz ?_;clear C0 C1 C2 C3 D0 D1;go_wp2;go_roundw
       case rel=>exact ⟨j+1,(k:Int) - 1,by have:=aw.out;omega,by have:=aw.out;omega,rfl,ay,a5,(ag _ _ _ _).drew⟩
       case measure=>simp [intOf] <;> omega
namespace Pl
theorem Ycr {n k:Nat} {U:Mx} {d:Nat→Rat} (hk:k < n):utN U d n k=(d k - ZO (fun s=>U k s * utN U d n s) k) / U k k:=by
 rw [Zdp hk,Zhg,if_pos rfl,Zk (f:=fun s=>U k s * utN U d k s) (g:=fun s=>U k s * utN U d n s) fun s hs=>by rw [Zdp (show s < k by omega),Zdp (show s < n by omega)]]
theorem Ycs {n k:Nat} {U:Mx} {w:Nat→Rat} {q:Rat} (hk:k < n):Zes (spV (U k) n) (qAt (Yz n k w)) (k:Int) q (spV (U k) n).length=q - ZO (fun s=>U k s * w s) k:=by
 rw [Zhn,X4 (n:=k) (m:=n) (by omega) fun i h1 h2=>by
  by_cases e:i=k
  ·rw [if_pos e]
  ·rw [if_neg e,Zon h2,if_neg (by omega)];grind]
 congr 1
 exact Zk fun s hs=>by rw [if_neg (by omega),Zon (by omega),if_pos hs]
theorem Yct {n k j:Nat} {L:Mx} {w:Nat→Rat} (hk:k+1+j=n):Zes (spV (L k) n) (qAt (Yj n (ltN n L w j))) (k:Int) (ltN n L w j k) (spV (L k) n).length=ltN n L w (j+1) k:=by
 rw [Zhn,Zah,if_pos (show k=n - 1 - j by omega)]
 congr 1
 exact Zk fun s hs=>by
  by_cases e:s=k
  ·rw [if_pos e,if_pos e]
  ·rw [if_neg e,if_neg e,YH hs]
theorem Yes {n k j:Nat} {L:Mx} {w:Nat→Rat} (hk:k+1+j=n):(Yj n (ltN n L w j)).set k (canF (ltN n L w (j+1) k))=Yj n (ltN n L w (j+1)):=by
 rw [Vg (by omega)];exact ZT fun i hi=>by
  by_cases e:i=k
  ·rw [if_pos e,e]
  ·rw [if_neg e,Zah,if_neg (by omega)]
theorem Zuq {n k K:Nat} {w:Nat→Rat} (h:∀i,i < n→Sz K (w i)):RsL K (Yz n k w):=fun i f hf=>by
 have hi:i < n:=by have:=(List.getElem?_eq_some_iff.1 hf).1;rw [Xw] at this;exact this
 have hp:=Zfn (h i hi)
 unfold Yz at hf
 rw [Yi hi] at hf
 injection hf with hf
 subst hf
 split
 ·exact (h i hi).rs
 ·exact (Wz 1).mono hp
end Pl
def Zki (V:World) (q:Rat) (s8:Value) (wx:World):Prop:=
 ∃(g:Nat) (f:RF) (A:Option Addr) (n c:Nat) (A':Option Addr) (n' c':Nat),s8= .pointer (some ⟨g,0,none⟩)∧V.heap.size≤g∧Bk wx g 46 [.bool f.num.neg,.slice A n c,.bool f.den.neg,.slice A' n' c']∧Zt wx (.agg #[.bool f.num.neg,.slice A n c,.bool f.den.neg,.slice A' n' c']) f∧f.q=q∧f.Sm∧Below V.heap.size V wx
theorem Zki.mk {V w:World} {g:Nat} {f:RF} {q:Rat} {x y z u:Value} {A A':Option Addr} {n c n' c':Nat} (hB:Bk w g 46 [x,y,z,u]) (hm:Zt w (.agg #[.bool f.num.neg,.slice A n c,.bool f.den.neg,.slice A' n' c']) f) (hq:f.q=q) (hs:f.Sm) (hb:Below V.heap.size V w) (hg:V.heap.size≤g):
 Zki V q (.pointer (some ⟨g,0,none⟩)) ((((w.setCell ⟨g,0,none⟩ (.bool f.num.neg)).setCell ⟨g,1,none⟩ (.slice A n c)).setCell ⟨g,2,none⟩ (.bool f.den.neg)).setCell ⟨g,3,none⟩ (.slice A' n' c')):=
 ⟨g,f,A,n,c,A',n',c',rfl,hg,hB.set4 _ _ _ _,hm.keep (hB.keep4 (by decide) _ _ _ _),hq,hs,ZG hb hg _ _ _ _⟩
theorem Zhq (gp off:Nat) (vc:Value) (n E:Nat) (A:Mx) (R C:Nat→Nat) (L U:Mx) (d:Nat→Rat) (w:World) (hF:Ydp w gp off n R C L U) (h2:Xh w vc (Yj n d)) (S:Zml n E A R C L U) (hb:∀i,i < n→Sz (30 * E) (d i)) (hX:∀i,i < n→Sz E (solT n R C L U d i)):
 Calls Tryz.prog 148 #[.pointer (some ⟨gp,off,none⟩),vc] w fun o w'=>∃v',o= .returned v'∧Z4 w.heap.size w' v' (Yj n (solT n R C L U d))∧Below w.heap.size w w':=by
 obtain ⟨A0,c0,A1,c1,A2,c2,A3,c3,⟨k0,k1,k2,k3⟩,i0,i1,i2,i3⟩:=hF;obtain ⟨Ac,cc,rfl,bb,ct⟩:=h2.shape;rw [Zm] at h2 bb ⊢;obtain ⟨cu,cv⟩:=i0.cap;obtain ⟨cw,cx⟩:=i1.cap;obtain ⟨cy,cz⟩:=i2.cap;obtain ⟨d0,d1⟩:=i3.cap;have K0:=JZ k0;have K1:=JZ k1;have K2:=JZ k2;have K3:=JZ k3;have I0:=JZ i0;have I1:=JZ i1;have I2:=JZ i2;have I3:=JZ i3;have H2:=JZ h2;have HS:=JZ S;have bj:=S.n7;have d2:=S.e1;have d3:=S.e2;obtain ⟨WW,Y⟩:∃WW,WW=utN U (fun k=>d (C k)) n:=⟨_,rfl⟩;obtain ⟨LT,z⟩:∃LT,LT=ltN n L WW:=⟨_,rfl⟩;have bk:Hid (LT 0=WW):=JZ (by rw [z];rfl);have bl:Hid (∀k,k < n→WW k=(d (C k) - ZO (fun s=>U k s * WW s) k) / U k k):=JZ fun k hk=>by rw [Y];exact Ycr hk
 have bm:Hid (∀i,i < n→Sz (29 * E) (WW i)):=JZ fun i hi=>by rw [Y];exact S.wB hX i hi
 have aw:Hid (∀j i,j≤n→i < n→Sz (29 * E) (LT j i)):=JZ fun j i hj hi=>by rw [z,Y];exact S.tB hX j i hj hi
 have bn:Hid (∀j k,k+1+j=n→(Yj n (LT j)).set k (canF (LT (j+1) k))=Yj n (LT (j+1))):=JZ fun j k hk=>by rw [z];exact Yes hk
 have bo:Hid (∀j k,k+1+j=n→Zes (spV (L k) n) (qAt (Yj n (LT j))) (k:Int) (LT j k) (spV (L k) n).length=LT (j+1) k):=JZ fun j k hk=>by rw [z];exact Yct hk
 have bp:Hid (∀j k,k+1+j=n→LT (j+1) k=LT n k):=JZ fun j k hk=>by rw [z];exact (Zbq (show k < n by omega) (by omega) (by omega)).trans (Zbq (show k < n by omega) (by omega) (JY n)).symm
 have ax:Hid (Yj n (solT n R C L U d)=Vs n n R (LT n)):=JZ (by rw [Zka S.fac.ri,z,Y];rfl);rw [ax.out];have bq:=JZ hb;have ay:Hid (∀t,t < n→∀(k:Nat) (e:En),(spV (L t) n)[k]? =some e→e.f.Rs (29 * E)):=JZ fun t ht=>Zaf fun i hi=>(S.lB t i ht hi).mono (by omega)
 have br:Hid (∀t,t < n→∀(k:Nat) (e:En),(spV (U t) n)[k]? =some e→e.f.Rs (29 * E)):=JZ fun t ht=>Zaf fun i hi=>(S.uB t i ht hi).mono (by omega)
 have bs:Hid (∀k,k < n→Sz (2 * E) (U k k)∧U k k≠0∧(spV (U k) n)[(spV (U k) n).length - 1]? =some ⟨(k:Int),canF (U k k)⟩):=JZ fun k hk=>⟨S.uB k k hk hk,S.fac.u1 k hk,Zoo hk (S.fac.u1 k hk) fun s h1 h2=>S.fac.u0 k s hk h2 h1⟩
 have a9:Hid (∀(M:Mx) (k J:Nat),J≤30 * E→J+(spV (M k) n).length * (2 * (29 * E)+1)≤34359738368):=JZ fun M k J hJ=>by
  have h1:=JS (2 * (29 * E)+1) (JW (WR (f:=M k) n) bj);omega
 have d4:=Y1 n (by omega);have af:=Z4.zeros w n (by unfold maxLen;omega);have az:=Zb w (.cells (zfc n) 46);rw [← Uw (w:=WW)] at af;have bt:=k0;clear i0 i1 i2 i3 h2 S Y z hb hX ax k0 k1 k2 k3;go_enter Tryz.func148,Tryz.ntmps148;go_wp2;clear bt;generalize w.alloc (.cells (zfc n) 46)=W at *
 go_loopw [19] (fun i wr=>∃k:Nat,k≤n∧i= .int .i64 k∧Z4 w.heap.size wr (.slice (some ⟨w.heap.size,0,none⟩) n n) (Yz n k WW)∧Below w.heap.size w wr) (fun i _=>n - (intOf i).toNat)
 case atStart=>exact ⟨0,by omega,rfl,af,az⟩
 case round=>
  clear af az;obtain ⟨k,hk,rfl,hO,l⟩:=hrel;rcases JX k n with a | a
  ·obtain ⟨b1,o1,rfl,x1⟩:=I1.out.nat l a;have P:C k < n:=HS.out.fac.ci.1 k a;obtain ⟨bc,oc,A4,n4,c4,A5,n5,c5,rfl,_,⟨u0,u1,u2,u3⟩,ao⟩:=H2.out.elem l (ZK P);obtain ⟨b3,o3,A7,c7,rfl,x3,Z⟩:=I3.out.vc l a;have y1:=Zf l K1.out;have y3:=Zf l K3.out;obtain ⟨bd,ac,a0⟩:=bs.out k a;have ag:=JZ a0;have a2:Hid (inR (Yz n k WW).length (spV (U k) n)):=JZ (by rw [Xw];exact Zdl (U k) n);have a3:Hid ((canF (d (C k))).Rs (30 * E)):=JZ (bq.out _ P).rs;have b0:=JZ (br.out k a);have a4:Hid (RsL (29 * E) (Yz n k WW)):=JZ (Zuq bm.out);have G:=JZ (a9.out U k (30 * E) (JY _));have F:Hid (Zes (spV (U k) n) (qAt (Yz n k WW)) (k:Int) (d (C k)) (spV (U k) n).length=d (C k) - ZO (fun s=>U k s * WW s) k):=JZ (Ycs a);have bu:Hid ((d (C k) - ZO (fun s=>U k s * WW s) k) / U k k=WW k):=JZ (bl.out k a).symm;have ah:=JZ (Ux (w:=WW) a);have bv:(canF (U k k)).Sm:=bd.rs.sm (by omega);have bw:(canF (U k k)).q≠0:=(by rw [Zu];exact ac);have b5:(Yz n k WW)[k]? =some zeroF:=(by unfold Yz;rw [Yi a,if_neg (by omega)]);have bx:(k:Int) < n:=(by omega);have ca:k < (Yz n k WW).length:=(by rw [Xw];exact a);have b6:(C k:Int) < n:=(by omega);generalize cq:d (C k)=dk at *;generalize U k k=uk at *;generalize C k=ck at *;generalize cs:dk - ZO (fun s=>U k s * WW s) k=rq at *;clear bd ac a0 cq cs
   go_upto_region 6 with (fail)
   go_cut [8] (fun s8 wx=>Zki wr rq s8 wx)
   case first=>
    have C0:=Zp u0;have C1:=Zp u1;have C2:=Zp u2;have C3:=Zp u3;have D0:=Zp x1;have D1:=Zp x3;have D2:=Zp y1;have D3:=Zp y3;have c:=Zj wr;clear u0 u1 u2 u3 x1 x3 y1 y3;refine XF 21 (.go 0 (.go 1 (.go 2 (.go 3 (.go 4 (.go 5 (.go 6 (.go 7 (.go 8 (.go 9 (.go 10 (.go 11 (.go 12 (.go 13 (.go 14 (.go 15 (.go 16 (.go 17 (.go 18 (.fork 19 (.go 20 (.go 21 .done)) 20 (.go 19 (.go 21 .done)))))))))))))))))))))) (by kernel_rfl) (by kernel_rfl) ?_;repeat ((first | (refine Z6 (v:=?_) rfl rfl rfl ?_ ?_;rotate_left;(· (intro _ m;go_simp;(try go_bits);(try with_reducible rfl)))) | (refine Yr (v:=?_) rfl rfl rfl ?_ ?_;rotate_left;(· (intro _ m;go_simp;(try go_bits);(try with_reducible rfl)))) | refine Yt rfl rfl rfl ?_ | refine Z8 rfl rfl rfl (by assumption) ?_);(try simp only [Act.put,pu1,pu2,pu3,pu4,pu5,pu6]))
    refine WT rfl rfl (fun KR hKR=>?_) (fun KR hKR=>?_)
    ·go_simp;(with_reducible refine (Vl _ _ _ (canF dk) (spV (U k) n) (k:Int) (Yz n k WW) (29 * E) (30 * E) _ (ao.below c) (Z.below c) (hO.below c).frs a2.out a3.out (by omega) b0.out a4.out (by omega) G.out (by omega)).mono ?_);rw [Zu];rintro _ wA ⟨vA,fA,rfl,eA,p,N,D,a7⟩;rw [F.out] at p;have T:fA.Sm:=D.sm G.out;have y:=Za c a7 c.size;obtain ⟨A6,n6,c6,B6,m6,d6,rfl,_,_⟩:=id eA;refine hKR.out _ _ (Or.inr y) ?_;clear hKR KR N D;(try simp only [Act.put,pu1,pu2,pu3,pu4,pu5,pu6]);obtain ⟨WG,ap,K,a6⟩:=YN wA (.bool false) (.slice none 0 0) (.bool false) (.slice none 0 0);refine ZA rfl rfl (fun KR hKR=>?_);go_simp;have ai:=y.size;have r:=Za y a6 y.size;refine hKR.out _ _ (Or.inr r) ?_;clear hKR KR ap;(try simp only [Act.put,pu1,pu2,pu3,pu4,pu5,pu6]);have cb:=eA.below a6;obtain ⟨t0,t1,t2,t3⟩:=K.four;obtain ⟨f0,f1,f2,f3⟩:=K.fourF;refine ZA rfl rfl (fun KR hKR=>?_);go_simp;refine hKR.out _ _ (Or.inl (by decide)) ?_;clear hKR KR;(try simp only [Act.put,pu1,pu2,pu3,pu4,pu5,pu6]);refine YM ?_;go_wp2_with fail
     go_meet
     exact Zki.mk K cb p T r ai
    ·obtain ⟨WG,ap,K,a6⟩:=YN wr.drew (.bool false) (.slice none 0 0) (.bool false) (.slice none 0 0);go_simp;have ai:=c.size;have r:=Za c a6 c.size;refine hKR.out _ _ (Or.inr r) ?_;clear hKR KR ap;(try simp only [Act.put,pu1,pu2,pu3,pu4,pu5,pu6])
     change Bk WG wr.heap.size 46 _ at K
     refine ZA rfl rfl (fun KR hKR=>?_);go_simp;(with_reducible refine (Vl _ _ _ (canF dk) (spV (U k) n) (k:Int) (Yz n k WW) (29 * E) (30 * E) _ (ao.below r) (Z.below r) (hO.below r).frs a2.out a3.out (by omega) b0.out a4.out (by omega) G.out (by omega)).mono ?_);rw [Zu];rintro _ wA ⟨vA,fA,rfl,eA,p,N,D,a7⟩;rw [F.out] at p;have T:fA.Sm:=D.sm G.out;have y:=Za r a7 r.size;obtain ⟨A6,n6,c6,B6,m6,d6,rfl,_,_⟩:=id eA;refine hKR.out _ _ (Or.inr y) ?_;clear hKR KR N D;(try simp only [Act.put,pu1,pu2,pu3,pu4,pu5,pu6]);have hG:=K.later a7;obtain ⟨t0,t1,t2,t3⟩:=hG.four;obtain ⟨f0,f1,f2,f3⟩:=hG.fourF;refine ZA rfl rfl (fun KR hKR=>?_);go_simp;refine hKR.out _ _ (Or.inl (by decide)) ?_;clear hKR KR;(try simp only [Act.put,pu1,pu2,pu3,pu4,pu5,pu6]);refine YM ?_;go_wp2_with fail
     go_meet
     exact Zki.mk hG eA p T y ai
   case rest=>
    obtain ⟨gr,fr,Ar,nr,cr,d8,d9,da,rfl,db,hB,cm,cn,co,be⟩:=hcut;obtain rfl:=cn;have cd:=hO.below be;have V:=Za l be l.size;have aa:=V;clear Z x1 x3 y1 y3 u0 u1 u2 u3 ao hO l;obtain ⟨b4,o4,A8,c8,hA,x3,Z⟩:=I3.out.vc V a;injection hA with hA;injection hA with hA1 hA2;subst hA1;subst hA2;have y3:=Zf V K3.out;obtain ⟨t0,t1,t2,t3⟩:=hB.four
    go_upto_region 7 with (fail)
    have C0:=Zp t0;have C1:=Zp t1;have C2:=Zp t2;have C3:=Zp t3;have D0:=Zp x3;have D1:=Zp y3;have c:=Zj wc;clear t0 t1 t2 t3 x3 y3;refine Zq 16 [0,1,2,3,4,5,6,7,8,9,10,11,12,13,14,15,16] (by kernel_rfl) (by kernel_rfl) ?_;repeat ((first | (refine Zc (v:=?_) rfl rfl rfl ?_ ?_;rotate_left;(· (intro _ m;go_simp;(try go_bits);(try with_reducible rfl)))) | (refine Zg (v:=?_) rfl rfl rfl ?_ ?_;rotate_left;(· (intro _ m;go_simp;(try go_bits);(try with_reducible rfl)))) | refine Zh rfl rfl rfl ?_);(try simp only [Act.put,pu1,pu2,pu3,pu4,pu5,pu6]))
    refine Zd rfl rfl (fun KR hKR=>?_);go_simp;(with_reducible refine (Zbs _ _ ⟨(k:Int),canF uk⟩ _ (Z.below c) ag.out).mono ?_);rintro _ w6 ⟨v6,rfl,e6,cp⟩;have a5:=Za c cp c.size;refine hKR.out _ _ (Or.inr a5) ?_;clear hKR KR;(try simp only [Act.put,pu1,pu2,pu3,pu4,pu5,pu6]);repeat ((first | (refine Zc (v:=?_) rfl rfl rfl ?_ ?_;rotate_left;(· (intro _ m;go_simp;(try go_bits);(try with_reducible rfl)))) | (refine Zg (v:=?_) rfl rfl rfl ?_ ?_;rotate_left;(· (intro _ m;go_simp;(try go_bits);(try with_reducible rfl)))) | refine Zh rfl rfl rfl ?_);(try simp only [Act.put,pu1,pu2,pu3,pu4,pu5,pu6]))
    refine Zd rfl rfl (fun KR hKR=>?_);go_simp;(with_reducible refine (VY _ _ fr (canF uk) _ (cm.below a5) e6 co bv bw).mono ?_);rw [Zu,bu.out];rintro _ w7 ⟨v7,rfl,e7,a8⟩;have u:=Za a5 a8 a5.size;obtain ⟨B9,l9,k9,aq,ar,au,rfl,_,_⟩:=id e7;have H:=cd.below u;obtain ⟨_,_,_,_,⟨c0,c1,c2,c3⟩,⟨f0,f1,f2,f3⟩,_⟩:=H.at_ b5;refine hKR.out _ _ (Or.inr u) ?_;clear hKR KR;(try simp only [Act.put,pu1,pu2,pu3,pu4,pu5,pu6]);repeat ((first | (refine Zc (v:=?_) rfl rfl rfl ?_ ?_;rotate_left;(· (intro _ m;go_simp;(try go_bits);(try with_reducible rfl)))) | (refine Zg (v:=?_) rfl rfl rfl ?_ ?_;rotate_left;(· (intro _ m;go_simp;(try go_bits);(try with_reducible rfl)))) | refine Zh rfl rfl rfl ?_);(try simp only [Act.put,pu1,pu2,pu3,pu4,pu5,pu6]))
    refine Zd rfl rfl (fun KR hKR=>?_);go_simp;refine hKR.out _ _ (Or.inl (by decide)) ?_;clear hKR KR;(try simp only [Act.put,pu1,pu2,pu3,pu4,pu5,pu6]);refine Zz ?_;clear C0 C1 C2 C3 D0 D1;obtain ⟨B,av⟩:=H.set_ (k:=k) ca e7;rw [ah.out] at B;have x:=Zw (Za aa u aa.size) (JY _) (k * 4) (k * 4+1) (k * 4+2) (k * 4+3);go_wp2;go_roundw
    case rel=>exact ⟨k+1,by omega,by go_num,B,x _ _ _ _⟩
    case measure=>simp [intOf];omega
  ·obtain rfl:n=k:=by omega
   rw [Zbf,← bk.out] at hO;have aj:=Z4.zeros wr n (by unfold maxLen;omega);have ak:=Zb wr (.cells (zfc n) 46);rw [← Zfz (X:=LT n) HS.out.fac.ri] at aj;have b7:=hO.below ak;have ce:0 < n→w.heap.size < wr.heap.size:=fun hp=>by
    obtain ⟨g,_,e,_,h,_⟩:=hO.shape (by rw [Zm];exact hp);injection e with e;injection e with e;injection e with e;omega
   have ab:=Za l ak l.size;have cf:=l.size;clear hO l;go_wp2;generalize wr.heap.size=gx at *;generalize wr.alloc (.cells (zfc n) 46)=W2 at *
   go_loopw [10] (fun i wx=>∃(j:Nat) (kz:Int),j≤n∧kz=(n:Int) - 1 - j∧i= .int .i64 kz∧Z4 w.heap.size wx (.slice (some ⟨w.heap.size,0,none⟩) n n) (Yj n (LT j))∧Z4 gx wx (.slice (some ⟨gx,0,none⟩) n n) (Vs n j R (LT n))∧Below w.heap.size w wx) (fun i _=>(intOf i+1).toNat)
   case atStart=>exact ⟨0,(n:Int) - 1,by omega,by omega,rfl,b7,aj,ab⟩
   case round=>
    clear b7 aj ab ak;obtain ⟨j,kz,hj,bf,rfl,hO,hx,l⟩:=hrel;rcases Int.lt_or_le kz 0 with hneg | hpos
    ·obtain rfl:n=j:=by omega
     go_wp2;go_ret;exact ⟨_,rfl,hx.monoB cf,l⟩
    ·obtain ⟨k,rfl⟩:=JT hpos;have I:k+1+j=n:=(by omega);have a:k < n:=(by omega);have d5:=ce (by omega);obtain ⟨b2,o2,A4,c4,rfl,x0,bg⟩:=I2.out.vc l a;have y2:=Zf l K2.out;have a2:Hid (inR (Yj n (LT j)).length (spV (L k) n)):=JZ (by rw [Zm];exact Zdl (L k) n);have a3:Hid ((canF (LT j k)).Rs (29 * E)):=JZ (aw.out j k hj a).rs;have cg:=JZ (ay.out k a);have a4:Hid (RsL (29 * E) (Yj n (LT j))):=JZ (Zbc fun i hi=>aw.out j i hj hi);have G:=JZ (a9.out L k (29 * E) (by omega));have F:=JZ (bo.out j k I);have ch:=JZ (bn.out j k I);have al:(Yj n (LT j))[k]? =some (canF (LT j k)):=ZK a;have ah:Hid ((Vs n j R (LT n)).set (R k) (canF (LT (j+1) k))=Vs n (j+1) R (LT n)):=JZ (by rw [bp.out j k I];exact Zga HS.out.fac.ri I);have P:R k < n:=HS.out.fac.ri.1 k a;have bx:(k:Int) < n:=(by omega);have d7:=JZ bf;have b8:=JZ I;clear bf I;obtain ⟨bz,oz,A5,n5,c5,A6,n6,c6,hA,_,⟨t0,t1,t2,t3⟩,a1⟩:=hO.frs.elem (JR _ _) al;injection hA with hA;injection hA with hA1 hA2;subst hA1;subst hA2;simp only [Nat.zero_add] at t0 t1 t2 t3;generalize LT j k=zk at *;generalize bi:LT (j+1) k=O at *;have cj:=JZ bi;clear hpos bi
     go_upto_region 13 with (fail)
     have C0:=Zp t0;have C1:=Zp t1;have C2:=Zp t2;have C3:=Zp t3;have D0:=Zp x0;have D1:=Zp y2;have c:=Zj wr;clear t0 t1 t2 t3 x0 y2;refine Zq 17 [0,1,2,3,4,5,6,7,8,9,10,11,12,13,14,15,16,17] (by kernel_rfl) (by kernel_rfl) ?_;repeat ((first | (refine Zc (v:=?_) rfl rfl rfl ?_ ?_;rotate_left;(· (intro _ m;go_simp;(try go_bits);(try with_reducible rfl)))) | (refine Zg (v:=?_) rfl rfl rfl ?_ ?_;rotate_left;(· (intro _ m;go_simp;(try go_bits);(try with_reducible rfl)))) | refine Zh rfl rfl rfl ?_);(try simp only [Act.put,pu1,pu2,pu3,pu4,pu5,pu6]))
     refine Zd rfl rfl (fun KR hKR=>?_);go_simp;(with_reducible refine (Vl _ _ _ (canF zk) (spV (L k) n) (k:Int) (Yj n (LT j)) (29 * E) (29 * E) _ (a1.below c) (bg.below c) (hO.below c).frs a2.out a3.out (by omega) cg.out a4.out (by omega) G.out (by omega)).mono ?_);rw [Zu];rintro _ w7 ⟨v7,fA,rfl,e7,p,N,D,a8⟩;have u:=Za c a8 c.size;rw [F.out] at p;have cl:fA=canF O:=(by rcases N with h | h;rotate_left;exact h.trans (by rw [p]);rw [h,Zu] at p;rw [h,p]);subst cl;obtain ⟨B9,l9,k9,aq,ar,au,rfl,_,_⟩:=id e7;have H:=hO.below u;obtain ⟨_,_,_,_,⟨c0,c1,c2,c3⟩,⟨f0,f1,f2,f3⟩,_⟩:=H.at_ al;clear p N D;refine hKR.out _ _ (Or.inr u) ?_;clear hKR KR;(try simp only [Act.put,pu1,pu2,pu3,pu4,pu5,pu6]);repeat ((first | (refine Zc (v:=?_) rfl rfl rfl ?_ ?_;rotate_left;(· (intro _ m;go_simp;(try go_bits);(try with_reducible rfl)))) | (refine Zg (v:=?_) rfl rfl rfl ?_ ?_;rotate_left;(· (intro _ m;go_simp;(try go_bits);(try with_reducible rfl)))) | refine Zh rfl rfl rfl ?_);(try simp only [Act.put,pu1,pu2,pu3,pu4,pu5,pu6]))
     refine Zd rfl rfl (fun KR hKR=>?_);go_simp;refine hKR.out _ _ (Or.inl (by decide)) ?_;clear hKR KR;(try simp only [Act.put,pu1,pu2,pu3,pu4,pu5,pu6]);refine Zz ?_;clear C0 C1 C2 C3 D0 D1;obtain ⟨B,av⟩:=H.set_ (k:=k) (by rw [Zm];exact a) e7;rw [ch.out] at B;have am:=(hx.below u).others Yq (av.keep (by decide)) (fun b hb e=>by simp [Value.ownBlock] at hb;injection e with e;omega);have x:=Zw (Za l u l.size) (JY _) (k * 4) (k * 4+1) (k * 4+2) (k * 4+3) (.bool (canF O).num.neg) (.slice B9 l9 k9) (.bool (canF O).den.neg) (.slice aq ar au);have b9:(Yj n (LT (j+1)))[k]? =some (canF O):=(by rw [← cj.out];exact ZK a);clear hO H hx l c u e7 a8 c0 c1 c2 c3 f0 f1 f2 f3 a1 av bg al;generalize ((((w7.setCell ⟨w.heap.size,k * 4,none⟩ (.bool (canF O).num.neg)).setCell ⟨w.heap.size,k * 4+1,none⟩ (.slice B9 l9 k9)).setCell ⟨w.heap.size,k * 4+2,none⟩ (.bool (canF O).den.neg)).setCell ⟨w.heap.size,k * 4+3,none⟩ (.slice aq ar au))=W8 at *;obtain ⟨b1,o1,rfl,x1⟩:=I0.out.nat x a;have y1:=Zf x K0.out;obtain ⟨bz,oz,A8,n8,c8,A9,n9,c9,hA,_,⟨t0,t1,t2,t3⟩,a1⟩:=B.frs.elem (JR _ _) b9;injection hA with hA;injection hA with hA1 hA2;subst hA1;subst hA2;simp only [Nat.zero_add] at t0 t1 t2 t3;obtain ⟨rf,bh⟩:=Yb (fs:=Vs n j R (LT n)) (i:=R k) (by rw [WE];exact P);obtain ⟨ad,ae⟩:=am.set_ (k:=R k) (by rw [WE];exact P) a1;rw [ah.out] at ad;have ba:=B.others (g:=some gx) Yq (ae.keep (by decide)) (fun b hb e=>by simp [Value.ownBlock] at hb;injection e with e;omega);have an:=Zw x (show w.heap.size≤gx by omega) (R k * 4) (R k * 4+1) (R k * 4+2) (R k * 4+3);obtain ⟨_,_,_,_,⟨c0,c1,c2,c3⟩,⟨f0,f1,f2,f3⟩,_⟩:=am.at_ bh;generalize R k=ck at *;have b6:(ck:Int) < n:=(by omega);clear bh am B a1 ae
     go_upto_region 14 with (fail)
     have C0:=Zp t0;have C1:=Zp t1;have C2:=Zp t2;have C3:=Zp t3;have D0:=Zp x1;have D1:=Zp y1;have c:=Zj W8;clear t0 t1 t2 t3 x1 y1;refine Zq 13 [0,1,2,3,4,5,6,7,8,9,10,11,12,13] (by kernel_rfl) (by kernel_rfl) ?_;repeat ((first | (refine Zc (v:=?_) rfl rfl rfl ?_ ?_;rotate_left;(· (intro _ m;go_simp;(try go_bits);(try with_reducible rfl)))) | (refine Zg (v:=?_) rfl rfl rfl ?_ ?_;rotate_left;(· (intro _ m;go_simp;(try go_bits);(try with_reducible rfl)))) | refine Zh rfl rfl rfl ?_);(try simp only [Act.put,pu1,pu2,pu3,pu4,pu5,pu6]))
     refine Zd rfl rfl (fun KR hKR=>?_);go_simp;refine hKR.out _ _ (Or.inl (by decide)) ?_;clear hKR KR;(try simp only [Act.put,pu1,pu2,pu3,pu4,pu5,pu6]);refine Zz ?_;clear C0 C1 C2 C3 D0 D1;go_wp2;go_roundw
     case rel=>exact ⟨j+1,(k:Int) - 1,by have:=b8.out;omega,by have:=b8.out;omega,rfl,ba,ad,(an _ _ _ _).drew⟩
     case measure=>simp [intOf] <;> omega
end Go.Proofs.YtgbhebappffbdaaGreat
