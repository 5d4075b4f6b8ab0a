/- Lemmas of the claim; no condition. -/
import Derived.Test.YtgbhebappffbdaaGreatP26
set_option linter.all false
set_option maxRecDepth 100000
set_option maxHeartbeats 40000000
namespace Go.Proofs.YtgbhebappffbdaaGreat
open Go.RowKit
open Pl
attribute [local go_sem ↓] Go.wp_at_zero Go.wp_at_succ
namespace Pl
theorem Zrj {es:List En} {e:En}:∀{a:Int},Inc (some a) (es++[e])→a < e.idx:=by
 induction es with
 | nil=>intro a h;have:=h.1;simp [leP] at this;omega
 | cons d es ih=>intro a h;have h1:=h.1;have h2:=ih h.2;simp [leP] at h1;omega
theorem Zrk {es:List En} {e:En}:∀{p:Option Int},Inc p (es++[e])→Inc p es∧∀(k:Nat) (d:En),es[k]? =some d→d.idx < e.idx:=by
 induction es with
 | nil=>intro p _;exact ⟨trivial,fun k d h=>by simp at h⟩
 | cons c es ih=>
  intro p h;obtain ⟨h1,h2⟩:=ih h.2;refine ⟨⟨h.1,h1⟩,fun k d hd=>?_⟩
  cases k with
  | zero=>simp at hd;subst hd;exact Zrj h.2
  | succ k=>exact h2 k d (by simpa using hd)
theorem Zzb {n:Nat} {es:List En} (h:∀(k:Nat) (e:En),es[k]? =some e→e.idx≠(n:Int)):Wl es n=0:=by
 have a:∀(es:List En) (f:Nat→Rat),(∀(k:Nat) (e:En),es[k]? =some e→e.idx≠(n:Int))→dQ es f n=f n:=by
  intro es
  induction es with
  | nil=>intro f _;rfl
  | cons c es ih=>
   intro f h;rw [dQ,ih _ fun k e he=>h (k+1) e (by simpa using he),if_neg (h 0 c rfl)]
 exact a es _ h
theorem cpyV_spV:∀{n:Nat} {es:List En},Good n es→Zqv es=spV (Wl es) n
 | 0,[],_=>rfl
 | 0,e::es,h=>by have:=h.1 0 e rfl;omega
 | n+1,es,h=>by
  rcases List.eq_nil_or_concat es with rfl | ⟨ds,e,he0⟩
  ·have h0:Good n ([]:List En):=⟨fun k e h=>by simp at h,trivial,fun k e h=>by simp at h⟩
   rw [Xf rfl]
   exact cpyV_spV h0
  ·rw [List.concat_eq_append] at he0
   subst he0
   obtain ⟨h1,h2,h3⟩:=h
   obtain ⟨i1,i2⟩:=Zrk h2
   have he:(ds++[e])[ds.length]? =some e:=by simp
   have e1:=h1 _ e he
   have hl:∀(k:Nat) (d:En),ds[k]? =some d→(ds++[e])[k]? =some d:=fun k d hd=>by
    rw [List.getElem?_append_left (List.getElem?_eq_some_iff.1 hd).1];exact hd
   have hc:∀i,Wl (ds++[e]) i=if e.idx=(i:Int) then e.f.q else Wl ds i:=fun i=>by unfold Wl;rw [Zgx]
   by_cases g:e.idx=(n:Int)
   ·have hd:Good n ds:=⟨fun k d hd=>by have:=i2 k d hd;have:=h1 k d (hl k d hd);omega,i1,fun k d hd=>h3 k d (hl k d hd)⟩
    have hn:Wl (ds++[e]) n=e.f.q:=by rw [hc,if_pos g]
    rw [Xu (by rw [hn];exact h3 _ e he),hn,Wm (g:=Wl ds) fun i hi=>by rw [hc,if_neg (by omega)],← cpyV_spV hd]
    unfold Zqv
    rw [List.map_append]
    simp [g]
   ·have hd:Good n (ds++[e]):=⟨fun k d hd=>by
     have:=h1 k d hd
     rcases JX k ds.length with hk | hk
     ·rw [List.getElem?_append_left hk] at hd
      have:=i2 k d hd;omega
     ·rw [List.getElem?_append_right hk] at hd
      have a:k - ds.length=0:=by
       rcases JV (k - ds.length) with e | e
       ·exact e
       ·rw [JU (by simp;omega)] at hd;cases hd
      rw [a] at hd;simp at hd;subst hd;omega,h2,h3⟩
    rw [Xf (Zzb fun k d hk=>by have:=hd.1 k d hk;omega)];exact cpyV_spV hd
end Pl
theorem Zzc (v:Value) (n K:Nat) (cols:List (List En)) (Cs:Mx) (w:World) (h:XO w v cols) (hl:cols.length=n) (hn:n≤7) (hK:1≤K) (hE:5^n * K≤4000000) (hg:∀(k:Nat) (c:List En),cols[k]? =some c→Pl.Good n c∧∀(j:Nat) (e:En),c[j]? =some e→e.f.Rs K) (hCs:∀(k:Nat) (c:List En),cols[k]? =some c→Cs k=Wl c):
 Calls Tryz.prog 98 #[.int .i64 (n:Int),v] w (Ygx n K Cs w):=by
 obtain ⟨A,c,rfl,Z,a5⟩:=h.shape;rw [hl] at h Z ⊢;have HV:=JZ h;have HG:=JZ hg;have HL:=JZ hl;have HK:=JZ hK;have HE:=JZ hE;have F:Hid (∀r c,r < n→c < n→Sz K (Cs c r)):=JZ fun r c hr hc=>by
  obtain ⟨d,hd⟩:=Xb (cs:=cols) (i:=c) (by omega);rw [hCs c d hd];exact Sz_col (hg c d hd).2 hK r
 have a2:K≤4000000:=JW (Nat.le_mul_of_pos_left K (Nat.pow_pos (by decide))) hE;have a3:=Zdx n (by omega);have B:=Ym.zeros w n (by unfold maxLen;omega);have G:=Zb w (.cells (zvc n) 66);rw [Zee (L:=Cs)] at B;have T:=JZ hCs;clear h hg hl hK hE hCs;go_enter Tryz.func98,Tryz.ntmps98;go_wp2;generalize w.alloc (.cells (zvc n) 66)=W at *
 go_loopw [26] (fun x wr=>∃k:Nat,k≤n∧x= .int .i64 k∧Ym w.heap.size wr (.slice (some ⟨w.heap.size,0,none⟩) n n) (Zrl n k Cs)∧Below w.heap.size w wr) (fun x _=>n - (intOf x).toNat)
 case atStart=>exact ⟨0,by omega,rfl,B,G⟩
 case round=>
  clear B G;obtain ⟨k,hk,rfl,hO,g⟩:=hrel;rcases JX k n with hkl | hkl
  ·obtain ⟨es,u⟩:=Xb (cs:=cols) (i:=k) (by rw [HL.out];exact hkl);obtain ⟨q,P⟩:=HG.out k es u;obtain ⟨b,a6,A1,c1,rfl,_,x0,hv⟩:=HV.out.elem g u;have a4:(k:Int) < n:=(by omega);have HM:=JZ (T.out k es u);have HC:=JZ (cpyV_spV q);have U:Hid (vecErr es (n:Int)=0):=JZ (q.err (by omega));have V:=JZ P;have H:=q.enI (by omega);have X:Hid (es.length≤1099511627776):=JZ (by
    have e1:(Zqv es).length=es.length:=(by simp [Zqv]);rw [cpyV_spV q] at e1;have:=WR (f:=Wl es) n;omega)
   clear u q P;go_wp2_with fail;refine (Xq _ es (n:Int) _ hv H (by omega) (by omega)).mono ?_;rw [U.out];rintro _ w1 ⟨rfl,l⟩;have I:=hv.below l;have s:=hO.below l;have a:=Za g l g.size;clear hv hO g l x0 H;go_wp2_with fail;refine (Zfd _ es K _ I V.out (by omega) X.out).mono ?_;rintro _ w2 ⟨v2,rfl,e2,E⟩;rw [HC.out,← HM.out] at e2;have D:=s.below E;have y:=Za a E a.size;obtain ⟨_,m0,m1,-⟩:=D.at_ (Zan (t:=k) (L:=Cs) hkl);obtain ⟨S,_⟩:=D.set_ (k:=k) (by rw [Wq];exact hkl) e2.vec;rw [Zhw hkl] at S;have J:=y.setCell (p:=⟨w.heap.size,k,none⟩) (JY _) v2;obtain ⟨A2,n2,c2,rfl⟩:∃A n c,v2= .slice A n c:=by obtain ⟨A,c,e,_⟩:=e2.vec.shape;exact ⟨A,_,c,e⟩
   clear I s D a y e2 E;go_wp2;go_roundw
   case rel=>exact ⟨k+1,by omega,by go_num,S,J⟩
   case measure=>simp [intOf];omega
  ·obtain rfl:n=k:=by omega
   rw [Zoz] at hO;have HO:=JZ hO;go_wp2_with fail;refine (Zhx _ n K _ _ hO.vecs (by omega) HK.out HE.out F.out).mono ?_;clear hO;rintro _ w1 ⟨l,⟨R,C,L,Um,s0,s1,s2,s3,rfl,hF,h0,h1,h2,h3⟩ | ⟨rfl,a1⟩⟩
   ·have s:=HO.out.below l;have a:=Za g l g.size;have M:=g.size;have N:w.heap.size < wr.heap.size:=by
     obtain ⟨cs,hh,_⟩:=HO.out;exact Uy hh w.heap.size rfl
    have z:Xr n Cs:=hF.fac.indep;have O:=JZ z;have HF:=JZ hF;obtain ⟨A0,c0,rfl⟩:=h0.nshape;obtain ⟨A1,c1,rfl⟩:=h1.nshape;obtain ⟨A2,c2,rfl⟩:=h2.nshape;obtain ⟨A3,c3,rfl⟩:=h3.nshape;have hX:=Bk.new w1 158 [.slice A0 n c0,.slice A1 n c1,.slice A2 n c2,.slice A3 n c3];have o:=Zb w1 (.cells #[.slice A0 n c0,.slice A1 n c1,.slice A2 n c2,.slice A3 n c3] 158);clear hF z g;obtain ⟨W2,a0,hX,o⟩:∃W2,w1.alloc (.cells #[.slice A0 n c0,.slice A1 n c1,.slice A2 n c2,.slice A3 n c3] 158)=W2∧Bk W2 w1.heap.size 158 [.slice A0 n c0,.slice A1 n c1,.slice A2 n c2,.slice A3 n c3]∧Below w1.heap.size w1 W2:=⟨_,rfl,hX,o⟩;obtain ⟨x0,x1,x2,x3⟩:=hX.four;go_wp2;clear a0 x0 x1 x2 x3 hX;have hY:=Bk.new W2 163 [.int .i64 (n:Int),.slice (some ⟨w.heap.size,0,none⟩) n n,.slice A0 n c0,.slice A1 n c1,.slice A2 n c2,.slice A3 n c3,.slice none 0 0];have Y:=Zb W2 (.cells #[.int .i64 (n:Int),.slice (some ⟨w.heap.size,0,none⟩) n n,.slice A0 n c0,.slice A1 n c1,.slice A2 n c2,.slice A3 n c3,.slice none 0 0] 163);have m:=Za o Y o.size;go_ret2;refine ⟨Za a m a.size,.inl ⟨_,rfl,O.out,fun bi=>⟨0,w.heap.size,n,fun _=>0,R,C,fun _ _=>0,fun _ _=>0,L,Um,fun _=>Cs,_,_,_,_,_,hY,⟨JW a.size o.size,by omega,HE.out,rfl⟩,Ups.zero F.out O.out _ _ _,HF.out,s.below m,(h0.below m).monoB M,(h1.below m).monoB M,(h2.below m).monoB N,(h3.below m).monoB N,Zpa.nil _ _ _ _ _ _⟩⟩⟩
   ·have a:=Za g l g.size;clear g l;go_wp2;go_ret2;exact ⟨Za a (Zb _ _) a.size,.inr ⟨rfl,a1⟩⟩
namespace Pl
theorem Zne {m:Nat} {cols:Mx} {b x:Nat→Rat} (h:Xr m cols) (hx:∀r,r < m→Xz m cols x r=b r):Zif m cols b=Yj m x:=by
 have hl:=(Ws h b).1;refine List.ext_getElem? fun i=>?_
 rcases JX i m with e | e
 ·obtain ⟨f,hf⟩:=Yb (fs:=Zif m cols b) (i:=i) (by omega);rw [hf,ZK e,Zhy hf,Zku h hx i e]
 ·rw [JU (by omega),JU (by rw [Zm];exact e)]
theorem Good.length {n:Nat} {es:List En} (h:Good n es):es.length≤n:=by
 have e1:(Zqv es).length=es.length:=by simp [Zqv]
 rw [cpyV_spV h] at e1;have:=WR (f:=Wl es) n;omega
def Zid (p:LPd) (s:LSt) (j:Int) (es:List En) (t:Nat):Rat:=VL p s.phase j - WP es (XU p s) t
theorem Zzi {p:LPd} {s:LSt} {j:Int} {es:List En} (hr:Reg p s) (hc:p.col j=Wl es) (hg:Good p.right.length es):Zid p s j es es.length=Zeu p s j:=by
 unfold Zid Zeu;rw [Zhz hr,Nat.min_self,Zjm,Zdk hg.1 hg.2.1 es.length (JY _),List.take_length,hc];rfl
theorem Yfs {p:LPd} {s:LSt} {K:Nat} {j:Int} {es:List En} (F:p.Ft K) (hs:∀(k:Nat) (e:En),es[k]? =some e→e.f.Rs K) (hl:es.length≤7) {t:Nat} (ht:t≤es.length):Sz (20 * (5^p.right.length * K)+20) (Zid p s j es t):=by
 have h1:K≤5^p.right.length * K:=F.1.le;have h2:=Zgy (K:=5^p.right.length * K) (fun k e he=>(hs k e he).mono h1) (Zmo F.1 s) (JW F.1.k1 h1) t;have h3:t * (2 * (5^p.right.length * K)+1)≤7 * (2 * (5^p.right.length * K)+1):=JS _ (by omega);exact (Zcy ((Zmn F.1.ok F.1.k1 _ _).mono h1) h2).mono (by omega)
end Pl
def Zvw (w:World) (e:Nat) (p:LPd) (s:LSt) (K:Nat):Prop:=
 ∃(Ab:Option Addr) (cb base bi gB:Nat) (vz:Value),Zvv w e p s.phase s.pivots (.slice Ab p.right.length cb) (.pointer (some ⟨gB,0,none⟩)) vz∧XE w (.slice Ab p.right.length cb) s.basis∧Zna base bi w gB p.right.length K (s.mat p)∧Xh w vz (zL p s)
theorem Zvw.below {w w':World} {e:Nat} {p:LPd} {s:LSt} {K:Nat} (h:Zvw w e p s K) (hb:Below w.heap.size w w'):Zvw w' e p s K:=by
 obtain ⟨Ab,cb,base,bi,gB,vz,h1,h2,h3,h4⟩:=h;exact ⟨Ab,cb,base,bi,gB,vz,h1.below hb,h2.below hb,h3.below hb,h4.below hb⟩
theorem Zna.indep {base bi g n K:Nat} {w:World} {Cs:Mx} (h:Zna base bi w g n K Cs):Xr n Cs:=by
 obtain ⟨T,_,_,_,_,_,_,_,_,_,CC,_,_,_,_,_,_,⟨_,_,_,e⟩,hU,_⟩:=h;rw [← e];exact hU.indep T (JY _)
theorem Zvw.reg {w:World} {e:Nat} {p:LPd} {s:LSt} {K:Nat} (h:Zvw w e p s K):Reg p s:=by
 obtain ⟨Ab,cb,base,bi,gB,vz,h1,h2,h3,h4⟩:=h;exact h3.indep
theorem Zla (e:Nat) (p:LPd) (s:LSt) (K:Nat) (w:World) (h:Zvw w e p s K) (S:s.Fit p) (F:p.Ft K):
 Calls Tryz.prog 72 #[.pointer (some ⟨e,0,none⟩)] w fun o w'=>∃v',o= .returned v'∧Z4 w.heap.size w' v' (XU p s)∧Below w.heap.size w w':=by
 have HR:=JZ h.reg;have HH:=JZ h;obtain ⟨Ab,cb,base,bi,gB,vz,h1,h2,h3,h4⟩:=h;obtain ⟨-,y4,-,y6,-⟩:=h1.cells;have HM:=JZ h1;have HI:=JZ h2;have HB:=JZ h3;have HF:=JZ F;have HS:=JZ S;obtain ⟨m,hm⟩:∃m,m=p.right.length:=⟨_,rfl⟩;have j:=JZ hm;rw [← hm] at y4;have a5:m≤7:=by rw [hm];exact F.2.1
 have R:=h2.len;obtain ⟨-,J,a4⟩:=R;rw [← hm] at J;have a6:=Y1 m (by omega);have t:=Z4.zeros w m (by unfold maxLen;omega);have u:=Zb w (.cells (zfc m) 46);rw [Zam] at t;have HK:=JZ F.k;have T:=JZ y4;have U:=JZ y6;have V:=Zf u y4;clear h1 h2 h3 h4 F S hm y6;go_enter Tryz.func72,Tryz.ntmps72;go_wp2;clear y4 V;generalize w.alloc (.cells (zfc m) 46)=W at *
 go_loopw [23] (fun x wr=>∃k:Nat,k≤m∧x= .int .i64 k∧Below w.heap.size w wr∧∃H:Nat→RF,Z4 w.heap.size wr (.slice (some ⟨w.heap.size,0,none⟩) m m) (rfL m H)∧∀i,i < m→(i < k→(H i).q=VL p s.phase (s.at_ i))∧(H i).Rs K) (fun x _=>m - (intOf x).toNat)
 case atStart=>exact ⟨0,by omega,rfl,u,fun _=>zeroF,t,fun i hi=>⟨fun h=>absurd h (by omega),(Wz 1).mono HK.out.1⟩⟩
 case round=>
  clear t u;obtain ⟨k,hk,rfl,d,H,hO,hH⟩:=hrel;rcases JX k m with hkl | hkl
  ·have a7:(k:Int) < m:=(by omega);obtain ⟨bb,ob,z,rfl,x0,hz,z0,z1⟩:=HI.out.at_ (show k < p.right.length by rw [← j.out];exact hkl);have X:=Zf d x0;have Y:Hid (s.at_ k=z):=JZ (LSt.at_eq hz);have Z:z < p.cost.length:=(by rw [HF.out.1.cl];exact (HS.out.1 k z hz).2);have D:=JZ hH;clear hz x0 hH;go_wp2_with fail;refine (Zkz e p K s.phase s.pivots _ _ _ z _ (HM.out.below d) HF.out Z).mono ?_;rintro _ w1 ⟨v1,f,rfl,e1,hf,B⟩;obtain ⟨A1,n1,c1,A2,n2,c2,rfl,_,_⟩:=id e1;have v:=hO.below B;have l:=Za d B d.size;obtain ⟨_,_,_,_,⟨c0,a9,aa,c3⟩,⟨f0,f1,f2,f3⟩,-⟩:=v.at_ (Yi (f:=H) hkl);obtain ⟨L,_⟩:=v.set_ (k:=k) (by rw [Zr];exact hkl) e1;rw [Vk hkl] at L;have a:=Zw l (JY _) (k * 4) (k * 4+1) (k * 4+2) (k * 4+3);have E:=JZ hf;clear hO v d l B e1 X hf;go_wp2;go_roundw
   case rel=>
    refine ⟨k+1,by omega,by go_num,a _ _ _ _,_,L,fun i hi=>?_⟩;by_cases g:i=k
    ·simp only [if_pos g];exact ⟨fun _=>by rw [g,Y.out];exact E.out.1,E.out.2⟩
    ·simp only [if_neg g];exact ⟨fun h=>(D.out i hi).1 (by omega),(D.out i hi).2⟩
   case measure=>simp [intOf];omega
  ·obtain rfl:m=k:=by omega
   have G:RsL K (rfL m H):=fun i f hf=>by
    have hi:i < m:=(by have:=(List.getElem?_eq_some_iff.1 hf).1;rwa [Zr] at this);rw [Yi hi] at hf;injection hf with hf;subst hf;exact (hH i hi).2
   obtain ⟨C,hC⟩:∃C:Nat→Rat,C=fun i=>VL p s.phase (s.at_ i):=⟨_,rfl⟩
   have a0:Hid (spV (qAt (rfL m H)) (rfL m H).length=spV C m):=JZ (by
    rw [Zr,hC];exact Wm fun i hi=>by rw [Zhl hi];exact (hH i hi).1 hi)
   have a1:Hid (∀i,i < m→Sz K (C i)):=JZ fun i _=>by rw [hC];exact Zmn HF.out.1.ok HF.out.1.k1 _ _
   have HC:=JZ hC;have a8:=JZ hH;clear hH hC;go_wp2_with fail;refine (YI _ (rfL m H) K _ hO.frs (by rw [Zr];omega) G (by have:=HK.out;omega)).mono ?_;rw [a0.out];rintro _ w2 ⟨v2,rfl,e2,M⟩;have a:=Za d M d.size;have y6:=Zf a U.out;obtain ⟨A2,n2,c2,rfl⟩:∃A n c,v2= .slice A n c:=by obtain ⟨A,c,e,_⟩:=e2.vec.shape;exact ⟨A,_,c,e⟩
   clear hO d M G;go_wp2_with fail;refine (Znb base bi gB m K (s.mat p) _ (spV C m) _ (by have:=HB.out.below a;rw [← j.out] at this;exact this) e2.vec (Zae C m) (Zaf a1.out)).mono ?_;rintro _ w3 ⟨v3,y,rfl,hy,N,e3,O⟩;have b:=Za a O a.size;have y4:=Zf b T.out;obtain ⟨A3,n3,c3,rfl⟩:∃A n c,v3= .slice A n c:=by obtain ⟨A,c,e,_⟩:=e3.vec.shape;exact ⟨A,_,c,e⟩
   have a2:=JZ N;have a3:Hid (Yj m (Wl (spV y m))=XU p s):=JZ (by
    unfold XU;rw [ZT (g:=y) fun i hi=>by rw [Zdm,if_pos hi],← j.out];refine (Zne (m:=m) (cols:=fun r k=>s.mat p k r) (by have:=HR.out.tr;rw [← j.out] at this;exact this) fun r hr=>?_).symm;rw [YH hr];have:=hy r hr;rw [Zdm,if_pos hr,HC.out] at this;exact this)
   clear e2 a O y6 hy N;go_wp2_with fail;refine (Wo _ (spV y m) m (5^m * K) _ e3.vec (by omega) (Zaf a2.out) (by have:=HF.out.2.2;rw [← j.out] at this;omega) (Zae y m)).mono ?_;rw [a3.out];rintro _ w4 ⟨v4,rfl,e4,P⟩;have I:=Za b P b.size;have e5:=e4.monoB b.size;obtain ⟨A4,n4,c4,rfl⟩:=e4.sliceN;clear e3 b P y4 e4;go_wp2;go_ret;exact ⟨_,rfl,e5,I⟩
theorem Zar (e:Nat) (p:LPd) (s:LSt) (K j:Nat) (w:World) (h:Zvw w e p s K) (F:p.Ft K) (hz:lpErr p=0) (hj:j < p.cols.length):
 Calls Tryz.prog 75 #[.pointer (some ⟨e,0,none⟩),.int .i64 (j:Int)] w fun o w'=>∃v',o= .returned v'∧Z4 w.heap.size w' v' (dirL p s (j:Int))∧Below w.heap.size w w':=by
 have HR:=JZ h.reg;obtain ⟨Ab,cb,base,bi,gB,vz,h1,h2,h3,h4⟩:=h;have HM:=JZ h1;obtain ⟨A,n,c,A',n',c',t,u,v,hB,-,hv,-⟩:=h1;obtain ⟨es,a⟩:=Xb (cs:=p.cols) (i:=j) hj;obtain ⟨l1,l2,l3⟩:=hv.len;have y1:=hB.cellAt 1 rfl;obtain ⟨b,y,A1,c1,rfl,_,x0,d⟩:=hv.elem (JR _ _) a;obtain ⟨z1,z2,z3,z4,z5⟩:=YA hz;have HC:=JZ (LPd.col_pos a);have f:Pl.Good p.right.length es:=⟨z4 j es a,(z5 j es a).2,(z5 j es a).1⟩;have g:=(F.1.ok.2.2 j es a).2;have q:(j:Int) < n':=by omega
 have k:=F.2.1;have l:=F.2.2;clear a hz F z1 z2 z3 z4 z5 h2 h4 hB hv l1 hj;go_enter Tryz.func75,Tryz.ntmps75;go_wp2_with fail;clear y1 x0;refine (Zgh e p K p.right.length cb base bi gB (s.mat p) s.phase s.pivots Ab vz _ es _ HM.out h3 d f g k l).mono ?_;rintro _ w1 ⟨v1,x,rfl,hx,-,e1,m⟩;have hd:Yj p.right.length x=dirL p s (j:Int):=by
  unfold dirL;refine (Zne HR.out fun r hr=>?_).symm;rw [YH hr,HC.out];exact hx r hr
 rw [hd] at e1;obtain ⟨A2,n2,c2,rfl⟩:=e1.sliceN;clear hd hx h3 d;go_wp2;go_ret;exact ⟨_,rfl,e1,m⟩
theorem Znf (e:Nat) (p:LPd) (s:LSt) (K j:Nat) (vy:Value) (w:World) (h:Zvw w e p s K) (hy:Xh w vy (XU p s)) (F:p.Ft K) (hz:lpErr p=0) (hj:j < p.cols.length):
 Calls Tryz.prog 102 #[.pointer (some ⟨e,0,none⟩),vy,.int .i64 (j:Int)] w fun o w'=>∃v',o= .returned v'∧Zt w' v' (canF (Zeu p s (j:Int)))∧Below w.heap.size w w':=by
 have HR:=JZ h.reg;obtain ⟨Ab,cb,base,bi,gB,vz,h1,h2,h3,h4⟩:=h;have HM:=JZ h1;obtain ⟨A,n,c,A',n',c',bw,bx,bz,hB,-,hv,-⟩:=h1;obtain ⟨es,r⟩:=Xb (cs:=p.cols) (i:=j) hj;obtain ⟨l1,l2,l3⟩:=hv.len;have y1:=hB.cellAt 1 rfl;obtain ⟨b,c8,A1,c1,rfl,_,x0,ac⟩:=hv.elem (JR _ _) r;obtain ⟨z1,z2,z3,z4,z5⟩:=YA hz;have S:Pl.Good p.right.length es:=⟨z4 j es r,(z5 j es r).2,(z5 j es r).1⟩;have b7:=JZ S;have b8:Hid (Zid p s (j:Int) es es.length=Zeu p s (j:Int)):=JZ (Zzi HR.out (LPd.col_pos r) S);have ae:=JZ (F.1.ok.2.2 j es r).2;have bu:(j:Int) < n':=by omega
 have b9:(j:Int) < p.cost.length:=by rw [F.1.cl];omega
 have HF:=JZ F;obtain ⟨Ay,cy,rfl,ax,bs⟩:=hy.shape;obtain ⟨m,hm⟩:∃m,m=p.right.length:=⟨_,rfl⟩;have ba:=JZ hm;have af:Hid ((XU p s).length=m):=JZ (by rw [hm];exact Zhz HR.out);rw [af.out] at hy ax ⊢;have bb:=JZ hy;have bc:=JZ ac;obtain ⟨l,hl⟩:∃l,l=es.length:=⟨_,rfl⟩;have T:=JZ hl;have bd:l≤7:=by rw [hl];exact JW S.length F.2.1
 rw [← hl] at x0;have be:=JZ y1;have bf:=JZ x0;obtain ⟨-,ay,bt⟩:=ac.len;rw [← hl] at ay;have HJ:Hid (K≤5^p.right.length * K∧1≤K∧5^p.right.length * K≤4000000):=JZ ⟨F.1.le,F.1.k1,F.2.2⟩;have bg:Hid (Zid p s (j:Int) es 0=VL p s.phase (j:Int)):=JZ (by unfold Zid WP;rw [YK];grind);obtain ⟨W0,bq,az,Z⟩:=YN w (.bool false) (.slice none 0 0) (.bool false) (.slice none 0 0);clear r hz F z1 z2 z3 z4 z5 h2 h3 h4 hB hv l1 hj hy ac S hl hm x0 y1;go_enter Tryz.func102,Tryz.ntmps102;go_wp2_with fail;clear bq;refine (Zkz e p K s.phase s.pivots _ _ _ (j:Int) _ (HM.out.below Z) HF.out b9).mono ?_;rintro _ w1 ⟨v1,f,rfl,e1,hf,ad⟩;obtain ⟨B1,m1,d1,B2,m2,d2,rfl,_,_⟩:=id e1;have B:f.Sm:=hf.2.sm (by have:=HJ.out;omega);have bh:Hid (f.q+zeroF.q=Zid p s (j:Int) es 0):=JZ (by rw [bg.out,zeroF_q,hf.1,Rat.add_zero]);have C:=Za Z ad Z.size;have aa:=az.later ad;clear hf az Z ad;go_wp2_with fail;refine (VW _ _ f zeroF _ e1 (Zt.zero _) B zeroF_sm).mono ?_;rw [bh.out];rintro _ w2 ⟨v2,rfl,e2,a7⟩;obtain ⟨B1,m1,d1,B2,m2,d2,rfl,_,_⟩:=id e2;obtain ⟨W3,br,b0,a0⟩:=YN w2 (.bool (canF (Zid p s (j:Int) es 0)).num.neg) (.slice B1 m1 d1) (.bool (canF (Zid p s (j:Int) es 0)).den.neg) (.slice B2 m2 d2);have ag:=(aa.later a7).later a0;have D:=Za C a7 C.size;have u:=Za D a0 D.size;have e3:=e2.below a0;have y1:=Zf u be.out;have x0:=Zf u bf.out;have bj:w.heap.size < w2.heap.size:=by have:=aa.lt;have:=a7.size;omega
 clear aa e1 e2 a7 a0 C D B;go_wp2;clear br y1 x0;have ah:Yai W3 w2.heap.size (Zid p s (j:Int) es 0):=⟨_,_,_,_,_,_,b0,e3⟩;clear b0 e3;generalize w2.heap.size=gt at *
 go_loopw [24] (fun x wr=>∃t:Nat,t≤l∧x= .int .i64 t∧Below w.heap.size w wr∧Yai wr gt (Zid p s (j:Int) es t)∧Bk wr w.heap.size 46 [.bool false,.slice none 0 0,.bool false,.slice none 0 0]) (fun x _=>l - (intOf x).toNat)
 case atStart=>exact ⟨0,by omega,rfl,u,ah,ag⟩
 case round=>
  clear u ah ag;obtain ⟨t,ht,rfl,L,hT,hR⟩:=hrel;rcases JX t l with htl | htl
  ·obtain ⟨en,M⟩:=YZ (es:=es) (i:=t) (by rw [← T.out];exact htl);obtain ⟨b2,o2,A2,n2,c2,A3,n3,c3,rfl,_,⟨x0,x1,x2,x3,x4⟩,b1⟩:=bc.out.elem L M;have ai:=b7.out.1 t en M;have E:=ae.out t en M;have aj:=JZ (Un M (XU p s));obtain ⟨ei,f⟩:=en;simp only at *;obtain ⟨i,rfl⟩:=JT ai.1;have bk:i < m:=(by rw [ba.out];omega);have bv:(i:Int) < m:=(by omega);obtain ⟨W4,b4,hV,N⟩:=Zaa wr (.int .i64 (i:Int)) (.bool f.num.neg) (.slice A2 n2 c2) (.bool f.den.neg) (.slice A3 n3 c3);obtain ⟨v0,v1,v2,v3,v4⟩:=hV.five;have d:=Za L N L.size;have y:=b1.below N;have U:=hT.below N;have V:=hR.later N;obtain ⟨gy,a1⟩:=Yb (fs:=XU p s) (i:=i) (by rw [af.out];exact bk);have a8:gy=canF (qAt (XU p s) i):=Zhy (by unfold XU at a1;exact a1);obtain ⟨yy,a2⟩:∃yy,yy=qAt (XU p s) i:=⟨_,rfl⟩;rw [← a2] at a8;subst a8;obtain ⟨b3,o3,A4,n4,c4,A5,n5,c5,rfl,_,⟨y0,y1,y2,y3⟩,k⟩:=bb.out.elem d a1;have ab:Hid (Zid p s (j:Int) es (t+1)=Zid p s (j:Int) es t - yy * f.q):=JZ (by
    unfold Zid;rw [aj.out,show (i:Int).toNat=i from JP i,← a2];grind)
   have ak:Hid (Sz (5^p.right.length * K) yy):=JZ (by
    rw [a2];exact (Zmo HF.out.1 s).qAt (JW HJ.out.2.1 HJ.out.1) i)
   have bl:Hid (Sz (20 * (5^p.right.length * K)+20) (Zid p s (j:Int) es t)):=JZ (Yfs HF.out ae.out (by rw [← T.out];exact bd) (by rw [← T.out];exact ht));have al:Hid (f.Rs K∧Sz K f.q):=JZ ⟨E,E.sz HJ.out.2.1⟩;have am:qs yy=0∨qs yy=1∨qs yy= -1:=(by have:=Ul yy;omega);clear M ai E a1 a2 b1 hT hR L aj hV N;by_cases R:qs yy=0
   ·have bm:=JZ (Yp.1 R);clear am;go_wp2_with fail;clear b4;refine (Zx _ (canF yy) _ k).mono ?_;rw [Zu,R];rintro _ w5 ⟨rfl,a⟩;have X:=U.below a;have Y:=V.later a;have g:=Za d a d.size;have an:Zid p s (j:Int) es t=Zid p s (j:Int) es (t+1):=(by rw [ab.out,bm.out];grind);rw [an] at X;clear U V d a y k v0 v1 v2 v3 v4 x0 x1 x2 x3 x4 y0 y1 y2 y3 R an;go_wp2;go_roundw
    case rel=>exact ⟨t+1,by omega,by go_num,g,X,Y⟩
    case measure=>simp [intOf];omega
   ·have bn:(qs yy !=0)=true:=(by simpa using R);clear am R;go_wp2_with fail;clear b4;refine (Zx _ (canF yy) _ k).mono ?_;rw [Zu];rintro _ w5 ⟨rfl,a⟩;have X:=U.below a;have Y:=V.later a;have g:=Za d a d.size;have ao:=y.below a;have a9:=k.below a;have k0:=Zf a v0;have k1:=Zf a v1;have k2:=Zf a v2;have k3:=Zf a v3;have k4:=Zf a v4;have l0:=Zf a y0;have l1:=Zf a y1;have l2:=Zf a y2;have l3:=Zf a y3;obtain ⟨A6,n6,c6,A7,n7,c7,z,O⟩:=X;obtain ⟨t0,t1,t2,t3⟩:=z.four;obtain ⟨rr,a3⟩:∃rr,rr=Zid p s (j:Int) es t:=⟨_,rfl⟩;have ap:(canF rr).Sm:=(by rw [a3];exact bl.out.rs.sm (by have:=HJ.out;omega));have aq:(canF yy).Sm:=ak.out.rs.sm (by have:=HJ.out;omega);have B:f.Sm:=al.out.1.sm (by have:=HJ.out;omega);have ar:(canF (yy * f.q)).Sm:=(XN ak.out al.out.2).rs.sm (by have:=HJ.out;omega);have au:=JZ a3;rw [← a3] at t0 t2 O z;clear a3 U V d a y k v0 v1 v2 v3 v4 x0 x1 x2 x3 x4 y0 y1 y2 y3;have y:=ao;have k:=a9
    go_upto_region 6 with (fail)
    clear bn;have C0:=Zp t0;have C1:=Zp t1;have C2:=Zp t2;have C3:=Zp t3;have D0:=Zp k0;have D1:=Zp k1;have D2:=Zp k2;have D3:=Zp k3;have D4:=Zp k4;have E0:=Zp l0;have E1:=Zp l1;have E2:=Zp l2;have E3:=Zp l3;have G:=Zj w5;clear t0 t1 t2 t3 k0 k1 k2 k3 k4 l0 l1 l2 l3;refine Zq 10 [0,1,2,3,4,5,6,7,8,9,10] (by kernel_rfl) (by kernel_rfl) ?_;repeat ((first | (refine Zc (v:=?_) rfl rfl rfl ?_ ?_;rotate_left;(· (intro _ P;go_simp;(try go_bits);(try with_reducible rfl)))) | (refine Zg (v:=?_) rfl rfl rfl ?_ ?_;rotate_left;(· (intro _ P;go_simp;(try go_bits);(try with_reducible rfl)))) | refine Zh rfl rfl rfl ?_);(try simp only [Act.put,pu1,pu2,pu3,pu4,pu5,pu6]))
    refine Zd rfl rfl (fun KR hKR=>?_);go_simp;(with_reducible refine (XJ _ _ (canF yy) f _ (k.below G) (y.below G) aq B).mono ?_);rw [Zu];rintro _ w6 ⟨v6,rfl,e6,b5⟩;have H:=Za G b5 G.size;refine hKR.out _ _ (Or.inr H) ?_;clear hKR KR;(try simp only [Act.put,pu1,pu2,pu3,pu4,pu5,pu6]);repeat ((first | (refine Zc (v:=?_) rfl rfl rfl ?_ ?_;rotate_left;(· (intro _ P;go_simp;(try go_bits);(try with_reducible rfl)))) | (refine Zg (v:=?_) rfl rfl rfl ?_ ?_;rotate_left;(· (intro _ P;go_simp;(try go_bits);(try with_reducible rfl)))) | refine Zh rfl rfl rfl ?_);(try simp only [Act.put,pu1,pu2,pu3,pu4,pu5,pu6]))
    refine Zd rfl rfl (fun KR hKR=>?_);go_simp;(with_reducible refine (Vj _ _ (canF rr) (canF (yy * f.q)) _ (O.below H) e6 ap ar).mono ?_);rw [Zu,Zu];rintro _ w7 ⟨v7,rfl,e7,b6⟩;have I:=Za H b6 H.size;obtain ⟨B9,l9,k9,a4,a5,a6,rfl,_,_⟩:=id e7;have J:=z.later I;obtain ⟨c0,c1,c2,c3⟩:=J.four;obtain ⟨f0,f1,f2,f3⟩:=J.fourF;refine hKR.out _ _ (Or.inr I) ?_;clear hKR KR;(try simp only [Act.put,pu1,pu2,pu3,pu4,pu5,pu6]);repeat ((first | (refine Zc (v:=?_) rfl rfl rfl ?_ ?_;rotate_left;(· (intro _ P;go_simp;(try go_bits);(try with_reducible rfl)))) | (refine Zg (v:=?_) rfl rfl rfl ?_ ?_;rotate_left;(· (intro _ P;go_simp;(try go_bits);(try with_reducible rfl)))) | refine Zh rfl rfl rfl ?_);(try simp only [Act.put,pu1,pu2,pu3,pu4,pu5,pu6]))
    refine Zd rfl rfl (fun KR hKR=>?_);go_simp;refine hKR.out _ _ (Or.inl (by decide)) ?_;clear hKR KR;(try simp only [Act.put,pu1,pu2,pu3,pu4,pu5,pu6]);refine Zz ?_;clear C0 C1 C2 C3 D0 D1 D2 D3 D4 E0 E1 E2 E3;have av:=J.but4 (.bool (canF (rr - yy * f.q)).num.neg) (.slice B9 l9 k9) (.bool (canF (rr - yy * f.q)).den.neg) (.slice a4 a5 a6);have bo:=(Y.later I).far4 (g':=gt) (by omega) (.bool (canF (rr - yy * f.q)).num.neg) (.slice B9 l9 k9) (.bool (canF (rr - yy * f.q)).den.neg) (.slice a4 a5 a6);have aw:=ZG (Za g I g.size) (Nat.le_of_lt bj) (.bool (canF (rr - yy * f.q)).num.neg) (.slice B9 l9 k9) (.bool (canF (rr - yy * f.q)).den.neg) (.slice a4 a5 a6);have bp:Yai _ gt (Zid p s (j:Int) es (t+1)):=⟨B9,l9,k9,a4,a5,a6,by rw [ab.out,← au.out];exact J.set4 _ _ _ _,by rw [ab.out,← au.out];exact e7.keep (av.keep (by decide))⟩;clear J Y g G H I e6 e7 b5 b6 c0 c1 c2 c3 f0 f1 f2 f3 y ao k a9 O av ap aq B ar z;go_wp2;go_roundw
    case rel=>exact ⟨t+1,by omega,by go_num,aw,bp,bo⟩
    case measure=>simp [intOf];omega
  ·obtain rfl:l=t:=by omega
   rw [T.out,b8.out] at hT;obtain ⟨A6,n6,c6,A7,n7,c7,z,O⟩:=hT;obtain ⟨t0,t1,t2,t3⟩:=z.four;obtain ⟨c0,c1,c2,c3⟩:=hR.four;obtain ⟨f0,f1,f2,f3⟩:=hR.fourF;go_wp2;refine Zn Tryz.results102 Tryz.underlying46 (by kernel_rfl) rfl (hR.set4 _ _ _ _) rfl ?_;exact Z0 hR O L (JY _)
namespace Pl
def Zvx (s:LSt) (D:List RF) (i:Nat):Prop:=0 < qAt D i∨(s.at_ i < 0∧qAt D i≠0)
theorem Zpg {s:LSt} {D:List RF} (h:¬s.phase=2):∀n,Vq s D n=false
 | 0=>by rw [Vq];exact decide_eq_false h
 | n+1=>by rw [Vq];split;rfl;exact Zpg h n
theorem Zlb {s:LSt} {D:List RF} (h:s.phase=2):∀n,(∀i,i < n→¬Zvx s D i)→Vq s D n=true
 | 0,_=>by rw [Vq];exact decide_eq_true h
 | n+1,hh=>by rw [Vq,if_neg (by have:=hh n (by omega);unfold Zvx at this;exact this)];exact Zlb h n fun i hi=>hh i (by omega)
theorem Zeo {s:LSt} {D:List RF} {i:Nat} (h:Zvx s D i):∀n,i < n→Vq s D n=false
 | 0,hi=>absurd hi (by omega)
 | n+1,hi=>by
  rw [Vq]
  by_cases e:i=n
  ·subst e;rw [if_pos (by unfold Zvx at h;exact h)]
  ·split
   ·rfl
   ·exact Zeo h n (by omega)
theorem Zvy {p:LPd} {s:LSt} {j:Nat} (hj:j < p.cols.length) (h:Zeu p s (j:Int) < 0) (hb:∀i,i < j→¬Zeu p s (i:Int) < 0):Zvj p s=some j:=Zap (by omega) (by omega) h fun i _ hi=>hb i hi
theorem Zvz {p:LPd} {s:LSt} (hb:∀i,i < p.cols.length→¬Zeu p s (i:Int) < 0):Zvj p s=none:=Zao fun i _ hi=>hb i (by omega)
end Pl
theorem Zng (e:Nat) (p:LPd) (s:LSt) (K:Nat) (w:World) (h:Zvw w e p s K) (S:s.Fit p) (F:p.Ft K) (hz:lpErr p=0) (hph:s.phase=1∨s.phase=2):
 Calls Tryz.prog 56 #[.pointer (some ⟨e,0,none⟩)] w fun o w'=>∃v',o= .returned (.tuple #[.int .i64 (YR p s),.int .i64 (UA p s),v'])∧Z4 w.heap.size w' v' (VO p s)∧Below w.heap.size w w':=by
 have HR:=JZ h.reg;have HH:=JZ h;obtain ⟨Ab,cb,base,bi,gB,vz,h1,h2,h3,h4⟩:=h;obtain ⟨y3,y4,-,-,-⟩:=h1.cells;have HI:=JZ h2;obtain ⟨A,n,c,A',N,c',ay,az,b0,hB,-,hv,-⟩:=h1;obtain ⟨l1,l2,l3⟩:=hv.len;have HN:=JZ l1;have ai:=JZ (hB.cellAt 1 rfl);obtain ⟨ph,hp⟩:∃ph,ph=s.phase:=⟨_,rfl⟩;have R:=JZ hp;rw [← hp] at hph y3;have a8:=JZ y3;have HF:=JZ F;have HS:=JZ S;have HZ:=JZ hz;have aj:=F.1.cols;have aq:N≤1200:=by omega
 obtain ⟨m,hm⟩:∃m,m=p.right.length:=⟨_,rfl⟩;have a9:=JZ hm;rw [← hm] at y4;have ak:=JZ y4;have ar:m≤7:=by rw [hm];exact F.2.1
 obtain ⟨-,ae,an⟩:=h2.len;rw [← hm] at ae;clear h2 h3 h4 F S hz hB hv l1 aj hm y3 y4 hp;go_enter Tryz.func56,Tryz.ntmps56;go_wp2_with fail;refine (Zla e p s K _ HH.out HS.out HF.out).mono ?_;rintro _ w1 ⟨v1,rfl,e1,a3⟩;have y1:=Zf a3 ai.out;have HD:=JZ e1;obtain ⟨A1,n1,c1,rfl⟩:=e1.sliceN;clear e1;go_wp2;clear y1
 go_loopw [6,20] (fun en x wr=>∃j:Nat,j≤N∧x= .int .i64 j∧en= .int .i64 (-1)∧Below w1.heap.size w1 wr∧∀i,i < j→¬Zeu p s (i:Int) < 0) (fun _ x _=>N - (intOf x).toNat)
 case atStart=>exact ⟨0,by omega,rfl,rfl,JR _ _,fun i hi=>absurd hi (by omega)⟩
 case round=>
  obtain ⟨j,hj,rfl,rfl,d,O⟩:=hrel;have Y:=JZ O;clear O;have G:=Za a3 d a3.size;rcases JX j N with hjl | hjl
  ·have Z:j < p.cols.length:=(by have:=HN.out;omega);have au:(j:Int) < N:=(by omega);go_wp2_with fail;refine (Znf e p s K j _ _ (HH.out.below G) (HD.out.frs.below d) HF.out HZ.out Z).mono ?_;rintro _ w2 ⟨v2,rfl,e2,a4⟩;have y:=Za d a4 d.size;have B:=Za G a4 G.size;have T:qs (Zeu p s (j:Int))=0∨qs (Zeu p s (j:Int))=1∨qs (Zeu p s (j:Int))= -1:=(by have:=Ul (Zeu p s (j:Int));omega);obtain ⟨B1,m1,d1,B2,m2,d2,rfl,_,_⟩:=id e2;clear d G a4;by_cases hn:qs (Zeu p s (j:Int)) < 0
   ·have HE:=JZ (Zvy Z (Zjn.1 hn) Y.out);have hq:qs (Zeu p s (j:Int))= -1:=(by omega);clear T hn;go_wp2_with fail;refine (Zx _ (canF (Zeu p s (j:Int))) _ e2).mono ?_;rw [Zu,hq];rintro _ w3 ⟨rfl,P⟩;have t:=Za B P B.size;have y3:=Zf t a8.out;clear y B P e2 hq;go_wp2_with fail;refine (Zar e p s K j _ (HH.out.below t) HF.out HZ.out Z).mono ?_;rintro _ w4 ⟨v4,rfl,e4,a5⟩;have H:=Za t a5 t.size;have u:Hid (UA p s=(j:Int)):=JZ (XP HE.out).2.1;have U:Hid (dirL p s (j:Int)=VO p s):=JZ (XP HE.out).2.2.symm;have v:Hid (YR p s=if Vq s (dirL p s (j:Int)) (dirL p s (j:Int)).length then 3 else 0):=JZ (XP HE.out).1;have l:Hid ((dirL p s (j:Int)).length=m):=JZ (by rw [a9.out];exact Znc HR.out _);have aa:=e4.monoB t.size;obtain ⟨A4,c4,af⟩:=e4.slice;rw [l.out] at af;subst af;obtain ⟨-,ao,ap⟩:=e4.frs.len;have al:=Zf a5 y3;clear t a5 e4;rcases hph with hp1 | hp2
    ·have r:Hid (YR p s=0):=JZ (by rw [v.out,Zpg (by rw [← R.out];omega)];rfl);have b:=aa;rw [U.out] at b;have a:=H;clear y3;subst hp1;go_wp2;refine bodyPost_ret (results_tmp3 rfl _ _ _) rfl ?_;exact ⟨_,by rw [r.out,u.out];rfl,b,a⟩
    ·subst hp2;clear y3;go_wp2;clear al;have V:=JZ aa
     go_loopw [50] (fun x wr=>∃k:Nat,k≤m∧x= .int .i64 k∧Below w4.heap.size w4 wr∧∀i,i < k→¬Zvx s (dirL p s (j:Int)) i) (fun x _=>m - (intOf x).toNat)
     case atStart=>exact ⟨0,by omega,rfl,JR _ _,fun i hi=>absurd hi (by omega)⟩
     case round=>
      obtain ⟨k,hk,rfl,d,O⟩:=hrel;have a0:=JZ O;clear O;have C:=Za H d H.size;rcases JX k m with hkl | hkl
      ·have av:(k:Int) < m:=(by omega);obtain ⟨f,hf⟩:=Yb (fs:=dirL p s (j:Int)) (i:=k) (by rw [l.out];exact hkl);have HQ:Hid (qAt (dirL p s (j:Int)) k=f.q):=JZ (Yo hf);obtain ⟨b5,o5,A5,n5,c5,A6,n6,c6,rfl,_,⟨x0,x1,x2,x3⟩,ag⟩:=V.out.frs.elem d hf;obtain ⟨W6,am,hV,X⟩:=YN wr (.bool f.num.neg) (.slice A5 n5 c5) (.bool f.den.neg) (.slice A6 n6 c6);obtain ⟨u0,u1,u2,u3⟩:=hV.four;have ab:=ag.below X;have I:=Za d X d.size;have J:=Za C X C.size;have T:qs f.q=0∨qs f.q=1∨qs f.q= -1:=(by have:=Ul f.q;omega);obtain ⟨bb,ob,z,rfl,z0,ah,-,-⟩:=HI.out.at_ (show k < p.right.length by rw [← a9.out];exact hkl);have ac:Hid (s.at_ k=z):=JZ (LSt.at_eq ah);clear hf ag d C hV X ah;go_wp2_with fail;clear am;refine (Zx _ f _ ab).mono ?_;rintro _ w7 ⟨rfl,a6⟩;have D:=Za I a6 I.size;have E:=Za J a6 J.size;have z1:=Zf E z0;have y4:=Zf E ak.out;clear ab I J a6 x0 x1 x2 x3 u0 u1 u2 u3 z0;rcases T with hq | hq | hq
       ·rw [hq];have L:¬Zvx s (dirL p s (j:Int)) k:=by
         unfold Zvx;rw [HQ.out,Yp.1 hq];rintro (g | g)
         ·exact absurd g (by decide)
         ·exact g.2 rfl
        have M:=JZ L;clear hq L;go_wp2;go_roundw
        case rel=>exact ⟨k+1,by omega,by go_num,D,fun i hi=>by
         by_cases g:i=k
         ·rw [g];exact M.out
         ·exact a0.out i (by omega)⟩
        case measure=>simp [intOf];omega
       ·rw [hq];have hh:Zvx s (dirL p s (j:Int)) k:= .inl (by rw [HQ.out];exact Zjo.1 (by omega));have r:Hid (YR p s=0):=JZ (by rw [v.out,Zeo hh _ (by rw [l.out];exact hkl)];rfl);have b:=V.out.below D;rw [U.out] at b;have a:=E;clear hq hh;go_wp2;refine bodyPost_ret (results_tmp3 rfl _ _ _) rfl ?_;exact ⟨_,by rw [r.out,u.out];rfl,b,a⟩
       ·rw [hq];have a1:f.q≠0:=fun g=>by have:=Yp.2 g;omega
        have a2:¬0 < f.q:=fun g=>by have:=Zjo.2 g;omega
        by_cases a7:z < 0
        ·have hh:Zvx s (dirL p s (j:Int)) k:= .inr ⟨by rw [ac.out];exact a7,by rw [HQ.out];exact a1⟩;have r:Hid (YR p s=0):=JZ (by rw [v.out,Zeo hh _ (by rw [l.out];exact hkl)];rfl);have b:=V.out.below D;rw [U.out] at b;have a:=E;clear hq hh a1 a2;go_wp2;refine bodyPost_ret (results_tmp3 rfl _ _ _) rfl ?_;exact ⟨_,by rw [r.out,u.out];rfl,b,a⟩
        ·have L:¬Zvx s (dirL p s (j:Int)) k:=by
          unfold Zvx;rw [HQ.out,ac.out];rintro (g | g)
          ·exact a2 g
          ·exact a7 g.1
         have M:=JZ L;have aw:0≤z:=(by omega);clear hq L a1 a2 a7;go_wp2;go_roundw
         case rel=>exact ⟨k+1,by omega,by go_num,D,fun i hi=>by
          by_cases g:i=k
          ·rw [g];exact M.out
          ·exact a0.out i (by omega)⟩
         case measure=>simp [intOf];omega
      ·obtain rfl:m=k:=by omega
       have r:Hid (YR p s=3):=JZ (by rw [v.out,Zlb R.out.symm _ (by rw [l.out];exact a0.out)];rfl);have b:=V.out.below d;rw [U.out] at b;have a:=C;go_wp2;refine bodyPost_ret (results_tmp3 rfl _ _ _) rfl ?_;exact ⟨_,by rw [r.out,u.out];rfl,b,a⟩
   ·have M:Hid (¬Zeu p s (j:Int) < 0):=JZ fun g=>hn (by have:=Zjn.2 g;omega)
    have ax:0≤qs (Zeu p s (j:Int)):=(by omega);clear T hn;go_wp2_with fail;refine (Zx _ (canF (Zeu p s (j:Int))) _ e2).mono ?_;rw [Zu];rintro _ w3 ⟨rfl,P⟩;have ad:=Za y P y.size;clear y B P e2;go_wp2;go_roundw
    case rel=>exact ⟨j+1,by omega,by go_num,rfl,ad,fun i hi=>by
     by_cases g:i=j
     ·rw [g];exact M.out
     ·exact Y.out i (by omega)⟩
    case measure=>simp [intOf];omega
  ·obtain rfl:N=j:=by omega
   have HE:=JZ (Zvz (p:=p) (s:=s) (by rw [← HN.out];exact Y.out));have u:Hid (UA p s= -1):=JZ (WU HE.out).2.1;have b:Z4 w.heap.size wr (.slice none 0 0) (VO p s):=(by rw [(WU HE.out).2.2];exact Z4.nil _ _);have a:=G;have y3:=Zf G a8.out;have v:Hid (YR p s=if s.phase=1 then 2 else 1):=JZ (WU HE.out).1;rcases hph with hp1 | hp2
   ·have r:Hid (YR p s=2):=JZ (by rw [v.out,if_pos (by rw [← R.out];exact hp1)]);subst hp1;go_wp2;refine bodyPost_ret (results_tmp3 rfl _ _ _) rfl ?_;exact ⟨_,by rw [r.out,u.out];rfl,b,a⟩
   ·have r:Hid (YR p s=1):=JZ (by rw [v.out,if_neg (by rw [← R.out];omega)]);subst hp2;go_wp2;refine bodyPost_ret (results_tmp3 rfl _ _ _) rfl ?_;exact ⟨_,by rw [r.out,u.out];rfl,b,a⟩
namespace Pl
theorem Yft {p:LPd} {s:LSt} (S:s.Fit p) (h1:p.right.length≤7) (h2:p.cols.length≤1200):s.basis.length≤1099511627776∧∀z∈s.basis,-9223372036854775808≤z∧z≤9223372036854775807:=by
 refine ⟨by rw [S.2];omega,fun z hz=>?_⟩;obtain ⟨i,hi⟩:=List.getElem?_of_mem hz;have:=S.1 i z hi;omega
end Pl
namespace Pl
def Gd (p:LPd) (b:Int) (t:LSt):Prop:=Val p t∧ZB p t=t∧t.pivots≤b
theorem Gd.start (p:LPd):Gd p 0 (ZB p (Zbu p)):=⟨(Zvs p).settle,settle_twice,by show (0:Int)≤0;omega⟩
theorem Gd.run {p:LPd} {b:Int} {t:LSt} (h:Gd p b t) (N:Nat):Gd p (b+N) (Zwh p N t):=⟨Zpf h.1,runL_settled h.2.1,by have:=runL_pivots (n:=N) h.1;have:=h.2.2;omega⟩
theorem Gd.rg {p:LPd} {b:Int} {t:LSt} (h:Gd p b t) {K:Nat} (F:p.Ft K):t.basis.length≤1099511627776∧∀z∈t.basis,-9223372036854775808≤z∧z≤9223372036854775807:=Yft h.1.fit F.2.1 F.1.cols
end Pl
end Go.Proofs.YtgbhebappffbdaaGreat
