/- Lemmas of the claim; no condition. -/
import Derived.Test.YtncmobkhenfhpaaGreatE20
set_option linter.all false
set_option maxRecDepth 100000
set_option maxHeartbeats 40000000
namespace Go.Proofs.YtncmobkhenfhpaaGreat
open Go.RowKit
open Pl
attribute [local go_sem ↓] Go.wp_at_zero Go.wp_at_succ
namespace Pl
theorem Zsk {es:List En} {e:En}:∀{a:Int},Inc (some a) (es++[e])→a < e.idx:=by
 induction es with
 | nil=>intro a h;have:=h.1;simp [leP] at this;omega
 | cons d es ih=>intro a h;have h1:=h.1;have h2:=ih h.2;simp [leP] at h1;omega
theorem Zsl {es:List En} {e:En}:∀{p:Option Int},Inc p (es++[e])→Inc p es∧∀(k:Nat) (d:En),es[k]? =some d→d.idx < e.idx:=by
 induction es with
 | nil=>intro p _;exact ⟨trivial,fun k d h=>by simp at h⟩
 | cons c es ih=>
  intro p h;obtain ⟨h1,h2⟩:=ih h.2;refine ⟨⟨h.1,h1⟩,fun k d hd=>?_⟩
  cases k with
  | zero=>simp at hd;subst hd;exact Zsk h.2
  | succ k=>exact h2 k d (by simpa using hd)
theorem Zzn {n:Nat} {es:List En} (h:∀(k:Nat) (e:En),es[k]? =some e→e.idx≠(n:Int)):XG es n=0:=by
 have a:∀(es:List En) (f:Nat→Rat),(∀(k:Nat) (e:En),es[k]? =some e→e.idx≠(n:Int))→dQ es f n=f n:=by
  intro es
  induction es with
  | nil=>intro f _;rfl
  | cons c es ih=>
   intro f h;rw [dQ,ih _ fun k e he=>h (k+1) e (by simpa using he),if_neg (h 0 c rfl)]
 exact a es _ h
theorem cpyV_spV:∀{n:Nat} {es:List En},Good n es→Zme es=spV (XG es) n
 | 0,[],_=>rfl
 | 0,e::es,h=>by have:=h.1 0 e rfl;omega
 | n+1,es,h=>by
  rcases List.eq_nil_or_concat es with rfl | ⟨ds,e,he0⟩
  ·have h0:Good n ([]:List En):=⟨fun k e h=>by simp at h,trivial,fun k e h=>by simp at h⟩
   rw [Xp rfl]
   exact cpyV_spV h0
  ·rw [List.concat_eq_append] at he0
   subst he0
   obtain ⟨h1,h2,h3⟩:=h
   obtain ⟨i1,i2⟩:=Zsl h2
   have he:(ds++[e])[ds.length]? =some e:=by simp
   have e1:=h1 _ e he
   have hl:∀(k:Nat) (d:En),ds[k]? =some d→(ds++[e])[k]? =some d:=fun k d hd=>by
    rw [List.getElem?_append_left (List.getElem?_eq_some_iff.1 hd).1];exact hd
   have hc:∀i,XG (ds++[e]) i=if e.idx=(i:Int) then e.f.q else XG ds i:=fun i=>by unfold XG;rw [Zhw]
   by_cases g:e.idx=(n:Int)
   ·have hd:Good n ds:=⟨fun k d hd=>by have:=i2 k d hd;have:=h1 k d (hl k d hd);omega,i1,fun k d hd=>h3 k d (hl k d hd)⟩
    have hn:XG (ds++[e]) n=e.f.q:=by rw [hc,if_pos g]
    rw [XI (by rw [hn];exact h3 _ e he),hn,XJ (g:=XG ds) fun i hi=>by rw [hc,if_neg (by omega)],← cpyV_spV hd]
    unfold Zme
    rw [List.map_append]
    simp [g]
   ·have hd:Good n (ds++[e]):=⟨fun k d hd=>by
     have:=h1 k d hd
     rcases JX k ds.length with hk | hk
     ·rw [List.getElem?_append_left hk] at hd
      have:=i2 k d hd;omega
     ·rw [List.getElem?_append_right hk] at hd
      have a:k - ds.length=0:=by
       rcases JV (k - ds.length) with e | e
       ·exact e
       ·rw [JU (by simp;omega)] at hd;cases hd
      rw [a] at hd;simp at hd;subst hd;omega,h2,h3⟩
    rw [Xp (Zzn fun k d hk=>by have:=hd.1 k d hk;omega)];exact cpyV_spV hd
end Pl
section
def Zgw [Old] (base bi:Nat) (w:World) (v:Value) (T n:Nat) (k:Nat→Nat) (im:Mx):Prop:=
 ∃cs,w.ownsRow base 146 2 v T cs∧∀t,t < T→∃u,cs[t * 2]? =some (.int .i64 (k t:Int))∧cs[t * 2+1]? =some u∧Yd bi w u (Z7 n (im t))
section
variable {base bi:Nat} {w w':World} {v:Value} {T n:Nat} {k:Nat→Nat} {im:Mx}
theorem Zgw.below [Old] (h:Zgw base bi w v T n k im) (hb:Below w.heap.size w w'):Zgw base bi w' v T n k im:=by
 obtain ⟨cs,h1,h2⟩:=h;exact ⟨cs,own_below h1 hb,fun t ht=>by
  obtain ⟨u,e1,e2,e3⟩:=h2 t ht;exact ⟨u,e1,e2,e3.below hb⟩⟩
theorem Zgw.but [Old] {e:TypeId} (h:Zgw base bi w v T n k im) (hk:Ze e w w') (h1:146≠e) (h2:48≠e) (h3:123≠e):Zgw base bi w' v T n k im:=by
 obtain ⟨cs,g1,g2⟩:=h;exact ⟨cs,hk.own g1 h1,fun t ht=>by
  obtain ⟨u,e1,e2,e3⟩:=g2 t ht;exact ⟨u,e1,e2,e3.but hk h2 h3⟩⟩
theorem Zgw.farF [Old] (h:Zgw base bi w v T n k im) {g:Nat} (ho:Z6 (some g) w w') (hk:Ze 48 w w') (hg:g < bi):Zgw base bi w' v T n k im:=by
 obtain ⟨cs,g1,g2⟩:=h;exact ⟨cs,hk.own g1 (by decide),fun t ht=>by
  obtain ⟨u,e1,e2,e3⟩:=g2 t ht;exact ⟨u,e1,e2,e3.others ho (hk.keep (by decide)) fun b hb e=>by
   have:=e3.own_ge b hb;injection e with e;omega⟩⟩
theorem Zgw.nil [Old] (base bi:Nat) (w:World) (n:Nat) (k:Nat→Nat) (im:Mx):Zgw base bi w (.slice none 0 0) 0 n k im:=⟨[],World.ownsRow_nil _ _ _ _,fun t ht=>absurd ht (by omega)⟩
end
def Zca [Old] (base bi:Nat) (w:World) (g n K:Nat) (Cs:Mx):Prop:=
 ∃(T gc cc:Nat) (k R C:Nat→Nat) (im V L Um:Mx) (CC:Nat→Mx) (s0 s1 s2 s3 vu:Value),
  Bk w g 142 [.int .i64 (n:Int),.slice (some ⟨gc,0,none⟩) n cc,s0,s1,s2,s3,vu]∧(base≤g∧T≤16∧5^n * K≤4000000∧CC T=Cs)∧Ups n K T k im V CC∧Znn n (5^n * K) (trM (CC 0)) R C L Um∧
  Yy base w (.slice (some ⟨gc,0,none⟩) n cc) (vcL n Cs)∧ZI base w s0 (Zle n R)∧ZI base w s1 (Zle n C)∧Yy (gc+1) w s2 (vcL n L)∧Yy (gc+1) w s3 (vcL n Um)∧Zgw base bi w vu T n k im
section
variable {base bi g n K:Nat} {w w':World} {Cs:Mx}
theorem Zca.below [Old] (h:Zca base bi w g n K Cs) (hb:Below w.heap.size w w'):Zca base bi w' g n K Cs:=by
 obtain ⟨T,gc,cc,k,R,C,im,V,L,Um,CC,s0,s1,s2,s3,vu,h1,h2,h3,h4,h5,h6,h7,h8,h9,a⟩:=h;exact ⟨T,gc,cc,k,R,C,im,V,L,Um,CC,s0,s1,s2,s3,vu,h1.later hb,h2,h3,h4,h5.below hb,h6.below hb,h7.below hb,h8.below hb,h9.below hb,a.below hb⟩
theorem Zca.but [Old] {e:TypeId} (h:Zca base bi w g n K Cs) (hk:Ze e w w') (e1:142≠e) (e2:72≠e) (e3:87≠e) (e4:123≠e) (e5:3≠e) (e6:146≠e) (e7:48≠e):Zca base bi w' g n K Cs:=by
 obtain ⟨T,gc,cc,k,R,C,im,V,L,Um,CC,s0,s1,s2,s3,vu,h1,h2,h3,h4,h5,h6,h7,h8,h9,a⟩:=h;exact ⟨T,gc,cc,k,R,C,im,V,L,Um,CC,s0,s1,s2,s3,vu,hk.bk h1 e1,h2,h3,h4,h5.but hk e2 e3 e4,h6.but hk e5,h7.but hk e5,h8.but hk e2 e3 e4,h9.but hk e2 e3 e4,a.but hk e6 e7 e4⟩
theorem Zca.farF [Old] (h:Zca base bi w g n K Cs) {b:Nat} (ho:Z6 (some b) w w') (hk:Ze 48 w w') (hb:b < bi):Zca base bi w' g n K Cs:=by
 obtain ⟨T,gc,cc,k,R,C,im,V,L,Um,CC,s0,s1,s2,s3,vu,h1,h2,h3,h4,h5,h6,h7,h8,h9,a⟩:=h;exact ⟨T,gc,cc,k,R,C,im,V,L,Um,CC,s0,s1,s2,s3,vu,hk.bk h1 (by decide),h2,h3,h4,h5.but hk (by decide) (by decide) (by decide),h6.but hk (by decide),h7.but hk (by decide),h8.but hk (by decide) (by decide) (by decide),h9.but hk (by decide) (by decide) (by decide),a.farF ho hk hb⟩
theorem ZI.ge {base:Nat} {w:World} {v:Value} {zs:List Int} (h:ZI base w v zs):∀b,v.ownBlock=some b→base≤b:=by
 intro b hb;rcases h.1.2 with ⟨rfl,_⟩ | ⟨g',cap,cur,rfl,hb',_⟩
 ·simp [Value.ownBlock] at hb
 ·simp [Value.ownBlock] at hb;omega
theorem Zca.farI [Old] (h:Zca base bi w g n K Cs) {b:Nat} (ho:Z6 (some b) w w') (hk:Ze 3 w w') (hb:b < base):Zca base bi w' g n K Cs:=by
 obtain ⟨T,gc,cc,k,R,C,im,V,L,Um,CC,s0,s1,s2,s3,vu,h1,h2,h3,h4,h5,h6,h7,h8,h9,a⟩:=h;exact ⟨T,gc,cc,k,R,C,im,V,L,Um,CC,s0,s1,s2,s3,vu,hk.bk h1 (by decide),h2,h3,h4,h5.but hk (by decide) (by decide) (by decide),h6.others ho (fun x hx e=>by have:=h6.ge x hx;injection e with e;omega),h7.others ho (fun x hx e=>by have:=h7.ge x hx;injection e with e;omega),h8.but hk (by decide) (by decide) (by decide),h9.but hk (by decide) (by decide) (by decide),a.but hk (by decide) (by decide) (by decide)⟩
theorem ZI.nshape {base:Nat} {w:World} {v:Value} {n:Nat} {R:Nat→Nat} (h:ZI base w v (Zle n R)):∃A c,v= .slice A n c:=by
 obtain ⟨A,m,c,rfl⟩:=h.sliceN;have:=h.len;rw [Zex] at this;subst this;exact ⟨A,c,rfl⟩
theorem Yy.nshape [Old] {base:Nat} {w:World} {v:Value} {n:Nat} {L:Mx} (h:Yy base w v (vcL n L)):∃A c,v= .slice A n c:=by
 obtain ⟨A,c,rfl⟩:=h.slice;rw [XR];exact ⟨A,c,rfl⟩
theorem Yav [Old] {w:World} {g n:Nat} {vn vc s0 s1 s2 s3 vu:Value} {R C:Nat→Nat} {L Um:Mx} {b0 b1 b2 b3:Nat} (h:Bk w g 142 [vn,vc,s0,s1,s2,s3,vu]) (h6:ZI b0 w s0 (Zle n R)) (h7:ZI b1 w s1 (Zle n C)) (h8:Yy b2 w s2 (vcL n L)) (h9:Yy b3 w s3 (vcL n Um)):Yed w g 2 n R C L Um:=by
 obtain ⟨A0,c0,rfl⟩:=h6.nshape;obtain ⟨A1,c1,rfl⟩:=h7.nshape;obtain ⟨A2,c2,rfl⟩:=h8.nshape;obtain ⟨A3,c3,rfl⟩:=h9.nshape;exact ⟨A0,c0,A1,c1,A2,c2,A3,c3,⟨h.cellAt 2 rfl,h.cellAt 3 rfl,h.cellAt 4 rfl,h.cellAt 5 rfl⟩,h6.ints,h7.ints,h8.vecs,h9.vecs⟩
end
namespace Pl
theorem Good.enI {n:Nat} {es:List En} (h:Good n es) (hn:n≤4096):EnI es:=fun k e he=>by have:=h.1 k e he;omega
end Pl
def Ygw [Old] (n K:Nat) (Cs:Mx) (w:World) (o:Ending) (w':World):Prop:=
 Below w.heap.size w w'∧((∃g,o= .returned (.tuple #[.pointer (some ⟨g,0,none⟩),.int .i64 0])∧Xf n Cs∧∀bi,Zca w.heap.size bi w' g n K Cs)∨(o= .returned (.tuple #[.pointer none,.int .i64 13])∧¬Xf n Cs))
end
theorem Zzo [Old] (v:Value) (n K:Nat) (cols:List (List En)) (Cs:Mx) (w:World) (h:Xz w v cols) (hl:cols.length=n) (hn:n≤7) (hK:1≤K) (hE:5^n * K≤4000000) (hg:∀(k:Nat) (c:List En),cols[k]? =some c→Pl.Good n c∧∀(j:Nat) (e:En),c[j]? =some e→e.f.Rs K) (hCs:∀(k:Nat) (c:List En),cols[k]? =some c→Cs k=XG c) (hOl:Zb w:=by (repeat (first | assumption | exact Zb.up (by assumption) hOl | exact Zb.up (Hid.out (by assumption)) hOl | with_reducible refine Zb.set ?_ _ _ | with_reducible refine Zb.mk_ ?_ _ | with_reducible refine Zb.dr ?_ | with_reducible refine Zb.drN ?_ | refine Zb.up (by assumption) ?_ | refine Zb.up (Hid.out (by assumption)) ?_))):
 Calls Tryz.prog 85 #[.int .i64 (n:Int),v] w (Ygw n K Cs w):=by
 have a2:=hOl.le;obtain ⟨A,c,rfl,Z,a6⟩:=h.shape;rw [hl] at h Z ⊢;have HV:=JZ h;have HG:=JZ hg;have HL:=JZ hl;have HK:=JZ hK;have HE:=JZ hE;have F:Hid (∀r c,r < n→c < n→Sz K (Cs c r)):=JZ fun r c hr hc=>by
  obtain ⟨d,hd⟩:=Y8 (cs:=cols) (i:=c) (by omega);rw [hCs c d hd];exact Sz_col (hg c d hd).2 hK r
 have a3:K≤4000000:=JW (Nat.le_mul_of_pos_left K (Nat.pow_pos (by decide))) hE;have a4:=Zew n (by omega);have B:=Yy.zeros w n (by unfold maxLen;omega);have G:=Zc w (.cells (zvc n) 72);rw [Zfe (L:=Cs)] at B;have T:=JZ hCs;clear h hg hl hK hE hCs;go_enter Tryz.func85,Tryz.ntmps85;go_wp2;generalize w.alloc (.cells (zvc n) 72)=W at *
 go_loopw [26] (fun x wr=>∃k:Nat,k≤n∧x= .int .i64 k∧Yy w.heap.size wr (.slice (some ⟨w.heap.size,0,none⟩) n n) (Zsm n k Cs)∧Below w.heap.size w wr) (fun x _=>n - (intOf x).toNat)
 case atStart=>exact ⟨0,by omega,rfl,B,G⟩
 case round=>
  clear B G;obtain ⟨k,hk,rfl,hO,g⟩:=hrel;rcases JX k n with hkl | hkl
  ·obtain ⟨es,u⟩:=Y8 (cs:=cols) (i:=k) (by rw [HL.out];exact hkl);obtain ⟨q,P⟩:=HG.out k es u;obtain ⟨b,a7,A1,c1,rfl,_,x0,hv⟩:=HV.out.elem g u;have a5:(k:Int) < n:=(by omega);have HM:=JZ (T.out k es u);have HC:=JZ (cpyV_spV q);have U:Hid (vecErr es (n:Int)=0):=JZ (q.err (by omega));have V:=JZ P;have H:=q.enI (by omega);have X:Hid (es.length≤1099511627776):=JZ (by
    have e1:(Zme es).length=es.length:=(by simp [Zme]);rw [cpyV_spV q] at e1;have:=Wt (f:=XG es) n;omega)
   clear u q P;go_wp2_with fail;refine (XE _ es (n:Int) _ hv H (by omega) (by omega)).mono ?_;rw [U.out];rintro _ w1 ⟨rfl,l⟩;have I:=hv.below l;have s:=hO.below l;have a:=Za g l g.size;clear hv hO g l x0 H;go_wp2_with fail;refine (UJ _ es K _ I V.out (by omega) X.out).mono ?_;rintro _ w2 ⟨v2,rfl,e2,E⟩;rw [HC.out,← HM.out] at e2;have D:=s.below E;have y:=Za a E a.size;obtain ⟨_,m0,m1,-⟩:=D.at_ (Zbd (t:=k) (L:=Cs) hkl);obtain ⟨S,_⟩:=D.set_ (k:=k) (by rw [WK];exact hkl) e2.vec;rw [Zis hkl] at S;have J:=y.setCell (p:=⟨w.heap.size,k,none⟩) (JY _) v2;obtain ⟨A2,n2,c2,rfl⟩:∃A n c,v2= .slice A n c:=by obtain ⟨A,c,e,_⟩:=e2.vec.shape;exact ⟨A,_,c,e⟩
   clear I s D a y e2 E;go_wp2;go_roundw
   case rel=>exact ⟨k+1,by omega,by go_num,S,J⟩
   case measure=>simp [intOf];omega
  ·obtain rfl:n=k:=by omega
   rw [Zqi] at hO;have HO:=JZ hO;go_wp2_with fail;refine (Zbe _ n K _ _ hO.vecs (by omega) HK.out HE.out F.out).mono ?_;clear hO;rintro _ w1 ⟨l,⟨R,C,L,Um,s0,s1,s2,s3,rfl,hF,h0,h1,h2,h3⟩ | ⟨rfl,a1⟩⟩
   ·have s:=HO.out.below l;have a:=Za g l g.size;have M:=g.size;have N:w.heap.size < wr.heap.size:=by
     obtain ⟨cs,hh,_⟩:=HO.out;exact Ue hh w.heap.size rfl
    have z:Xf n Cs:=hF.fac.indep;have O:=JZ z;have HF:=JZ hF;obtain ⟨A0,c0,rfl⟩:=h0.nshape;obtain ⟨A1,c1,rfl⟩:=h1.nshape;obtain ⟨A2,c2,rfl⟩:=h2.nshape;obtain ⟨A3,c3,rfl⟩:=h3.nshape;have hX:=Bk.new w1 137 [.slice A0 n c0,.slice A1 n c1,.slice A2 n c2,.slice A3 n c3];have o:=Zc w1 (.cells #[.slice A0 n c0,.slice A1 n c1,.slice A2 n c2,.slice A3 n c3] 137);clear hF z g;obtain ⟨W2,a0,hX,o⟩:∃W2,w1.alloc (.cells #[.slice A0 n c0,.slice A1 n c1,.slice A2 n c2,.slice A3 n c3] 137)=W2∧Bk W2 w1.heap.size 137 [.slice A0 n c0,.slice A1 n c1,.slice A2 n c2,.slice A3 n c3]∧Below w1.heap.size w1 W2:=⟨_,rfl,hX,o⟩;obtain ⟨x0,x1,x2,x3⟩:=hX.four;go_wp2;clear a0 x0 x1 x2 x3 hX;have hY:=Bk.new W2 142 [.int .i64 (n:Int),.slice (some ⟨w.heap.size,0,none⟩) n n,.slice A0 n c0,.slice A1 n c1,.slice A2 n c2,.slice A3 n c3,.slice none 0 0];have Y:=Zc W2 (.cells #[.int .i64 (n:Int),.slice (some ⟨w.heap.size,0,none⟩) n n,.slice A0 n c0,.slice A1 n c1,.slice A2 n c2,.slice A3 n c3,.slice none 0 0] 142);have m:=Za o Y o.size;go_ret2;refine ⟨Za a m a.size,.inl ⟨_,rfl,O.out,fun bi=>⟨0,w.heap.size,n,fun _=>0,R,C,fun _ _=>0,fun _ _=>0,L,Um,fun _=>Cs,_,_,_,_,_,hY,⟨JW a.size o.size,by omega,HE.out,rfl⟩,Ups.zero F.out O.out _ _ _,HF.out,s.below m,(h0.below m).monoB M,(h1.below m).monoB M,(h2.below m).monoB N,(h3.below m).monoB N,Zgw.nil _ _ _ _ _ _⟩⟩⟩
   ·have a:=Za g l g.size;clear g l;go_wp2;go_ret2;exact ⟨Za a (Zc _ _) a.size,.inr ⟨rfl,a1⟩⟩
namespace Pl
def Zdh (k:Nat) (im x:Nat→Rat) (i:Nat):Nat→Rat:=fun j=>if j=k then x k / im k else if j < i then x j - im j * (x k / im k) else x j
theorem Zzp {k n:Nat} {im x:Nat→Rat} {j:Nat} (hj:j < n):Zdh k im x n j=Zrz k im x j:=by
 unfold Zdh Zrz;by_cases e:j=k
 ·rw [if_pos e,if_pos e]
 ·rw [if_neg e,if_neg e,if_pos hj]
theorem Zls {k i:Nat} {im x:Nat→Rat} (h:i=k∨im i=0) (j:Nat):Zdh k im x i j=Zdh k im x (i+1) j:=by
 unfold Zdh;by_cases e:j=k
 ·rw [if_pos e,if_pos e]
 ·rw [if_neg e,if_neg e];by_cases e2:j < i
  ·rw [if_pos e2,if_pos (by omega)]
  ·rw [if_neg e2];by_cases e3:j=i
   ·subst e3;rw [if_pos (by omega)];rcases h with h | h
    ·exact absurd h e
    ·rw [h];grind
   ·rw [if_neg (by omega)]
theorem Zvz {k i:Nat} {im x:Nat→Rat} (h:i≠k) (j:Nat):Zdh k im x (i+1) j=if j=i then x i - im i * (x k / im k) else Zdh k im x i j:=by
 unfold Zdh;by_cases e:j=i
 ·subst e;rw [if_pos rfl,if_neg h,if_pos (by omega)]
 ·rw [if_neg e];by_cases e2:j=k
  ·rw [if_pos e2,if_pos e2]
  ·rw [if_neg e2,if_neg e2];by_cases e3:j < i
   ·rw [if_pos e3,if_pos (by omega)]
   ·rw [if_neg e3,if_neg (by omega)]
theorem Zwa {k i:Nat} {im x:Nat→Rat} (h:i≠k):Zdh k im x i i=x i:=by unfold Zdh;rw [if_neg h,if_neg (by omega)]
theorem Yfl {k i:Nat} {im x:Nat→Rat}:Zdh k im x i k=x k / im k:=by unfold Zdh;rw [if_pos rfl]
end Pl
theorem Zgw.shape [Old] {base bi:Nat} {w:World} {v:Value} {T n:Nat} {k:Nat→Nat} {im:Mx} (h:Zgw base bi w v T n k im):∃A c,v= .slice A T c∧T≤c∧c≤9223372036854775807:=by
 obtain ⟨cs,h1,_⟩:=h;exact (Vv.of_own h1).shape
theorem Zgw.elem [Old] {base bi:Nat} {w wr:World} {A:Option Addr} {c T n:Nat} {k:Nat→Nat} {im:Mx} (h:Zgw base bi w (.slice A T c) T n k im) (hb:Below w.heap.size w wr) {t:Nat} (ht:t < T):
 ∃gu B d,A=some ⟨gu,0,none⟩∧gu < w.heap.size∧(wr.cell? ⟨gu,t * 2,none⟩=some (.int .i64 (k t:Int))∧wr.cell? ⟨gu,t * 2+1,none⟩=some (.slice B n d))∧(n≤d∧d≤9223372036854775807)∧WA wr (.slice B n d) (Z7 n (im t)):=by
 obtain ⟨cs,h1,h2⟩:=h;obtain ⟨u,e1,e2,e3⟩:=h2 t ht;obtain ⟨B,d,rfl⟩:=e3.slice;rw [Zi] at e2 e3;rcases h1.2 with ⟨e,hz⟩ | ⟨g',cap,cur,hv,hb',hg,hnc,hcm,hcs,htake⟩
 ·omega
 ·injection hv with a1 a2 a3;subst a1;obtain ⟨_,l2,l3⟩:=e3.frs.len;exact ⟨g',B,d,rfl,Yo hg,⟨Zg hb (ZP h1 e1).1,Zg hb (ZP h1 e2).1⟩,⟨l2,l3⟩,e3.frs.below hb⟩
theorem Zgx [Old] (base bi g n K:Nat) (Cs:Mx) (vc:Value) (b:Nat→Rat) (w:World) (hB:Zca base bi w g n K Cs) (h2:WA w vc (Z7 n b)) (hb:∀i,i < n→Sz K (b i)) (hOl:Zb w:=by (repeat (first | assumption | exact Zb.up (by assumption) hOl | exact Zb.up (Hid.out (by assumption)) hOl | with_reducible refine Zb.set ?_ _ _ | with_reducible refine Zb.mk_ ?_ _ | with_reducible refine Zb.dr ?_ | with_reducible refine Zb.drN ?_ | refine Zb.up (by assumption) ?_ | refine Zb.up (Hid.out (by assumption)) ?_))) (hO:Old.n≤base:=by first | assumption | exact Nat.zero_le _ | omega | ((first | with_reducible refine Zb.le ?_ | with_reducible refine Zb.le1 ?_ | with_reducible refine Zb.le2 ?_ | with_reducible refine Zb.le3 ?_);repeat (first | assumption | exact Zb.up (by assumption) hOl | exact Zb.up (Hid.out (by assumption)) hOl | with_reducible refine Zb.set ?_ _ _ | with_reducible refine Zb.mk_ ?_ _ | with_reducible refine Zb.dr ?_ | with_reducible refine Zb.drN ?_ | refine Zb.up (by assumption) ?_ | refine Zb.up (Hid.out (by assumption)) ?_))):
 Calls Tryz.prog 122 #[.pointer (some ⟨g,0,none⟩),vc] w fun o w'=>∃v' x,o= .returned v'∧(∀r,r < n→Xw n Cs x r=b r)∧(∀i,i < n→Sz (5^n * K) (x i))∧Yd w.heap.size w' v' (Z7 n x)∧Below w.heap.size w w':=by
 have d4:=hOl.le;obtain ⟨T,gc,cc,k,R,C,im,V,L,Um,CC,s0,s1,s2,s3,vu,hX,⟨db,hT,hE,bs⟩,hU,hF,hO,i0,i1,v2,v3,ay⟩:=hB;obtain ⟨Au,cu,rfl,cy,cz⟩:=ay.shape;have al:=Yav hX i0 i1 v2 v3;obtain ⟨x0,P⟩:∃x0,x0=solQ n R C L Um b:=⟨_,rfl⟩;have ad:∀r,r < n→Xw n (CC 0) x0 r=b r:=by rw [P];exact hF.fac.solQ b
 have ap:=JZ (hU.xB ad hb);have ba:=JZ (hU.solves ad T (JY _));have ce:=JZ hU.imB;have cf:=JZ hU.kn;have cg:=JZ hU.nz;have HE:=JZ hE;have ch:Hid (K≤5^n * K):=JZ (Nat.le_mul_of_pos_left K (Nat.pow_pos (by decide)));have ci:=JZ bs;have bb:=JZ ay;have cj:∀i,i < n→Sz (5^n * K) (solQ n R C L Um b i):=fun i hi=>by rw [← P];exact hU.xB ad hb 0 (Nat.zero_le _) i hi
 have ck:=JZ P;obtain ⟨y0,y1⟩:w.cell? ⟨g,6,none⟩=some (.slice Au T cu)∧w.cell? ⟨g,0,none⟩=some (.int .i64 (n:Int)):=⟨hX.cellAt 6 rfl,hX.cellAt 0 rfl⟩;have d5:=hF.n7;have HF:=JZ hF;have cl:=JZ al;have cm:K≤30 * (5^n * K):=by have:=ch.out;omega
 clear hU ad hE bs ay hX hO i0 i1 v2 v3 al hF P;go_enter Tryz.func122,Tryz.ntmps122;go_wp2_with fail;refine (Zlh g 2 vc n (5^n * K) K (trM (CC 0)) R C L Um b _ cl.out h2 HF.out hb cm cj).mono ?_;rintro _ w1 ⟨v1,rfl,e1,b8⟩;rw [← ck.out] at e1;obtain ⟨A5,c5,bt⟩:=e1.slice;rw [Zi] at bt;subst bt;obtain ⟨-,d0,d3⟩:=e1.frs.len;have y2:=Zg b8 y0;clear y0 y1 h2;go_wp2;clear y2
 go_loopw [19] (fun x wr=>∃t:Nat,t≤T∧x= .int .i64 t∧Yd w.heap.size wr (.slice A5 n c5) (Z7 n (xN k im x0 t))∧Below w.heap.size w wr) (fun x _=>T - (intOf x).toNat)
 case atStart=>exact ⟨0,by omega,rfl,e1,b8⟩
 case round=>
  clear e1 b8;obtain ⟨t,ht,rfl,hO,a⟩:=hrel;rcases JX t T with htl | htl
  ·have A:=cf.out t htl;obtain ⟨gx,cx,bu,bv,cv,-,-⟩:=hO.shape (by rw [Zi];omega);rw [Zi] at bu;injection bu with a1 a2 a3;subst a1;clear a2 a3 cx;obtain ⟨gu,B,d,rfl,-,⟨u0,u1⟩,⟨d1,d2⟩,az⟩:=bb.out.elem a htl;obtain ⟨X,a9⟩:∃X,X=xN k im x0 t:=⟨_,rfl⟩;obtain ⟨M,O⟩:∃M,M=im t:=⟨_,rfl⟩;obtain ⟨kt,aa⟩:∃kt,kt=k t:=⟨_,rfl⟩;have am:Hid (Z7 n (xN k im x0 (t+1))=Z7 n (Zrz kt M X)):=JZ (by rw [a9,O,aa];rfl);have bc:Hid (∀i,i < n→Sz (5^n * K) (X i)):=JZ fun i hi=>by rw [a9];exact ap.out t ht i hi
   have aq:Hid (∀i,i < n→Sz (5^n * K) (M i)):=JZ fun i hi=>by rw [O];exact ce.out t htl i hi
   have cn:Hid (∀i,i < n→Sz (5^n * K) (Zrz kt M X i)):=JZ fun i hi=>by
    have:=ap.out (t+1) (by omega) i hi;rw [a9,O,aa];exact this
   have co:Hid (M kt≠0):=JZ (by rw [O,aa];exact cg.out t htl);rw [← a9] at hO;rw [← O] at az;have bd:Hid (WA w (.slice B n d) (Z7 n M)):=JZ (by
    obtain ⟨_,B',d',ab,-,⟨-,e2⟩,-,h3⟩:=bb.out.elem (JR _ _) htl;injection ab with ab;injection ab with ab;subst ab;have e3:=Zg a e2;rw [u1] at e3;injection e3 with e3;injection e3 with b1 b2 b3;subst b1 b3;rw [O];exact h3)
   rw [← aa] at A u0;clear a9 O aa;obtain ⟨W1,bw,hV,b0⟩:∃W1,wr.alloc (.cells #[.int .i64 (kt:Int),.slice B n d] 146)=W1∧Bk W1 wr.heap.size 146 [.int .i64 (kt:Int),.slice B n d]∧Below wr.heap.size wr W1:=⟨_,rfl,Bk.new wr _ _,Zc wr _⟩;have S:=hO.below b0;have U:=az.below b0;have u:=Za a b0 a.size;obtain ⟨l,m,_,_⟩:=hV.two;have Y:(Z7 n X)[kt]? =some (canF (X kt)):=ZC A;obtain ⟨bz,oz,A6,n6,c6,A7,n7,c7,hA,_,⟨t0,t1,t2,t3⟩,c⟩:=S.frs.elem (JR _ _) Y;injection hA with hA;injection hA with hA1 hA2;subst hA1;subst hA2;simp only [Nat.zero_add] at t0 t1 t2 t3;have d6:(kt:Int) < n:=(by omega);have d7:(t:Int) < T:=(by omega);have Z:qs (X kt)=0∨qs (X kt)=1∨qs (X kt)= -1:=(by have:=Vb (X kt);omega);clear hO a az;by_cases p:qs (X kt)=0
   ·have cp:=JZ (ZW.1 p);clear Z;go_wp2_with fail;clear bw;refine (Zz _ (canF (X kt)) _ c).mono ?_;rw [Zu,p];rintro _ w2 ⟨rfl,s⟩;have a0:=S.below s;have F:=Za u s u.size;clear S u U hV t0 t1 t2 t3 c l m u0 u1 s p;go_wp2;go_roundw
    case rel=>exact ⟨t+1,by omega,by go_num,by rw [am.out,ZR fun i hi=>Zvf cp.out i];exact a0,F⟩
    case measure=>simp [intOf];omega
   ·have ar:(qs (X kt)==0)=false:=(by simpa using p);clear Z p;go_wp2_with fail;clear bw;refine (Zz _ (canF (X kt)) _ c).mono ?_;rw [Zu];rintro _ w2 ⟨rfl,s⟩;have a0:=S.below s;have an:=U.below s;have au:=hV.later s;have F:=Za u s u.size;have be:=c.below s;have d8:w.heap.size < wr.heap.size∧gx < wr.heap.size:=⟨by omega,cv⟩;clear S u U hV t0 t1 t2 t3 c l m u0 u1;obtain ⟨l,m,_,_⟩:=au.two;obtain ⟨bz,oz,A6,n6,c6,A7,n7,c7,hA,_,⟨t0,t1,t2,t3⟩,c⟩:=a0.frs.elem (JR _ _) Y;injection hA with hA;injection hA with hA1 hA2;subst hA1;subst hA2;simp only [Nat.zero_add] at t0 t1 t2 t3;obtain ⟨bm,om,A8,n8,c8,A9,n9,c9,rfl,_,⟨z0,z1,z2,z3⟩,b4⟩:=an.elem (JR _ _) (ZC A);obtain ⟨xk,ae⟩:∃xk,xk=X kt:=⟨_,rfl⟩;obtain ⟨mk,G⟩:∃mk,mk=M kt:=⟨_,rfl⟩;have cq:=JZ ae;have cr:=JZ G;have a4:(canF xk).Sm:=(by rw [ae];exact (bc.out kt A).rs.sm (by have:=HE.out;omega));have bf:(canF mk).Sm:=(by rw [G];exact (aq.out kt A).rs.sm (by have:=HE.out;omega));have bg:(canF mk).q≠0:=(by rw [Zu,G];exact co.out);rw [← ae] at t0 t2 c Y;rw [← G] at z0 z2 b4;have hO:=a0;clear ae G a0 an be s;have cs:Hid ((Z7 n X).set kt (canF (xk / mk))=Z7 n (Zdh kt M X 0)):=JZ (by
     rw [XF A];exact ZR fun i hi=>by
      unfold Zdh;rw [cq.out,cr.out];by_cases e:i=kt
      ·rw [if_pos e,if_pos e]
      ·rw [if_neg e,if_neg e,if_neg (by omega)])
    go_upto_region 6 with (fail)
    clear ar;have C0:=Zm t0;have C1:=Zm t1;have C2:=Zm t2;have C3:=Zm t3;have D0:=Zm z0;have D1:=Zm z1;have D2:=Zm z2;have D3:=Zm z3;have U0:=Zm l;have U1:=Zm m;have f:=Zf w2;clear t0 t1 t2 t3 z0 z1 z2 z3 l m;refine Zp 19 [0,1,2,3,4,5,6,7,8,9,10,11,12,13,14,15,16,17,18,19] (by kernel_rfl) (by kernel_rfl) ?_;repeat ((first | (refine Zd (v:=?_) rfl rfl rfl ?_ ?_;rotate_left;(· (intro _ E;go_simp;(try go_bits);(try with_reducible rfl)))) | (refine Zj (v:=?_) rfl rfl rfl ?_ ?_;rotate_left;(· (intro _ E;go_simp;(try go_bits);(try with_reducible rfl)))) | refine Zk rfl rfl rfl ?_);(try simp only [Act.put,pu1,pu2,pu3,pu4,pu5,pu6]))
    refine Zh rfl rfl (fun KR hKR=>?_);go_simp;(with_reducible refine (Xq _ _ (canF xk) (canF mk) _ (c.below f) (b4.below f) a4 bf bg).mono ?_);rw [Zu,Zu];rintro _ w6 ⟨v6,rfl,e6,ac⟩;have h:=Za f ac f.size;obtain ⟨B9,l9,k9,af,ag,ah,rfl,_,_⟩:=id e6;have av:=hO.below h;obtain ⟨_,_,_,_,⟨c0,c1,c2,c3⟩,⟨f0,f1,f2,f3⟩,-⟩:=av.at_ Y;refine hKR.out _ _ (Or.inr h) ?_;clear hKR KR;(try simp only [Act.put,pu1,pu2,pu3,pu4,pu5,pu6]);repeat ((first | (refine Zd (v:=?_) rfl rfl rfl ?_ ?_;rotate_left;(· (intro _ E;go_simp;(try go_bits);(try with_reducible rfl)))) | (refine Zj (v:=?_) rfl rfl rfl ?_ ?_;rotate_left;(· (intro _ E;go_simp;(try go_bits);(try with_reducible rfl)))) | refine Zk rfl rfl rfl ?_);(try simp only [Act.put,pu1,pu2,pu3,pu4,pu5,pu6]))
    refine Zh rfl rfl (fun KR hKR=>?_);go_simp;refine hKR.out _ _ (Or.inl (by decide)) ?_;clear hKR KR;(try simp only [Act.put,pu1,pu2,pu3,pu4,pu5,pu6]);refine Zx ?_;clear C0 C1 C2 C3 D0 D1 D2 D3 U0 U1;obtain ⟨N,bx⟩:=av.set_ (k:=kt) (by rw [Zi];exact A) e6;rw [cs.out] at N;have bh:=bx.bk (au.later h) (by decide);have ao:=ZA (Za F h F.size) bv (kt * 4) (kt * 4+1) (kt * 4+2) (kt * 4+3) (.bool (canF (xk / mk)).num.neg) (.slice B9 l9 k9) (.bool (canF (xk / mk)).den.neg) (.slice af ag ah);generalize ((((w6.setCell ⟨gx,kt * 4,none⟩ (.bool (canF (xk / mk)).num.neg)).setCell ⟨gx,kt * 4+1,none⟩ (.slice B9 l9 k9)).setCell ⟨gx,kt * 4+2,none⟩ (.bool (canF (xk / mk)).den.neg)).setCell ⟨gx,kt * 4+3,none⟩ (.slice af ag ah))=W7 at *;generalize wr.heap.size=cw at *;clear hO av e6 ac f h bx F au c b4 Y a4 bf bg c0 c1 c2 c3 f0 f1 f2 f3;go_wp2
    go_loopw [51] (fun x wx=>∃i:Nat,i≤n∧x= .int .i64 i∧Yd w.heap.size wx (.slice (some ⟨gx,0,none⟩) n c5) (Z7 n (Zdh kt M X i))∧Bk wx cw 146 [.int .i64 (kt:Int),.slice (some ⟨bm,om,none⟩) n d]∧Below w.heap.size w wx) (fun x _=>n - (intOf x).toNat)
    case atStart=>exact ⟨0,by omega,rfl,N,bh,ao⟩
    case round=>
     clear N bh ao;obtain ⟨i,hi,rfl,hO,hV,a⟩:=hrel;rcases JX i n with hil | hil
     ·obtain ⟨l,m,_,_⟩:=hV.two;have d9:(i:Int) < n:=(by omega);by_cases b9:i=kt
      ·have aw:Hid (Z7 n (Zdh kt M X i)=Z7 n (Zdh kt M X (i+1))):=JZ (ZR fun j _=>Zls (.inl b9) j);subst b9;rw [aw.out] at hO;go_wp2;go_roundw
       case rel=>exact ⟨i+1,by omega,by go_num,hO,hV,a⟩
       case measure=>simp [intOf];omega
      ·have bj:=JZ b9;have da:(i:Int)≠kt:=(by omega);obtain ⟨b',o',A8,n8,c8,A9,n9,c9,hA,_,⟨z0,z1,z2,z3⟩,H⟩:=bd.out.elem a (ZC hil);injection hA with hA;injection hA with hA1 hA2;subst hA1;subst hA2;have Z:qs (M i)=0∨qs (M i)=1∨qs (M i)= -1:=(by have:=Vb (M i);omega);by_cases p:qs (M i)=0
       ·have aw:Hid (Z7 n (Zdh kt M X i)=Z7 n (Zdh kt M X (i+1))):=JZ (ZR fun j _=>Zls (.inr (ZW.1 p)) j);clear Z;go_wp2_with fail;refine (Zz _ (canF (M i)) _ H).mono ?_;rw [Zu,p];rintro _ w3 ⟨rfl,D⟩;have J:=hO.below D;rw [aw.out] at J;have a5:=hV.later D;have y:=Za a D a.size;clear hO hV a D p z0 z1 z2 z3 H l m;go_wp2;go_roundw
        case rel=>exact ⟨i+1,by omega,by go_num,J,a5,y⟩
        case measure=>simp [intOf];omega
       ·have ar:(qs (M i) !=0)=true:=(by simpa using p);clear Z p;go_wp2_with fail;refine (Zz _ (canF (M i)) _ H).mono ?_;rw [Zu];rintro _ w3 ⟨rfl,D⟩;have J:=hO.below D;have a5:=hV.later D;have y:=Za a D a.size;clear hO hV a D z0 z1 z2 z3 H l m;obtain ⟨l,m,_,_⟩:=a5.two;obtain ⟨b',o',A8,n8,c8,A9,n9,c9,hA,_,⟨z0,z1,z2,z3⟩,H⟩:=bd.out.elem y (ZC hil);injection hA with hA;injection hA with hA1 hA2;subst hA1;subst hA2;obtain ⟨b',o',A4,n4,c4,A5,n5,dc,hA,_,⟨ai,b5,aj,b6⟩,c⟩:=J.frs.elem (JR _ _) (ZC hil);injection hA with hA;injection hA with hA1 hA2;subst hA1;subst hA2;obtain ⟨b',o',A6,n6,c6,A7,n7,c7,hA,_,⟨t0,t1,t2,t3⟩,b7⟩:=J.frs.elem (JR _ _) (ZC A);injection hA with hA;injection hA with hA1 hA2;subst hA1;subst hA2;simp only [Nat.zero_add] at ai b5 aj b6 t0 t1 t2 t3;obtain ⟨xi,ak⟩:∃xi,xi=Zdh kt M X i i:=⟨_,rfl⟩;obtain ⟨mi,I⟩:∃mi,mi=M i:=⟨_,rfl⟩;obtain ⟨z,hz⟩:∃z,z=Zdh kt M X i kt:=⟨_,rfl⟩;have a6:xi=X i:=(by rw [ak,Zwa bj.out]);have ax:z=X kt / M kt:=(by rw [hz,Yfl]);have bl:Hid ((Z7 n (Zdh kt M X i)).set i (canF (xi - mi * z))=Z7 n (Zdh kt M X (i+1))):=JZ (by
         rw [XF hil];exact ZR fun j hj=>by rw [Zvz bj.out,a6,I,ax])
        have a4:(canF xi).Sm:=(by rw [a6];exact (bc.out i hil).rs.sm (by have:=HE.out;omega));have bn:(canF mi).Sm:=(by rw [I];exact (aq.out i hil).rs.sm (by have:=HE.out;omega));have a7:Sz (5^n * K) z:=by
         have:=cn.out kt A;unfold Zrz at this;rw [if_pos rfl] at this;rw [ax];exact this
        have bo:(canF z).Sm:=a7.rs.sm (by have:=HE.out;omega);have bp:(canF (mi * z)).Sm:=(Wz (by rw [I];exact aq.out i hil) a7).rs.sm (by have:=HE.out;omega);have bq:(Z7 n (Zdh kt M X i))[i]? =some (canF xi):=(by rw [ak];exact ZC hil);rw [← ak] at ai aj c;rw [← I] at z0 z2 H;rw [← hz] at t0 t2 b7;have hO:=J;clear ak I hz a6 ax a7 J
        go_upto_region 11 with (fail)
        clear ar;have C0:=Zm t0;have C1:=Zm t1;have C2:=Zm t2;have C3:=Zm t3;have D0:=Zm z0;have D1:=Zm z1;have D2:=Zm z2;have D3:=Zm z3;have E0:=Zm ai;have E1:=Zm b5;have E2:=Zm aj;have E3:=Zm b6;have U0:=Zm l;have U1:=Zm m;have f:=Zf w3;clear t0 t1 t2 t3 z0 z1 z2 z3 ai b5 aj b6 l m;refine Zp 19 [0,1,2,3,4,5,6,7,8,9,10,11,12,13,14,15,16,17,18,19] (by kernel_rfl) (by kernel_rfl) ?_;repeat ((first | (refine Zd (v:=?_) rfl rfl rfl ?_ ?_;rotate_left;(· (intro _ E;go_simp;(try go_bits);(try with_reducible rfl)))) | (refine Zj (v:=?_) rfl rfl rfl ?_ ?_;rotate_left;(· (intro _ E;go_simp;(try go_bits);(try with_reducible rfl)))) | refine Zk rfl rfl rfl ?_);(try simp only [Act.put,pu1,pu2,pu3,pu4,pu5,pu6]))
        refine Zh rfl rfl (fun KR hKR=>?_);go_simp;(with_reducible refine (Wj _ _ (canF mi) (canF z) _ (H.below f) (b7.below f) bn bo).mono ?_);rw [Zu,Zu];rintro _ w6 ⟨v6,rfl,e6,ac⟩;have h:=Za f ac f.size;refine hKR.out _ _ (Or.inr h) ?_;clear hKR KR;(try simp only [Act.put,pu1,pu2,pu3,pu4,pu5,pu6]);repeat ((first | (refine Zd (v:=?_) rfl rfl rfl ?_ ?_;rotate_left;(· (intro _ E;go_simp;(try go_bits);(try with_reducible rfl)))) | (refine Zj (v:=?_) rfl rfl rfl ?_ ?_;rotate_left;(· (intro _ E;go_simp;(try go_bits);(try with_reducible rfl)))) | refine Zk rfl rfl rfl ?_);(try simp only [Act.put,pu1,pu2,pu3,pu4,pu5,pu6]))
        refine Zh rfl rfl (fun KR hKR=>?_);go_simp;(with_reducible refine (WT _ _ (canF xi) (canF (mi * z)) _ (c.below h) e6 a4 bp).mono ?_);rw [Zu,Zu];rintro _ w7 ⟨v7,rfl,e7,cd⟩;have a8:=Za h cd h.size;obtain ⟨B9,l9,k9,af,ag,ah,rfl,_,_⟩:=id e7;have N:=hO.below a8;obtain ⟨_,_,_,_,⟨c0,c1,c2,c3⟩,⟨f0,f1,f2,f3⟩,-⟩:=N.at_ bq;refine hKR.out _ _ (Or.inr a8) ?_;clear hKR KR;(try simp only [Act.put,pu1,pu2,pu3,pu4,pu5,pu6]);repeat ((first | (refine Zd (v:=?_) rfl rfl rfl ?_ ?_;rotate_left;(· (intro _ E;go_simp;(try go_bits);(try with_reducible rfl)))) | (refine Zj (v:=?_) rfl rfl rfl ?_ ?_;rotate_left;(· (intro _ E;go_simp;(try go_bits);(try with_reducible rfl)))) | refine Zk rfl rfl rfl ?_);(try simp only [Act.put,pu1,pu2,pu3,pu4,pu5,pu6]))
        refine Zh rfl rfl (fun KR hKR=>?_);go_simp;refine hKR.out _ _ (Or.inl (by decide)) ?_;clear hKR KR;(try simp only [Act.put,pu1,pu2,pu3,pu4,pu5,pu6]);refine Zx ?_;clear C0 C1 C2 C3 D0 D1 D2 D3 E0 E1 E2 E3 U0 U1;obtain ⟨ca,cb⟩:=N.set_ (k:=i) (by rw [Zi];exact hil) e7;rw [bl.out] at ca;have ct:=cb.bk (a5.later a8) (by decide);have br:=ZA (Za y a8 y.size) bv (i * 4) (i * 4+1) (i * 4+2) (i * 4+3) (.bool (canF (xi - mi * z)).num.neg) (.slice B9 l9 k9) (.bool (canF (xi - mi * z)).den.neg) (.slice af ag ah);clear hO N a5 y f h a8 e6 e7 ac cd c0 c1 c2 c3 f0 f1 f2 f3 c H b7 cb a4 bn bo bp bq bl;go_wp2;go_roundw
        case rel=>exact ⟨i+1,by omega,by go_num,ca,ct,br⟩
        case measure=>simp [intOf];omega
     ·obtain rfl:n=i:=by omega
      rw [ZR fun j hj=>Zzp hj,← am.out] at hO;go_wp2;go_roundw
      case rel=>exact ⟨t+1,by omega,by go_num,hO,a⟩
      case measure=>simp [intOf];omega
  ·obtain rfl:T=t:=by omega
   go_wp2;go_ret;exact ⟨_,_,rfl,fun r hr=>by rw [← ci.out];exact ba.out r hr,ap.out _ (JY _),hO,a⟩
namespace Pl
def Wn (k:Nat) (M X:Nat→Rat) (i:Nat):Rat:=X k - ZZ (fun i=>if i=k then 0 else M i * X i) i
theorem Zgy {k:Nat} {M X:Nat→Rat}:Wn k M X 0=X k:=by unfold Wn;rw [YS];grind
theorem Zcb {k i:Nat} {M X:Nat→Rat} (h:i=k∨M i=0∨X i=0):Wn k M X i=Wn k M X (i+1):=by
 unfold Wn;rw [ZH];by_cases e:i=k
 ·rw [if_pos e];grind
 ·rw [if_neg e];rcases h with h | h | h
  ·exact absurd h e
  ·rw [h];grind
  ·rw [h];grind
theorem Zsn {k i:Nat} {M X:Nat→Rat} (h:i≠k):Wn k M X (i+1)=Wn k M X i - M i * X i:=by
 unfold Wn;rw [ZH,if_neg h];grind
theorem Ydn {n k i E:Nat} {M X:Nat→Rat} (hE:1≤E) (hn:n≤7) (hk:k < n) (hx:∀i,i < n→Sz (22 * E) (X i)) (hm:∀i,i < n→Sz E (M i)) (hi:i≤n):Sz (200 * E) (Wn k M X i):=by
 have h1:Sz (1+i * (23 * E+1)) (ZZ (fun i=>if i=k then 0 else M i * X i) i):=Zph fun j hj=>by
  split
  ·exact Sz_zero.mono (by omega)
  ·exact (Wz (hm j (by omega)) (hx j (by omega))).mono (by omega)
 have h2:i * (23 * E+1)≤7 * (23 * E+1):=JS _ (by omega);exact (Zdw (hx k hk) h1).mono (by omega)
end Pl
def Zit [Old] (w:World) (g:Nat) (q:Rat):Prop:=
 ∃A n c A' n' c',Bk w g 48 [.bool (canF q).num.neg,.slice A n c,.bool (canF q).den.neg,.slice A' n' c']∧Zt w (.agg #[.bool (canF q).num.neg,.slice A n c,.bool (canF q).den.neg,.slice A' n' c']) (canF q)
theorem Zit.below [Old] {w w':World} {g:Nat} {q:Rat} (h:Zit w g q) (hb:Below w.heap.size w w'):Zit w' g q:=by
 obtain ⟨A,n,c,A',n',c',h1,h2⟩:=h;exact ⟨A,n,c,A',n',c',h1.later hb,h2.below hb⟩
theorem Zso [Old] (base bi g n K:Nat) (Cs:Mx) (v:Value) (es:List En) (w:World) (hB:Zca base bi w g n K Cs) (h:Wp w v es) (hgo:Pl.Good n es) (hrs:∀(k:Nat) (e:En),es[k]? =some e→e.f.Rs K) (hOl:Zb w:=by (repeat (first | assumption | exact Zb.up (by assumption) hOl | exact Zb.up (Hid.out (by assumption)) hOl | with_reducible refine Zb.set ?_ _ _ | with_reducible refine Zb.mk_ ?_ _ | with_reducible refine Zb.dr ?_ | with_reducible refine Zb.drN ?_ | refine Zb.up (by assumption) ?_ | refine Zb.up (Hid.out (by assumption)) ?_))) (hO:Old.n≤base:=by first | assumption | exact Nat.zero_le _ | omega | ((first | with_reducible refine Zb.le ?_ | with_reducible refine Zb.le1 ?_ | with_reducible refine Zb.le2 ?_ | with_reducible refine Zb.le3 ?_);repeat (first | assumption | exact Zb.up (by assumption) hOl | exact Zb.up (Hid.out (by assumption)) hOl | with_reducible refine Zb.set ?_ _ _ | with_reducible refine Zb.mk_ ?_ _ | with_reducible refine Zb.dr ?_ | with_reducible refine Zb.drN ?_ | refine Zb.up (by assumption) ?_ | refine Zb.up (Hid.out (by assumption)) ?_))):
 Calls Tryz.prog 118 #[.pointer (some ⟨g,0,none⟩),v] w fun o w'=>∃v' x,o= .returned (.tuple #[v',.int .i64 0])∧(∀r,r < n→Xw n Cs x r=XG es r)∧(∀i,i < n→Sz (5^n * K) (x i))∧Zbn w.heap.size w' v' (spV x n)∧Below w.heap.size w w':=by
 have u:=hOl.le;have HB:=JZ hB;obtain ⟨T,gc,cc,k,R,C,im,V,L,Um,CC,s0,s1,s2,s3,vu,hX,⟨s,hT,hE,t⟩,hU,hF,-⟩:=hB;have y1:w.cell? ⟨g,0,none⟩=some (.int .i64 (n:Int)):=hX.cellAt 0 rfl;have y:=hF.n7;have p:Hid (1≤K):=JZ (Nat.pos_of_ne_zero fun e=>by have:=hF.e1;subst e;simp at this);have HE:Hid (5^n * K≤4000000):=JZ hE;have q:Hid (K≤4000000):=JZ (JW (Nat.le_mul_of_pos_left K (Nat.pow_pos (by decide))) hE);clear hX hU hF t hE hT s;go_enter Tryz.func118,Tryz.ntmps118;go_wp2_with fail;refine (WE v es n K _ h (by omega) hrs (by have:=q.out;omega) hgo).mono ?_;rintro _ w1 ⟨v1,rfl,e1,b⟩;obtain ⟨A1,c1,rfl⟩:=e1.slice;clear y1 h;go_wp2_with fail;refine (Zgx base bi g n K Cs _ (XG es) _ (HB.out.below b) e1.frs (fun i _=>Sz_col hrs p.out i)).mono ?_;rintro _ w2 ⟨v2,x,rfl,hx,j,e2,l⟩;have HX:=JZ hx;have c:=JZ j;have a:=Za b l b.size;obtain ⟨A2,c2,rfl⟩:=e2.slice;clear e1 hx j l;go_wp2_with fail;refine (Xg _ (Z7 n x) (5^n * K) _ e2.frs (by rw [Zi];omega) (Zhv fun i hi=>c.out i hi) (by have:=HE.out;omega)).mono ?_;rw [Zi,XJ (g:=x) fun i hi=>YX hi];rintro _ w3 ⟨v3,rfl,e3,m⟩;have d:=Za a m a.size;have e3:Zbn w.heap.size w3 v3 (spV x n):=by
  obtain ⟨cs,g1,g2⟩:=e3;exact ⟨cs,Xe g1 a.size,g2⟩
 clear e2 b a m;go_wp2;go_ret2;exact ⟨_,x,rfl,HX.out,c.out,e3,d⟩
theorem Zoa [Old] (base bi g n K:Nat) (Cs:Mx) (v:Value) (es:List En) (w:World) (hB:Zca base bi w g n K Cs) (h:Wp w v es) (hgo:Pl.Good n es) (hrs:∀(k:Nat) (e:En),es[k]? =some e→e.f.Rs K) (hOl:Zb w:=by (repeat (first | assumption | exact Zb.up (by assumption) hOl | exact Zb.up (Hid.out (by assumption)) hOl | with_reducible refine Zb.set ?_ _ _ | with_reducible refine Zb.mk_ ?_ _ | with_reducible refine Zb.dr ?_ | with_reducible refine Zb.drN ?_ | refine Zb.up (by assumption) ?_ | refine Zb.up (Hid.out (by assumption)) ?_))) (hO:Old.n≤base:=by first | assumption | exact Nat.zero_le _ | omega | ((first | with_reducible refine Zb.le ?_ | with_reducible refine Zb.le1 ?_ | with_reducible refine Zb.le2 ?_ | with_reducible refine Zb.le3 ?_);repeat (first | assumption | exact Zb.up (by assumption) hOl | exact Zb.up (Hid.out (by assumption)) hOl | with_reducible refine Zb.set ?_ _ _ | with_reducible refine Zb.mk_ ?_ _ | with_reducible refine Zb.dr ?_ | with_reducible refine Zb.drN ?_ | refine Zb.up (by assumption) ?_ | refine Zb.up (Hid.out (by assumption)) ?_))):
 Calls Tryz.prog 109 #[.pointer (some ⟨g,0,none⟩),v] w fun o w'=>∃v' y,o= .returned (.tuple #[v',.int .i64 0])∧(∀c,c < n→Xw n (trM Cs) y c=XG es c)∧(∀i,i < n→Sz (5^n * K) (y i))∧Zbn w.heap.size w' v' (spV y n)∧Below w.heap.size w w':=by
 have e4:=hOl.le;obtain ⟨T,gc,cc,k,R,C,im,V,L,Um,CC,s0,s1,s2,s3,vu,hX,⟨dj,hT,hE,cq⟩,hU,hF,hO,i0,i1,v2,v3,bl⟩:=hB;obtain ⟨Au,cu,rfl,cr,dy⟩:=bl.shape;have b9:=Yav hX i0 i1 v2 v3;have bs:=hF.n7;have ba:1≤K:=Nat.pos_of_ne_zero fun e=>by have:=hF.e1;subst e;simp at this
 obtain ⟨d,hd⟩:∃d,d=XG es:=⟨_,rfl⟩;have bb:∀r,r < n→Sz K (d r):=fun r _=>by rw [hd];exact Sz_col hrs ba r
 have hy:∀c,c < n→Xw n (trM (CC 0)) (solT n R C L Um (cN n T k im d T)) c=cN n T k im d T c:=hF.fac.solT _;have bt:=JZ (hU.cB bs ba bb hy);have bc:=JZ (hU.yB bb hy);have bu:=JZ (hU.solvesT hy T (JY _));have cz:=JZ hU.imB;have d0:=JZ hU.kn;have d3:=JZ hU.nz;have HE:=JZ hE;have d4:Hid (1≤5^n * K):=JZ hF.e1;have d5:=JZ bs;have d6:=JZ cq;have bv:=JZ bl;have HD:=JZ hd;have d7:=JZ b9;have HF:=JZ hF;have HY:Hid (w.cell? ⟨g,6,none⟩=some (.slice Au T cu)):=JZ (hX.cellAt 6 rfl);have y1:w.cell? ⟨g,0,none⟩=some (.int .i64 (n:Int)):=hX.cellAt 0 rfl;have d8:Hid (K≤4000000):=JZ (JW (Nat.le_mul_of_pos_left K (Nat.pow_pos (by decide))) hE);have d9:=JZ hgo;have da:=JZ hrs;clear hX hU hF cq hE dj bl hO i0 i1 v2 v3 b9 hy bb hd ba hgo hrs;go_enter Tryz.func109,Tryz.ntmps109;go_wp2_with fail;refine (WE v es n K _ h (by omega) da.out (by have:=d8.out;omega) d9.out).mono ?_;rintro _ w1 ⟨v1,rfl,e1,bq⟩;obtain ⟨A5,c5,ct⟩:=e1.slice;rw [Zi] at ct;subst ct;obtain ⟨-,dz,e0⟩:=e1.frs.len;rw [← HD.out] at e1;clear y1 h;have y2:=Zg bq HY.out;go_wp2;clear y2
 go_loopw [8] (fun x wr=>∃(j:Nat) (tz:Int),j≤T∧tz=(T:Int) - 1 - j∧x= .int .i64 tz∧Yd w.heap.size wr (.slice A5 n c5) (Z7 n (cN n T k im d j))∧Below w.heap.size w wr) (fun x _=>(intOf x+1).toNat)
 case atStart=>exact ⟨0,(T:Int) - 1,by omega,by omega,rfl,e1,bq⟩
 case round=>
  clear e1 bq;obtain ⟨j,tz,hj,bn,rfl,hO,a⟩:=hrel;rcases Int.lt_or_le tz 0 with hneg | aj
  ·obtain rfl:T=j:=by omega
   clear bn;have HO:=JZ hO;clear hO;go_wp2_with fail;refine (Zil g 2 _ n (5^n * K) (trM (CC 0)) R C L Um _ _ (d7.out.below a) HO.out.frs HF.out (fun i hi=>(bt.out T (JY _) i hi).mono (by omega)) bc.out).mono ?_;rintro _ w2 ⟨v2,rfl,e2,cw⟩;have D:=Za a cw a.size;obtain ⟨A2,c2,rfl⟩:=e2.slice;obtain ⟨y,b6⟩:∃y,y=solT n R C L Um (cN n T k im d T):=⟨_,rfl⟩;have bd:=JZ b6;rw [← b6] at e2;rw [← b6];clear a cw b6;go_wp2_with fail;refine (Xg _ (Z7 n y) (5^n * K) _ e2.frs (by rw [Zi];omega) (Zhv fun i hi=>by rw [bd.out];exact bc.out i hi) (by have:=HE.out;omega)).mono ?_;rw [Zi,XJ (g:=y) fun i hi=>YX hi];rintro _ w3 ⟨v3,rfl,e3,p⟩;have m:=Za D p D.size;have e3:Zbn w.heap.size w3 v3 (spV y n):=by
    obtain ⟨cs,g1,g2⟩:=e3;exact ⟨cs,Xe g1 D.size,g2⟩
   clear e2 D p;go_wp2;go_ret2;exact ⟨_,y,rfl,fun c hc=>by
    have:=bu.out c hc;rw [Nat.sub_self] at this;rw [← d6.out,bd.out,this,← HD.out];rfl,fun i hi=>by rw [bd.out];exact bc.out i hi,e3,m⟩
  ·obtain ⟨t,rfl⟩:=JT aj;have ai:t < T:=(by omega);have be:=JZ bn;clear bn aj;have Z:=d0.out t ai;have aj:0 < n:=(by omega);obtain ⟨gx,cx,cv,dk,dl,-,-⟩:=hO.shape (by rw [Zi];omega);rw [Zi] at cv;injection cv with a1 a2 a3;subst a1;clear a2 a3 cx;obtain ⟨gu,B,d',rfl,-,⟨u0,u1⟩,⟨d1,d2⟩,bo⟩:=bv.out.elem a ai;obtain ⟨X,b7⟩:∃X,X=cN n T k im d j:=⟨_,rfl⟩;obtain ⟨M,ae⟩:∃M,M=im t:=⟨_,rfl⟩;obtain ⟨kt,b8⟩:∃kt,kt=k t:=⟨_,rfl⟩;have bw:Hid (Z7 n (cN n T k im d (j+1))=Z7 n (Zno n kt M X)):=JZ (by
    rw [b7,ae,b8,show t=T - 1 - j by have:=be.out;omega];rfl)
   have bf:Hid (∀i,i < n→Sz (22 * (5^n * K)) (X i)):=JZ fun i hi=>by rw [b7];exact bt.out j hj i hi
   have b0:Hid (∀i,i < n→Sz (5^n * K) (M i)):=JZ fun i hi=>by rw [ae];exact cz.out t ai i hi
   have db:Hid (M kt≠0):=JZ (by rw [ae,b8];exact d3.out t ai);rw [← b7] at hO;rw [← ae] at bo;rw [← b8] at Z u0;have bg:Hid (WA w (.slice B n d') (Z7 n M)):=JZ (by
    obtain ⟨_,B',ed,au,-,⟨-,e2⟩,-,h3⟩:=bv.out.elem (JR _ _) ai;injection au with au;injection au with au;subst au;have e3:=Zg a e2;rw [u1] at e3;injection e3 with e3;injection e3 with b1 b2 b3;subst b1 b3;rw [ae];exact h3)
   clear b7 ae b8;have bx:∀i,Wn kt M X i=X kt - ZZ (fun i=>if i=kt then 0 else M i * X i) i:=fun _=>rfl
   have ca:Hid (∀i,i≤n→Sz (200 * (5^n * K)) (Wn kt M X i)):=JZ fun i hi=>Ydn d4.out (by have:=d5.out;omega) Z bf.out b0.out hi
   clear bx;have e5:T≤cu:=(by have:=cr;omega);obtain ⟨W1,dm,hV,av⟩:∃W1,wr.alloc (.cells #[.int .i64 (kt:Int),.slice B n d'] 146)=W1∧Bk W1 wr.heap.size 146 [.int .i64 (kt:Int),.slice B n d']∧Below wr.heap.size wr W1:=⟨_,rfl,Bk.new wr _ _,Zc wr _⟩;have bh:=hO.below av;have cb:=bo.below av;have ab:=Za a av a.size;obtain ⟨s,A,_,_⟩:=hV.two;have cd:(Z7 n X)[kt]? =some (canF (X kt)):=ZC Z;obtain ⟨bz,oz,A6,n6,c6,A7,n7,c7,hA,_,⟨t0,t1,t2,t3⟩,F⟩:=bh.frs.elem (JR _ _) cd;injection hA with hA;injection hA with hA1 hA2;subst hA1;subst hA2;simp only [Nat.zero_add] at t0 t1 t2 t3;have e8:(kt:Int) < n:=(by omega);have y2:=Zg a HY.out;have hR:=Bk.new W1 48 [.bool (canF (X kt)).num.neg,.slice A6 n6 c6,.bool (canF (X kt)).den.neg,.slice A7 n7 c7];have ak:=Zc W1 (.cells #[.bool (canF (X kt)).num.neg,.slice A6 n6 c6,.bool (canF (X kt)).den.neg,.slice A7 n7 c7] 48);have e9:gx < W1.heap.size:=Nat.lt_of_lt_of_le dl av.size;have dc:w.heap.size≤W1.heap.size:=ab.size;have dx:w.heap.size≤wr.heap.size:=a.size;have ea:(t:Int) < T:=(by omega);clear hO a bo
   go_upto_region 8 with (fail)
   clear u0 u1 y2;clear dm;go_wp2;clear s A t0 t1 t2 t3;have ce:=bh.below ak;have cf:=hV.later ak;have cg:=F.below ak;have D:=Za ab ak ab.size;clear bh cb hV F ab ak av;generalize W1.alloc (.cells #[.bool (canF (X kt)).num.neg,.slice A6 n6 c6,.bool (canF (X kt)).den.neg,.slice A7 n7 c7] 48)=W2 at *;generalize W1.heap.size=gr at *;generalize wr.heap.size=dw at *
   go_loopw [48] (fun x wx=>∃i:Nat,i≤n∧x= .int .i64 i∧Yd w.heap.size wx (.slice (some ⟨gx,0,none⟩) n c5) (Z7 n X)∧Bk wx dw 146 [.int .i64 (kt:Int),.slice B n d']∧Zit wx gr (Wn kt M X i)∧Below w.heap.size w wx) (fun x _=>n - (intOf x).toNat)
   case atStart=>exact ⟨0,by omega,rfl,ce,cf,⟨A6,n6,c6,A7,n7,c7,by rw [Zgy];exact hR,by rw [Zgy];exact cg⟩,D⟩
   case round=>
    clear ce cf hR cg D;obtain ⟨i,hi,rfl,hO,hV,a6,a⟩:=hrel;rcases JX i n with hil | hil
    ·obtain ⟨s,A,_,_⟩:=hV.two;have eb:(i:Int) < n:=(by omega);by_cases br:i=kt
     ·have al:Hid (Wn kt M X i=Wn kt M X (i+1)):=JZ (Zcb (.inl br));subst br;rw [al.out] at a6;go_wp2;go_roundw
      case rel=>exact ⟨i+1,by omega,by go_num,hO,hV,a6,a⟩
      case measure=>simp [intOf];omega
     ·have dd:=JZ br;have ec:(i:Int)≠kt:=(by omega);obtain ⟨bm,om,A8,n8,c8,A9,n9,c9,rfl,_,⟨z0,z1,z2,z3⟩,O⟩:=bg.out.elem a (ZC hil);have am:qs (M i)=0∨qs (M i)=1∨qs (M i)= -1:=(by have:=Vb (M i);omega);by_cases ay:qs (M i)=0
      ·have al:Hid (Wn kt M X i=Wn kt M X (i+1)):=JZ (Zcb (.inr (.inl (ZW.1 ay))));clear am;go_wp2_with fail;refine (Zz _ (canF (M i)) _ O).mono ?_;rw [Zu,ay];rintro _ w3 ⟨rfl,p⟩;have a0:=hO.below p;have a4:=a6.below p;rw [al.out] at a4;have a5:=hV.later p;have m:=Za a p a.size;clear hO hV a6 a p ay z0 z1 z2 z3 O s A;go_wp2;go_roundw
       case rel=>exact ⟨i+1,by omega,by go_num,a0,a5,a4,m⟩
       case measure=>simp [intOf];omega
      ·have de:(qs (M i) !=0)=true:=(by simpa using ay);clear am ay;go_wp2_with fail;refine (Zz _ (canF (M i)) _ O).mono ?_;rw [Zu];rintro _ w3 ⟨rfl,p⟩;have a0:=hO.below p;have a4:=a6.below p;have a5:=hV.later p;have m:=Za a p a.size;clear hO hV a6 a p z0 z1 z2 z3 O s A;obtain ⟨s,A,_,_⟩:=a5.two;obtain ⟨b',o',A4,n4,c4,A5,n5,dn,hA,_,⟨P,a7,S,a8⟩,F⟩:=a0.frs.elem (JR _ _) (ZC hil);injection hA with hA;injection hA with hA1 hA2;subst hA1;subst hA2;simp only [Nat.zero_add] at P a7 S a8;have am:qs (X i)=0∨qs (X i)=1∨qs (X i)= -1:=(by have:=Vb (X i);omega);by_cases az:qs (X i)=0
       ·have al:Hid (Wn kt M X i=Wn kt M X (i+1)):=JZ (Zcb (.inr (.inr (ZW.1 az))));clear am;go_wp2_with fail;refine (Zz _ (canF (X i)) _ F).mono ?_;rw [Zu,az];rintro _ w4 ⟨rfl,G⟩;have df:=a0.below G;have b4:=a4.below G;rw [al.out] at b4;have an:=a5.later G;have I:=Za m G m.size;clear a0 a5 a4 m G az P a7 S a8 F s A;go_wp2;go_roundw
        case rel=>exact ⟨i+1,by omega,by go_num,df,an,b4,I⟩
        case measure=>simp [intOf];omega
       ·have dg:(qs (X i) !=0)=true:=(by simpa using az);clear am az;go_wp2_with fail;refine (Zz _ (canF (X i)) _ F).mono ?_;rw [Zu];rintro _ w4 ⟨rfl,G⟩;have hO:=a0.below G;have b4:=a4.below G;have an:=a5.later G;have I:=Za m G m.size;clear a0 a5 a4 m G P a7 S a8 F s A;obtain ⟨s,A,_,_⟩:=an.two;obtain ⟨b',o',A4,n4,c4,A5,n5,dn,hA,_,⟨P,a7,S,a8⟩,F⟩:=hO.frs.elem (JR _ _) (ZC hil);injection hA with hA;injection hA with hA1 hA2;subst hA1;subst hA2;obtain ⟨b',o',A8,n8,c8,A9,n9,c9,hA,_,⟨z0,z1,z2,z3⟩,O⟩:=bg.out.elem I (ZC hil);injection hA with hA;injection hA with hA1 hA2;subst hA1;subst hA2;simp only [Nat.zero_add] at P a7 S a8;obtain ⟨dp,dq,ds,dt,du,dv,a9,aa⟩:=b4;obtain ⟨t0,t1,t2,t3⟩:=a9.four;have ao:Hid (Wn kt M X (i+1)=Wn kt M X i - M i * X i):=JZ (Zsn dd.out);obtain ⟨rr,J⟩:∃rr,rr=Wn kt M X i:=⟨_,rfl⟩;obtain ⟨xi,aw⟩:∃xi,xi=X i:=⟨_,rfl⟩;obtain ⟨mi,U⟩:∃mi,mi=M i:=⟨_,rfl⟩;have ch:(canF xi).Sm:=(by rw [aw];exact (bf.out i hil).rs.sm (by have:=HE.out;omega));have ci:(canF mi).Sm:=(by rw [U];exact (b0.out i hil).rs.sm (by have:=HE.out;omega));have ap:(canF rr).Sm:=(by rw [J];exact (ca.out i hi).rs.sm (by have:=HE.out;omega));have cj:(canF (mi * xi)).Sm:=(Wz (by rw [U];exact b0.out i hil) (by rw [aw];exact bf.out i hil)).rs.sm (by have:=HE.out;omega);have ck:=JZ J;have cl:=JZ aw;have cm:=JZ U;rw [← aw] at P S F;rw [← U] at z0 z2 O;rw [← J] at t0 t2 aa a9;clear aw U J
        go_upto_region 13 with (fail)
        clear de dg;have C0:=Zm t0;have C1:=Zm t1;have C2:=Zm t2;have C3:=Zm t3;have D0:=Zm z0;have D1:=Zm z1;have D2:=Zm z2;have D3:=Zm z3;have E0:=Zm P;have E1:=Zm a7;have E2:=Zm S;have E3:=Zm a8;have U0:=Zm s;have U1:=Zm A;have E:=Zf w4;clear t0 t1 t2 t3 z0 z1 z2 z3 P a7 S a8 s A;refine Zp 12 [0,1,2,3,4,5,6,7,8,9,10,11,12] (by kernel_rfl) (by kernel_rfl) ?_;repeat ((first | (refine Zd (v:=?_) rfl rfl rfl ?_ ?_;rotate_left;(· (intro _ N;go_simp;(try go_bits);(try with_reducible rfl)))) | (refine Zj (v:=?_) rfl rfl rfl ?_ ?_;rotate_left;(· (intro _ N;go_simp;(try go_bits);(try with_reducible rfl)))) | refine Zk rfl rfl rfl ?_);(try simp only [Act.put,pu1,pu2,pu3,pu4,pu5,pu6]))
        refine Zh rfl rfl (fun KR hKR=>?_);go_simp;(with_reducible refine (Wj _ _ (canF mi) (canF xi) _ (O.below E) (F.below E) ci ch).mono ?_);rw [Zu,Zu];rintro _ w6 ⟨v6,rfl,e6,ax⟩;have H:=Za E ax E.size;refine hKR.out _ _ (Or.inr H) ?_;clear hKR KR;(try simp only [Act.put,pu1,pu2,pu3,pu4,pu5,pu6]);repeat ((first | (refine Zd (v:=?_) rfl rfl rfl ?_ ?_;rotate_left;(· (intro _ N;go_simp;(try go_bits);(try with_reducible rfl)))) | (refine Zj (v:=?_) rfl rfl rfl ?_ ?_;rotate_left;(· (intro _ N;go_simp;(try go_bits);(try with_reducible rfl)))) | refine Zk rfl rfl rfl ?_);(try simp only [Act.put,pu1,pu2,pu3,pu4,pu5,pu6]))
        refine Zh rfl rfl (fun KR hKR=>?_);go_simp;(with_reducible refine (WT _ _ (canF rr) (canF (mi * xi)) _ (aa.below H) e6 ap cj).mono ?_);rw [Zu,Zu];rintro _ w7 ⟨v7,rfl,e7,cy⟩;have ac:=Za H cy H.size;obtain ⟨B9,l9,k9,af,ag,ah,rfl,_,_⟩:=id e7;have aq:=a9.later ac;obtain ⟨c0,c1,c2,c3⟩:=aq.four;obtain ⟨f0,f1,f2,f3⟩:=aq.fourF;refine hKR.out _ _ (Or.inr ac) ?_;clear hKR KR;(try simp only [Act.put,pu1,pu2,pu3,pu4,pu5,pu6]);repeat ((first | (refine Zd (v:=?_) rfl rfl rfl ?_ ?_;rotate_left;(· (intro _ N;go_simp;(try go_bits);(try with_reducible rfl)))) | (refine Zj (v:=?_) rfl rfl rfl ?_ ?_;rotate_left;(· (intro _ N;go_simp;(try go_bits);(try with_reducible rfl)))) | refine Zk rfl rfl rfl ?_);(try simp only [Act.put,pu1,pu2,pu3,pu4,pu5,pu6]))
        refine Zh rfl rfl (fun KR hKR=>?_);go_simp;refine hKR.out _ _ (Or.inl (by decide)) ?_;clear hKR KR;(try simp only [Act.put,pu1,pu2,pu3,pu4,pu5,pu6]);refine Zx ?_;clear C0 C1 C2 C3 D0 D1 D2 D3 E0 E1 E2 E3 U0 U1;have cn:=Yf (w:=w7) (g:=gr) (i:=0) (j:=1) (k:=2) (l:=3) (x:= .bool (canF (rr - mi * xi)).num.neg) (y:= .slice B9 l9 k9) (z:= .bool (canF (rr - mi * xi)).den.neg) (u:= .slice af ag ah);have ad:=aq.but4 (.bool (canF (rr - mi * xi)).num.neg) (.slice B9 l9 k9) (.bool (canF (rr - mi * xi)).den.neg) (.slice af ag ah);have b5:=(hO.below ac).others cn (ad.keep (by decide)) (fun b hb e=>by simp [Value.ownBlock] at hb;injection e with e;omega);have dh:=ad.bk (an.later ac) (by decide);have ar:=ZE (Za I ac I.size) dc (.bool (canF (rr - mi * xi)).num.neg) (.slice B9 l9 k9) (.bool (canF (rr - mi * xi)).den.neg) (.slice af ag ah);have di:Zit _ gr (Wn kt M X (i+1)):=⟨B9,l9,k9,af,ag,ah,by rw [ao.out,← ck.out,← cm.out,← cl.out];exact aq.set4 _ _ _ _,by rw [ao.out,← ck.out,← cm.out,← cl.out];exact e7.keep (ad.keep (by decide))⟩;clear hO aq an I E H ac e6 e7 ax cy c0 c1 c2 c3 f0 f1 f2 f3 F O aa ad cn ch ci ap cj a9;go_wp2;go_roundw
        case rel=>exact ⟨i+1,by omega,by go_num,b5,dh,di,ar⟩
        case measure=>simp [intOf];omega
    ·obtain rfl:n=i:=by omega
     obtain ⟨dp,dq,ds,dt,du,dv,a9,aa⟩:=a6;obtain ⟨t0,t1,t2,t3⟩:=a9.four;obtain ⟨s,A,_,_⟩:=hV.two;obtain ⟨bm,om,A8,n8,c8,A9,n9,c9,rfl,_,⟨z0,z1,z2,z3⟩,bp⟩:=bg.out.elem a (ZC Z);have ao:Hid ((Z7 n X).set kt (canF (Wn kt M X n / M kt))=Z7 n (Zno n kt M X)):=JZ (by
      rw [XF Z];exact ZR fun i hi=>rfl)
     obtain ⟨rr,J⟩:∃rr,rr=Wn kt M X n:=⟨_,rfl⟩;obtain ⟨mk,Y⟩:∃mk,mk=M kt:=⟨_,rfl⟩;have co:(canF mk).Sm:=(by rw [Y];exact (b0.out kt Z).rs.sm (by have:=HE.out;omega));have ap:(canF rr).Sm:=(by rw [J];exact (ca.out n (JY _)).rs.sm (by have:=HE.out;omega));have cp:(canF mk).q≠0:=(by rw [Zu,Y];exact db.out);rw [← J,← Y] at ao;rw [← Y] at z0 z2 bp;rw [← J] at t0 t2 aa;clear Y J a9
     go_upto_region 15 with (fail)
     have C0:=Zm t0;have C1:=Zm t1;have C2:=Zm t2;have C3:=Zm t3;have D0:=Zm z0;have D1:=Zm z1;have D2:=Zm z2;have D3:=Zm z3;have U0:=Zm s;have U1:=Zm A;have E:=Zf wr;clear t0 t1 t2 t3 z0 z1 z2 z3 s A;refine Zp 15 [0,1,2,3,4,5,6,7,8,9,10,11,12,13,14,15] (by kernel_rfl) (by kernel_rfl) ?_;repeat ((first | (refine Zd (v:=?_) rfl rfl rfl ?_ ?_;rotate_left;(· (intro _ N;go_simp;(try go_bits);(try with_reducible rfl)))) | (refine Zj (v:=?_) rfl rfl rfl ?_ ?_;rotate_left;(· (intro _ N;go_simp;(try go_bits);(try with_reducible rfl)))) | refine Zk rfl rfl rfl ?_);(try simp only [Act.put,pu1,pu2,pu3,pu4,pu5,pu6]))
     refine Zh rfl rfl (fun KR hKR=>?_);go_simp;(with_reducible refine (Xq _ _ (canF rr) (canF mk) _ (aa.below E) (bp.below E) ap co cp).mono ?_);rw [Zu,Zu];rintro _ w6 ⟨v6,rfl,e6,ax⟩;have H:=Za E ax E.size;obtain ⟨B9,l9,k9,af,ag,ah,rfl,_,_⟩:=id e6;have bj:=hO.below H;obtain ⟨_,_,_,_,⟨c0,c1,c2,c3⟩,⟨f0,f1,f2,f3⟩,-⟩:=bj.at_ cd;refine hKR.out _ _ (Or.inr H) ?_;clear hKR KR;(try simp only [Act.put,pu1,pu2,pu3,pu4,pu5,pu6]);repeat ((first | (refine Zd (v:=?_) rfl rfl rfl ?_ ?_;rotate_left;(· (intro _ N;go_simp;(try go_bits);(try with_reducible rfl)))) | (refine Zj (v:=?_) rfl rfl rfl ?_ ?_;rotate_left;(· (intro _ N;go_simp;(try go_bits);(try with_reducible rfl)))) | refine Zk rfl rfl rfl ?_);(try simp only [Act.put,pu1,pu2,pu3,pu4,pu5,pu6]))
     refine Zh rfl rfl (fun KR hKR=>?_);go_simp;refine hKR.out _ _ (Or.inl (by decide)) ?_;clear hKR KR;(try simp only [Act.put,pu1,pu2,pu3,pu4,pu5,pu6]);refine Zx ?_;clear C0 C1 C2 C3 D0 D1 D2 D3 U0 U1;obtain ⟨b5,ad⟩:=bj.set_ (k:=kt) (by rw [Zi];exact Z) e6;rw [ao.out,← bw.out] at b5;have ar:=ZA (Za a H a.size) dk (kt * 4) (kt * 4+1) (kt * 4+2) (kt * 4+3) (.bool (canF (rr / mk)).num.neg) (.slice B9 l9 k9) (.bool (canF (rr / mk)).den.neg) (.slice af ag ah);clear hO bj hV a E H e6 ax c0 c1 c2 c3 f0 f1 f2 f3 aa bp ad ap co cp;go_wp2;go_roundw
     case rel=>exact ⟨j+1,(t:Int) - 1,by have:=be.out;omega,by have:=be.out;omega,by go_num,b5,ar⟩
     case measure=>simp [intOf]
end Go.Proofs.YtncmobkhenfhpaaGreat
