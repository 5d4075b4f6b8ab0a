/- Lemmas of the claim; no condition. -/
import Derived.Test.YtidgdpkcloaheaaGreatQ24
set_option linter.all false
set_option maxRecDepth 100000
set_option maxHeartbeats 40000000
namespace Go.Proofs.YtidgdpkcloaheaaGreat
open Go.RowKit
open Pl
attribute [local go_sem ↓] Go.wp_at_zero Go.wp_at_succ
theorem Ug {P:Program} {ops:Array Oper} {Q:Exit→Act→World→Prop} {S:World→Prop} {n:Nat} {o:Oper} {i:Nat} {is:List Nat} {a:Act} {w:World} (ho:ops[i]? =some o) (hf:Y5 ops n i=false) (hw:Region.wanted o (yielded ops a.tmps)=false) (hS:S w) (h:Xz P ops Q S n is (a.put o.dst undef) w):Xz P ops Q S n (i::is) a w:=by
 refine Zg ho hf fun K hK=>?_
 rw [if_neg (by rw [hw];simp)];exact hK _ _ (.inr hS) h
namespace Pl
theorem Zko {es:List En} {e:En}:∀{a:Int},Inc (some a) (es++[e])→a < e.idx:=by
 induction es with
 | nil=>intro a h;have:=h.1;simp [leP] at this;omega
 | cons d es ih=>intro a h;have h1:=h.1;have h2:=ih h.2;simp [leP] at h1;omega
theorem Zkp {es:List En} {e:En}:∀{p:Option Int},Inc p (es++[e])→Inc p es∧∀(k:Nat) (d:En),es[k]? =some d→d.idx < e.idx:=by
 induction es with
 | nil=>intro p _;exact ⟨trivial,fun k d h=>by simp at h⟩
 | cons c es ih=>
  intro p h;obtain ⟨h1,h2⟩:=ih h.2;refine ⟨⟨h.1,h1⟩,fun k d hd=>?_⟩
  cases k with
  | zero=>simp at hd;subst hd;exact Zko h.2
  | succ k=>exact h2 k d (by simpa using hd)
theorem Zqy {n:Nat} {es:List En} (h:∀(k:Nat) (e:En),es[k]? =some e→e.idx≠(n:Int)):XZ es n=0:=by
 have a:∀(es:List En) (f:Nat→Rat),(∀(k:Nat) (e:En),es[k]? =some e→e.idx≠(n:Int))→dQ es f n=f n:=by
  intro es
  induction es with
  | nil=>intro f _;rfl
  | cons c es ih=>
   intro f h;rw [dQ,ih _ fun k e he=>h (k+1) e (by simpa using he),if_neg (h 0 c rfl)]
 exact a es _ h
theorem cpyV_spV:∀{n:Nat} {es:List En},Good n es→Zla es=spV (XZ es) n
 | 0,[],_=>rfl
 | 0,e::es,h=>by have:=h.1 0 e rfl;omega
 | n+1,es,h=>by
  rcases List.eq_nil_or_concat es with rfl | ⟨ds,e,he0⟩
  ·have h0:Good n ([]:List En):=⟨fun k e h=>by simp at h,trivial,fun k e h=>by simp at h⟩
   rw [Y8 rfl]
   exact cpyV_spV h0
  ·rw [List.concat_eq_append] at he0
   subst he0
   obtain ⟨h1,h2,h3⟩:=h
   obtain ⟨i1,i2⟩:=Zkp h2
   have he:(ds++[e])[ds.length]? =some e:=by simp
   have e1:=h1 _ e he
   have hl:∀(k:Nat) (d:En),ds[k]? =some d→(ds++[e])[k]? =some d:=fun k d hd=>by
    rw [List.getElem?_append_left (List.getElem?_eq_some_iff.1 hd).1];exact hd
   have hc:∀i,XZ (ds++[e]) i=if e.idx=(i:Int) then e.f.q else XZ ds i:=fun i=>by unfold XZ;rw [Zgo]
   by_cases g:e.idx=(n:Int)
   ·have hd:Good n ds:=⟨fun k d hd=>by have:=i2 k d hd;have:=h1 k d (hl k d hd);omega,i1,fun k d hd=>h3 k d (hl k d hd)⟩
    have hn:XZ (ds++[e]) n=e.f.q:=by rw [hc,if_pos g]
    rw [Xo (by rw [hn];exact h3 _ e he),hn,WM (g:=XZ ds) fun i hi=>by rw [hc,if_neg (by omega)],← cpyV_spV hd]
    unfold Zla
    rw [List.map_append]
    simp [g]
   ·have hd:Good n (ds++[e]):=⟨fun k d hd=>by
     have:=h1 k d hd
     rcases JX k ds.length with hk | hk
     ·rw [List.getElem?_append_left hk] at hd
      have:=i2 k d hd;omega
     ·rw [List.getElem?_append_right hk] at hd
      have a:k - ds.length=0:=by
       rcases JV (k - ds.length) with e | e
       ·exact e
       ·rw [JU (by simp;omega)] at hd;cases hd
      rw [a] at hd;simp at hd;subst hd;omega,h2,h3⟩
    rw [Y8 (Zqy fun k d hk=>by have:=hd.1 k d hk;omega)];exact cpyV_spV hd
end Pl
theorem Zqz [Old] (v:Value) (n K:Nat) (cols:List (List En)) (Cs:Mx) (w:World) (h:Xf w v cols) (hl:cols.length=n) (hn:n≤7) (hK:1≤K) (hE:5^n * K≤4000000) (hg:∀(k:Nat) (c:List En),cols[k]? =some c→Pl.Good n c∧∀(j:Nat) (e:En),c[j]? =some e→e.f.Rs K) (hCs:∀(k:Nat) (c:List En),cols[k]? =some c→Cs k=XZ c) (hOl:Zb w:=by (repeat (first | assumption | exact Zb.up (by assumption) hOl | exact Zb.up (Hid.out (by assumption)) hOl | with_reducible refine Zb.set ?_ _ _ | with_reducible refine Zb.mk_ ?_ _ | with_reducible refine Zb.dr ?_ | with_reducible refine Zb.drN ?_ | refine Zb.up (by assumption) ?_ | refine Zb.up (Hid.out (by assumption)) ?_))):
 Calls Tryz.prog 13 #[.int .i64 (n:Int),v] w (Zxa n K Cs w):=by
 have a2:=hOl.le;obtain ⟨A,c,rfl,Z,a6⟩:=h.shape;rw [hl] at h Z ⊢;have HV:=JZ h;have HG:=JZ hg;have HL:=JZ hl;have HK:=JZ hK;have HE:=JZ hE;have F:Hid (∀r c,r < n→c < n→Sz K (Cs c r)):=JZ fun r c hr hc=>by
  obtain ⟨d,hd⟩:=XI (cs:=cols) (i:=c) (by omega);rw [hCs c d hd];exact Sz_col (hg c d hd).2 hK r
 have a3:K≤4000000:=JW (Nat.le_mul_of_pos_left K (Nat.pow_pos (by decide))) hE;have a4:=Zey n (by omega);have B:=Yl.zeros w n (by unfold maxLen;omega);have G:=Zd w (.cells (zvc n) 28);rw [Zbf (L:=Cs)] at B;have T:=JZ hCs;clear h hg hl hK hE hCs;go_enter Tryz.func13,Tryz.ntmps13;go_wp2;generalize w.alloc (.cells (zvc n) 28)=W at *
 go_loopw [26] (fun x wr=>∃k:Nat,k≤n∧x= .int .i64 k∧Yl w.heap.size wr (.slice (some ⟨w.heap.size,0,none⟩) n n) (Zkq n k Cs)∧Below w.heap.size w wr) (fun x _=>n - (intOf x).toNat)
 case atStart=>exact ⟨0,by omega,rfl,B,G⟩
 case round=>
  clear B G;obtain ⟨k,hk,rfl,hO,g⟩:=hrel;rcases JX k n with hkl | hkl
  ·obtain ⟨es,u⟩:=XI (cs:=cols) (i:=k) (by rw [HL.out];exact hkl);obtain ⟨q,P⟩:=HG.out k es u;obtain ⟨b,a7,A1,c1,rfl,_,x0,hv⟩:=HV.out.elem g u;have a5:(k:Int) < n:=(by omega);have HM:=JZ (T.out k es u);have HC:=JZ (cpyV_spV q);have U:Hid (vecErr es (n:Int)=0):=JZ (q.err (by omega));have V:=JZ P;have H:=q.enI (by omega);have X:Hid (es.length≤1099511627776):=JZ (by
    have e1:(Zla es).length=es.length:=(by simp [Zla]);rw [cpyV_spV q] at e1;have:=Ve (f:=XZ es) n;omega)
   clear u q P;go_wp2_with fail;refine (XP _ es (n:Int) _ hv H (by omega) (by omega)).mono ?_;rw [U.out];rintro _ w1 ⟨rfl,l⟩;have I:=hv.below l;have s:=hO.below l;have a:=Za g l g.size;clear hv hO g l x0 H;go_wp2_with fail;refine (Zbp _ es K _ I V.out (by omega) X.out).mono ?_;rintro _ w2 ⟨v2,rfl,e2,E⟩;rw [HC.out,← HM.out] at e2;have D:=s.below E;have y:=Za a E a.size;obtain ⟨_,m0,m1,-⟩:=D.at_ (Uo (t:=k) (L:=Cs) hkl);obtain ⟨S,_⟩:=D.set_ (k:=k) (by rw [XK];exact hkl) e2.vec;rw [Zdl hkl] at S;have J:=y.setCell (p:=⟨w.heap.size,k,none⟩) (JY _) v2;obtain ⟨A2,n2,c2,rfl⟩:∃A n c,v2= .slice A n c:=by obtain ⟨A,c,e,_⟩:=e2.vec.shape;exact ⟨A,_,c,e⟩
   clear I s D a y e2 E;go_wp2;go_roundw
   case rel=>exact ⟨k+1,by omega,by go_num,S,J⟩
   case measure=>simp [intOf];omega
  ·obtain rfl:n=k:=by omega
   rw [Ziw] at hO;have HO:=JZ hO;go_wp2_with fail;refine (Zdm _ n K _ _ hO.vecs (by omega) HK.out HE.out F.out).mono ?_;clear hO;rintro _ w1 ⟨l,⟨R,C,L,Um,s0,s1,s2,s3,rfl,hF,h0,h1,h2,h3⟩ | ⟨rfl,a1⟩⟩
   ·have s:=HO.out.below l;have a:=Za g l g.size;have M:=g.size;have N:w.heap.size < wr.heap.size:=by
     obtain ⟨cs,hh,_⟩:=HO.out;exact Vz hh w.heap.size rfl
    have z:XA n Cs:=hF.fac.indep;have O:=JZ z;have HF:=JZ hF;obtain ⟨A0,c0,rfl⟩:=h0.nshape;obtain ⟨A1,c1,rfl⟩:=h1.nshape;obtain ⟨A2,c2,rfl⟩:=h2.nshape;obtain ⟨A3,c3,rfl⟩:=h3.nshape;have hX:=Bk.new w1 69 [.slice A0 n c0,.slice A1 n c1,.slice A2 n c2,.slice A3 n c3];have o:=Zd w1 (.cells #[.slice A0 n c0,.slice A1 n c1,.slice A2 n c2,.slice A3 n c3] 69);clear hF z g;obtain ⟨W2,a0,hX,o⟩:∃W2,w1.alloc (.cells #[.slice A0 n c0,.slice A1 n c1,.slice A2 n c2,.slice A3 n c3] 69)=W2∧Bk W2 w1.heap.size 69 [.slice A0 n c0,.slice A1 n c1,.slice A2 n c2,.slice A3 n c3]∧Below w1.heap.size w1 W2:=⟨_,rfl,hX,o⟩;obtain ⟨x0,x1,x2,x3⟩:=hX.four;go_wp2;clear a0 x0 x1 x2 x3 hX;have hY:=Bk.new W2 74 [.int .i64 (n:Int),.slice (some ⟨w.heap.size,0,none⟩) n n,.slice A0 n c0,.slice A1 n c1,.slice A2 n c2,.slice A3 n c3,.slice none 0 0];have Y:=Zd W2 (.cells #[.int .i64 (n:Int),.slice (some ⟨w.heap.size,0,none⟩) n n,.slice A0 n c0,.slice A1 n c1,.slice A2 n c2,.slice A3 n c3,.slice none 0 0] 74);have m:=Za o Y o.size;go_ret2;refine ⟨Za a m a.size,.inl ⟨_,rfl,O.out,fun bi=>⟨0,w.heap.size,n,fun _=>0,R,C,fun _ _=>0,fun _ _=>0,L,Um,fun _=>Cs,_,_,_,_,_,hY,⟨JW a.size o.size,by omega,HE.out,rfl⟩,Ups.zero F.out O.out _ _ _,HF.out,s.below m,(h0.below m).monoB M,(h1.below m).monoB M,(h2.below m).monoB N,(h3.below m).monoB N,Zlc.nil _ _ _ _ _ _⟩⟩⟩
   ·have a:=Za g l g.size;clear g l;go_wp2;go_ret2;exact ⟨Za a (Zd _ _) a.size,.inr ⟨rfl,a1⟩⟩
namespace Pl
theorem Good.len {n:Nat} {es:List En} (h:Good n es):es.length≤n:=by
 have h1:=congrArg List.length (cpyV_spV h);have h2:=Ve (f:=XZ es) n;unfold Zla at h1;rw [List.length_map] at h1;omega
def EnW (es:List En):Prop:=∀(k:Nat) (e:En),es[k]? =some e→e.f.Rw
end Pl
namespace Pl
theorem Zbg {n:Int}:∀{es:List En} {p:Option Int},Vw n es p=0→∀(k:Nat) (e:En),es[k]? =some e→(0≤e.idx∧e.idx < n)∧e.f.q≠0
 | [],_,_,k,e,he=>by simp at he
 | d::es,p,h,k,e,he=>by
  rw [Vw] at h
  by_cases h1:d.idx < 0∨n≤d.idx
  ·rw [if_pos h1] at h;omega
  ·rw [if_neg h1] at h
   by_cases h2:leP p d.idx=true
   ·rw [if_pos h2] at h;omega
   ·rw [if_neg h2] at h
    by_cases h3:d.f.q=0
    ·rw [if_pos h3] at h;omega
    ·rw [if_neg h3] at h
     cases k with
     | zero=>
      simp at he
      subst he
      exact ⟨by omega,h3⟩
     | succ k=>exact Zbg h k e (by simpa using he)
theorem Zbh {n:Nat} {es:List En} (h:vecErr es (n:Int)=0):Good n es:=by
 unfold vecErr at h;split at h
 ·omega
 ·exact ⟨fun k e he=>(Zbg h k e he).1,Zpv h,fun k e he=>(Zbg h k e he).2⟩
theorem VI {n:Int}:∀{cs:List (List En)},YH n cs=0→∀(k:Nat) (c:List En),cs[k]? =some c→vecErr c n=0
 | [],_,k,c,hc=>by simp at hc
 | d::cs,h,k,c,hc=>by
  rw [YH] at h
  by_cases h1:vecErr d n=0
  ·rw [if_pos h1] at h
   cases k with
   | zero=>
    simp at hc
    subst hc
    exact h1
   | succ k=>exact VI h k c (by simpa using hc)
  ·rw [if_neg h1] at h;exact absurd h h1
def Wx (n:Int) (cols:List (List En)):Int:=if n < 0∨64 < n then 5 else if (cols.length:Int)≠n then 12 else if YH n cols≠0 then YH n cols else if Zfa n.toNat (trM (Yu cols))=0 then 13 else 0
def Zix (cols:List (List En)):Prop:=∀(k:Nat) (c:List En),cols[k]? =some c→EnI c∧EnW c∧∀(j:Nat) (e:En),c[j]? =some e→e.f.Rs 12
structure Zrg (n:Nat) (cols:List (List En)):Prop where
 len:cols.length=n
 n7:n≤7
 good:∀(k:Nat) (c:List En),cols[k]? =some c→Good n c
 light:Zix cols
 ind:XA n (Yu cols)
theorem Zvw {n:Int} {cols:List (List En)} (h:Wx n cols=0) (hL:Zix cols) (h7:n≤7∨64 < n):∃m:Nat,n=(m:Int)∧Zrg m cols:=by
 unfold Wx at h;by_cases h1:n < 0∨64 < n
 ·rw [if_pos h1] at h;omega
 ·rw [if_neg h1] at h;by_cases h2:(cols.length:Int)≠n
  ·rw [if_pos h2] at h;omega
  ·rw [if_neg h2] at h;by_cases h3:YH n cols≠0
   ·rw [if_pos h3] at h;exact absurd h h3
   ·rw [if_neg h3] at h;by_cases h4:Zfa n.toNat (trM (Yu cols))=0
    ·rw [if_pos h4] at h;omega
    ·obtain ⟨m,rfl⟩:=JT (show 0≤n by omega);refine ⟨m,rfl,by omega,by omega,fun k c hc=>Zbh (VI (by simpa using h3) k c hc),hL,?_⟩;exact (Zij (M:=trM (Yu cols)) (cols:=Yu cols) fun _ _ _ _=>rfl).1 h4
end Pl
theorem Zun [Old] (v:Value) (cols:List (List En)) (n:Int) (w:World) (h:Xf w v cols) (hL:Zix cols) (h7:n≤7∨64 < n) (h0: -9223372036854775808≤n) (h1:n≤9223372036854775807) (hOl:Zb w:=by (repeat (first | assumption | exact Zb.up (by assumption) hOl | exact Zb.up (Hid.out (by assumption)) hOl | with_reducible refine Zb.set ?_ _ _ | with_reducible refine Zb.mk_ ?_ _ | with_reducible refine Zb.dr ?_ | with_reducible refine Zb.drN ?_ | refine Zb.up (by assumption) ?_ | refine Zb.up (Hid.out (by assumption)) ?_))):
 Calls Tryz.prog 11 #[.int .i64 n,v] w fun e w'=>e= .returned (.int .i64 (Wx n cols))∧Below w.heap.size w w':=by
 have Z:=hOl.le;obtain ⟨A,c,rfl,U,a5⟩:=h.shape;have HC:=JZ hL;obtain ⟨l,hl⟩:∃l,cols.length=l:=⟨_,rfl⟩;have HL:=JZ hl;rw [hl] at h U ⊢;have HV:=JZ h;clear h hL;by_cases L:n < 0
 ·have HR:Hid (Wx n cols=5):=JZ (by unfold Wx;rw [if_pos (.inl L)]);clear hl;go_enter Tryz.func11,Tryz.ntmps11;go_wp2;go_ret;exact ⟨by rw [HR.out];rfl,JR _ _⟩
 ·by_cases N:64 < n
  ·have HR:Hid (Wx n cols=5):=JZ (by unfold Wx;rw [if_pos (.inr N)]);clear hl;go_enter Tryz.func11,Tryz.ntmps11;go_wp2;go_ret;exact ⟨by rw [HR.out];rfl,JR _ _⟩
  ·obtain ⟨m,rfl⟩:=JT (show 0≤n by omega);have y:m≤7:=(by omega);have a0:decide ((64:Int) < m)=false:=(by simp;omega);by_cases Y:l=m
   ·subst Y;have t:Wx (l:Int) cols=if YH (l:Int) (cols.drop 0)≠0 then YH (l:Int) (cols.drop 0) else if Zfa l (trM (Yu cols))=0 then 13 else 0:=by
     unfold Wx;rw [if_neg (by omega),if_neg (by omega)];rfl
    obtain ⟨j,s⟩:∃x,Wx (l:Int) cols=x:=⟨_,rfl⟩;rw [s] at t ⊢;have o:=JZ t;clear hl t s;go_enter Tryz.func11,Tryz.ntmps11;go_wp2
    go_loopw [5] (fun x wr=>∃k:Nat,k≤l∧x= .int .i64 k∧Below w.heap.size w wr∧YH (l:Int) (cols.drop 0)=YH (l:Int) (cols.drop k)) (fun x _=>l - (intOf x).toNat)
    case atStart=>exact ⟨0,by omega,rfl,JR _ _,rfl⟩
    case round=>
     obtain ⟨k,hk,rfl,d,G⟩:=hrel;have HE:=JZ G;clear G;rcases JX k l with hkl | hkl
     ·obtain ⟨es,he⟩:=XI (cs:=cols) (i:=k) (by rw [HL.out];exact hkl);obtain ⟨b,a6,A1,c1,rfl,a7,a,hm⟩:=HV.out.elem d he;obtain ⟨g1,g2,g3⟩:=HC.out k es he;have a1:(k:Int) < l:=(by omega);have z:=JZ (Zep (n:=(l:Int)) he);obtain ⟨ls,H⟩:∃x,es.length=x:=⟨_,rfl⟩;rw [H] at hm a;have a2:=Zmr es (l:Int);clear he H;go_wp2_with fail;refine (Zdo _ es (l:Int) _ hm (fun k e he=>(g3 k e he).sh (by decide)) g1 (by omega) (by omega)).mono ?_;rintro _ w2 ⟨rfl,V⟩;have g:=Za d V d.size;by_cases hz:vecErr es (l:Int)=0
      ·have HR:Hid (YH (l:Int) (cols.drop 0)=YH (l:Int) (cols.drop (k+1))):=JZ (by rw [HE.out,z.out,if_pos hz]);clear g1 g2 g3 a hm;go_wp2;go_roundw
       case rel=>exact ⟨k+1,by omega,by go_num,g,HR.out⟩
       case measure=>simp [intOf];omega
      ·have HR:Hid (j=vecErr es (l:Int)):=JZ (by
        have e1:YH (l:Int) (cols.drop 0)=vecErr es (l:Int):=(by rw [HE.out,z.out,if_neg hz]);rw [o.out,e1,if_pos hz])
       have a3:(vecErr es (l:Int) !=0)=true:=(by simpa using hz);generalize vecErr es (l:Int)=ER at *;clear hz g1 g2 g3 a hm;go_wp2;go_ret;exact ⟨by rw [HR.out];rfl,g⟩
     ·obtain rfl:l=k:=by omega
      have hz:YH (l:Int) (cols.drop 0)=0:=HE.out.trans (Zgn (by rw [HL.out];exact JY _));have HR:Hid (j=if Zfa l (trM (Yu cols))=0 then 13 else 0):=JZ (by rw [o.out,if_neg (by simpa using hz)]);have B:∀(k:Nat) (c:List En),cols[k]? =some c→Pl.Good l c:=fun k c hc=>Zbh (VI (by simpa using hz) k c hc)
      have O:XA l (Yu cols)∨Zfa l (trM (Yu cols))=0:=(Classical.em (Zfa l (trM (Yu cols))=0)).elim Or.inr fun h=>Or.inl ((Zij (M:=trM (Yu cols)) (cols:=Yu cols) fun _ _ _ _=>rfl).1 h)
      have hE:5^l * 12≤4000000:=by
       have:=Nat.pow_le_pow_right (show 0 < 5 by decide) y;have h5:(5:Nat)^7=78125:=(by decide);omega
      have C:=JZ hE;have D:Hid (Sz (5^l * 12) (Zfa l (trM (Yu cols)))):=JZ (by
       unfold Zfa
       cases hd:dN (trM (Yu cols)) l l with
       | none=>exact Sz_zero.mono (JW (by decide) (JS 12 (Nat.pow_pos (show 0 < 5 by decide))))
       | some p=>
        refine (Zwm (K:=12) (fun r c hr hc=>?_) (by decide) (JY _) hd).2;obtain ⟨cc,I⟩:=XI (cs:=cols) (i:=c) (by rw [HL.out];exact hc);show Sz 12 (Yu cols c r);rw [Wu I];exact Sz_col (HC.out c cc I).2.2 (by decide) r)
      have P:=JZ B;clear hz B O hE;have R:=JZ (Zrf _ cols l 12 wr (HV.out.below d) HL.out y (by decide) C.out (fun k c hc=>⟨(P.out k c hc).2.1,(HC.out k c hc).2.2⟩));go_wp2_with fail;(with_reducible refine R.out.mono ?_);rintro _ w3 ⟨v3,rfl,e3,g⟩;have E:=Za d g d.size;obtain ⟨dq,J⟩:∃q,Zfa l (trM (Yu cols))=q:=⟨_,rfl⟩;rw [J] at e3 HR D;have S:(canF dq).Sh:=D.out.sh (by have:=C.out;omega);clear J;go_wp2_with fail;refine (Xl _ (canF dq) _ e3 S).mono ?_;rw [ZG];rintro _ w5 ⟨rfl,X⟩;have F:=Za E X E.size;by_cases f:dq=0
      ·have T:(qs dq==0)=true:=(by rw [f];decide);have u:Hid (j=13):=JZ (by rw [HR.out,if_pos f]);clear f;go_wp2;go_ret;exact ⟨by rw [u.out];rfl,F⟩
      ·have T:(qs dq==0)=false:=(by simpa using fun e=>f (Yz.1 e));have u:Hid (j=0):=JZ (by rw [HR.out,if_neg f]);clear f;go_wp2;go_ret;exact ⟨by rw [u.out];rfl,F⟩
   ·have HR:Hid (Wx (m:Int) cols=12):=JZ (by unfold Wx;rw [if_neg (by omega),if_pos (by rw [HL.out];omega)]);have a4:((l:Int) !=(m:Int))=true:=(by simp;omega);clear hl;go_enter Tryz.func11,Tryz.ntmps11;go_wp2;go_ret;exact ⟨by rw [HR.out];rfl,JR _ _⟩
def Zkv [Old] (gc:Nat) (w w':World):Prop:=∀(b:Nat) (cs:Array Value) (t:TypeId) (fz:Nat × Nat),((t≠74∧(t≠28∨b≠gc)∧t≠87)∨b < Old.n)→w.heap[b]? =some (.cells cs t fz)→w'.heap[b]? =some (.cells cs t fz)
theorem Zkv.trans [Old] {gc:Nat} {a b c:World} (h:Zkv gc a b) (k:Zkv gc b c):Zkv gc a c:=fun x cs t fz ht hx=>k x cs t fz ht (h x cs t fz ht hx)
theorem Zkv.set [Old] {gc base n cc:Nat} {w:World} {cols:List (List En)} (h:Yl base w (.slice (some ⟨gc,0,none⟩) n cc) cols) (i:Nat) (u:Value) (hO:Old.n≤base:=by first | assumption | exact Nat.zero_le _ | omega | ((first | with_reducible refine Zb.le ?_ | with_reducible refine Zb.le1 ?_ | with_reducible refine Zb.le2 ?_ | with_reducible refine Zb.le3 ?_);repeat (first | assumption | exact Zb.up (by assumption) hOl | exact Zb.up (Hid.out (by assumption)) hOl | with_reducible refine Zb.set ?_ _ _ | with_reducible refine Zb.mk_ ?_ _ | with_reducible refine Zb.dr ?_ | with_reducible refine Zb.drN ?_ | refine Zb.up (by assumption) ?_ | refine Zb.up (Hid.out (by assumption)) ?_))):Zkv gc w (w.setCell ⟨gc,i,none⟩ u):=by
 intro b cs t fz ht hb;by_cases e:b=gc
 ·subst e;obtain ⟨xs,g1,_⟩:=h;rcases g1.2 with ⟨e,_⟩ | ⟨g',cap,cur,e,hge,hg,_⟩
  ·cases e
  ·cases e
   rw [hg] at hb;injection hb with hb;injection hb with _ e2 _;have ht:=ht.resolve_right (by omega);rcases ht.2.1 with h2 | h2
   ·exact absurd e2.symm h2
   ·exact absurd rfl h2
 ·rw [heap_setCell_other w _ _ _ e];exact hb
def Zxc [Old] (gc base bi:Nat) (w:World) (g n K:Nat) (Cs:Mx):Prop:=
 ∃(T cc:Nat) (k R C:Nat→Nat) (im V L Um:Mx) (CC:Nat→Mx) (s0 s1 s2 s3 vu:Value),
  Bk w g 74 [.int .i64 (n:Int),.slice (some ⟨gc,0,none⟩) n cc,s0,s1,s2,s3,vu]∧(base≤g∧T≤16∧5^n * K≤4000000∧CC T=Cs)∧Ups n K T k im V CC∧Znq n (5^n * K) (trM (CC 0)) R C L Um∧
  Yl base w (.slice (some ⟨gc,0,none⟩) n cc) (vcL n Cs)∧ZJ base w s0 (Zdg n R)∧ZJ base w s1 (Zdg n C)∧Yl (gc+1) w s2 (vcL n L)∧Yl (gc+1) w s3 (vcL n Um)∧Zlc base bi w vu T n k im
theorem Zse.c [Old] {base bi g n K:Nat} {w:World} {Cs:Mx} (h:Zse base bi w g n K Cs):∃gc,Zxc gc base bi w g n K Cs:=by
 obtain ⟨T,gc,cc,h⟩:=h;exact ⟨gc,T,cc,h⟩
namespace Pl
theorem Uq {q:Rat} (h:q≠0):Good 1 [⟨0,canF q⟩]:=by
 have e:spV (fun _=>q) 1=[⟨0,canF q⟩]:=by simp [spV,h]
 rw [← e];exact Zqi _ 1
end Pl
theorem Zuo [Old] (w:World) (hOl:Zb w:=by (repeat (first | assumption | exact Zb.up (by assumption) hOl | exact Zb.up (Hid.out (by assumption)) hOl | with_reducible refine Zb.set ?_ _ _ | with_reducible refine Zb.mk_ ?_ _ | with_reducible refine Zb.dr ?_ | with_reducible refine Zb.drN ?_ | refine Zb.up (by assumption) ?_ | refine Zb.up (Hid.out (by assumption)) ?_))):
 Calls Tryz.prog 12 #[] w fun o w'=>o= .returned (.bool true)∧Below w.heap.size w w':=by
 have V:=hOl.le;have s2:Sz 1 ((2:Int):Rat):=Zrz (by decide) (by decide);have s6:Sz 1 ((6:Int):Rat):=Zrz (by decide) (by decide);go_enter Tryz.func12,Tryz.ntmps12;go_wp2_with fail;refine (X8 2 _ (by omega) (by omega)).mono ?_;rintro _ w1 ⟨v1,rfl,e1,L⟩;obtain ⟨A,n,c,A',n',c',rfl,_,_⟩:=id e1;have s:Hid (((2:Int):Rat)≠0):=JZ (by decide);generalize C:((2:Int):Rat)=q2 at *;have t:=Zd w1 (.cells #[.int .i64 0,.bool (canF q2).num.neg,.slice A n c,.bool (canF q2).den.neg,.slice A' n' c'] 39);have hB:=Bk.new w1 39 [.int .i64 0,.bool (canF q2).num.neg,.slice A n c,.bool (canF q2).den.neg,.slice A' n' c'];have hV:=Wy.one hB (e1.below t);obtain ⟨W2,i⟩:∃x,w1.alloc (.cells #[.int .i64 0,.bool (canF q2).num.neg,.slice A n c,.bool (canF q2).den.neg,.slice A' n' c'] 39)=x:=⟨_,rfl⟩;have O:W2.heap.size=w1.heap.size+1:=by rw [← i];simp
 have D:Below w.heap.size w W2:=by rw [← i];exact Za L t L.size
 have E:Wy W2 (.slice (some ⟨w1.heap.size,0,none⟩) 1 1) [⟨0,canF q2⟩]:=by rw [← i];exact hV
 have b:=Zd W2 (.cells #[.slice (some ⟨w1.heap.size,0,none⟩) 1 1] 28);have u:=Xf.one (Bk.new W2 28 [.slice (some ⟨w1.heap.size,0,none⟩) 1 1]) (E.below b);clear t hB hV;go_wp2_with fail;rw [O] at u;refine (Zqz _ 1 1 [[⟨0,canF q2⟩]] (Yu [[⟨0,canF q2⟩]]) _ u rfl (by omega) (by omega) (by decide) (fun k c hc=>by
  match k,hc with
  | 0,hc=>simp at hc;subst hc;exact ⟨Uq s.out,fun j e he=>by
   match j,he with
   | 0,he=>simp at he;subst he;exact s2.rs⟩) (fun k c hc=>Wu hc)).mono ?_
 rintro _ w3 ⟨M,⟨g,rfl,U,m⟩ | ⟨rfl,T⟩⟩
 ·have P:=JZ (m 0);have F:=Za D (Za b M b.size) D.size;clear u E b M m i;go_wp2_with fail;refine (X8 6 _ (by omega) (by omega)).mono ?_;rintro _ w5 ⟨v5,rfl,e5,N⟩;obtain ⟨A2,n2,c2,A3,n3,c3,rfl,_,_⟩:=id e5;have G:Hid (((6:Int):Rat)≠0):=JZ (by decide);have HX:Hid (∀x:Nat→Rat,(∀r,r < 1→XV 1 (Yu [[⟨0,canF q2⟩]]) x r=XZ [⟨0,canF ((6:Int):Rat)⟩] r)→spV x 1=[⟨0,canF 3⟩]):=JZ fun x hx=>by
   have h1:=hx 0 (by omega);rw [Zas (Uq G.out).2.1 (k:=0) (e:=⟨0,canF ((6:Int):Rat)⟩) rfl rfl,ZG] at h1;have h2:Yu [[⟨0,canF q2⟩]] 0 0=q2:=by
    rw [Wu (c:=[⟨0,canF q2⟩]) rfl,Zas (Uq s.out).2.1 (k:=0) (e:=⟨0,canF q2⟩) rfl rfl,ZG]
   have h3:x 0=3:=by
    simp only [XV,Z6] at h1;rw [h2,← C] at h1;grind
   simp [spV,h3]
  generalize ((6:Int):Rat)=q6 at *;have H:=Zd w5 (.cells #[.int .i64 0,.bool (canF q6).num.neg,.slice A2 n2 c2,.bool (canF q6).den.neg,.slice A3 n3 c3] 39);have I:=Wy.one (Bk.new w5 39 [.int .i64 0,.bool (canF q6).num.neg,.slice A2 n2 c2,.bool (canF q6).den.neg,.slice A3 n3 c3]) (e5.below H);have d:=Za N H N.size;have f:=Za F d F.size;clear C;go_wp2_with fail;refine (Zks _ 0 g 1 1 _ _ [⟨0,canF q6⟩] _ (P.out.below d) I (Uq G.out) (fun j e he=>by
   match j,he with
   | 0,he=>simp at he;subst he;exact s6.rs)).mono ?_
  rintro _ w7 ⟨v7,x,rfl,hx,-,e7,p⟩;rw [HX.out x hx] at e7;obtain ⟨A4,c4,rfl,_,_⟩:=e7.vec.shape;have z:=e7.vec;obtain ⟨q3,B⟩:∃q:Rat,(3:Rat)=q:=⟨_,rfl⟩;have R:Hid (((3:Int):Rat)=q3):=JZ (by rw [← B];rfl);rw [B] at z;obtain ⟨b5,o5,A5,n5,c5,A6,n6,c6,rfl,_,⟨x0,x1,x2,x3,x4⟩,S⟩:=z.elem (JR _ _) (k:=0) rfl;have l:=Za f p f.size;simp only [Nat.zero_mul,Nat.add_zero,List.length_cons,List.length_nil,Nat.zero_add] at *;clear hx e7 z p I B;go_wp2_with fail;have X1:=Zr x1;have X2:=Zr x2;have X3:=Zr x3;have X4:=Zr x4;have J:=Zj w7;clear x0 x1 x2 x3 x4;refine Zt 16 [0,1,2,3,4,5,6,7,8,9,10,11,12,13,14,15] (by kernel_rfl) (by kernel_rfl) ?_;repeat ((first | (refine Zc (v:=?_) rfl rfl rfl ?_ ?_;rotate_left;(· (intro _ a;go_simp;(try go_bits);(try with_reducible rfl)))) | (refine Ze (v:=?_) rfl rfl rfl ?_ ?_;rotate_left;(· (intro _ a;go_simp;(try go_bits);(try with_reducible rfl)))) | refine Zf rfl rfl rfl ?_);(try simp only [Act.put,pu1,pu2,pu3,pu4,pu5,pu6]))
  refine Zg rfl rfl (fun KR hKR=>?_);go_simp;with_reducible refine (X8 3 _ (by omega) (by omega)).mono ?_
  rw [R.out];rintro _ w8 ⟨v8,rfl,e8,d⟩;have h:=Za J d J.size;refine hKR.out _ _ (Or.inr h) ?_;clear hKR KR;(try simp only [Act.put,pu1,pu2,pu3,pu4,pu5,pu6]);repeat ((first | (refine Zc (v:=?_) rfl rfl rfl ?_ ?_;rotate_left;(· (intro _ a;go_simp;(try go_bits);(try with_reducible rfl)))) | (refine Ze (v:=?_) rfl rfl rfl ?_ ?_;rotate_left;(· (intro _ a;go_simp;(try go_bits);(try with_reducible rfl)))) | refine Zf rfl rfl rfl ?_);(try simp only [Act.put,pu1,pu2,pu3,pu4,pu5,pu6]))
  refine Zg rfl rfl (fun KR hKR=>?_);go_simp;with_reducible refine (Zkt _ _ (canF q3) (canF q3) _ (S.below h) e8).mono ?_
  rw [Zjr];rintro _ w9 ⟨rfl,f⟩;have K:=Za h f h.size;refine hKR.out _ _ (Or.inr K) ?_;clear hKR KR;(try simp only [Act.put,pu1,pu2,pu3,pu4,pu5,pu6]);repeat ((first | (refine Zc (v:=?_) rfl rfl rfl ?_ ?_;rotate_left;(· (intro _ a;go_simp;(try go_bits);(try with_reducible rfl)))) | (refine Ze (v:=?_) rfl rfl rfl ?_ ?_;rotate_left;(· (intro _ a;go_simp;(try go_bits);(try with_reducible rfl)))) | refine Zf rfl rfl rfl ?_);(try simp only [Act.put,pu1,pu2,pu3,pu4,pu5,pu6]))
  refine Zv ?_;go_wp2;go_ret;exact ⟨rfl,Za l K l.size⟩
 ·refine absurd (fun y hy k hk=>?_) T;obtain rfl:k=0:=by omega
  have h1:=hy 0 (by omega);have h2:Yu [[⟨0,canF q2⟩]] 0 0=q2:=by
   rw [Wu (c:=[⟨0,canF q2⟩]) rfl,Zas (Uq s.out).2.1 (k:=0) (e:=⟨0,canF q2⟩) rfl rfl,ZG]
  simp only [XV,Z6] at h1;rw [h2,← C] at h1;grind
def Ziy (P:Prop) (w:World) (o:Ending) (w':World):Prop:=∃b,o= .returned (.bool b)∧(b=true→P)∧Below w.heap.size w w'
theorem Zkw [Old] (g n n' c c':Nat) (x y:Bool) (A A':Option Addr) (w:World) (h:Bk w g 34 [.bool x,.slice A n c,.bool y,.slice A' n' c']) (h1:n≤9223372036854775807) (h2:n'≤9223372036854775807) (hOl:Zb w:=by (repeat (first | assumption | exact Zb.up (by assumption) hOl | exact Zb.up (Hid.out (by assumption)) hOl | with_reducible refine Zb.set ?_ _ _ | with_reducible refine Zb.mk_ ?_ _ | with_reducible refine Zb.dr ?_ | with_reducible refine Zb.drN ?_ | refine Zb.up (by assumption) ?_ | refine Zb.up (Hid.out (by assumption)) ?_))):
 Calls Tryz.prog 86 #[.slice (some ⟨g,0,none⟩) 2 2] w (Ziy True w):=by
 have b:=hOl.le;go_enter Tryz.func86,Tryz.ntmps86;go_wp2
 go_loopw [3,4] (fun s i wr=>∃(k:Nat) (z:Int),k≤2∧s= .int .i64 z∧i= .int .i64 k∧Below w.heap.size w wr) (fun _ i _=>2 - (intOf i).toNat)
 case atStart=>exact ⟨0,0,by omega,rfl,rfl,JR _ _⟩
 case round=>
  obtain ⟨k,z,hk,rfl,rfl,a⟩:=hrel;have hB:=h.later a;rcases JX k 2 with hk2 | hk2
  ·obtain rfl | rfl:k=0∨k=1:=by omega
   ·have c1:=hB.cellAt 1 rfl;go_wp2;go_roundw
    case rel=>exact ⟨1,_,by omega,rfl,rfl,a⟩
    case measure=>simp [intOf]
   ·have c3:=hB.cellAt 3 rfl;go_wp2;go_roundw
    case rel=>exact ⟨2,_,by omega,rfl,rfl,a⟩
    case measure=>simp [intOf]
  ·obtain rfl:k=2:=by omega
   go_wp2;go_ret;exact ⟨_,rfl,fun _=>trivial,a⟩
theorem Zkx [Old] (g n n' c c':Nat) (x y:Bool) (A A':Option Addr) (w:World) (h:Bk w g 36 [.bool x,.slice A n c,.bool y,.slice A' n' c']) (h1:n≤9223372036854775807) (h2:n'≤9223372036854775807) (hOl:Zb w:=by (repeat (first | assumption | exact Zb.up (by assumption) hOl | exact Zb.up (Hid.out (by assumption)) hOl | with_reducible refine Zb.set ?_ _ _ | with_reducible refine Zb.mk_ ?_ _ | with_reducible refine Zb.dr ?_ | with_reducible refine Zb.drN ?_ | refine Zb.up (by assumption) ?_ | refine Zb.up (Hid.out (by assumption)) ?_))):
 Calls Tryz.prog 56 #[.slice (some ⟨g,0,none⟩) 1 1] w (Ziy (n≤12∧n'≤12) w):=by
 have r:=hOl.le;go_enter Tryz.func56,Tryz.ntmps56;go_wp2
 go_loopw [3] (fun i wr=>∃k:Nat,k≤1∧i= .int .i64 k∧(k=1→n≤12∧n'≤12)∧Below w.heap.size w wr) (fun i _=>1 - (intOf i).toNat)
 case atStart=>exact ⟨0,by omega,rfl,by omega,JR _ _⟩
 case round=>
  obtain ⟨k,hk,rfl,l,b⟩:=hrel;have hB:=h.later b;rcases JX k 1 with hk2 | hk2
  ·obtain rfl:k=0:=by omega
   obtain ⟨t0,t1,t2,t3⟩:=hB.four;clear l;go_wp2_with fail;have C0:=Zr t0;have C1:=Zr t1;have C2:=Zr t2;have C3:=Zr t3;have j:=Zj wr;clear t0 t1 t2 t3;refine Zt 40 [0,1,2,3,4,5,6,7,8,9,10,11,12,13,14,15,16,17,18,19,20,21,22,23,24,25,26,27,28,29,30,31,32] (by kernel_rfl) (by kernel_rfl) ?_;repeat ((first | (refine Zc (v:=?_) rfl rfl rfl ?_ ?_;rotate_left;(· (intro _ a;go_simp;(try go_bits);(try with_reducible rfl)))) | (refine Ze (v:=?_) rfl rfl rfl ?_ ?_;rotate_left;(· (intro _ a;go_simp;(try go_bits);(try with_reducible rfl)))) | refine Zf rfl rfl rfl ?_);(try simp only [Act.put,pu1,pu2,pu3,pu4,pu5,pu6]))
   refine Zg rfl rfl (fun KR hKR=>?_);go_simp;have d:=(Zd wr (.cells #[.bool x,.slice A n c,.bool y,.slice A' n' c'] 34)).drew;have e:=(Bk.new wr 34 [.bool x,.slice A n c,.bool y,.slice A' n' c']).later (Zj _);refine hKR.out _ _ (Or.inr d) ?_;clear hKR KR;(try simp only [Act.put,pu1,pu2,pu3,pu4,pu5,pu6]);repeat ((first | (refine Zc (v:=?_) rfl rfl rfl ?_ ?_;rotate_left;(· (intro _ a;go_simp;(try go_bits);(try with_reducible rfl)))) | (refine Ze (v:=?_) rfl rfl rfl ?_ ?_;rotate_left;(· (intro _ a;go_simp;(try go_bits);(try with_reducible rfl)))) | refine Zf rfl rfl rfl ?_);(try simp only [Act.put,pu1,pu2,pu3,pu4,pu5,pu6]))
   refine Zg rfl rfl (fun KR hKR=>?_);go_simp;(with_reducible refine (Zkw _ n n' c c' x y A A' _ e h1 h2).mono ?_);rintro _ w8 ⟨b1,rfl,-,p⟩;have f:=Za d p d.size;refine hKR.out _ _ (Or.inr f) ?_;clear hKR KR;(try simp only [Act.put,pu1,pu2,pu3,pu4,pu5,pu6])
   cases b1
   ·repeat ((first | (refine Zc (v:=?_) rfl rfl rfl ?_ ?_;rotate_left;(· (intro _ a;go_simp;(try go_bits);(try with_reducible rfl)))) | (refine Ze (v:=?_) rfl rfl rfl ?_ ?_;rotate_left;(· (intro _ a;go_simp;(try go_bits);(try with_reducible rfl)))) | refine Zf rfl rfl rfl ?_ | refine Ug rfl rfl rfl (by assumption) ?_);(try simp only [Act.put,pu1,pu2,pu3,pu4,pu5,pu6]))
    refine Zv ?_;clear C0 C1 C2 C3 j d e;go_wp2;go_ret;exact ⟨_,rfl,fun h=>(by cases h),Za b f b.size⟩
   ·by_cases q:n≤12
    ·by_cases q':n'≤12
     ·have qi:¬(12:Int) < n:=(by omega);have o:¬(12:Int) < n':=(by omega);repeat ((first | (refine Zc (v:=?_) rfl rfl rfl ?_ ?_;rotate_left;(· (intro _ a;go_simp;(try go_bits);(try with_reducible rfl)))) | (refine Ze (v:=?_) rfl rfl rfl ?_ ?_;rotate_left;(· (intro _ a;go_simp;(try go_bits);(try with_reducible rfl)))) | refine Zf rfl rfl rfl ?_ | refine Ug rfl rfl rfl (by assumption) ?_);(try simp only [Act.put,pu1,pu2,pu3,pu4,pu5,pu6]))
      refine Zv ?_;clear C0 C1 C2 C3 j d e;go_wp2;go_roundw
      case rel=>exact ⟨1,by omega,rfl,fun _=>⟨q,q'⟩,Za b f b.size⟩
      case measure=>simp [intOf]
     ·have qi:¬(12:Int) < n:=(by omega);have o:(12:Int) < n':=(by omega);repeat ((first | (refine Zc (v:=?_) rfl rfl rfl ?_ ?_;rotate_left;(· (intro _ a;go_simp;(try go_bits);(try with_reducible rfl)))) | (refine Ze (v:=?_) rfl rfl rfl ?_ ?_;rotate_left;(· (intro _ a;go_simp;(try go_bits);(try with_reducible rfl)))) | refine Zf rfl rfl rfl ?_ | refine Ug rfl rfl rfl (by assumption) ?_);(try simp only [Act.put,pu1,pu2,pu3,pu4,pu5,pu6]))
      refine Zv ?_;clear C0 C1 C2 C3 j d e;go_wp2;go_ret;exact ⟨_,rfl,fun h=>(by cases h),Za b f b.size⟩
    ·have qi:(12:Int) < n:=(by omega);repeat ((first | (refine Zc (v:=?_) rfl rfl rfl ?_ ?_;rotate_left;(· (intro _ a;go_simp;(try go_bits);(try with_reducible rfl)))) | (refine Ze (v:=?_) rfl rfl rfl ?_ ?_;rotate_left;(· (intro _ a;go_simp;(try go_bits);(try with_reducible rfl)))) | refine Zf rfl rfl rfl ?_ | refine Ug rfl rfl rfl (by assumption) ?_);(try simp only [Act.put,pu1,pu2,pu3,pu4,pu5,pu6]))
     refine Zv ?_;clear C0 C1 C2 C3 j d e;go_wp2;go_ret;exact ⟨_,rfl,fun h=>(by cases h),Za b f b.size⟩
  ·obtain rfl:k=1:=by omega
   have m:=l rfl;go_wp2;go_ret;exact ⟨_,rfl,fun _=>by first | trivial | exact m,b⟩
theorem Zm.lens [Old] {w:World} {A A':Option Addr} {n c n' c':Nat} {b b':Bool} {f:RF} (h:Zm w (.agg #[.bool b,.slice A n c,.bool b',.slice A' n' c']) f):
 n≤9223372036854775807∧n'≤9223372036854775807∧(n≤12∧n'≤12→f.Rs 12∧f.Rw):=by
 obtain ⟨h1,h2⟩:=h.num;obtain ⟨d1,-⟩:=h1.dig;obtain ⟨d2,-⟩:=h2.dig;have l1:=d1.len;have l2:=d2.len;obtain ⟨_,_,e1,_,_,a,_⟩:=d1;obtain ⟨_,_,e2,_,_,d,_⟩:=d2;have g1:=YW a;have g2:=YW d;exact ⟨by omega,by omega,fun ⟨q1,q2⟩=>⟨⟨by omega,by omega⟩,by omega,by omega⟩⟩
def Zcg (cols:List (List En)):Prop:=∀(k:Nat) (c:List En),cols[k]? =some c→∀(j:Nat) (e:En),c[j]? =some e→e.f.Rs 12∧e.f.Rw
theorem Zcg.c {cols:List (List En)} (h:Zcg cols) (hi:∀(k:Nat) (c:List En),cols[k]? =some c→EnI c):Zix cols:=
 fun k c hc=>⟨hi k c hc,fun j e he=>(h k c hc j e he).2,fun j e he=>(h k c hc j e he).1⟩
theorem Zky [Old] (v:Value) (cols:List (List En)) (w:World) (h:Xf w v cols) (hOl:Zb w:=by (repeat (first | assumption | exact Zb.up (by assumption) hOl | exact Zb.up (Hid.out (by assumption)) hOl | with_reducible refine Zb.set ?_ _ _ | with_reducible refine Zb.mk_ ?_ _ | with_reducible refine Zb.dr ?_ | with_reducible refine Zb.drN ?_ | refine Zb.up (by assumption) ?_ | refine Zb.up (Hid.out (by assumption)) ?_))):
 Calls Tryz.prog 26 #[v] w (Ziy (Zcg cols) w):=by
 have M:=hOl.le;obtain ⟨A,ca,rfl,K,S⟩:=h.shape;have HV:=JZ h;obtain ⟨l,hl⟩:∃l,cols.length=l:=⟨_,rfl⟩;rw [hl] at HV K ⊢;have HL:=JZ hl;obtain ⟨Q,hQ⟩:∃Q,Zcg cols=Q:=⟨_,rfl⟩;rw [hQ];have HQ:=JZ hQ;clear h hl hQ;go_enter Tryz.func26,Tryz.ntmps26;go_wp2
 go_loopw [3,4] (fun s i wr=>∃(k:Nat) (z:Int),k≤l∧s= .int .i64 z∧i= .int .i64 k∧Below w.heap.size w wr∧∀(m:Nat) (c:List En),m < k→cols[m]? =some c→∀(j:Nat) (e:En),c[j]? =some e→e.f.Rs 12∧e.f.Rw) (fun _ i _=>l - (intOf i).toNat)
 case atStart=>exact ⟨0,0,by omega,rfl,rfl,JR _ _,fun m c hm=>absurd hm (by omega)⟩
 case round=>
  obtain ⟨k,z,hk,rfl,rfl,g,a⟩:=hrel;have HR:=JZ a;clear a;rcases JX k l with hkl | hkl
  ·obtain ⟨es,he⟩:=XI (cs:=cols) (i:=k) (by rw [HL.out];exact hkl);obtain ⟨b,T,A1,c1,rfl,U,n,hm⟩:=HV.out.elem g he;have D:=hm.len.2.1;have N:=hm.len.2.2;have O:(k:Int) < l:=(by omega);have HE:=JZ he;have o:=n;obtain ⟨ls,t⟩:∃x,es.length=x:=⟨_,rfl⟩;rw [t] at hm n o D;have r:=JZ t;clear he t;go_wp2
   go_loopw [5] (fun i wx=>∃j:Nat,j≤ls∧i= .int .i64 j∧Below wr.heap.size wr wx∧∀(m:Nat) (e:En),m < j→es[m]? =some e→e.f.Rs 12∧e.f.Rw) (fun i _=>ls - (intOf i).toNat)
   case atStart=>exact ⟨0,by omega,rfl,JR _ _,fun m e hm=>absurd hm (by omega)⟩
   case round=>
    obtain ⟨j,hj,rfl,p,a⟩:=hrel;have u:=JZ a;have E:=cell_later p o;clear a n;rcases JX j ls with hjl | hjl
    ·obtain ⟨e,he⟩:∃e,es[j]? =some e:=⟨es[j]'(by rw [r.out];exact hjl),JQ (by rw [r.out];exact hjl)⟩;obtain ⟨b5,o5,A5,n5,c5,A6,n6,c6,rfl,_,⟨x0,x1,x2,x3,x4⟩,B⟩:=hm.elem p he;obtain ⟨g1,g2,g3⟩:=B.lens;have F:=JZ g3;have G:=JZ he;have P:(j:Int) < ls:=(by omega);have L:(j:Int) < es.length:=(by have:=r.out;omega);clear he g3 B;go_wp2_with fail;refine (Zkx _ n5 n6 c5 c6 _ _ A5 A6 _ (Bk.new _ _ _) g1 g2).mono ?_;rintro _ w2 ⟨b2,rfl,hr,C⟩;have H:=JZ hr;have y:=Za p (Za (Zd _ _) C (Zd _ _).size) p.size;clear hr C x0 x1 x2 x3 x4 E
     cases b2
     ·go_wp2;go_ret;exact ⟨_,rfl,fun h=>(by cases h),Za g y g.size⟩
     ·have I:=JZ (F.out (H.out rfl));go_wp2;go_roundw
      case rel=>exact ⟨j+1,by omega,by go_num,y,fun m d hm hd=>by
       rcases JX m j with q | q
       ·exact u.out m d q hd
       ·obtain rfl:m=j:=by omega
        rw [G.out] at hd;injection hd with hd;subst hd;exact I.out⟩
      case measure=>simp [intOf];omega
    ·obtain rfl:j=ls:=by omega
     have J:=Za g p g.size;go_wp2;go_roundw
     case rel=>exact ⟨k+1,_,by omega,rfl,by go_num,J,fun m d hm hd=>by
      rcases JX m k with q | q
      ·exact HR.out m d q hd
      ·obtain rfl:m=k:=by omega
       rw [HE.out] at hd;injection hd with hd;subst hd;exact fun i e hi=>u.out i e (by have:=(List.getElem?_eq_some_iff.1 hi).1;have:=r.out;omega) hi⟩
     case measure=>simp [intOf];omega
  ·obtain rfl:k=l:=by omega
   have HF:Hid Q:=JZ (by rw [← HQ.out];exact fun m c hc=>HR.out m c (by have:=(List.getElem?_eq_some_iff.1 hc).1;have:=HL.out;omega) hc);by_cases hz:z≤60
   ·go_wp2;go_ret;exact ⟨_,rfl,fun _=>HF.out,g⟩
   ·have R:(60:Int) < z:=(by omega);go_wp2;go_ret;exact ⟨_,rfl,fun _=>HF.out,g⟩
theorem Zup [Old] (v:Value) (cols:List (List En)) (n:Int) (w:World) (h:Xf w v cols) (h0: -9223372036854775808≤n) (h1:n≤9223372036854775807) (hOl:Zb w:=by (repeat (first | assumption | exact Zb.up (by assumption) hOl | exact Zb.up (Hid.out (by assumption)) hOl | with_reducible refine Zb.set ?_ _ _ | with_reducible refine Zb.mk_ ?_ _ | with_reducible refine Zb.dr ?_ | with_reducible refine Zb.drN ?_ | refine Zb.up (by assumption) ?_ | refine Zb.up (Hid.out (by assumption)) ?_))):
 Calls Tryz.prog 10 #[.int .i64 n,v] w (Ziy (Zcg cols∧(n≤7∨64 < n)) w):=by
 have c:=hOl.le;obtain ⟨A,ca,rfl,b,d⟩:=h.shape;obtain ⟨l,hl⟩:∃l,cols.length=l:=⟨_,rfl⟩;rw [hl] at h b ⊢;obtain ⟨Q,hQ⟩:∃Q,(Zcg cols∧(n≤7∨64 < n))=Q:=⟨_,rfl⟩;rw [hQ];have HQ:=JZ hQ;clear hl hQ;go_enter Tryz.func10,Tryz.ntmps10;go_wp2_with fail;refine (Zky _ cols _ h).mono ?_;rintro _ w1 ⟨b1,rfl,hr,a⟩;have HR:=JZ hr;clear hr
 cases b1
 ·go_wp2;go_ret;exact ⟨_,rfl,fun h=>(by cases h),a⟩
 ·by_cases q1:n≤7
  ·have HF:Hid Q:=JZ (by rw [← HQ.out];exact ⟨HR.out rfl,.inl q1⟩);go_wp2;go_ret;exact ⟨_,rfl,fun _=>HF.out,a⟩
  ·by_cases q2:(64:Int) < n
   ·have HF:Hid Q:=JZ (by rw [← HQ.out];exact ⟨HR.out rfl,.inr q2⟩);go_wp2;go_ret;exact ⟨_,rfl,fun _=>HF.out,a⟩
   ·go_wp2;go_ret;exact ⟨_,rfl,fun h=>absurd h (by simp [q1,q2]),a⟩
namespace Pl
theorem Zrg.fit {n:Nat} {cols:List (List En)} (h:Zrg n cols):5^n * 12≤937500:=JW (JS 12 (Nat.pow_le_pow_right (by decide) h.n7)) (by decide)
theorem Zrg.gK {n:Nat} {cols:List (List En)} (h:Zrg n cols) (k:Nat) (c:List En) (hc:cols[k]? =some c):Good n c∧∀(j:Nat) (e:En),c[j]? =some e→e.f.Rs 12:=⟨h.good k c hc,(h.light k c hc).2.2⟩
theorem Zrg.at_ {n:Nat} {cols:List (List En)} (h:Zrg n cols) {k:Nat} (hk:k < n):∃c,cols[k]? =some c∧Good n c∧EnW c∧(∀(j:Nat) (e:En),c[j]? =some e→e.f.Rs 12)∧Yu cols k=XZ c:=by
 have hl:=h.len;have e:cols[k]? =some (cols[k]'(by omega)):=JQ _;exact ⟨_,e,h.good k _ e,(h.light k _ e).2.1,(h.light k _ e).2.2,Wu e⟩
theorem Zrg.size {n:Nat} {cols:List (List En)} (h:Zrg n cols) {k:Nat} (hk:k < n) (r:Nat):Sz 12 (Yu cols k r):=by
 obtain ⟨c,_,_,_,h1,h2⟩:=h.at_ hk;rw [h2];exact Sz_col h1 (by omega) r
end Pl
end Go.Proofs.YtidgdpkcloaheaaGreat
