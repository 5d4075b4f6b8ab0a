/- Contracts that the claim is built on; no condition. -/
import Derived.Test.YtncmobkhenfhpaaGreatFn4
set_option linter.unusedVariables false
set_option linter.unusedSimpArgs false
set_option maxRecDepth 100000
set_option maxHeartbeats 40000000
namespace Go.Proofs.YtncmobkhenfhpaaGreat
open Go.RowKit
open Pl
section
namespace Pl
section
variable {p:LPd} {s:LSt}
theorem settle_zL:zL p (Zr p s)=zL p s:=rfl
theorem settle_at (i:Nat):(Zr p s).at_ i=s.at_ i:=rfl
end
theorem runL_add {p:LPd}:∀{a b:Nat} {s:LSt},Zag p (a+b) s=Zag p b (Zag p a s)
 | 0,b,s=>by rw [Nat.zero_add];rfl
 | a+1,b,s=>by
  cases e:Zeq p s with
  | none=>rw [Wq e,Wq e,Wq e]
  | some t=>rw [show a+1+b=(a+b)+1 by omega,WX e,WX e];exact runL_add
end Pl
end
namespace Pl
theorem cross {P:Nat→Prop}:∀{d x:Nat},P x→¬P (x+d)→∃k,x≤k∧k < x+d∧P k∧¬P (k+1)
 | 0,x,h1,h2=>absurd h1 h2
 | d+1,x,h1,h2=>by
  by_cases h:P (x+1)
  ·obtain ⟨k,a,b,c⟩:=cross (d:=d) (x:=x+1) h (by rw [show x+1+d=x+(d+1) by omega];exact h2)
   exact ⟨k,by omega,by omega,c⟩
  ·exact ⟨x,Nat.le_refl _,by omega,h1,h⟩
theorem crossR {P:Nat→Prop} {x y:Nat} (hxy:x≤y) (h1:P x) (h2:¬P y):∃k,x≤k∧k < y∧P k∧¬P (k+1):=by
 obtain ⟨k,a,b,c⟩:=cross (P:=P) (d:=y - x) (x:=x) h1 (by rw [show x+(y - x)=y by omega];exact h2);exact ⟨k,a,by omega,c⟩
theorem crossC {P:Nat→Prop} {a b x y:Nat} (hx:a≤x∧x≤b) (hy:a≤y∧y≤b) (hc:P a↔P b) (h1:P x) (h2:¬P y):∃k,a≤k∧k < b∧P k∧¬P (k+1):=by
 rcases Nat.lt_or_ge y x with e | e
 ·by_cases hb:P b
  ·obtain ⟨k,c1,c2,c3⟩:=crossR hy.1 (hc.2 hb) h2;exact ⟨k,c1,by omega,c3⟩
  ·obtain ⟨k,c1,c2,c3⟩:=crossR hx.2 h1 hb;exact ⟨k,by omega,c2,c3⟩
 ·obtain ⟨k,c1,c2,c3⟩:=crossR e h1 h2;exact ⟨k,by omega,by omega,c3⟩
theorem greatest (J:Nat→Nat) {a:Nat}:∀{d:Nat},∃k,a≤k∧k < a+d+1∧∀l,a≤l→l < a+d+1→J l≤J k
 | 0=>⟨a,Nat.le_refl _,by omega,fun l h1 h2=>by
  obtain rfl:l=a:=by omega
  exact Nat.le_refl _⟩
 | d+1=>by
  obtain ⟨k,h1,h2,h3⟩:=greatest J (a:=a) (d:=d)
  rcases Nat.lt_or_ge (J k) (J (a+d+1)) with e | e
  ·refine ⟨a+d+1,by omega,by omega,fun l l1 l2=>?_⟩
   rcases Nat.lt_or_ge l (a+d+1) with g | g
   ·exact Nat.le_trans (h3 l l1 g) (Nat.le_of_lt e)
   ·obtain rfl:l=a+d+1:=by omega
    exact Nat.le_refl _
  ·refine ⟨k,h1,by omega,fun l l1 l2=>?_⟩
   rcases Nat.lt_or_ge l (a+d+1) with g | g
   ·exact h3 l l1 g
   ·obtain rfl:l=a+d+1:=by omega
    exact e
theorem bestN_rule {p:LPd} {s:LSt} {Z D:List RF}:∀{n t:Nat},Yn p s Z D n=some t→∀k,k < n→0 < qAt D k→Vy Z D t < Vy Z D k∨(Vy Z D t=Vy Z D k∧ordQ p (s.at_ t)≤ordQ p (s.at_ k))
 | 0,t,h,k,hk,_=>by omega
 | n+1,t,h,k,hk,hd=>by
  by_cases h0:0 < qAt D n
  ·cases hb:Yn p s Z D n with
   | none=>
    rw [Wp hb h0] at h
    injection h with h
    subst h
    rcases Nat.lt_or_ge k n with e | e
    ·exfalso
     have:∀{m:Nat},Yn p s Z D m=none→∀k,k < m→¬0 < qAt D k:=fun {m}=>by
      induction m with
      | zero=>intro _ k hk;omega
      | succ m ih=>
       intro hm k hk
       by_cases hq:0 < qAt D m
       ·exfalso
        cases hb2:Yn p s Z D m with
        | none=>rw [Wp hb2 hq] at hm;cases hm
        | some b=>
         by_cases g:better p s Z D m b
         ·rw [YU hb2 hq g] at hm;cases hm
         ·rw [Xc hb2 hq g] at hm;cases hm
       ·rw [WU hq] at hm
        rcases Nat.lt_or_ge k m with e' | e'
        ·exact ih hm k e'
        ·obtain rfl:k=m:=by omega
         exact hq
     exact this hb k e hd
    ·obtain rfl:k=n:=by omega
     exact .inr ⟨rfl,Int.le_refl _⟩
   | some b=>
    have ih:=bestN_rule hb
    by_cases g:better p s Z D n b
    ·rw [YU hb h0 g] at h
     injection h with h
     subst h
     rcases Nat.lt_or_ge k n with e | e
     ·rcases ih k e hd with i1 | ⟨i1,i2⟩
      ·rcases g with g | ⟨g,_⟩
       ·left;grind
       ·left;rw [g];exact i1
      ·rcases g with g | ⟨g,g2⟩
       ·left;rw [← i1];exact g
       ·right;exact ⟨by rw [g,i1],by omega⟩
     ·obtain rfl:k=n:=by omega
      exact .inr ⟨rfl,Int.le_refl _⟩
    ·rw [Xc hb h0 g] at h
     injection h with h
     subst h
     rcases Nat.lt_or_ge k n with e | e
     ·exact ih k e hd
     ·obtain rfl:k=n:=by omega
      have h1:¬Vy Z D k < Vy Z D b:=fun e=>g (.inl e)
      by_cases h2:Vy Z D b=Vy Z D k
      ·right
       refine ⟨h2,Int.not_lt.1 fun e=>g (.inr ⟨h2.symm,e⟩)⟩
      ·left;grind
  ·rw [WU h0] at h
   rcases Nat.lt_or_ge k n with e | e
   ·exact bestN_rule h k e hd
   ·obtain rfl:k=n:=by omega
    exact absurd hd h0
structure Stp (p:LPd) (s t:LSt) (i j:Nat):Prop where
 piv:Piv p s i j
 ent:∀l:Nat,l < j→¬Zbh p s (l:Int) < 0
 eq:t=Zr p (Zer s i (j:Int))
 lv:0≤s.at_ i→0 < qAt (dirL p s (j:Int)) i∧∀k,k < p.right.length→0 < qAt (dirL p s (j:Int)) k→Vy (zL p s) (dirL p s (j:Int)) i < Vy (zL p s) (dirL p s (j:Int)) k∨(Vy (zL p s) (dirL p s (j:Int)) i=Vy (zL p s) (dirL p s (j:Int)) k∧ordQ p (s.at_ i)≤ordQ p (s.at_ k))
theorem stp_of {p:LPd} {s t:LSt} (h:Val p s) (e:Zeq p s=some t):∃i j:Nat,Stp p s t i j:=by
 by_cases hq:XD p s=0
 ·cases hl:WV p s (zL p s) (Zau p s) with
  | none=>rw [Zyi hl] at e;cases e
  | some i=>
   obtain ⟨i',j',c,ht⟩:=Ztn h e;rw [Zyj hq hl] at e;injection e with e;obtain ⟨j,f,hj,hJ,hD⟩:=Zth hq;rw [hJ] at e;rw [hD] at hl;have a:=Zmb h.reg (j:Int);have hi:i < p.right.length:=(by rw [← a];exact Znv hl);have hb:i < s.basis.length:=(by rw [h.fit.len];exact hi);have m:i' < s.basis.length:=by rw [h.fit.len];exact c.hi
   -- the same pivot
   have n:∀l,l < p.right.length→(j:Int)≠s.at_ l:=fun l hl2 e2=>by
    have h1:Zbh p s (j:Int) < 0:=(XC f).2.2.1;rw [e2,Ztl h.reg hl2] at h1;exact absurd h1 (by decide)
   have d:∀k,(Zer s i (j:Int)).at_ k=(Zer s i' (j':Int)).at_ k:=fun k=>by
    have:(Zr p (Zer s i (j:Int))).at_ k=(Zr p (Zer s i' (j':Int))).at_ k:=by rw [← ht,← e];rfl
    exact this
   have o:i=i':=by
    by_cases g:i=i'
    ·exact g
    ·exfalso;have h1:=d i;rw [Zdz hb,Zdz m,if_pos rfl,if_neg g] at h1;exact n i hi h1
   subst o;have q:j=j':=by
    have h1:=d i;rw [Zdz hb,Zdz hb,if_pos rfl,if_pos rfl] at h1;omega
   subst q;refine ⟨i,j,c,fun l hl2=>(XC f).2.2.2 l (Nat.zero_le _) hl2,ht,fun hr=>?_⟩;by_cases b:s.phase=2
   ·cases hf:Yw (Zpv s (dirL p s (j:Int))) 0 (dirL p s (j:Int)).length with
    | some i2=>
     exfalso;rw [Zhm b hf] at hl;injection hl with hl;subst hl;have f3:=(XC hf).2.2.1;unfold Zpv at f3;split at f3
     ·rename_i g;omega
     ·exact absurd f3 (by decide)
    | none=>
     rw [Zhn b hf] at hl;exact ⟨(Vr hl).2,fun k hk hd=>bestN_rule hl k (by rw [a];exact hk) hd⟩
   ·rw [Zhl b] at hl;exact ⟨(Vr hl).2,fun k hk hd=>bestN_rule hl k (by rw [a];exact hk) hd⟩
 ·rw [Zyh hq] at e;cases e
theorem at_basis {s t:LSt} (h:s.basis=t.basis) (k:Nat):s.at_ k=t.at_ k:=by unfold LSt.at_;rw [h]
theorem zL_basis {p:LPd} {s t:LSt} (h:s.basis=t.basis):zL p s=zL p t:=by
 have:s.mat p=t.mat p:=by funext k;show p.col (s.at_ k)=p.col (t.at_ k);rw [at_basis h]
 unfold zL;rw [this]
theorem obj_basis {p:LPd} {s t:LSt} (ph:Int) (h:s.basis=t.basis):Zhp p ph s=Zhp p ph t:=by
 unfold Zhp;rw [zL_basis h];exact Zj fun i _=>by rw [at_basis h]
theorem Stp.at_ {p:LPd} {s t:LSt} {i j:Nat} (h:Val p s) (c:Stp p s t i j) (k:Nat):t.at_ k=if k=i then (j:Int) else s.at_ k:=by
 rw [c.eq,settle_at,Zdz (by rw [h.fit.len];exact c.piv.hi)]
theorem nocycle {p:LPd} {S:Nat→LSt} {I J:Nat→Nat} {a b:Nat} {φ:Int} (hab:a < b) (hv:∀k,a≤k→k≤b→Val p (S k)) (hs:∀k,a≤k→k < b→Stp p (S k) (S (k+1)) (I k) (J k)) (hph:∀k,a≤k→k≤b→(S k).phase=φ) (heq:(S a).basis=(S b).basis):False:=by
 have v:∀k,a≤k→k < b→∀l,(S (k+1)).at_ l=if l=I k then (J k:Int) else (S k).at_ l:=fun k h1 h2 l=>(hs k h1 h2).at_ (hv k h1 (by omega)) l
 -- the objective stays
 have D:∀k,a≤k→k < b→Zhp p φ (S (k+1))=Zhp p φ (S k)+Zbh p (S k) (J k:Int) * (qAt (zL p (S k)) (I k) / qAt (dirL p (S k) (J k:Int)) (I k)):=fun k h1 h2=>by
  have:=(hs k h1 h2).piv.obj (hv k h1 (by omega));rw [hph k h1 (by omega)] at this;rw [(hs k h1 h2).eq,Zpw];exact this
 have F:∀k,a≤k→k < b→Zhp p φ (S (k+1))≤Zhp p φ (S k):=fun k h1 h2=>by
  have:=(hs k h1 h2).piv.obj_le (hv k h1 (by omega));rw [hph k h1 (by omega)] at this;rw [(hs k h1 h2).eq,Zpw];exact this
 have o:∀d x,a≤x→x+d≤b→Zhp p φ (S (x+d))≤Zhp p φ (S x):=by
  intro d
  induction d with
  | zero=>intro x _ _;exact Rat.le_refl
  | succ d ih=>
   intro x h1 h2;have e1:=ih x h1 (by omega);have e2:=F (x+d) (by omega) (by omega);rw [show x+(d+1)=x+d+1 by omega];grind
 have M:Zhp p φ (S a)=Zhp p φ (S b):=obj_basis φ heq;have A:∀k,a≤k→k < b→Zhp p φ (S (k+1))=Zhp p φ (S k):=fun k h1 h2=>by
  have e1:=o (k - a) a (Nat.le_refl _) (by omega);rw [show a+(k - a)=k by omega] at e1;have e2:=o (b - (k+1)) (k+1) (by omega) (by omega);rw [show k+1+(b - (k+1))=b by omega] at e2;have e3:=F k h1 h2;grind
 have f:∀k,a≤k→k < b→qAt (zL p (S k)) (I k)=0:=fun k h1 h2=>by
  have e1:=D k h1 h2;rw [A k h1 h2] at e1;have hr:=(hs k h1 h2).piv.red;have e2:Zbh p (S k) (J k:Int) * (qAt (zL p (S k)) (I k) / qAt (dirL p (S k) (J k:Int)) (I k))=0:=by grind
  have e3:qAt (zL p (S k)) (I k) / qAt (dirL p (S k) (J k:Int)) (I k)=0:=by
   rcases Rat.mul_eq_zero.1 e2 with g | g
   ·rw [g] at hr;exact absurd hr (by decide)
   ·exact g
  have e4:=Rat.div_mul_cancel (a:=qAt (zL p (S k)) (I k)) (hs k h1 h2).piv.d0;rw [e3] at e4;grind
 -- the basic values stay
 have hZ:∀k,a≤k→k < b→∀l,l < p.right.length→qAt (zL p (S (k+1))) l=qAt (zL p (S k)) l:=fun k h1 h2 l hl=>by
  obtain ⟨_,z1,z2⟩:=(hs k h1 h2).piv.z (hv k h1 (by omega));rw [(hs k h1 h2).eq,settle_zL];by_cases e:l=I k
  ·rw [e,z1,f k h1 h2];simp [Rat.div_def]
  ·rw [z2 l hl e,f k h1 h2];simp [Rat.div_def];grind
 have G:∀d x,a≤x→x+d≤b→∀l,l < p.right.length→qAt (zL p (S (x+d))) l=qAt (zL p (S x)) l:=by
  intro d
  induction d with
  | zero=>intro x _ _ l _;rfl
  | succ d ih=>
   intro x h1 h2 l hl;rw [show x+(d+1)=x+d+1 by omega,hZ (x+d) (by omega) (by omega) l hl];exact ih x h1 (by omega) l hl
 have N:∀x y,a≤x→x≤b→a≤y→y≤b→∀l,l < p.right.length→qAt (zL p (S x)) l=qAt (zL p (S y)) l:=fun x y h1 h2 h3 h4 l hl=>by
  have e1:=G (x - a) a (Nat.le_refl _) (by omega) l hl;have e2:=G (y - a) a (Nat.le_refl _) (by omega) l hl;rw [show a+(x - a)=x by omega] at e1;rw [show a+(y - a)=y by omega] at e2;rw [e1,e2]
 -- the greatest column that enters
 obtain ⟨k0,h,j,s⟩:=greatest J (a:=a) (d:=b - a - 1);rw [show a+(b - a - 1)+1=b by omega] at j s;have hc:∀l u,((S a).at_ l=u)↔((S b).at_ l=u):=fun l u=>by rw [at_basis heq]
 have H:∀k,a≤k→k < b→∀l,l < p.right.length→(S k).at_ l≠(J k:Int):=fun k h1 h2 l hl e=>by
  have hr:=(hs k h1 h2).piv.red;rw [← e,Ztl (hv k h1 (by omega)).reg hl] at hr;exact absurd hr (by decide)
 -- it leaves somewhere
 obtain ⟨k1,c,i,L,a0⟩:=crossC (P:=fun k=>(S k).at_ (I k0)=(J k0:Int)) (a:=a) (b:=b) (x:=k0+1) (y:=k0) ⟨by omega,by omega⟩ ⟨by omega,by omega⟩ (hc _ _) (by
  show (S (k0+1)).at_ (I k0)=_;rw [v k0 h j,if_pos rfl]) (H k0 h j _ (hs k0 h j).piv.hi)
 have O:I k1=I k0:=by
  by_cases g:I k0=I k1
  ·exact g.symm
  ·exfalso;refine a0 ?_;show (S (k1+1)).at_ (I k0)=_;rw [v k1 c i,if_neg g];exact L
 have m:(S k1).at_ (I k1)=(J k0:Int):=by rw [O];exact L
 have R:J k1 < J k0:=by
  have e1:=s k1 c i;have e2:J k1≠J k0:=fun e=>H k1 c i (I k1) (hs k1 c i).piv.hi (by rw [m,e])
  omega
 have v0:=hv k0 h (by omega);have v1:=hv k1 c (by omega);have p0:=hph k0 h (by omega);have p1:=hph k1 c (by omega)
 -- the reduced costs of the one in the basis of the other
 have a4:Zbh p (S k1) (J k1:Int)=Zbh p (S k0) (J k1:Int) - ZQ (fun k=>Zbh p (S k0) ((S k1).at_ k) * qAt (dirL p (S k1) (J k1:Int)) k) p.right.length:=by
  rw [Ycz v1.reg,Ycz v0.reg,Zwz v1.reg,p0,p1];have e1:Ydy p (S k0) (J k1:Int)=ZQ (fun k=>Ydy p (S k0) ((S k1).at_ k) * qAt (dirL p (S k1) (J k1:Int)) k) p.right.length:=by
   unfold Ydy;rw [Zj (g:=fun r=>ZQ (fun k=>qAt (dirL p (S k1) (J k1:Int)) k * (p.col ((S k1).at_ k) r * qAt (Ww p (S k0)) r)) p.right.length) fun r hr=>by
    rw [← Vs v1.reg (J k1:Int) r hr];unfold Y7;rw [Rat.mul_comm,← YD];exact Zj fun k _=>by show _ * (p.col ((S k1).at_ k) r * _)=_;grind]
   rw [WO];exact Zj fun k _=>by rw [YD];grind
  have e2:ZQ (fun k=>Zbh p (S k0) ((S k1).at_ k) * qAt (dirL p (S k1) (J k1:Int)) k) p.right.length=ZQ (fun k=>XI p φ ((S k1).at_ k) * qAt (dirL p (S k1) (J k1:Int)) k - Ydy p (S k0) ((S k1).at_ k) * qAt (dirL p (S k1) (J k1:Int)) k) p.right.length:=Zj fun k _=>by
   rw [Ycz v0.reg,p0];grind
  rw [e2,Zgp,← e1];grind
 have T:∃k,k < p.right.length∧0 < Zbh p (S k0) ((S k1).at_ k) * qAt (dirL p (S k1) (J k1:Int)) k:=by
  by_cases g:∃k,k < p.right.length∧0 < Zbh p (S k0) ((S k1).at_ k) * qAt (dirL p (S k1) (J k1:Int)) k
  ·exact g
  ·exfalso;have h1:ZQ (fun k=>Zbh p (S k0) ((S k1).at_ k) * qAt (dirL p (S k1) (J k1:Int)) k) p.right.length≤ZQ (fun _=>0) p.right.length:=sumN_le fun k hk=>Rat.not_lt.1 fun e=>g ⟨k,hk,e⟩
   rw [Vk] at h1;have h2:=(hs k1 c i).piv.red;have h3:=(hs k0 h j).ent (J k1) R;grind
 obtain ⟨k,hk,n⟩:=T
 -- the column u at place k
 have hu:∀l,l < p.right.length→(S k0).at_ l≠(S k1).at_ k:=fun l hl e=>by
  rw [← e,Ztl v0.reg hl] at n;simp at n
 obtain ⟨k2,t,C,a1,a2⟩:=crossC (P:=fun x=>¬(S x).at_ k=(S k1).at_ k) (a:=a) (b:=b) (x:=k0) (y:=k1) ⟨h,by omega⟩ ⟨c,by omega⟩ (not_congr (hc _ _)) (hu k hk) (fun g=>g rfl);have q:(S (k2+1)).at_ k=(S k1).at_ k:=Classical.byContradiction a2;have K:k=I k2:=by
  by_cases g:k=I k2
  ·exact g
  ·exfalso;rw [v k2 t C,if_neg g] at q;exact a1 q
 have B:(S k1).at_ k=(J k2:Int):=by rw [← q,v k2 t C,if_pos K]
 have U:qAt (zL p (S k1)) k=0:=by
  rw [N k1 k2 c (by omega) t (by omega) k hk,K];exact f k2 t C
 obtain ⟨a3,E⟩:=(hs k1 c i).lv (by rw [m];omega);have V:=(hs k0 h j).piv.red;have X:J k2 < J k0:=by
  have e1:=s k2 t C;have e2:J k2≠J k0:=fun e=>by
   have Y:k=I k1:=by
    by_cases g:k=I k1
    ·exact g
    ·exfalso;have e3:(S k1).at_ k=(S k1).at_ (I k1):=(by rw [B,m,e]);rcases Nat.lt_or_ge k (I k1) with g2 | g2
     ·exact v1.dup (I k1) (hs k1 c i).piv.hi k g2 e3.symm
     ·exact v1.dup k hk (I k1) (by omega) e3
   rw [B,e,Y] at n;have:0≤ -Zbh p (S k0) (J k0:Int) * qAt (dirL p (S k1) (J k1:Int)) (I k1):=Rat.mul_nonneg (by grind) (Rat.le_of_lt a3);grind
  omega
 have a5:=(hs k0 h j).ent (J k2) X;rw [B] at n;have Z:0 < qAt (dirL p (S k1) (J k1:Int)) k:=by
  by_cases g:0 < qAt (dirL p (S k1) (J k1:Int)) k
  ·exact g
  ·exfalso;have:0≤Zbh p (S k0) (J k2:Int) * -qAt (dirL p (S k1) (J k1:Int)) k:=Rat.mul_nonneg (by grind) (by grind);grind
 have r1:Vy (zL p (S k1)) (dirL p (S k1) (J k1:Int)) (I k1)=0:=by unfold Vy;rw [f k1 c i];simp [Rat.div_def]
 have r2:Vy (zL p (S k1)) (dirL p (S k1) (J k1:Int)) k=0:=by unfold Vy;rw [U];simp [Rat.div_def]
 rcases E k hk Z with g | ⟨_,g⟩
 ·rw [r1,r2] at g;exact absurd g (by decide)
 ·rw [m,B] at g;unfold ordQ at g;rw [if_pos (by omega),if_pos (by omega)] at g;omega
theorem phase_basis {p:LPd} {s t:LSt} (hs:Val p s) (ht:Val p t) (ss:Zhr p s) (st:Zhr p t) (h:s.basis=t.basis):s.phase=t.phase:=by
 have a:∀u,Val p u→Zhr p u→(u.phase=2↔∀i,i < p.right.length→u.at_ i < 0→qAt (zL p u) i=0):=fun u hu su=>by
  refine ⟨hu.art,fun e=>?_⟩;have h1:Zbm u (zL p u) (zL p u).length=false:=Zho fun k hk ha=>e k (by rw [← Zma hu.reg];exact hk) ha
  have h2:(Zr p u).phase=u.phase:=congrArg LSt.phase su;rw [← h2];show (if Zbm u (zL p u) (zL p u).length=true then u.phase else 2)=2;rw [h1,if_neg (by decide)]
 have e1:=a s hs ss;have e2:=a t ht st;have e3:(∀i,i < p.right.length→s.at_ i < 0→qAt (zL p s) i=0)↔(∀i,i < p.right.length→t.at_ i < 0→qAt (zL p t) i=0):=by
  rw [zL_basis h];exact ⟨fun g i hi ha=>g i hi (by rw [at_basis h];exact ha),fun g i hi ha=>g i hi (by rw [← at_basis h];exact ha)⟩
 have e4:s.phase=2↔t.phase=2:=by rw [e1,e2,e3]
 have:=hs.ph;have:=ht.ph;omega
theorem run_states {p:LPd} {s:LSt} (h:Val p s) (ss:Zhr p s) (k:Nat):Val p (Zag p k s)∧Zhr p (Zag p k s):=⟨Zcb h,runL_settled ss⟩
theorem run_once {p:LPd} {s:LSt} (h:Val p s) (ss:Zhr p s) {n:Nat} (hr:∀k,k < n→Zeq p (Zag p k s)≠none) {a b:Nat} (hab:a < b) (hb:b≤n):(Zag p a s).basis≠(Zag p b s).basis:=by
 intro o;have l:∀k,k < n→Zeq p (Zag p k s)=some (Zag p (k+1) s):=fun k hk=>by
  cases e:Zeq p (Zag p k s) with
  | none=>exact absurd e (hr k hk)
  | some t=>rw [runL_add (a:=k) (b:=1),WX e];rfl
 have m:∀k,∃i j:Nat,k < n→Stp p (Zag p k s) (Zag p (k+1) s) i j:=fun k=>by
  by_cases hk:k < n
  ·obtain ⟨i,j,c⟩:=stp_of (run_states h ss k).1 (l k hk);exact ⟨i,j,fun _=>c⟩
  ·exact ⟨0,0,fun g=>absurd g hk⟩
 have hI:∃I:Nat→Nat,∀k,∃j:Nat,k < n→Stp p (Zag p k s) (Zag p (k+1) s) (I k) j:=⟨fun k=>(m k).choose,fun k=>(m k).choose_spec⟩;obtain ⟨I,hI⟩:=hI;have hJ:∃J:Nat→Nat,∀k,k < n→Stp p (Zag p k s) (Zag p (k+1) s) (I k) (J k):=⟨fun k=>(hI k).choose,fun k=>(hI k).choose_spec⟩;obtain ⟨J,hJ⟩:=hJ;have f:∀d x,x+d≤n→(Zag p x s).phase≤(Zag p (x+d) s).phase:=fun d x _=>by
  rw [runL_add];exact runL_phase (run_states h ss x).1
 have q:(Zag p a s).phase=(Zag p b s).phase:=phase_basis (run_states h ss a).1 (run_states h ss b).1 (run_states h ss a).2 (run_states h ss b).2 o;refine nocycle (p:=p) (S:=fun k=>Zag p k s) (I:=I) (J:=J) (φ:=(Zag p a s).phase) hab (fun k _ _=>(run_states h ss k).1) (fun k h1 h2=>hJ k (by omega)) (fun k h1 h2=>?_) o;have e1:=f (k - a) a (by omega);have e2:=f (b - k) k (by omega);rw [show a+(k - a)=k by omega] at e1;rw [show k+(b - k)=b by omega] at e2;show (Zag p k s).phase=_;omega
theorem phase1_pos {p:LPd} {s:LSt} (h:Reg p s) (h1:s.phase=1) {j:Nat} (hr:Zbh p s (j:Int) < 0):∃i,i < p.right.length∧0 < qAt (dirL p s (j:Int)) i:=by
 by_cases g:∃i,i < p.right.length∧0 < qAt (dirL p s (j:Int)) i
 ·exact g
 ·exfalso;rw [Ycz h,Zwz h,h1] at hr;have hc:XI p 1 (j:Int)=0:=Zfm (by omega) (by omega);have hs:ZQ (fun i=>XI p 1 (s.at_ i) * qAt (dirL p s (j:Int)) i) p.right.length≤ZQ (fun _=>0) p.right.length:=sumN_le fun i hi=>by
   have hd:qAt (dirL p s (j:Int)) i≤0:=Rat.not_lt.1 fun e=>g ⟨i,hi,e⟩
   by_cases ha:s.at_ i < 0
   ·rw [Zsr ha];grind
   ·rw [Zfm (by omega) (by omega)];grind
  rw [Vk] at hs;rw [hc] at hr;grind
theorem bestN_some {p:LPd} {s:LSt} {Z D:List RF}:∀{n k:Nat},k < n→0 < qAt D k→Yn p s Z D n≠none
 | 0,k,h,_=>by omega
 | n+1,k,h,hd=>by
  by_cases h0:0 < qAt D n
  ·cases hb:Yn p s Z D n with
   | none=>rw [Wp hb h0];simp
   | some b=>
    by_cases g:better p s Z D n b
    ·rw [YU hb h0 g];simp
    ·rw [Xc hb h0 g];simp
  ·rw [WU h0]
   exact bestN_some (k:=k) (by
    rcases Nat.lt_or_ge k n with e | e
    ·exact e
    ·obtain rfl:k=n:=by omega
     exact absurd hd h0) hd
theorem firstNeg_nil {f:Nat→Rat}:∀{n r:Nat},Yw f r n=none→∀i,r≤i→i < r+n→¬f i < 0
 | 0,r,_,i,h1,h2=>by omega
 | n+1,r,hr,i,h1,h2=>by
  unfold Yw at hr
  split at hr
  ·cases hr
  ·rename_i g
   rcases Nat.eq_or_lt_of_le h1 with e | e
   ·subst e;exact g
   ·exact firstNeg_nil hr i (by omega) (by omega)
theorem stuckN_true {s:LSt} {D:List RF}:∀{n:Nat},s.phase=2→(∀k,k < n→¬(0 < qAt D k∨(s.at_ k < 0∧qAt D k≠0)))→Vw s D n=true
 | 0,h,_=>by simp [Vw,h]
 | n+1,h,hk=>by unfold Vw;rw [if_neg (hk n (by omega))];exact stuckN_true h fun k hk'=>hk k (by omega)
theorem run_piv {p:LPd} {s:LSt} (h:Val p s) (hq:XD p s=0):Zeq p s≠none:=by
 obtain ⟨j,d,hj,hJ,hD⟩:=Zth hq;have b:=Zmb h.reg (j:Int);have c:Zbh p s (j:Int) < 0:=(XC d).2.2.1;have hl:WV p s (zL p s) (Zau p s)≠none:=by
  rw [hD];by_cases a:s.phase=2
  ·cases hf:Yw (Zpv s (dirL p s (j:Int))) 0 (dirL p s (j:Int)).length with
   | some i=>rw [Zhm a hf];simp
   | none=>
    rw [Zhn a hf];by_cases g:∃i,i < p.right.length∧0 < qAt (dirL p s (j:Int)) i
    ·obtain ⟨i,hi,hd⟩:=g;exact bestN_some (k:=i) (by rw [b];exact hi) hd
    ·exfalso;have f:=stuckN_true (D:=dirL p s (j:Int)) (n:=(dirL p s (j:Int)).length) a fun k hk e=>by
      rcases e with e | ⟨e1,e2⟩
      ·exact g ⟨k,by rw [← b];exact hk,e⟩
      ·exact firstNeg_nil hf k (Nat.zero_le _) (by omega) (Znu e1 e2)
     rw [(VT d).1,f] at hq;exact absurd hq (by decide)
  ·have h1:s.phase=1:=(by have:=h.ph;omega);rw [Zhl a];obtain ⟨i,hi,hd⟩:=phase1_pos h.reg h1 c;exact bestN_some (k:=i) (by rw [b];exact hi) hd
 cases e:WV p s (zL p s) (Zau p s) with
 | none=>exact absurd e hl
 | some i=>rw [Zyj hq e];simp
end Pl
namespace Pl
theorem rk_mono:∀(d c:Nat),rk c≤rk (c+d)
 | 0,c=>Nat.le_refl _
 | d+1,c=>Nat.le_trans (rk_mono d c) (by rw [← Nat.add_assoc];show rk (c+d)≤rk (c+d)+_;omega)
theorem rk_lt {c d:Nat} (h:c < d) (hc:vc c=true):rk c < rk d:=by
 have h1:=rk_mono (d - (c+1)) (c+1);rw [show c+1+(d - (c+1))=d by omega] at h1;have h2:rk (c+1)=rk c+1:=by show rk c+_=_;rw [if_pos hc]
 omega
theorem rk_inj {c d:Nat} (hc:vc c=true) (hd:vc d=true) (h:rk c=rk d):c=d:=by
 rcases Nat.lt_trichotomy c d with e | e | e
 ·have:=rk_lt e hc;omega
 ·exact e
 ·have:=rk_lt e hd;omega
theorem rk_all:rk 216=136:=by decide
theorem rk_bd {c:Nat} (h:c < 216) (hc:vc c=true):rk c < 136:=by have:=rk_lt h hc;rw [rk_all] at this;exact this
def digB (s:LSt) (i:Nat):Nat:=(s.at_ i+1).toNat
def codeB (s:LSt):Nat:=digB s 0+6 * digB s 1+36 * digB s 2
structure Root (p:LPd) (s:LSt):Prop where
 at_:∀i,i < p.right.length→s.at_ i= -1 - (i:Int)∨0≤s.at_ i
 out:∀i,p.right.length≤i→s.at_ i=0
theorem root_start (p:LPd):Root p (Yq p):=⟨fun i hi=> .inl (Zdy hi),fun i hi=>by
 unfold LSt.at_
 have:(Yq p).basis.length≤i:=by show (Zqd _).length≤i;rw [Uy];exact hi
 simp [List.getD,List.getElem?_eq_none this]⟩
theorem Root.settle {p:LPd} {s:LSt} (h:Root p s):Root p (Zr p s):=⟨h.at_,h.out⟩
theorem Root.piv {p:LPd} {s t:LSt} (h:Root p s) (hv:Val p s) (e:Zeq p s=some t):Root p t:=by
 obtain ⟨i,j,c,rfl⟩:=Ztn hv e;have hb:i < s.basis.length:=by rw [hv.fit.len];exact c.hi
 have:Root p (Zer s i (j:Int)):=⟨fun k hk=>by
  rw [Zdz hb];by_cases g:k=i
  ·rw [if_pos g];right;omega
  ·rw [if_neg g];exact h.at_ k hk,fun k hk=>by
  rw [Zdz hb,if_neg (by have:=c.hi;omega)];exact h.out k hk⟩
 exact this.settle
theorem Root.run {p:LPd}:∀{n:Nat} {s:LSt},Root p s→Val p s→Root p (Zag p n s)
 | 0,_,h,_=>h
 | n+1,s,h,hv=>by
  cases e:Zeq p s with
  | none=>rw [Wq e];exact h
  | some t=>rw [WX e];exact (h.piv hv e).run (Zca hv e)
theorem dig_lt {p:LPd} {s:LSt} (h:Root p s) (hv:Val p s) (hn:p.cols.length≤5) (i:Nat):digB s i < 6∧(i < p.right.length→(digB s i=0↔s.at_ i < 0)):=by
 unfold digB;rcases Nat.lt_or_ge i p.right.length with hi | hi
 ·have a:i < s.basis.length:=by rw [hv.fit.len];exact hi
  have h1:=hv.fit.in_ i _ (List.getElem?_eq_getElem a);rw [← LSt.at_eq (List.getElem?_eq_getElem a)] at h1;have h2:=h.at_ i hi;exact ⟨by omega,fun _=>by omega⟩
 ·rw [h.out i hi];exact ⟨by decide,fun g=>by omega⟩
theorem code_inj {p:LPd} {s t:LSt} (h:Root p s) (hv:Val p s) (g:Root p t) (gv:Val p t) (hm:p.right.length≤3) (hn:p.cols.length≤5) (e:codeB s=codeB t):s.basis=t.basis:=by
 have a0:=(dig_lt h hv hn 0).1;have a1:=(dig_lt h hv hn 1).1;have b0:=(dig_lt g gv hn 0).1;have b1:=(dig_lt g gv hn 1).1;unfold codeB at e;have e0:digB s 0=digB t 0:=by omega
 have e1:digB s 1=digB t 1:=by omega
 have e2:digB s 2=digB t 2:=by omega
 have a:∀i,i < p.right.length→digB s i=digB t i→s.at_ i=t.at_ i:=fun i hi hd=>by
  have h1:=h.at_ i hi;have h2:=g.at_ i hi;unfold digB at hd;omega
 refine List.ext_getElem? fun i=>?_
 rcases Nat.lt_or_ge i p.right.length with hi | hi
 ·have hs:i < s.basis.length:=by rw [hv.fit.len];exact hi
  have ht:i < t.basis.length:=by rw [gv.fit.len];exact hi
  have:s.at_ i=t.at_ i:=by
   have:i=0∨i=1∨i=2:=by omega
   rcases this with rfl | rfl | rfl
   ·exact a 0 hi e0
   ·exact a 1 hi e1
   ·exact a 2 hi e2
  rw [LSt.at_eq (List.getElem?_eq_getElem hs),LSt.at_eq (List.getElem?_eq_getElem ht)] at this;rw [List.getElem?_eq_getElem hs,List.getElem?_eq_getElem ht,this]
 ·rw [List.getElem?_eq_none (by rw [hv.fit.len];exact hi),List.getElem?_eq_none (by rw [gv.fit.len];exact hi)]
def codeV (p:LPd) (s:LSt):Nat:=(if 0 < p.right.length then digB s 0 else 0)+6 * (if 1 < p.right.length then digB s 1 else 0)+36 * (if 2 < p.right.length then digB s 2 else 0)
theorem codeV_ok {p:LPd} {s:LSt} (h:Root p s) (hv:Val p s) (hn:p.cols.length≤5):codeV p s < 216∧vc (codeV p s)=true:=by
 have a0:=dig_lt h hv hn 0;have a1:=dig_lt h hv hn 1;have a2:=dig_lt h hv hn 2;obtain ⟨d0,h0⟩:∃d,d=(if 0 < p.right.length then digB s 0 else 0):=⟨_,rfl⟩;obtain ⟨d1,h1⟩:∃d,d=(if 1 < p.right.length then digB s 1 else 0):=⟨_,rfl⟩;obtain ⟨d2,h2⟩:∃d,d=(if 2 < p.right.length then digB s 2 else 0):=⟨_,rfl⟩;have l0:d0 < 6:=by rw [h0];split <;> omega
 have l1:d1 < 6:=by rw [h1];split <;> omega
 have l2:d2 < 6:=by rw [h2];split <;> omega
 have c:∀a b,a < b→b < p.right.length→digB s a≠0→digB s a≠digB s b:=fun a b hab hb h0' e=>by
  have c1:=h.at_ a (by omega);have c2:=h.at_ b hb;have c3:=hv.dup b hb a hab;unfold digB at h0' e;omega
 have f:d0=0∨d0≠d1:=by
  rw [h0,h1];by_cases g0:0 < p.right.length
  ·rw [if_pos g0];by_cases g1:1 < p.right.length
   ·rw [if_pos g1];by_cases z:digB s 0=0
    ·exact .inl z
    ·exact .inr (c 0 1 (by omega) g1 z)
   ·rw [if_neg g1];omega
  ·rw [if_neg g0];exact .inl rfl
 have g:d0=0∨d0≠d2:=by
  rw [h0,h2];by_cases g0:0 < p.right.length
  ·rw [if_pos g0];by_cases g1:2 < p.right.length
   ·rw [if_pos g1];by_cases z:digB s 0=0
    ·exact .inl z
    ·exact .inr (c 0 2 (by omega) g1 z)
   ·rw [if_neg g1];omega
  ·rw [if_neg g0];exact .inl rfl
 have i:d1=0∨d1≠d2:=by
  rw [h1,h2];by_cases g0:1 < p.right.length
  ·rw [if_pos g0];by_cases g1:2 < p.right.length
   ·rw [if_pos g1];by_cases z:digB s 1=0
    ·exact .inl z
    ·exact .inr (c 1 2 (by omega) g1 z)
   ·rw [if_neg g1];omega
  ·rw [if_neg g0];exact .inl rfl
 have e:codeV p s=d0+6 * d1+36 * d2:=by unfold codeV;rw [h0,h1,h2]
 rw [e];refine ⟨by omega,?_⟩;unfold vc;rw [show (d0+6 * d1+36 * d2) % 6=d0 by omega,show (d0+6 * d1+36 * d2) / 6 % 6=d1 by omega,show (d0+6 * d1+36 * d2) / 36=d2 by omega];simp only [Bool.and_eq_true,Bool.or_eq_true,beq_iff_eq,bne_iff_ne];exact ⟨by
  rcases f with z | z
  ·exact .inl z
  ·rcases g with y | y
   ·exact .inl y
   ·exact .inr ⟨z,y⟩,i⟩
theorem codeV_inj {p:LPd} {s t:LSt} (h:Root p s) (hv:Val p s) (g:Root p t) (gv:Val p t) (hm:p.right.length≤3) (hn:p.cols.length≤5) (e:codeV p s=codeV p t):s.basis=t.basis:=by
 refine code_inj h hv g gv hm hn ?_;have a:∀i,digB s i < 6:=fun i=>(dig_lt h hv hn i).1
 have b:∀i,digB t i < 6:=fun i=>(dig_lt g gv hn i).1
 have o:∀i,p.right.length≤i→digB s i=digB t i:=fun i hi=>by unfold digB;rw [h.out i hi,g.out i hi]
 have x0:=a 0;have x1:=a 1;have x2:=a 2;have y0:=b 0;have y1:=b 1;have y2:=b 2;unfold codeV at e;unfold codeB;have:p.right.length=0∨p.right.length=1∨p.right.length=2∨p.right.length=3:=by omega
 rcases this with q | q | q | q
 ·rw [o 0 (by omega),o 1 (by omega),o 2 (by omega)]
 ·rw [o 1 (by omega),o 2 (by omega)];rw [q] at e;simp at e;omega
 ·rw [o 2 (by omega)];rw [q] at e;simp at e;omega
 ·rw [q] at e;simp at e;omega
theorem run_ends {p:LPd} (hm:p.right.length≤3) (hn:p.cols.length≤5) {N:Nat} (hN:136≤N):Zeq p (Zag p N (Zr p (Yq p)))=none:=by
 have v0:=(Wt p).settle;have s0:Zhr p (Zr p (Yq p)):=settled_settle;have r0:=(root_start p).settle;by_cases hr:∃k,k < N∧Zeq p (Zag p k (Zr p (Yq p)))=none
 ·obtain ⟨k,hk,e⟩:=hr;rw [show N=k+(N - k) by omega,runL_add,Wq e];exact e
 ·exfalso;have a:∀k,k < N→Zeq p (Zag p k (Zr p (Yq p)))≠none:=fun k hk e=>hr ⟨k,hk,e⟩
  obtain ⟨i,j,b,hj,he⟩:=pigeon 136 (N+1) (fun k=>rk (codeV p (Zag p k (Zr p (Yq p))))) (by omega) fun k _=>by
   obtain ⟨c1,c2⟩:=codeV_ok (r0.run (n:=k) v0) (run_states v0 s0 k).1 hn;exact rk_bd c1 c2
  have c1:=codeV_ok (r0.run (n:=i) v0) (run_states v0 s0 i).1 hn;have c2:=codeV_ok (r0.run (n:=j) v0) (run_states v0 s0 j).1 hn;have:=codeV_inj (r0.run (n:=i) v0) (run_states v0 s0 i).1 (r0.run (n:=j) v0) (run_states v0 s0 j).1 hm hn (rk_inj c1.2 c2.2 he);exact run_once v0 s0 a b (by omega) this
end Pl
namespace Pl
theorem fin_none {p:LPd} (hok:Zya p):Zeq p (Zub p)=none:=run_ends hok.2.1 hok.2.2.1 (by decide)
theorem fin_stat {p:LPd} (hok:Zya p):XD p (Zub p)≠0:=fun h=>run_piv (Znz p) h (fin_none hok)
end Pl
end Go.Proofs.YtncmobkhenfhpaaGreat
