/- Lemmas of the claim; no condition. -/
import Derived.Test.YtgbhebappffbdaaGreatFd2
set_option linter.all false
set_option maxRecDepth 100000
set_option maxHeartbeats 40000000
namespace Go.Proofs.YtgbhebappffbdaaGreat
open Go.RowKit
open Pl
attribute [local go_sem ↓] Go.wp_at_zero Go.wp_at_succ
namespace Pl
theorem feasB_4 {p:LPd} {xs:List RF} (h1:lpErr p=0) (h2:xs.length=p.cols.length) (h3:nnB xs=true):Zbd p xs=eqB (Yj p.right.length (YL p xs p.cols.length)) p.right:=by simp [Zbd,h1,h2,h3]
end Pl
namespace Pl
theorem sumN_le {f g:Nat→Rat} {n:Nat} (h:∀i,i < n→f i≤g i):ZO f n≤ZO g n:=by
 induction n with
 | zero=>exact Rat.le_refl
 | succ n ih=>
  have h1:=ih fun i hi=>h i (by omega)
  have h2:=h n (by omega);rw [ZC,ZC];grind
theorem weak {p:LPd} {xs ys:List RF} (hlow:Zez p ys p.cols.length) (hx:∀j,j < p.cols.length→0≤qAt xs j) (hr:∀i,i < p.right.length→YL p xs p.cols.length i=qAt p.right i):
 Zbb ys p.right p.right.length≤Zbb p.cost xs p.cols.length:=by
 have h1:Zbb ys p.right p.right.length=ZO (fun i=>ZO (fun j=>qAt ys i * (qAt xs j * p.col (j:Int) i)) p.cols.length) p.right.length:=Zk fun i hi=>by
  show qAt ys i * qAt p.right i=_;rw [← hr i hi,Xe];rfl
 rw [h1,VG];refine sumN_le fun j hj=>?_
 have h2:ZO (fun i=>qAt ys i * (qAt xs j * p.col (j:Int) i)) p.right.length=qAt xs j * Zgz ys (p.col (j:Int)) p.right.length:=by
  unfold Zgz;rw [← Xe];exact Zk fun i _=>by grind
 rw [h2,Rat.mul_comm (qAt p.cost j)];exact Rat.mul_le_mul_of_nonneg_left (hlow j hj) (hx j hj)
end Pl
section
namespace Pl
section
variable {p:LPd} {s:LSt}
theorem settle_zL:zL p (ZB p s)=zL p s:=rfl
theorem settle_at (i:Nat):(ZB p s).at_ i=s.at_ i:=rfl
end
theorem runL_add {p:LPd}:∀{a b:Nat} {s:LSt},Zwh p (a+b) s=Zwh p b (Zwh p a s)
 | 0,b,s=>by rw [Nat.zero_add];rfl
 | a+1,b,s=>by
  cases e:Zkt p s with
  | none=>rw [Zei e,Zei e,Zei e]
  | some t=>rw [show a+1+b=(a+b)+1 by omega,Zej e,Zej e];exact runL_add
end Pl
end
section
namespace Pl
section
variable {p:LPd} {s:LSt}
def objQ (p:LPd) (ph:Int) (s:LSt):Rat:=ZO (fun i=>VL p ph (s.at_ i) * qAt (zL p s) i) p.right.length
def ydot (p:LPd) (s:LSt) (j:Int):Rat:=ZO (fun r=>p.col j r * qAt (XU p s) r) p.right.length
theorem red_eq (h:Reg p s) (j:Int):Zeu p s j=VL p s.phase j - ydot p s j:=by
 unfold Zeu;rw [Zhz h,Nat.min_self,Zjm];have e:Zgz (XU p s) (p.col j) p.right.length=ydot p s j:=Zk fun r _=>by grind
 rw [e]
theorem ydot_comb (h:Reg p s) {x b:Nat→Rat} (hx:∀r,r < p.right.length→Xz p.right.length (s.mat p) x r=b r):ZO (fun r=>b r * qAt (XU p s) r) p.right.length=ZO (fun i=>VL p s.phase (s.at_ i) * x i) p.right.length:=by
 rw [Zk (g:=fun r=>ZO (fun i=>x i * (s.mat p i r * qAt (XU p s) r)) p.right.length) fun r hr=>by
  rw [← hx r hr];unfold Xz;rw [Rat.mul_comm,← Xe];exact Zk fun i _=>by grind]
 rw [VG];exact Zk fun i hi=>by rw [Xe,Zvq h i hi];grind
theorem obj_dual (h:Reg p s):ZO (fun r=>qAt p.right r * qAt (XU p s) r) p.right.length=objQ p s.phase s:=ydot_comb h (Yfm h)
theorem ydot_dir (h:Reg p s) (j:Int):ydot p s j=ZO (fun i=>VL p s.phase (s.at_ i) * qAt (dirL p s j) i) p.right.length:=ydot_comb h (Zpc h j)
theorem Piv.obj (h:Val p s) {i j:Nat} (c:Piv p s i j):objQ p s.phase (Zry s i (j:Int))=objQ p s.phase s+Zeu p s (j:Int) * (qAt (zL p s) i / qAt (dirL p s (j:Int)) i):=by
 have hb:i < s.basis.length:=by rw [h.fit.len];exact c.hi
 obtain ⟨d,a,b⟩:=c.z h;rw [red_eq h.reg,ydot_dir h.reg];unfold objQ;obtain ⟨ρ,hρ⟩:∃ρ,ρ=qAt (zL p s) i / qAt (dirL p s (j:Int)) i:=⟨_,rfl⟩;have hd:ρ * qAt (dirL p s (j:Int)) i=qAt (zL p s) i:=by rw [hρ];exact Rat.div_mul_cancel c.d0
 rw [← hρ];rw [Zk (g:=fun k=>(VL p s.phase (s.at_ k) * qAt (zL p s) k - ρ * (VL p s.phase (s.at_ k) * qAt (dirL p s (j:Int)) k))+(if k=i then VL p s.phase (j:Int) * ρ else 0)) fun k hk=>by
  rw [Zib hb];by_cases e:k=i
  ·subst e;rw [if_pos rfl,if_pos rfl,a,← hρ];grind
  ·rw [if_neg e,if_neg e,b k hk e,← hρ];grind]
 rw [WA,Zof,Xe,WC c.hi];grind
theorem Piv.ratio (h:Val p s) {i j:Nat} (c:Piv p s i j):0≤qAt (zL p s) i / qAt (dirL p s (j:Int)) i:=by
 rcases c.dz with e | e
 ·rw [Rat.div_def];exact Rat.mul_nonneg (h.pos i c.hi) (Rat.le_of_lt (Rat.inv_pos.2 e))
 ·rw [e];simp [Rat.div_def]
theorem Piv.obj_le (h:Val p s) {i j:Nat} (c:Piv p s i j):objQ p s.phase (Zry s i (j:Int))≤objQ p s.phase s:=by
 rw [c.obj h];have h1:=c.ratio h;have h2:=c.red;have h3:0≤ -Zeu p s (j:Int) * (qAt (zL p s) i / qAt (dirL p s (j:Int)) i):=Rat.mul_nonneg (by grind) h1;grind
theorem obj_settle (ph:Int):objQ p ph (ZB p s)=objQ p ph s:=rfl
theorem runL_phase:∀{n:Nat} {s:LSt},Val p s→s.phase≤(Zwh p n s).phase
 | 0,s,_=>Int.le_refl _
 | n+1,s,h=>by
  cases e:Zkt p s with
  | none=>rw [Zei e];exact Int.le_refl _
  | some t=>rw [Zej e];exact Int.le_trans (Zrs h e).1 (runL_phase (Zpe h e))
end
end Pl
end
namespace Pl
theorem cross {P:Nat→Prop}:∀{d x:Nat},P x→¬P (x+d)→∃k,x≤k∧k < x+d∧P k∧¬P (k+1)
 | 0,x,h1,h2=>absurd h1 h2
 | d+1,x,h1,h2=>by
  by_cases h:P (x+1)
  ·obtain ⟨k,a,b,c⟩:=cross (d:=d) (x:=x+1) h (by rw [show x+1+d=x+(d+1) by omega];exact h2)
   exact ⟨k,by omega,by omega,c⟩
  ·exact ⟨x,JY _,by omega,h1,h⟩
theorem crossR {P:Nat→Prop} {x y:Nat} (hxy:x≤y) (h1:P x) (h2:¬P y):∃k,x≤k∧k < y∧P k∧¬P (k+1):=by
 obtain ⟨k,a,b,c⟩:=cross (P:=P) (d:=y - x) (x:=x) h1 (by rw [show x+(y - x)=y by omega];exact h2);exact ⟨k,a,by omega,c⟩
theorem crossC {P:Nat→Prop} {a b x y:Nat} (hx:a≤x∧x≤b) (hy:a≤y∧y≤b) (hc:P a↔P b) (h1:P x) (h2:¬P y):∃k,a≤k∧k < b∧P k∧¬P (k+1):=by
 rcases JX y x with e | e
 ·by_cases hb:P b
  ·obtain ⟨k,c1,c2,c3⟩:=crossR hy.1 (hc.2 hb) h2;exact ⟨k,c1,by omega,c3⟩
  ·obtain ⟨k,c1,c2,c3⟩:=crossR hx.2 h1 hb;exact ⟨k,by omega,c2,c3⟩
 ·obtain ⟨k,c1,c2,c3⟩:=crossR e h1 h2;exact ⟨k,by omega,by omega,c3⟩
theorem greatest (J:Nat→Nat) {a:Nat}:∀{d:Nat},∃k,a≤k∧k < a+d+1∧∀l,a≤l→l < a+d+1→J l≤J k
 | 0=>⟨a,JY _,by omega,fun l h1 h2=>by
  obtain rfl:l=a:=by omega
  exact JY _⟩
 | d+1=>by
  obtain ⟨k,h1,h2,h3⟩:=greatest J (a:=a) (d:=d)
  rcases JX (J k) (J (a+d+1)) with e | e
  ·refine ⟨a+d+1,by omega,by omega,fun l l1 l2=>?_⟩
   rcases JX l (a+d+1) with g | g
   ·exact JW (h3 l l1 g) (Nat.le_of_lt e)
   ·obtain rfl:l=a+d+1:=by omega
    exact JY _
  ·refine ⟨k,h1,by omega,fun l l1 l2=>?_⟩
   rcases JX l (a+d+1) with g | g
   ·exact h3 l l1 g
   ·obtain rfl:l=a+d+1:=by omega
    exact e
theorem bestN_rule {p:LPd} {s:LSt} {Z D:List RF}:∀{n t:Nat},XQ p s Z D n=some t→∀k,k < n→0 < qAt D k→Zrq Z D t < Zrq Z D k∨(Zrq Z D t=Zrq Z D k∧Ygt p (s.at_ t)≤Ygt p (s.at_ k))
 | 0,t,h,k,hk,_=>by omega
 | n+1,t,h,k,hk,hd=>by
  by_cases h0:0 < qAt D n
  ·cases hb:XQ p s Z D n with
   | none=>
    rw [UB hb h0] at h
    injection h with h
    subst h
    rcases JX k n with e | e
    ·exfalso
     have:∀{m:Nat},XQ p s Z D m=none→∀k,k < m→¬0 < qAt D k:=fun {m}=>by
      induction m with
      | zero=>intro _ k hk;omega
      | succ m ih=>
       intro hm k hk
       by_cases hq:0 < qAt D m
       ·exfalso
        cases hb2:XQ p s Z D m with
        | none=>rw [UB hb2 hq] at hm;cases hm
        | some b=>
         by_cases g:better p s Z D m b
         ·rw [VP hb2 hq g] at hm;cases hm
         ·rw [UC hb2 hq g] at hm;cases hm
       ·rw [Zbl hq] at hm
        rcases JX k m with e' | e'
        ·exact ih hm k e'
        ·obtain rfl:k=m:=by omega
         exact hq
     exact this hb k e hd
    ·obtain rfl:k=n:=by omega
     exact .inr ⟨rfl,Int.le_refl _⟩
   | some b=>
    have ih:=bestN_rule hb
    by_cases g:better p s Z D n b
    ·rw [VP hb h0 g] at h
     injection h with h
     subst h
     rcases JX k n with e | e
     ·rcases ih k e hd with i1 | ⟨i1,i2⟩
      ·rcases g with g | ⟨g,_⟩
       ·left;grind
       ·left;rw [g];exact i1
      ·rcases g with g | ⟨g,g2⟩
       ·left;rw [← i1];exact g
       ·right;exact ⟨by rw [g,i1],by omega⟩
     ·obtain rfl:k=n:=by omega
      exact .inr ⟨rfl,Int.le_refl _⟩
    ·rw [UC hb h0 g] at h
     injection h with h
     subst h
     rcases JX k n with e | e
     ·exact ih k e hd
     ·obtain rfl:k=n:=by omega
      have h1:¬Zrq Z D k < Zrq Z D b:=fun e=>g (.inl e)
      by_cases h2:Zrq Z D b=Zrq Z D k
      ·right
       refine ⟨h2,Int.not_lt.1 fun e=>g (.inr ⟨h2.symm,e⟩)⟩
      ·left;grind
  ·rw [Zbl h0] at h
   rcases JX k n with e | e
   ·exact bestN_rule h k e hd
   ·obtain rfl:k=n:=by omega
    exact absurd hd h0
structure Stp (p:LPd) (s t:LSt) (i j:Nat):Prop where
 piv:Piv p s i j
 ent:∀l:Nat,l < j→¬Zeu p s (l:Int) < 0
 eq:t=ZB p (Zry s i (j:Int))
 lv:0≤s.at_ i→0 < qAt (dirL p s (j:Int)) i∧∀k,k < p.right.length→0 < qAt (dirL p s (j:Int)) k→Zrq (zL p s) (dirL p s (j:Int)) i < Zrq (zL p s) (dirL p s (j:Int)) k∨(Zrq (zL p s) (dirL p s (j:Int)) i=Zrq (zL p s) (dirL p s (j:Int)) k∧Ygt p (s.at_ i)≤Ygt p (s.at_ k))
theorem stp_of {p:LPd} {s t:LSt} (h:Val p s) (e:Zkt p s=some t):∃i j:Nat,Stp p s t i j:=by
 by_cases hq:YR p s=0
 ·cases hl:Zeh p s (zL p s) (VO p s) with
  | none=>rw [Yfk hl] at e;cases e
  | some i=>
   obtain ⟨i',j',c,ht⟩:=Yan h e;rw [Yfl hq hl] at e;injection e with e;obtain ⟨j,f,hj,hJ,hD⟩:=Ydj hq;rw [hJ] at e;rw [hD] at hl;have a:=Znc h.reg (j:Int);have hi:i < p.right.length:=(by rw [← a];exact Zzg hl);have hb:i < s.basis.length:=(by rw [h.fit.len];exact hi);have m:i' < s.basis.length:=by rw [h.fit.len];exact c.hi
   -- the same pivot
   have n:∀l,l < p.right.length→(j:Int)≠s.at_ l:=fun l hl2 e2=>by
    have h1:Zeu p s (j:Int) < 0:=(XI f).2.2.1;rw [e2,Zvr h.reg hl2] at h1;exact absurd h1 (by decide)
   have d:∀k,(Zry s i (j:Int)).at_ k=(Zry s i' (j':Int)).at_ k:=fun k=>by
    have:(ZB p (Zry s i (j:Int))).at_ k=(ZB p (Zry s i' (j':Int))).at_ k:=by rw [← ht,← e];rfl
    exact this
   have o:i=i':=by
    by_cases g:i=i'
    ·exact g
    ·exfalso;have h1:=d i;rw [Zib hb,Zib m,if_pos rfl,if_neg g] at h1;exact n i hi h1
   subst o;have q:j=j':=by
    have h1:=d i;rw [Zib hb,Zib hb,if_pos rfl,if_pos rfl] at h1;omega
   subst q;refine ⟨i,j,c,fun l hl2=>(XI f).2.2.2 l (Nat.zero_le _) hl2,ht,fun hr=>?_⟩;by_cases b:s.phase=2
   ·cases hf:YJ (Zwg s (dirL p s (j:Int))) 0 (dirL p s (j:Int)).length with
    | some i2=>
     exfalso;rw [Zvm b hf] at hl;injection hl with hl;subst hl;have f3:=(XI hf).2.2.1;unfold Zwg at f3;split at f3
     ·rename_i g;omega
     ·exact absurd f3 (by decide)
    | none=>
     rw [Zvn b hf] at hl;exact ⟨(V5 hl).2,fun k hk hd=>bestN_rule hl k (by rw [a];exact hk) hd⟩
   ·rw [Zvl b] at hl;exact ⟨(V5 hl).2,fun k hk hd=>bestN_rule hl k (by rw [a];exact hk) hd⟩
 ·rw [Yfj hq] at e;cases e
theorem at_basis {s t:LSt} (h:s.basis=t.basis) (k:Nat):s.at_ k=t.at_ k:=by unfold LSt.at_;rw [h]
theorem zL_basis {p:LPd} {s t:LSt} (h:s.basis=t.basis):zL p s=zL p t:=by
 have:s.mat p=t.mat p:=by funext k;show p.col (s.at_ k)=p.col (t.at_ k);rw [at_basis h]
 unfold zL;rw [this]
theorem obj_basis {p:LPd} {s t:LSt} (ph:Int) (h:s.basis=t.basis):objQ p ph s=objQ p ph t:=by
 unfold objQ;rw [zL_basis h];exact Zk fun i _=>by rw [at_basis h]
theorem Stp.at_ {p:LPd} {s t:LSt} {i j:Nat} (h:Val p s) (c:Stp p s t i j) (k:Nat):t.at_ k=if k=i then (j:Int) else s.at_ k:=by
 rw [c.eq,settle_at,Zib (by rw [h.fit.len];exact c.piv.hi)]
theorem nocycle {p:LPd} {S:Nat→LSt} {I J:Nat→Nat} {a b:Nat} {φ:Int} (hab:a < b) (hv:∀k,a≤k→k≤b→Val p (S k)) (hs:∀k,a≤k→k < b→Stp p (S k) (S (k+1)) (I k) (J k)) (hph:∀k,a≤k→k≤b→(S k).phase=φ) (heq:(S a).basis=(S b).basis):False:=by
 have v:∀k,a≤k→k < b→∀l,(S (k+1)).at_ l=if l=I k then (J k:Int) else (S k).at_ l:=fun k h1 h2 l=>(hs k h1 h2).at_ (hv k h1 (by omega)) l
 -- the objective stays
 have D:∀k,a≤k→k < b→objQ p φ (S (k+1))=objQ p φ (S k)+Zeu p (S k) (J k:Int) * (qAt (zL p (S k)) (I k) / qAt (dirL p (S k) (J k:Int)) (I k)):=fun k h1 h2=>by
  have:=(hs k h1 h2).piv.obj (hv k h1 (by omega));rw [hph k h1 (by omega)] at this;rw [(hs k h1 h2).eq,obj_settle];exact this
 have F:∀k,a≤k→k < b→objQ p φ (S (k+1))≤objQ p φ (S k):=fun k h1 h2=>by
  have:=(hs k h1 h2).piv.obj_le (hv k h1 (by omega));rw [hph k h1 (by omega)] at this;rw [(hs k h1 h2).eq,obj_settle];exact this
 have o:∀d x,a≤x→x+d≤b→objQ p φ (S (x+d))≤objQ p φ (S x):=by
  intro d
  induction d with
  | zero=>intro x _ _;exact Rat.le_refl
  | succ d ih=>
   intro x h1 h2;have e1:=ih x h1 (by omega);have e2:=F (x+d) (by omega) (by omega);rw [show x+(d+1)=x+d+1 by omega];grind
 have M:objQ p φ (S a)=objQ p φ (S b):=obj_basis φ heq;have A:∀k,a≤k→k < b→objQ p φ (S (k+1))=objQ p φ (S k):=fun k h1 h2=>by
  have e1:=o (k - a) a (JY _) (by omega);rw [show a+(k - a)=k by omega] at e1;have e2:=o (b - (k+1)) (k+1) (by omega) (by omega);rw [show k+1+(b - (k+1))=b by omega] at e2;have e3:=F k h1 h2;grind
 have f:∀k,a≤k→k < b→qAt (zL p (S k)) (I k)=0:=fun k h1 h2=>by
  have e1:=D k h1 h2;rw [A k h1 h2] at e1;have hr:=(hs k h1 h2).piv.red;have e2:Zeu p (S k) (J k:Int) * (qAt (zL p (S k)) (I k) / qAt (dirL p (S k) (J k:Int)) (I k))=0:=by grind
  have e3:qAt (zL p (S k)) (I k) / qAt (dirL p (S k) (J k:Int)) (I k)=0:=by
   rcases Rat.mul_eq_zero.1 e2 with g | g
   ·rw [g] at hr;exact absurd hr (by decide)
   ·exact g
  have e4:=Rat.div_mul_cancel (a:=qAt (zL p (S k)) (I k)) (hs k h1 h2).piv.d0;rw [e3] at e4;grind
 -- the basic values stay
 have hZ:∀k,a≤k→k < b→∀l,l < p.right.length→qAt (zL p (S (k+1))) l=qAt (zL p (S k)) l:=fun k h1 h2 l hl=>by
  obtain ⟨_,z1,z2⟩:=(hs k h1 h2).piv.z (hv k h1 (by omega));rw [(hs k h1 h2).eq,settle_zL];by_cases e:l=I k
  ·rw [e,z1,f k h1 h2];simp [Rat.div_def]
  ·rw [z2 l hl e,f k h1 h2];simp [Rat.div_def];grind
 have G:∀d x,a≤x→x+d≤b→∀l,l < p.right.length→qAt (zL p (S (x+d))) l=qAt (zL p (S x)) l:=by
  intro d
  induction d with
  | zero=>intro x _ _ l _;rfl
  | succ d ih=>
   intro x h1 h2 l hl;rw [show x+(d+1)=x+d+1 by omega,hZ (x+d) (by omega) (by omega) l hl];exact ih x h1 (by omega) l hl
 have N:∀x y,a≤x→x≤b→a≤y→y≤b→∀l,l < p.right.length→qAt (zL p (S x)) l=qAt (zL p (S y)) l:=fun x y h1 h2 h3 h4 l hl=>by
  have e1:=G (x - a) a (JY _) (by omega) l hl;have e2:=G (y - a) a (JY _) (by omega) l hl;rw [show a+(x - a)=x by omega] at e1;rw [show a+(y - a)=y by omega] at e2;rw [e1,e2]
 -- the greatest column that enters
 obtain ⟨k0,h,j,s⟩:=greatest J (a:=a) (d:=b - a - 1);rw [show a+(b - a - 1)+1=b by omega] at j s;have hc:∀l u,((S a).at_ l=u)↔((S b).at_ l=u):=fun l u=>by rw [at_basis heq]
 have H:∀k,a≤k→k < b→∀l,l < p.right.length→(S k).at_ l≠(J k:Int):=fun k h1 h2 l hl e=>by
  have hr:=(hs k h1 h2).piv.red;rw [← e,Zvr (hv k h1 (by omega)).reg hl] at hr;exact absurd hr (by decide)
 -- it leaves somewhere
 obtain ⟨k1,c,i,L,a0⟩:=crossC (P:=fun k=>(S k).at_ (I k0)=(J k0:Int)) (a:=a) (b:=b) (x:=k0+1) (y:=k0) ⟨by omega,by omega⟩ ⟨by omega,by omega⟩ (hc _ _) (by
  show (S (k0+1)).at_ (I k0)=_;rw [v k0 h j,if_pos rfl]) (H k0 h j _ (hs k0 h j).piv.hi)
 have O:I k1=I k0:=by
  by_cases g:I k0=I k1
  ·exact g.symm
  ·exfalso;refine a0 ?_;show (S (k1+1)).at_ (I k0)=_;rw [v k1 c i,if_neg g];exact L
 have m:(S k1).at_ (I k1)=(J k0:Int):=by rw [O];exact L
 have R:J k1 < J k0:=by
  have e1:=s k1 c i;have e2:J k1≠J k0:=fun e=>H k1 c i (I k1) (hs k1 c i).piv.hi (by rw [m,e])
  omega
 have v0:=hv k0 h (by omega);have v1:=hv k1 c (by omega);have p0:=hph k0 h (by omega);have p1:=hph k1 c (by omega)
 -- the reduced costs of the one in the basis of the other
 have a4:Zeu p (S k1) (J k1:Int)=Zeu p (S k0) (J k1:Int) - ZO (fun k=>Zeu p (S k0) ((S k1).at_ k) * qAt (dirL p (S k1) (J k1:Int)) k) p.right.length:=by
  rw [red_eq v1.reg,red_eq v0.reg,ydot_dir v1.reg,p0,p1];have e1:ydot p (S k0) (J k1:Int)=ZO (fun k=>ydot p (S k0) ((S k1).at_ k) * qAt (dirL p (S k1) (J k1:Int)) k) p.right.length:=by
   unfold ydot;rw [Zk (g:=fun r=>ZO (fun k=>qAt (dirL p (S k1) (J k1:Int)) k * (p.col ((S k1).at_ k) r * qAt (XU p (S k0)) r)) p.right.length) fun r hr=>by
    rw [← Zpc v1.reg (J k1:Int) r hr];unfold Xz;rw [Rat.mul_comm,← Xe];exact Zk fun k _=>by show _ * (p.col ((S k1).at_ k) r * _)=_;grind]
   rw [VG];exact Zk fun k _=>by rw [Xe];grind
  have e2:ZO (fun k=>Zeu p (S k0) ((S k1).at_ k) * qAt (dirL p (S k1) (J k1:Int)) k) p.right.length=ZO (fun k=>VL p φ ((S k1).at_ k) * qAt (dirL p (S k1) (J k1:Int)) k - ydot p (S k0) ((S k1).at_ k) * qAt (dirL p (S k1) (J k1:Int)) k) p.right.length:=Zk fun k _=>by
   rw [red_eq v0.reg,p0];grind
  rw [e2,Zof,← e1];grind
 have T:∃k,k < p.right.length∧0 < Zeu p (S k0) ((S k1).at_ k) * qAt (dirL p (S k1) (J k1:Int)) k:=by
  by_cases g:∃k,k < p.right.length∧0 < Zeu p (S k0) ((S k1).at_ k) * qAt (dirL p (S k1) (J k1:Int)) k
  ·exact g
  ·exfalso;have h1:ZO (fun k=>Zeu p (S k0) ((S k1).at_ k) * qAt (dirL p (S k1) (J k1:Int)) k) p.right.length≤ZO (fun _=>0) p.right.length:=sumN_le fun k hk=>Rat.not_lt.1 fun e=>g ⟨k,hk,e⟩
   rw [Vi] at h1;have h2:=(hs k1 c i).piv.red;have h3:=(hs k0 h j).ent (J k1) R;grind
 obtain ⟨k,hk,n⟩:=T
 -- the column u at place k
 have hu:∀l,l < p.right.length→(S k0).at_ l≠(S k1).at_ k:=fun l hl e=>by
  rw [← e,Zvr v0.reg hl] at n;simp at n
 obtain ⟨k2,t,C,a1,a2⟩:=crossC (P:=fun x=>¬(S x).at_ k=(S k1).at_ k) (a:=a) (b:=b) (x:=k0) (y:=k1) ⟨h,by omega⟩ ⟨c,by omega⟩ (not_congr (hc _ _)) (hu k hk) (fun g=>g rfl);have q:(S (k2+1)).at_ k=(S k1).at_ k:=Classical.byContradiction a2;have K:k=I k2:=by
  by_cases g:k=I k2
  ·exact g
  ·exfalso;rw [v k2 t C,if_neg g] at q;exact a1 q
 have B:(S k1).at_ k=(J k2:Int):=by rw [← q,v k2 t C,if_pos K]
 have U:qAt (zL p (S k1)) k=0:=by
  rw [N k1 k2 c (by omega) t (by omega) k hk,K];exact f k2 t C
 obtain ⟨a3,E⟩:=(hs k1 c i).lv (by rw [m];omega);have V:=(hs k0 h j).piv.red;have X:J k2 < J k0:=by
  have e1:=s k2 t C;have e2:J k2≠J k0:=fun e=>by
   have Y:k=I k1:=by
    by_cases g:k=I k1
    ·exact g
    ·exfalso;have e3:(S k1).at_ k=(S k1).at_ (I k1):=(by rw [B,m,e]);rcases JX k (I k1) with g2 | g2
     ·exact v1.dup (I k1) (hs k1 c i).piv.hi k g2 e3.symm
     ·exact v1.dup k hk (I k1) (by omega) e3
   rw [B,e,Y] at n;have:0≤ -Zeu p (S k0) (J k0:Int) * qAt (dirL p (S k1) (J k1:Int)) (I k1):=Rat.mul_nonneg (by grind) (Rat.le_of_lt a3);grind
  omega
 have a5:=(hs k0 h j).ent (J k2) X;rw [B] at n;have Z:0 < qAt (dirL p (S k1) (J k1:Int)) k:=by
  by_cases g:0 < qAt (dirL p (S k1) (J k1:Int)) k
  ·exact g
  ·exfalso;have:0≤Zeu p (S k0) (J k2:Int) * -qAt (dirL p (S k1) (J k1:Int)) k:=Rat.mul_nonneg (by grind) (by grind);grind
 have r1:Zrq (zL p (S k1)) (dirL p (S k1) (J k1:Int)) (I k1)=0:=by unfold Zrq;rw [f k1 c i];simp [Rat.div_def]
 have r2:Zrq (zL p (S k1)) (dirL p (S k1) (J k1:Int)) k=0:=by unfold Zrq;rw [U];simp [Rat.div_def]
 rcases E k hk Z with g | ⟨_,g⟩
 ·rw [r1,r2] at g;exact absurd g (by decide)
 ·rw [m,B] at g;unfold Ygt at g;rw [if_pos (by omega),if_pos (by omega)] at g;omega
theorem phase_basis {p:LPd} {s t:LSt} (hs:Val p s) (ht:Val p t) (ss:Zic p s) (st:Zic p t) (h:s.basis=t.basis):s.phase=t.phase:=by
 have a:∀u,Val p u→Zic p u→(u.phase=2↔∀i,i < p.right.length→u.at_ i < 0→qAt (zL p u) i=0):=fun u hu su=>by
  refine ⟨hu.art,fun e=>?_⟩;have h1:Zby u (zL p u) (zL p u).length=false:=Zia fun k hk ha=>e k (by rw [← Zrr hu.reg];exact hk) ha
  have h2:(ZB p u).phase=u.phase:=congrArg LSt.phase su;rw [← h2];show (if Zby u (zL p u) (zL p u).length=true then u.phase else 2)=2;rw [h1,if_neg (by decide)]
 have e1:=a s hs ss;have e2:=a t ht st;have e3:(∀i,i < p.right.length→s.at_ i < 0→qAt (zL p s) i=0)↔(∀i,i < p.right.length→t.at_ i < 0→qAt (zL p t) i=0):=by
  rw [zL_basis h];exact ⟨fun g i hi ha=>g i hi (by rw [at_basis h];exact ha),fun g i hi ha=>g i hi (by rw [← at_basis h];exact ha)⟩
 have e4:s.phase=2↔t.phase=2:=by rw [e1,e2,e3]
 have:=hs.ph;have:=ht.ph;omega
theorem run_states {p:LPd} {s:LSt} (h:Val p s) (ss:Zic p s) (k:Nat):Val p (Zwh p k s)∧Zic p (Zwh p k s):=⟨Zpf h,runL_settled ss⟩
theorem run_once {p:LPd} {s:LSt} (h:Val p s) (ss:Zic p s) {n:Nat} (hr:∀k,k < n→Zkt p (Zwh p k s)≠none) {a b:Nat} (hab:a < b) (hb:b≤n):(Zwh p a s).basis≠(Zwh p b s).basis:=by
 intro o;have l:∀k,k < n→Zkt p (Zwh p k s)=some (Zwh p (k+1) s):=fun k hk=>by
  cases e:Zkt p (Zwh p k s) with
  | none=>exact absurd e (hr k hk)
  | some t=>rw [runL_add (a:=k) (b:=1),Zej e];rfl
 have m:∀k,∃i j:Nat,k < n→Stp p (Zwh p k s) (Zwh p (k+1) s) i j:=fun k=>by
  by_cases hk:k < n
  ·obtain ⟨i,j,c⟩:=stp_of (run_states h ss k).1 (l k hk);exact ⟨i,j,fun _=>c⟩
  ·exact ⟨0,0,fun g=>absurd g hk⟩
 have hI:∃I:Nat→Nat,∀k,∃j:Nat,k < n→Stp p (Zwh p k s) (Zwh p (k+1) s) (I k) j:=⟨fun k=>(m k).choose,fun k=>(m k).choose_spec⟩;obtain ⟨I,hI⟩:=hI;have hJ:∃J:Nat→Nat,∀k,k < n→Stp p (Zwh p k s) (Zwh p (k+1) s) (I k) (J k):=⟨fun k=>(hI k).choose,fun k=>(hI k).choose_spec⟩;obtain ⟨J,hJ⟩:=hJ;have f:∀d x,x+d≤n→(Zwh p x s).phase≤(Zwh p (x+d) s).phase:=fun d x _=>by
  rw [runL_add];exact runL_phase (run_states h ss x).1
 have q:(Zwh p a s).phase=(Zwh p b s).phase:=phase_basis (run_states h ss a).1 (run_states h ss b).1 (run_states h ss a).2 (run_states h ss b).2 o;refine nocycle (p:=p) (S:=fun k=>Zwh p k s) (I:=I) (J:=J) (φ:=(Zwh p a s).phase) hab (fun k _ _=>(run_states h ss k).1) (fun k h1 h2=>hJ k (by omega)) (fun k h1 h2=>?_) o;have e1:=f (k - a) a (by omega);have e2:=f (b - k) k (by omega);rw [show a+(k - a)=k by omega] at e1;rw [show k+(b - k)=b by omega] at e2;show (Zwh p k s).phase=_;omega
theorem phase1_pos {p:LPd} {s:LSt} (h:Reg p s) (h1:s.phase=1) {j:Nat} (hr:Zeu p s (j:Int) < 0):∃i,i < p.right.length∧0 < qAt (dirL p s (j:Int)) i:=by
 by_cases g:∃i,i < p.right.length∧0 < qAt (dirL p s (j:Int)) i
 ·exact g
 ·exfalso;rw [red_eq h,ydot_dir h,h1] at hr;have hc:VL p 1 (j:Int)=0:=Zqy (by omega) (by omega);have hs:ZO (fun i=>VL p 1 (s.at_ i) * qAt (dirL p s (j:Int)) i) p.right.length≤ZO (fun _=>0) p.right.length:=sumN_le fun i hi=>by
   have hd:qAt (dirL p s (j:Int)) i≤0:=Rat.not_lt.1 fun e=>g ⟨i,hi,e⟩
   by_cases ha:s.at_ i < 0
   ·rw [Zus ha];grind
   ·rw [Zqy (by omega) (by omega)];grind
  rw [Vi] at hs;rw [hc] at hr;grind
theorem bestN_some {p:LPd} {s:LSt} {Z D:List RF}:∀{n k:Nat},k < n→0 < qAt D k→XQ p s Z D n≠none
 | 0,k,h,_=>by omega
 | n+1,k,h,hd=>by
  by_cases h0:0 < qAt D n
  ·cases hb:XQ p s Z D n with
   | none=>rw [UB hb h0];simp
   | some b=>
    by_cases g:better p s Z D n b
    ·rw [VP hb h0 g];simp
    ·rw [UC hb h0 g];simp
  ·rw [Zbl h0]
   exact bestN_some (k:=k) (by
    rcases JX k n with e | e
    ·exact e
    ·obtain rfl:k=n:=by omega
     exact absurd hd h0) hd
theorem firstNeg_nil {f:Nat→Rat}:∀{n r:Nat},YJ f r n=none→∀i,r≤i→i < r+n→¬f i < 0
 | 0,r,_,i,h1,h2=>by omega
 | n+1,r,hr,i,h1,h2=>by
  unfold YJ at hr
  split at hr
  ·cases hr
  ·rename_i g
   rcases Nat.eq_or_lt_of_le h1 with e | e
   ·subst e;exact g
   ·exact firstNeg_nil hr i (by omega) (by omega)
theorem stuckN_true {s:LSt} {D:List RF}:∀{n:Nat},s.phase=2→(∀k,k < n→¬(0 < qAt D k∨(s.at_ k < 0∧qAt D k≠0)))→Vq s D n=true
 | 0,h,_=>by simp [Vq,h]
 | n+1,h,hk=>by unfold Vq;rw [if_neg (hk n (by omega))];exact stuckN_true h fun k hk'=>hk k (by omega)
theorem run_piv {p:LPd} {s:LSt} (h:Val p s) (hq:YR p s=0):Zkt p s≠none:=by
 obtain ⟨j,d,hj,hJ,hD⟩:=Ydj hq;have b:=Znc h.reg (j:Int);have c:Zeu p s (j:Int) < 0:=(XI d).2.2.1;have hl:Zeh p s (zL p s) (VO p s)≠none:=by
  rw [hD];by_cases a:s.phase=2
  ·cases hf:YJ (Zwg s (dirL p s (j:Int))) 0 (dirL p s (j:Int)).length with
   | some i=>rw [Zvm a hf];simp
   | none=>
    rw [Zvn a hf];by_cases g:∃i,i < p.right.length∧0 < qAt (dirL p s (j:Int)) i
    ·obtain ⟨i,hi,hd⟩:=g;exact bestN_some (k:=i) (by rw [b];exact hi) hd
    ·exfalso;have f:=stuckN_true (D:=dirL p s (j:Int)) (n:=(dirL p s (j:Int)).length) a fun k hk e=>by
      rcases e with e | ⟨e1,e2⟩
      ·exact g ⟨k,by rw [← b];exact hk,e⟩
      ·exact firstNeg_nil hf k (Nat.zero_le _) (by omega) (Zzf e1 e2)
     rw [(XP d).1,f] at hq;exact absurd hq (by decide)
  ·have h1:s.phase=1:=(by have:=h.ph;omega);rw [Zvl a];obtain ⟨i,hi,hd⟩:=phase1_pos h.reg h1 c;exact bestN_some (k:=i) (by rw [b];exact hi) hd
 cases e:Zeh p s (zL p s) (VO p s) with
 | none=>exact absurd e hl
 | some i=>rw [Yfl hq e];simp
end Pl
namespace Pl
theorem rk_mono:∀(d c:Nat),rk c≤rk (c+d)
 | 0,c=>JY _
 | d+1,c=>JW (rk_mono d c) (by rw [← Nat.add_assoc];show rk (c+d)≤rk (c+d)+_;omega)
theorem rk_lt {c d:Nat} (h:c < d) (hc:vc c=true):rk c < rk d:=by
 have h1:=rk_mono (d - (c+1)) (c+1);rw [show c+1+(d - (c+1))=d by omega] at h1;have h2:rk (c+1)=rk c+1:=by show rk c+_=_;rw [if_pos hc]
 omega
theorem rk_inj {c d:Nat} (hc:vc c=true) (hd:vc d=true) (h:rk c=rk d):c=d:=by
 rcases Nat.lt_trichotomy c d with e | e | e
 ·have:=rk_lt e hc;omega
 ·exact e
 ·have:=rk_lt e hd;omega
theorem rk_all:rk 216=136:=by decide
theorem rk_bd {c:Nat} (h:c < 216) (hc:vc c=true):rk c < 136:=by have:=rk_lt h hc;rw [rk_all] at this;exact this
def digB (s:LSt) (i:Nat):Nat:=(s.at_ i+1).toNat
def codeB (s:LSt):Nat:=digB s 0+6 * digB s 1+36 * digB s 2
structure Root (p:LPd) (s:LSt):Prop where
 at_:∀i,i < p.right.length→s.at_ i= -1 - (i:Int)∨0≤s.at_ i
 out:∀i,p.right.length≤i→s.at_ i=0
theorem root_start (p:LPd):Root p (Zbu p):=⟨fun i hi=> .inl (Zek hi),fun i hi=>by
 unfold LSt.at_
 have:(Zbu p).basis.length≤i:=by show (Ydi _).length≤i;rw [Zeg];exact hi
 simp [List.getD,JU this]⟩
theorem Root.settle {p:LPd} {s:LSt} (h:Root p s):Root p (ZB p s):=⟨h.at_,h.out⟩
theorem Root.piv {p:LPd} {s t:LSt} (h:Root p s) (hv:Val p s) (e:Zkt p s=some t):Root p t:=by
 obtain ⟨i,j,c,rfl⟩:=Yan hv e;have hb:i < s.basis.length:=by rw [hv.fit.len];exact c.hi
 have:Root p (Zry s i (j:Int)):=⟨fun k hk=>by
  rw [Zib hb];by_cases g:k=i
  ·rw [if_pos g];right;omega
  ·rw [if_neg g];exact h.at_ k hk,fun k hk=>by
  rw [Zib hb,if_neg (by have:=c.hi;omega)];exact h.out k hk⟩
 exact this.settle
theorem Root.run {p:LPd}:∀{n:Nat} {s:LSt},Root p s→Val p s→Root p (Zwh p n s)
 | 0,_,h,_=>h
 | n+1,s,h,hv=>by
  cases e:Zkt p s with
  | none=>rw [Zei e];exact h
  | some t=>rw [Zej e];exact (h.piv hv e).run (Zpe hv e)
theorem dig_lt {p:LPd} {s:LSt} (h:Root p s) (hv:Val p s) (hn:p.cols.length≤5) (i:Nat):digB s i < 6∧(i < p.right.length→(digB s i=0↔s.at_ i < 0)):=by
 unfold digB;rcases JX i p.right.length with hi | hi
 ·have a:i < s.basis.length:=by rw [hv.fit.len];exact hi
  have h1:=hv.fit.in_ i _ (JQ a);rw [← LSt.at_eq (JQ a)] at h1;have h2:=h.at_ i hi;exact ⟨by omega,fun _=>by omega⟩
 ·rw [h.out i hi];exact ⟨by decide,fun g=>by omega⟩
theorem code_inj {p:LPd} {s t:LSt} (h:Root p s) (hv:Val p s) (g:Root p t) (gv:Val p t) (hm:p.right.length≤3) (hn:p.cols.length≤5) (e:codeB s=codeB t):s.basis=t.basis:=by
 have a0:=(dig_lt h hv hn 0).1;have a1:=(dig_lt h hv hn 1).1;have b0:=(dig_lt g gv hn 0).1;have b1:=(dig_lt g gv hn 1).1;unfold codeB at e;have e0:digB s 0=digB t 0:=by omega
 have e1:digB s 1=digB t 1:=by omega
 have e2:digB s 2=digB t 2:=by omega
 have a:∀i,i < p.right.length→digB s i=digB t i→s.at_ i=t.at_ i:=fun i hi hd=>by
  have h1:=h.at_ i hi;have h2:=g.at_ i hi;unfold digB at hd;omega
 refine List.ext_getElem? fun i=>?_
 rcases JX i p.right.length with hi | hi
 ·have hs:i < s.basis.length:=by rw [hv.fit.len];exact hi
  have ht:i < t.basis.length:=by rw [gv.fit.len];exact hi
  have:s.at_ i=t.at_ i:=by
   have:i=0∨i=1∨i=2:=by omega
   rcases this with rfl | rfl | rfl
   ·exact a 0 hi e0
   ·exact a 1 hi e1
   ·exact a 2 hi e2
  rw [LSt.at_eq (JQ hs),LSt.at_eq (JQ ht)] at this;rw [JQ hs,JQ ht,this]
 ·rw [JU (by rw [hv.fit.len];exact hi),JU (by rw [gv.fit.len];exact hi)]
def codeV (p:LPd) (s:LSt):Nat:=(if 0 < p.right.length then digB s 0 else 0)+6 * (if 1 < p.right.length then digB s 1 else 0)+36 * (if 2 < p.right.length then digB s 2 else 0)
theorem codeV_ok {p:LPd} {s:LSt} (h:Root p s) (hv:Val p s) (hn:p.cols.length≤5):codeV p s < 216∧vc (codeV p s)=true:=by
 have a0:=dig_lt h hv hn 0;have a1:=dig_lt h hv hn 1;have a2:=dig_lt h hv hn 2;obtain ⟨d0,h0⟩:∃d,d=(if 0 < p.right.length then digB s 0 else 0):=⟨_,rfl⟩;obtain ⟨d1,h1⟩:∃d,d=(if 1 < p.right.length then digB s 1 else 0):=⟨_,rfl⟩;obtain ⟨d2,h2⟩:∃d,d=(if 2 < p.right.length then digB s 2 else 0):=⟨_,rfl⟩;have l0:d0 < 6:=by rw [h0];split <;> omega
 have l1:d1 < 6:=by rw [h1];split <;> omega
 have l2:d2 < 6:=by rw [h2];split <;> omega
 have c:∀a b,a < b→b < p.right.length→digB s a≠0→digB s a≠digB s b:=fun a b hab hb h0' e=>by
  have c1:=h.at_ a (by omega);have c2:=h.at_ b hb;have c3:=hv.dup b hb a hab;unfold digB at h0' e;omega
 have f:d0=0∨d0≠d1:=by
  rw [h0,h1];by_cases g0:0 < p.right.length
  ·rw [if_pos g0];by_cases g1:1 < p.right.length
   ·rw [if_pos g1];by_cases z:digB s 0=0
    ·exact .inl z
    ·exact .inr (c 0 1 (by omega) g1 z)
   ·rw [if_neg g1];omega
  ·rw [if_neg g0];exact .inl rfl
 have g:d0=0∨d0≠d2:=by
  rw [h0,h2];by_cases g0:0 < p.right.length
  ·rw [if_pos g0];by_cases g1:2 < p.right.length
   ·rw [if_pos g1];by_cases z:digB s 0=0
    ·exact .inl z
    ·exact .inr (c 0 2 (by omega) g1 z)
   ·rw [if_neg g1];omega
  ·rw [if_neg g0];exact .inl rfl
 have i:d1=0∨d1≠d2:=by
  rw [h1,h2];by_cases g0:1 < p.right.length
  ·rw [if_pos g0];by_cases g1:2 < p.right.length
   ·rw [if_pos g1];by_cases z:digB s 1=0
    ·exact .inl z
    ·exact .inr (c 1 2 (by omega) g1 z)
   ·rw [if_neg g1];omega
  ·rw [if_neg g0];exact .inl rfl
 have e:codeV p s=d0+6 * d1+36 * d2:=by unfold codeV;rw [h0,h1,h2]
 rw [e];refine ⟨by omega,?_⟩;unfold vc;rw [show (d0+6 * d1+36 * d2) % 6=d0 by omega,show (d0+6 * d1+36 * d2) / 6 % 6=d1 by omega,show (d0+6 * d1+36 * d2) / 36=d2 by omega];simp only [Bool.and_eq_true,Bool.or_eq_true,beq_iff_eq,bne_iff_ne];exact ⟨by
  rcases f with z | z
  ·exact .inl z
  ·rcases g with y | y
   ·exact .inl y
   ·exact .inr ⟨z,y⟩,i⟩
theorem codeV_inj {p:LPd} {s t:LSt} (h:Root p s) (hv:Val p s) (g:Root p t) (gv:Val p t) (hm:p.right.length≤3) (hn:p.cols.length≤5) (e:codeV p s=codeV p t):s.basis=t.basis:=by
 refine code_inj h hv g gv hm hn ?_;have a:∀i,digB s i < 6:=fun i=>(dig_lt h hv hn i).1
 have b:∀i,digB t i < 6:=fun i=>(dig_lt g gv hn i).1
 have o:∀i,p.right.length≤i→digB s i=digB t i:=fun i hi=>by unfold digB;rw [h.out i hi,g.out i hi]
 have x0:=a 0;have x1:=a 1;have x2:=a 2;have y0:=b 0;have y1:=b 1;have y2:=b 2;unfold codeV at e;unfold codeB;have:p.right.length=0∨p.right.length=1∨p.right.length=2∨p.right.length=3:=by omega
 rcases this with q | q | q | q
 ·rw [o 0 (by omega),o 1 (by omega),o 2 (by omega)]
 ·rw [o 1 (by omega),o 2 (by omega)];rw [q] at e;simp at e;omega
 ·rw [o 2 (by omega)];rw [q] at e;simp at e;omega
 ·rw [q] at e;simp at e;omega
theorem run_ends {p:LPd} (hm:p.right.length≤3) (hn:p.cols.length≤5) {N:Nat} (hN:136≤N):Zkt p (Zwh p N (ZB p (Zbu p)))=none:=by
 have v0:=(Zvs p).settle;have s0:Zic p (ZB p (Zbu p)):=settled_settle;have r0:=(root_start p).settle;by_cases hr:∃k,k < N∧Zkt p (Zwh p k (ZB p (Zbu p)))=none
 ·obtain ⟨k,hk,e⟩:=hr;rw [show N=k+(N - k) by omega,runL_add,Zei e];exact e
 ·exfalso;have a:∀k,k < N→Zkt p (Zwh p k (ZB p (Zbu p)))≠none:=fun k hk e=>hr ⟨k,hk,e⟩
  obtain ⟨i,j,b,hj,he⟩:=pigeon 136 (N+1) (fun k=>rk (codeV p (Zwh p k (ZB p (Zbu p))))) (by omega) fun k _=>by
   obtain ⟨c1,c2⟩:=codeV_ok (r0.run (n:=k) v0) (run_states v0 s0 k).1 hn;exact rk_bd c1 c2
  have c1:=codeV_ok (r0.run (n:=i) v0) (run_states v0 s0 i).1 hn;have c2:=codeV_ok (r0.run (n:=j) v0) (run_states v0 s0 j).1 hn;have:=codeV_inj (r0.run (n:=i) v0) (run_states v0 s0 i).1 (r0.run (n:=j) v0) (run_states v0 s0 j).1 hm hn (rk_inj c1.2 c2.2 he);exact run_once v0 s0 a b (by omega) this
end Pl
section
namespace Pl
section
variable {p:LPd} {s:LSt}
theorem primN_none {Z:List RF} {j:Nat}:∀{k:Nat},(∀l,l < k→s.at_ l≠(j:Int))→Zbz s Z k j=0
 | 0,_=>rfl
 | k+1,h=>by rw [Zgg,if_neg (h k (by omega))];exact primN_none fun l hl=>h l (by omega)
theorem prim_sum {n m:Nat} {Z:List RF} (hin:∀l,l < m→s.at_ l < n) (hdup:∀i,i < m→∀k,k < i→s.at_ i≠s.at_ k) (f:Nat→Rat):∀k,k≤m→ZO (fun j=>Zbz s Z k j * f j) n=ZO (fun l=>if 0≤s.at_ l then qAt Z l * f (s.at_ l).toNat else 0) k
 | 0,_=>by rw [YK];exact WQ fun j _=>by show (0:Rat) * f j=0;grind
 | k+1,hk=>by
  rw [ZC,← prim_sum hin hdup f k (by omega)]
  by_cases h0:0≤s.at_ k
  ·rw [if_pos h0]
   obtain ⟨j0,hj0⟩:=JT h0
   have hj:j0 < n:=by have:=hin k (by omega);omega
   rw [hj0,JP]
   have e:ZO (fun j=>Zbz s Z (k+1) j * f j) n=ZO (fun j=>Zbz s Z k j * f j+(if j=j0 then qAt Z k * f j0 else 0)) n:=Zk fun j _=>by
    rw [Zgg,hj0]
    by_cases g:j=j0
    ·subst g
     rw [if_pos rfl,if_pos rfl,primN_none fun l hl e=>hdup k (by omega) l hl (by rw [hj0,e])];grind
    ·rw [if_neg (by omega),if_neg g];grind
   rw [e,WA,WC hj]
  ·rw [if_neg h0]
   have e:ZO (fun j=>Zbz s Z (k+1) j * f j) n=ZO (fun j=>Zbz s Z k j * f j) n:=Zk fun j _=>by rw [Zgg,if_neg (by omega)]
   rw [e];grind
theorem primN_pos {Z:List RF} (h:∀k,0≤qAt Z k):∀(k j:Nat),0≤Zbz s Z k j
 | 0,j=>by show (0:Rat)≤0;exact Rat.le_refl
 | k+1,j=>by
  rw [Zgg];split
  ·exact h k
  ·exact primN_pos h k j
theorem Val.range (h:Val p s):∀l,l < p.right.length→s.at_ l < p.cols.length:=fun l hl=>by
 have hl':l < s.basis.length:=by rw [h.fit.len];exact hl
 rw [LSt.at_eq (JQ hl')]
 exact (h.fit.in_ l _ (JQ hl')).2
theorem prim_at (j:Nat) (hj:j < p.cols.length):qAt (Zef p s) j=Zbz s (zL p s) (zL p s).length j:=by unfold Zef;exact YH hj
theorem prim_value (h:Val p s):Zbb p.cost (Zef p s) p.cols.length=objQ p 2 s:=by
 unfold Zbb;rw [Zk (g:=fun j=>Zbz s (zL p s) (zL p s).length j * qAt p.cost j) fun j hj=>by rw [prim_at j hj];grind,prim_sum (m:=p.right.length) h.range h.dup _ _ (by rw [Zrr h.reg];exact JY _),Zrr h.reg];unfold objQ;exact Zk fun l _=>by
  by_cases g:0≤s.at_ l
  ·rw [if_pos g,Zqx g];grind
  ·rw [if_neg g,Zqy (by omega) (by omega)];grind
theorem prim_times (h:Val p s) (h2:s.phase=2):∀r,r < p.right.length→YL p (Zef p s) p.cols.length r=qAt p.right r:=fun r hr=>by
 unfold YL
 rw [Zk (g:=fun j=>Zbz s (zL p s) (zL p s).length j * p.col (j:Int) r) fun j hj=>by rw [prim_at j hj],prim_sum (m:=p.right.length) h.range h.dup (fun j=>p.col (j:Int) r) _ (by rw [Zrr h.reg];exact JY _),Zrr h.reg,← Yfm h.reg r hr]
 unfold Xz
 exact Zk fun l hl=>by
  show _=p.col (s.at_ l) r * _
  by_cases g:0≤s.at_ l
  ·rw [if_pos g,Int.toNat_of_nonneg g];grind
  ·rw [if_neg g,h.art h2 l hl (by omega)];grind
theorem z_pos (h:Val p s) (k:Nat):0≤qAt (zL p s) k:=by
 rcases JX k p.right.length with e | e
 ·exact h.pos k e
 ·rw [qAt_none (by rw [Zrr h.reg];exact e)];exact Rat.le_refl
theorem qs_nonneg {q:Rat} (h:0≤q):0≤qs q:=Int.not_lt.1 fun g=>by have:=Zjn.1 g;grind
theorem feas_of {xs:List RF} (he:lpErr p=0) (hl:xs.length=p.cols.length) (hp:∀j,j < p.cols.length→0≤qAt xs j) (ht:∀r,r < p.right.length→YL p xs p.cols.length r=qAt p.right r):Zbd p xs=true:=by
 rw [feasB_4 he hl (Zxv fun i hi=>qs_nonneg (hp i (by rw [← hl];exact hi)))];exact eqB_true (Zm _ _) fun i hi=>by rw [Zm] at hi;rw [YH hi,ht i hi]
theorem primL_length:(Zef p s).length=p.cols.length:=by unfold Zef;exact Zm _ _
theorem prim_feas (he:lpErr p=0) (h:Val p s) (h2:s.phase=2):Zbd p (Zef p s)=true:=
 feas_of he primL_length (fun j hj=>by rw [prim_at j hj];exact primN_pos (z_pos h) _ _) (prim_times h h2)
theorem ent_none (hq:Zvj p s=none):∀j,j < p.cols.length→0≤Zeu p s (j:Int):=fun j hj=>Rat.not_lt.1 (firstNeg_nil hq j (Nat.zero_le _) (by omega))
theorem ydot_dotC (j:Int):ydot p s j=Zgz (XU p s) (p.col j) p.right.length:=Zk fun r _=>by grind
theorem low_of (h:Val p s) (h2:s.phase=2) (hq:Zvj p s=none):Zez p (XU p s) p.cols.length:=fun j hj=>by
 have:=ent_none hq j hj
 rw [red_eq h.reg,h2,Zqx (by omega),JP,ydot_dotC] at this
 grind
theorem dual_right (h:Val p s):Zbb (XU p s) p.right p.right.length=objQ p s.phase s:=by
 rw [← obj_dual h.reg];exact Zk fun r _=>by grind
theorem stat_1 (h:YR p s=1):Zvj p s=none∧s.phase≠1:=by
 cases e:Zvj p s with
 | none=>
  rw [(WU e).1] at h;refine ⟨rfl,fun g=>?_⟩;rw [if_pos g] at h;omega
 | some j=>rw [(XP e).1] at h;split at h <;> omega
theorem stat_2 (h:YR p s=2):Zvj p s=none∧s.phase=1:=by
 cases e:Zvj p s with
 | none=>
  rw [(WU e).1] at h;by_cases g:s.phase=1
  ·exact ⟨rfl,g⟩
  ·rw [if_neg g] at h;omega
 | some j=>rw [(XP e).1] at h;split at h <;> omega
theorem stuckN_is {D:List RF}:∀{n:Nat},Vq s D n=true→s.phase=2∧∀k,k < n→¬(0 < qAt D k∨(s.at_ k < 0∧qAt D k≠0))
 | 0,h=>⟨by simpa [Vq] using h,fun k hk=>by omega⟩
 | n+1,h=>by
  unfold Vq at h
  split at h
  ·cases h
  ·rename_i g
   obtain ⟨h1,h2⟩:=stuckN_is h
   refine ⟨h1,fun k hk=>?_⟩
   rcases JX k n with e | e
   ·exact h2 k e
   ·obtain rfl:k=n:=by omega
    exact g
theorem stat_3 (h:YR p s=3):∃j:Nat,Zvj p s=some j∧j < p.cols.length∧Zeu p s (j:Int) < 0∧UA p s=(j:Int)∧VO p s=dirL p s (j:Int)∧s.phase=2∧∀k,k < (dirL p s (j:Int)).length→¬(0 < qAt (dirL p s (j:Int)) k∨(s.at_ k < 0∧qAt (dirL p s (j:Int)) k≠0)):=by
 cases e:Zvj p s with
 | none=>rw [(WU e).1] at h;split at h <;> omega
 | some j=>
  have h1:=XP e;rw [h1.1] at h;split at h
  ·rename_i g
   obtain ⟨g1,g2⟩:=stuckN_is g;have h2:=XI e;exact ⟨j,rfl,by omega,h2.2.2.1,h1.2.1,h1.2.2,g1,g2⟩
  ·omega
theorem hold_1 (he:lpErr p=0) (h:Val p s) (hq:YR p s=1):Zkj p (Zkx p s)=true:=by
 obtain ⟨h1,h2⟩:=stat_1 hq;have a:s.phase=2:=by have:=h.ph;omega
 rw [(Yfo hq).1];unfold Zkj;simp only [Bool.and_eq_true,beq_iff_eq];refine ⟨Zzy he (Zhz h.reg) (low_of h a h1),prim_feas he h a,?_⟩;rw [dual_right h,prim_value h,a,Rat.sub_self];rfl
theorem art_pos (h:Val p s) (ss:Zic p s) (h1:s.phase=1):0 < objQ p 1 s:=by
 have ha:Zby s (zL p s) (zL p s).length=true:=by
  cases e:Zby s (zL p s) (zL p s).length with
  | true=>rfl
  | false=>
   have h2:(ZB p s).phase=s.phase:=congrArg LSt.phase ss;have h3:(ZB p s).phase=2:=(by show (if Zby s (zL p s) (zL p s).length=true then s.phase else 2)=2;rw [e,if_neg (by decide)]);omega
 have c:∃k,k < p.right.length∧s.at_ k < 0∧qAt (zL p s) k≠0:=by
  by_cases g:∃k,k < p.right.length∧s.at_ k < 0∧qAt (zL p s) k≠0
  ·exact g
  ·exfalso;rw [Zia fun k hk b=>by
    by_cases e:qAt (zL p s) k=0
    ·exact e
    ·exact absurd ⟨k,by rw [← Zrr h.reg];exact hk,b,e⟩ g] at ha
   cases ha
 obtain ⟨k,hk,b,f⟩:=c;have a:∀i,i < p.right.length→0≤VL p 1 (s.at_ i) * qAt (zL p s) i:=fun i hi=>by
  have:=h.pos i hi;by_cases g:s.at_ i < 0
  ·rw [Zus g];grind
  ·rw [Zqy (by omega) (by omega)];grind
 have d:VL p 1 (s.at_ k) * qAt (zL p s) k≤objQ p 1 s:=by
  unfold objQ;rw [← WC hk (VL p 1 (s.at_ k) * qAt (zL p s) k)];exact sumN_le fun i hi=>by
   by_cases g:i=k
   ·rw [if_pos g,g];exact Rat.le_refl
   ·rw [if_neg g];exact a i hi
 rw [Zus b] at d;have:=h.pos k hk;grind
theorem hold_2 (h:Val p s) (ss:Zic p s) (hq:YR p s=2):Zkk p (Zkx p s)=true:=by
 obtain ⟨h1,h2⟩:=stat_2 hq;rw [(Yfp hq).1];unfold Zkk;simp only [Bool.and_eq_true,decide_eq_true_eq];refine ⟨fun j hj=>?_,?_⟩
 ·have:=ent_none h1 j hj;rw [red_eq h.reg,h2,Zqy (by omega) (by omega),ydot_dotC] at this;show Zgz (XU p s) _ _≤0;grind
 ·show 0 < qs (Zbb (XU p s) p.right p.right.length);rw [dual_right h,h2];exact Zjo.2 (art_pos h ss h2)
theorem ray_sum {n m:Nat} {D:List RF} {j:Nat} (hj:j < n) (hin:∀l,l < m→s.at_ l < n) (hdup:∀i,i < m→∀k,k < i→s.at_ i≠s.at_ k) (hne:∀l,l < m→s.at_ l≠(j:Int)) (f:Nat→Rat):∀k,k≤m→ZO (fun i=>Zlh s D (j:Int) k i * f i) n=f j - ZO (fun l=>if 0≤s.at_ l then qAt D l * f (s.at_ l).toNat else 0) k
 | 0,_=>by
  rw [YK,Y2 hj fun i _ hi=>by show (if (j:Int)=(i:Int) then (1:Rat) else 0) * f i=0;rw [if_neg (by omega)];grind]
  show (if (j:Int)=(j:Int) then (1:Rat) else 0) * f j=_
  rw [if_pos rfl];grind
 | k+1,hk=>by
  have ih:=ray_sum hj hin hdup hne f k (by omega) (D:=D)
  rw [ZC]
  by_cases h0:0≤s.at_ k
  ·rw [if_pos h0]
   obtain ⟨j0,hj0⟩:=JT h0
   have hjn:j0 < n:=by have:=hin k (by omega);omega
   rw [hj0,JP]
   have hz:Zlh s D (j:Int) k j0=0:=by
    have a:∀q,q≤k→Zlh s D (j:Int) q j0=0:=by
     intro q
     induction q with
     | zero=>intro _;show (if (j:Int)=(j0:Int) then (1:Rat) else 0)=0;rw [if_neg fun e=>hne k (by omega) (by rw [hj0,e])]
     | succ q ihq=>intro hq;rw [Zel,if_neg fun e=>hdup k (by omega) q (by omega) (by rw [hj0,e])];exact ihq (by omega)
    exact a k (JY _)
   have e:ZO (fun i=>Zlh s D (j:Int) (k+1) i * f i) n=ZO (fun i=>Zlh s D (j:Int) k i * f i+(if i=j0 then -(qAt D k * f j0) else 0)) n:=Zk fun i _=>by
    rw [Zel,hj0];by_cases g:i=j0
    ·subst g;rw [if_pos rfl,if_pos rfl,hz];grind
    ·rw [if_neg (by omega),if_neg g];grind
   rw [e,WA,WC hjn,ih];grind
  ·rw [if_neg h0];have e:ZO (fun i=>Zlh s D (j:Int) (k+1) i * f i) n=ZO (fun i=>Zlh s D (j:Int) k i * f i) n:=Zk fun i _=>by rw [Zel,if_neg (by omega)]
   rw [e,ih];grind
theorem rayN_pos {D:List RF} {j:Int} {n:Nat} (h:∀k,k < n→qAt D k≤0):∀(k i:Nat),k≤n→0≤Zlh s D j k i
 | 0,i,_=>by show (0:Rat)≤(if j=(i:Int) then 1 else 0);split <;> decide
 | k+1,i,hk=>by
  rw [Zel];split
  ·have:=h k (by omega);grind
  ·exact rayN_pos h k i (by omega)
theorem hold_3 (he:lpErr p=0) (h:Val p s) (hq:YR p s=3):Zfe p (Zkx p s)=true:=by
 obtain ⟨j,u,hj,a,hJ,hD,h2,n⟩:=stat_3 hq;have d:=Znc h.reg (j:Int);have m:∀l,l < p.right.length→s.at_ l≠(j:Int):=fun l hl e=>by
  rw [← e,Zvr h.reg hl] at a;exact absurd a (by decide)
 have o:∀k,k < p.right.length→qAt (dirL p s (j:Int)) k≤0:=fun k hk=>Rat.not_lt.1 fun g=>n k (by rw [d];exact hk) (.inl g)
 have q:∀k,k < p.right.length→s.at_ k < 0→qAt (dirL p s (j:Int)) k=0:=fun k hk ha=>by
  by_cases e:qAt (dirL p s (j:Int)) k=0
  ·exact e
  ·exact absurd (.inr ⟨ha,e⟩) (n k (by rw [d];exact hk))
 have b:Ydm p s=Yj p.cols.length (Zlh s (dirL p s (j:Int)) (j:Int) p.right.length):=by unfold Ydm;rw [hD,hJ,d]
 have f:∀i,i < p.cols.length→qAt (Ydm p s) i=Zlh s (dirL p s (j:Int)) (j:Int) p.right.length i:=fun i hi=>by rw [b,YH hi]
 rw [(Yfq hq).1];unfold Zfe;simp only [Bool.and_eq_true,decide_eq_true_eq];refine ⟨prim_feas he h h2,Zxv fun i hi=>?_,Zqg fun r hr=>?_,?_⟩
 ·have t:i < p.cols.length:=by rw [b,Zm] at hi;exact hi
  show 0≤qs (qAt (Ydm p s) i);rw [f i t];exact qs_nonneg (rayN_pos o _ i (JY _))
 ·show YL p (Ydm p s) p.cols.length r=qAt [] r;unfold YL;rw [Zk (g:=fun i=>Zlh s (dirL p s (j:Int)) (j:Int) p.right.length i * p.col (i:Int) r) fun i hi=>by rw [f i hi],ray_sum hj h.range h.dup m (fun i=>p.col (i:Int) r) _ (JY _),← Zpc h.reg (j:Int) r hr];unfold Xz;have e:ZO (fun c=>s.mat p c r * qAt (dirL p s (j:Int)) c) p.right.length=ZO (fun l=>if 0≤s.at_ l then qAt (dirL p s (j:Int)) l * p.col (((s.at_ l).toNat:Nat):Int) r else 0) p.right.length:=Zk fun l hl=>by
   show p.col (s.at_ l) r * _=_;by_cases g:0≤s.at_ l
   ·rw [if_pos g,Int.toNat_of_nonneg g];grind
   ·rw [if_neg g,q l hl (by omega)];grind
  rw [e,Rat.sub_self];rfl
 ·show qs (Zbb p.cost (Ydm p s) p.cols.length) < 0;refine Zjn.2 ?_;unfold Zbb;rw [Zk (g:=fun i=>Zlh s (dirL p s (j:Int)) (j:Int) p.right.length i * qAt p.cost i) fun i hi=>by rw [f i hi];grind,ray_sum hj h.range h.dup m (fun i=>qAt p.cost i) _ (JY _)];rw [red_eq h.reg,ydot_dir h.reg,h2,Zqx (by omega),JP] at a;have e:ZO (fun i=>VL p 2 (s.at_ i) * qAt (dirL p s (j:Int)) i) p.right.length=ZO (fun l=>if 0≤s.at_ l then qAt (dirL p s (j:Int)) l * qAt p.cost (s.at_ l).toNat else 0) p.right.length:=Zk fun l hl=>by
   by_cases g:0≤s.at_ l
   ·rw [if_pos g,Zqx g];grind
   ·rw [if_neg g,Zqy (by omega) (by omega)];grind
  rw [e] at a;exact a
theorem ext_verified (he:lpErr p=0) (h:Val p s) (ss:Zic p s) (hq:YR p s≠0):Zrb p (Zkx p s)=0∧(Zkx p s).st=YR p s∧Zvt p s=0:=by
 rcases Zem p s with e | e | e | e
 ·exact absurd e hq
 ·have h1:=Yfo e;have hs:(Zkx p s).st=1:=by rw [h1.1]
  refine ⟨Yae he (by omega) ?_ ?_,by rw [hs,e],h1.2⟩
  ·refine Zms ?_ ?_ ?_
   ·unfold shX;rw [hs,if_neg (by decide),h1.1];exact primL_length
   ·unfold shY;rw [hs,if_neg (by decide),h1.1];exact Zhz h.reg
   ·unfold shR;rw [hs,if_neg (by decide),h1.1];rfl
  ·unfold holdB;rw [if_pos hs];exact hold_1 he h e
 ·have h1:=Yfp e;have hs:(Zkx p s).st=2:=by rw [h1.1]
  refine ⟨Yae he (by omega) ?_ ?_,by rw [hs,e],h1.2⟩
  ·refine Zms ?_ ?_ ?_
   ·unfold shX;rw [hs,if_pos rfl,h1.1];rfl
   ·unfold shY;rw [hs,if_neg (by decide),h1.1];exact Zhz h.reg
   ·unfold shR;rw [hs,if_neg (by decide),h1.1];rfl
  ·unfold holdB;rw [if_neg (by omega),if_pos hs];exact hold_2 h ss e
 ·have h1:=Yfq e;have hs:(Zkx p s).st=3:=by rw [h1.1]
  have a:(Ydm p s).length=p.cols.length:=by unfold Ydm;exact Zm _ _
  refine ⟨Yae he (by omega) ?_ ?_,by rw [hs,e],h1.2⟩
  ·refine Zms ?_ ?_ ?_
   ·unfold shX;rw [hs,if_neg (by decide),h1.1];exact primL_length
   ·unfold shY;rw [hs,if_pos rfl,h1.1];rfl
   ·unfold shR;rw [hs,if_pos rfl,h1.1];exact a
  ·unfold holdB;rw [if_neg (by omega),if_neg (by omega)];exact hold_3 he h e
end
end Pl
end
section
namespace Pl
section
variable {p:LPd} {s:LSt}
theorem inf_no (h:Val p s) (ss:Zic p s) (hq:YR p s=2) {xs:List RF} (hx:∀j,j < p.cols.length→0≤qAt xs j) (ht:∀r,r < p.right.length→YL p xs p.cols.length r=qAt p.right r):False:=by
 have hh:=hold_2 h ss hq;unfold Zkk at hh;simp only [Bool.and_eq_true,decide_eq_true_eq] at hh;have hw:=weak (p:=⟨[],p.cols,p.right⟩) (xs:=xs) (ys:=(Zkx p s).y) (fun j hj=>by
  have:=hh.1 j hj;show Zgz (Zkx p s).y (LPd.col ⟨[],p.cols,p.right⟩ (j:Int)) p.right.length≤qAt [] j;have e:LPd.col ⟨[],p.cols,p.right⟩ (j:Int)=p.col (j:Int):=rfl;rw [e];simpa [qAt] using this) hx ht
 have e:∀n,Zbb ([]:List RF) xs n=0:=fun n=>WQ fun i _=>by show qAt [] i * _=0;rw [show qAt ([]:List RF) i=0 from rfl];grind
 have h':Zbb (Zkx p s).y p.right p.right.length≤Zbb ([]:List RF) xs p.cols.length:=hw;rw [e] at h';have:=Zjo.1 hh.2;grind
end
end Pl
end
theorem erank_any (e:Nat) (p:LPd) (s:LSt) (K i:Nat) (w:World) (h:Zvw w e p s K) (S:s.Fit p) (F:p.Ft K) (hi:i < p.right.length):
 Calls Tryz.prog 141 #[.pointer (some ⟨e,0,none⟩),.int .i64 (i:Int)] w fun o w'=>o= .returned (.int .i64 (Ygt p (s.at_ i)))∧Below w.heap.size w w':=by
 obtain ⟨Ab,cb,base,bi,gB,vz,h1,h2,h3,h4⟩:=h;obtain ⟨-,y4,-,-,-⟩:=h1.cells;obtain ⟨A,n,c,A',N,c',q,r,t,hB,-,hv,-⟩:=h1;obtain ⟨l1,l2,l3⟩:=hv.len;have y1:=hB.cellAt 1 rfl;obtain ⟨-,d,f⟩:=h2.len;obtain ⟨bb,ob,z,rfl,z0,a,u,v⟩:=h2.at_ hi;have b:Hid (s.at_ i=z):=JZ (LSt.at_eq a);have g:=S.1 i z a;have j:=F.1.cols;have k:(i:Int) < p.right.length:=by omega
 have HN:=JZ l1;have l:N≤1200:=by omega
 have m:=F.2.1;rw [b.out];rcases Int.lt_or_le z 0 with hz0 | hz0
 ·have HQ:Hid (Ygt p z=N - 1 - z):=JZ (by unfold Ygt;rw [if_neg (by omega),HN.out]);rw [HQ.out];clear h2 h3 h4 hB hv a S F l1 HQ;go_enter Tryz.func141,Tryz.ntmps141;go_wp2;go_ret;exact ⟨by go_num,JR _ _⟩
 ·have HQ:Hid (Ygt p z=z):=JZ (by unfold Ygt;rw [if_pos hz0]);rw [HQ.out];clear h2 h3 h4 hB hv a S F l1 HQ;go_enter Tryz.func141,Tryz.ntmps141;go_wp2;go_ret;exact ⟨rfl,JR _ _⟩
namespace Pl
def finL (p:LPd):LSt:=Zwh p 200 (ZB p (Zbu p))
theorem finL_val (p:LPd):Val p (finL p):=Zpf (Zvs p).settle
end Pl
namespace Pl
theorem fin_none {p:LPd} (hok:Ych p):Zkt p (finL p)=none:=run_ends hok.2.1 hok.2.2.1 (by decide)
theorem fin_stat {p:LPd} (hok:Ych p):YR p (finL p)≠0:=fun h=>run_piv (finL_val p) h (fin_none hok)
end Pl
end Go.Proofs.YtgbhebappffbdaaGreat
