/- Contracts and plain facts that the claim is built on, joined out of smaller texts; no condition. -/
import Derived.Test.YtncmobkhenfhpaaGreatB39
set_option linter.unusedVariables false
set_option linter.unusedSimpArgs false
set_option maxRecDepth 100000
set_option maxHeartbeats 40000000
namespace Go.Proofs.YtncmobkhenfhpaaGreat
open Go.RowKit
open Pl
namespace Pl
theorem cross {P:Nat→Prop}:∀{d x:Nat},P x→¬P (x+d)→∃k,x≤k∧k < x+d∧P k∧¬P (k+1)
 | 0,x,h1,h2=>absurd h1 h2
 | d+1,x,h1,h2=>by
  by_cases h:P (x+1)
  ·obtain ⟨k,a,b,c⟩:=cross (d:=d) (x:=x+1) h (by rw [show x+1+d=x+(d+1) by omega];exact h2)
   exact ⟨k,by omega,by omega,c⟩
  ·exact ⟨x,Nat.le_refl _,by omega,h1,h⟩
theorem crossR {P:Nat→Prop} {x y:Nat} (hxy:x≤y) (h1:P x) (h2:¬P y):∃k,x≤k∧k < y∧P k∧¬P (k+1):=by
 obtain ⟨k,a,b,c⟩:=cross (P:=P) (d:=y - x) (x:=x) h1 (by rw [show x+(y - x)=y by omega];exact h2)
 exact ⟨k,a,by omega,c⟩
theorem crossC {P:Nat→Prop} {a b x y:Nat} (hx:a≤x∧x≤b) (hy:a≤y∧y≤b) (hc:P a↔P b) (h1:P x) (h2:¬P y):∃k,a≤k∧k < b∧P k∧¬P (k+1):=by
 rcases Nat.lt_or_ge y x with e | e
 ·by_cases hb:P b
  ·obtain ⟨k,c1,c2,c3⟩:=crossR hy.1 (hc.2 hb) h2
   exact ⟨k,c1,by omega,c3⟩
  ·obtain ⟨k,c1,c2,c3⟩:=crossR hx.2 h1 hb
   exact ⟨k,by omega,c2,c3⟩
 ·obtain ⟨k,c1,c2,c3⟩:=crossR e h1 h2
  exact ⟨k,by omega,by omega,c3⟩
theorem greatest (J:Nat→Nat) {a:Nat}:∀{d:Nat},∃k,a≤k∧k < a+d+1∧∀l,a≤l→l < a+d+1→J l≤J k
 | 0=>⟨a,Nat.le_refl _,by omega,fun l h1 h2=>by
  obtain rfl:l=a:=by omega
  exact Nat.le_refl _⟩
 | d+1=>by
  obtain ⟨k,h1,h2,h3⟩:=greatest J (a:=a) (d:=d)
  rcases Nat.lt_or_ge (J k) (J (a+d+1)) with e | e
  ·refine ⟨a+d+1,by omega,by omega,fun l l1 l2=>?_⟩
   rcases Nat.lt_or_ge l (a+d+1) with g | g
   ·exact Nat.le_trans (h3 l l1 g) (Nat.le_of_lt e)
   ·obtain rfl:l=a+d+1:=by omega
    exact Nat.le_refl _
  ·refine ⟨k,h1,by omega,fun l l1 l2=>?_⟩
   rcases Nat.lt_or_ge l (a+d+1) with g | g
   ·exact h3 l l1 g
   ·obtain rfl:l=a+d+1:=by omega
    exact e
theorem bestN_rule {p:LPd} {s:LSt} {Z D:List RF}:∀{n t:Nat},bestN p s Z D n=some t→∀k,k < n→0 < qAt D k→ratQ Z D t < ratQ Z D k∨(ratQ Z D t=ratQ Z D k∧ordQ p (s.at_ t)≤ordQ p (s.at_ k))
 | 0,t,h,k,hk,_=>by omega
 | n+1,t,h,k,hk,hd=>by
  by_cases h0:0 < qAt D n
  ·cases hb:bestN p s Z D n with
   | none=>
    rw [bestN_first hb h0] at h
    injection h with h
    subst h
    rcases Nat.lt_or_ge k n with e | e
    ·exfalso
     have:∀{m:Nat},bestN p s Z D m=none→∀k,k < m→¬0 < qAt D k:=fun {m}=>by
      induction m with
      | zero=>intro _ k hk;omega
      | succ m ih=>
       intro hm k hk
       by_cases hq:0 < qAt D m
       ·exfalso
        cases hb2:bestN p s Z D m with
        | none=>rw [bestN_first hb2 hq] at hm;cases hm
        | some b=>
         by_cases g:better p s Z D m b
         ·rw [bestN_better hb2 hq g] at hm;cases hm
         ·rw [bestN_worse hb2 hq g] at hm;cases hm
       ·rw [bestN_skip hq] at hm
        rcases Nat.lt_or_ge k m with e' | e'
        ·exact ih hm k e'
        ·obtain rfl:k=m:=by omega
         exact hq
     exact this hb k e hd
    ·obtain rfl:k=n:=by omega
     exact .inr ⟨rfl,Int.le_refl _⟩
   | some b=>
    have ih:=bestN_rule hb
    by_cases g:better p s Z D n b
    ·rw [bestN_better hb h0 g] at h
     injection h with h
     subst h
     rcases Nat.lt_or_ge k n with e | e
     ·rcases ih k e hd with i1 | ⟨i1,i2⟩
      ·rcases g with g | ⟨g,_⟩
       ·left;grind
       ·left;rw [g];exact i1
      ·rcases g with g | ⟨g,g2⟩
       ·left;rw [← i1];exact g
       ·right;exact ⟨by rw [g,i1],by omega⟩
     ·obtain rfl:k=n:=by omega
      exact .inr ⟨rfl,Int.le_refl _⟩
    ·rw [bestN_worse hb h0 g] at h
     injection h with h
     subst h
     rcases Nat.lt_or_ge k n with e | e
     ·exact ih k e hd
     ·obtain rfl:k=n:=by omega
      have h1:¬ratQ Z D k < ratQ Z D b:=fun e=>g (.inl e)
      by_cases h2:ratQ Z D b=ratQ Z D k
      ·right
       refine ⟨h2,Int.not_lt.1 fun e=>g (.inr ⟨h2.symm,e⟩)⟩
      ·left;grind
  ·rw [bestN_skip h0] at h
   rcases Nat.lt_or_ge k n with e | e
   ·exact bestN_rule h k e hd
   ·obtain rfl:k=n:=by omega
    exact absurd hd h0
structure Stp (p:LPd) (s t:LSt) (i j:Nat):Prop where
 piv:Piv p s i j
 ent:∀l:Nat,l < j→¬redQ p s (l:Int) < 0
 eq:t=settleQ p (preS s i (j:Int))
 lv:0≤s.at_ i→0 < qAt (dirL p s (j:Int)) i∧∀k,k < p.right.length→0 < qAt (dirL p s (j:Int)) k→ratQ (zL p s) (dirL p s (j:Int)) i < ratQ (zL p s) (dirL p s (j:Int)) k∨(ratQ (zL p s) (dirL p s (j:Int)) i=ratQ (zL p s) (dirL p s (j:Int)) k∧ordQ p (s.at_ i)≤ordQ p (s.at_ k))
theorem stp_of {p:LPd} {s t:LSt} (h:Val p s) (e:pivQ p s=some t):∃i j:Nat,Stp p s t i j:=by
 by_cases hq:statQ p s=0
 ·cases hl:leavQ p s (zL p s) (statD p s) with
  | none=>rw [pivQ_2 hl] at e;cases e
  | some i=>
   obtain ⟨i',j',c,ht⟩:=piv_of h e
   rw [pivQ_3 hq hl] at e
   injection e with e
   obtain ⟨j,hje,hj,hJ,hD⟩:=run_ent hq
   rw [hJ] at e
   rw [hD] at hl
   have hdl:=dir_len h.reg (j:Int)
   have hi:i < p.right.length:=by rw [← hdl];exact leavQ_lt hl
   have hb:i < s.basis.length:=by rw [h.fit.len];exact hi
   have hb':i' < s.basis.length:=by rw [h.fit.len];exact c.hi
   -- the same pivot
   have hne:∀l,l < p.right.length→(j:Int)≠s.at_ l:=fun l hl2 e2=>by
    have h1:redQ p s (j:Int) < 0:=(firstNeg_is hje).2.2.1
    rw [e2,red_basic h.reg hl2] at h1
    exact absurd h1 (by decide)
   have hat:∀k,(preS s i (j:Int)).at_ k=(preS s i' (j':Int)).at_ k:=fun k=>by
    have:(settleQ p (preS s i (j:Int))).at_ k=(settleQ p (preS s i' (j':Int))).at_ k:=by rw [← ht,← e];rfl
    exact this
   have hii:i=i':=by
    by_cases g:i=i'
    ·exact g
    ·exfalso
     have h1:=hat i
     rw [preS_at hb,preS_at hb',if_pos rfl,if_neg g] at h1
     exact hne i hi h1
   subst hii
   have hjj:j=j':=by
    have h1:=hat i
    rw [preS_at hb,preS_at hb,if_pos rfl,if_pos rfl] at h1
    omega
   subst hjj
   refine ⟨i,j,c,fun l hl2=>(firstNeg_is hje).2.2.2 l (Nat.zero_le _) hl2,ht,fun hr=>?_⟩
   by_cases hph:s.phase=2
   ·cases hf:firstNeg (artF s (dirL p s (j:Int))) 0 (dirL p s (j:Int)).length with
    | some i2=>
     exfalso
     rw [leavQ_2 hph hf] at hl
     injection hl with hl
     subst hl
     have f3:=(firstNeg_is hf).2.2.1
     unfold artF at f3
     split at f3
     ·rename_i g;omega
     ·exact absurd f3 (by decide)
    | none=>
     rw [leavQ_3 hph hf] at hl
     exact ⟨(bestN_lt hl).2,fun k hk hd=>bestN_rule hl k (by rw [hdl];exact hk) hd⟩
   ·rw [leavQ_1 hph] at hl
    exact ⟨(bestN_lt hl).2,fun k hk hd=>bestN_rule hl k (by rw [hdl];exact hk) hd⟩
 ·rw [pivQ_1 hq] at e;cases e
theorem at_basis {s t:LSt} (h:s.basis=t.basis) (k:Nat):s.at_ k=t.at_ k:=by unfold LSt.at_;rw [h]
theorem zL_basis {p:LPd} {s t:LSt} (h:s.basis=t.basis):zL p s=zL p t:=by
 have:s.mat p=t.mat p:=by funext k;show p.col (s.at_ k)=p.col (t.at_ k);rw [at_basis h]
 unfold zL;rw [this]
theorem obj_basis {p:LPd} {s t:LSt} (ph:Int) (h:s.basis=t.basis):objQ p ph s=objQ p ph t:=by
 unfold objQ;rw [zL_basis h];exact sumN_congr fun i _=>by rw [at_basis h]
theorem Stp.at_ {p:LPd} {s t:LSt} {i j:Nat} (h:Val p s) (c:Stp p s t i j) (k:Nat):t.at_ k=if k=i then (j:Int) else s.at_ k:=by
 rw [c.eq,settle_at,preS_at (by rw [h.fit.len];exact c.piv.hi)]
theorem nocycle {p:LPd} {S:Nat→LSt} {I J:Nat→Nat} {a b:Nat} {φ:Int} (hab:a < b) (hv:∀k,a≤k→k≤b→Val p (S k)) (hs:∀k,a≤k→k < b→Stp p (S k) (S (k+1)) (I k) (J k)) (hph:∀k,a≤k→k≤b→(S k).phase=φ) (heq:(S a).basis=(S b).basis):False:=by
 have hat:∀k,a≤k→k < b→∀l,(S (k+1)).at_ l=if l=I k then (J k:Int) else (S k).at_ l:=fun k h1 h2 l=>(hs k h1 h2).at_ (hv k h1 (by omega)) l
 -- the objective stays
 have hstep:∀k,a≤k→k < b→objQ p φ (S (k+1))=objQ p φ (S k)+redQ p (S k) (J k:Int) * (qAt (zL p (S k)) (I k) / qAt (dirL p (S k) (J k:Int)) (I k)):=fun k h1 h2=>by
  have:=(hs k h1 h2).piv.obj (hv k h1 (by omega))
  rw [hph k h1 (by omega)] at this
  rw [(hs k h1 h2).eq,obj_settle];exact this
 have hle:∀k,a≤k→k < b→objQ p φ (S (k+1))≤objQ p φ (S k):=fun k h1 h2=>by
  have:=(hs k h1 h2).piv.obj_le (hv k h1 (by omega))
  rw [hph k h1 (by omega)] at this
  rw [(hs k h1 h2).eq,obj_settle];exact this
 have hdown:∀d x,a≤x→x+d≤b→objQ p φ (S (x+d))≤objQ p φ (S x):=by
  intro d
  induction d with
  | zero=>intro x _ _;exact Rat.le_refl
  | succ d ih=>
   intro x h1 h2
   have e1:=ih x h1 (by omega)
   have e2:=hle (x+d) (by omega) (by omega)
   rw [show x+(d+1)=x+d+1 by omega]
   grind
 have hends:objQ p φ (S a)=objQ p φ (S b):=obj_basis φ heq
 have hconst:∀k,a≤k→k < b→objQ p φ (S (k+1))=objQ p φ (S k):=fun k h1 h2=>by
  have e1:=hdown (k - a) a (Nat.le_refl _) (by omega)
  rw [show a+(k - a)=k by omega] at e1
  have e2:=hdown (b - (k+1)) (k+1) (by omega) (by omega)
  rw [show k+1+(b - (k+1))=b by omega] at e2
  have e3:=hle k h1 h2
  grind
 have hzero:∀k,a≤k→k < b→qAt (zL p (S k)) (I k)=0:=fun k h1 h2=>by
  have e1:=hstep k h1 h2
  rw [hconst k h1 h2] at e1
  have hr:=(hs k h1 h2).piv.red
  have e2:redQ p (S k) (J k:Int) * (qAt (zL p (S k)) (I k) / qAt (dirL p (S k) (J k:Int)) (I k))=0:=by grind
  have e3:qAt (zL p (S k)) (I k) / qAt (dirL p (S k) (J k:Int)) (I k)=0:=by
   rcases Rat.mul_eq_zero.1 e2 with g | g
   ·rw [g] at hr;exact absurd hr (by decide)
   ·exact g
  have e4:=Rat.div_mul_cancel (a:=qAt (zL p (S k)) (I k)) (hs k h1 h2).piv.d0
  rw [e3] at e4
  grind
 -- the basic values stay
 have hZ:∀k,a≤k→k < b→∀l,l < p.right.length→qAt (zL p (S (k+1))) l=qAt (zL p (S k)) l:=fun k h1 h2 l hl=>by
  obtain ⟨_,z1,z2⟩:=(hs k h1 h2).piv.z (hv k h1 (by omega))
  rw [(hs k h1 h2).eq,settle_zL]
  by_cases e:l=I k
  ·rw [e,z1,hzero k h1 h2];simp [Rat.div_def]
  ·rw [z2 l hl e,hzero k h1 h2];simp [Rat.div_def];grind
 have hZc:∀d x,a≤x→x+d≤b→∀l,l < p.right.length→qAt (zL p (S (x+d))) l=qAt (zL p (S x)) l:=by
  intro d
  induction d with
  | zero=>intro x _ _ l _;rfl
  | succ d ih=>
   intro x h1 h2 l hl
   rw [show x+(d+1)=x+d+1 by omega,hZ (x+d) (by omega) (by omega) l hl]
   exact ih x h1 (by omega) l hl
 have hZa:∀x y,a≤x→x≤b→a≤y→y≤b→∀l,l < p.right.length→qAt (zL p (S x)) l=qAt (zL p (S y)) l:=fun x y h1 h2 h3 h4 l hl=>by
  have e1:=hZc (x - a) a (Nat.le_refl _) (by omega) l hl
  have e2:=hZc (y - a) a (Nat.le_refl _) (by omega) l hl
  rw [show a+(x - a)=x by omega] at e1
  rw [show a+(y - a)=y by omega] at e2
  rw [e1,e2]
 -- the greatest column that enters
 obtain ⟨k0,k01,k02,hmax⟩:=greatest J (a:=a) (d:=b - a - 1)
 rw [show a+(b - a - 1)+1=b by omega] at k02 hmax
 have hc:∀l u,((S a).at_ l=u)↔((S b).at_ l=u):=fun l u=>by rw [at_basis heq]
 have hnb:∀k,a≤k→k < b→∀l,l < p.right.length→(S k).at_ l≠(J k:Int):=fun k h1 h2 l hl e=>by
  have hr:=(hs k h1 h2).piv.red
  rw [← e,red_basic (hv k h1 (by omega)).reg hl] at hr
  exact absurd hr (by decide)
 -- it leaves somewhere
 obtain ⟨k1,k11,k12,hq1,hq2⟩:=crossC (P:=fun k=>(S k).at_ (I k0)=(J k0:Int)) (a:=a) (b:=b) (x:=k0+1) (y:=k0) ⟨by omega,by omega⟩ ⟨by omega,by omega⟩ (hc _ _) (by
  show (S (k0+1)).at_ (I k0)=_
  rw [hat k0 k01 k02,if_pos rfl]) (hnb k0 k01 k02 _ (hs k0 k01 k02).piv.hi)
 have hI1:I k1=I k0:=by
  by_cases g:I k0=I k1
  ·exact g.symm
  ·exfalso
   refine hq2 ?_
   show (S (k1+1)).at_ (I k0)=_
   rw [hat k1 k11 k12,if_neg g];exact hq1
 have hq1':(S k1).at_ (I k1)=(J k0:Int):=by rw [hI1];exact hq1
 have hrq:J k1 < J k0:=by
  have e1:=hmax k1 k11 k12
  have e2:J k1≠J k0:=fun e=>hnb k1 k11 k12 (I k1) (hs k1 k11 k12).piv.hi (by rw [hq1',e])
  omega
 have v0:=hv k0 k01 (by omega)
 have v1:=hv k1 k11 (by omega)
 have p0:=hph k0 k01 (by omega)
 have p1:=hph k1 k11 (by omega)
 -- the reduced costs of the one in the basis of the other
 have hsum:redQ p (S k1) (J k1:Int)=redQ p (S k0) (J k1:Int) - sumN (fun k=>redQ p (S k0) ((S k1).at_ k) * qAt (dirL p (S k1) (J k1:Int)) k) p.right.length:=by
  rw [red_eq v1.reg,red_eq v0.reg,ydot_dir v1.reg,p0,p1]
  have e1:ydot p (S k0) (J k1:Int)=sumN (fun k=>ydot p (S k0) ((S k1).at_ k) * qAt (dirL p (S k1) (J k1:Int)) k) p.right.length:=by
   unfold ydot
   rw [sumN_congr (g:=fun r=>sumN (fun k=>qAt (dirL p (S k1) (J k1:Int)) k * (p.col ((S k1).at_ k) r * qAt (dualL p (S k0)) r)) p.right.length) fun r hr=>by
    rw [← dir_spec v1.reg (J k1:Int) r hr]
    unfold mulC
    rw [Rat.mul_comm,← sumN_mul]
    exact sumN_congr fun k _=>by show _ * (p.col ((S k1).at_ k) r * _)=_;grind]
   rw [sumN_swap]
   exact sumN_congr fun k _=>by rw [sumN_mul];grind
  have e2:sumN (fun k=>redQ p (S k0) ((S k1).at_ k) * qAt (dirL p (S k1) (J k1:Int)) k) p.right.length=sumN (fun k=>costQ p φ ((S k1).at_ k) * qAt (dirL p (S k1) (J k1:Int)) k - ydot p (S k0) ((S k1).at_ k) * qAt (dirL p (S k1) (J k1:Int)) k) p.right.length:=sumN_congr fun k _=>by
   rw [red_eq v0.reg,p0];grind
  rw [e2,sumN_sub,← e1]
  grind
 have hex:∃k,k < p.right.length∧0 < redQ p (S k0) ((S k1).at_ k) * qAt (dirL p (S k1) (J k1:Int)) k:=by
  by_cases g:∃k,k < p.right.length∧0 < redQ p (S k0) ((S k1).at_ k) * qAt (dirL p (S k1) (J k1:Int)) k
  ·exact g
  ·exfalso
   have h1:sumN (fun k=>redQ p (S k0) ((S k1).at_ k) * qAt (dirL p (S k1) (J k1:Int)) k) p.right.length≤sumN (fun _=>0) p.right.length:=sumN_le fun k hk=>Rat.not_lt.1 fun e=>g ⟨k,hk,e⟩
   rw [sumN_const0] at h1
   have h2:=(hs k1 k11 k12).piv.red
   have h3:=(hs k0 k01 k02).ent (J k1) hrq
   grind
 obtain ⟨k,hk,hpos⟩:=hex
 -- the column u at place k
 have hu:∀l,l < p.right.length→(S k0).at_ l≠(S k1).at_ k:=fun l hl e=>by
  rw [← e,red_basic v0.reg hl] at hpos
  simp at hpos
 obtain ⟨k2,k21,k22,hu1,hu2⟩:=crossC (P:=fun x=>¬(S x).at_ k=(S k1).at_ k) (a:=a) (b:=b) (x:=k0) (y:=k1) ⟨k01,by omega⟩ ⟨k11,by omega⟩ (not_congr (hc _ _)) (hu k hk) (fun g=>g rfl)
 have hu2':(S (k2+1)).at_ k=(S k1).at_ k:=Classical.byContradiction hu2
 have hI2:k=I k2:=by
  by_cases g:k=I k2
  ·exact g
  ·exfalso
   rw [hat k2 k21 k22,if_neg g] at hu2'
   exact hu1 hu2'
 have huJ:(S k1).at_ k=(J k2:Int):=by rw [← hu2',hat k2 k21 k22,if_pos hI2]
 have hzk:qAt (zL p (S k1)) k=0:=by
  rw [hZa k1 k2 k11 (by omega) k21 (by omega) k hk,hI2];exact hzero k2 k21 k22
 obtain ⟨hd1,hrule⟩:=(hs k1 k11 k12).lv (by rw [hq1'];omega)
 have hred0:=(hs k0 k01 k02).piv.red
 have hlt:J k2 < J k0:=by
  have e1:=hmax k2 k21 k22
  have e2:J k2≠J k0:=fun e=>by
   have hkI:k=I k1:=by
    by_cases g:k=I k1
    ·exact g
    ·exfalso
     have e3:(S k1).at_ k=(S k1).at_ (I k1):=by rw [huJ,hq1',e]
     rcases Nat.lt_or_ge k (I k1) with g2 | g2
     ·exact v1.dup (I k1) (hs k1 k11 k12).piv.hi k g2 e3.symm
     ·exact v1.dup k hk (I k1) (by omega) e3
   rw [huJ,e,hkI] at hpos
   have:0≤ -redQ p (S k0) (J k0:Int) * qAt (dirL p (S k1) (J k1:Int)) (I k1):=Rat.mul_nonneg (by grind) (Rat.le_of_lt hd1)
   grind
  omega
 have hgu:=(hs k0 k01 k02).ent (J k2) hlt
 rw [huJ] at hpos
 have hdk:0 < qAt (dirL p (S k1) (J k1:Int)) k:=by
  by_cases g:0 < qAt (dirL p (S k1) (J k1:Int)) k
  ·exact g
  ·exfalso
   have:0≤redQ p (S k0) (J k2:Int) * -qAt (dirL p (S k1) (J k1:Int)) k:=Rat.mul_nonneg (by grind) (by grind)
   grind
 have r1:ratQ (zL p (S k1)) (dirL p (S k1) (J k1:Int)) (I k1)=0:=by unfold ratQ;rw [hzero k1 k11 k12];simp [Rat.div_def]
 have r2:ratQ (zL p (S k1)) (dirL p (S k1) (J k1:Int)) k=0:=by unfold ratQ;rw [hzk];simp [Rat.div_def]
 rcases hrule k hk hdk with g | ⟨_,g⟩
 ·rw [r1,r2] at g;exact absurd g (by decide)
 ·rw [hq1',huJ] at g
  unfold ordQ at g
  rw [if_pos (by omega),if_pos (by omega)] at g
  omega
theorem phase_basis {p:LPd} {s t:LSt} (hs:Val p s) (ht:Val p t) (ss:Settled p s) (st:Settled p t) (h:s.basis=t.basis):s.phase=t.phase:=by
 have key:∀u,Val p u→Settled p u→(u.phase=2↔∀i,i < p.right.length→u.at_ i < 0→qAt (zL p u) i=0):=fun u hu su=>by
  refine ⟨hu.art,fun e=>?_⟩
  have h1:artN u (zL p u) (zL p u).length=false:=artN_of fun k hk ha=>e k (by rw [← z_len hu.reg];exact hk) ha
  have h2:(settleQ p u).phase=u.phase:=congrArg LSt.phase su
  rw [← h2]
  show (if artN u (zL p u) (zL p u).length=true then u.phase else 2)=2
  rw [h1,if_neg (by decide)]
 have e1:=key s hs ss
 have e2:=key t ht st
 have e3:(∀i,i < p.right.length→s.at_ i < 0→qAt (zL p s) i=0)↔(∀i,i < p.right.length→t.at_ i < 0→qAt (zL p t) i=0):=by
  rw [zL_basis h]
  exact ⟨fun g i hi ha=>g i hi (by rw [at_basis h];exact ha),fun g i hi ha=>g i hi (by rw [← at_basis h];exact ha)⟩
 have e4:s.phase=2↔t.phase=2:=by rw [e1,e2,e3]
 have:=hs.ph
 have:=ht.ph
 omega
theorem run_states {p:LPd} {s:LSt} (h:Val p s) (ss:Settled p s) (k:Nat):Val p (runL p k s)∧Settled p (runL p k s):=⟨runL_val h,runL_settled ss⟩
theorem run_once {p:LPd} {s:LSt} (h:Val p s) (ss:Settled p s) {n:Nat} (hr:∀k,k < n→pivQ p (runL p k s)≠none) {a b:Nat} (hab:a < b) (hb:b≤n):(runL p a s).basis≠(runL p b s).basis:=by
 intro heq
 have hstep:∀k,k < n→pivQ p (runL p k s)=some (runL p (k+1) s):=fun k hk=>by
  cases e:pivQ p (runL p k s) with
  | none=>exact absurd e (hr k hk)
  | some t=>rw [runL_add (a:=k) (b:=1),runL_step e];rfl
 have hst:∀k,∃i j:Nat,k < n→Stp p (runL p k s) (runL p (k+1) s) i j:=fun k=>by
  by_cases hk:k < n
  ·obtain ⟨i,j,c⟩:=stp_of (run_states h ss k).1 (hstep k hk)
   exact ⟨i,j,fun _=>c⟩
  ·exact ⟨0,0,fun g=>absurd g hk⟩
 have hI:∃I:Nat→Nat,∀k,∃j:Nat,k < n→Stp p (runL p k s) (runL p (k+1) s) (I k) j:=⟨fun k=>(hst k).choose,fun k=>(hst k).choose_spec⟩
 obtain ⟨I,hI⟩:=hI
 have hJ:∃J:Nat→Nat,∀k,k < n→Stp p (runL p k s) (runL p (k+1) s) (I k) (J k):=⟨fun k=>(hI k).choose,fun k=>(hI k).choose_spec⟩
 obtain ⟨J,hJ⟩:=hJ
 have hmono:∀d x,x+d≤n→(runL p x s).phase≤(runL p (x+d) s).phase:=fun d x _=>by
  rw [runL_add];exact runL_phase (run_states h ss x).1
 have hpe:(runL p a s).phase=(runL p b s).phase:=phase_basis (run_states h ss a).1 (run_states h ss b).1 (run_states h ss a).2 (run_states h ss b).2 heq
 refine nocycle (p:=p) (S:=fun k=>runL p k s) (I:=I) (J:=J) (φ:=(runL p a s).phase) hab (fun k _ _=>(run_states h ss k).1) (fun k h1 h2=>hJ k (by omega)) (fun k h1 h2=>?_) heq
 have e1:=hmono (k - a) a (by omega)
 have e2:=hmono (b - k) k (by omega)
 rw [show a+(k - a)=k by omega] at e1
 rw [show k+(b - k)=b by omega] at e2
 show (runL p k s).phase=_
 omega
theorem phase1_pos {p:LPd} {s:LSt} (h:Reg p s) (h1:s.phase=1) {j:Nat} (hr:redQ p s (j:Int) < 0):∃i,i < p.right.length∧0 < qAt (dirL p s (j:Int)) i:=by
 by_cases g:∃i,i < p.right.length∧0 < qAt (dirL p s (j:Int)) i
 ·exact g
 ·exfalso
  rw [red_eq h,ydot_dir h,h1] at hr
  have hc:costQ p 1 (j:Int)=0:=costQ_none (by omega) (by omega)
  have hs:sumN (fun i=>costQ p 1 (s.at_ i) * qAt (dirL p s (j:Int)) i) p.right.length≤sumN (fun _=>0) p.right.length:=sumN_le fun i hi=>by
   have hd:qAt (dirL p s (j:Int)) i≤0:=Rat.not_lt.1 fun e=>g ⟨i,hi,e⟩
   by_cases ha:s.at_ i < 0
   ·rw [costQ_art ha];grind
   ·rw [costQ_none (by omega) (by omega)];grind
  rw [sumN_const0] at hs
  rw [hc] at hr
  grind
theorem bestN_some {p:LPd} {s:LSt} {Z D:List RF}:∀{n k:Nat},k < n→0 < qAt D k→bestN p s Z D n≠none
 | 0,k,h,_=>by omega
 | n+1,k,h,hd=>by
  by_cases h0:0 < qAt D n
  ·cases hb:bestN p s Z D n with
   | none=>rw [bestN_first hb h0];simp
   | some b=>
    by_cases g:better p s Z D n b
    ·rw [bestN_better hb h0 g];simp
    ·rw [bestN_worse hb h0 g];simp
  ·rw [bestN_skip h0]
   exact bestN_some (k:=k) (by
    rcases Nat.lt_or_ge k n with e | e
    ·exact e
    ·obtain rfl:k=n:=by omega
     exact absurd hd h0) hd
theorem firstNeg_nil {f:Nat→Rat}:∀{n r:Nat},firstNeg f r n=none→∀i,r≤i→i < r+n→¬f i < 0
 | 0,r,_,i,h1,h2=>by omega
 | n+1,r,hr,i,h1,h2=>by
  unfold firstNeg at hr
  split at hr
  ·cases hr
  ·rename_i g
   rcases Nat.eq_or_lt_of_le h1 with e | e
   ·subst e;exact g
   ·exact firstNeg_nil hr i (by omega) (by omega)
theorem stuckN_true {s:LSt} {D:List RF}:∀{n:Nat},s.phase=2→(∀k,k < n→¬(0 < qAt D k∨(s.at_ k < 0∧qAt D k≠0)))→stuckN s D n=true
 | 0,h,_=>by simp [stuckN,h]
 | n+1,h,hk=>by unfold stuckN;rw [if_neg (hk n (by omega))];exact stuckN_true h fun k hk'=>hk k (by omega)
theorem run_piv {p:LPd} {s:LSt} (h:Val p s) (hq:statQ p s=0):pivQ p s≠none:=by
 obtain ⟨j,hje,hj,hJ,hD⟩:=run_ent hq
 have hdl:=dir_len h.reg (j:Int)
 have hred:redQ p s (j:Int) < 0:=(firstNeg_is hje).2.2.1
 have hl:leavQ p s (zL p s) (statD p s)≠none:=by
  rw [hD]
  by_cases hph:s.phase=2
  ·cases hf:firstNeg (artF s (dirL p s (j:Int))) 0 (dirL p s (j:Int)).length with
   | some i=>rw [leavQ_2 hph hf];simp
   | none=>
    rw [leavQ_3 hph hf]
    by_cases g:∃i,i < p.right.length∧0 < qAt (dirL p s (j:Int)) i
    ·obtain ⟨i,hi,hd⟩:=g
     exact bestN_some (k:=i) (by rw [hdl];exact hi) hd
    ·exfalso
     have hst:=stuckN_true (D:=dirL p s (j:Int)) (n:=(dirL p s (j:Int)).length) hph fun k hk e=>by
      rcases e with e | ⟨e1,e2⟩
      ·exact g ⟨k,by rw [← hdl];exact hk,e⟩
      ·exact firstNeg_nil hf k (Nat.zero_le _) (by omega) (artF_yes e1 e2)
     rw [(stat_some hje).1,hst] at hq
     exact absurd hq (by decide)
  ·have h1:s.phase=1:=by have:=h.ph;omega
   rw [leavQ_1 hph]
   obtain ⟨i,hi,hd⟩:=phase1_pos h.reg h1 hred
   exact bestN_some (k:=i) (by rw [hdl];exact hi) hd
 cases e:leavQ p s (zL p s) (statD p s) with
 | none=>exact absurd e hl
 | some i=>rw [pivQ_3 hq e];simp
end Pl
namespace Pl
def vc (c:Nat):Bool:=(c % 6==0 || (c % 6 !=c / 6 % 6 && c % 6 !=c / 36)) && (c / 6 % 6==0 || c / 6 % 6 !=c / 36)
def rk:Nat→Nat
 | 0=>0
 | c+1=>rk c+(if vc c then 1 else 0)
theorem rk_mono:∀(d c:Nat),rk c≤rk (c+d)
 | 0,c=>Nat.le_refl _
 | d+1,c=>Nat.le_trans (rk_mono d c) (by rw [← Nat.add_assoc];show rk (c+d)≤rk (c+d)+_;omega)
theorem rk_lt {c d:Nat} (h:c < d) (hc:vc c=true):rk c < rk d:=by
 have h1:=rk_mono (d - (c+1)) (c+1)
 rw [show c+1+(d - (c+1))=d by omega] at h1
 have h2:rk (c+1)=rk c+1:=by show rk c+_=_;rw [if_pos hc]
 omega
theorem rk_inj {c d:Nat} (hc:vc c=true) (hd:vc d=true) (h:rk c=rk d):c=d:=by
 rcases Nat.lt_trichotomy c d with e | e | e
 ·have:=rk_lt e hc;omega
 ·exact e
 ·have:=rk_lt e hd;omega
theorem rk_all:rk 216=136:=by decide
theorem rk_bd {c:Nat} (h:c < 216) (hc:vc c=true):rk c < 136:=by have:=rk_lt h hc;rw [rk_all] at this;exact this
def digB (s:LSt) (i:Nat):Nat:=(s.at_ i+1).toNat
def codeB (s:LSt):Nat:=digB s 0+6 * digB s 1+36 * digB s 2
structure Root (p:LPd) (s:LSt):Prop where
 at_:∀i,i < p.right.length→s.at_ i= -1 - (i:Int)∨0≤s.at_ i
 out:∀i,p.right.length≤i→s.at_ i=0
theorem root_start (p:LPd):Root p (startS p):=⟨fun i hi=> .inl (startS_at hi),fun i hi=>by
 unfold LSt.at_
 have:(startS p).basis.length≤i:=by show (artL _).length≤i;rw [artL_length];exact hi
 simp [List.getD,List.getElem?_eq_none this]⟩
theorem Root.settle {p:LPd} {s:LSt} (h:Root p s):Root p (settleQ p s):=⟨h.at_,h.out⟩
theorem Root.piv {p:LPd} {s t:LSt} (h:Root p s) (hv:Val p s) (e:pivQ p s=some t):Root p t:=by
 obtain ⟨i,j,c,rfl⟩:=piv_of hv e
 have hb:i < s.basis.length:=by rw [hv.fit.len];exact c.hi
 have:Root p (preS s i (j:Int)):=⟨fun k hk=>by
  rw [preS_at hb]
  by_cases g:k=i
  ·rw [if_pos g];right;omega
  ·rw [if_neg g];exact h.at_ k hk,fun k hk=>by
  rw [preS_at hb,if_neg (by have:=c.hi;omega)];exact h.out k hk⟩
 exact this.settle
theorem Root.run {p:LPd}:∀{n:Nat} {s:LSt},Root p s→Val p s→Root p (runL p n s)
 | 0,_,h,_=>h
 | n+1,s,h,hv=>by
  cases e:pivQ p s with
  | none=>rw [runL_stop e];exact h
  | some t=>rw [runL_step e];exact (h.piv hv e).run (pivQ_val hv e)
theorem dig_lt {p:LPd} {s:LSt} (h:Root p s) (hv:Val p s) (hn:p.cols.length≤5) (i:Nat):digB s i < 6∧(i < p.right.length→(digB s i=0↔s.at_ i < 0)):=by
 unfold digB
 rcases Nat.lt_or_ge i p.right.length with hi | hi
 ·have hib:i < s.basis.length:=by rw [hv.fit.len];exact hi
  have h1:=hv.fit.in_ i _ (List.getElem?_eq_getElem hib)
  rw [← LSt.at_eq (List.getElem?_eq_getElem hib)] at h1
  have h2:=h.at_ i hi
  exact ⟨by omega,fun _=>by omega⟩
 ·rw [h.out i hi]
  exact ⟨by decide,fun g=>by omega⟩
theorem code_inj {p:LPd} {s t:LSt} (h:Root p s) (hv:Val p s) (g:Root p t) (gv:Val p t) (hm:p.right.length≤3) (hn:p.cols.length≤5) (e:codeB s=codeB t):s.basis=t.basis:=by
 have a0:=(dig_lt h hv hn 0).1
 have a1:=(dig_lt h hv hn 1).1
 have b0:=(dig_lt g gv hn 0).1
 have b1:=(dig_lt g gv hn 1).1
 unfold codeB at e
 have e0:digB s 0=digB t 0:=by omega
 have e1:digB s 1=digB t 1:=by omega
 have e2:digB s 2=digB t 2:=by omega
 have key:∀i,i < p.right.length→digB s i=digB t i→s.at_ i=t.at_ i:=fun i hi hd=>by
  have h1:=h.at_ i hi
  have h2:=g.at_ i hi
  unfold digB at hd
  omega
 refine List.ext_getElem? fun i=>?_
 rcases Nat.lt_or_ge i p.right.length with hi | hi
 ·have hs:i < s.basis.length:=by rw [hv.fit.len];exact hi
  have ht:i < t.basis.length:=by rw [gv.fit.len];exact hi
  have:s.at_ i=t.at_ i:=by
   have:i=0∨i=1∨i=2:=by omega
   rcases this with rfl | rfl | rfl
   ·exact key 0 hi e0
   ·exact key 1 hi e1
   ·exact key 2 hi e2
  rw [LSt.at_eq (List.getElem?_eq_getElem hs),LSt.at_eq (List.getElem?_eq_getElem ht)] at this
  rw [List.getElem?_eq_getElem hs,List.getElem?_eq_getElem ht,this]
 ·rw [List.getElem?_eq_none (by rw [hv.fit.len];exact hi),List.getElem?_eq_none (by rw [gv.fit.len];exact hi)]
def codeV (p:LPd) (s:LSt):Nat:=(if 0 < p.right.length then digB s 0 else 0)+6 * (if 1 < p.right.length then digB s 1 else 0)+36 * (if 2 < p.right.length then digB s 2 else 0)
theorem codeV_ok {p:LPd} {s:LSt} (h:Root p s) (hv:Val p s) (hn:p.cols.length≤5):codeV p s < 216∧vc (codeV p s)=true:=by
 have a0:=dig_lt h hv hn 0
 have a1:=dig_lt h hv hn 1
 have a2:=dig_lt h hv hn 2
 obtain ⟨d0,h0⟩:∃d,d=(if 0 < p.right.length then digB s 0 else 0):=⟨_,rfl⟩
 obtain ⟨d1,h1⟩:∃d,d=(if 1 < p.right.length then digB s 1 else 0):=⟨_,rfl⟩
 obtain ⟨d2,h2⟩:∃d,d=(if 2 < p.right.length then digB s 2 else 0):=⟨_,rfl⟩
 have l0:d0 < 6:=by rw [h0];split <;> omega
 have l1:d1 < 6:=by rw [h1];split <;> omega
 have l2:d2 < 6:=by rw [h2];split <;> omega
 have hne:∀a b,a < b→b < p.right.length→digB s a≠0→digB s a≠digB s b:=fun a b hab hb h0' e=>by
  have c1:=h.at_ a (by omega)
  have c2:=h.at_ b hb
  have c3:=hv.dup b hb a hab
  unfold digB at h0' e
  omega
 have n01:d0=0∨d0≠d1:=by
  rw [h0,h1]
  by_cases g0:0 < p.right.length
  ·rw [if_pos g0]
   by_cases g1:1 < p.right.length
   ·rw [if_pos g1]
    by_cases z:digB s 0=0
    ·exact .inl z
    ·exact .inr (hne 0 1 (by omega) g1 z)
   ·rw [if_neg g1];omega
  ·rw [if_neg g0];exact .inl rfl
 have n02:d0=0∨d0≠d2:=by
  rw [h0,h2]
  by_cases g0:0 < p.right.length
  ·rw [if_pos g0]
   by_cases g1:2 < p.right.length
   ·rw [if_pos g1]
    by_cases z:digB s 0=0
    ·exact .inl z
    ·exact .inr (hne 0 2 (by omega) g1 z)
   ·rw [if_neg g1];omega
  ·rw [if_neg g0];exact .inl rfl
 have n12:d1=0∨d1≠d2:=by
  rw [h1,h2]
  by_cases g0:1 < p.right.length
  ·rw [if_pos g0]
   by_cases g1:2 < p.right.length
   ·rw [if_pos g1]
    by_cases z:digB s 1=0
    ·exact .inl z
    ·exact .inr (hne 1 2 (by omega) g1 z)
   ·rw [if_neg g1];omega
  ·rw [if_neg g0];exact .inl rfl
 have e:codeV p s=d0+6 * d1+36 * d2:=by unfold codeV;rw [h0,h1,h2]
 rw [e]
 refine ⟨by omega,?_⟩
 unfold vc
 rw [show (d0+6 * d1+36 * d2) % 6=d0 by omega,show (d0+6 * d1+36 * d2) / 6 % 6=d1 by omega,show (d0+6 * d1+36 * d2) / 36=d2 by omega]
 simp only [Bool.and_eq_true,Bool.or_eq_true,beq_iff_eq,bne_iff_ne]
 exact ⟨by
  rcases n01 with z | z
  ·exact .inl z
  ·rcases n02 with y | y
   ·exact .inl y
   ·exact .inr ⟨z,y⟩,n12⟩
theorem codeV_inj {p:LPd} {s t:LSt} (h:Root p s) (hv:Val p s) (g:Root p t) (gv:Val p t) (hm:p.right.length≤3) (hn:p.cols.length≤5) (e:codeV p s=codeV p t):s.basis=t.basis:=by
 refine code_inj h hv g gv hm hn ?_
 have a:∀i,digB s i < 6:=fun i=>(dig_lt h hv hn i).1
 have b:∀i,digB t i < 6:=fun i=>(dig_lt g gv hn i).1
 have o:∀i,p.right.length≤i→digB s i=digB t i:=fun i hi=>by unfold digB;rw [h.out i hi,g.out i hi]
 have x0:=a 0
 have x1:=a 1
 have x2:=a 2
 have y0:=b 0
 have y1:=b 1
 have y2:=b 2
 unfold codeV at e
 unfold codeB
 have:p.right.length=0∨p.right.length=1∨p.right.length=2∨p.right.length=3:=by omega
 rcases this with q | q | q | q
 ·rw [o 0 (by omega),o 1 (by omega),o 2 (by omega)]
 ·rw [o 1 (by omega),o 2 (by omega)];rw [q] at e;simp at e;omega
 ·rw [o 2 (by omega)];rw [q] at e;simp at e;omega
 ·rw [q] at e;simp at e;omega
theorem run_ends {p:LPd} (hm:p.right.length≤3) (hn:p.cols.length≤5) {N:Nat} (hN:136≤N):pivQ p (runL p N (settleQ p (startS p)))=none:=by
 have v0:=(start_val p).settle
 have s0:Settled p (settleQ p (startS p)):=settled_settle
 have r0:=(root_start p).settle
 by_cases hr:∃k,k < N∧pivQ p (runL p k (settleQ p (startS p)))=none
 ·obtain ⟨k,hk,e⟩:=hr
  rw [show N=k+(N - k) by omega,runL_add,runL_stop e];exact e
 ·exfalso
  have hall:∀k,k < N→pivQ p (runL p k (settleQ p (startS p)))≠none:=fun k hk e=>hr ⟨k,hk,e⟩
  obtain ⟨i,j,hij,hj,he⟩:=pigeon 136 (N+1) (fun k=>rk (codeV p (runL p k (settleQ p (startS p))))) (by omega) fun k _=>by
   obtain ⟨c1,c2⟩:=codeV_ok (r0.run (n:=k) v0) (run_states v0 s0 k).1 hn
   exact rk_bd c1 c2
  have c1:=codeV_ok (r0.run (n:=i) v0) (run_states v0 s0 i).1 hn
  have c2:=codeV_ok (r0.run (n:=j) v0) (run_states v0 s0 j).1 hn
  have:=codeV_inj (r0.run (n:=i) v0) (run_states v0 s0 i).1 (r0.run (n:=j) v0) (run_states v0 s0 j).1 hm hn (rk_inj c1.2 c2.2 he)
  exact run_once v0 s0 hall hij (by omega) this
end Pl
section
namespace Pl
structure Scaled (f:Rat) (p q:LPd):Prop where
 pos:0 < f
 cols:q.cols=p.cols
 right:q.right=p.right
 cost:∀j,qAt q.cost j=f * qAt p.cost j
section
variable {p q:LPd} {f:Rat} {s:LSt}
theorem Scaled.col (h:Scaled f p q) (j:Int):q.col j=p.col j:=by unfold LPd.col;rw [h.cols,h.right]
theorem Scaled.mat (h:Scaled f p q):s.mat q=s.mat p:=by funext k;exact h.col _
theorem Scaled.zL (h:Scaled f p q):zL q s=zL p s:=by unfold Pl.zL;rw [h.mat,h.right]
theorem Scaled.dirL (h:Scaled f p q) (j:Int):dirL q s j=dirL p s j:=by unfold Pl.dirL;rw [h.mat,h.right,h.col]
theorem Scaled.settle (h:Scaled f p q):settleQ q s=settleQ p s:=by unfold settleQ;rw [h.zL]
theorem Scaled.start (h:Scaled f p q):startS q=startS p:=by unfold startS;rw [h.right]
theorem Scaled.cost1 (_h:Scaled f p q) (j:Int):costQ q 1 j=costQ p 1 j:=by
 unfold costQ
 by_cases g:j < 0
 ·rw [if_pos ⟨rfl,g⟩,if_pos ⟨rfl,g⟩]
 ·rw [if_neg (by omega),if_neg (by omega),if_neg (by omega),if_neg (by omega)]
theorem Scaled.cost2 (h:Scaled f p q) (j:Int):costQ q 2 j=f * costQ p 2 j:=by
 by_cases g:0≤j
 ·rw [costQ_real g,costQ_real g,h.cost]
 ·rw [costQ_none (by omega) (by omega),costQ_none (by omega) (by omega)];grind
theorem Scaled.val (h:Scaled f p q) (v:Val p s):Val q s:=by
 refine ⟨⟨?_,?_⟩,v.ph,v.pv,?_,?_,?_,?_⟩
 ·intro i z hz
  rw [h.right,h.cols];exact v.fit.1 i z hz
 ·rw [h.right];exact v.fit.2
 ·rw [h.right];exact v.dup
 ·unfold Reg;rw [h.right,h.mat];exact v.reg
 ·rw [h.right,h.zL];exact v.pos
 ·rw [h.right,h.zL];exact v.art
theorem Scaled.red (h:Scaled f p q) (v:Val p s) (j:Int):redQ q s j=(if s.phase=2 then f else 1) * redQ p s j:=by
 have v':=h.val v
 rw [red_eq v'.reg,red_eq v.reg,ydot_dir v'.reg,ydot_dir v.reg,h.right,h.dirL]
 rcases v.ph with e | e
 ·rw [e,if_neg (by decide),h.cost1]
  rw [sumN_congr (g:=fun i=>costQ p 1 (s.at_ i) * qAt (Pl.dirL p s j) i) fun i _=>by rw [h.cost1]]
  grind
 ·rw [e,if_pos rfl,h.cost2]
  rw [sumN_congr (g:=fun i=>f * (costQ p 2 (s.at_ i) * qAt (Pl.dirL p s j) i)) fun i _=>by rw [h.cost2];grind,sumN_mul]
  grind
theorem Scaled.red_neg (h:Scaled f p q) (v:Val p s) (j:Int):redQ q s j < 0↔redQ p s j < 0:=by
 rw [h.red v]
 have hp:=h.pos
 split
 ·constructor
  ·intro g
   by_cases e:redQ p s j < 0
   ·exact e
   ·exfalso
    have:0≤f * redQ p s j:=Rat.mul_nonneg (Rat.le_of_lt hp) (by grind)
    grind
  ·intro g
   have:0 < f * -redQ p s j:=Rat.mul_pos hp (by grind)
   grind
 ·constructor <;> intro g <;> grind
theorem firstNeg_congr {f g:Nat→Rat}:∀{n r:Nat},(∀i,f i < 0↔g i < 0)→firstNeg f r n=firstNeg g r n
 | 0,_,_=>rfl
 | n+1,r,h=>by
  unfold firstNeg
  rw [firstNeg_congr h]
  by_cases e:f r < 0
  ·rw [if_pos e,if_pos ((h r).1 e)]
  ·rw [if_neg e,if_neg fun g=>e ((h r).2 g)]
theorem Scaled.ent (h:Scaled f p q) (v:Val p s):entQ q s=entQ p s:=by
 unfold entQ;rw [h.cols];exact firstNeg_congr fun j=>h.red_neg v _
theorem Scaled.stat (h:Scaled f p q) (v:Val p s):statQ q s=statQ p s∧statJ q s=statJ p s∧statD q s=statD p s:=by
 have e:=h.ent v
 cases he:entQ p s with
 | none=>
  rw [he] at e
  have a:=stat_none e
  have b:=stat_none he
  rw [a.1,a.2.1,a.2.2,b.1,b.2.1,b.2.2];exact ⟨rfl,rfl,rfl⟩
 | some j=>
  rw [he] at e
  have a:=stat_some e
  have b:=stat_some he
  rw [a.1,a.2.1,a.2.2,b.1,b.2.1,b.2.2,h.dirL];exact ⟨rfl,rfl,rfl⟩
theorem Scaled.ord (h:Scaled f p q) (j:Int):ordQ q j=ordQ p j:=by unfold ordQ;rw [h.cols]
theorem Scaled.better (h:Scaled f p q) {Z D:List RF} {i b:Nat}:better q s Z D i b↔better p s Z D i b:=by unfold Pl.better;rw [h.ord,h.ord]
theorem Scaled.best (h:Scaled f p q) {Z D:List RF}:∀n,bestN q s Z D n=bestN p s Z D n
 | 0=>rfl
 | n+1=>by
  have ih:bestN q s Z D n=bestN p s Z D n:=Scaled.best h n
  by_cases h0:0 < qAt D n
  ·cases hb:bestN p s Z D n with
   | none=>rw [bestN_first hb h0,bestN_first (ih.trans hb) h0]
   | some b=>
    by_cases g:Pl.better p s Z D n b
    ·rw [bestN_better hb h0 g,bestN_better (ih.trans hb) h0 (h.better.2 g)]
    ·rw [bestN_worse hb h0 g,bestN_worse (ih.trans hb) h0 fun e=>g (h.better.1 e)]
  ·rw [bestN_skip h0,bestN_skip h0,ih]
theorem Scaled.leav (h:Scaled f p q) (Z D:List RF):leavQ q s Z D=leavQ p s Z D:=by unfold leavQ;rw [h.best]
theorem Scaled.piv (h:Scaled f p q) (v:Val p s):pivQ q s=pivQ p s:=by
 obtain ⟨a,b,c⟩:=h.stat v
 unfold pivQ
 rw [a,b,c,h.zL,h.leav]
 by_cases e:statQ p s=0
 ·rw [if_pos e,if_pos e]
  cases leavQ p s (Pl.zL p s) (statD p s) with
  | none=>rfl
  | some i=>simp only;rw [h.settle]
 ·rw [if_neg e,if_neg e]
theorem Scaled.run (h:Scaled f p q):∀{n:Nat} {s:LSt},Val p s→runL q n s=runL p n s
 | 0,_,_=>rfl
 | n+1,s,v=>by
  have e:=h.piv v
  cases he:pivQ p s with
  | none=>rw [runL_stop he,runL_stop (e.trans he)]
  | some t=>rw [runL_step he,runL_step (e.trans he)];exact h.run (pivQ_val v he)
theorem Scaled.obj (h:Scaled f p q):objQ q 2 s=f * objQ p 2 s:=by
 unfold objQ
 rw [h.right,h.zL,← sumN_mul]
 exact sumN_congr fun i _=>by rw [h.cost2];grind
end
end Pl
end
section
namespace Pl
section
variable {p:LPd} {s:LSt}
structure Perm (p:LPd) (s t:LSt) (F:Nat→Nat):Prop where
 inj:Inj p.right.length p.right.length F
 at_:∀i,i < p.right.length→t.at_ i=s.at_ (F i)
theorem Perm.mat {t:LSt} {F:Nat→Nat} (c:Perm p s t F) {i:Nat} (hi:i < p.right.length):t.mat p i=s.mat p (F i):=by
 show p.col (t.at_ i)=p.col (s.at_ (F i));rw [c.at_ i hi]
theorem Perm.reg {t:LSt} {F:Nat→Nat} (c:Perm p s t F) (h:Reg p s):Reg p t:=by
 intro y hy k hk
 have hg:∃g:Nat→Rat,∀i,i < p.right.length→g (F i)=y i:=by
  refine ⟨fun j=>sumN (fun i=>if F i=j then y i else 0) p.right.length,fun i hi=>?_⟩
  show sumN (fun i'=>if F i'=F i then y i' else 0) p.right.length=y i
  rw [sumN_single hi fun i' hi' hne=>if_neg fun e=>hne (c.inj.eq hi' hi e),if_pos rfl]
 obtain ⟨g,hg⟩:=hg
 have:∀r,r < p.right.length→mulC p.right.length (s.mat p) g r=0:=fun r hr=>by
  rw [← hy r hr]
  unfold mulC
  rw [← sumN_perm c.inj (fun j=>s.mat p j r * g j)]
  exact sumN_congr fun i hi=>by rw [c.mat hi,hg i hi]
 rw [← hg k hk]
 exact h g this (F k) (c.inj.1 k hk)
theorem Perm.z {t:LSt} {F:Nat→Nat} (c:Perm p s t F) (h:Reg p s):∀i,i < p.right.length→qAt (zL p t) i=qAt (zL p s) (F i):=by
 refine z_uniq (c.reg h) (x:=fun i=>qAt (zL p s) (F i)) fun r hr=>?_
 rw [← z_spec h r hr]
 unfold mulC
 rw [← sumN_perm c.inj (fun j=>s.mat p j r * qAt (zL p s) j)]
 exact sumN_congr fun i hi=>by rw [c.mat hi]
theorem Perm.obj {t:LSt} {F:Nat→Nat} (c:Perm p s t F) (h:Reg p s) (ph:Int):objQ p ph t=objQ p ph s:=by
 unfold objQ
 rw [← sumN_perm c.inj (fun j=>costQ p ph (s.at_ j) * qAt (zL p s) j)]
 exact sumN_congr fun i hi=>by rw [c.at_ i hi,c.z h i hi]
theorem Perm.val {t:LSt} {F:Nat→Nat} (c:Perm p s t F) (h:Val p s) (hl:t.basis.length=p.right.length) (hp:t.phase=s.phase) (hv:0≤t.pivots):Val p t:=by
 refine ⟨⟨fun i z hz=>?_,hl⟩,by rw [hp];exact h.ph,hv,fun i hi k hk=>?_,c.reg h.reg,fun i hi=>?_,fun e i hi ha=>?_⟩
 ·have hi:i < p.right.length:=by rw [← hl];exact (List.getElem?_eq_some_iff.1 hz).1
  rw [← LSt.at_eq hz,c.at_ i hi]
  have hF:=c.inj.1 i hi
  have hF':F i < s.basis.length:=by rw [h.fit.len];exact hF
  rw [LSt.at_eq (List.getElem?_eq_getElem hF')]
  exact h.fit.in_ (F i) _ (List.getElem?_eq_getElem hF')
 ·rw [c.at_ i hi,c.at_ k (by omega)]
  have hne:=c.inj.2 k i hk hi
  rcases Nat.lt_or_ge (F i) (F k) with g | g
  ·exact fun e=>h.dup (F k) (c.inj.1 k (by omega)) (F i) g e.symm
  ·exact h.dup (F i) (c.inj.1 i hi) (F k) (by omega)
 ·rw [c.z h.reg i hi];exact h.pos _ (c.inj.1 i hi)
 ·rw [c.z h.reg i hi]
  rw [c.at_ i hi] at ha
  exact h.art (by rw [← hp];exact e) _ (c.inj.1 i hi) ha
end
end Pl
end
end Go.Proofs.YtncmobkhenfhpaaGreat
