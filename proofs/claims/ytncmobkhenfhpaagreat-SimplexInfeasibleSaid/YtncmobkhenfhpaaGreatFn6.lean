/- Contracts that the claim is built on; no condition. -/
import Derived.Test.YtncmobkhenfhpaaGreatFn5
set_option linter.unusedVariables false
set_option linter.unusedSimpArgs false
set_option maxRecDepth 100000
set_option maxHeartbeats 40000000
namespace Go.Proofs.YtncmobkhenfhpaaGreat
open Go.RowKit
open Pl
attribute [local go_sem ↓] Go.wp_at_zero Go.wp_at_succ
section
namespace Pl
section
variable {p:LPd} {s:LSt}
theorem obj_dual (h:Reg p s):ZQ (fun r=>qAt p.right r * qAt (Ww p s) r) p.right.length=Zhp p s.phase s:=Zto h (Ztk h)
end
end Pl
end
section
namespace Pl
section
variable {p:LPd} {s:LSt}
theorem primN_none {Z:List RF} {j:Nat}:∀{k:Nat},(∀l,l < k→s.at_ l≠(j:Int))→primN s Z k j=0
 | 0,_=>rfl
 | k+1,h=>by rw [primN_succ,if_neg (h k (by omega))];exact primN_none fun l hl=>h l (by omega)
theorem prim_sum {n m:Nat} {Z:List RF} (hin:∀l,l < m→s.at_ l < n) (hdup:∀i,i < m→∀k,k < i→s.at_ i≠s.at_ k) (f:Nat→Rat):∀k,k≤m→ZQ (fun j=>primN s Z k j * f j) n=ZQ (fun l=>if 0≤s.at_ l then qAt Z l * f (s.at_ l).toNat else 0) k
 | 0,_=>by rw [YG];exact WP fun j _=>by show (0:Rat) * f j=0;grind
 | k+1,hk=>by
  rw [ZF,← prim_sum hin hdup f k (by omega)]
  by_cases h0:0≤s.at_ k
  ·rw [if_pos h0]
   obtain ⟨j0,hj0⟩:=Int.eq_ofNat_of_zero_le h0
   have hj:j0 < n:=by have:=hin k (by omega);omega
   rw [hj0,Int.toNat_natCast]
   have e:ZQ (fun j=>primN s Z (k+1) j * f j) n=ZQ (fun j=>primN s Z k j * f j+(if j=j0 then qAt Z k * f j0 else 0)) n:=Zj fun j _=>by
    rw [primN_succ,hj0]
    by_cases g:j=j0
    ·subst g
     rw [if_pos rfl,if_pos rfl,primN_none fun l hl e=>hdup k (by omega) l hl (by rw [hj0,e])];grind
    ·rw [if_neg (by omega),if_neg g];grind
   rw [e,XU,XV hj]
  ·rw [if_neg h0]
   have e:ZQ (fun j=>primN s Z (k+1) j * f j) n=ZQ (fun j=>primN s Z k j * f j) n:=Zj fun j _=>by rw [primN_succ,if_neg (by omega)]
   rw [e];grind
theorem primN_pos {Z:List RF} (h:∀k,0≤qAt Z k):∀(k j:Nat),0≤primN s Z k j
 | 0,j=>by show (0:Rat)≤0;exact Rat.le_refl
 | k+1,j=>by
  rw [primN_succ];split
  ·exact h k
  ·exact primN_pos h k j
theorem Val.range (h:Val p s):∀l,l < p.right.length→s.at_ l < p.cols.length:=fun l hl=>by
 have hl':l < s.basis.length:=by rw [h.fit.len];exact hl
 rw [LSt.at_eq (List.getElem?_eq_getElem hl')]
 exact (h.fit.in_ l _ (List.getElem?_eq_getElem hl')).2
theorem prim_at (j:Nat) (hj:j < p.cols.length):qAt (primL p s) j=primN s (zL p s) (zL p s).length j:=by unfold primL;exact YL hj
theorem prim_value (h:Val p s):Yec p.cost (primL p s) p.cols.length=Zhp p 2 s:=by
 unfold Yec;rw [Zj (g:=fun j=>primN s (zL p s) (zL p s).length j * qAt p.cost j) fun j hj=>by rw [prim_at j hj];grind,prim_sum (m:=p.right.length) h.range h.dup _ _ (by rw [Zma h.reg];exact Nat.le_refl _),Zma h.reg];unfold Zhp;exact Zj fun l _=>by
  by_cases g:0≤s.at_ l
  ·rw [if_pos g,Zfl g];grind
  ·rw [if_neg g,Zfm (by omega) (by omega)];grind
theorem prim_times (h:Val p s) (h2:s.phase=2):∀r,r < p.right.length→timesQ p (primL p s) p.cols.length r=qAt p.right r:=fun r hr=>by
 unfold timesQ
 rw [Zj (g:=fun j=>primN s (zL p s) (zL p s).length j * p.col (j:Int) r) fun j hj=>by rw [prim_at j hj],prim_sum (m:=p.right.length) h.range h.dup (fun j=>p.col (j:Int) r) _ (by rw [Zma h.reg];exact Nat.le_refl _),Zma h.reg,← Ztk h.reg r hr]
 unfold Y7
 exact Zj fun l hl=>by
  show _=p.col (s.at_ l) r * _
  by_cases g:0≤s.at_ l
  ·rw [if_pos g,Int.toNat_of_nonneg g];grind
  ·rw [if_neg g,h.art h2 l hl (by omega)];grind
theorem z_pos (h:Val p s) (k:Nat):0≤qAt (zL p s) k:=by
 rcases Nat.lt_or_ge k p.right.length with e | e
 ·exact h.pos k e
 ·rw [qAt_none (by rw [Zma h.reg];exact e)];exact Rat.le_refl
theorem qs_nonneg {q:Rat} (h:0≤q):0≤qs q:=Int.not_lt.1 fun g=>by have:=Zda.1 g;grind
theorem primL_length:(primL p s).length=p.cols.length:=by unfold primL;exact Zn _ _
theorem ent_none (hq:Zwy p s=none):∀j,j < p.cols.length→0≤Zbh p s (j:Int):=fun j hj=>Rat.not_lt.1 (firstNeg_nil hq j (Nat.zero_le _) (by omega))
theorem ydot_dotC (j:Int):Ydy p s j=Zzw (Ww p s) (p.col j) p.right.length:=Zj fun r _=>by grind
theorem dual_right (h:Val p s):Yec (Ww p s) p.right p.right.length=Zhp p s.phase s:=by
 rw [← obj_dual h.reg];exact Zj fun r _=>by grind
theorem stat_1 (h:XD p s=1):Zwy p s=none∧s.phase≠1:=by
 cases e:Zwy p s with
 | none=>
  rw [(Zaa e).1] at h;refine ⟨rfl,fun g=>?_⟩;rw [if_pos g] at h;omega
 | some j=>rw [(VT e).1] at h;split at h <;> omega
theorem stat_2 (h:XD p s=2):Zwy p s=none∧s.phase=1:=by
 cases e:Zwy p s with
 | none=>
  rw [(Zaa e).1] at h;by_cases g:s.phase=1
  ·exact ⟨rfl,g⟩
  ·rw [if_neg g] at h;omega
 | some j=>rw [(VT e).1] at h;split at h <;> omega
theorem stuckN_is {D:List RF}:∀{n:Nat},Vw s D n=true→s.phase=2∧∀k,k < n→¬(0 < qAt D k∨(s.at_ k < 0∧qAt D k≠0))
 | 0,h=>⟨by simpa [Vw] using h,fun k hk=>by omega⟩
 | n+1,h=>by
  unfold Vw at h
  split at h
  ·cases h
  ·rename_i g
   obtain ⟨h1,h2⟩:=stuckN_is h
   refine ⟨h1,fun k hk=>?_⟩
   rcases Nat.lt_or_ge k n with e | e
   ·exact h2 k e
   ·obtain rfl:k=n:=by omega
    exact g
theorem stat_3 (h:XD p s=3):∃j:Nat,Zwy p s=some j∧j < p.cols.length∧Zbh p s (j:Int) < 0∧U9 p s=(j:Int)∧Zau p s=dirL p s (j:Int)∧s.phase=2∧∀k,k < (dirL p s (j:Int)).length→¬(0 < qAt (dirL p s (j:Int)) k∨(s.at_ k < 0∧qAt (dirL p s (j:Int)) k≠0)):=by
 cases e:Zwy p s with
 | none=>rw [(Zaa e).1] at h;split at h <;> omega
 | some j=>
  have h1:=VT e;rw [h1.1] at h;split at h
  ·rename_i g
   obtain ⟨g1,g2⟩:=stuckN_is g;have h2:=XC e;exact ⟨j,rfl,by omega,h2.2.2.1,h1.2.1,h1.2.2,g1,g2⟩
  ·omega
theorem art_pos (h:Val p s) (ss:Zhr p s) (h1:s.phase=1):0 < Zhp p 1 s:=by
 have ha:Zbm s (zL p s) (zL p s).length=true:=by
  cases e:Zbm s (zL p s) (zL p s).length with
  | true=>rfl
  | false=>
   have h2:(Zr p s).phase=s.phase:=congrArg LSt.phase ss;have h3:(Zr p s).phase=2:=(by show (if Zbm s (zL p s) (zL p s).length=true then s.phase else 2)=2;rw [e,if_neg (by decide)]);omega
 have c:∃k,k < p.right.length∧s.at_ k < 0∧qAt (zL p s) k≠0:=by
  by_cases g:∃k,k < p.right.length∧s.at_ k < 0∧qAt (zL p s) k≠0
  ·exact g
  ·exfalso;rw [Zho fun k hk b=>by
    by_cases e:qAt (zL p s) k=0
    ·exact e
    ·exact absurd ⟨k,by rw [← Zma h.reg];exact hk,b,e⟩ g] at ha
   cases ha
 obtain ⟨k,hk,b,f⟩:=c;have a:∀i,i < p.right.length→0≤XI p 1 (s.at_ i) * qAt (zL p s) i:=fun i hi=>by
  have:=h.pos i hi;by_cases g:s.at_ i < 0
  ·rw [Zsr g];grind
  ·rw [Zfm (by omega) (by omega)];grind
 have d:XI p 1 (s.at_ k) * qAt (zL p s) k≤Zhp p 1 s:=by
  unfold Zhp;rw [← XV hk (XI p 1 (s.at_ k) * qAt (zL p s) k)];exact sumN_le fun i hi=>by
   by_cases g:i=k
   ·rw [if_pos g,g];exact Rat.le_refl
   ·rw [if_neg g];exact a i hi
 rw [Zsr b] at d;have:=h.pos k hk;grind
theorem hold_2 (h:Val p s) (ss:Zhr p s) (hq:XD p s=2):hold2 p (extP p s)=true:=by
 obtain ⟨h1,h2⟩:=stat_2 hq;rw [(ext_2 hq).1];unfold hold2;simp only [Bool.and_eq_true,decide_eq_true_eq];refine ⟨fun j hj=>?_,?_⟩
 ·have:=ent_none h1 j hj;rw [Ycz h.reg,h2,Zfm (by omega) (by omega),ydot_dotC] at this;show Zzw (Ww p s) _ _≤0;grind
 ·show 0 < qs (Yec (Ww p s) p.right p.right.length);rw [dual_right h,h2];exact UW.2 (art_pos h ss h2)
end
end Pl
end
section
namespace Pl
section
variable {p:LPd} {s:LSt}
theorem inf_no (h:Val p s) (ss:Zhr p s) (hq:XD p s=2) {xs:List RF} (hx:∀j,j < p.cols.length→0≤qAt xs j) (ht:∀r,r < p.right.length→timesQ p xs p.cols.length r=qAt p.right r):False:=by
 have hh:=hold_2 h ss hq;unfold hold2 at hh;simp only [Bool.and_eq_true,decide_eq_true_eq] at hh;have hw:=weak (p:=⟨[],p.cols,p.right⟩) (xs:=xs) (ys:=(extP p s).y) (fun j hj=>by
  have:=hh.1 j hj;show Zzw (extP p s).y (LPd.col ⟨[],p.cols,p.right⟩ (j:Int)) p.right.length≤qAt [] j;have e:LPd.col ⟨[],p.cols,p.right⟩ (j:Int)=p.col (j:Int):=rfl;rw [e];simpa [qAt] using this) hx ht
 have e:∀n,Yec ([]:List RF) xs n=0:=fun n=>WP fun i _=>by show qAt [] i * _=0;rw [show qAt ([]:List RF) i=0 from rfl];grind
 have h':Yec (extP p s).y p.right p.right.length≤Yec ([]:List RF) xs p.cols.length:=hw;rw [e] at h';have:=UW.1 hh.2;grind
theorem Perm.mat {t:LSt} {F:Nat→Nat} (c:Perm p s t F) {i:Nat} (hi:i < p.right.length):t.mat p i=s.mat p (F i):=by
 show p.col (t.at_ i)=p.col (s.at_ (F i));rw [c.at_ i hi]
theorem Perm.reg {t:LSt} {F:Nat→Nat} (c:Perm p s t F) (h:Reg p s):Reg p t:=by
 intro y hy k hk;have hg:∃g:Nat→Rat,∀i,i < p.right.length→g (F i)=y i:=by
  refine ⟨fun j=>ZQ (fun i=>if F i=j then y i else 0) p.right.length,fun i hi=>?_⟩;show ZQ (fun i'=>if F i'=F i then y i' else 0) p.right.length=y i;rw [YT hi fun i' hi' hne=>if_neg fun e=>hne (c.inj.eq hi' hi e),if_pos rfl]
 obtain ⟨g,hg⟩:=hg;have:∀r,r < p.right.length→Y7 p.right.length (s.mat p) g r=0:=fun r hr=>by
  rw [← hy r hr];unfold Y7;rw [← UY c.inj (fun j=>s.mat p j r * g j)];exact Zj fun i hi=>by rw [c.mat hi,hg i hi]
 rw [← hg k hk];exact h g this (F k) (c.inj.1 k hk)
theorem Perm.z {t:LSt} {F:Nat→Nat} (c:Perm p s t F) (h:Reg p s):∀i,i < p.right.length→qAt (zL p t) i=qAt (zL p s) (F i):=by
 refine Zyk (c.reg h) (x:=fun i=>qAt (zL p s) (F i)) fun r hr=>?_
 rw [← Ztk h r hr];unfold Y7;rw [← UY c.inj (fun j=>s.mat p j r * qAt (zL p s) j)];exact Zj fun i hi=>by rw [c.mat hi]
theorem Perm.obj {t:LSt} {F:Nat→Nat} (c:Perm p s t F) (h:Reg p s) (ph:Int):Zhp p ph t=Zhp p ph s:=by
 unfold Zhp;rw [← UY c.inj (fun j=>XI p ph (s.at_ j) * qAt (zL p s) j)];exact Zj fun i hi=>by rw [c.at_ i hi,c.z h i hi]
theorem Perm.val {t:LSt} {F:Nat→Nat} (c:Perm p s t F) (h:Val p s) (hl:t.basis.length=p.right.length) (hp:t.phase=s.phase) (hv:0≤t.pivots):Val p t:=by
 refine ⟨⟨fun i z hz=>?_,hl⟩,by rw [hp];exact h.ph,hv,fun i hi k hk=>?_,c.reg h.reg,fun i hi=>?_,fun e i hi ha=>?_⟩
 ·have hi:i < p.right.length:=by rw [← hl];exact (List.getElem?_eq_some_iff.1 hz).1
  rw [← LSt.at_eq hz,c.at_ i hi];have hF:=c.inj.1 i hi;have a:F i < s.basis.length:=by rw [h.fit.len];exact hF
  rw [LSt.at_eq (List.getElem?_eq_getElem a)];exact h.fit.in_ (F i) _ (List.getElem?_eq_getElem a)
 ·rw [c.at_ i hi,c.at_ k (by omega)];have b:=c.inj.2 k i hk hi;rcases Nat.lt_or_ge (F i) (F k) with g | g
  ·exact fun e=>h.dup (F k) (c.inj.1 k (by omega)) (F i) g e.symm
  ·exact h.dup (F i) (c.inj.1 i hi) (F k) (by omega)
 ·rw [c.z h.reg i hi];exact h.pos _ (c.inj.1 i hi)
 ·rw [c.z h.reg i hi];rw [c.at_ i hi] at ha;exact h.art (by rw [← hp];exact e) _ (c.inj.1 i hi) ha
theorem sort3 (m:Nat) (hm:m≤3) (a:Nat→Int) (hd:∀i,i < m→∀k,k < i→a i≠a k):∃F:Nat→Nat,Inj m m F∧∀i,0 < i→i < m→a (F (i - 1)) < a (F i):=by
 have mk:∀x y z:Nat,Inj m m (fun i=>if i=0 then x else if i=1 then y else z)→(1 < m→a x < a y)→(2 < m→a y < a z)→∃F:Nat→Nat,Inj m m F∧∀i,0 < i→i < m→a (F (i - 1)) < a (F i):=fun x y z hF h1 h2=>⟨_,hF,fun i hi him=>by
  have:i=1∨i=2:=by omega
  rcases this with rfl | rfl
  ·simpa using h1 him
  ·simpa using h2 him⟩
 have b:∀x y z:Nat,(0 < m→x < m)→(1 < m→y < m)→(2 < m→z < m)→(1 < m→x≠y)→(2 < m→x≠z)→(2 < m→y≠z)→Inj m m (fun i=>if i=0 then x else if i=1 then y else z):=fun x y z hx hy hz h1 h2 h3=>⟨fun i hi=>by
  have:i=0∨i=1∨i=2:=by omega
  rcases this with rfl | rfl | rfl
  ·simpa using hx hi
  ·simpa using hy hi
  ·simpa using hz hi,fun i k hik hk=>by
  have:(i=0∧k=1)∨(i=0∧k=2)∨(i=1∧k=2):=by omega
  rcases this with ⟨rfl,rfl⟩ | ⟨rfl,rfl⟩ | ⟨rfl,rfl⟩
  ·simpa using h1 hk
  ·simpa using h2 hk
  ·simpa using h3 hk⟩
 have c:m=0∨m=1∨m=2∨m=3:=by omega
 rcases c with rfl | rfl | rfl | rfl
 ·exact ⟨fun i=>i,⟨fun i hi=>hi,fun i k h1 h2=>by omega⟩,fun i h1 h2=>by omega⟩
 ·exact ⟨fun i=>i,⟨fun i hi=>hi,fun i k h1 h2=>by omega⟩,fun i h1 h2=>by omega⟩
 ·have d:=hd 1 (by omega) 0 (by omega);rcases Int.lt_or_le (a 0) (a 1) with e | e
  ·exact mk 0 1 2 (b 0 1 2 (by omega) (by omega) (by omega) (by omega) (by omega) (by omega)) (fun _=>e) (by omega)
  ·exact mk 1 0 2 (b 1 0 2 (by omega) (by omega) (by omega) (by omega) (by omega) (by omega)) (fun _=>by omega) (by omega)
 ·have f:=hd 1 (by omega) 0 (by omega);have g:=hd 2 (by omega) 0 (by omega);have h:=hd 2 (by omega) 1 (by omega);rcases Int.lt_or_le (a 0) (a 1) with e1 | e1 <;> rcases Int.lt_or_le (a 1) (a 2) with e2 | e2 <;> rcases Int.lt_or_le (a 0) (a 2) with e3 | e3
  ·exact mk 0 1 2 (b 0 1 2 (by omega) (by omega) (by omega) (by omega) (by omega) (by omega)) (fun _=>e1) (fun _=>e2)
  ·exfalso;omega
  ·exact mk 0 2 1 (b 0 2 1 (by omega) (by omega) (by omega) (by omega) (by omega) (by omega)) (fun _=>e3) (fun _=>by omega)
  ·exact mk 2 0 1 (b 2 0 1 (by omega) (by omega) (by omega) (by omega) (by omega) (by omega)) (fun _=>by omega) (fun _=>e1)
  ·exact mk 1 0 2 (b 1 0 2 (by omega) (by omega) (by omega) (by omega) (by omega) (by omega)) (fun _=>by omega) (fun _=>e3)
  ·exact mk 1 2 0 (b 1 2 0 (by omega) (by omega) (by omega) (by omega) (by omega) (by omega)) (fun _=>e2) (fun _=>by omega)
  ·exfalso;omega
  ·exact mk 2 1 0 (b 2 1 0 (by omega) (by omega) (by omega) (by omega) (by omega) (by omega)) (fun _=>by omega) (fun _=>by omega)
theorem sorted_state (h:Val p s) (h2:s.phase=2) (hm:p.right.length≤3):∃t:LSt,Val p t∧t.phase=2∧t.pivots=0∧(∀i,0 < i→i < p.right.length→t.at_ (i - 1) < t.at_ i)∧Zhp p 2 t=Zhp p 2 s:=by
 obtain ⟨F,hF,ho⟩:=sort3 p.right.length hm s.at_ h.dup;have a:∀i,i < p.right.length→(LSt.mk 2 ((List.range p.right.length).map fun i=>s.at_ (F i)) 0).at_ i=s.at_ (F i):=fun i hi=>LSt.at_eq (by simp [hi])
 have c:Perm p s ⟨2,(List.range p.right.length).map fun i=>s.at_ (F i),0⟩ F:=⟨hF,a⟩;refine ⟨⟨2,(List.range p.right.length).map fun i=>s.at_ (F i),0⟩,c.val h (by simp) h2.symm (Int.le_refl _),rfl,rfl,fun i h1 h2=>?_,c.obj h.reg 2⟩;rw [a i h2,a (i - 1) (by omega)];exact ho i h1 h2
end
end Pl
end
namespace Pl
def solB (p:LPd) (x:Nat):List Int:=(List.range p.right.length).map fun i:Nat=>((x / (p.cols.length+p.right.length)^i % (p.cols.length+p.right.length):Nat):Int) - p.right.length
def solS (p:LPd) (x:Nat):LSt:=⟨2,solB p x,0⟩
def incN (l:List Int):Nat→Bool
 | 0=>true
 | i+1=>incN l i && (decide (i=0) || decide (l.getD (i - 1) 0 < l.getD i 0))
def solG (p:LPd) (x:Nat):Bool:=incN (solB p x) p.right.length && decide (vsErr p (solS p x)=0)
def solN (p:LPd):Nat→Option Rat
 | 0=>none
 | x+1=>if solG p x=true then (match solN p x with
  | none=>some (Zhp p 2 (solS p x))
  | some b=>if Zhp p 2 (solS p x) < b then some (Zhp p 2 (solS p x)) else some b) else solN p x
def solC (p:LPd):Nat:=(p.cols.length+p.right.length)^p.right.length
theorem incN_all {l:List Int}:∀{n:Nat},(∀i,0 < i→i < n→l.getD (i - 1) 0 < l.getD i 0)→incN l n=true
 | 0,_=>rfl
 | n+1,h=>by
  unfold incN
  rw [incN_all fun i h0 h1=>h i h0 (by omega)]
  by_cases e:n=0
  ·simp [e]
  ·simp only [Bool.true_and,Bool.or_eq_true,decide_eq_true_eq];exact .inr (h n (by omega) (by omega))
theorem solN_none {p:LPd}:∀{n:Nat},solN p n=none→∀x,x < n→solG p x=false
 | 0,_=>fun x h=>by omega
 | n+1,e=>fun x hx=>by
  unfold solN at e
  by_cases g:solG p n=true
  ·rw [if_pos g] at e
   cases h:solN p n with
   | none=>rw [h] at e;cases e
   | some b=>rw [h] at e;by_cases q:Zhp p 2 (solS p n) < b <;> simp [q] at e
  ·rw [if_neg g] at e
   by_cases q:x=n
   ·subst q;simpa using g
   ·exact solN_none e x (by omega)
theorem solN_some {p:LPd}:∀{n:Nat} {b:Rat},solN p n=some b→(∃x,x < n∧solG p x=true∧b=Zhp p 2 (solS p x))∧∀x,x < n→solG p x=true→b≤Zhp p 2 (solS p x)
 | 0,_,e=>by cases e
 | n+1,b,e=>by
  unfold solN at e
  by_cases g:solG p n=true
  ·rw [if_pos g] at e
   cases h:solN p n with
   | none=>
    rw [h] at e
    injection e with e
    refine ⟨⟨n,by omega,g,e.symm⟩,fun x hx hg=>?_⟩
    by_cases q:x=n
    ·subst q;rw [e];exact Rat.le_refl
    ·rw [solN_none h x (by omega)] at hg;cases hg
   | some c=>
    obtain ⟨⟨y,hy,gy,ey⟩,hm⟩:=solN_some h
    rw [h] at e
    by_cases q:Zhp p 2 (solS p n) < c
    ·simp only [q,if_true] at e
     injection e with e
     refine ⟨⟨n,by omega,g,e.symm⟩,fun x hx hg=>?_⟩
     by_cases r:x=n
     ·subst r;rw [e];exact Rat.le_refl
     ·have:=hm x (by omega) hg;grind
    ·simp only [q,if_false] at e
     injection e with e
     subst e
     refine ⟨⟨y,by omega,gy,ey⟩,fun x hx hg=>?_⟩
     by_cases r:x=n
     ·subst r;grind
     ·exact hm x (by omega) hg
  ·rw [if_neg g] at e
   obtain ⟨⟨y,hy,gy,ey⟩,hm⟩:=solN_some e
   refine ⟨⟨y,by omega,gy,ey⟩,fun x hx hg=>?_⟩
   by_cases r:x=n
   ·subst r;exact absurd hg g
   ·exact hm x (by omega) hg
theorem num_of {B:Nat} (hB:0 < B):∀{m:Nat} (d:Nat→Nat),(∀i,i < m→d i < B)→∃x,x < B^m∧∀i,i < m→x / B^i % B=d i
 | 0,_,_=>⟨0,by simp,fun i h=>by omega⟩
 | m+1,d,h=>by
  obtain ⟨x,hx,hd⟩:=num_of hB (m:=m) (fun i=>d (i+1)) fun i hi=>h (i+1) (by omega)
  have h0:=h 0 (by omega)
  refine ⟨d 0+B * x,?_,fun i hi=>?_⟩
  ·rw [Nat.pow_succ,Nat.mul_comm (B^m) B]
   have:B * (x+1)≤B * B^m:=Nat.mul_le_mul_left B hx
   rw [Nat.mul_add] at this
   omega
  ·cases i with
   | zero=>rw [Nat.pow_zero,Nat.div_one,Nat.add_mul_mod_self_left];exact Nat.mod_eq_of_lt h0
   | succ i=>
    rw [Nat.pow_succ,Nat.mul_comm (B^i) B,← Nat.div_div_eq_div_mul,Nat.add_mul_div_left _ _ hB,Nat.div_eq_of_lt h0,Nat.zero_add]
    exact hd i (by omega)
theorem sol_num {p:LPd} {t:LSt} (h:Val p t) (h2:t.phase=2) (h0:t.pivots=0) (hi:∀i,0 < i→i < p.right.length→t.at_ (i - 1) < t.at_ i) (hm:0 < p.right.length):∃x,x < solC p∧solS p x=t∧solG p x=true:=by
 have hr:∀i,i < p.right.length→ -(p.right.length:Int)≤t.at_ i∧t.at_ i < p.cols.length:=fun i hi=>by
  have hb:=h.fit.len;have a:i < t.basis.length:=by omega
  have:=h.fit.in_ i _ (List.getElem?_eq_getElem a);rw [LSt.at_eq (List.getElem?_eq_getElem a)];exact this
 obtain ⟨x,hx,hd⟩:=num_of (B:=p.cols.length+p.right.length) (by omega) (m:=p.right.length) (fun i=>(t.at_ i+p.right.length).toNat) fun i hi=>by have:=hr i hi;omega
 have e:solB p x=t.basis:=by
  refine List.ext_getElem (by simp [solB,h.fit.len]) fun i h1 h3=>?_
  have a:i < p.right.length:=by simpa [solB] using h1
  simp only [solB,List.getElem_map,List.getElem_range];rw [hd i a];have:=hr i a;have e2:t.at_ i=t.basis[i]:=LSt.at_eq (List.getElem?_eq_getElem h3);rw [← e2];omega
 have e3:solS p x=t:=by unfold solS;rw [e];cases t;simp at h2 h0 ⊢;exact ⟨h2.symm,h0.symm⟩
 refine ⟨x,hx,e3,?_⟩;unfold solG;rw [e3,h.vs,e,incN_all fun i h0 h1=>hi i h0 h1];rfl
theorem solG_val {p:LPd} {x:Nat} (h:solG p x=true):Val p (solS p x):=by
 unfold solG at h;simp at h;exact Ztm h.2
theorem sol_inf {p:LPd} (hok:Zya p) (hm:0 < p.right.length):XD p (Zub p)=2↔solN p (solC p)=none:=by
 have hv:=Znz p;have hs:Zhr p (Zub p):=Zxg p;have a:=hok.2.1;constructor
 ·intro h
  cases e:solN p (solC p) with
  | none=>rfl
  | some b=>
   obtain ⟨⟨x,_,g,_⟩,_⟩:=solN_some e;have v:=solG_val g;exact (inf_no hv hs h (xs:=primL p (solS p x)) (fun j hj=>by rw [prim_at j hj];exact primN_pos (z_pos v) _ _) (prim_times v rfl)).elim
 ·intro e;rcases statQ_cases p (Zub p) with h | h | h | h
  ·exact absurd h (fin_stat hok)
  ·exfalso;have hp:(Zub p).phase=2:=(by have:=(stat_1 h).2;have:=hv.ph;omega);obtain ⟨t,vt,t1,t2,t3,_⟩:=sorted_state hv hp a;obtain ⟨x,hx,_,g⟩:=sol_num vt t1 t2 t3 hm;rw [solN_none e x hx] at g;cases g
  ·exact h
  ·exfalso;obtain ⟨_,_,_,_,_,_,hp,_⟩:=stat_3 h;obtain ⟨t,vt,t1,t2,t3,_⟩:=sorted_state hv hp a;obtain ⟨x,hx,_,g⟩:=sol_num vt t1 t2 t3 hm;rw [solN_none e x hx] at g;cases g
end Pl
section
namespace Pl
theorem solB_length {p:LPd} {x:Nat}:(solB p x).length=p.right.length:=by simp [solB]
theorem solB_get {p:LPd} {x i:Nat} (h:i < p.right.length):(solB p x)[i]? =some (((x / (p.cols.length+p.right.length)^i % (p.cols.length+p.right.length):Nat):Int) - p.right.length):=by simp [solB,h]
theorem incN_next {l:List Int} {n:Nat}:incN l (n+1)=(incN l n && (decide (n=0) || decide (l.getD (n - 1) 0 < l.getD n 0))):=rfl
theorem solN_skip {p:LPd} {x:Nat} (h:solG p x=false):solN p (x+1)=solN p x:=by
 show (if solG p x=true then _ else _)=_;rw [if_neg (by rw [h];simp)]
theorem solN_first {p:LPd} {x:Nat} (h:solG p x=true) (e:solN p x=none):solN p (x+1)=some (Zhp p 2 (solS p x)):=by
 show (if solG p x=true then _ else _)=_;rw [if_pos h,e]
theorem solN_less {p:LPd} {x:Nat} {b:Rat} (h:solG p x=true) (e:solN p x=some b) (hl:Zhp p 2 (solS p x) < b):solN p (x+1)=some (Zhp p 2 (solS p x)):=by
 show (if solG p x=true then _ else _)=_;rw [if_pos h,e];simp [hl]
theorem solN_more {p:LPd} {x:Nat} {b:Rat} (h:solG p x=true) (e:solN p x=some b) (hl:¬Zhp p 2 (solS p x) < b):solN p (x+1)=some b:=by
 show (if solG p x=true then _ else _)=_;rw [if_pos h,e];simp [hl]
end Pl
def SolPost (p:LPd) (w:World) (o:Ending) (w':World):Prop:=∃v',o= .returned (.tuple #[v',.bool (solN p (solC p)).isSome])∧(∃bf,Zv w' v' bf∧∀b,solN p (solC p)=some b→bf=canF b)∧Below w.heap.size w w'
def SoG (U:World) (xs:List RF) (f:RF) (k:Nat) (w:World) (v:Value):Prop:=match k with
 | 4=>WL w v xs
 | 5=>Zv w v f
 | 6=>∃g,v= .pointer (some ⟨g,0,none⟩)∧U.heap.size≤g∧Bk w g 48 [.bool false,.slice none 0 0,.bool false,.slice none 0 0]
 | _=>True
theorem SoG.later {U:World} {xs:List RF} {f:RF} (k:Nat) (w w':World) (v:Value) (h:SoG U xs f k w v) (hb:Below w.heap.size w w'):SoG U xs f k w' v:=by
 unfold SoG at *;split at h;all_goals first | exact WL.below h hb | exact Zv.below h hb | (obtain ⟨g,e,h1,h2⟩:=h;exact ⟨g,e,h1,h2.later hb⟩) | trivial
theorem put_self (a:Act) (d:Nat):a.put (some d) (a.tmps.getD d undef)=a:=by
 cases a with
 | mk t ds=>
  simp only [Act.put]
  congr 1
  refine Array.ext (by simp) fun i h1 h2=>?_
  rw [Array.getElem_setIfInBounds h2];by_cases e:d=i
  ·subst e;rw [if_pos rfl];simp [Array.getD,h2]
  ·rw [if_neg e]
theorem putA_self {a:Act} {s:Nat→Value}:∀(l:List (Nat × Nat)),(∀x∈l,s x.1=a.tmps.getD x.2 undef)→Zae a l s=a
 | [],_=>rfl
 | x::l,h=>by
  show Zae (a.put (some x.2) (s x.1)) l s=a
  rw [h x (by simp),put_self]
  exact putA_self l fun y hy=>h y (by simp [hy])
theorem plan_growS {P:Program} {ops:Array Oper} {Q:Exit→Act→World→Prop} {S:World→Prop} {n:Nat} {l:List (Nat × Nat)} {is:List Nat} {p:Uh} {a:Act} {w:World} (U:World) (Good:Nat→World→Value→Prop) (his:l.map (·.1)=is) (hlk:∀x∈l,l.lookup x.1=some x.2) (hl:is.Nodup) (hU:Below U.heap.size U w)
 (hg:∀k w w' v,Good k w v→Below w.heap.size w w'→Good k w' v) (hs:∀i∈is,Grow P ops Q S n l a U Good i)
 (h1:∀s w,(∀k∈is,Good k w (s k))→Below U.heap.size U w→Z8 P ops Q S n p (Zae a l s) w):Z8 P ops Q S n (.bag is p) a w:=
 Zue U Good (fun k=>a.tmps.getD ((l.lookup k).getD 0) undef) his (putA_self l fun x hx=>by show a.tmps.getD ((l.lookup x.1).getD 0) undef=_;rw [hlk x hx];rfl).symm hl hU hg hs h1
attribute [local irreducible] YE
theorem rsolutions_own (v1:Value) (p:LPd) (K:Nat) (w:World) (h:LpM w v1 p) (F:p.Ft K) (hz:lpErr p=0) (hm1:1≤p.right.length) (hm:p.right.length≤3) (hn:p.cols.length≤5):
 Calls Tryz.prog 27 #[v1] w (SolPost p w):=by
 obtain ⟨A,n,c,A',n',c',an,m,ao,rfl,hc,hv,hr⟩:=id h;obtain ⟨W,hW,bj,ad⟩:=UV w (.slice A n c) (.slice A' n' c') (.slice an m ao);obtain ⟨W1,cm,bl,ae⟩:=YZ W (.bool false) (.slice none 0 0) (.bool false) (.slice none 0 0);obtain ⟨W2,cn,G,a5⟩:=YZ W1 (.bool false) (.slice none 0 0) (.bool false) (.slice none 0 0);have hX:=(bj.later ae).later a5;have hR:=bl.later a5;have Y:=Za ad ae ad.size;have a:=Za Y a5 Y.size;obtain ⟨r1,r2,r3⟩:=hr.len;obtain ⟨q1,q2,q3⟩:=hv.len;have bo:=Lib.hid h;have HM:=Lib.hid r1;have HN:=Lib.hid q1;have HF:=Lib.hid F;have HZ:=Lib.hid hz;have ca:=Lib.hid hc;have cr:w.heap.size < W.heap.size:=bj.lt;have ct:W.heap.size < W1.heap.size:=bl.lt;have ay:W1.heap.size < W2.heap.size:=G.lt;have cu:1≤m:=by rw [r1];exact hm1
 have cb:m≤3:=by rw [r1];exact hm
 have cv:n'≤5:=by rw [q1];exact hn
 obtain ⟨x0,x1,x2⟩:=hX.three;obtain ⟨b0,b1,b2,b3⟩:=G.four;obtain ⟨f0,f1,f2,f3⟩:=G.fourF;clear h hc hv hr r1 q1 bj bl ad ae a5 Y F hz hm1 hm hn;go_enter Tryz.func27,Tryz.ntmps27;go_wp2_with fail;clear hW cm cn x0 x1 x2 b0 b1 b2 b3 f0 f1 f2 f3;obtain ⟨wz,D⟩:∃wz,wz=(((W2.setCell ⟨W1.heap.size,0,none⟩ (.bool false)).setCell ⟨W1.heap.size,1,none⟩ (.slice none 0 0)).setCell ⟨W1.heap.size,2,none⟩ (.bool false)).setCell ⟨W1.heap.size,3,none⟩ (.slice none 0 0):=⟨_,rfl⟩;have az:Bk wz W1.heap.size 48 [.bool false,.slice none 0 0,.bool false,.slice none 0 0]:=by rw [D];exact G.set4 _ _ _ _
 have b4:Bk wz w.heap.size 26 [.slice A n c,.slice A' n' c',.slice an m ao]:=by rw [D];exact (G.but4 _ _ _ _).bk hX (by decide)
 have bp:Bk wz W.heap.size 48 [.bool false,.slice none 0 0,.bool false,.slice none 0 0]:=by rw [D];exact (((hR.set_other (by omega) _ _).set_other (by omega) _ _).set_other (by omega) _ _).set_other (by omega) _ _
 have aq:Below w.heap.size w wz:=by rw [D];exact ZB a (by omega) _ _ _ _
 rw [← D];clear D G hX hR a ay;have ay:W1.heap.size < wz.heap.size:=az.lt;obtain ⟨x0,x1,x2⟩:=b4.three;have C0:=Zm x0;have C1:=Zm x1;have C2:=Zm x2;clear x0 x1 x2;refine Zo 8 [0,1,2,3,4,5,6,7] (by kernel_rfl) (by kernel_rfl) ?_;repeat ((first | (refine Zc (v:=?_) rfl rfl rfl ?_ ?_;rotate_left;(· (intro _ bn;go_simp;(try go_bits);(try with_reducible rfl)))) | (refine Zg (v:=?_) rfl rfl rfl ?_ ?_;rotate_left;(· (intro _ bn;go_simp;(try go_bits);(try with_reducible rfl)))) | refine Zh rfl rfl rfl ?_);(try simp only [Act.put,pu1,pu2,pu3,pu4,pu5,pu6]))
 refine Zy ?_;clear C0 C1 C2;have hX:=b4.drew;have hR:=bp.drew;have G:=az.drew;have a:=aq.drew;clear b4 bp az aq;have ar:W1.heap.size < wz.drew.heap.size:=G.lt;clear ay;generalize wz.drew=w3 at *;generalize W.heap.size=gr at *;generalize W1.heap.size=gb at *;have cc:=Zdv m (by omega);have b5:=ZI.zeros w3 m (by unfold maxLen;omega);have Z:=Zb w3 (.cells (zic m) 3);obtain ⟨W4,c8⟩:∃W4,w3.alloc (.cells (zic m) 3)=W4:=⟨_,rfl⟩;rw [c8] at b5 Z;obtain ⟨W5,co,af,a8⟩:=Vu W4 (.int .i64 2) (.slice (some ⟨w3.heap.size,0,none⟩) m m) (.int .i64 0);have a3:=Za a Z a.size;have au:=Za a3 a8 a3.size;have bq:=(hX.later Z).later a8;have br:=(hR.later Z).later a8;have bs:=(G.later Z).later a8;have bt:=(b5.below a8).monoB a.size;obtain ⟨y0,y1,y2⟩:=af.three;obtain ⟨f0,f1,f2⟩:=af.threeF;have cd:w.heap.size≤w3.heap.size:=a.size;have ce:w.heap.size≤W4.heap.size:=a3.size;have cq:w3.heap.size≤W4.heap.size:=Z.size;have M:gb < w3.heap.size:=ar;clear b5 Z a8 a3 hX hR G a ar
 go_upto_region 4 with (fail)
 clear c8 co y0 y1 y2 f0 f1 f2 cc;generalize W4.heap.size=gs at *;generalize w3.heap.size=gz at *;have kk:=Zd.setCell af 2 (.int .i64 0);have bu:=af.set_ 2 (.int .i64 0);have av:=au.setCell (p:=⟨gs,2,none⟩) ce (.int .i64 0);have bv:=bq.set_other (g:=gs) (by omega) 2 (.int .i64 0);have bw:=br.set_other (g:=gs) (by omega) 2 (.int .i64 0);have bx:=bs.set_other (g:=gs) (by omega) 2 (.int .i64 0);have bz:=bt.but kk (by decide);clear bq br bs bt au kk af;try generalize W5.setCell ⟨gs,2,none⟩ (.int .i64 0)=W6 at *
 have cw:1≤n'+m:=by omega
 have b6:n'+m≤8:=by omega
 go_wp2
 go_loopw [9,10] (fun t x wr=>∃k:Nat,k≤m∧x= .int .i64 k∧t= .int .i64 (((n'+m)^k:Nat):Int)∧wr=W6) (fun _ x _=>m - (intOf x).toNat)
 case atStart=>exact ⟨0,by omega,rfl,rfl,rfl⟩
 case round=>
  obtain ⟨k,hk,rfl,rfl,hw⟩:=hrel;replace hw:=hw.symm;subst hw;rcases Nat.lt_or_ge k m with hkl | hkl
  ·have ht:(n'+m)^k≤64:=Nat.le_trans (Nat.pow_le_pow_left b6 k) (Nat.pow_le_pow_right (by decide) (show k≤2 by omega));obtain ⟨T,hT⟩:∃T,T=(n'+m)^k:=⟨_,rfl⟩;have cf:Hid (T * (n'+m)=(n'+m)^(k+1)):=Lib.hid (by rw [hT,Nat.pow_succ]);rw [← hT] at ht ⊢;clear hT;have cg:T * (n'+m)≤512:=Nat.le_trans (Nat.mul_le_mul ht b6) (by decide);have ak:(T:Int) * ((n':Int)+(m:Int))=((T * (n'+m):Nat):Int):=(by push_cast;rfl);have cx:0≤(T:Int) * ((n':Int)+(m:Int)):=(by rw [ak];omega);have cy:(T:Int) * ((n':Int)+(m:Int))≤512:=(by rw [ak];omega);have HP:=Lib.hid ak;clear ak cg;go_wp2;go_roundw
   case rel=>exact ⟨k+1,by omega,by go_num,by rw [HP.out,cf.out],by first | rfl | trivial⟩
   case measure=>simp [intOf];omega
  ·obtain rfl:m=k:=by omega
   clear hk hkl;obtain ⟨TT,ap⟩:∃T,T=(n'+m)^m:=⟨_,rfl⟩;have ht:TT≤512:=(by rw [ap];exact Nat.le_trans (Nat.pow_le_pow_left b6 m) (Nat.pow_le_pow_right (by decide) cb));have HT:Hid (TT=solC p):=Lib.hid (by rw [ap,HN.out,HM.out];rfl);rw [← ap];clear ap;have c0:Zv W6 (.agg #[.bool false,.slice none 0 0,.bool false,.slice none 0 0]) zeroF:=Zv.zero _;go_wp2
   go_loopw [5,11,12,13,14,15] (fun so x _ _ _ _ wr=>∃(xn:Nat) (zs:List Int) (y0 y1 y2 y3:Value) (bf:RF),xn≤TT∧x= .int .i64 xn∧so= .bool (solN p xn).isSome∧zs.length=m∧(∀b,solN p xn=some b→bf=canF b)∧Below w.heap.size w wr∧Bk wr w.heap.size 26 [.slice A n c,.slice A' n' c',.slice an m ao]∧Bk wr gr 48 [.bool false,.slice none 0 0,.bool false,.slice none 0 0]∧Bk wr gb 48 [y0,y1,y2,y3]∧Zv wr (.agg #[y0,y1,y2,y3]) bf∧Bk wr gs 29 [.int .i64 2,.slice (some ⟨gz,0,none⟩) m m,.int .i64 0]∧ZI w.heap.size wr (.slice (some ⟨gz,0,none⟩) m m) zs) (fun _ x _ _ _ _ _=>TT - (intOf x).toNat)
   case atStart=>exact ⟨0,_,_,_,_,_,zeroF,by omega,rfl,rfl,List.length_replicate,(fun b hb=>by simp [solN] at hb),av,bv,bw,bx,c0,bu,bz⟩
   case round=>
    clear av bv bw bx c0 bu bz;obtain ⟨xn,zs,y0,y1,y2,y3,bf,d7,rfl,rfl,ag,c9,a,hX,hR,hB,hF,hS,hO⟩:=hrel;have aa:=Lib.hid c9;clear c9;rcases Nat.lt_or_ge xn TT with hxl | hxl
    ·go_wp2
     go_loopw [12,13,14] (fun k ok i wr=>∃(j:Nat) (zs:List Int),j≤m∧i= .int .i64 j∧k= .int .i64 ((xn / (n'+m)^j:Nat):Int)∧ok= .bool (incN (solB p xn) j)∧zs.length=m∧(∀l,l < j→zs[l]? =(solB p xn)[l]?)∧Below w.heap.size w wr∧Bk wr w.heap.size 26 [.slice A n c,.slice A' n' c',.slice an m ao]∧Bk wr gr 48 [.bool false,.slice none 0 0,.bool false,.slice none 0 0]∧Bk wr gb 48 [y0,y1,y2,y3]∧Zv wr (.agg #[y0,y1,y2,y3]) bf∧Bk wr gs 29 [.int .i64 2,.slice (some ⟨gz,0,none⟩) m m,.int .i64 0]∧ZI w.heap.size wr (.slice (some ⟨gz,0,none⟩) m m) zs) (fun _ _ i _=>m - (intOf i).toNat)
     case atStart=>exact ⟨0,zs,by omega,rfl,by rw [Nat.pow_zero,Nat.div_one],rfl,ag,fun l h=>by omega,a,hX,hR,hB,hF,hS,hO⟩
     case round=>
      clear a hX hR hB hF hS hO ag;obtain ⟨j,zs,hj,rfl,rfl,rfl,ag,ax,a,hX,hR,hB,hF,hS,hO⟩:=hrel;have a4:=Lib.hid ax;clear ax;obtain ⟨H,I,J⟩:=hS.three;rcases Nat.lt_or_ge j m with hjl | hjl
      ·obtain ⟨Q,hQ⟩:∃Q,Q=xn / (n'+m)^j:=⟨_,rfl⟩;have cz:Q≤512:=(by rw [hQ];exact Nat.le_trans (Nat.div_le_self _ _) (by omega));have HQ:=Lib.hid hQ;rw [← hQ];clear hQ;have d0:(((n':Int)+(m:Int))==0)=false:=(by simp;omega);have e1:0≤(Q:Int) % ((n':Int)+(m:Int)):=Int.emod_nonneg _ (by omega);have e2:(Q:Int) % ((n':Int)+(m:Int)) < (n':Int)+(m:Int):=Int.emod_lt_of_pos _ (by omega);have e3:0≤(Q:Int) / ((n':Int)+(m:Int)):=Int.ediv_nonneg (by omega) (by omega);have e4:(Q:Int) / ((n':Int)+(m:Int))≤Q:=Int.ediv_le_self _ (by omega);have b7:Hid ((solB p xn)[j]? =some ((Q:Int) % ((n':Int)+(m:Int)) - m)):=Lib.hid (by rw [solB_get (by rw [← HM.out];exact hjl),HQ.out,← HN.out,← HM.out];push_cast;rfl);have al:Hid ((Q:Int) / ((n':Int)+(m:Int))=((xn / (n'+m)^(j+1):Nat):Int)):=Lib.hid (by rw [HQ.out,Nat.pow_succ,← Nat.div_div_eq_div_mul];push_cast;rfl);obtain ⟨t0,t1,-,-⟩:=hO.at_ (List.getElem?_eq_getElem (show j < zs.length by omega));have d1:(j:Int) < m:=(by omega);go_wp2_with fail
       go_region
       generalize hz:(Q:Int) % ((n':Int)+(m:Int)) - (m:Int)=z at *;have ch: -9223372036854775808≤z:=(by omega);have ci:z≤9223372036854775807:=(by omega);obtain ⟨f,a9⟩:=hO.set_ (k:=j) (by omega) ch ci;have r:=a9.bk hX (by decide);have u:=a9.bk hR (by decide);have y:=a9.bk hB (by decide);have B:=hF.keep (a9.keep (by decide));have o:=a9.bk hS (by decide);have d:=a.setCell (p:=⟨gz,j,none⟩) cd (.int .i64 z);replace r:=r.drew;replace u:=u.drew;replace y:=y.drew;replace B:=B.below (Ze _);replace o:=o.drew;replace d:=d.drew;replace f:=f.below (Ze _);clear t0 t1 H I J hX hR hB hF hS hO a a9 hz;generalize (wr.setCell ⟨gz,j,none⟩ (.int .i64 z)).drew=w7 at *;have P:(zs.set j z).length=m:=(by rw [List.length_set];exact ag);have a0:Hid (∀l,l < j+1→(zs.set j z)[l]? =(solB p xn)[l]?):=Lib.hid fun l hl=>by
        rw [List.getElem?_set];by_cases e:j=l
        ·subst e;rw [if_pos rfl,if_pos (by omega),b7.out]
        ·rw [if_neg e];exact a4.out l (by omega)
       obtain ⟨ah,am⟩:∃l,l=zs.set j z:=⟨_,rfl⟩;rw [← am] at f P a0;clear am ag a4;obtain ⟨H,I,J⟩:=o.three;have b8:=a0.out j (by omega);rw [b7.out] at b8;obtain ⟨t0,-,-,-⟩:=f.at_ b8;have R:=Lib.hid (incN_next (l:=solB p xn) (n:=j));have a6:Hid ((solB p xn).getD j 0=z):=Lib.hid (by rw [List.getD_eq_getElem?_getD,b7.out];rfl);clear b8;generalize incN (solB p xn) j=ok at *
       cases ok
       ·have a1:Hid (incN (solB p xn) (j+1)=false):=Lib.hid (by rw [R.out];rfl);go_wp2_with fail
        go_region
        replace r:=r.drew;replace u:=u.drew;replace y:=y.drew;replace B:=B.below (Ze _);replace o:=o.drew;replace d:=d.drew;replace f:=f.below (Ze _);clear t0 H I J R a6 ;generalize w7.drew=w8 at *;go_wp2;go_roundw
        case rel=>exact ⟨j+1,ah,by omega,by go_num,by rw [al.out],(by rw [a1.out];first | done | (simp;omega)),P,a0.out,d,r,u,y,B,o,f⟩
        case measure=>simp [intOf];omega
       ·rcases Nat.eq_zero_or_pos j with j0 | j0
        ·have a1:Hid (incN (solB p xn) (j+1)=true):=Lib.hid (by rw [R.out,j0];rfl);have b9:((j:Int)==0)=true:=(by simp [j0]);go_wp2_with fail
         go_region
         replace r:=r.drew;replace u:=u.drew;replace y:=y.drew;replace B:=B.below (Ze _);replace o:=o.drew;replace d:=d.drew;replace f:=f.below (Ze _);clear t0 H I J R a6 ;generalize w7.drew=w8 at *;go_wp2;go_roundw
         case rel=>exact ⟨j+1,ah,by omega,by go_num,by rw [al.out],(by rw [a1.out];first | done | (simp;omega)),P,a0.out,d,r,u,y,B,o,f⟩
         case measure=>simp [intOf];omega
        ·obtain ⟨i,hi⟩:∃i:Nat,(j:Int) - 1=i:=⟨j - 1,by omega⟩;have c1:(i:Int) < m:=(by omega);have b9:((j:Int)==0)=false:=(by simp;omega);obtain ⟨zi,bm⟩:∃zi,ah[i]? =some zi:=⟨_,List.getElem?_eq_getElem (by omega)⟩;have c2:Hid ((solB p xn).getD (j - 1) 0=zi):=Lib.hid (by rw [List.getD_eq_getElem?_getD,show j - 1=i by omega,← a0.out i (by omega),bm];rfl);obtain ⟨s0,-,-,-⟩:=f.at_ bm;clear bm;rcases Int.lt_or_le zi z with hlt | hlt
         ·have a1:Hid (incN (solB p xn) (j+1)=true):=Lib.hid (by rw [R.out,a6.out,c2.out];simp [hlt]);go_wp2_with fail
          go_region
          replace r:=r.drew;replace u:=u.drew;replace y:=y.drew;replace B:=B.below (Ze _);replace o:=o.drew;replace d:=d.drew;replace f:=f.below (Ze _);clear t0 H I J R a6 hi c1 b9 s0 hlt j0;generalize w7.drew=w8 at *;go_wp2;go_roundw
          case rel=>exact ⟨j+1,ah,by omega,by go_num,by rw [al.out],(by rw [a1.out];first | done | (simp;omega)),P,a0.out,d,r,u,y,B,o,f⟩
          case measure=>simp [intOf];omega
         ·have a1:Hid (incN (solB p xn) (j+1)=false):=Lib.hid (by rw [R.out,a6.out,c2.out];simp;omega);go_wp2_with fail
          go_region
          replace r:=r.drew;replace u:=u.drew;replace y:=y.drew;replace B:=B.below (Ze _);replace o:=o.drew;replace d:=d.drew;replace f:=f.below (Ze _);clear t0 H I J R a6 hi c1 b9 s0 j0;generalize w7.drew=w8 at *;go_wp2;go_roundw
          case rel=>exact ⟨j+1,ah,by omega,by go_num,by rw [al.out],(by rw [a1.out];first | done | (simp;omega)),P,a0.out,d,r,u,y,B,o,f⟩
          case measure=>simp [intOf];omega
      ·obtain rfl:m=j:=by omega
       have c3:zs.length≤m:=(by omega);have am:zs=solB p xn:=List.ext_getElem? fun l=>by
        rcases Nat.lt_or_ge l m with h | h
        ·exact a4.out l h
        ·rw [List.getElem?_eq_none (Nat.le_trans c3 h),List.getElem?_eq_none (by rw [solB_length,← HM.out];exact h)]
       subst am;clear a4 hjl hj;have HG:Hid (solG p xn=(incN (solB p xn) m && decide (vsErr p (solS p xn)=0))):=Lib.hid (by unfold solG;rw [HM.out]);generalize incN (solB p xn) m=ok at *;have ab:Hid (StM wr (.agg #[.int .i64 2,.slice (some ⟨gz,0,none⟩) m m,.int .i64 0]) (solS p xn)):=Lib.hid ⟨_,_,_,rfl,hO.ints⟩
       cases ok
       ·have ac:Hid (solN p (xn+1)=solN p xn):=Lib.hid (solN_skip (by rw [HG.out];rfl));go_wp2;go_roundw
        case rel=>exact ⟨xn+1,_,_,_,_,_,bf,by omega,by go_num,by rw [ac.out],by rw [solB_length,← HM.out],by rw [ac.out];exact aa.out,a,hX,hR,hB,hF,hS,hO⟩
        case measure=>simp [intOf];omega
       ·obtain ⟨x0,x1,x2⟩:=hX.three;go_wp2_with fail;refine (rvalidateState_any _ _ p (solS p xn) K _ (bo.out.below a) ab.out HF.out.1 HZ.out).mono ?_;rintro _ w9 ⟨rfl,O⟩;replace hX:=hX.later O;replace hR:=hR.later O;replace hB:=hB.later O;replace hF:=hF.below O;replace hS:=hS.later O;replace hO:=hO.below O;replace a:=Za a O a.size;replace ab:=Lib.hid (ab.out.below O);clear x0 x1 x2 H I J O;by_cases hv:vsErr p (solS p xn)=0
        ·have ba:Hid (solG p xn=true):=Lib.hid (by rw [HG.out,hv];rfl);have cj:=Lib.hid (Ztm hv);have ck:=Lib.hid (Yay hv).1;rw [hv];clear hv;obtain ⟨x0,x1,x2⟩:=hX.three;obtain ⟨H,I,J⟩:=hS.three;obtain ⟨V,hV⟩:∃V:RF,V=canF (Zhp p 2 (solS p xn)):=⟨_,rfl⟩;have HV:=Lib.hid hV;clear hV;have c4:Hid (5^p.right.length * K≤4000000):=Lib.hid HF.out.2.2;have N:=Lib.hid HF.out.1;go_wp2_with fail;have C0:=Zm x0;have C1:=Zm x1;have C2:=Zm x2;have C3:=Zm H;have C4:=Zm I;have C5:=Zm J;clear x0 x1 x2 H I J;refine YF 7 (.go 0 (.go 1 (.go 2 (.go 3 (.bag [4,5,6] (.go 7 .done)))))) (by kernel_rfl) (by kernel_rfl) ?_;repeat ((first | (refine ZK (v:=?_) rfl rfl rfl ?_ ?_;rotate_left;(· (intro _ bn;go_simp;(try go_bits);(try with_reducible rfl)))) | (refine ZU (v:=?_) rfl rfl rfl ?_ ?_;rotate_left;(· (intro _ bn;go_simp;(try go_bits);(try with_reducible rfl)))) | refine ZV rfl rfl rfl ?_ | refine ZL rfl rfl rfl (by assumption) ?_);(try simp only [Act.put,pu1,pu2,pu3,pu4,pu5,pu6]))
         refine plan_growS (l:=[(4,94),(5,95),(6,15)]) w9 (SoG w9 (primL p (solS p xn)) V) rfl (by decide) (by decide) (Ze w9) SoG.later (List.forall_mem_cons.2 ⟨?_,List.forall_mem_cons.2 ⟨?_,List.forall_mem_cons.2 ⟨?_,List.forall_mem_nil _⟩⟩⟩) ?_
         ·refine Grow.mk rfl fun s wx b hbb hd hb KR hKR=>?_
          clear hd;simp only [Zae,List.foldl_cons,List.foldl_nil,Act.put,List.setIfInBounds_toArray,List.set_cons_zero,List.set_cons_succ] at hbb;subst hbb;go_simp;refine (rprimal_own _ _ p (solS p xn) K _ ((bo.out.below a).below hb) (ab.out.below hb) N.out ck.out).mono ?_;rintro _ w' ⟨v',rfl,e',aj⟩;exact hKR.out _ _ (Or.inr (Za hb aj hb.size)) ⟨aj,v',by simp [Zae,Zqa,Act.put],e'.frs⟩
         ·refine Grow.mk rfl fun s wx b hbb hd hb KR hKR=>?_
          have d4:WL wx (s 4) (primL p (solS p xn)):=hd 4 (by decide) (by kernel_rfl);clear hd;simp only [Zae,List.foldl_cons,List.foldl_nil,Act.put,List.setIfInBounds_toArray,List.set_cons_zero,List.set_cons_succ] at hbb;subst hbb;go_simp;refine (rdot_own _ _ p.cost (primL p (solS p xn)) (5^p.right.length * K) _ ((ca.out.below a).below hb) d4 (Nat.le_trans N.out.k1 N.out.le) (N.out.cs.mono N.out.le) (primL_B N.out _) (by rw [N.out.cl,primL_length];have h1:=N.out.cols;have h2:=c4.out;have:min p.cols.length p.cols.length * (2 * (5^p.right.length * K)+1)≤1200 * (2 * 4000000+1):=Nat.mul_le_mul (by omega) (by omega);omega) (by have:=c4.out;omega)).mono ?_;rw [N.out.cl,primL_length,Nat.min_self,prim_value cj.out,← HV.out];rintro _ w' ⟨v',rfl,e',aj⟩;exact hKR.out _ _ (Or.inr (Za hb aj hb.size)) ⟨aj,v',by simp [Zae,Zqa,Act.put],e'⟩
         ·refine Grow.mk rfl fun s wx b hbb hd hb KR hKR=>?_
          clear hd;simp only [Zae,List.foldl_cons,List.foldl_nil,Act.put,List.setIfInBounds_toArray,List.set_cons_zero,List.set_cons_succ] at hbb;subst hbb;go_simp;exact hKR.out _ _ (Or.inr (Za hb (Zb wx _) hb.size)) ⟨Zb wx _,_,by simp [Zae,Zqa,Act.put],_,rfl,hb.size,Bk.new wx 48 [.bool false,.slice none 0 0,.bool false,.slice none 0 0]⟩
         ·intro s wx hG hb;have g5:Zv wx (s 5) V:=hG 5 (by decide);have g6:∃g,s 6= .pointer (some ⟨g,0,none⟩)∧w9.heap.size≤g∧Bk wx g 48 [.bool false,.slice none 0 0,.bool false,.slice none 0 0]:=hG 6 (by decide);obtain ⟨gv,e6,cp,ai⟩:=g6;obtain ⟨Bv,kv,dv,Bw,kw,dw,e5,_,_⟩:=id g5;rw [e5] at g5;clear hG C0 C1 C2 C3 C4 C5;simp only [Zae,List.foldl_cons,List.foldl_nil,Act.put,List.setIfInBounds_toArray,List.set_cons_zero,List.set_cons_succ];rw [e5,e6];clear e5 e6;generalize s 4=s4;clear s;obtain ⟨t0,t1,t2,t3⟩:=ai.four;obtain ⟨f0,f1,f2,f3⟩:=ai.fourF;refine Zz rfl rfl (fun KR hKR=>?_);go_simp;refine hKR.out _ _ (Or.inl (by decide)) ?_;clear hKR KR t0 t1 t2 t3 f0 f1 f2 f3;refine Yp ?_;obtain ⟨wz,D⟩:∃wz,wz=(((wx.setCell ⟨gv,0,none⟩ (.bool V.num.neg)).setCell ⟨gv,1,none⟩ (.slice Bv kv dv)).setCell ⟨gv,2,none⟩ (.bool V.den.neg)).setCell ⟨gv,3,none⟩ (.slice Bw kw dw):=⟨_,rfl⟩;have a7:Bk wz gv 48 [.bool V.num.neg,.slice Bv kv dv,.bool V.den.neg,.slice Bw kw dw]:=(by rw [D];exact ai.set4 _ _ _ _);have M:Below w9.heap.size w9 wz:=(by rw [D];exact ZB hb cp _ _ _ _);have a2:Zv wz (.agg #[.bool V.num.neg,.slice Bv kv dv,.bool V.den.neg,.slice Bw kw dw]) V:=(by rw [D];exact g5.keep (ai.keep4 (by decide) _ _ _ _));rw [← D];clear D ai hb g5;replace hX:=hX.later M;replace hR:=hR.later M;replace hB:=hB.later M;replace hF:=hF.below M;replace hS:=hS.later M;replace hO:=hO.below M;have S:=Za a M a.size;clear a ab;clear M;obtain ⟨v0,v1,v2,v3⟩:=a7.four;obtain ⟨b0,b1,b2,b3⟩:=hB.four;obtain ⟨f0,f1,f2,f3⟩:=hB.fourF;have aw:w.heap.size≤gb:=(by omega);have d2:gs≠gb:=(by omega);have U:gr≠gb:=by omega
          cases hs:solN p xn with
          | none=>
           have X:=Lib.hid (solN_first ba.out hs);clear hs;go_wp2;obtain ⟨wq,C⟩:∃wq,wq=(((wz.setCell ⟨gb,0,none⟩ (.bool V.num.neg)).setCell ⟨gb,1,none⟩ (.slice Bv kv dv)).setCell ⟨gb,2,none⟩ (.bool V.den.neg)).setCell ⟨gb,3,none⟩ (.slice Bw kw dw):=⟨_,rfl⟩;have bb:Bk wq gb 48 [.bool V.num.neg,.slice Bv kv dv,.bool V.den.neg,.slice Bw kw dw]:=(by rw [C];exact hB.set4 _ _ _ _);have E:Zd 48 wz wq:=(by rw [C];exact hB.but4 _ _ _ _);have bc:Bk wq gr 48 [.bool false,.slice none 0 0,.bool false,.slice none 0 0]:=(by rw [C];exact (((hR.set_other U _ _).set_other U _ _).set_other U _ _).set_other U _ _);have bd:Below w.heap.size w wq:=(by rw [C];exact ZB S aw _ _ _ _);have be:=a2.keep (E.keep (by decide));have bg:=E.bk hX (by decide);have bh:=E.bk hS (by decide);have bi:=hO.but E (by decide);rw [← C];clear C E hB hR S a2 hX hS hO hF a7 v0 v1 v2 v3 b0 b1 b2 b3 f0 f1 f2 f3;go_roundw
           case rel=>exact ⟨xn+1,_,_,_,_,_,V,by omega,by go_num,by rw [X.out];rfl,by rw [solB_length,← HM.out],fun b hb=>by rw [X.out] at hb;injection hb with hb;rw [HV.out,hb],bd,bg,bc,bb,be,bh,bi⟩
           case measure=>simp [intOf];omega
          | some b=>
           have c5:=Lib.hid (aa.out b hs);have c6:Hid (ShH V∧ShH bf):=Lib.hid ⟨by rw [HV.out];exact obj_shH HF.out _ _,by rw [aa.out b hs];obtain ⟨⟨_,_,_,e⟩,_⟩:=solN_some hs;rw [e];exact obj_shH HF.out _ _⟩;have c7:=Lib.hid hs;clear hs;obtain ⟨Bb,kb,db,Bc,kc,dc,ey,_,_⟩:=id hF;injection ey with ey;simp at ey;obtain ⟨rfl,rfl,rfl,rfl⟩:=ey;go_wp2_with fail;refine (rcompareF_any _ _ V bf _ a2 hF c6.out.1 c6.out.2).mono ?_;rw [show V.q - bf.q=Zhp p 2 (solS p xn) - b by rw [HV.out,c5.out,Zt,Zt]];rintro _ wc ⟨rfl,hb⟩;replace hX:=hX.later hb;replace hR:=hR.later hb;replace hB:=hB.later hb;replace hF:=hF.below hb;replace hS:=hS.later hb;replace hO:=hO.below hb;replace S:=Za S hb S.size;replace a2:=a2.below hb;replace a7:=a7.later hb;clear v0 v1 v2 v3 b0 b1 b2 b3 f0 f1 f2 f3 hb;obtain ⟨v0,v1,v2,v3⟩:=a7.four;obtain ⟨b0,b1,b2,b3⟩:=hB.four;obtain ⟨f0,f1,f2,f3⟩:=hB.fourF;by_cases hl:Zhp p 2 (solS p xn) < b
           ·have X:=Lib.hid (solN_less ba.out c7.out hl);have hq:qs (Zhp p 2 (solS p xn) - b) < 0:=Zda.2 (by grind);clear hl;generalize qs (Zhp p 2 (solS p xn) - b)=sg at hq ⊢;go_wp2;obtain ⟨wq,C⟩:∃wq,wq=(((wc.setCell ⟨gb,0,none⟩ (.bool V.num.neg)).setCell ⟨gb,1,none⟩ (.slice Bv kv dv)).setCell ⟨gb,2,none⟩ (.bool V.den.neg)).setCell ⟨gb,3,none⟩ (.slice Bw kw dw):=⟨_,rfl⟩;have bb:Bk wq gb 48 [.bool V.num.neg,.slice Bv kv dv,.bool V.den.neg,.slice Bw kw dw]:=(by rw [C];exact hB.set4 _ _ _ _);have E:Zd 48 wc wq:=(by rw [C];exact hB.but4 _ _ _ _);have bc:Bk wq gr 48 [.bool false,.slice none 0 0,.bool false,.slice none 0 0]:=(by rw [C];exact (((hR.set_other U _ _).set_other U _ _).set_other U _ _).set_other U _ _);have bd:Below w.heap.size w wq:=(by rw [C];exact ZB S aw _ _ _ _);have be:=a2.keep (E.keep (by decide));have bg:=E.bk hX (by decide);have bh:=E.bk hS (by decide);have bi:=hO.but E (by decide);rw [← C];clear C E hB hR S a2 hX hS hO hF a7 v0 v1 v2 v3 b0 b1 b2 b3 f0 f1 f2 f3;go_roundw
            case rel=>exact ⟨xn+1,_,_,_,_,_,V,by omega,by go_num,by rw [X.out];rfl,by rw [solB_length,← HM.out],fun b hb=>by rw [X.out] at hb;injection hb with hb;rw [HV.out,hb],bd,bg,bc,bb,be,bh,bi⟩
            case measure=>simp [intOf];omega
           ·have X:=Lib.hid (solN_more ba.out c7.out hl);have hq:0≤qs (Zhp p 2 (solS p xn) - b):=qs_nonneg (by grind);clear hl;generalize qs (Zhp p 2 (solS p xn) - b)=sg at hq ⊢;have d3:¬sg < 0:=(by omega);have d5:decide (sg < 0)=false:=(by simp;omega);go_wp2;clear v0 v1 v2 v3 b0 b1 b2 b3 f0 f1 f2 f3;go_roundw
            case rel=>exact ⟨xn+1,_,_,_,_,_,bf,by omega,by go_num,by rw [X.out];rfl,by rw [solB_length,← HM.out],fun b' hb=>by rw [X.out] at hb;injection hb with hb;rw [c5.out,hb],S,hX,hR,hB,hF,hS,hO⟩
            case measure=>simp [intOf];omega
        ·have ac:Hid (solN p (xn+1)=solN p xn):=Lib.hid (solN_skip (by rw [HG.out];simp [hv]));have d6:(vsErr p (solS p xn) !=0)=true:=(by simpa using hv);clear hv;generalize vsErr p (solS p xn)=L at *;go_wp2;go_roundw
         case rel=>exact ⟨xn+1,_,_,_,_,_,bf,by omega,by go_num,by rw [ac.out],by rw [solB_length,← HM.out],by rw [ac.out];exact aa.out,a,hX,hR,hB,hF,hS,hO⟩
         case measure=>simp [intOf];omega
    ·obtain rfl:TT=xn:=by omega
     obtain ⟨Bb,kb,db,Bc,kc,dc,ey,_,_⟩:=id hF;injection ey with ey;simp at ey;obtain ⟨rfl,rfl,rfl,rfl⟩:=ey;obtain ⟨b0,b1,b2,b3⟩:=hB.four;obtain ⟨r0,r1,r2,r3⟩:=hR.four;obtain ⟨f0,f1,f2,f3⟩:=hR.fourF;go_wp2;refine YR Tryz.results27 Tryz.underlying48 (by kernel_rfl) rfl (hR.set4 _ _ _ _) rfl ?_;exact ⟨_,by rw [← HT.out];rfl,⟨bf,hF.keep (hR.keep4 (by decide) _ _ _ _),fun b hb=>aa.out b (by rw [HT.out];exact hb)⟩,ZB a (by omega) _ _ _ _⟩
end
theorem simplexInfeasible_any (v0:Value) (zl0:List Int) (w:World) (h0:Xu w v0 zl0):
 Calls Tryz.prog 7 #[v0] w fun e w'=>e= .returned (.bool true)∧Below w.heap.size w w':=by
 obtain ⟨b0,d0,rfl,_,_⟩:=h0.shape;generalize a7:zl0.length=m0 at *;clear a7;go_enter Tryz.func7,Tryz.ntmps7;go_wp2_with fail;refine (Yed _ zl0 _ h0).mono ?_;rintro _ a4 ⟨vp,p,rfl,hp,v,R,hb⟩;have o:=Lib.hid v;have HF:=Lib.hid (v.ft (R.mono (by decide)));have HZ:=Lib.hid v.err;have y:=hp.lp;obtain ⟨A0,n0,c0,A1,n1,c1,A2,m,c2,rfl,_,_,_⟩:=id y;clear v R hp;obtain ⟨ab,O,hB,hn⟩:=UV a4 (.slice A0 n0 c0) (.slice A1 n1 c1) (.slice A2 m c2);have hc:=Za hb hn hb.size;have h:=Lib.hid ((y).below hn);have q:=Lib.hid hB;have i:=hc;clear hc hb hn hB;clear y h0;obtain ⟨F,G,H⟩:=q.out.three;go_wp2_with fail;clear O;refine (Ybn _ p 32 _ h.out HF.out HZ.out).mono ?_;obtain ⟨s,hs⟩:∃s,s=Zub p:=⟨_,rfl⟩;have M:=Lib.hid hs;rw [← hs];clear hs;have a9:Hid (s.basis.length≤1099511627776∧∀z∈s.basis,-9223372036854775808≤z∧z≤9223372036854775807):=Lib.hid (by rw [M.out];exact Zuc (Znz p).fit HF.out.2.1 HF.out.1.cols);obtain ⟨qa,I⟩:∃qa,qa=XD p s:=⟨_,rfl⟩;have U:=Lib.hid I;rw [← I];clear I;rintro _ S ⟨ae,rfl,⟨J,K,L,rfl,hI⟩,hb⟩;obtain ⟨ac,P,hB,hn⟩:=Vu S (.int .i64 s.phase) (.slice J K L) (.int .i64 s.pivots);have hc:=Za hb hn hb.size;have j:=Lib.hid (h.out.below hc);have r:=Lib.hid (q.out.later hc);have t:=Lib.hid (StM.below ((⟨J,K,L,rfl,hI.ints⟩:StM S (.agg #[.int .i64 s.phase,.slice J K L,.int .i64 s.pivots]) s)) hn);have u:=Lib.hid hB;have k:=Za i hc i.size;clear F G H;clear h q i hc hb hn hB;clear hI;obtain ⟨F,G,H⟩:=r.out.three;go_wp2_with fail;clear P;refine (rsolutions_own _ p 32 _ j.out HF.out HZ.out o.out.1 o.out.2.1 o.out.2.2.1).mono ?_;rintro _ a5 ⟨af,rfl,⟨bf,hf,T⟩,hb⟩;have aa:=Lib.hid T;clear T;obtain ⟨Y,Z,a0,a1,a2,a3,rfl,_,_⟩:=id hf;obtain ⟨ad,x,hB,hn⟩:=YZ a5 (.bool bf.num.neg) (.slice Y Z a0) (.bool bf.den.neg) (.slice a1 a2 a3);have hc:=Za hb hn hb.size;have b:=Lib.hid (j.out.below hc);have n:=Lib.hid (r.out.later hc);have c:=Lib.hid (t.out.below hc);have d:=Lib.hid (u.out.later hc);have f:=Lib.hid ((hf).below hn);have g:=Lib.hid hB;have a:=Za k hc k.size;clear F G H;clear j r t u k hc hb hn hB;clear hf;have V:=Lib.hid (sol_inf o.out o.out.1);have X:qa=2↔solN p (solC p)=none:=by rw [U.out,M.out];exact V.out
 generalize a8:solN p (solC p)=so at *;have hz:(qa=2∧so.isSome=false)∨(qa≠2∧so.isSome=true):=by cases so <;> simp_all
 clear X a8;generalize so.isSome=sb at *;rcases hz with ⟨z1,rfl⟩ | ⟨z1,rfl⟩
 ·have z2:(qa==2)=true:=by simp [z1]
  go_wp2_with fail;clear x;refine (Ydg _).mono ?_;rintro _ a6 ⟨rfl,hb⟩;have hc:=hb;have A:=Lib.hid (b.out.below hc);have N:=Lib.hid (n.out.later hc);have B:=Lib.hid (c.out.below hc);have C:=Lib.hid (d.out.later hc);have D:=Lib.hid (f.out.below hc);have E:=Lib.hid (g.out.later hc);have l:=Za a hc a.size;clear b n c d f g a hc hb;go_wp2;go_ret;exact ⟨rfl,l⟩
 ·have z2:(qa==2)=false:=by simp [z1]
  go_wp2_with fail;clear x;refine (Ydg _).mono ?_;rintro _ a6 ⟨rfl,hb⟩;have hc:=hb;have A:=Lib.hid (b.out.below hc);have N:=Lib.hid (n.out.later hc);have B:=Lib.hid (c.out.below hc);have C:=Lib.hid (d.out.later hc);have D:=Lib.hid (f.out.below hc);have E:=Lib.hid (g.out.later hc);have l:=Za a hc a.size;clear b n c d f g a hc hb;go_wp2;go_ret;exact ⟨rfl,l⟩
end Go.Proofs.YtncmobkhenfhpaaGreat
