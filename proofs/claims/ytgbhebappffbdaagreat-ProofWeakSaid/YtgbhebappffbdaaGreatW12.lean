/- Lemmas of the claim; no condition. -/
import Derived.Test.YtgbhebappffbdaaGreatW11
set_option linter.all false
set_option maxRecDepth 100000
set_option maxHeartbeats 40000000
namespace Go.Proofs.YtgbhebappffbdaaGreat
open Go.RowKit
open Pl
attribute [local go_sem ↓] Go.wp_at_zero Go.wp_at_succ
namespace Pl
def VG (s:LSt) (Z:List RF):Nat→Nat→Rat
 | 0=>fun _=>0
 | k+1=>fun j=>if s.at_ k=(j:Int) then qAt Z k else VG s Z k j
theorem Vm (s:LSt) (Z:List RF) (k j:Nat):VG s Z (k+1) j=if s.at_ k=(j:Int) then qAt Z k else VG s Z k j:=rfl
def UK (p:LPd) (s:LSt):List RF:=ZQ p.cols.length (VG s (zL p s) (zL p s).length)
theorem Znf {m:Nat} {cols:Mx} {b:Nat→Rat} {k:Nat} {f:RF} (h:(Zjy m cols b)[k]? =some f):f=canF (qAt (Zjy m cols b) k):=by
 cases e:YS m cols b with
 | none=>rw [Zdz e] at h;simp at h
 | some x=>
  rw [WR e] at h ⊢;have hk:k < m:=by have:=(List.getElem?_eq_some_iff.1 h).1;rwa [Zc] at this
  rw [ZE hk] at h;injection h with h;rw [Yr hk,← h]
theorem Ycc {s:LSt} {Z:List RF} {K:Nat} (h:RsL K Z) (hK:1≤K):∀(k j:Nat),Sz K (VG s Z k j)
 | 0,j=>Sz_zero.mono hK
 | k+1,j=>by
  unfold VG
  split
  ·exact h.qAt hK k
  ·exact Ycc h hK k j
theorem Yku {p:LPd} {K:Nat} (F:p.Fit K) (s:LSt):RsL (5^p.right.length * K) (UK p s):=Vv fun i _=>Ycc (Ynq F s) (JW F.k1 F.le) _ i
end Pl
namespace Pl
def Zen (t:LSt) (D:List RF) (j:Int):Nat→Nat→Rat
 | 0=>fun i=>if j=(i:Int) then 1 else 0
 | k+1=>fun i=>if t.at_ k=(i:Int) then -qAt D k else Zen t D j k i
theorem VE (t:LSt) (D:List RF) (j:Int) (k i:Nat):Zen t D j (k+1) i=if t.at_ k=(i:Int) then -qAt D k else Zen t D j k i:=rfl
def Zlj (p:LPd) (t:LSt):List RF:=ZQ p.cols.length (Zen t (WS p t) (UJ p t) (WS p t).length)
def Zcm (p:LPd) (t:LSt):Prf:=if Yh p t=1 then ⟨1,UK p t,YH p t,[]⟩ else if Yh p t=2 then ⟨2,[],YH p t,[]⟩ else if Yh p t=3 then ⟨3,UK p t,[],Zlj p t⟩ else ⟨0,[],[],[]⟩
def Zyq (p:LPd) (t:LSt):Int:=if Yh p t=0 then 16 else 0
theorem UC (p:LPd) (t:LSt):Yh p t=0∨Yh p t=1∨Yh p t=2∨Yh p t=3:=by
 cases he:Zle p t with
 | none=>rw [(XQ he).1];split <;> omega
 | some j=>rw [(Xb he).1];split <;> omega
theorem Ync {p:LPd} {t:LSt} (h:Yh p t=0):Zcm p t=⟨0,[],[],[]⟩∧Zyq p t=16:=by unfold Zcm Zyq;rw [h];exact ⟨rfl,rfl⟩
theorem Ygh {p:LPd} {t:LSt} (h:Yh p t=1):Zcm p t=⟨1,UK p t,YH p t,[]⟩∧Zyq p t=0:=by unfold Zcm Zyq;rw [h];exact ⟨rfl,rfl⟩
theorem Ygi {p:LPd} {t:LSt} (h:Yh p t=2):Zcm p t=⟨2,[],YH p t,[]⟩∧Zyq p t=0:=by unfold Zcm Zyq;rw [h];exact ⟨rfl,rfl⟩
theorem Ycq {p:LPd} {t:LSt} (h:Yh p t=3):Zcm p t=⟨3,UK p t,[],Zlj p t⟩∧Zyq p t=0:=by unfold Zcm Zyq;rw [h];exact ⟨rfl,rfl⟩
theorem Zqi {p:LPd} {s:LSt} (h:Yh p s=3):∃j:Nat,j < p.cols.length∧UJ p s=(j:Int)∧WS p s=dirL p s (j:Int):=by
 cases he:Zle p s with
 | none=>rw [(XQ he).1] at h;split at h <;> omega
 | some j=>exact ⟨j,by have:=(YM he).2.1;omega,(Xb he).2.1,(Xb he).2.2⟩
theorem Ycr {t:LSt} {D:List RF} {K:Nat} {j:Int} (h:RsL K D) (hK:1≤K):∀(k i:Nat),Sz K (Zen t D j k i)
 | 0,i=>by unfold Zen;split;exact Sz_one.mono hK;exact Sz_zero.mono hK
 | k+1,i=>by
  unfold Zen
  split
  ·exact Zki (h.qAt hK k)
  ·exact Ycr h hK k i
theorem Ygj {p:LPd} {s:LSt} {K:Nat} (F:p.Fit K) (h:Yh p s=3):RsL (5^p.right.length * K) (WS p s):=by
 obtain ⟨j,_,_,hd⟩:=Zqi h;rw [hd];exact Zvl F s _
theorem Ynd {p:LPd} {s:LSt} {K:Nat} (F:p.Fit K) (h:Yh p s=3):RsL (5^p.right.length * K) (Zlj p s):=Vv fun i _=>Ycr (Ygj F h) (JW F.k1 F.le) _ i
theorem Yne {p:LPd} {t:LSt} {K:Nat} (F:p.Fit K):RsL (5^p.right.length * K) (Zcm p t).x∧RsL (5^p.right.length * K) (Zcm p t).y∧RsL (5^p.right.length * K) (Zcm p t).ray∧(Zcm p t).x.length≤p.cols.length∧(Zcm p t).y.length≤p.right.length∧(Zcm p t).ray.length≤p.cols.length:=by
 have h1:=Yku F t;have h2:=Ziz F t;have l1:(UK p t).length≤p.cols.length:=by unfold UK;rw [Zc];exact JY _
 have l2:(YH p t).length≤p.right.length:=Zgt;rcases UC p t with h | h | h | h
 ·rw [(Ync h).1];exact ⟨RsL.nil _,RsL.nil _,RsL.nil _,by simp,by simp,by simp⟩
 ·rw [(Ygh h).1];exact ⟨h1,h2,RsL.nil _,l1,l2,by simp⟩
 ·rw [(Ygi h).1];exact ⟨RsL.nil _,h2,RsL.nil _,by simp,l2,by simp⟩
 ·rw [(Ycq h).1];exact ⟨h1,RsL.nil _,Ynd F h,l1,by simp,by show (Zlj p t).length≤_;unfold Zlj;rw [Zc];exact JY _⟩
end Pl
theorem VF {w w0:World} {B g:Nat} {x y z u:Value} (hB:Bk w g 33 [x,y,z,u]) (hb:Below B w0 w) (hg:B≤g) (x' y' z' u':Value):
 Bk ((((w.setCell ⟨g,0,none⟩ x').setCell ⟨g,1,none⟩ y').setCell ⟨g,2,none⟩ z').setCell ⟨g,3,none⟩ u') g 33 [x',y',z',u']∧Zg 33 w ((((w.setCell ⟨g,0,none⟩ x').setCell ⟨g,1,none⟩ y').setCell ⟨g,2,none⟩ z').setCell ⟨g,3,none⟩ u')∧Below B w0 ((((w.setCell ⟨g,0,none⟩ x').setCell ⟨g,1,none⟩ y').setCell ⟨g,2,none⟩ z').setCell ⟨g,3,none⟩ u')∧
 ∀(g':Nat) (t:TypeId) (cs:List Value),g'≠g→Bk w g' t cs→Bk ((((w.setCell ⟨g,0,none⟩ x').setCell ⟨g,1,none⟩ y').setCell ⟨g,2,none⟩ z').setCell ⟨g,3,none⟩ u') g' t cs:=by
 refine ⟨hB.set4 _ _ _ _,(((Zg.setCell hB 0 x').trans (Zg.setCell (hB.set_ 0 x') 1 y')).trans (Zg.setCell ((hB.set_ 0 x').set_ 1 y') 2 z')).trans (Zg.setCell (((hB.set_ 0 x').set_ 1 y').set_ 2 z') 3 u'),(((hb.setCell (p:=⟨g,0,none⟩) hg _).setCell (p:=⟨g,1,none⟩) hg _).setCell (p:=⟨g,2,none⟩) hg _).setCell (p:=⟨g,3,none⟩) hg _,fun g' t cs hne h=>h.far4 hne _ _ _ _⟩
theorem VY (w:World):Y1 w (.slice none 0 0) []:=(ZU.nil 0 w).frs
section
namespace Pl
section
variable {p:LPd} {s:LSt}
theorem Zlk {Z:List RF} {j:Nat}:∀{k:Nat},(∀l,l < k→s.at_ l≠(j:Int))→VG s Z k j=0
 | 0,_=>rfl
 | k+1,h=>by rw [Vm,if_neg (h k (by omega))];exact Zlk fun l hl=>h l (by omega)
theorem Znj {n m:Nat} {Z:List RF} (hin:∀l,l < m→s.at_ l < n) (hdup:∀i,i < m→∀k,k < i→s.at_ i≠s.at_ k) (f:Nat→Rat):∀k,k≤m→ZN (fun j=>VG s Z k j * f j) n=ZN (fun l=>if 0≤s.at_ l then qAt Z l * f (s.at_ l).toNat else 0) k
 | 0,_=>by rw [Y2];exact WP fun j _=>by show (0:Rat) * f j=0;grind
 | k+1,hk=>by
  rw [ZC,← Znj hin hdup f k (by omega)]
  by_cases h0:0≤s.at_ k
  ·rw [if_pos h0]
   obtain ⟨j0,hj0⟩:=JT h0
   have hj:j0 < n:=by have:=hin k (by omega);omega
   rw [hj0,JP]
   have e:ZN (fun j=>VG s Z (k+1) j * f j) n=ZN (fun j=>VG s Z k j * f j+(if j=j0 then qAt Z k * f j0 else 0)) n:=Zh fun j _=>by
    rw [Vm,hj0]
    by_cases g:j=j0
    ·subst g
     rw [if_pos rfl,if_pos rfl,Zlk fun l hl e=>hdup k (by omega) l hl (by rw [hj0,e])];grind
    ·rw [if_neg (by omega),if_neg g];grind
   rw [e,Wi,XU hj]
  ·rw [if_neg h0]
   have e:ZN (fun j=>VG s Z (k+1) j * f j) n=ZN (fun j=>VG s Z k j * f j) n:=Zh fun j _=>by rw [Vm,if_neg (by omega)]
   rw [e];grind
theorem Zqj {Z:List RF} (h:∀k,0≤qAt Z k):∀(k j:Nat),0≤VG s Z k j
 | 0,j=>by show (0:Rat)≤0;exact Rat.le_refl
 | k+1,j=>by
  rw [Vm];split
  ·exact h k
  ·exact Zqj h k j
theorem Val.range (h:Val p s):∀l,l < p.right.length→s.at_ l < p.cols.length:=fun l hl=>by
 have hl':l < s.basis.length:=by rw [h.fit.len];exact hl
 rw [LSt.at_eq (JQ hl')]
 exact (h.fit.in_ l _ (JQ hl')).2
theorem Zta (j:Nat) (hj:j < p.cols.length):qAt (UK p s) j=VG s (zL p s) (zL p s).length j:=by unfold UK;exact Yr hj
theorem Zyg (h:Val p s):Xv p.cost (UK p s) p.cols.length=Zfr p 2 s:=by
 unfold Xv;rw [Zh (g:=fun j=>VG s (zL p s) (zL p s).length j * qAt p.cost j) fun j hj=>by rw [Zta j hj];grind,Znj (m:=p.right.length) h.range h.dup _ _ (by rw [Zfn h.reg];exact JY _),Zfn h.reg];unfold Zfr;exact Zh fun l _=>by
  by_cases g:0≤s.at_ l
  ·rw [if_pos g,Vl g];grind
  ·rw [if_neg g,Xo (by omega) (by omega)];grind
theorem Zyh (h:Val p s) (h2:s.phase=2):∀r,r < p.right.length→Ym p (UK p s) p.cols.length r=qAt p.right r:=fun r hr=>by
 unfold Ym
 rw [Zh (g:=fun j=>VG s (zL p s) (zL p s).length j * p.col (j:Int) r) fun j hj=>by rw [Zta j hj],Znj (m:=p.right.length) h.range h.dup (fun j=>p.col (j:Int) r) _ (by rw [Zfn h.reg];exact JY _),Zfn h.reg,← Ycl h.reg r hr]
 unfold X6
 exact Zh fun l hl=>by
  show _=p.col (s.at_ l) r * _
  by_cases g:0≤s.at_ l
  ·rw [if_pos g,Int.toNat_of_nonneg g];grind
  ·rw [if_neg g,h.art h2 l hl (by omega)];grind
theorem Yok (h:Val p s) (k:Nat):0≤qAt (zL p s) k:=by
 rcases JX k p.right.length with e | e
 ·exact h.pos k e
 ·rw [Zuf (by rw [Zfn h.reg];exact e)];exact Rat.le_refl
theorem Zel {q:Rat} (h:0≤q):0≤qs q:=Int.not_lt.1 fun g=>by have:=Wj.1 g;grind
theorem Ylb {xs:List RF} (he:lpErr p=0) (hl:xs.length=p.cols.length) (hp:∀j,j < p.cols.length→0≤qAt xs j) (ht:∀r,r < p.right.length→Ym p xs p.cols.length r=qAt p.right r):VW p xs=true:=by
 rw [Yjm he hl (Zmc fun i hi=>Zel (hp i (by rw [← hl];exact hi)))];exact Yes (Zc _ _) fun i hi=>by rw [Zc] at hi;rw [Yr hi,ht i hi]
theorem primL_length:(UK p s).length=p.cols.length:=by unfold UK;exact Zc _ _
theorem Zqk (he:lpErr p=0) (h:Val p s) (h2:s.phase=2):VW p (UK p s)=true:=
 Ylb he primL_length (fun j hj=>by rw [Zta j hj];exact Zqj (Yok h) _ _) (Zyh h h2)
theorem Zvq (hq:Zle p s=none):∀j,j < p.cols.length→0≤Wy p s (j:Int):=fun j hj=>Rat.not_lt.1 (Zal hq j (Nat.zero_le _) (by omega))
theorem Zql (j:Int):Yhu p s j=Zgf (YH p s) (p.col j) p.right.length:=Zh fun r _=>by grind
theorem Ynf (h:Val p s) (h2:s.phase=2) (hq:Zle p s=none):Zgg p (YH p s) p.cols.length:=fun j hj=>by
 have:=Zvq hq j hj
 rw [Zge h.reg,h2,Vl (by omega),JP,Zql] at this
 grind
theorem Zll (h:Val p s):Xv (YH p s) p.right p.right.length=Zfr p s.phase s:=by
 rw [← Ygd h.reg];exact Zh fun r _=>by grind
theorem Yng (h:Yh p s=1):Zle p s=none∧s.phase≠1:=by
 cases e:Zle p s with
 | none=>
  rw [(XQ e).1] at h;refine ⟨rfl,fun g=>?_⟩;rw [if_pos g] at h;omega
 | some j=>rw [(Xb e).1] at h;split at h <;> omega
theorem Ynh (h:Yh p s=2):Zle p s=none∧s.phase=1:=by
 cases e:Zle p s with
 | none=>
  rw [(XQ e).1] at h;by_cases g:s.phase=1
  ·exact ⟨rfl,g⟩
  ·rw [if_neg g] at h;omega
 | some j=>rw [(Xb e).1] at h;split at h <;> omega
theorem Zqm {D:List RF}:∀{n:Nat},YN s D n=true→s.phase=2∧∀k,k < n→¬(0 < qAt D k∨(s.at_ k < 0∧qAt D k≠0))
 | 0,h=>⟨by simpa [YN] using h,fun k hk=>by omega⟩
 | n+1,h=>by
  unfold YN at h
  split at h
  ·cases h
  ·rename_i g
   obtain ⟨h1,h2⟩:=Zqm h
   refine ⟨h1,fun k hk=>?_⟩
   rcases JX k n with e | e
   ·exact h2 k e
   ·obtain rfl:k=n:=by omega
    exact g
theorem Yni (h:Yh p s=3):∃j:Nat,Zle p s=some j∧j < p.cols.length∧Wy p s (j:Int) < 0∧UJ p s=(j:Int)∧WS p s=dirL p s (j:Int)∧s.phase=2∧∀k,k < (dirL p s (j:Int)).length→¬(0 < qAt (dirL p s (j:Int)) k∨(s.at_ k < 0∧qAt (dirL p s (j:Int)) k≠0)):=by
 cases e:Zle p s with
 | none=>rw [(XQ e).1] at h;split at h <;> omega
 | some j=>
  have h1:=Xb e;rw [h1.1] at h;split at h
  ·rename_i g
   obtain ⟨g1,g2⟩:=Zqm g;have h2:=YM e;exact ⟨j,rfl,by omega,h2.2.2.1,h1.2.1,h1.2.2,g1,g2⟩
  ·omega
theorem Ynj (he:lpErr p=0) (h:Val p s) (hq:Yh p s=1):Zgm p (Zcm p s)=true:=by
 obtain ⟨h1,h2⟩:=Yng hq;have a:s.phase=2:=by have:=h.ph;omega
 rw [(Ygh hq).1];unfold Zgm;simp only [Bool.and_eq_true,beq_iff_eq];refine ⟨Yaf he (UB h.reg) (Ynf h a h1),Zqk he h a,?_⟩;rw [Zll h,Zyg h,a,Rat.sub_self];rfl
theorem Ylc (h:Val p s) (ss:X4 p s) (h1:s.phase=1):0 < Zfr p 1 s:=by
 have ha:UE s (zL p s) (zL p s).length=true:=by
  cases e:UE s (zL p s) (zL p s).length with
  | true=>rfl
  | false=>
   have h2:(settleQ p s).phase=s.phase:=congrArg LSt.phase ss;have h3:(settleQ p s).phase=2:=(by show (if UE s (zL p s) (zL p s).length=true then s.phase else 2)=2;rw [e,if_neg (by decide)]);omega
 have c:∃k,k < p.right.length∧s.at_ k < 0∧qAt (zL p s) k≠0:=by
  by_cases g:∃k,k < p.right.length∧s.at_ k < 0∧qAt (zL p s) k≠0
  ·exact g
  ·exfalso;rw [Zfq fun k hk b=>by
    by_cases e:qAt (zL p s) k=0
    ·exact e
    ·exact absurd ⟨k,by rw [← Zfn h.reg];exact hk,b,e⟩ g] at ha
   cases ha
 obtain ⟨k,hk,b,f⟩:=c;have a:∀i,i < p.right.length→0≤Xa p 1 (s.at_ i) * qAt (zL p s) i:=fun i hi=>by
  have:=h.pos i hi;by_cases g:s.at_ i < 0
  ·rw [Zag g];grind
  ·rw [Xo (by omega) (by omega)];grind
 have d:Xa p 1 (s.at_ k) * qAt (zL p s) k≤Zfr p 1 s:=by
  unfold Zfr;rw [← XU hk (Xa p 1 (s.at_ k) * qAt (zL p s) k)];exact Zif fun i hi=>by
   by_cases g:i=k
   ·rw [if_pos g,g];exact Rat.le_refl
   ·rw [if_neg g];exact a i hi
 rw [Zag b] at d;have:=h.pos k hk;grind
theorem Yhw (h:Val p s) (ss:X4 p s) (hq:Yh p s=2):Zjb p (Zcm p s)=true:=by
 obtain ⟨h1,h2⟩:=Ynh hq;rw [(Ygi hq).1];unfold Zjb;simp only [Bool.and_eq_true,decide_eq_true_eq];refine ⟨fun j hj=>?_,?_⟩
 ·have:=Zvq h1 j hj;rw [Zge h.reg,h2,Xo (by omega) (by omega),Zql] at this;show Zgf (YH p s) _ _≤0;grind
 ·show 0 < qs (Xv (YH p s) p.right p.right.length);rw [Zll h,h2];exact Wl.2 (Ylc h ss h2)
theorem Ztb {n m:Nat} {D:List RF} {j:Nat} (hj:j < n) (hin:∀l,l < m→s.at_ l < n) (hdup:∀i,i < m→∀k,k < i→s.at_ i≠s.at_ k) (hne:∀l,l < m→s.at_ l≠(j:Int)) (f:Nat→Rat):∀k,k≤m→ZN (fun i=>Zen s D (j:Int) k i * f i) n=f j - ZN (fun l=>if 0≤s.at_ l then qAt D l * f (s.at_ l).toNat else 0) k
 | 0,_=>by
  rw [Y2,Xj hj fun i _ hi=>by show (if (j:Int)=(i:Int) then (1:Rat) else 0) * f i=0;rw [if_neg (by omega)];grind]
  show (if (j:Int)=(j:Int) then (1:Rat) else 0) * f j=_
  rw [if_pos rfl];grind
 | k+1,hk=>by
  have ih:=Ztb hj hin hdup hne f k (by omega) (D:=D)
  rw [ZC]
  by_cases h0:0≤s.at_ k
  ·rw [if_pos h0]
   obtain ⟨j0,hj0⟩:=JT h0
   have hjn:j0 < n:=by have:=hin k (by omega);omega
   rw [hj0,JP]
   have hz:Zen s D (j:Int) k j0=0:=by
    have a:∀q,q≤k→Zen s D (j:Int) q j0=0:=by
     intro q
     induction q with
     | zero=>intro _;show (if (j:Int)=(j0:Int) then (1:Rat) else 0)=0;rw [if_neg fun e=>hne k (by omega) (by rw [hj0,e])]
     | succ q ihq=>intro hq;rw [VE,if_neg fun e=>hdup k (by omega) q (by omega) (by rw [hj0,e])];exact ihq (by omega)
    exact a k (JY _)
   have e:ZN (fun i=>Zen s D (j:Int) (k+1) i * f i) n=ZN (fun i=>Zen s D (j:Int) k i * f i+(if i=j0 then -(qAt D k * f j0) else 0)) n:=Zh fun i _=>by
    rw [VE,hj0];by_cases g:i=j0
    ·subst g;rw [if_pos rfl,if_pos rfl,hz];grind
    ·rw [if_neg (by omega),if_neg g];grind
   rw [e,Wi,XU hjn,ih];grind
  ·rw [if_neg h0];have e:ZN (fun i=>Zen s D (j:Int) (k+1) i * f i) n=ZN (fun i=>Zen s D (j:Int) k i * f i) n:=Zh fun i _=>by rw [VE,if_neg (by omega)]
   rw [e,ih];grind
theorem Zvr {D:List RF} {j:Int} {n:Nat} (h:∀k,k < n→qAt D k≤0):∀(k i:Nat),k≤n→0≤Zen s D j k i
 | 0,i,_=>by show (0:Rat)≤(if j=(i:Int) then 1 else 0);split <;> decide
 | k+1,i,hk=>by
  rw [VE];split
  ·have:=h k (by omega);grind
  ·exact Zvr h k i (by omega)
theorem Yhx (he:lpErr p=0) (h:Val p s) (hq:Yh p s=3):Zfh p (Zcm p s)=true:=by
 obtain ⟨j,u,hj,a,hJ,hD,h2,n⟩:=Yni hq;have d:=Zfo h.reg (j:Int);have m:∀l,l < p.right.length→s.at_ l≠(j:Int):=fun l hl e=>by
  rw [← e,Zak h.reg hl] at a;exact absurd a (by decide)
 have o:∀k,k < p.right.length→qAt (dirL p s (j:Int)) k≤0:=fun k hk=>Rat.not_lt.1 fun g=>n k (by rw [d];exact hk) (.inl g)
 have q:∀k,k < p.right.length→s.at_ k < 0→qAt (dirL p s (j:Int)) k=0:=fun k hk ha=>by
  by_cases e:qAt (dirL p s (j:Int)) k=0
  ·exact e
  ·exact absurd (.inr ⟨ha,e⟩) (n k (by rw [d];exact hk))
 have b:Zlj p s=ZQ p.cols.length (Zen s (dirL p s (j:Int)) (j:Int) p.right.length):=by unfold Zlj;rw [hD,hJ,d]
 have f:∀i,i < p.cols.length→qAt (Zlj p s) i=Zen s (dirL p s (j:Int)) (j:Int) p.right.length i:=fun i hi=>by rw [b,Yr hi]
 rw [(Ycq hq).1];unfold Zfh;simp only [Bool.and_eq_true,decide_eq_true_eq];refine ⟨Zqk he h h2,Zmc fun i hi=>?_,Zko fun r hr=>?_,?_⟩
 ·have t:i < p.cols.length:=by rw [b,Zc] at hi;exact hi
  show 0≤qs (qAt (Zlj p s) i);rw [f i t];exact Zel (Zvr o _ i (JY _))
 ·show Ym p (Zlj p s) p.cols.length r=qAt [] r;unfold Ym;rw [Zh (g:=fun i=>Zen s (dirL p s (j:Int)) (j:Int) p.right.length i * p.col (i:Int) r) fun i hi=>by rw [f i hi],Ztb hj h.range h.dup m (fun i=>p.col (i:Int) r) _ (JY _),← Zeg h.reg (j:Int) r hr];unfold X6;have e:ZN (fun c=>s.mat p c r * qAt (dirL p s (j:Int)) c) p.right.length=ZN (fun l=>if 0≤s.at_ l then qAt (dirL p s (j:Int)) l * p.col (((s.at_ l).toNat:Nat):Int) r else 0) p.right.length:=Zh fun l hl=>by
   show p.col (s.at_ l) r * _=_;by_cases g:0≤s.at_ l
   ·rw [if_pos g,Int.toNat_of_nonneg g];grind
   ·rw [if_neg g,q l hl (by omega)];grind
  rw [e,Rat.sub_self];rfl
 ·show qs (Xv p.cost (Zlj p s) p.cols.length) < 0;refine Wj.2 ?_;unfold Xv;rw [Zh (g:=fun i=>Zen s (dirL p s (j:Int)) (j:Int) p.right.length i * qAt p.cost i) fun i hi=>by rw [f i hi];grind,Ztb hj h.range h.dup m (fun i=>qAt p.cost i) _ (JY _)];rw [Zge h.reg,Zgz h.reg,h2,Vl (by omega),JP] at a;have e:ZN (fun i=>Xa p 2 (s.at_ i) * qAt (dirL p s (j:Int)) i) p.right.length=ZN (fun l=>if 0≤s.at_ l then qAt (dirL p s (j:Int)) l * qAt p.cost (s.at_ l).toNat else 0) p.right.length:=Zh fun l hl=>by
   by_cases g:0≤s.at_ l
   ·rw [if_pos g,Vl g];grind
   ·rw [if_neg g,Xo (by omega) (by omega)];grind
  rw [e] at a;exact a
theorem Zqn (he:lpErr p=0) (h:Val p s) (ss:X4 p s) (hq:Yh p s≠0):Znm p (Zcm p s)=0∧(Zcm p s).st=Yh p s∧Zyq p s=0:=by
 rcases UC p s with e | e | e | e
 ·exact absurd e hq
 ·have h1:=Ygh e;have hs:(Zcm p s).st=1:=by rw [h1.1]
  refine ⟨Zpq he (by omega) ?_ ?_,by rw [hs,e],h1.2⟩
  ·refine Zfg ?_ ?_ ?_
   ·unfold shX;rw [hs,if_neg (by decide),h1.1];exact primL_length
   ·unfold shY;rw [hs,if_neg (by decide),h1.1];exact UB h.reg
   ·unfold shR;rw [hs,if_neg (by decide),h1.1];rfl
  ·unfold holdB;rw [if_pos hs];exact Ynj he h e
 ·have h1:=Ygi e;have hs:(Zcm p s).st=2:=by rw [h1.1]
  refine ⟨Zpq he (by omega) ?_ ?_,by rw [hs,e],h1.2⟩
  ·refine Zfg ?_ ?_ ?_
   ·unfold shX;rw [hs,if_pos rfl,h1.1];rfl
   ·unfold shY;rw [hs,if_neg (by decide),h1.1];exact UB h.reg
   ·unfold shR;rw [hs,if_neg (by decide),h1.1];rfl
  ·unfold holdB;rw [if_neg (by omega),if_pos hs];exact Yhw h ss e
 ·have h1:=Ycq e;have hs:(Zcm p s).st=3:=by rw [h1.1]
  have a:(Zlj p s).length=p.cols.length:=by unfold Zlj;exact Zc _ _
  refine ⟨Zpq he (by omega) ?_ ?_,by rw [hs,e],h1.2⟩
  ·refine Zfg ?_ ?_ ?_
   ·unfold shX;rw [hs,if_neg (by decide),h1.1];exact primL_length
   ·unfold shY;rw [hs,if_pos rfl,h1.1];rfl
   ·unfold shR;rw [hs,if_pos rfl,h1.1];exact a
  ·unfold holdB;rw [if_neg (by omega),if_neg (by omega)];exact Yhx he h e
end
end Pl
end
section
namespace Pl
section
variable {p:LPd} {s:LSt}
theorem Ynk (h:Val p s) (ss:X4 p s) (hq:Yh p s=2) {xs:List RF} (hx:∀j,j < p.cols.length→0≤qAt xs j) (ht:∀r,r < p.right.length→Ym p xs p.cols.length r=qAt p.right r):False:=by
 have hh:=Yhw h ss hq;unfold Zjb at hh;simp only [Bool.and_eq_true,decide_eq_true_eq] at hh;have hw:=weak (p:=⟨[],p.cols,p.right⟩) (xs:=xs) (ys:=(Zcm p s).y) (fun j hj=>by
  have:=hh.1 j hj;show Zgf (Zcm p s).y (LPd.col ⟨[],p.cols,p.right⟩ (j:Int)) p.right.length≤qAt [] j;have e:LPd.col ⟨[],p.cols,p.right⟩ (j:Int)=p.col (j:Int):=rfl;rw [e];simpa [qAt] using this) hx ht
 have e:∀n,Xv ([]:List RF) xs n=0:=fun n=>WP fun i _=>by show qAt [] i * _=0;rw [show qAt ([]:List RF) i=0 from rfl];grind
 have h':Xv (Zcm p s).y p.right p.right.length≤Xv ([]:List RF) xs p.cols.length:=hw;rw [e] at h';have:=Wl.1 hh.2;grind
theorem Yld (he:lpErr p=0) (h:Val p s) (hq:Yh p s=3) (hc:∀j,j < p.cols.length→0≤qAt p.cost j):False:=by
 have hh:=Yhx he h hq;rw [(Ycq hq).1] at hh;unfold Zfh at hh;simp only [Bool.and_eq_true,decide_eq_true_eq] at hh;obtain ⟨_,h1,_,h2⟩:=hh;have h3:=Wj.1 h2;have h4:0≤Xv p.cost (Zlj p s) p.cols.length:=Zrw fun j hj=>by
  have hl:(Zlj p s).length=p.cols.length:=by unfold Zlj;exact Zc _ _
  have h5:0≤qs (qAt (Zlj p s) j):=by
   have:=h1;simp only [nnB,decide_eq_true_eq] at this;exact this j (by rw [hl];exact hj)
  have h6:0≤qAt (Zlj p s) j:=Rat.not_lt.1 fun g=>by have:=Wj.2 g;omega
  exact Rat.mul_nonneg (hc j hj) h6
 grind
end
end Pl
end
def Ylf (w:World) (e:Ending) (w':World):Prop:=
 ∃v1 v2 p xs,e= .returned (.tuple #[v1,v2])∧LpM w' v1 p∧Y1 w' v2 xs∧Zpa p∧RsL 32 p.right∧RsL 2 xs∧xs.length=p.cols.length∧NN xs∧(∀i,i < p.right.length→qAt p.right i=Ym p xs p.cols.length i)∧(∀j,j < p.cols.length→0≤qAt p.cost j)∧Below w.heap.size w w'
theorem Zqu (v:Value) (zs:List Int) (w:World) (h:Xq w v zs):
 Calls Tryz.prog 14 #[v] w (Ylf w):=by
 obtain ⟨a,cap,rfl,aw,ax⟩:=h.shape;generalize hn:zs.length=n at *;clear hn;obtain ⟨W,hW,hR,u⟩:=Yc w (.slice none 0 0) (.slice none 0 0) (.slice none 0 0);have az:W.heap.size=w.heap.size+1:=by rw [← hW];simp
 go_enter Tryz.func14,Tryz.ntmps14;go_wp2_with fail;clear hW;refine (Zex _ zs _ (h.below u)).mono ?_;rintro _ w1 ⟨v1,v2,p,xs,b2,rfl,hp,hx,ba,ae,D,hr,af,ag,ah,ai,Y⟩;obtain ⟨s0,s1,s2,b1,rfl,hO,hV,U,b4,L⟩:=hp;have I:=fun g=>ae s0 s1 s2 g rfl
 have Z:=hR.later Y;have z:=Za u Y u.size;obtain ⟨A0,n0,c0,rfl⟩:=hO.sliceN;obtain ⟨A1,n1,c1,rfl⟩:∃A n c,s1= .slice A n c:=by obtain ⟨A,c,e,_⟩:=hV.shape;exact ⟨A,_,c,e⟩
 obtain ⟨A2,m,c2,rfl⟩:=U.sliceN;obtain ⟨Ax,nx,cx,rfl⟩:=hx.sliceN;obtain ⟨N1,N2,N3⟩:=hO.frs.len;have b0:n0≤5:=by rw [N1,D.2.2.2.1];exact D.2.2.1
 have C:=D.2.2.2.2.1;obtain ⟨W2,ay,hX,t⟩:=Yc w1 (.slice A0 n0 c0) (.slice A1 n1 c1) (.slice A2 m c2);have a0:=Z.later t;have J:=Za z t z.size;have a1:=hO.below t;have a2:=hV.below t;have a3:=U.below t;have a4:=hx.below t;have ak:=JZ D;have al:=JZ (⟨hr,af,ag,ah,ai⟩:RsL 32 p.right∧RsL 2 xs∧xs.length=p.cols.length∧NN xs∧∀i,i < p.right.length→qAt p.right i=Ym p xs p.cols.length i);have am:=JZ L;have an:=JZ I;have N:p.cost.length=n0:=N1.symm;have a5:=JZ N;clear ae I L D hr af ag ah ai hR Z u z Y t hO hV U hx h aw ax N1 N2 N3;obtain ⟨x0,x1,x2⟩:=hX.three;go_wp2;clear ay x0 x1 x2
 go_loopw [6] (fun x wr=>∃(j:Nat) (cs:List RF),j≤n0∧x= .int .i64 j∧cs.length=n0∧RsL 1 cs∧(∀i,i < j→0≤qAt cs i)∧Below w.heap.size w wr∧Bk wr w.heap.size 26 [.slice none 0 0,.slice none 0 0,.slice none 0 0]∧Bk wr w1.heap.size 26 [.slice A0 n0 c0,.slice A1 n1 c1,.slice A2 m c2]∧ZU W.heap.size wr (.slice A0 n0 c0) cs∧XW wr (.slice A1 n1 c1) p.cols∧ZU b1 wr (.slice A2 m c2) p.right∧ZU b2 wr (.slice Ax nx cx) xs) (fun x _=>n0 - (intOf x).toNat)
 case atStart=>exact ⟨0,_,by omega,rfl,N,C,fun i hi=>by omega,J,a0,hX,a1,a2,a3,a4⟩
 case round=>
  clear N C J a0 hX a1 a2 a3 a4;obtain ⟨j,cs,hj,rfl,V,C,M,s,hR,hX,hO,hV,hT,hx⟩:=hrel;have E:=JZ C;have O:=JZ M;clear C M;obtain ⟨x0,x1,x2⟩:=hX.three;rcases JX j n0 with hjl | hjl
  ·obtain ⟨g,cg,e,b5,-,-,-⟩:=hO.shape (by omega);injection e with e1 e2 e3;subst e1 e3;clear e2;have ao:=JZ (am.out g rfl);have ap:=JZ (an.out g rfl);obtain ⟨fj,H⟩:∃fj,cs[j]? =some fj:=⟨_,JQ (by omega)⟩;obtain ⟨u0,u1,u2,u3,⟨c0,c1,c2,c3⟩,⟨f0,f1,f2,f3⟩,hm⟩:=hO.at_ H;obtain ⟨B,k,d,B',k',d',ey,_,_⟩:=id hm;injection ey with ey;simp at ey;obtain ⟨rfl,rfl,rfl,rfl⟩:=ey;have P:=JZ H;have R:Hid (fj.Rs 1):=JZ (E.out j fj H);clear H f0 f1 f2 f3;go_wp2_with fail;refine (Z4 _ fj _ hm (R.out.sh (by decide))).mono ?_;rintro _ w3 ⟨rfl,r⟩;replace hR:=hR.later r;replace hX:=hX.later r;replace hO:=hO.below r;replace hV:=hV.below r;replace hT:=hT.below r;replace hx:=hx.below r;replace s:=Za s r s.size;replace hm:=hm.below r;clear c0 c1 c2 c3 x0 x1 x2 r;obtain ⟨x0,x1,x2⟩:=hX.three;by_cases hq:fj.q < 0
   ·have hs:qs fj.q < 0:=Wj.2 hq;have a6:=JZ hq;clear hq;generalize qs fj.q=sg at hs ⊢;obtain ⟨b6,b7,b8,b9,⟨c0,c1,c2,c3⟩,⟨f0,f1,f2,f3⟩,X⟩:=hO.at_ P.out;obtain ⟨Q1,k1,d1,Q2,k2,d2,ey,_,_⟩:=id X;injection ey with ey;simp at ey;obtain ⟨rfl,rfl,rfl,rfl⟩:=ey;go_wp2_with fail;have C0:=Zl x0;have C1:=Zl x1;have C2:=Zl x2;have C3:=Zl c0;have C4:=Zl c1;have C5:=Zl c2;have C6:=Zl c3;have F:=Zj w3;clear x0 x1 x2 c0 c1 c2 c3 f0 f1 f2 f3 hs;refine Zn 10 [0,1,2,3,4,5,6,7,8,9,10] (by kernel_rfl) (by kernel_rfl) ?_;repeat ((first|(first|refine Zb (v:=?_) rfl rfl rfl ?_ ?_ |refine Zd (v:=?_) rfl rfl rfl ?_ ?_);rotate_left;·(intro _ _;go_simp;(try go_bits);(try with_reducible rfl))|refine Ze rfl rfl rfl ?_);(try simp only [py]))
    refine Zf rfl rfl (fun _ kq=>?_);go_simp;(with_reducible refine (Zfv _ fj _ (X.below F) (R.out.sh (by decide))).mono ?_);rintro _ w4 ⟨v4,rfl,e4,aj⟩;have b:=Za F aj F.size;obtain ⟨Q3,k3,d3,Q4,k4,d4,rfl,_,_⟩:=id e4.frac;have S:=e4.frac;clear e4;obtain ⟨Q,hQ⟩:∃Q:RF,Q=canF (-fj.q):=⟨_,rfl⟩;have HQ:=JZ hQ;rw [← hQ] at S ⊢;clear hQ;have T:=hO.below b;obtain ⟨_,_,_,_,⟨c0,c1,c2,c3⟩,⟨f0,f1,f2,f3⟩,_⟩:=T.at_ P.out;refine kq.out _ _ (.inr b) ?_;clear kq;(try simp only [py]);repeat ((first|(first|refine Zb (v:=?_) rfl rfl rfl ?_ ?_ |refine Zd (v:=?_) rfl rfl rfl ?_ ?_);rotate_left;·(intro _ _;go_simp;(try go_bits);(try with_reducible rfl))|refine Ze rfl rfl rfl ?_);(try simp only [py]))
    refine Zf rfl rfl (fun _ kq=>?_);go_simp;refine kq.out _ _ (.inl (by decide)) ?_;clear kq;(try simp only [py]);refine Zv ?_;clear C0 C1 C2 C3 C4 C5 C6 c0 c1 c2 c3 f0 f1 f2 f3 hm X;obtain ⟨ac,y⟩:=T.set_ (k:=j) (by omega) S;have a7:=(hT.below b).far4 (i:=j * 4) (j:=j * 4+1) (k:=j * 4+2) (l:=j * 4+3) ao.out _ rfl y;have a8:=(hx.below b).far4 (i:=j * 4) (j:=j * 4+1) (k:=j * 4+2) (l:=j * 4+3) ap.out _ rfl y;have G:=y.bk (hR.later b) (by decide);have a9:=y.bk (hX.later b) (by decide);have aa:=(hV.below b).but y (by decide) (by decide) (by decide);have K:=Zx (g:=g) (Za s b s.size) (show w.heap.size≤g by omega) (j * 4) (j * 4+1) (j * 4+2) (j * 4+3) (.bool Q.num.neg) (.slice Q3 k3 d3) (.bool Q.den.neg) (.slice Q4 k4 d4);obtain ⟨w5,ad⟩:∃w5,w5=(((w4.setCell ⟨g,j * 4,none⟩ (.bool Q.num.neg)).setCell ⟨g,j * 4+1,none⟩ (.slice Q3 k3 d3)).setCell ⟨g,j * 4+2,none⟩ (.bool Q.den.neg)).setCell ⟨g,j * 4+3,none⟩ (.slice Q4 k4 d4):=⟨_,rfl⟩;rw [← ad] at ac a7 a8 G a9 aa K ⊢;clear ad y T hO hT hx hR hX hV s F b aj S;have ab:(cs.set j Q).length=n0:=(by rw [List.length_set];exact V);have aq:Hid (RsL 1 (cs.set j Q)):=JZ fun i f hf=>by
     rw [List.getElem?_set] at hf;by_cases e:j=i
     ·subst e;rw [if_pos rfl,if_pos (by omega)] at hf;injection hf with hf;subst hf;rw [HQ.out];exact (Zki (R.out.sz (by decide))).rs
     ·rw [if_neg e] at hf;exact E.out i f hf
    have ar:Hid (∀i,i < j+1→0≤qAt (cs.set j Q) i):=JZ fun i hi=>by
     by_cases e:j=i
     ·subst e;rw [ZF (f:=Q) (by rw [List.getElem?_set,if_pos rfl,if_pos (by omega)]),HQ.out,Zr];have:=a6.out;grind
     ·have h1:qAt (cs.set j Q) i=qAt cs i:=(by unfold qAt;rw [List.getElem?_set,if_neg e]);rw [h1];exact O.out i (by omega)
    go_wp2;go_roundw
    case rel=>exact ⟨j+1,cs.set j Q,by omega,by go_num,ab,aq.out,ar.out,K,G,a9,ac,aa,a7,a8⟩
    case measure=>simp [intOf];omega
   ·have hs:0≤qs fj.q:=Zel (Rat.not_lt.1 hq);have HQ:=JZ (Rat.not_lt.1 hq);clear hq;generalize qs fj.q=sg at hs ⊢;have b3:¬sg < 0:=(by omega);have au:Hid (∀i,i < j+1→0≤qAt cs i):=JZ fun i hi=>by
     rcases JX i j with h | h
     ·exact O.out i h
     ·obtain rfl:i=j:=by omega
      rw [ZF P.out];exact HQ.out
    go_wp2;go_roundw
    case rel=>exact ⟨j+1,cs,by omega,by go_num,V,E.out,au.out,s,hR,hX,hO,hV,hT,hx⟩
    case measure=>simp [intOf];omega
  ·obtain rfl:n0=j:=by omega
   obtain ⟨r0,r1,r2⟩:=hR.three;obtain ⟨f0,f1,f2⟩:=hR.threeF;go_wp2;have G:=((hR.set_ 0 (.slice A0 n0 c0)).set_ 1 (.slice A1 n1 c1)).set_ 2 (.slice A2 m c2);refine YX Tryz.results14 Tryz.underlying26 (by kernel_rfl) rfl G rfl ?_;have k1:=Zg.setCell hR 0 (.slice A0 n0 c0);have k2:=Zg.setCell (hR.set_ 0 (.slice A0 n0 c0)) 1 (.slice A1 n1 c1);have k3:=Zg.setCell ((hR.set_ 0 (.slice A0 n0 c0)).set_ 1 (.slice A1 n1 c1)) 2 (.slice A2 m c2);have k4:=(k1.trans k2).trans k3;obtain ⟨q1,q2,q3,q4,q5⟩:=al.out;have o:=ak.out;refine ⟨_,_,⟨cs,p.cols,p.right⟩,xs,rfl,⟨_,_,_,_,_,_,_,_,_,rfl,hO.frs.but k4 (by decide) (by decide),hV.but k4 (by decide) (by decide) (by decide),hT.frs.but k4 (by decide) (by decide)⟩,hx.frs.but k4 (by decide) (by decide),⟨o.1,o.2.1,o.2.2.1,?_,E.out,o.2.2.2.2.2⟩,q1,q2,q3,q4,q5,fun j hj=>O.out j ?_,?_⟩
   ·show cs.length=p.cols.length;rw [V,← a5.out];exact o.2.2.2.1
   ·have av:j < p.cols.length:=hj;rw [← a5.out,o.2.2.2.1];exact av
   ·exact ((s.setCell (p:=⟨w.heap.size,0,none⟩) (JY _) _).setCell (p:=⟨w.heap.size,1,none⟩) (JY _) _).setCell (p:=⟨w.heap.size,2,none⟩) (JY _) _
end Go.Proofs.YtgbhebappffbdaaGreat
namespace Go.Proofs.YtgbhebappffbdaaGreat
open Go.RowKit
open Pl
attribute [local go_sem ↓] Go.wp_at_zero Go.wp_at_succ
section
def Zvi (base bi:Nat) (w:World) (v:Value) (T n:Nat) (k:Nat→Nat) (im:Mx):Prop:=
 ∃cs,w.ownsRow base 166 2 v T cs∧∀t,t < T→∃u,cs[t * 2]? =some (.int .i64 (k t:Int))∧cs[t * 2+1]? =some u∧ZU bi w u (ZQ n (im t))
section
variable {base bi:Nat} {w w':World} {v:Value} {T n:Nat} {k:Nat→Nat} {im:Mx}
theorem Zvi.below (h:Zvi base bi w v T n k im) (hb:Below w.heap.size w w'):Zvi base bi w' v T n k im:=by
 obtain ⟨cs,h1,h2⟩:=h;exact ⟨cs,own_below h1 hb,fun t ht=>by
  obtain ⟨u,e1,e2,e3⟩:=h2 t ht;exact ⟨u,e1,e2,e3.below hb⟩⟩
theorem Zvi.but {e:TypeId} (h:Zvi base bi w v T n k im) (hk:Zg e w w') (h1:166≠e) (h2:46≠e) (h3:148≠e):Zvi base bi w' v T n k im:=by
 obtain ⟨cs,g1,g2⟩:=h;exact ⟨cs,hk.own g1 h1,fun t ht=>by
  obtain ⟨u,e1,e2,e3⟩:=g2 t ht;exact ⟨u,e1,e2,e3.but hk h2 h3⟩⟩
theorem Zvi.nil (base bi:Nat) (w:World) (n:Nat) (k:Nat→Nat) (im:Mx):Zvi base bi w (.slice none 0 0) 0 n k im:=⟨[],World.ownsRow_nil _ _ _ _,fun t ht=>absurd ht (by omega)⟩
end
def Zsu (base bi:Nat) (w:World) (g n K:Nat) (Cs:Mx):Prop:=
 ∃(T gc cc:Nat) (k R C:Nat→Nat) (im V L Um:Mx) (CC:Nat→Mx) (s0 s1 s2 s3 vu:Value),
  Bk w g 163 [.int .i64 (n:Int),.slice (some ⟨gc,0,none⟩) n cc,s0,s1,s2,s3,vu]∧(base≤g∧T≤16∧5^n * K≤4000000∧CC T=Cs)∧Ups n K T k im V CC∧Zsg n (5^n * K) (trM (CC 0)) R C L Um∧
  YF base w (.slice (some ⟨gc,0,none⟩) n cc) (vcL n Cs)∧ZP base w s0 (Zpi n R)∧ZP base w s1 (Zpi n C)∧YF (gc+1) w s2 (vcL n L)∧YF (gc+1) w s3 (vcL n Um)∧Zvi base bi w vu T n k im
section
variable {base bi g n K:Nat} {w w':World} {Cs:Mx}
theorem Zsu.below (h:Zsu base bi w g n K Cs) (hb:Below w.heap.size w w'):Zsu base bi w' g n K Cs:=by
 obtain ⟨T,gc,cc,k,R,C,im,V,L,Um,CC,s0,s1,s2,s3,vu,h1,h2,h3,h4,h5,h6,h7,h8,h9,a⟩:=h;exact ⟨T,gc,cc,k,R,C,im,V,L,Um,CC,s0,s1,s2,s3,vu,h1.later hb,h2,h3,h4,h5.below hb,h6.below hb,h7.below hb,h8.below hb,h9.below hb,a.below hb⟩
theorem Zsu.but {e:TypeId} (h:Zsu base bi w g n K Cs) (hk:Zg e w w') (e1:163≠e) (e2:66≠e) (e3:83≠e) (e4:148≠e) (e5:3≠e) (e6:166≠e) (e7:46≠e):Zsu base bi w' g n K Cs:=by
 obtain ⟨T,gc,cc,k,R,C,im,V,L,Um,CC,s0,s1,s2,s3,vu,h1,h2,h3,h4,h5,h6,h7,h8,h9,a⟩:=h;exact ⟨T,gc,cc,k,R,C,im,V,L,Um,CC,s0,s1,s2,s3,vu,hk.bk h1 e1,h2,h3,h4,h5.but hk e2 e3 e4,h6.but hk e5,h7.but hk e5,h8.but hk e2 e3 e4,h9.but hk e2 e3 e4,a.but hk e6 e7 e4⟩
theorem ZP.nshape {base:Nat} {w:World} {v:Value} {n:Nat} {R:Nat→Nat} (h:ZP base w v (Zpi n R)):∃A c,v= .slice A n c:=by
 obtain ⟨A,m,c,rfl⟩:=h.sliceN;have:=h.len;rw [Ziw] at this;subst this;exact ⟨A,c,rfl⟩
theorem YF.nshape {base:Nat} {w:World} {v:Value} {n:Nat} {L:Mx} (h:YF base w v (vcL n L)):∃A c,v= .slice A n c:=by
 obtain ⟨A,c,rfl⟩:=h.slice;rw [Zfa];exact ⟨A,c,rfl⟩
theorem Yho {w:World} {g n:Nat} {vn vc s0 s1 s2 s3 vu:Value} {R C:Nat→Nat} {L Um:Mx} {b0 b1 b2 b3:Nat} (h:Bk w g 163 [vn,vc,s0,s1,s2,s3,vu]) (h6:ZP b0 w s0 (Zpi n R)) (h7:ZP b1 w s1 (Zpi n C)) (h8:YF b2 w s2 (vcL n L)) (h9:YF b3 w s3 (vcL n Um)):Ylh w g 2 n R C L Um:=by
 obtain ⟨A0,c0,rfl⟩:=h6.nshape;obtain ⟨A1,c1,rfl⟩:=h7.nshape;obtain ⟨A2,c2,rfl⟩:=h8.nshape;obtain ⟨A3,c3,rfl⟩:=h9.nshape;exact ⟨A0,c0,A1,c1,A2,c2,A3,c3,⟨h.cellAt 2 rfl,h.cellAt 3 rfl,h.cellAt 4 rfl,h.cellAt 5 rfl⟩,h6.ints,h7.ints,h8.vecs,h9.vecs⟩
end
namespace Pl
theorem Good.enI {n:Nat} {es:List En} (h:Good n es) (hn:n≤4096):EnI es:=fun k e he=>by have:=h.1 k e he;omega
end Pl
def Yos (n K:Nat) (Cs:Mx) (w:World) (o:Ending) (w':World):Prop:=
 Below w.heap.size w w'∧((∃g,o= .returned (.tuple #[.pointer (some ⟨g,0,none⟩),.int .i64 0])∧Wm n Cs∧∀bi,Zsu w.heap.size bi w' g n K Cs)∨(o= .returned (.tuple #[.pointer none,.int .i64 13])∧¬Wm n Cs))
end
namespace Pl
def Zgv (k:Nat) (im x:Nat→Rat) (i:Nat):Nat→Rat:=fun j=>if j=k then x k / im k else if j < i then x j - im j * (x k / im k) else x j
theorem Yfy {k n:Nat} {im x:Nat→Rat} {j:Nat} (hj:j < n):Zgv k im x n j=Zxg k im x j:=by
 unfold Zgv Zxg;by_cases e:j=k
 ·rw [if_pos e,if_pos e]
 ·rw [if_neg e,if_neg e,if_pos hj]
theorem Zpz {k i:Nat} {im x:Nat→Rat} (h:i=k∨im i=0) (j:Nat):Zgv k im x i j=Zgv k im x (i+1) j:=by
 unfold Zgv;by_cases e:j=k
 ·rw [if_pos e,if_pos e]
 ·rw [if_neg e,if_neg e];by_cases e2:j < i
  ·rw [if_pos e2,if_pos (by omega)]
  ·rw [if_neg e2];by_cases e3:j=i
   ·subst e3;rw [if_pos (by omega)];rcases h with h | h
    ·exact absurd h e
    ·rw [h];grind
   ·rw [if_neg (by omega)]
theorem Ybw {k i:Nat} {im x:Nat→Rat} (h:i≠k) (j:Nat):Zgv k im x (i+1) j=if j=i then x i - im i * (x k / im k) else Zgv k im x i j:=by
 unfold Zgv;by_cases e:j=i
 ·subst e;rw [if_pos rfl,if_neg h,if_pos (by omega)]
 ·rw [if_neg e];by_cases e2:j=k
  ·rw [if_pos e2,if_pos e2]
  ·rw [if_neg e2,if_neg e2];by_cases e3:j < i
   ·rw [if_pos e3,if_pos (by omega)]
   ·rw [if_neg e3,if_neg (by omega)]
theorem Ybx {k i:Nat} {im x:Nat→Rat} (h:i≠k):Zgv k im x i i=x i:=by unfold Zgv;rw [if_neg h,if_neg (by omega)]
theorem Ymw {k i:Nat} {im x:Nat→Rat}:Zgv k im x i k=x k / im k:=by unfold Zgv;rw [if_pos rfl]
end Pl
theorem Zvi.shape {base bi:Nat} {w:World} {v:Value} {T n:Nat} {k:Nat→Nat} {im:Mx} (h:Zvi base bi w v T n k im):∃A c,v= .slice A T c∧T≤c∧c≤9223372036854775807:=by
 obtain ⟨cs,h1,_⟩:=h;exact (UD.of_own h1).shape
theorem Zvi.elem {base bi:Nat} {w wr:World} {A:Option Addr} {c T n:Nat} {k:Nat→Nat} {im:Mx} (h:Zvi base bi w (.slice A T c) T n k im) (hb:Below w.heap.size w wr) {t:Nat} (ht:t < T):
 ∃gu B d,A=some ⟨gu,0,none⟩∧gu < w.heap.size∧(wr.cell? ⟨gu,t * 2,none⟩=some (.int .i64 (k t:Int))∧wr.cell? ⟨gu,t * 2+1,none⟩=some (.slice B n d))∧(n≤d∧d≤9223372036854775807)∧Y1 wr (.slice B n d) (ZQ n (im t)):=by
 obtain ⟨cs,h1,h2⟩:=h;obtain ⟨u,e1,e2,e3⟩:=h2 t ht;obtain ⟨B,d,rfl⟩:=e3.slice;rw [Zc] at e2 e3;rcases h1.2 with ⟨e,hz⟩ | ⟨g',cap,cur,hv,hb',hg,hnc,hcm,hcs,htake⟩
 ·omega
 ·injection hv with a1 a2 a3;subst a1;obtain ⟨_,l2,l3⟩:=e3.frs.len;exact ⟨g',B,d,rfl,YA hg,⟨Zk hb (ZV h1 e1).1,Zk hb (ZV h1 e2).1⟩,⟨l2,l3⟩,e3.frs.below hb⟩
theorem Zxw (base bi g n K:Nat) (Cs:Mx) (vc:Value) (b:Nat→Rat) (w:World) (hB:Zsu base bi w g n K Cs) (h2:Y1 w vc (ZQ n b)) (hb:∀i,i < n→Sz K (b i)):
 Calls Tryz.prog 142 #[.pointer (some ⟨g,0,none⟩),vc] w fun o w'=>∃v' x,o= .returned v'∧(∀r,r < n→X6 n Cs x r=b r)∧(∀i,i < n→Sz (5^n * K) (x i))∧ZU w.heap.size w' v' (ZQ n x)∧Below w.heap.size w w':=by
 obtain ⟨T,gc,cc,k,R,C,im,V,L,Um,CC,s0,s1,s2,s3,vu,hX,⟨d8,hT,hE,bq⟩,hU,hF,hO,i0,i1,v2,v3,aw⟩:=hB;obtain ⟨Au,cu,rfl,cv,cw⟩:=aw.shape;have aj:=Yho hX i0 i1 v2 v3;obtain ⟨x0,N⟩:∃x0,x0=solQ n R C L Um b:=⟨_,rfl⟩;have ab:∀r,r < n→X6 n (CC 0) x0 r=b r:=by rw [N];exact hF.fac.solQ b
 have an:=JZ (hU.xB ab hb);have b8:=JZ (hU.solves ab T (JY _));have cb:=JZ hU.imB;have cd:=JZ hU.kn;have ce:=JZ hU.nz;have HE:=JZ hE;have cf:Hid (K≤5^n * K):=JZ (Nat.le_mul_of_pos_left K (Nat.pow_pos (by decide)));have cg:=JZ bq;have b9:=JZ aw;have ch:∀i,i < n→Sz (5^n * K) (solQ n R C L Um b i):=fun i hi=>by rw [← N];exact hU.xB ab hb 0 (Nat.zero_le _) i hi
 have ci:=JZ N;obtain ⟨y0,y1⟩:w.cell? ⟨g,6,none⟩=some (.slice Au T cu)∧w.cell? ⟨g,0,none⟩=some (.int .i64 (n:Int)):=⟨hX.cellAt 6 rfl,hX.cellAt 0 rfl⟩;have d0:=hF.n7;have HF:=JZ hF;have cj:=JZ aj;have ck:K≤30 * (5^n * K):=by have:=cf.out;omega
 clear hU ab hE bq aw hX hO i0 i1 v2 v3 aj hF N;go_enter Tryz.func142,Tryz.ntmps142;go_wp2_with fail;refine (Zpl g 2 vc n (5^n * K) K (trM (CC 0)) R C L Um b _ cj.out h2 HF.out hb ck ch).mono ?_;rintro _ w1 ⟨v1,rfl,e1,b6⟩;rw [← ci.out] at e1;obtain ⟨A5,c5,br⟩:=e1.slice;rw [Zc] at br;subst br;obtain ⟨-,cy,cz⟩:=e1.frs.len;have y2:=Zk b6 y0;clear y0 y1 h2;go_wp2;clear y2
 go_loopw [19] (fun x wr=>∃t:Nat,t≤T∧x= .int .i64 t∧ZU w.heap.size wr (.slice A5 n c5) (ZQ n (xN k im x0 t))∧Below w.heap.size w wr) (fun x _=>T - (intOf x).toNat)
 case atStart=>exact ⟨0,by omega,rfl,e1,b6⟩
 case round=>
  clear e1 b6;obtain ⟨t,ht,rfl,hO,a⟩:=hrel;rcases JX t T with htl | htl
  ·have y:=cd.out t htl;obtain ⟨gx,cx,bs,bt,cs,-,-⟩:=hO.shape (by rw [Zc];omega);rw [Zc] at bs;injection bs with a1 a2 a3;subst a1;clear a2 a3 cx;obtain ⟨gu,B,d,rfl,-,⟨u0,u1⟩,⟨d1,d2⟩,ax⟩:=b9.out.elem a htl;obtain ⟨X,a7⟩:∃X,X=xN k im x0 t:=⟨_,rfl⟩;obtain ⟨M,J⟩:∃M,M=im t:=⟨_,rfl⟩;obtain ⟨kt,a8⟩:∃kt,kt=k t:=⟨_,rfl⟩;have ak:Hid (ZQ n (xN k im x0 (t+1))=ZQ n (Zxg kt M X)):=JZ (by rw [a7,J,a8];rfl);have ba:Hid (∀i,i < n→Sz (5^n * K) (X i)):=JZ fun i hi=>by rw [a7];exact an.out t ht i hi
   have ao:Hid (∀i,i < n→Sz (5^n * K) (M i)):=JZ fun i hi=>by rw [J];exact cb.out t htl i hi
   have cl:Hid (∀i,i < n→Sz (5^n * K) (Zxg kt M X i)):=JZ fun i hi=>by
    have:=an.out (t+1) (by omega) i hi;rw [a7,J,a8];exact this
   have cm:Hid (M kt≠0):=JZ (by rw [J,a8];exact ce.out t htl);rw [← a7] at hO;rw [← J] at ax;have bb:Hid (Y1 w (.slice B n d) (ZQ n M)):=JZ (by
    obtain ⟨_,B',d',a9,-,⟨-,e2⟩,-,h3⟩:=b9.out.elem (JR _ _) htl;injection a9 with a9;injection a9 with a9;subst a9;have e3:=Zk a e2;rw [u1] at e3;injection e3 with e3;injection e3 with b1 b2 b3;subst b1 b3;rw [J];exact h3)
   rw [← a8] at y u0;clear a7 J a8;obtain ⟨W1,bu,hV,ay⟩:∃W1,wr.alloc (.cells #[.int .i64 (kt:Int),.slice B n d] 166)=W1∧Bk W1 wr.heap.size 166 [.int .i64 (kt:Int),.slice B n d]∧Below wr.heap.size wr W1:=⟨_,rfl,Bk.new wr _ _,Zi wr _⟩;have O:=hO.below ay;have P:=ax.below ay;have u:=Za a ay a.size;obtain ⟨l,m,_,_⟩:=hV.two;have S:(ZQ n X)[kt]? =some (canF (X kt)):=ZE y;obtain ⟨bz,oz,A6,n6,c6,A7,n7,c7,hA,_,⟨t0,t1,t2,t3⟩,c⟩:=O.frs.elem (JR _ _) S;injection hA with hA;injection hA with hA1 hA2;subst hA1;subst hA2;simp only [Nat.zero_add] at t0 t1 t2 t3;have d3:(kt:Int) < n:=(by omega);have d4:(t:Int) < T:=(by omega);have U:qs (X kt)=0∨qs (X kt)=1∨qs (X kt)= -1:=(by have:=UY (X kt);omega);clear hO a ax;by_cases p:qs (X kt)=0
   ·have cn:=JZ (Z5.1 p);clear U;go_wp2_with fail;clear bu;refine (ZA _ (canF (X kt)) _ c).mono ?_;rw [Zr,p];rintro _ w2 ⟨rfl,s⟩;have Y:=O.below s;have D:=Za u s u.size;clear O u P hV t0 t1 t2 t3 c l m u0 u1 s p;go_wp2;go_roundw
    case rel=>exact ⟨t+1,by omega,by go_num,by rw [ak.out,ZO fun i hi=>Yay cn.out i];exact Y,D⟩
    case measure=>simp [intOf];omega
   ·have ap:(qs (X kt)==0)=false:=(by simpa using p);clear U p;go_wp2_with fail;clear bu;refine (ZA _ (canF (X kt)) _ c).mono ?_;rw [Zr];rintro _ w2 ⟨rfl,s⟩;have Y:=O.below s;have al:=P.below s;have aq:=hV.later s;have D:=Za u s u.size;have bc:=c.below s;have d5:w.heap.size < wr.heap.size∧gx < wr.heap.size:=⟨by omega,cs⟩;clear O u P hV t0 t1 t2 t3 c l m u0 u1;obtain ⟨l,m,_,_⟩:=aq.two;obtain ⟨bz,oz,A6,n6,c6,A7,n7,c7,hA,_,⟨t0,t1,t2,t3⟩,c⟩:=Y.frs.elem (JR _ _) S;injection hA with hA;injection hA with hA1 hA2;subst hA1;subst hA2;simp only [Nat.zero_add] at t0 t1 t2 t3;obtain ⟨bm,om,A8,n8,c8,A9,n9,c9,rfl,_,⟨z0,z1,z2,z3⟩,az⟩:=al.elem (JR _ _) (ZE y);obtain ⟨xk,ac⟩:∃xk,xk=X kt:=⟨_,rfl⟩;obtain ⟨mk,E⟩:∃mk,mk=M kt:=⟨_,rfl⟩;have co:=JZ ac;have cp:=JZ E;have Z:(canF xk).Sm:=(by rw [ac];exact (ba.out kt y).rs.sm (by have:=HE.out;omega));have bd:(canF mk).Sm:=(by rw [E];exact (ao.out kt y).rs.sm (by have:=HE.out;omega));have be:(canF mk).q≠0:=(by rw [Zr,E];exact cm.out);rw [← ac] at t0 t2 c S;rw [← E] at z0 z2 az;have hO:=Y;clear ac E Y al bc s;have cq:Hid ((ZQ n X).set kt (canF (xk / mk))=ZQ n (Zgv kt M X 0)):=JZ (by
     rw [XT y];exact ZO fun i hi=>by
      unfold Zgv;rw [co.out,cp.out];by_cases e:i=kt
      ·rw [if_pos e,if_pos e]
      ·rw [if_neg e,if_neg e,if_neg (by omega)])
    go_upto_region 6 with (fail)
    clear ap;have C0:=Zl t0;have C1:=Zl t1;have C2:=Zl t2;have C3:=Zl t3;have D0:=Zl z0;have D1:=Zl z1;have D2:=Zl z2;have D3:=Zl z3;have U0:=Zl l;have U1:=Zl m;have f:=Zj w2;clear t0 t1 t2 t3 z0 z1 z2 z3 l m;refine Zn 19 [0,1,2,3,4,5,6,7,8,9,10,11,12,13,14,15,16,17,18,19] (by kernel_rfl) (by kernel_rfl) ?_;repeat ((first|(first|refine Zb (v:=?_) rfl rfl rfl ?_ ?_ |refine Zd (v:=?_) rfl rfl rfl ?_ ?_);rotate_left;·(intro _ _;go_simp;(try go_bits);(try with_reducible rfl))|refine Ze rfl rfl rfl ?_);(try simp only [py]))
    refine Zf rfl rfl (fun _ kq=>?_);go_simp;(with_reducible refine (Zay _ _ (canF xk) (canF mk) _ (c.below f) (az.below f) Z bd be).mono ?_);rw [Zr,Zr];rintro _ w6 ⟨v6,rfl,e6,aa⟩;have h:=Za f aa f.size;obtain ⟨B9,l9,k9,ad,ae,af,rfl,_,_⟩:=id e6;have ar:=hO.below h;obtain ⟨_,_,_,_,⟨c0,c1,c2,c3⟩,⟨f0,f1,f2,f3⟩,-⟩:=ar.at_ S;refine kq.out _ _ (.inr h) ?_;clear kq;(try simp only [py]);repeat ((first|(first|refine Zb (v:=?_) rfl rfl rfl ?_ ?_ |refine Zd (v:=?_) rfl rfl rfl ?_ ?_);rotate_left;·(intro _ _;go_simp;(try go_bits);(try with_reducible rfl))|refine Ze rfl rfl rfl ?_);(try simp only [py]))
    refine Zf rfl rfl (fun _ kq=>?_);go_simp;refine kq.out _ _ (.inl (by decide)) ?_;clear kq;(try simp only [py]);refine Zv ?_;clear C0 C1 C2 C3 D0 D1 D2 D3 U0 U1;obtain ⟨I,bv⟩:=ar.set_ (k:=kt) (by rw [Zc];exact y) e6;rw [cq.out] at I;have bf:=bv.bk (aq.later h) (by decide);have am:=Zx (Za D h D.size) bt (kt * 4) (kt * 4+1) (kt * 4+2) (kt * 4+3) (.bool (canF (xk / mk)).num.neg) (.slice B9 l9 k9) (.bool (canF (xk / mk)).den.neg) (.slice ad ae af);generalize ((((w6.setCell ⟨gx,kt * 4,none⟩ (.bool (canF (xk / mk)).num.neg)).setCell ⟨gx,kt * 4+1,none⟩ (.slice B9 l9 k9)).setCell ⟨gx,kt * 4+2,none⟩ (.bool (canF (xk / mk)).den.neg)).setCell ⟨gx,kt * 4+3,none⟩ (.slice ad ae af))=W7 at *;generalize wr.heap.size=ct at *;clear hO ar e6 aa f h bv D aq c az S Z bd be c0 c1 c2 c3 f0 f1 f2 f3;go_wp2
    go_loopw [51] (fun x wx=>∃i:Nat,i≤n∧x= .int .i64 i∧ZU w.heap.size wx (.slice (some ⟨gx,0,none⟩) n c5) (ZQ n (Zgv kt M X i))∧Bk wx ct 166 [.int .i64 (kt:Int),.slice (some ⟨bm,om,none⟩) n d]∧Below w.heap.size w wx) (fun x _=>n - (intOf x).toNat)
    case atStart=>exact ⟨0,by omega,rfl,I,bf,am⟩
    case round=>
     clear I bf am;obtain ⟨i,hi,rfl,hO,hV,a⟩:=hrel;rcases JX i n with hil | hil
     ·obtain ⟨l,m,_,_⟩:=hV.two;have d6:(i:Int) < n:=(by omega);by_cases b7:i=kt
      ·have au:Hid (ZQ n (Zgv kt M X i)=ZQ n (Zgv kt M X (i+1))):=JZ (ZO fun j _=>Zpz (.inl b7) j);subst b7;rw [au.out] at hO;go_wp2;go_roundw
       case rel=>exact ⟨i+1,by omega,by go_num,hO,hV,a⟩
       case measure=>simp [intOf];omega
      ·have bg:=JZ b7;have d7:(i:Int)≠kt:=(by omega);obtain ⟨b',o',A8,n8,c8,A9,n9,c9,hA,_,⟨z0,z1,z2,z3⟩,F⟩:=bb.out.elem a (ZE hil);injection hA with hA;injection hA with hA1 hA2;subst hA1;subst hA2;have U:qs (M i)=0∨qs (M i)=1∨qs (M i)= -1:=(by have:=UY (M i);omega);by_cases p:qs (M i)=0
       ·have au:Hid (ZQ n (Zgv kt M X i)=ZQ n (Zgv kt M X (i+1))):=JZ (ZO fun j _=>Zpz (.inr (Z5.1 p)) j);clear U;go_wp2_with fail;refine (ZA _ (canF (M i)) _ F).mono ?_;rw [Zr,p];rintro _ w3 ⟨rfl,A⟩;have H:=hO.below A;rw [au.out] at H;have a0:=hV.later A;have v:=Za a A a.size;clear hO hV a A p z0 z1 z2 z3 F l m;go_wp2;go_roundw
        case rel=>exact ⟨i+1,by omega,by go_num,H,a0,v⟩
        case measure=>simp [intOf];omega
       ·have ap:(qs (M i) !=0)=true:=(by simpa using p);clear U p;go_wp2_with fail;refine (ZA _ (canF (M i)) _ F).mono ?_;rw [Zr];rintro _ w3 ⟨rfl,A⟩;have H:=hO.below A;have a0:=hV.later A;have v:=Za a A a.size;clear hO hV a A z0 z1 z2 z3 F l m;obtain ⟨l,m,_,_⟩:=a0.two;obtain ⟨b',o',A8,n8,c8,A9,n9,c9,hA,_,⟨z0,z1,z2,z3⟩,F⟩:=bb.out.elem v (ZE hil);injection hA with hA;injection hA with hA1 hA2;subst hA1;subst hA2;obtain ⟨b',o',A4,n4,c4,A5,n5,d9,hA,_,⟨ag,b0,ah,b4⟩,c⟩:=H.frs.elem (JR _ _) (ZE hil);injection hA with hA;injection hA with hA1 hA2;subst hA1;subst hA2;obtain ⟨b',o',A6,n6,c6,A7,n7,c7,hA,_,⟨t0,t1,t2,t3⟩,b5⟩:=H.frs.elem (JR _ _) (ZE y);injection hA with hA;injection hA with hA1 hA2;subst hA1;subst hA2;simp only [Nat.zero_add] at ag b0 ah b4 t0 t1 t2 t3;obtain ⟨xi,ai⟩:∃xi,xi=Zgv kt M X i i:=⟨_,rfl⟩;obtain ⟨mi,G⟩:∃mi,mi=M i:=⟨_,rfl⟩;obtain ⟨z,hz⟩:∃z,z=Zgv kt M X i kt:=⟨_,rfl⟩;have a4:xi=X i:=(by rw [ai,Ybx bg.out]);have av:z=X kt / M kt:=(by rw [hz,Ymw]);have bh:Hid ((ZQ n (Zgv kt M X i)).set i (canF (xi - mi * z))=ZQ n (Zgv kt M X (i+1))):=JZ (by
         rw [XT hil];exact ZO fun j hj=>by rw [Ybw bg.out,a4,G,av])
        have Z:(canF xi).Sm:=(by rw [a4];exact (ba.out i hil).rs.sm (by have:=HE.out;omega));have bj:(canF mi).Sm:=(by rw [G];exact (ao.out i hil).rs.sm (by have:=HE.out;omega));have a5:Sz (5^n * K) z:=by
         have:=cl.out kt y;unfold Zxg at this;rw [if_pos rfl] at this;rw [av];exact this
        have bl:(canF z).Sm:=a5.rs.sm (by have:=HE.out;omega);have bn:(canF (mi * z)).Sm:=(XO (by rw [G];exact ao.out i hil) a5).rs.sm (by have:=HE.out;omega);have bo:(ZQ n (Zgv kt M X i))[i]? =some (canF xi):=(by rw [ai];exact ZE hil);rw [← ai] at ag ah c;rw [← G] at z0 z2 F;rw [← hz] at t0 t2 b5;have hO:=H;clear ai G hz a4 av a5 H
        go_upto_region 11 with (fail)
        clear ap;have C0:=Zl t0;have C1:=Zl t1;have C2:=Zl t2;have C3:=Zl t3;have D0:=Zl z0;have D1:=Zl z1;have D2:=Zl z2;have D3:=Zl z3;have E0:=Zl ag;have E1:=Zl b0;have E2:=Zl ah;have E3:=Zl b4;have U0:=Zl l;have U1:=Zl m;have f:=Zj w3;clear t0 t1 t2 t3 z0 z1 z2 z3 ag b0 ah b4 l m;refine Zn 19 [0,1,2,3,4,5,6,7,8,9,10,11,12,13,14,15,16,17,18,19] (by kernel_rfl) (by kernel_rfl) ?_;repeat ((first|(first|refine Zb (v:=?_) rfl rfl rfl ?_ ?_ |refine Zd (v:=?_) rfl rfl rfl ?_ ?_);rotate_left;·(intro _ _;go_simp;(try go_bits);(try with_reducible rfl))|refine Ze rfl rfl rfl ?_);(try simp only [py]))
        refine Zf rfl rfl (fun _ kq=>?_);go_simp;(with_reducible refine (WL _ _ (canF mi) (canF z) _ (F.below f) (b5.below f) bj bl).mono ?_);rw [Zr,Zr];rintro _ w6 ⟨v6,rfl,e6,aa⟩;have h:=Za f aa f.size;refine kq.out _ _ (.inr h) ?_;clear kq;(try simp only [py]);repeat ((first|(first|refine Zb (v:=?_) rfl rfl rfl ?_ ?_ |refine Zd (v:=?_) rfl rfl rfl ?_ ?_);rotate_left;·(intro _ _;go_simp;(try go_bits);(try with_reducible rfl))|refine Ze rfl rfl rfl ?_);(try simp only [py]))
        refine Zf rfl rfl (fun _ kq=>?_);go_simp;(with_reducible refine (Uv _ _ (canF xi) (canF (mi * z)) _ (c.below h) e6 Z bn).mono ?_);rw [Zr,Zr];rintro _ w7 ⟨v7,rfl,e7,ca⟩;have a6:=Za h ca h.size;obtain ⟨B9,l9,k9,ad,ae,af,rfl,_,_⟩:=id e7;have I:=hO.below a6;obtain ⟨_,_,_,_,⟨c0,c1,c2,c3⟩,⟨f0,f1,f2,f3⟩,-⟩:=I.at_ bo;refine kq.out _ _ (.inr a6) ?_;clear kq;(try simp only [py]);repeat ((first|(first|refine Zb (v:=?_) rfl rfl rfl ?_ ?_ |refine Zd (v:=?_) rfl rfl rfl ?_ ?_);rotate_left;·(intro _ _;go_simp;(try go_bits);(try with_reducible rfl))|refine Ze rfl rfl rfl ?_);(try simp only [py]))
        refine Zf rfl rfl (fun _ kq=>?_);go_simp;refine kq.out _ _ (.inl (by decide)) ?_;clear kq;(try simp only [py]);refine Zv ?_;clear C0 C1 C2 C3 D0 D1 D2 D3 E0 E1 E2 E3 U0 U1;obtain ⟨bw,bx⟩:=I.set_ (k:=i) (by rw [Zc];exact hil) e7;rw [bh.out] at bw;have cr:=bx.bk (a0.later a6) (by decide);have bp:=Zx (Za v a6 v.size) bt (i * 4) (i * 4+1) (i * 4+2) (i * 4+3) (.bool (canF (xi - mi * z)).num.neg) (.slice B9 l9 k9) (.bool (canF (xi - mi * z)).den.neg) (.slice ad ae af);clear hO I a0 v f h a6 e6 e7 aa ca c0 c1 c2 c3 f0 f1 f2 f3 c F b5 bx Z bj bl bn bo bh;go_wp2;go_roundw
        case rel=>exact ⟨i+1,by omega,by go_num,bw,cr,bp⟩
        case measure=>simp [intOf];omega
     ·obtain rfl:n=i:=by omega
      rw [ZO fun j hj=>Yfy hj,← ak.out] at hO;go_wp2;go_roundw
      case rel=>exact ⟨t+1,by omega,by go_num,hO,a⟩
      case measure=>simp [intOf];omega
  ·obtain rfl:T=t:=by omega
   go_wp2;go_ret;exact ⟨_,_,rfl,fun r hr=>by rw [← cg.out];exact b8.out r hr,an.out _ (JY _),hO,a⟩
namespace Pl
def Vf (k:Nat) (M X:Nat→Rat) (i:Nat):Rat:=X k - ZN (fun i=>if i=k then 0 else M i * X i) i
theorem Zld {k:Nat} {M X:Nat→Rat}:Vf k M X 0=X k:=by unfold Vf;rw [Y2];grind
theorem Zfk {k i:Nat} {M X:Nat→Rat} (h:i=k∨M i=0∨X i=0):Vf k M X i=Vf k M X (i+1):=by
 unfold Vf;rw [ZC];by_cases e:i=k
 ·rw [if_pos e];grind
 ·rw [if_neg e];rcases h with h | h | h
  ·exact absurd h e
  ·rw [h];grind
  ·rw [h];grind
theorem Zxx {k i:Nat} {M X:Nat→Rat} (h:i≠k):Vf k M X (i+1)=Vf k M X i - M i * X i:=by
 unfold Vf;rw [ZC,if_neg h];grind
theorem Ykt {n k i E:Nat} {M X:Nat→Rat} (hE:1≤E) (hn:n≤7) (hk:k < n) (hx:∀i,i < n→Sz (22 * E) (X i)) (hm:∀i,i < n→Sz E (M i)) (hi:i≤n):Sz (200 * E) (Vf k M X i):=by
 have h1:Sz (1+i * (23 * E+1)) (ZN (fun i=>if i=k then 0 else M i * X i) i):=Zkk fun j hj=>by
  split
  ·exact Sz_zero.mono (by omega)
  ·exact (XO (hm j (by omega)) (hx j (by omega))).mono (by omega)
 have h2:i * (23 * E+1)≤7 * (23 * E+1):=JS _ (by omega);exact (Zdg (hx k hk) h1).mono (by omega)
end Pl
def Yhp (w:World) (g:Nat) (q:Rat):Prop:=
 ∃A n c A' n' c',Bk w g 46 [.bool (canF q).num.neg,.slice A n c,.bool (canF q).den.neg,.slice A' n' c']∧Zw w (.agg #[.bool (canF q).num.neg,.slice A n c,.bool (canF q).den.neg,.slice A' n' c']) (canF q)
theorem Yhp.below {w w':World} {g:Nat} {q:Rat} (h:Yhp w g q) (hb:Below w.heap.size w w'):Yhp w' g q:=by
 obtain ⟨A,n,c,A',n',c',h1,h2⟩:=h;exact ⟨A,n,c,A',n',c',h1.later hb,h2.below hb⟩
theorem Zxy (base bi g n K:Nat) (Cs:Mx) (v:Value) (es:List En) (w:World) (hB:Zsu base bi w g n K Cs) (h:V7 w v es) (hgo:Pl.Good n es) (hrs:∀(k:Nat) (e:En),es[k]? =some e→e.f.Rs K):
 Calls Tryz.prog 140 #[.pointer (some ⟨g,0,none⟩),v] w fun o w'=>∃v' x,o= .returned (.tuple #[v',.int .i64 0])∧(∀r,r < n→X6 n Cs x r=Vj es r)∧(∀i,i < n→Sz (5^n * K) (x i))∧Zbz w.heap.size w' v' (spV x n)∧Below w.heap.size w w':=by
 have HB:=JZ hB;obtain ⟨T,gc,cc,k,R,C,im,V,L,Um,CC,s0,s1,s2,s3,vu,hX,⟨s,hT,hE,t⟩,hU,hF,-⟩:=hB;have y1:w.cell? ⟨g,0,none⟩=some (.int .i64 (n:Int)):=hX.cellAt 0 rfl;have u:=hF.n7;have p:Hid (1≤K):=JZ (Nat.pos_of_ne_zero fun e=>by have:=hF.e1;subst e;simp at this);have HE:Hid (5^n * K≤4000000):=JZ hE;have q:Hid (K≤4000000):=JZ (JW (Nat.le_mul_of_pos_left K (Nat.pow_pos (by decide))) hE);clear hX hU hF t hE hT s;go_enter Tryz.func140,Tryz.ntmps140;go_wp2_with fail;refine (Vy v es n K _ h (by omega) hrs (by have:=q.out;omega) hgo).mono ?_;rintro _ w1 ⟨v1,rfl,e1,b⟩;obtain ⟨A1,c1,rfl⟩:=e1.slice;clear y1 h;go_wp2_with fail;refine (Zxw base bi g n K Cs _ (Vj es) _ (HB.out.below b) e1.frs (fun i _=>Sz_col hrs p.out i)).mono ?_;rintro _ w2 ⟨v2,x,rfl,hx,j,e2,l⟩;have HX:=JZ hx;have c:=JZ j;have a:=Za b l b.size;obtain ⟨A2,c2,rfl⟩:=e2.slice;clear e1 hx j l;go_wp2_with fail;refine (Xk _ (ZQ n x) (5^n * K) _ e2.frs (by rw [Zc];omega) (Vv fun i hi=>c.out i hi) (by have:=HE.out;omega)).mono ?_;rw [Zc,Vw (g:=x) fun i hi=>Yr hi];rintro _ w3 ⟨v3,rfl,e3,m⟩;have d:=Za a m a.size;have e3:Zbz w.heap.size w3 v3 (spV x n):=by
  obtain ⟨cs,g1,g2⟩:=e3;exact ⟨cs,Y4 g1 a.size,g2⟩
 clear e2 b a m;go_wp2;go_ret2;exact ⟨_,x,rfl,HX.out,c.out,e3,d⟩
theorem Zsv (base bi g n K:Nat) (Cs:Mx) (v:Value) (es:List En) (w:World) (hB:Zsu base bi w g n K Cs) (h:V7 w v es) (hgo:Pl.Good n es) (hrs:∀(k:Nat) (e:En),es[k]? =some e→e.f.Rs K):
 Calls Tryz.prog 123 #[.pointer (some ⟨g,0,none⟩),v] w fun o w'=>∃v' y,o= .returned (.tuple #[v',.int .i64 0])∧(∀c,c < n→X6 n (trM Cs) y c=Vj es c)∧(∀i,i < n→Sz (5^n * K) (y i))∧Zbz w.heap.size w' v' (spV y n)∧Below w.heap.size w w':=by
 obtain ⟨T,gc,cc,k,R,C,im,V,L,Um,CC,s0,s1,s2,s3,vu,hX,⟨di,hT,hE,cp⟩,hU,hF,hO,i0,i1,v2,v3,bj⟩:=hB;obtain ⟨Au,cu,rfl,cq,dw⟩:=bj.shape;have b8:=Yho hX i0 i1 v2 v3;have br:=hF.n7;have b9:1≤K:=Nat.pos_of_ne_zero fun e=>by have:=hF.e1;subst e;simp at this
 obtain ⟨d,hd⟩:∃d,d=Vj es:=⟨_,rfl⟩;have ba:∀r,r < n→Sz K (d r):=fun r _=>by rw [hd];exact Sz_col hrs b9 r
 have hy:∀c,c < n→X6 n (trM (CC 0)) (solT n R C L Um (cN n T k im d T)) c=cN n T k im d T c:=hF.fac.solT _;have bs:=JZ (hU.cB br b9 ba hy);have bb:=JZ (hU.yB ba hy);have bt:=JZ (hU.solvesT hy T (JY _));have cy:=JZ hU.imB;have cz:=JZ hU.kn;have d0:=JZ hU.nz;have HE:=JZ hE;have d3:Hid (1≤5^n * K):=JZ hF.e1;have d4:=JZ br;have d5:=JZ cp;have bu:=JZ bj;have HD:=JZ hd;have d6:=JZ b8;have HF:=JZ hF;have HY:Hid (w.cell? ⟨g,6,none⟩=some (.slice Au T cu)):=JZ (hX.cellAt 6 rfl);have y1:w.cell? ⟨g,0,none⟩=some (.int .i64 (n:Int)):=hX.cellAt 0 rfl;have d7:Hid (K≤4000000):=JZ (JW (Nat.le_mul_of_pos_left K (Nat.pow_pos (by decide))) hE);have d8:=JZ hgo;have d9:=JZ hrs;clear hX hU hF cp hE di bj hO i0 i1 v2 v3 b8 hy ba hd b9 hgo hrs;go_enter Tryz.func123,Tryz.ntmps123;go_wp2_with fail;refine (Vy v es n K _ h (by omega) d9.out (by have:=d7.out;omega) d8.out).mono ?_;rintro _ w1 ⟨v1,rfl,e1,bp⟩;obtain ⟨A5,c5,cr⟩:=e1.slice;rw [Zc] at cr;subst cr;obtain ⟨-,dx,dy⟩:=e1.frs.len;rw [← HD.out] at e1;clear y1 h;have y2:=Zk bp HY.out;go_wp2;clear y2
 go_loopw [8] (fun x wr=>∃(j:Nat) (tz:Int),j≤T∧tz=(T:Int) - 1 - j∧x= .int .i64 tz∧ZU w.heap.size wr (.slice A5 n c5) (ZQ n (cN n T k im d j))∧Below w.heap.size w wr) (fun x _=>(intOf x+1).toNat)
 case atStart=>exact ⟨0,(T:Int) - 1,by omega,by omega,rfl,e1,bp⟩
 case round=>
  clear e1 bp;obtain ⟨j,tz,hj,bl,rfl,hO,a⟩:=hrel;rcases Int.lt_or_le tz 0 with hneg | ai
  ·obtain rfl:T=j:=by omega
   clear bl;have HO:=JZ hO;clear hO;go_wp2_with fail;refine (Zmx g 2 _ n (5^n * K) (trM (CC 0)) R C L Um _ _ (d6.out.below a) HO.out.frs HF.out (fun i hi=>(bs.out T (JY _) i hi).mono (by omega)) bb.out).mono ?_;rintro _ w2 ⟨v2,rfl,e2,cv⟩;have D:=Za a cv a.size;obtain ⟨A2,c2,rfl⟩:=e2.slice;obtain ⟨y,b5⟩:∃y,y=solT n R C L Um (cN n T k im d T):=⟨_,rfl⟩;have bc:=JZ b5;rw [← b5] at e2;rw [← b5];clear a cv b5;go_wp2_with fail;refine (Xk _ (ZQ n y) (5^n * K) _ e2.frs (by rw [Zc];omega) (Vv fun i hi=>by rw [bc.out];exact bb.out i hi) (by have:=HE.out;omega)).mono ?_;rw [Zc,Vw (g:=y) fun i hi=>Yr hi];rintro _ w3 ⟨v3,rfl,e3,p⟩;have m:=Za D p D.size;have e3:Zbz w.heap.size w3 v3 (spV y n):=by
    obtain ⟨cs,g1,g2⟩:=e3;exact ⟨cs,Y4 g1 D.size,g2⟩
   clear e2 D p;go_wp2;go_ret2;exact ⟨_,y,rfl,fun c hc=>by
    have:=bt.out c hc;rw [Nat.sub_self] at this;rw [← d5.out,bc.out,this,← HD.out];rfl,fun i hi=>by rw [bc.out];exact bb.out i hi,e3,m⟩
  ·obtain ⟨t,rfl⟩:=JT ai;have ah:t < T:=(by omega);have bd:=JZ bl;clear bl ai;have Y:=cz.out t ah;have ai:0 < n:=(by omega);obtain ⟨gx,cx,ct,dj,dk,-,-⟩:=hO.shape (by rw [Zc];omega);rw [Zc] at ct;injection ct with a1 a2 a3;subst a1;clear a2 a3 cx;obtain ⟨gu,B,d',rfl,-,⟨u0,u1⟩,⟨d1,d2⟩,bn⟩:=bu.out.elem a ah;obtain ⟨X,b6⟩:∃X,X=cN n T k im d j:=⟨_,rfl⟩;obtain ⟨M,ad⟩:∃M,M=im t:=⟨_,rfl⟩;obtain ⟨kt,b7⟩:∃kt,kt=k t:=⟨_,rfl⟩;have bv:Hid (ZQ n (cN n T k im d (j+1))=ZQ n (Zsh n kt M X)):=JZ (by
    rw [b6,ad,b7,show t=T - 1 - j by have:=bd.out;omega];rfl)
   have be:Hid (∀i,i < n→Sz (22 * (5^n * K)) (X i)):=JZ fun i hi=>by rw [b6];exact bs.out j hj i hi
   have az:Hid (∀i,i < n→Sz (5^n * K) (M i)):=JZ fun i hi=>by rw [ad];exact cy.out t ah i hi
   have da:Hid (M kt≠0):=JZ (by rw [ad,b7];exact d0.out t ah);rw [← b6] at hO;rw [← ad] at bn;rw [← b7] at Y u0;have bf:Hid (Y1 w (.slice B n d') (ZQ n M)):=JZ (by
    obtain ⟨_,B',ea,ar,-,⟨-,e2⟩,-,h3⟩:=bu.out.elem (JR _ _) ah;injection ar with ar;injection ar with ar;subst ar;have e3:=Zk a e2;rw [u1] at e3;injection e3 with e3;injection e3 with b1 b2 b3;subst b1 b3;rw [ad];exact h3)
   clear b6 ad b7;have bw:∀i,Vf kt M X i=X kt - ZN (fun i=>if i=kt then 0 else M i * X i) i:=fun _=>rfl
   have bx:Hid (∀i,i≤n→Sz (200 * (5^n * K)) (Vf kt M X i)):=JZ fun i hi=>Ykt d3.out (by have:=d4.out;omega) Y be.out az.out hi
   clear bw;have dz:T≤cu:=(by have:=cq;omega);obtain ⟨W1,dl,hV,au⟩:∃W1,wr.alloc (.cells #[.int .i64 (kt:Int),.slice B n d'] 166)=W1∧Bk W1 wr.heap.size 166 [.int .i64 (kt:Int),.slice B n d']∧Below wr.heap.size wr W1:=⟨_,rfl,Bk.new wr _ _,Zi wr _⟩;have bg:=hO.below au;have ca:=bn.below au;have aa:=Za a au a.size;obtain ⟨s,A,_,_⟩:=hV.two;have cb:(ZQ n X)[kt]? =some (canF (X kt)):=ZE Y;obtain ⟨bz,oz,A6,n6,c6,A7,n7,c7,hA,_,⟨t0,t1,t2,t3⟩,F⟩:=bg.frs.elem (JR _ _) cb;injection hA with hA;injection hA with hA1 hA2;subst hA1;subst hA2;simp only [Nat.zero_add] at t0 t1 t2 t3;have e0:(kt:Int) < n:=(by omega);have y2:=Zk a HY.out;have hR:=Bk.new W1 46 [.bool (canF (X kt)).num.neg,.slice A6 n6 c6,.bool (canF (X kt)).den.neg,.slice A7 n7 c7];have aj:=Zi W1 (.cells #[.bool (canF (X kt)).num.neg,.slice A6 n6 c6,.bool (canF (X kt)).den.neg,.slice A7 n7 c7] 46);have e4:gx < W1.heap.size:=Nat.lt_of_lt_of_le dk au.size;have db:w.heap.size≤W1.heap.size:=aa.size;have dv:w.heap.size≤wr.heap.size:=a.size;have e5:(t:Int) < T:=(by omega);clear hO a bn
   go_upto_region 8 with (fail)
   clear u0 u1 y2;clear dl;go_wp2;clear s A t0 t1 t2 t3;have cd:=bg.below aj;have ce:=hV.later aj;have cf:=F.below aj;have D:=Za aa aj aa.size;clear bg ca hV F aa aj au;generalize W1.alloc (.cells #[.bool (canF (X kt)).num.neg,.slice A6 n6 c6,.bool (canF (X kt)).den.neg,.slice A7 n7 c7] 46)=W2 at *;generalize W1.heap.size=gr at *;generalize wr.heap.size=du at *
   go_loopw [48] (fun x wx=>∃i:Nat,i≤n∧x= .int .i64 i∧ZU w.heap.size wx (.slice (some ⟨gx,0,none⟩) n c5) (ZQ n X)∧Bk wx du 166 [.int .i64 (kt:Int),.slice B n d']∧Yhp wx gr (Vf kt M X i)∧Below w.heap.size w wx) (fun x _=>n - (intOf x).toNat)
   case atStart=>exact ⟨0,by omega,rfl,cd,ce,⟨A6,n6,c6,A7,n7,c7,by rw [Zld];exact hR,by rw [Zld];exact cf⟩,D⟩
   case round=>
    clear cd ce hR cf D;obtain ⟨i,hi,rfl,hO,hV,a5,a⟩:=hrel;rcases JX i n with hil | hil
    ·obtain ⟨s,A,_,_⟩:=hV.two;have e8:(i:Int) < n:=(by omega);by_cases bq:i=kt
     ·have ak:Hid (Vf kt M X i=Vf kt M X (i+1)):=JZ (Zfk (.inl bq));subst bq;rw [ak.out] at a5;go_wp2;go_roundw
      case rel=>exact ⟨i+1,by omega,by go_num,hO,hV,a5,a⟩
      case measure=>simp [intOf];omega
     ·have dc:=JZ bq;have e9:(i:Int)≠kt:=(by omega);obtain ⟨bm,om,A8,n8,c8,A9,n9,c9,rfl,_,⟨z0,z1,z2,z3⟩,N⟩:=bf.out.elem a (ZE hil);have al:qs (M i)=0∨qs (M i)=1∨qs (M i)= -1:=(by have:=UY (M i);omega);by_cases ax:qs (M i)=0
      ·have ak:Hid (Vf kt M X i=Vf kt M X (i+1)):=JZ (Zfk (.inr (.inl (Z5.1 ax))));clear al;go_wp2_with fail;refine (ZA _ (canF (M i)) _ N).mono ?_;rw [Zr,ax];rintro _ w3 ⟨rfl,p⟩;have Z:=hO.below p;have a0:=a5.below p;rw [ak.out] at a0;have a4:=hV.later p;have m:=Za a p a.size;clear hO hV a5 a p ax z0 z1 z2 z3 N s A;go_wp2;go_roundw
       case rel=>exact ⟨i+1,by omega,by go_num,Z,a4,a0,m⟩
       case measure=>simp [intOf];omega
      ·have dd:(qs (M i) !=0)=true:=(by simpa using ax);clear al ax;go_wp2_with fail;refine (ZA _ (canF (M i)) _ N).mono ?_;rw [Zr];rintro _ w3 ⟨rfl,p⟩;have Z:=hO.below p;have a0:=a5.below p;have a4:=hV.later p;have m:=Za a p a.size;clear hO hV a5 a p z0 z1 z2 z3 N s A;obtain ⟨s,A,_,_⟩:=a4.two;obtain ⟨b',o',A4,n4,c4,A5,n5,dm,hA,_,⟨O,a6,P,a7⟩,F⟩:=Z.frs.elem (JR _ _) (ZE hil);injection hA with hA;injection hA with hA1 hA2;subst hA1;subst hA2;simp only [Nat.zero_add] at O a6 P a7;have al:qs (X i)=0∨qs (X i)=1∨qs (X i)= -1:=(by have:=UY (X i);omega);by_cases ay:qs (X i)=0
       ·have ak:Hid (Vf kt M X i=Vf kt M X (i+1)):=JZ (Zfk (.inr (.inr (Z5.1 ay))));clear al;go_wp2_with fail;refine (ZA _ (canF (X i)) _ F).mono ?_;rw [Zr,ay];rintro _ w4 ⟨rfl,G⟩;have de:=Z.below G;have b0:=a0.below G;rw [ak.out] at b0;have am:=a4.later G;have I:=Za m G m.size;clear Z a4 a0 m G ay O a6 P a7 F s A;go_wp2;go_roundw
        case rel=>exact ⟨i+1,by omega,by go_num,de,am,b0,I⟩
        case measure=>simp [intOf];omega
       ·have df:(qs (X i) !=0)=true:=(by simpa using ay);clear al ay;go_wp2_with fail;refine (ZA _ (canF (X i)) _ F).mono ?_;rw [Zr];rintro _ w4 ⟨rfl,G⟩;have hO:=Z.below G;have b0:=a0.below G;have am:=a4.later G;have I:=Za m G m.size;clear Z a4 a0 m G O a6 P a7 F s A;obtain ⟨s,A,_,_⟩:=am.two;obtain ⟨b',o',A4,n4,c4,A5,n5,dm,hA,_,⟨O,a6,P,a7⟩,F⟩:=hO.frs.elem (JR _ _) (ZE hil);injection hA with hA;injection hA with hA1 hA2;subst hA1;subst hA2;obtain ⟨b',o',A8,n8,c8,A9,n9,c9,hA,_,⟨z0,z1,z2,z3⟩,N⟩:=bf.out.elem I (ZE hil);injection hA with hA;injection hA with hA1 hA2;subst hA1;subst hA2;simp only [Nat.zero_add] at O a6 P a7;obtain ⟨dn,dp,dq,dr,ds,dt,a8,a9⟩:=b0;obtain ⟨t0,t1,t2,t3⟩:=a8.four;have an:Hid (Vf kt M X (i+1)=Vf kt M X i - M i * X i):=JZ (Zxx dc.out);obtain ⟨rr,J⟩:∃rr,rr=Vf kt M X i:=⟨_,rfl⟩;obtain ⟨xi,av⟩:∃xi,xi=X i:=⟨_,rfl⟩;obtain ⟨mi,S⟩:∃mi,mi=M i:=⟨_,rfl⟩;have cg:(canF xi).Sm:=(by rw [av];exact (be.out i hil).rs.sm (by have:=HE.out;omega));have ch:(canF mi).Sm:=(by rw [S];exact (az.out i hil).rs.sm (by have:=HE.out;omega));have ao:(canF rr).Sm:=(by rw [J];exact (bx.out i hi).rs.sm (by have:=HE.out;omega));have ci:(canF (mi * xi)).Sm:=(XO (by rw [S];exact az.out i hil) (by rw [av];exact be.out i hil)).rs.sm (by have:=HE.out;omega);have cj:=JZ J;have ck:=JZ av;have cl:=JZ S;rw [← av] at O P F;rw [← S] at z0 z2 N;rw [← J] at t0 t2 a9 a8;clear av S J
        go_upto_region 13 with (fail)
        clear dd df;have C0:=Zl t0;have C1:=Zl t1;have C2:=Zl t2;have C3:=Zl t3;have D0:=Zl z0;have D1:=Zl z1;have D2:=Zl z2;have D3:=Zl z3;have E0:=Zl O;have E1:=Zl a6;have E2:=Zl P;have E3:=Zl a7;have U0:=Zl s;have U1:=Zl A;have E:=Zj w4;clear t0 t1 t2 t3 z0 z1 z2 z3 O a6 P a7 s A;refine Zn 12 [0,1,2,3,4,5,6,7,8,9,10,11,12] (by kernel_rfl) (by kernel_rfl) ?_;repeat ((first|(first|refine Zb (v:=?_) rfl rfl rfl ?_ ?_ |refine Zd (v:=?_) rfl rfl rfl ?_ ?_);rotate_left;·(intro _ _;go_simp;(try go_bits);(try with_reducible rfl))|refine Ze rfl rfl rfl ?_);(try simp only [py]))
        refine Zf rfl rfl (fun _ kq=>?_);go_simp;(with_reducible refine (WL _ _ (canF mi) (canF xi) _ (N.below E) (F.below E) ch cg).mono ?_);rw [Zr,Zr];rintro _ w6 ⟨v6,rfl,e6,aw⟩;have H:=Za E aw E.size;refine kq.out _ _ (.inr H) ?_;clear kq;(try simp only [py]);repeat ((first|(first|refine Zb (v:=?_) rfl rfl rfl ?_ ?_ |refine Zd (v:=?_) rfl rfl rfl ?_ ?_);rotate_left;·(intro _ _;go_simp;(try go_bits);(try with_reducible rfl))|refine Ze rfl rfl rfl ?_);(try simp only [py]))
        refine Zf rfl rfl (fun _ kq=>?_);go_simp;(with_reducible refine (Uv _ _ (canF rr) (canF (mi * xi)) _ (a9.below H) e6 ao ci).mono ?_);rw [Zr,Zr];rintro _ w7 ⟨v7,rfl,e7,cw⟩;have ab:=Za H cw H.size;obtain ⟨B9,l9,k9,ae,af,ag,rfl,_,_⟩:=id e7;have ap:=a8.later ab;obtain ⟨c0,c1,c2,c3⟩:=ap.four;obtain ⟨f0,f1,f2,f3⟩:=ap.fourF;refine kq.out _ _ (.inr ab) ?_;clear kq;(try simp only [py]);repeat ((first|(first|refine Zb (v:=?_) rfl rfl rfl ?_ ?_ |refine Zd (v:=?_) rfl rfl rfl ?_ ?_);rotate_left;·(intro _ _;go_simp;(try go_bits);(try with_reducible rfl))|refine Ze rfl rfl rfl ?_);(try simp only [py]))
        refine Zf rfl rfl (fun _ kq=>?_);go_simp;refine kq.out _ _ (.inl (by decide)) ?_;clear kq;(try simp only [py]);refine Zv ?_;clear C0 C1 C2 C3 D0 D1 D2 D3 E0 E1 E2 E3 U0 U1;have cm:=YC (w:=w7) (g:=gr) (i:=0) (j:=1) (k:=2) (l:=3) (x:= .bool (canF (rr - mi * xi)).num.neg) (y:= .slice B9 l9 k9) (z:= .bool (canF (rr - mi * xi)).den.neg) (u:= .slice ae af ag);have ac:=ap.but4 (.bool (canF (rr - mi * xi)).num.neg) (.slice B9 l9 k9) (.bool (canF (rr - mi * xi)).den.neg) (.slice ae af ag);have b4:=(hO.below ab).others cm (ac.keep (by decide)) (fun b hb e=>by simp [Value.ownBlock] at hb;injection e with e;omega);have dg:=ac.bk (am.later ab) (by decide);have aq:=ZI (Za I ab I.size) db (.bool (canF (rr - mi * xi)).num.neg) (.slice B9 l9 k9) (.bool (canF (rr - mi * xi)).den.neg) (.slice ae af ag);have dh:Yhp _ gr (Vf kt M X (i+1)):=⟨B9,l9,k9,ae,af,ag,by rw [an.out,← cj.out,← cl.out,← ck.out];exact ap.set4 _ _ _ _,by rw [an.out,← cj.out,← cl.out,← ck.out];exact e7.keep (ac.keep (by decide))⟩;clear hO ap am I E H ab e6 e7 aw cw c0 c1 c2 c3 f0 f1 f2 f3 F N a9 ac cm cg ch ao ci a8;go_wp2;go_roundw
        case rel=>exact ⟨i+1,by omega,by go_num,b4,dg,dh,aq⟩
        case measure=>simp [intOf];omega
    ·obtain rfl:n=i:=by omega
     obtain ⟨dn,dp,dq,dr,ds,dt,a8,a9⟩:=a5;obtain ⟨t0,t1,t2,t3⟩:=a8.four;obtain ⟨s,A,_,_⟩:=hV.two;obtain ⟨bm,om,A8,n8,c8,A9,n9,c9,rfl,_,⟨z0,z1,z2,z3⟩,bo⟩:=bf.out.elem a (ZE Y);have an:Hid ((ZQ n X).set kt (canF (Vf kt M X n / M kt))=ZQ n (Zsh n kt M X)):=JZ (by
      rw [XT Y];exact ZO fun i hi=>rfl)
     obtain ⟨rr,J⟩:∃rr,rr=Vf kt M X n:=⟨_,rfl⟩;obtain ⟨mk,U⟩:∃mk,mk=M kt:=⟨_,rfl⟩;have cn:(canF mk).Sm:=(by rw [U];exact (az.out kt Y).rs.sm (by have:=HE.out;omega));have ao:(canF rr).Sm:=(by rw [J];exact (bx.out n (JY _)).rs.sm (by have:=HE.out;omega));have co:(canF mk).q≠0:=(by rw [Zr,U];exact da.out);rw [← J,← U] at an;rw [← U] at z0 z2 bo;rw [← J] at t0 t2 a9;clear U J a8
     go_upto_region 15 with (fail)
     have C0:=Zl t0;have C1:=Zl t1;have C2:=Zl t2;have C3:=Zl t3;have D0:=Zl z0;have D1:=Zl z1;have D2:=Zl z2;have D3:=Zl z3;have U0:=Zl s;have U1:=Zl A;have E:=Zj wr;clear t0 t1 t2 t3 z0 z1 z2 z3 s A;refine Zn 15 [0,1,2,3,4,5,6,7,8,9,10,11,12,13,14,15] (by kernel_rfl) (by kernel_rfl) ?_;repeat ((first|(first|refine Zb (v:=?_) rfl rfl rfl ?_ ?_ |refine Zd (v:=?_) rfl rfl rfl ?_ ?_);rotate_left;·(intro _ _;go_simp;(try go_bits);(try with_reducible rfl))|refine Ze rfl rfl rfl ?_);(try simp only [py]))
     refine Zf rfl rfl (fun _ kq=>?_);go_simp;(with_reducible refine (Zay _ _ (canF rr) (canF mk) _ (a9.below E) (bo.below E) ao cn co).mono ?_);rw [Zr,Zr];rintro _ w6 ⟨v6,rfl,e6,aw⟩;have H:=Za E aw E.size;obtain ⟨B9,l9,k9,ae,af,ag,rfl,_,_⟩:=id e6;have bh:=hO.below H;obtain ⟨_,_,_,_,⟨c0,c1,c2,c3⟩,⟨f0,f1,f2,f3⟩,-⟩:=bh.at_ cb;refine kq.out _ _ (.inr H) ?_;clear kq;(try simp only [py]);repeat ((first|(first|refine Zb (v:=?_) rfl rfl rfl ?_ ?_ |refine Zd (v:=?_) rfl rfl rfl ?_ ?_);rotate_left;·(intro _ _;go_simp;(try go_bits);(try with_reducible rfl))|refine Ze rfl rfl rfl ?_);(try simp only [py]))
     refine Zf rfl rfl (fun _ kq=>?_);go_simp;refine kq.out _ _ (.inl (by decide)) ?_;clear kq;(try simp only [py]);refine Zv ?_;clear C0 C1 C2 C3 D0 D1 D2 D3 U0 U1;obtain ⟨b4,ac⟩:=bh.set_ (k:=kt) (by rw [Zc];exact Y) e6;rw [an.out,← bv.out] at b4;have aq:=Zx (Za a H a.size) dj (kt * 4) (kt * 4+1) (kt * 4+2) (kt * 4+3) (.bool (canF (rr / mk)).num.neg) (.slice B9 l9 k9) (.bool (canF (rr / mk)).den.neg) (.slice ae af ag);clear hO bh hV a E H e6 aw c0 c1 c2 c3 f0 f1 f2 f3 a9 bo ac ao cn co;go_wp2;go_roundw
     case rel=>exact ⟨j+1,(t:Int) - 1,by have:=bd.out;omega,by have:=bd.out;omega,by go_num,b4,aq⟩
     case measure=>simp [intOf]
def Ycs (w:World) (e:Nat) (p:LPd) (ph pv:Int) (vb vB vz:Value):Prop:=
 ∃A n c A' n' c' A'' n'' c'',Bk w e 129 [.slice A n c,.slice A' n' c',.slice A'' n'' c'',.int .i64 ph,vb,.int .i64 pv,vB,vz]∧Y1 w (.slice A n c) p.cost∧XW w (.slice A' n' c') p.cols∧Y1 w (.slice A'' n'' c'') p.right
theorem Ycs.below {w w':World} {e:Nat} {p:LPd} {ph pv:Int} {vb vB vz:Value} (h:Ycs w e p ph pv vb vB vz) (hb:Below w.heap.size w w'):Ycs w' e p ph pv vb vB vz:=by
 obtain ⟨A,n,c,A',n',c',a,b,d,h1,h2,h3,h4⟩:=h;exact ⟨A,n,c,A',n',c',a,b,d,h1.later hb,h2.below hb,h3.below hb,h4.below hb⟩
theorem Ycs.cells {w:World} {e:Nat} {p:LPd} {ph pv:Int} {vb vB vz:Value} (h:Ycs w e p ph pv vb vB vz):w.cell? ⟨e,3,none⟩=some (.int .i64 ph)∧w.cell? ⟨e,4,none⟩=some vb∧w.cell? ⟨e,5,none⟩=some (.int .i64 pv)∧w.cell? ⟨e,6,none⟩=some vB∧w.cell? ⟨e,7,none⟩=some vz:=by
 obtain ⟨A,n,c,A',n',c',a,b,d,h1,h2,h3,h4⟩:=h;exact ⟨h1.cellAt 3 rfl,h1.cellAt 4 rfl,h1.cellAt 5 rfl,h1.cellAt 6 rfl,h1.cellAt 7 rfl⟩
def Pl.LPd.Ft (p:LPd) (K:Nat):Prop:=p.Fit K∧p.right.length≤7∧5^p.right.length * K≤4000000
theorem Pl.LPd.Ft.k {p:LPd} {K:Nat} (h:p.Ft K):1≤K∧K≤4000000:=⟨h.1.k1,JW h.1.le h.2.2⟩
theorem Ud {w w':World} {g:Nat} {x y z u:Value} {b b':Bool} {A A':Option Addr} {n c n' c':Nat} {f:RF} {P:RF→Prop} (hB:Bk w' g 46 [x,y,z,u]) (hm:Zw w' (.agg #[.bool b,.slice A n c,.bool b',.slice A' n' c']) f) (hb:Below w.heap.size w w') (hg:w.heap.size≤g) (hP:P f):
 ∃v' f',Ending.returned (.agg [.bool b,.slice A n c,.bool b',.slice A' n' c'].toArray)= .returned v'∧Zw ((((w'.setCell ⟨g,0,none⟩ (.bool b)).setCell ⟨g,1,none⟩ (.slice A n c)).setCell ⟨g,2,none⟩ (.bool b')).setCell ⟨g,3,none⟩ (.slice A' n' c')) v' f'∧P f'∧Below w.heap.size w ((((w'.setCell ⟨g,0,none⟩ (.bool b)).setCell ⟨g,1,none⟩ (.slice A n c)).setCell ⟨g,2,none⟩ (.bool b')).setCell ⟨g,3,none⟩ (.slice A' n' c')):=
 ⟨_,f,rfl,hm.keep (hB.keep4 (by decide) _ _ _ _),hP,ZI hb hg _ _ _ _⟩
theorem Zjj (z:Int) (w:World) (h0: -9223372036854775808≤z) (h1:z≤9223372036854775807):
 Calls Tryz.prog 121 #[.int .i64 z] w fun e w'=>∃v' f,e= .returned v'∧Zw w' v' f∧f=canF (z:Rat)∧Below w.heap.size w w':=by
 obtain ⟨W,hW,hR,g⟩:=YR w (.bool false) (.slice none 0 0) (.bool false) (.slice none 0 0);go_enter Tryz.func121,Tryz.ntmps121;go_wp2_with fail;clear hW;refine (VJ z 1 _ h0 h1 (by omega) (by omega)).mono ?_;rintro _ w1 ⟨v1,hv,e1,b⟩;rw [if_neg (by omega)] at hv e1;subst hv;rw [Zho] at e1;obtain ⟨B,m,d,B',m',d',rfl,_,_⟩:=id e1;obtain ⟨W2,h,hY,c⟩:=YR w1 (.bool (canF (z:Rat)).num.neg) (.slice B m d) (.bool (canF (z:Rat)).den.neg) (.slice B' m' d');have a:=hR.later (Za b c b.size);obtain ⟨c0,c1,c2,c3⟩:=a.four;obtain ⟨f0,f1,f2,f3⟩:=a.fourF;obtain ⟨x0,x1,x2,x3⟩:=hY.four;go_wp2;clear h;refine Zp Tryz.results121 Tryz.underlying46 (by kernel_rfl) rfl (a.set4 _ _ _ _) rfl ?_;exact Ud (P:=fun f=>f=canF (z:Rat)) a (e1.below c) (Za g (Za b c b.size) g.size) (JY _) rfl
theorem Ztc (e:Nat) (p:LPd) (K:Nat) (ph pv:Int) (vb vB vz:Value) (j:Int) (w:World) (h:Ycs w e p ph pv vb vB vz) (F:p.Ft K) (hz:lpErr p=0) (h0: -(p.right.length:Int)≤j) (h1:j < p.cols.length):
 Calls Tryz.prog 97 #[.pointer (some ⟨e,0,none⟩),.int .i64 j] w fun o w'=>∃v' es,o= .returned v'∧V7 w' v' es∧p.col j=Vj es∧Pl.Good p.right.length es∧(∀(k:Nat) (e:En),es[k]? =some e→e.f.Rs K)∧Below w.heap.size w w':=by
 obtain ⟨A,n,c,A',n',c',T,J,U,hB,hc,hv,hr⟩:=h;have N:=F.2.1;have H:=F.1.cols;rcases Int.lt_or_le j 0 with hj | hj
 ·obtain ⟨r,V⟩:∃r:Nat,-1 - j=(r:Int):=⟨(-1 - j).toNat,by omega⟩;obtain rfl:j= -1 - (r:Int):=by omega
  have I:r < p.right.length:=by omega
  obtain ⟨f,hf⟩:=ZH (fs:=p.right) (i:=r) I;have O:f.Sm:=(F.1.rs r f hf).sm F.1.kb;obtain ⟨r1,r2,r3⟩:=hr.len;have y2:=hB.cellAt 2 rfl;obtain ⟨b,L,A1,n1,c1,A2,n2,c2,rfl,_,⟨q0,q1,q2,q3⟩,y⟩:=hr.elem (JR _ _) hf;have P:(r:Int) < J:=by omega
  have hq:qAt p.right r=f.q:=ZF hf;have HQ:=JZ hq;have D:Hid (∀s:Rat,s=(if qs f.q < 0 then -1 else 1)→p.col (-1 - (r:Int))=Vj [⟨(r:Int),canF s⟩]∧Pl.Good p.right.length [⟨(r:Int),canF s⟩]∧∀(k:Nat) (e:En),[(⟨(r:Int),canF s⟩:En)][k]? =some e→e.f.Rs K):=JZ fun s hs=>by
   have E:s≠0∧Sz 1 s:=by
    rw [hs];split
    ·exact ⟨by decide,Zki Sz_one⟩
    ·exact ⟨by decide,Sz_one⟩
   refine ⟨?_,⟨fun k e he=>?_,⟨rfl,trivial⟩,fun k e he=>?_⟩,fun k e he=>?_⟩
   ·rw [LPd.col_neg]
    funext i
    by_cases e:i=r
    ·subst e;rw [if_pos rfl,hq,← hs];show s=if (i:Int)=(i:Int) then (canF s).q else 0
     rw [if_pos rfl,Zr]
    ·rw [if_neg e];show (0:Rat)=if (r:Int)=(i:Int) then (canF s).q else 0
     rw [if_neg (by omega)]
   ·match k,he with
    | 0,he=>simp at he;subst he;constructor <;> simp <;> omega
   ·match k,he with
    | 0,he=>simp at he;subst he;rw [Zr];exact E.1
   ·match k,he with
    | 0,he=>simp at he;subst he;exact (E.2.mono F.1.k1).rs
  have R:qs f.q=0∨qs f.q=1∨qs f.q= -1:=by have:=UY f.q;omega
  clear hf H F hz hc hv hr;go_enter Tryz.func97,Tryz.ntmps97;go_wp2_with fail;refine (ZA _ f _ y).mono ?_;rintro _ w1 ⟨rfl,v⟩;by_cases hn:qs f.q < 0
  ·have t:=D.out (-1) (by rw [if_pos hn]);have x:=JZ t;clear y2 q0 q1 q2 q3 y t hq;go_wp2_with fail;refine (VJ (-1) 1 _ (by omega) (by omega) (by omega) (by omega)).mono ?_;rintro _ w2 ⟨v2,G,e2,C⟩;rw [if_neg (by omega)] at G e2;subst G;rw [show Rat.divInt (-1) 1=(-1:Rat) by decide] at e2;obtain ⟨B,m,d,B',m',d',rfl,_,_⟩:=id e2;have a:=Za v C v.size;obtain ⟨W2,z,hY,g⟩:=YR w2 (.bool (canF (-1)).num.neg) (.slice B m d) (.bool (canF (-1)).den.neg) (.slice B' m' d');obtain ⟨x0,x1,x2,x3⟩:=hY.four;have e3:=e2.below g;go_wp2;clear z;go_ret;have hZ:=Bk.new W2 83 [.int .i64 (r:Int),.bool (canF (-1)).num.neg,.slice B m d,.bool (canF (-1)).den.neg,.slice B' m' d'];have u:=Zi W2 (.cells #[.int .i64 (r:Int),.bool (canF (-1)).num.neg,.slice B m d,.bool (canF (-1)).den.neg,.slice B' m' d'] 83);obtain ⟨g1,g2,g3⟩:=x.out;exact ⟨_,_,rfl,V7.one hZ (e3.below u),g1,g2,g3,Za a (Za g u g.size) a.size⟩
  ·have t:=D.out 1 (by rw [if_neg hn]);have x:=JZ t;clear y2 q0 q1 q2 q3 y t hq;go_wp2_with fail;refine (Zaj _).mono ?_;rintro _ w2 ⟨v2,rfl,e2,C⟩;obtain ⟨B,m,d,B',m',d',rfl,_,_⟩:=id e2;have a:=Za v C v.size;obtain ⟨W2,z,hY,g⟩:=YR w2 (.bool (canF 1).num.neg) (.slice B m d) (.bool (canF 1).den.neg) (.slice B' m' d');obtain ⟨x0,x1,x2,x3⟩:=hY.four;have e3:=e2.below g;go_wp2;clear z;go_ret;have hZ:=Bk.new W2 83 [.int .i64 (r:Int),.bool (canF 1).num.neg,.slice B m d,.bool (canF 1).den.neg,.slice B' m' d'];have u:=Zi W2 (.cells #[.int .i64 (r:Int),.bool (canF 1).num.neg,.slice B m d,.bool (canF 1).den.neg,.slice B' m' d'] 83);obtain ⟨g1,g2,g3⟩:=x.out;exact ⟨_,_,rfl,V7.one hZ (e3.below u),g1,g2,g3,Za a (Za g u g.size) a.size⟩
 ·obtain ⟨jn,rfl⟩:=JT hj;obtain ⟨es,l⟩:=Xm (cs:=p.cols) (i:=jn) (by omega);obtain ⟨l1,l2,l3⟩:=hv.len;have y1:=hB.cellAt 1 rfl;obtain ⟨b,L,A1,c1,rfl,_,x0,M⟩:=hv.elem (JR _ _) l;obtain ⟨z1,z2,z3,z4,z5⟩:=YU hz;have HG:Hid (p.col (jn:Int)=Vj es∧Pl.Good p.right.length es∧∀(k:Nat) (e:En),es[k]? =some e→e.f.Rs K):=JZ ⟨LPd.col_pos l,⟨z4 jn es l,(z5 jn es l).2,(z5 jn es l).1⟩,(F.1.ok.2.2 jn es l).2⟩;have S:(jn:Int) < n':=by omega
  clear l hz F z1 z2 z3 z4 z5 hc hr hB hv l1;go_enter Tryz.func97,Tryz.ntmps97;go_wp2;go_ret;exact ⟨_,es,rfl,M,HG.out.1,HG.out.2.1,HG.out.2.2,JR _ _⟩
theorem Zlm (e:Nat) (p:LPd) (K m cb base bi gB:Nat) (Cs:Mx) (ph pv:Int) (Ab:Option Addr) (vz v:Value) (es:List En) (w:World) (h:Ycs w e p ph pv (.slice Ab m cb) (.pointer (some ⟨gB,0,none⟩)) vz) (hB:Zsu base bi w gB m K Cs) (hv:V7 w v es) (hgo:Pl.Good m es) (hrs:∀(k:Nat) (e:En),es[k]? =some e→e.f.Rs K) (hm:m≤7) (hE:5^m * K≤4000000):
 Calls Tryz.prog 99 #[.pointer (some ⟨e,0,none⟩),v] w fun o w'=>∃v' x,o= .returned v'∧(∀r,r < m→X6 m Cs x r=Vj es r)∧(∀i,i < m→Sz (5^m * K) (x i))∧ZU w.heap.size w' v' (ZQ m x)∧Below w.heap.size w w':=by
 obtain ⟨-,y4,-,y6,-⟩:=h.cells;have l:=JZ hE;clear h hE;go_enter Tryz.func99,Tryz.ntmps99;go_wp2_with fail;refine (Zxy base bi gB m K Cs v es _ hB hv hgo hrs).mono ?_;rintro _ w1 ⟨v1,x,rfl,hx,d,e1,a⟩;have HX:=JZ hx;have b:=JZ d;have q:=Zk a y4;obtain ⟨A1,n1,c1,rfl⟩:∃A n c,v1= .slice A n c:=by obtain ⟨A,c,e,_⟩:=e1.vec.shape;exact ⟨A,_,c,e⟩
 clear y4 y6 hB hv hx d hgo hrs;go_wp2_with fail;refine (Vy _ (spV x m) m (5^m * K) _ e1.vec (by omega) (Zdu b.out) (by have:=l.out;omega) (Zdt x m)).mono ?_;rw [ZO (g:=x) fun i hi=>by rw [Zij,if_pos hi]];rintro _ w2 ⟨v2,rfl,e2,j⟩;have s:=Za a j a.size;obtain ⟨A2,n2,c2,rfl⟩:=e2.sliceN;have e3:=e2.monoB a.size;clear e1 e2 a j q;go_wp2;go_ret;exact ⟨_,x,rfl,HX.out,b.out,e3,s⟩
theorem Zqo (e:Nat) (p:LPd) (K:Nat) (ph pv:Int) (vb vB vz:Value) (j:Int) (w:World) (h:Ycs w e p ph pv vb vB vz) (F:p.Ft K) (hj:j < p.cost.length):
 Calls Tryz.prog 122 #[.pointer (some ⟨e,0,none⟩),.int .i64 j] w fun o w'=>∃v' f,o= .returned v'∧Zw w' v' f∧(f.q=Xa p ph j∧f.Rs K)∧Below w.heap.size w w':=by
 obtain ⟨W,hW,hR,k⟩:=YR w (.bool false) (.slice none 0 0) (.bool false) (.slice none 0 0);have h':=h.below k;obtain ⟨A,n,c,A',n',c',y,z,C,hB,hc,-,-⟩:=h';have y3:=hB.cellAt 3 rfl;have y0:=hB.cellAt 0 rfl;have HF:=JZ F;have v:=F.1.cols;have u:=F.1.cl;clear h F;by_cases h1:ph=2∧0≤j
 ·obtain ⟨rfl,r⟩:=h1;rw [Vl r];obtain ⟨jn,rfl⟩:=JT r;rw [JP];obtain ⟨f,hf⟩:=ZH (fs:=p.cost) (i:=jn) (by omega);have HQ:Hid (f.q=qAt p.cost jn∧f.Rs K):=JZ ⟨(ZF hf).symm,HF.out.1.cs jn f hf⟩;obtain ⟨r1,r2,r3⟩:=hc.len;obtain ⟨b,D,B1,n1,k1,B2,n2,k2,rfl,_,⟨q0,q1,q2,q3⟩,t⟩:=hc.elem (JR _ _) hf;have x:(jn:Int) < n:=by omega
  obtain ⟨c0,c1,c2,c3⟩:=hR.four;obtain ⟨f0,f1,f2,f3⟩:=hR.fourF;clear hf hc hj;go_enter Tryz.func122,Tryz.ntmps122;go_wp2;clear hW;refine Zp Tryz.results122 Tryz.underlying46 (by kernel_rfl) rfl (hR.set4 _ _ _ _) rfl ?_;exact Ud (P:=fun f'=>f'.q=qAt p.cost jn∧f'.Rs K) hR t k (JY _) HQ.out
 ·by_cases h2:ph=1∧j < 0
  ·obtain ⟨rfl,r⟩:=h2;rw [Zag r];clear hc y0;go_enter Tryz.func122,Tryz.ntmps122;go_wp2_with fail;clear hW y3;refine (Zjj 1 _ (by omega) (by omega)).mono ?_;rintro _ w1 ⟨v1,s,rfl,e1,rfl,g⟩;obtain ⟨B,m,d,B',m',d',rfl,_,_⟩:=id e1;have a:=hR.later g;obtain ⟨c0,c1,c2,c3⟩:=a.four;obtain ⟨f0,f1,f2,f3⟩:=a.fourF;go_wp2;refine Zp Tryz.results122 Tryz.underlying46 (by kernel_rfl) rfl (a.set4 _ _ _ _) rfl ?_;exact Ud (P:=fun f'=>f'.q=1∧f'.Rs K) a e1 (Za k g k.size) (JY _) ⟨by rw [Zr];rfl,((show Sz 1 ((1:Int):Rat) from Sz_one).mono HF.out.1.k1).rs⟩
  ·rw [Xo h2 h1];have HZ:=JZ HF.out.1.k1;have l:Calls Tryz.prog 121 #[.int .i64 0] W fun e w'=>∃v' f,e= .returned v'∧Zw w' v' f∧f=canF ((0:Int):Rat)∧Below W.heap.size W w':=Zjj 0 W (by omega) (by omega)
   by_cases c2:ph=2
   ·subst c2;have r:j < 0:=(by omega);clear hc y0;go_enter Tryz.func122,Tryz.ntmps122;go_wp2_with fail;clear hW y3;refine l.mono ?_;clear l;rintro _ w1 ⟨v1,s,rfl,e1,rfl,g⟩;obtain ⟨B,m,d,B',m',d',rfl,_,_⟩:=id e1;have a:=hR.later g;obtain ⟨c0,c1,c2,c3⟩:=a.four;obtain ⟨f0,f1,f2,f3⟩:=a.fourF;go_wp2;refine Zp Tryz.results122 Tryz.underlying46 (by kernel_rfl) rfl (a.set4 _ _ _ _) rfl ?_;exact Ud (P:=fun f'=>f'.q=0∧f'.Rs K) a e1 (Za k g k.size) (JY _) ⟨by rw [Zr];rfl,((show Sz 1 ((0:Int):Rat) from Sz_zero).mono HZ.out).rs⟩
   ·by_cases c1:ph=1
    ·subst c1;have r:0≤j:=(by omega);clear hc y0;go_enter Tryz.func122,Tryz.ntmps122;go_wp2_with fail;clear hW y3;refine l.mono ?_;clear l;rintro _ w1 ⟨v1,s,rfl,e1,rfl,g⟩;obtain ⟨B,m,d,B',m',d',rfl,_,_⟩:=id e1;have a:=hR.later g;obtain ⟨c0,c1,c2,c3⟩:=a.four;obtain ⟨f0,f1,f2,f3⟩:=a.fourF;go_wp2;refine Zp Tryz.results122 Tryz.underlying46 (by kernel_rfl) rfl (a.set4 _ _ _ _) rfl ?_;exact Ud (P:=fun f'=>f'.q=0∧f'.Rs K) a e1 (Za k g k.size) (JY _) ⟨by rw [Zr];rfl,((show Sz 1 ((0:Int):Rat) from Sz_zero).mono HZ.out).rs⟩
    ·have h3:(ph==2)=false:=(by simpa using c2);have h4:(ph==1)=false:=(by simpa using c1);clear hc y0 h1 h2;go_enter Tryz.func122,Tryz.ntmps122;go_wp2_with fail;clear hW y3;refine l.mono ?_;clear l;rintro _ w1 ⟨v1,s,rfl,e1,rfl,g⟩;obtain ⟨B,m,d,B',m',d',rfl,_,_⟩:=id e1;have a:=hR.later g;obtain ⟨c0,c1,c2,c3⟩:=a.four;obtain ⟨f0,f1,f2,f3⟩:=a.fourF;go_wp2;refine Zp Tryz.results122 Tryz.underlying46 (by kernel_rfl) rfl (a.set4 _ _ _ _) rfl ?_;exact Ud (P:=fun f'=>f'.q=0∧f'.Rs K) a e1 (Za k g k.size) (JY _) ⟨by rw [Zr];rfl,((show Sz 1 ((0:Int):Rat) from Sz_zero).mono HZ.out).rs⟩
end Go.Proofs.YtgbhebappffbdaaGreat
namespace Go.Proofs.YtgbhebappffbdaaGreat
open Go.RowKit
open Pl
attribute [local go_sem ↓] Go.wp_at_zero Go.wp_at_succ
namespace Pl
theorem Zxt {es:List En} {e:En}:∀{a:Int},Inc (some a) (es++[e])→a < e.idx:=by
 induction es with
 | nil=>intro a h;have:=h.1;simp [leP] at this;omega
 | cons d es ih=>intro a h;have h1:=h.1;have h2:=ih h.2;simp [leP] at h1;omega
theorem Zxu {es:List En} {e:En}:∀{p:Option Int},Inc p (es++[e])→Inc p es∧∀(k:Nat) (d:En),es[k]? =some d→d.idx < e.idx:=by
 induction es with
 | nil=>intro p _;exact ⟨trivial,fun k d h=>by simp at h⟩
 | cons c es ih=>
  intro p h;obtain ⟨h1,h2⟩:=ih h.2;refine ⟨⟨h.1,h1⟩,fun k d hd=>?_⟩
  cases k with
  | zero=>simp at hd;subst hd;exact Zxt h.2
  | succ k=>exact h2 k d (by simpa using hd)
theorem Yfw {n:Nat} {es:List En} (h:∀(k:Nat) (e:En),es[k]? =some e→e.idx≠(n:Int)):Vj es n=0:=by
 have a:∀(es:List En) (f:Nat→Rat),(∀(k:Nat) (e:En),es[k]? =some e→e.idx≠(n:Int))→dQ es f n=f n:=by
  intro es
  induction es with
  | nil=>intro f _;rfl
  | cons c es ih=>
   intro f h;rw [dQ,ih _ fun k e he=>h (k+1) e (by simpa using he),if_neg (h 0 c rfl)]
 exact a es _ h
theorem cpyV_spV:∀{n:Nat} {es:List En},Good n es→Zxi es=spV (Vj es) n
 | 0,[],_=>rfl
 | 0,e::es,h=>by have:=h.1 0 e rfl;omega
 | n+1,es,h=>by
  rcases List.eq_nil_or_concat es with rfl | ⟨ds,e,he0⟩
  ·have h0:Good n ([]:List En):=⟨fun k e h=>by simp at h,trivial,fun k e h=>by simp at h⟩
   rw [XV rfl]
   exact cpyV_spV h0
  ·rw [List.concat_eq_append] at he0
   subst he0
   obtain ⟨h1,h2,h3⟩:=h
   obtain ⟨i1,i2⟩:=Zxu h2
   have he:(ds++[e])[ds.length]? =some e:=by simp
   have e1:=h1 _ e he
   have hl:∀(k:Nat) (d:En),ds[k]? =some d→(ds++[e])[k]? =some d:=fun k d hd=>by
    rw [List.getElem?_append_left (List.getElem?_eq_some_iff.1 hd).1];exact hd
   have hc:∀i,Vj (ds++[e]) i=if e.idx=(i:Int) then e.f.q else Vj ds i:=fun i=>by unfold Vj;rw [Zmd]
   by_cases g:e.idx=(n:Int)
   ·have hd:Good n ds:=⟨fun k d hd=>by have:=i2 k d hd;have:=h1 k d (hl k d hd);omega,i1,fun k d hd=>h3 k d (hl k d hd)⟩
    have hn:Vj (ds++[e]) n=e.f.q:=by rw [hc,if_pos g]
    rw [Wo (by rw [hn];exact h3 _ e he),hn,Vw (g:=Vj ds) fun i hi=>by rw [hc,if_neg (by omega)],← cpyV_spV hd]
    unfold Zxi
    rw [List.map_append]
    simp [g]
   ·have hd:Good n (ds++[e]):=⟨fun k d hd=>by
     have:=h1 k d hd
     rcases JX k ds.length with hk | hk
     ·rw [List.getElem?_append_left hk] at hd
      have:=i2 k d hd;omega
     ·rw [List.getElem?_append_right hk] at hd
      have a:k - ds.length=0:=by
       rcases JV (k - ds.length) with e | e
       ·exact e
       ·rw [JU (by simp;omega)] at hd;cases hd
      rw [a] at hd;simp at hd;subst hd;omega,h2,h3⟩
    rw [XV (Yfw fun k d hk=>by have:=hd.1 k d hk;omega)];exact cpyV_spV hd
end Pl
theorem Yfx (v:Value) (n K:Nat) (cols:List (List En)) (Cs:Mx) (w:World) (h:XW w v cols) (hl:cols.length=n) (hn:n≤7) (hK:1≤K) (hE:5^n * K≤4000000) (hg:∀(k:Nat) (c:List En),cols[k]? =some c→Pl.Good n c∧∀(j:Nat) (e:En),c[j]? =some e→e.f.Rs K) (hCs:∀(k:Nat) (c:List En),cols[k]? =some c→Cs k=Vj c):
 Calls Tryz.prog 98 #[.int .i64 (n:Int),v] w (Yos n K Cs w):=by
 obtain ⟨A,c,rfl,Z,a5⟩:=h.shape;rw [hl] at h Z ⊢;have HV:=JZ h;have HG:=JZ hg;have HL:=JZ hl;have HK:=JZ hK;have HE:=JZ hE;have F:Hid (∀r c,r < n→c < n→Sz K (Cs c r)):=JZ fun r c hr hc=>by
  obtain ⟨d,hd⟩:=Xm (cs:=cols) (i:=c) (by omega);rw [hCs c d hd];exact Sz_col (hg c d hd).2 hK r
 have a2:K≤4000000:=JW (Nat.le_mul_of_pos_left K (Nat.pow_pos (by decide))) hE;have a3:=Ziv n (by omega);have B:=YF.zeros w n (by unfold maxLen;omega);have G:=Zi w (.cells (zvc n) 66);rw [Zjd (L:=Cs)] at B;have T:=JZ hCs;clear h hg hl hK hE hCs;go_enter Tryz.func98,Tryz.ntmps98;go_wp2;generalize w.alloc (.cells (zvc n) 66)=W at *
 go_loopw [26] (fun x wr=>∃k:Nat,k≤n∧x= .int .i64 k∧YF w.heap.size wr (.slice (some ⟨w.heap.size,0,none⟩) n n) (Zxv n k Cs)∧Below w.heap.size w wr) (fun x _=>n - (intOf x).toNat)
 case atStart=>exact ⟨0,by omega,rfl,B,G⟩
 case round=>
  clear B G;obtain ⟨k,hk,rfl,hO,g⟩:=hrel;rcases JX k n with hkl | hkl
  ·obtain ⟨es,u⟩:=Xm (cs:=cols) (i:=k) (by rw [HL.out];exact hkl);obtain ⟨q,P⟩:=HG.out k es u;obtain ⟨b,a6,A1,c1,rfl,_,x0,hv⟩:=HV.out.elem g u;have a4:(k:Int) < n:=(by omega);have HM:=JZ (T.out k es u);have HC:=JZ (cpyV_spV q);have U:Hid (vecErr es (n:Int)=0):=JZ (q.err (by omega));have V:=JZ P;have H:=q.enI (by omega);have X:Hid (es.length≤1099511627776):=JZ (by
    have e1:(Zxi es).length=es.length:=(by simp [Zxi]);rw [cpyV_spV q] at e1;have:=Ua (f:=Vj es) n;omega)
   clear u q P;go_wp2_with fail;refine (Wh _ es (n:Int) _ hv H (by omega) (by omega)).mono ?_;rw [U.out];rintro _ w1 ⟨rfl,l⟩;have I:=hv.below l;have s:=hO.below l;have a:=Za g l g.size;clear hv hO g l x0 H;go_wp2_with fail;refine (Zjx _ es K _ I V.out (by omega) X.out).mono ?_;rintro _ w2 ⟨v2,rfl,e2,E⟩;rw [HC.out,← HM.out] at e2;have D:=s.below E;have y:=Za a E a.size;obtain ⟨_,m0,m1,-⟩:=D.at_ (Zee (t:=k) (L:=Cs) hkl);obtain ⟨S,_⟩:=D.set_ (k:=k) (by rw [VB];exact hkl) e2.vec;rw [Znd hkl] at S;have J:=y.setCell (p:=⟨w.heap.size,k,none⟩) (JY _) v2;obtain ⟨A2,n2,c2,rfl⟩:∃A n c,v2= .slice A n c:=by obtain ⟨A,c,e,_⟩:=e2.vec.shape;exact ⟨A,_,c,e⟩
   clear I s D a y e2 E;go_wp2;go_roundw
   case rel=>exact ⟨k+1,by omega,by go_num,S,J⟩
   case measure=>simp [intOf];omega
  ·obtain rfl:n=k:=by omega
   rw [Zvh] at hO;have HO:=JZ hO;go_wp2_with fail;refine (Zne _ n K _ _ hO.vecs (by omega) HK.out HE.out F.out).mono ?_;clear hO;rintro _ w1 ⟨l,⟨R,C,L,Um,s0,s1,s2,s3,rfl,hF,h0,h1,h2,h3⟩ | ⟨rfl,a1⟩⟩
   ·have s:=HO.out.below l;have a:=Za g l g.size;have M:=g.size;have N:w.heap.size < wr.heap.size:=by
     obtain ⟨cs,hh,_⟩:=HO.out;exact Zci hh w.heap.size rfl
    have z:Wm n Cs:=hF.fac.indep;have O:=JZ z;have HF:=JZ hF;obtain ⟨A0,c0,rfl⟩:=h0.nshape;obtain ⟨A1,c1,rfl⟩:=h1.nshape;obtain ⟨A2,c2,rfl⟩:=h2.nshape;obtain ⟨A3,c3,rfl⟩:=h3.nshape;have hX:=Bk.new w1 158 [.slice A0 n c0,.slice A1 n c1,.slice A2 n c2,.slice A3 n c3];have o:=Zi w1 (.cells #[.slice A0 n c0,.slice A1 n c1,.slice A2 n c2,.slice A3 n c3] 158);clear hF z g;obtain ⟨W2,a0,hX,o⟩:∃W2,w1.alloc (.cells #[.slice A0 n c0,.slice A1 n c1,.slice A2 n c2,.slice A3 n c3] 158)=W2∧Bk W2 w1.heap.size 158 [.slice A0 n c0,.slice A1 n c1,.slice A2 n c2,.slice A3 n c3]∧Below w1.heap.size w1 W2:=⟨_,rfl,hX,o⟩;obtain ⟨x0,x1,x2,x3⟩:=hX.four;go_wp2;clear a0 x0 x1 x2 x3 hX;have hY:=Bk.new W2 163 [.int .i64 (n:Int),.slice (some ⟨w.heap.size,0,none⟩) n n,.slice A0 n c0,.slice A1 n c1,.slice A2 n c2,.slice A3 n c3,.slice none 0 0];have Y:=Zi W2 (.cells #[.int .i64 (n:Int),.slice (some ⟨w.heap.size,0,none⟩) n n,.slice A0 n c0,.slice A1 n c1,.slice A2 n c2,.slice A3 n c3,.slice none 0 0] 163);have m:=Za o Y o.size;go_ret2;refine ⟨Za a m a.size,.inl ⟨_,rfl,O.out,fun bi=>⟨0,w.heap.size,n,fun _=>0,R,C,fun _ _=>0,fun _ _=>0,L,Um,fun _=>Cs,_,_,_,_,_,hY,⟨JW a.size o.size,by omega,HE.out,rfl⟩,Ups.zero F.out O.out _ _ _,HF.out,s.below m,(h0.below m).monoB M,(h1.below m).monoB M,(h2.below m).monoB N,(h3.below m).monoB N,Zvi.nil _ _ _ _ _ _⟩⟩⟩
   ·have a:=Za g l g.size;clear g l;go_wp2;go_ret2;exact ⟨Za a (Zi _ _) a.size,.inr ⟨rfl,a1⟩⟩
namespace Pl
theorem Ztd {m:Nat} {cols:Mx} {b x:Nat→Rat} (h:Wm m cols) (hx:∀r,r < m→X6 m cols x r=b r):Zjy m cols b=ZQ m x:=by
 have hl:=(VD h b).1;refine List.ext_getElem? fun i=>?_
 rcases JX i m with e | e
 ·obtain ⟨f,hf⟩:=ZH (fs:=Zjy m cols b) (i:=i) (by omega);rw [hf,ZE e,Znf hf,Zqc h hx i e]
 ·rw [JU (by omega),JU (by rw [Zc];exact e)]
theorem Good.length {n:Nat} {es:List En} (h:Good n es):es.length≤n:=by
 have e1:(Zxi es).length=es.length:=by simp [Zxi]
 rw [cpyV_spV h] at e1;have:=Ua (f:=Vj es) n;omega
def Znk (p:LPd) (s:LSt) (j:Int) (es:List En) (t:Nat):Rat:=Xa p s.phase j - V9 es (YH p s) t
theorem Ygk {p:LPd} {s:LSt} {j:Int} {es:List En} (hr:Reg p s) (hc:p.col j=Vj es) (hg:Good p.right.length es):Znk p s j es es.length=Wy p s j:=by
 unfold Znk Wy;rw [UB hr,Nat.min_self,Zig,Zih hg.1 hg.2.1 es.length (JY _),List.take_length,hc];rfl
theorem Ynl {p:LPd} {s:LSt} {K:Nat} {j:Int} {es:List En} (F:p.Ft K) (hs:∀(k:Nat) (e:En),es[k]? =some e→e.f.Rs K) (hl:es.length≤7) {t:Nat} (ht:t≤es.length):Sz (20 * (5^p.right.length * K)+20) (Znk p s j es t):=by
 have h1:K≤5^p.right.length * K:=F.1.le;have h2:=Zme (K:=5^p.right.length * K) (fun k e he=>(hs k e he).mono h1) (Ziz F.1 s) (JW F.1.k1 h1) t;have h3:t * (2 * (5^p.right.length * K)+1)≤7 * (2 * (5^p.right.length * K)+1):=JS _ (by omega);exact (Zdg ((Zfe F.1.ok F.1.k1 _ _).mono h1) h2).mono (by omega)
end Pl
def Yct (w:World) (e:Nat) (p:LPd) (s:LSt) (K:Nat):Prop:=
 ∃(Ab:Option Addr) (cb base bi gB:Nat) (vz:Value),Ycs w e p s.phase s.pivots (.slice Ab p.right.length cb) (.pointer (some ⟨gB,0,none⟩)) vz∧Xq w (.slice Ab p.right.length cb) s.basis∧Zsu base bi w gB p.right.length K (s.mat p)∧Y1 w vz (zL p s)
theorem Yct.below {w w':World} {e:Nat} {p:LPd} {s:LSt} {K:Nat} (h:Yct w e p s K) (hb:Below w.heap.size w w'):Yct w' e p s K:=by
 obtain ⟨Ab,cb,base,bi,gB,vz,h1,h2,h3,h4⟩:=h;exact ⟨Ab,cb,base,bi,gB,vz,h1.below hb,h2.below hb,h3.below hb,h4.below hb⟩
theorem Zsu.indep {base bi g n K:Nat} {w:World} {Cs:Mx} (h:Zsu base bi w g n K Cs):Wm n Cs:=by
 obtain ⟨T,_,_,_,_,_,_,_,_,_,CC,_,_,_,_,_,_,⟨_,_,_,e⟩,hU,_⟩:=h;rw [← e];exact hU.indep T (JY _)
theorem Yct.reg {w:World} {e:Nat} {p:LPd} {s:LSt} {K:Nat} (h:Yct w e p s K):Reg p s:=by
 obtain ⟨Ab,cb,base,bi,gB,vz,h1,h2,h3,h4⟩:=h;exact h3.indep
theorem Zqp (e:Nat) (p:LPd) (s:LSt) (K:Nat) (w:World) (h:Yct w e p s K) (S:s.Fit p) (F:p.Ft K):
 Calls Tryz.prog 72 #[.pointer (some ⟨e,0,none⟩)] w fun o w'=>∃v',o= .returned v'∧ZU w.heap.size w' v' (YH p s)∧Below w.heap.size w w':=by
 have HR:=JZ h.reg;have HH:=JZ h;obtain ⟨Ab,cb,base,bi,gB,vz,h1,h2,h3,h4⟩:=h;obtain ⟨-,y4,-,y6,-⟩:=h1.cells;have HM:=JZ h1;have HI:=JZ h2;have HB:=JZ h3;have HF:=JZ F;have HS:=JZ S;obtain ⟨m,hm⟩:∃m,m=p.right.length:=⟨_,rfl⟩;have j:=JZ hm;rw [← hm] at y4;have a5:m≤7:=by rw [hm];exact F.2.1
 have R:=h2.len;obtain ⟨-,J,a4⟩:=R;rw [← hm] at J;have a6:=XF m (by omega);have t:=ZU.zeros w m (by unfold maxLen;omega);have u:=Zi w (.cells (zfc m) 46);rw [Zed] at t;have HK:=JZ F.k;have T:=JZ y4;have U:=JZ y6;have V:=Zk u y4;clear h1 h2 h3 h4 F S hm y6;go_enter Tryz.func72,Tryz.ntmps72;go_wp2;clear y4 V;generalize w.alloc (.cells (zfc m) 46)=W at *
 go_loopw [23] (fun x wr=>∃k:Nat,k≤m∧x= .int .i64 k∧Below w.heap.size w wr∧∃H:Nat→RF,ZU w.heap.size wr (.slice (some ⟨w.heap.size,0,none⟩) m m) (rfL m H)∧∀i,i < m→(i < k→(H i).q=Xa p s.phase (s.at_ i))∧(H i).Rs K) (fun x _=>m - (intOf x).toNat)
 case atStart=>exact ⟨0,by omega,rfl,u,fun _=>zeroF,t,fun i hi=>⟨fun h=>absurd h (by omega),(VL 1).mono HK.out.1⟩⟩
 case round=>
  clear t u;obtain ⟨k,hk,rfl,d,H,hO,hH⟩:=hrel;rcases JX k m with hkl | hkl
  ·have a7:(k:Int) < m:=(by omega);obtain ⟨bb,ob,z,rfl,x0,hz,z0,z1⟩:=HI.out.at_ (show k < p.right.length by rw [← j.out];exact hkl);have X:=Zk d x0;have Y:Hid (s.at_ k=z):=JZ (LSt.at_eq hz);have Z:z < p.cost.length:=(by rw [HF.out.1.cl];exact (HS.out.1 k z hz).2);have D:=JZ hH;clear hz x0 hH;go_wp2_with fail;refine (Zqo e p K s.phase s.pivots _ _ _ z _ (HM.out.below d) HF.out Z).mono ?_;rintro _ w1 ⟨v1,f,rfl,e1,hf,B⟩;obtain ⟨A1,n1,c1,A2,n2,c2,rfl,_,_⟩:=id e1;have v:=hO.below B;have l:=Za d B d.size;obtain ⟨_,_,_,_,⟨c0,a9,aa,c3⟩,⟨f0,f1,f2,f3⟩,-⟩:=v.at_ (YD (f:=H) hkl);obtain ⟨L,_⟩:=v.set_ (k:=k) (by rw [Zz];exact hkl) e1;rw [Uw hkl] at L;have a:=Zx l (JY _) (k * 4) (k * 4+1) (k * 4+2) (k * 4+3);have E:=JZ hf;clear hO v d l B e1 X hf;go_wp2;go_roundw
   case rel=>
    refine ⟨k+1,by omega,by go_num,a _ _ _ _,_,L,fun i hi=>?_⟩;by_cases g:i=k
    ·simp only [if_pos g];exact ⟨fun _=>by rw [g,Y.out];exact E.out.1,E.out.2⟩
    ·simp only [if_neg g];exact ⟨fun h=>(D.out i hi).1 (by omega),(D.out i hi).2⟩
   case measure=>simp [intOf];omega
  ·obtain rfl:m=k:=by omega
   have G:RsL K (rfL m H):=fun i f hf=>by
    have hi:i < m:=(by have:=(List.getElem?_eq_some_iff.1 hf).1;rwa [Zz] at this);rw [YD hi] at hf;injection hf with hf;subst hf;exact (hH i hi).2
   obtain ⟨C,hC⟩:∃C:Nat→Rat,C=fun i=>Xa p s.phase (s.at_ i):=⟨_,rfl⟩
   have a0:Hid (spV (qAt (rfL m H)) (rfL m H).length=spV C m):=JZ (by
    rw [Zz,hC];exact Vw fun i hi=>by rw [Zms hi];exact (hH i hi).1 hi)
   have a1:Hid (∀i,i < m→Sz K (C i)):=JZ fun i _=>by rw [hC];exact Zfe HF.out.1.ok HF.out.1.k1 _ _
   have HC:=JZ hC;have a8:=JZ hH;clear hH hC;go_wp2_with fail;refine (Xk _ (rfL m H) K _ hO.frs (by rw [Zz];omega) G (by have:=HK.out;omega)).mono ?_;rw [a0.out];rintro _ w2 ⟨v2,rfl,e2,M⟩;have a:=Za d M d.size;have y6:=Zk a U.out;obtain ⟨A2,n2,c2,rfl⟩:∃A n c,v2= .slice A n c:=by obtain ⟨A,c,e,_⟩:=e2.vec.shape;exact ⟨A,_,c,e⟩
   clear hO d M G;go_wp2_with fail;refine (Zsv base bi gB m K (s.mat p) _ (spV C m) _ (by have:=HB.out.below a;rw [← j.out] at this;exact this) e2.vec (Zdt C m) (Zdu a1.out)).mono ?_;rintro _ w3 ⟨v3,y,rfl,hy,N,e3,O⟩;have b:=Za a O a.size;have y4:=Zk b T.out;obtain ⟨A3,n3,c3,rfl⟩:∃A n c,v3= .slice A n c:=by obtain ⟨A,c,e,_⟩:=e3.vec.shape;exact ⟨A,_,c,e⟩
   have a2:=JZ N;have a3:Hid (ZQ m (Vj (spV y m))=YH p s):=JZ (by
    unfold YH;rw [ZO (g:=y) fun i hi=>by rw [Zij,if_pos hi],← j.out];refine (Ztd (m:=m) (cols:=fun r k=>s.mat p k r) (by have:=HR.out.tr;rw [← j.out] at this;exact this) fun r hr=>?_).symm;rw [Yr hr];have:=hy r hr;rw [Zij,if_pos hr,HC.out] at this;exact this)
   clear e2 a O y6 hy N;go_wp2_with fail;refine (Vy _ (spV y m) m (5^m * K) _ e3.vec (by omega) (Zdu a2.out) (by have:=HF.out.2.2;rw [← j.out] at this;omega) (Zdt y m)).mono ?_;rw [a3.out];rintro _ w4 ⟨v4,rfl,e4,P⟩;have I:=Za b P b.size;have e5:=e4.monoB b.size;obtain ⟨A4,n4,c4,rfl⟩:=e4.sliceN;clear e3 b P y4 e4;go_wp2;go_ret;exact ⟨_,rfl,e5,I⟩
theorem Zem (e:Nat) (p:LPd) (s:LSt) (K j:Nat) (w:World) (h:Yct w e p s K) (F:p.Ft K) (hz:lpErr p=0) (hj:j < p.cols.length):
 Calls Tryz.prog 75 #[.pointer (some ⟨e,0,none⟩),.int .i64 (j:Int)] w fun o w'=>∃v',o= .returned v'∧ZU w.heap.size w' v' (dirL p s (j:Int))∧Below w.heap.size w w':=by
 have HR:=JZ h.reg;obtain ⟨Ab,cb,base,bi,gB,vz,h1,h2,h3,h4⟩:=h;have HM:=JZ h1;obtain ⟨A,n,c,A',n',c',t,u,v,hB,-,hv,-⟩:=h1;obtain ⟨es,a⟩:=Xm (cs:=p.cols) (i:=j) hj;obtain ⟨l1,l2,l3⟩:=hv.len;have y1:=hB.cellAt 1 rfl;obtain ⟨b,y,A1,c1,rfl,_,x0,d⟩:=hv.elem (JR _ _) a;obtain ⟨z1,z2,z3,z4,z5⟩:=YU hz;have HC:=JZ (LPd.col_pos a);have f:Pl.Good p.right.length es:=⟨z4 j es a,(z5 j es a).2,(z5 j es a).1⟩;have g:=(F.1.ok.2.2 j es a).2;have q:(j:Int) < n':=by omega
 have k:=F.2.1;have l:=F.2.2;clear a hz F z1 z2 z3 z4 z5 h2 h4 hB hv l1 hj;go_enter Tryz.func75,Tryz.ntmps75;go_wp2_with fail;clear y1 x0;refine (Zlm e p K p.right.length cb base bi gB (s.mat p) s.phase s.pivots Ab vz _ es _ HM.out h3 d f g k l).mono ?_;rintro _ w1 ⟨v1,x,rfl,hx,-,e1,m⟩;have hd:ZQ p.right.length x=dirL p s (j:Int):=by
  unfold dirL;refine (Ztd HR.out fun r hr=>?_).symm;rw [Yr hr,HC.out];exact hx r hr
 rw [hd] at e1;obtain ⟨A2,n2,c2,rfl⟩:=e1.sliceN;clear hd hx h3 d;go_wp2;go_ret;exact ⟨_,rfl,e1,m⟩
theorem Zte (e:Nat) (p:LPd) (s:LSt) (K j:Nat) (vy:Value) (w:World) (h:Yct w e p s K) (hy:Y1 w vy (YH p s)) (F:p.Ft K) (hz:lpErr p=0) (hj:j < p.cols.length):
 Calls Tryz.prog 102 #[.pointer (some ⟨e,0,none⟩),vy,.int .i64 (j:Int)] w fun o w'=>∃v',o= .returned v'∧Zw w' v' (canF (Wy p s (j:Int)))∧Below w.heap.size w w':=by
 have HR:=JZ h.reg;obtain ⟨Ab,cb,base,bi,gB,vz,h1,h2,h3,h4⟩:=h;have HM:=JZ h1;obtain ⟨A,n,c,A',n',c',bu,bv,bw,hB,-,hv,-⟩:=h1;obtain ⟨es,r⟩:=Xm (cs:=p.cols) (i:=j) hj;obtain ⟨l1,l2,l3⟩:=hv.len;have y1:=hB.cellAt 1 rfl;obtain ⟨b,bx,A1,c1,rfl,_,x0,aa⟩:=hv.elem (JR _ _) r;obtain ⟨z1,z2,z3,z4,z5⟩:=YU hz;have P:Pl.Good p.right.length es:=⟨z4 j es r,(z5 j es r).2,(z5 j es r).1⟩;have b5:=JZ P;have b6:Hid (Znk p s (j:Int) es es.length=Wy p s (j:Int)):=JZ (Ygk HR.out (LPd.col_pos r) P);have ac:=JZ (F.1.ok.2.2 j es r).2;have bs:(j:Int) < n':=by omega
 have b7:(j:Int) < p.cost.length:=by rw [F.1.cl];omega
 have HF:=JZ F;obtain ⟨Ay,cy,rfl,av,bq⟩:=hy.shape;obtain ⟨m,hm⟩:∃m,m=p.right.length:=⟨_,rfl⟩;have b8:=JZ hm;have ad:Hid ((YH p s).length=m):=JZ (by rw [hm];exact UB HR.out);rw [ad.out] at hy av ⊢;have b9:=JZ hy;have ba:=JZ aa;obtain ⟨l,hl⟩:∃l,l=es.length:=⟨_,rfl⟩;have R:=JZ hl;have bb:l≤7:=by rw [hl];exact JW P.length F.2.1
 rw [← hl] at x0;have bc:=JZ y1;have bd:=JZ x0;obtain ⟨-,aw,br⟩:=aa.len;rw [← hl] at aw;have HJ:Hid (K≤5^p.right.length * K∧1≤K∧5^p.right.length * K≤4000000):=JZ ⟨F.1.le,F.1.k1,F.2.2⟩;have be:Hid (Znk p s (j:Int) es 0=Xa p s.phase (j:Int)):=JZ (by unfold Znk V9;rw [Y2];grind);obtain ⟨W0,bo,ax,X⟩:=YR w (.bool false) (.slice none 0 0) (.bool false) (.slice none 0 0);clear r hz F z1 z2 z3 z4 z5 h2 h3 h4 hB hv l1 hj hy aa P hl hm x0 y1;go_enter Tryz.func102,Tryz.ntmps102;go_wp2_with fail;clear bo;refine (Zqo e p K s.phase s.pivots _ _ _ (j:Int) _ (HM.out.below X) HF.out b7).mono ?_;rintro _ w1 ⟨v1,f,rfl,e1,hf,ab⟩;obtain ⟨B1,m1,d1,B2,m2,d2,rfl,_,_⟩:=id e1;have z:f.Sm:=hf.2.sm (by have:=HJ.out;omega);have bf:Hid (f.q+zeroF.q=Znk p s (j:Int) es 0):=JZ (by rw [be.out,zeroF_q,hf.1,Rat.add_zero]);have B:=Za X ab X.size;have a8:=ax.later ab;clear hf ax X ab;go_wp2_with fail;refine (Zas _ _ f zeroF _ e1 (Zw.zero _) z zeroF_sm).mono ?_;rw [bf.out];rintro _ w2 ⟨v2,rfl,e2,a5⟩;obtain ⟨B1,m1,d1,B2,m2,d2,rfl,_,_⟩:=id e2;obtain ⟨W3,bp,ay,Y⟩:=YR w2 (.bool (canF (Znk p s (j:Int) es 0)).num.neg) (.slice B1 m1 d1) (.bool (canF (Znk p s (j:Int) es 0)).den.neg) (.slice B2 m2 d2);have ae:=(a8.later a5).later Y;have C:=Za B a5 B.size;have u:=Za C Y C.size;have e3:=e2.below Y;have y1:=Zk u bc.out;have x0:=Zk u bd.out;have bg:w.heap.size < w2.heap.size:=by have:=a8.lt;have:=a5.size;omega
 clear a8 e1 e2 a5 Y B C z;go_wp2;clear bp y1 x0;have af:Yhp W3 w2.heap.size (Znk p s (j:Int) es 0):=⟨_,_,_,_,_,_,ay,e3⟩;clear ay e3;generalize w2.heap.size=gt at *
 go_loopw [24] (fun x wr=>∃t:Nat,t≤l∧x= .int .i64 t∧Below w.heap.size w wr∧Yhp wr gt (Znk p s (j:Int) es t)∧Bk wr w.heap.size 46 [.bool false,.slice none 0 0,.bool false,.slice none 0 0]) (fun x _=>l - (intOf x).toNat)
 case atStart=>exact ⟨0,by omega,rfl,u,af,ae⟩
 case round=>
  clear u af ae;obtain ⟨t,ht,rfl,J,hT,hR⟩:=hrel;rcases JX t l with htl | htl
  ·obtain ⟨en,L⟩:=Y3 (es:=es) (i:=t) (by rw [← R.out];exact htl);obtain ⟨b2,o2,A2,n2,c2,A3,n3,c3,rfl,_,⟨x0,x1,x2,x3,x4⟩,az⟩:=ba.out.elem J L;have ag:=b5.out.1 t en L;have D:=ac.out t en L;have ah:=JZ (Zbu L (YH p s));obtain ⟨ei,f⟩:=en;simp only at *;obtain ⟨i,rfl⟩:=JT ag.1;have bh:i < m:=(by rw [b8.out];omega);have bt:(i:Int) < m:=(by omega);obtain ⟨W4,b0,hV,M⟩:=Zdo wr (.int .i64 (i:Int)) (.bool f.num.neg) (.slice A2 n2 c2) (.bool f.den.neg) (.slice A3 n3 c3);obtain ⟨v0,v1,v2,v3,v4⟩:=hV.five;have d:=Za J M J.size;have v:=az.below M;have S:=hT.below M;have T:=hR.later M;obtain ⟨gy,Z⟩:=ZH (fs:=YH p s) (i:=i) (by rw [ad.out];exact bh);have a6:gy=canF (qAt (YH p s) i):=Znf (by unfold YH at Z;exact Z);obtain ⟨yy,a0⟩:∃yy,yy=qAt (YH p s) i:=⟨_,rfl⟩;rw [← a0] at a6;subst a6;obtain ⟨b3,o3,A4,n4,c4,A5,n5,c5,rfl,_,⟨y0,y1,y2,y3⟩,k⟩:=b9.out.elem d Z;have a9:Hid (Znk p s (j:Int) es (t+1)=Znk p s (j:Int) es t - yy * f.q):=JZ (by
    unfold Znk;rw [ah.out,show (i:Int).toNat=i from JP i,← a0];grind)
   have ai:Hid (Sz (5^p.right.length * K) yy):=JZ (by
    rw [a0];exact (Ziz HF.out.1 s).qAt (JW HJ.out.2.1 HJ.out.1) i)
   have bj:Hid (Sz (20 * (5^p.right.length * K)+20) (Znk p s (j:Int) es t)):=JZ (Ynl HF.out ac.out (by rw [← R.out];exact bb) (by rw [← R.out];exact ht));have aj:Hid (f.Rs K∧Sz K f.q):=JZ ⟨D,D.sz HJ.out.2.1⟩;have ak:qs yy=0∨qs yy=1∨qs yy= -1:=(by have:=UY yy;omega);clear L ag D Z a0 az hT hR J ah hV M;by_cases O:qs yy=0
   ·have bk:=JZ (Z5.1 O);clear ak;go_wp2_with fail;clear b0;refine (ZA _ (canF yy) _ k).mono ?_;rw [Zr,O];rintro _ w5 ⟨rfl,a⟩;have U:=S.below a;have V:=T.later a;have g:=Za d a d.size;have al:Znk p s (j:Int) es t=Znk p s (j:Int) es (t+1):=(by rw [a9.out,bk.out];grind);rw [al] at U;clear S T d a v k v0 v1 v2 v3 v4 x0 x1 x2 x3 x4 y0 y1 y2 y3 O al;go_wp2;go_roundw
    case rel=>exact ⟨t+1,by omega,by go_num,g,U,V⟩
    case measure=>simp [intOf];omega
   ·have bl:(qs yy !=0)=true:=(by simpa using O);clear ak O;go_wp2_with fail;clear b0;refine (ZA _ (canF yy) _ k).mono ?_;rw [Zr];rintro _ w5 ⟨rfl,a⟩;have U:=S.below a;have V:=T.later a;have g:=Za d a d.size;have am:=v.below a;have a7:=k.below a;have k0:=Zk a v0;have k1:=Zk a v1;have k2:=Zk a v2;have k3:=Zk a v3;have k4:=Zk a v4;have l0:=Zk a y0;have l1:=Zk a y1;have l2:=Zk a y2;have l3:=Zk a y3;obtain ⟨A6,n6,c6,A7,n7,c7,y,N⟩:=U;obtain ⟨t0,t1,t2,t3⟩:=y.four;obtain ⟨rr,a1⟩:∃rr,rr=Znk p s (j:Int) es t:=⟨_,rfl⟩;have an:(canF rr).Sm:=(by rw [a1];exact bj.out.rs.sm (by have:=HJ.out;omega));have ao:(canF yy).Sm:=ai.out.rs.sm (by have:=HJ.out;omega);have z:f.Sm:=aj.out.1.sm (by have:=HJ.out;omega);have ap:(canF (yy * f.q)).Sm:=(XO ai.out aj.out.2).rs.sm (by have:=HJ.out;omega);have aq:=JZ a1;rw [← a1] at t0 t2 N y;clear a1 S T d a v k v0 v1 v2 v3 v4 x0 x1 x2 x3 x4 y0 y1 y2 y3;have v:=am;have k:=a7
    go_upto_region 6 with (fail)
    clear bl;have C0:=Zl t0;have C1:=Zl t1;have C2:=Zl t2;have C3:=Zl t3;have D0:=Zl k0;have D1:=Zl k1;have D2:=Zl k2;have D3:=Zl k3;have D4:=Zl k4;have E0:=Zl l0;have E1:=Zl l1;have E2:=Zl l2;have E3:=Zl l3;have E:=Zj w5;clear t0 t1 t2 t3 k0 k1 k2 k3 k4 l0 l1 l2 l3;refine Zn 10 [0,1,2,3,4,5,6,7,8,9,10] (by kernel_rfl) (by kernel_rfl) ?_;repeat ((first|(first|refine Zb (v:=?_) rfl rfl rfl ?_ ?_ |refine Zd (v:=?_) rfl rfl rfl ?_ ?_);rotate_left;·(intro _ _;go_simp;(try go_bits);(try with_reducible rfl))|refine Ze rfl rfl rfl ?_);(try simp only [py]))
    refine Zf rfl rfl (fun _ kq=>?_);go_simp;(with_reducible refine (WL _ _ (canF yy) f _ (k.below E) (v.below E) ao z).mono ?_);rw [Zr];rintro _ w6 ⟨v6,rfl,e6,b1⟩;have G:=Za E b1 E.size;refine kq.out _ _ (.inr G) ?_;clear kq;(try simp only [py]);repeat ((first|(first|refine Zb (v:=?_) rfl rfl rfl ?_ ?_ |refine Zd (v:=?_) rfl rfl rfl ?_ ?_);rotate_left;·(intro _ _;go_simp;(try go_bits);(try with_reducible rfl))|refine Ze rfl rfl rfl ?_);(try simp only [py]))
    refine Zf rfl rfl (fun _ kq=>?_);go_simp;(with_reducible refine (Uv _ _ (canF rr) (canF (yy * f.q)) _ (N.below G) e6 an ap).mono ?_);rw [Zr,Zr];rintro _ w7 ⟨v7,rfl,e7,b4⟩;have H:=Za G b4 G.size;obtain ⟨B9,l9,k9,a2,a3,a4,rfl,_,_⟩:=id e7;have I:=y.later H;obtain ⟨c0,c1,c2,c3⟩:=I.four;obtain ⟨f0,f1,f2,f3⟩:=I.fourF;refine kq.out _ _ (.inr H) ?_;clear kq;(try simp only [py]);repeat ((first|(first|refine Zb (v:=?_) rfl rfl rfl ?_ ?_ |refine Zd (v:=?_) rfl rfl rfl ?_ ?_);rotate_left;·(intro _ _;go_simp;(try go_bits);(try with_reducible rfl))|refine Ze rfl rfl rfl ?_);(try simp only [py]))
    refine Zf rfl rfl (fun _ kq=>?_);go_simp;refine kq.out _ _ (.inl (by decide)) ?_;clear kq;(try simp only [py]);refine Zv ?_;clear C0 C1 C2 C3 D0 D1 D2 D3 D4 E0 E1 E2 E3;have ar:=I.but4 (.bool (canF (rr - yy * f.q)).num.neg) (.slice B9 l9 k9) (.bool (canF (rr - yy * f.q)).den.neg) (.slice a2 a3 a4);have bm:=(V.later H).far4 (g':=gt) (by omega) (.bool (canF (rr - yy * f.q)).num.neg) (.slice B9 l9 k9) (.bool (canF (rr - yy * f.q)).den.neg) (.slice a2 a3 a4);have au:=ZI (Za g H g.size) (Nat.le_of_lt bg) (.bool (canF (rr - yy * f.q)).num.neg) (.slice B9 l9 k9) (.bool (canF (rr - yy * f.q)).den.neg) (.slice a2 a3 a4);have bn:Yhp _ gt (Znk p s (j:Int) es (t+1)):=⟨B9,l9,k9,a2,a3,a4,by rw [a9.out,← aq.out];exact I.set4 _ _ _ _,by rw [a9.out,← aq.out];exact e7.keep (ar.keep (by decide))⟩;clear I V g E G H e6 e7 b1 b4 c0 c1 c2 c3 f0 f1 f2 f3 v am k a7 N ar an ao z ap y;go_wp2;go_roundw
    case rel=>exact ⟨t+1,by omega,by go_num,au,bn,bm⟩
    case measure=>simp [intOf];omega
  ·obtain rfl:l=t:=by omega
   rw [R.out,b6.out] at hT;obtain ⟨A6,n6,c6,A7,n7,c7,y,N⟩:=hT;obtain ⟨t0,t1,t2,t3⟩:=y.four;obtain ⟨c0,c1,c2,c3⟩:=hR.four;obtain ⟨f0,f1,f2,f3⟩:=hR.fourF;go_wp2;refine Zp Tryz.results102 Tryz.underlying46 (by kernel_rfl) rfl (hR.set4 _ _ _ _) rfl ?_;exact Yk hR N J (JY _)
namespace Pl
def Ycu (s:LSt) (D:List RF) (i:Nat):Prop:=0 < qAt D i∨(s.at_ i < 0∧qAt D i≠0)
theorem Zvs {s:LSt} {D:List RF} (h:¬s.phase=2):∀n,YN s D n=false
 | 0=>by rw [YN];exact decide_eq_false h
 | n+1=>by rw [YN];split;rfl;exact Zvs h n
theorem Zqq {s:LSt} {D:List RF} (h:s.phase=2):∀n,(∀i,i < n→¬Ycu s D i)→YN s D n=true
 | 0,_=>by rw [YN];exact decide_eq_true h
 | n+1,hh=>by rw [YN,if_neg (by have:=hh n (by omega);unfold Ycu at this;exact this)];exact Zqq h n fun i hi=>hh i (by omega)
theorem Zjk {s:LSt} {D:List RF} {i:Nat} (h:Ycu s D i):∀n,i < n→YN s D n=false
 | 0,hi=>absurd hi (by omega)
 | n+1,hi=>by
  rw [YN]
  by_cases e:i=n
  ·subst e;rw [if_pos (by unfold Ycu at h;exact h)]
  ·split
   ·rfl
   ·exact Zjk h n (by omega)
theorem Ycv {p:LPd} {s:LSt} {j:Nat} (hj:j < p.cols.length) (h:Wy p s (j:Int) < 0) (hb:∀i,i < j→¬Wy p s (i:Int) < 0):Zle p s=some j:=Vh (by omega) (by omega) h fun i _ hi=>hb i hi
theorem Ycw {p:LPd} {s:LSt} (hb:∀i,i < p.cols.length→¬Wy p s (i:Int) < 0):Zle p s=none:=Vg fun i _ hi=>hb i (by omega)
end Pl
theorem Ztf (e:Nat) (p:LPd) (s:LSt) (K:Nat) (w:World) (h:Yct w e p s K) (S:s.Fit p) (F:p.Ft K) (hz:lpErr p=0) (hph:s.phase=1∨s.phase=2):
 Calls Tryz.prog 56 #[.pointer (some ⟨e,0,none⟩)] w fun o w'=>∃v',o= .returned (.tuple #[.int .i64 (Yh p s),.int .i64 (UJ p s),v'])∧ZU w.heap.size w' v' (WS p s)∧Below w.heap.size w w':=by
 have HR:=JZ h.reg;have HH:=JZ h;obtain ⟨Ab,cb,base,bi,gB,vz,h1,h2,h3,h4⟩:=h;obtain ⟨y3,y4,-,-,-⟩:=h1.cells;have HI:=JZ h2;obtain ⟨A,n,c,A',N,c',ay,az,b0,hB,-,hv,-⟩:=h1;obtain ⟨l1,l2,l3⟩:=hv.len;have HN:=JZ l1;have ai:=JZ (hB.cellAt 1 rfl);obtain ⟨ph,hp⟩:∃ph,ph=s.phase:=⟨_,rfl⟩;have R:=JZ hp;rw [← hp] at hph y3;have a8:=JZ y3;have HF:=JZ F;have HS:=JZ S;have HZ:=JZ hz;have aj:=F.1.cols;have aq:N≤1200:=by omega
 obtain ⟨m,hm⟩:∃m,m=p.right.length:=⟨_,rfl⟩;have a9:=JZ hm;rw [← hm] at y4;have ak:=JZ y4;have ar:m≤7:=by rw [hm];exact F.2.1
 obtain ⟨-,ae,an⟩:=h2.len;rw [← hm] at ae;clear h2 h3 h4 F S hz hB hv l1 aj hm y3 y4 hp;go_enter Tryz.func56,Tryz.ntmps56;go_wp2_with fail;refine (Zqp e p s K _ HH.out HS.out HF.out).mono ?_;rintro _ w1 ⟨v1,rfl,e1,a3⟩;have y1:=Zk a3 ai.out;have HD:=JZ e1;obtain ⟨A1,n1,c1,rfl⟩:=e1.sliceN;clear e1;go_wp2;clear y1
 go_loopw [6,20] (fun en x wr=>∃j:Nat,j≤N∧x= .int .i64 j∧en= .int .i64 (-1)∧Below w1.heap.size w1 wr∧∀i,i < j→¬Wy p s (i:Int) < 0) (fun _ x _=>N - (intOf x).toNat)
 case atStart=>exact ⟨0,by omega,rfl,rfl,JR _ _,fun i hi=>absurd hi (by omega)⟩
 case round=>
  obtain ⟨j,hj,rfl,rfl,d,O⟩:=hrel;have Y:=JZ O;clear O;have G:=Za a3 d a3.size;rcases JX j N with hjl | hjl
  ·have Z:j < p.cols.length:=(by have:=HN.out;omega);have au:(j:Int) < N:=(by omega);go_wp2_with fail;refine (Zte e p s K j _ _ (HH.out.below G) (HD.out.frs.below d) HF.out HZ.out Z).mono ?_;rintro _ w2 ⟨v2,rfl,e2,a4⟩;have y:=Za d a4 d.size;have B:=Za G a4 G.size;have T:qs (Wy p s (j:Int))=0∨qs (Wy p s (j:Int))=1∨qs (Wy p s (j:Int))= -1:=(by have:=UY (Wy p s (j:Int));omega);obtain ⟨B1,m1,d1,B2,m2,d2,rfl,_,_⟩:=id e2;clear d G a4;by_cases hn:qs (Wy p s (j:Int)) < 0
   ·have HE:=JZ (Ycv Z (Wj.1 hn) Y.out);have hq:qs (Wy p s (j:Int))= -1:=(by omega);clear T hn;go_wp2_with fail;refine (ZA _ (canF (Wy p s (j:Int))) _ e2).mono ?_;rw [Zr,hq];rintro _ w3 ⟨rfl,P⟩;have t:=Za B P B.size;have y3:=Zk t a8.out;clear y B P e2 hq;go_wp2_with fail;refine (Zem e p s K j _ (HH.out.below t) HF.out HZ.out Z).mono ?_;rintro _ w4 ⟨v4,rfl,e4,a5⟩;have H:=Za t a5 t.size;have u:Hid (UJ p s=(j:Int)):=JZ (Xb HE.out).2.1;have U:Hid (dirL p s (j:Int)=WS p s):=JZ (Xb HE.out).2.2.symm;have v:Hid (Yh p s=if YN s (dirL p s (j:Int)) (dirL p s (j:Int)).length then 3 else 0):=JZ (Xb HE.out).1;have l:Hid ((dirL p s (j:Int)).length=m):=JZ (by rw [a9.out];exact Zfo HR.out _);have aa:=e4.monoB t.size;obtain ⟨A4,c4,af⟩:=e4.slice;rw [l.out] at af;subst af;obtain ⟨-,ao,ap⟩:=e4.frs.len;have al:=Zk a5 y3;clear t a5 e4;rcases hph with hp1 | hp2
    ·have r:Hid (Yh p s=0):=JZ (by rw [v.out,Zvs (by rw [← R.out];omega)];rfl);have b:=aa;rw [U.out] at b;have a:=H;clear y3;subst hp1;go_wp2;refine bodyPost_ret (results_tmp3 rfl _ _ _) rfl ?_;exact ⟨_,by rw [r.out,u.out];rfl,b,a⟩
    ·subst hp2;clear y3;go_wp2;clear al;have V:=JZ aa
     go_loopw [50] (fun x wr=>∃k:Nat,k≤m∧x= .int .i64 k∧Below w4.heap.size w4 wr∧∀i,i < k→¬Ycu s (dirL p s (j:Int)) i) (fun x _=>m - (intOf x).toNat)
     case atStart=>exact ⟨0,by omega,rfl,JR _ _,fun i hi=>absurd hi (by omega)⟩
     case round=>
      obtain ⟨k,hk,rfl,d,O⟩:=hrel;have a0:=JZ O;clear O;have C:=Za H d H.size;rcases JX k m with hkl | hkl
      ·have av:(k:Int) < m:=(by omega);obtain ⟨f,hf⟩:=ZH (fs:=dirL p s (j:Int)) (i:=k) (by rw [l.out];exact hkl);have HQ:Hid (qAt (dirL p s (j:Int)) k=f.q):=JZ (ZF hf);obtain ⟨b5,o5,A5,n5,c5,A6,n6,c6,rfl,_,⟨x0,x1,x2,x3⟩,ag⟩:=V.out.frs.elem d hf;obtain ⟨W6,am,hV,X⟩:=YR wr (.bool f.num.neg) (.slice A5 n5 c5) (.bool f.den.neg) (.slice A6 n6 c6);obtain ⟨u0,u1,u2,u3⟩:=hV.four;have ab:=ag.below X;have I:=Za d X d.size;have J:=Za C X C.size;have T:qs f.q=0∨qs f.q=1∨qs f.q= -1:=(by have:=UY f.q;omega);obtain ⟨bb,ob,z,rfl,z0,ah,-,-⟩:=HI.out.at_ (show k < p.right.length by rw [← a9.out];exact hkl);have ac:Hid (s.at_ k=z):=JZ (LSt.at_eq ah);clear hf ag d C hV X ah;go_wp2_with fail;clear am;refine (ZA _ f _ ab).mono ?_;rintro _ w7 ⟨rfl,a6⟩;have D:=Za I a6 I.size;have E:=Za J a6 J.size;have z1:=Zk E z0;have y4:=Zk E ak.out;clear ab I J a6 x0 x1 x2 x3 u0 u1 u2 u3 z0;rcases T with hq | hq | hq
       ·rw [hq];have L:¬Ycu s (dirL p s (j:Int)) k:=by
         unfold Ycu;rw [HQ.out,Z5.1 hq];rintro (g | g)
         ·exact absurd g (by decide)
         ·exact g.2 rfl
        have M:=JZ L;clear hq L;go_wp2;go_roundw
        case rel=>exact ⟨k+1,by omega,by go_num,D,fun i hi=>by
         by_cases g:i=k
         ·rw [g];exact M.out
         ·exact a0.out i (by omega)⟩
        case measure=>simp [intOf];omega
       ·rw [hq];have hh:Ycu s (dirL p s (j:Int)) k:= .inl (by rw [HQ.out];exact Wl.1 (by omega));have r:Hid (Yh p s=0):=JZ (by rw [v.out,Zjk hh _ (by rw [l.out];exact hkl)];rfl);have b:=V.out.below D;rw [U.out] at b;have a:=E;clear hq hh;go_wp2;refine bodyPost_ret (results_tmp3 rfl _ _ _) rfl ?_;exact ⟨_,by rw [r.out,u.out];rfl,b,a⟩
       ·rw [hq];have a1:f.q≠0:=fun g=>by have:=Z5.2 g;omega
        have a2:¬0 < f.q:=fun g=>by have:=Wl.2 g;omega
        by_cases a7:z < 0
        ·have hh:Ycu s (dirL p s (j:Int)) k:= .inr ⟨by rw [ac.out];exact a7,by rw [HQ.out];exact a1⟩;have r:Hid (Yh p s=0):=JZ (by rw [v.out,Zjk hh _ (by rw [l.out];exact hkl)];rfl);have b:=V.out.below D;rw [U.out] at b;have a:=E;clear hq hh a1 a2;go_wp2;refine bodyPost_ret (results_tmp3 rfl _ _ _) rfl ?_;exact ⟨_,by rw [r.out,u.out];rfl,b,a⟩
        ·have L:¬Ycu s (dirL p s (j:Int)) k:=by
          unfold Ycu;rw [HQ.out,ac.out];rintro (g | g)
          ·exact a2 g
          ·exact a7 g.1
         have M:=JZ L;have aw:0≤z:=(by omega);clear hq L a1 a2 a7;go_wp2;go_roundw
         case rel=>exact ⟨k+1,by omega,by go_num,D,fun i hi=>by
          by_cases g:i=k
          ·rw [g];exact M.out
          ·exact a0.out i (by omega)⟩
         case measure=>simp [intOf];omega
      ·obtain rfl:m=k:=by omega
       have r:Hid (Yh p s=3):=JZ (by rw [v.out,Zqq R.out.symm _ (by rw [l.out];exact a0.out)];rfl);have b:=V.out.below d;rw [U.out] at b;have a:=C;go_wp2;refine bodyPost_ret (results_tmp3 rfl _ _ _) rfl ?_;exact ⟨_,by rw [r.out,u.out];rfl,b,a⟩
   ·have M:Hid (¬Wy p s (j:Int) < 0):=JZ fun g=>hn (by have:=Wj.2 g;omega)
    have ax:0≤qs (Wy p s (j:Int)):=(by omega);clear T hn;go_wp2_with fail;refine (ZA _ (canF (Wy p s (j:Int))) _ e2).mono ?_;rw [Zr];rintro _ w3 ⟨rfl,P⟩;have ad:=Za y P y.size;clear y B P e2;go_wp2;go_roundw
    case rel=>exact ⟨j+1,by omega,by go_num,rfl,ad,fun i hi=>by
     by_cases g:i=j
     ·rw [g];exact M.out
     ·exact Y.out i (by omega)⟩
    case measure=>simp [intOf];omega
  ·obtain rfl:N=j:=by omega
   have HE:=JZ (Ycw (p:=p) (s:=s) (by rw [← HN.out];exact Y.out));have u:Hid (UJ p s= -1):=JZ (XQ HE.out).2.1;have b:ZU w.heap.size wr (.slice none 0 0) (WS p s):=(by rw [(XQ HE.out).2.2];exact ZU.nil _ _);have a:=G;have y3:=Zk G a8.out;have v:Hid (Yh p s=if s.phase=1 then 2 else 1):=JZ (XQ HE.out).1;rcases hph with hp1 | hp2
   ·have r:Hid (Yh p s=2):=JZ (by rw [v.out,if_pos (by rw [← R.out];exact hp1)]);subst hp1;go_wp2;refine bodyPost_ret (results_tmp3 rfl _ _ _) rfl ?_;exact ⟨_,by rw [r.out,u.out];rfl,b,a⟩
   ·have r:Hid (Yh p s=1):=JZ (by rw [v.out,if_neg (by rw [← R.out];omega)]);subst hp2;go_wp2;refine bodyPost_ret (results_tmp3 rfl _ _ _) rfl ?_;exact ⟨_,by rw [r.out,u.out];rfl,b,a⟩
end Go.Proofs.YtgbhebappffbdaaGreat
