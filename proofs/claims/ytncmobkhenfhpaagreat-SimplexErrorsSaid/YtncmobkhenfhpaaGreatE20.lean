/- Lemmas of the claim; no condition. -/
import Derived.Test.YtncmobkhenfhpaaGreatE19
set_option linter.all false
set_option maxRecDepth 100000
set_option maxHeartbeats 40000000
namespace Go.Proofs.YtncmobkhenfhpaaGreat
open Go.RowKit
open Pl
attribute [local go_sem ↓] Go.wp_at_zero Go.wp_at_succ
section
def Zlp (P:Nat→Prop) (w w':World):Prop:=w.heap.size≤w'.heap.size∧∀b,b < w.heap.size→¬P b→w'.heap[b]? =w.heap[b]?
theorem Zlp.trans {P:Nat→Prop} {a b c:World} (h:Zlp P a b) (k:Zlp P b c):Zlp P a c:=⟨JW h.1 k.1,fun x hx hne=>(k.2 x (Nat.lt_of_lt_of_le hx h.1) hne).trans (h.2 x hx hne)⟩
theorem Zlp.of_below {P:Nat→Prop} {w w':World} (h:Below w.heap.size w w'):Zlp P w w':=⟨h.size,fun b hb _=>h.block b hb⟩
theorem Zlp.of_others {P:Nat→Prop} {g:Nat} {w w':World} (h:Z6 (some g) w w') (hp:g < w.heap.size→P g):Zlp P w w':=⟨h.1,fun b hb hn=>h.2 b hb fun e=>by injection e with e;subst e;exact hn (hp hb)⟩
theorem Zlp.below {P:Nat→Prop} {w w' w2:World} (h:Zlp P w w') (hb:Below w'.heap.size w' w2):Zlp P w w2:=h.trans (Zlp.of_below hb)
namespace Pl
def Tdy (f:RF) (q:Rat):Prop:=f=canF q∨(f=zeroF∧q=0)
theorem Tdy.q {f:RF} {q:Rat} (h:Tdy f q):f.q=q:=by
 rcases h with rfl | ⟨rfl,rfl⟩
 ·exact Zu _
 ·exact zeroF_q
theorem Tdy.rs {f:RF} {q:Rat} {J:Nat} (h:Tdy f q) (hs:Sz J q):f.Rs J:=by
 rcases h with rfl | ⟨rfl,rfl⟩
 ·exact hs.rs
 ·exact (Vz 1).mono (Zgc hs)
theorem Tdy.len {f:RF} {q:Rat} (h:Tdy f q):0 < f.num.ds.length↔q≠0:=by
 rcases h with rfl | ⟨rfl,rfl⟩
 ·show 0 < (Zo q.num.natAbs).length↔q≠0;by_cases e:q=0
  ·subst e;rw [show (0:Rat).num.natAbs=0 from rfl,digs_zero];simp
  ·have h1:q.num.natAbs≠0:=by
    intro h;exact e (Rat.num_eq_zero.1 (Int.natAbs_eq_zero.1 h))
   constructor
   ·exact fun _=>e
   ·intro _;rcases JV (Zo q.num.natAbs).length with h2 | h2
    ·exfalso;have h3:=List.eq_nil_of_length_eq_zero h2;have h4:=Zl q.num.natAbs;rw [h3] at h4;exact h1 (by rw [← h4];rfl)
    ·exact h2
 ·simp [zeroF,canI_zero]
def elQ (rp cp:List Int) (a:Mx) (r c i j:Nat):Mx:=fun s k=>if (s < i∨(s=i∧k < j))∧rp.getD s 0 < 0∧cp.getD k 0 < 0 then a s k - a s c / a r c * a r k else a s k
def Zjj (rp:List Int) (a:Mx) (r c i:Nat):Nat→Rat:=fun s=>if s < i∧rp.getD s 0 < 0 then a s c / a r c else 0
section
variable {rp cp:List Int} {a:Mx} {r c i j:Nat}
theorem elQ_start:elQ rp cp a r c 0 0=a:=by
 funext s k;unfold elQ;rw [if_neg (by omega)]
theorem Zvs {s k:Nat} (h:¬rp.getD s 0 < 0):elQ rp cp a r c i j s k=a s k:=by unfold elQ;rw [if_neg fun e=>h e.2.1]
theorem Zqd {n s k:Nat} (hn:¬rp.getD i 0 < 0∨a i c=0) (hk:k < n):elQ rp cp a r c i 0 s k=elQ rp cp a r c (i+1) 0 s k:=by
 unfold elQ;by_cases e:s=i
 ·subst e;rw [if_neg (by omega)];by_cases e2:rp.getD s 0 < 0∧cp.getD k 0 < 0
  ·rw [if_pos ⟨by omega,e2⟩];rcases hn with hn | hn
   ·exact absurd e2.1 hn
   ·rw [hn,show (0:Rat) / a r c=0 by rw [Rat.div_def];grind];grind
  ·rw [if_neg fun h=>e2 h.2]
 ·by_cases e2:(s < i∨(s=i∧k < 0))∧rp.getD s 0 < 0∧cp.getD k 0 < 0
  ·rw [if_pos e2,if_pos ⟨by omega,e2.2⟩]
  ·rw [if_neg e2,if_neg fun h=>e2 ⟨by omega,h.2⟩]
theorem Zzi {n s k:Nat} (hk:k < n):elQ rp cp a r c i n s k=elQ rp cp a r c (i+1) 0 s k:=by
 unfold elQ;by_cases e2:(s < i∨(s=i∧k < n))∧rp.getD s 0 < 0∧cp.getD k 0 < 0
 ·rw [if_pos e2,if_pos ⟨by omega,e2.2⟩]
 ·rw [if_neg e2,if_neg fun h=>e2 ⟨by omega,h.2⟩]
theorem Zqe {s k:Nat} (hn:¬cp.getD j 0 < 0∨a r j=0):elQ rp cp a r c i j s k=elQ rp cp a r c i (j+1) s k:=by
 unfold elQ;by_cases e:s=i∧k=j
 ·obtain ⟨rfl,rfl⟩:=e;rw [if_neg (by omega)];by_cases e2:rp.getD s 0 < 0∧cp.getD k 0 < 0
  ·rw [if_pos ⟨by omega,e2⟩];rcases hn with hn | hn
   ·exact absurd e2.2 hn
   ·rw [hn];grind
  ·rw [if_neg fun h=>e2 h.2]
 ·by_cases e2:(s < i∨(s=i∧k < j))∧rp.getD s 0 < 0∧cp.getD k 0 < 0
  ·rw [if_pos e2,if_pos ⟨by omega,e2.2⟩]
  ·rw [if_neg e2,if_neg fun h=>e2 ⟨by omega,h.2⟩]
theorem Zzj {s k:Nat} (h1:rp.getD i 0 < 0) (h2:cp.getD j 0 < 0):elQ rp cp a r c i (j+1) s k=if s=i∧k=j then a i j - a i c / a r c * a r j else elQ rp cp a r c i j s k:=by
 unfold elQ;by_cases e:s=i∧k=j
 ·rw [if_pos e];obtain ⟨rfl,rfl⟩:=e;rw [if_pos ⟨by omega,h1,h2⟩]
 ·rw [if_neg e];by_cases e2:(s < i∨(s=i∧k < j))∧rp.getD s 0 < 0∧cp.getD k 0 < 0
  ·rw [if_pos e2,if_pos ⟨by omega,e2.2⟩]
  ·rw [if_neg e2,if_neg fun h=>e2 ⟨by omega,h.2⟩]
theorem elQ_at:elQ rp cp a r c i j i j=a i j:=by unfold elQ;rw [if_neg (by omega)]
theorem Ydi {k:Nat}:elQ rp cp a r c i 0 i k=a i k:=by unfold elQ;rw [if_neg (by omega)]
theorem Zlq (hn:¬rp.getD i 0 < 0∨a i c=0) (s:Nat):Zjj rp a r c i s=Zjj rp a r c (i+1) s:=by
 unfold Zjj;by_cases e:s=i
 ·subst e;rw [if_neg (by omega)];by_cases e2:rp.getD s 0 < 0
  ·rw [if_pos ⟨by omega,e2⟩];rcases hn with hn | hn
   ·exact absurd e2 hn
   ·rw [hn,Rat.div_def];grind
  ·rw [if_neg fun h=>e2 h.2]
 ·by_cases e2:s < i∧rp.getD s 0 < 0
  ·rw [if_pos e2,if_pos ⟨by omega,e2.2⟩]
  ·rw [if_neg e2,if_neg fun h=>e2 ⟨by omega,h.2⟩]
theorem Zvt (h1:rp.getD i 0 < 0) (s:Nat):Zjj rp a r c (i+1) s=if s=i then a i c / a r c else Zjj rp a r c i s:=by
 unfold Zjj;by_cases e:s=i
 ·subst e;rw [if_pos rfl,if_pos ⟨by omega,h1⟩]
 ·rw [if_neg e];by_cases e2:s < i∧rp.getD s 0 < 0
  ·rw [if_pos e2,if_pos ⟨by omega,e2.2⟩]
  ·rw [if_neg e2,if_neg fun h=>e2 ⟨by omega,h.2⟩]
end
end Pl
def Zbc [Old] (V:World) (f:RF) (s9:Value) (wx:World):Prop:=
 ∃(g:Nat) (A:Option Addr) (n c:Nat) (A':Option Addr) (n' c':Nat),s9= .pointer (some ⟨g,0,none⟩)∧V.heap.size≤g∧Bk wx g 48 [.bool f.num.neg,.slice A n c,.bool f.den.neg,.slice A' n' c']∧Zt wx (.agg #[.bool f.num.neg,.slice A n c,.bool f.den.neg,.slice A' n' c']) f∧Below V.heap.size V wx
theorem Zbc.mk [Old] {V w:World} {g:Nat} {f:RF} {x y z u:Value} {A A':Option Addr} {n c n' c':Nat} (hB:Bk w g 48 [x,y,z,u]) (hm:Zt w (.agg #[.bool f.num.neg,.slice A n c,.bool f.den.neg,.slice A' n' c']) f) (hb:Below V.heap.size V w) (hg:V.heap.size≤g) (hO:Old.n≤V.heap.size:=by first | assumption | exact Nat.zero_le _ | omega | ((first | with_reducible refine Zb.le ?_ | with_reducible refine Zb.le1 ?_ | with_reducible refine Zb.le2 ?_ | with_reducible refine Zb.le3 ?_);repeat (first | assumption | exact Zb.up (by assumption) hOl | exact Zb.up (Hid.out (by assumption)) hOl | with_reducible refine Zb.set ?_ _ _ | with_reducible refine Zb.mk_ ?_ _ | with_reducible refine Zb.dr ?_ | with_reducible refine Zb.drN ?_ | refine Zb.up (by assumption) ?_ | refine Zb.up (Hid.out (by assumption)) ?_))):
 Zbc V f (.pointer (some ⟨g,0,none⟩)) ((((w.setCell ⟨g,0,none⟩ (.bool f.num.neg)).setCell ⟨g,1,none⟩ (.slice A n c)).setCell ⟨g,2,none⟩ (.bool f.den.neg)).setCell ⟨g,3,none⟩ (.slice A' n' c')):=
 ⟨g,A,n,c,A',n',c',rfl,hg,hB.set4 _ _ _ _,hm.keep (hB.keep4 (by decide) _ _ _ _),ZE hb hg _ _ _ _⟩
def Zmg [Old] (base:Nat) (w:World) (ge n:Nat) (va vr vc:Value) (G D:Nat→Nat) (rp cp:List Int) (Q:Mx) (f:Nat→Rat) (J:Nat) (vf:Value) (wr:World):Prop:=
 ∃(M:Nat→Nat→RF) (H:Nat→RF),ElM base wr ge n va vr vc M G D rp cp∧(∀i j,i < n→j < n→Tdy (M i j) (Q i j))∧Yd w.heap.size wr vf (rfL n H)∧(∀i,i < n→(H i).q=f i∧(H i).Rs J)∧
  Ze 48 w wr∧Zlp (fun b=>∃i,i < n∧b=G i) w wr∧Below base w wr
theorem Zmg.below [Old] {base:Nat} {w wr w':World} {ge n:Nat} {va vr vc:Value} {G D:Nat→Nat} {rp cp:List Int} {Q:Mx} {f:Nat→Rat} {J:Nat} {vf:Value} (h:Zmg base w ge n va vr vc G D rp cp Q f J vf wr) (hb:Below wr.heap.size wr w') (hw:base≤w.heap.size):Zmg base w ge n va vr vc G D rp cp Q f J vf w':=by
 obtain ⟨M,H,h1,h2,h3,h4,h5,h6,h7⟩:=h;exact ⟨M,H,h1.below hb,h2,h3.below hb,h4,h5.trans (Ze.of_below hb),h6.below hb,Za h7 hb (JW hw h6.1)⟩
theorem Zmg.congr [Old] {base:Nat} {w wr:World} {ge n:Nat} {va vr vc:Value} {G D:Nat→Nat} {rp cp:List Int} {Q Q':Mx} {f f':Nat→Rat} {J:Nat} {vf:Value} (h:Zmg base w ge n va vr vc G D rp cp Q f J vf wr) (hq:∀i j,i < n→j < n→Q i j=Q' i j) (hf:∀i,i < n→f i=f' i):Zmg base w ge n va vr vc G D rp cp Q' f' J vf wr:=by
 obtain ⟨M,H,h1,h2,h3,h4,h5⟩:=h;exact ⟨M,H,h1,fun i j hi hj=>by rw [← hq i j hi hj];exact h2 i j hi hj,h3,fun i hi=>by rw [← hf i hi];exact h4 i hi,h5⟩
theorem Zmg.setF [Old] {base:Nat} {w wr:World} {ge n:Nat} {va vr vc:Value} {G D:Nat→Nat} {rp cp:List Int} {Q:Mx} {f f':Nat→Rat} {J cf:Nat} (h:Zmg base w ge n va vr vc G D rp cp Q f J (.slice (some ⟨w.heap.size,0,none⟩) n cf) wr) (hw:base≤w.heap.size) (hG:∀i,i < n→G i < w.heap.size) {i:Nat} (hi:i < n) {x y z u:Value} {q:RF} (hq:Zt wr (.agg #[x,y,z,u]) q) (hr:q.Rs J) (hf:∀s,s < n→f' s=if s=i then q.q else f s) (hO:Old.n≤base:=by first | assumption | exact Nat.zero_le _ | omega | ((first | with_reducible refine Zb.le ?_ | with_reducible refine Zb.le1 ?_ | with_reducible refine Zb.le2 ?_ | with_reducible refine Zb.le3 ?_);repeat (first | assumption | exact Zb.up (by assumption) hOl | exact Zb.up (Hid.out (by assumption)) hOl | with_reducible refine Zb.set ?_ _ _ | with_reducible refine Zb.mk_ ?_ _ | with_reducible refine Zb.dr ?_ | with_reducible refine Zb.drN ?_ | refine Zb.up (by assumption) ?_ | refine Zb.up (Hid.out (by assumption)) ?_))):
 Zmg base w ge n va vr vc G D rp cp Q f' J (.slice (some ⟨w.heap.size,0,none⟩) n cf) ((((wr.setCell ⟨w.heap.size,i * 4,none⟩ x).setCell ⟨w.heap.size,i * 4+1,none⟩ y).setCell ⟨w.heap.size,i * 4+2,none⟩ z).setCell ⟨w.heap.size,i * 4+3,none⟩ u):=by
 obtain ⟨M,H,⟨e1,e2,e3,e4,e5⟩,h2,h3,h4,h5,h6,h7⟩:=h;obtain ⟨g1,g2⟩:=h3.set_ (k:=i) (by rw [Zw];exact hi) hq;rw [VB hi] at g1;have ho:=Yf (w:=wr) (g:=w.heap.size) (i:=i * 4) (j:=i * 4+1) (k:=i * 4+2) (l:=i * 4+3) (x:=x) (y:=y) (z:=z) (u:=u);refine ⟨M,fun s=>if s=i then q else H s,⟨g2.bk e1 (by decide),e2.far ho g2 fun r hr=>by have:=hG r hr;omega,e3.but g2 (by decide),e4.but g2 (by decide),e5⟩,h2,g1,fun s hs=>?_,h5.trans g2,⟨JW h6.1 ho.1,fun b hb hn=>(ho.2 b (Nat.lt_of_lt_of_le hb h6.1) fun e=>by injection e with e;omega).trans (h6.2 b hb hn)⟩,ZA h7 hw _ _ _ _ _ _ _ _⟩;rw [hf s hs];by_cases e:s=i
 ·simp only [if_pos e];exact ⟨trivial,hr⟩
 ·simp only [if_neg e];exact h4 s hs
theorem Zmg.setM [Old] {base:Nat} {w wr:World} {ge n:Nat} {va vr vc:Value} {G D:Nat→Nat} {rp cp:List Int} {Q Q':Mx} {f:Nat→Rat} {J cf:Nat} (h:Zmg base w ge n va vr vc G D rp cp Q f J (.slice (some ⟨w.heap.size,0,none⟩) n cf) wr) (hG:∀i,i < n→base≤G i∧G i < w.heap.size) {i j:Nat} (hi:i < n) (hj:j < n) {x y z u:Value} {q:Rat} (hq:Zt wr (.agg #[x,y,z,u]) (canF q)) (hf:∀s k,s < n→k < n→Q' s k=if s=i∧k=j then q else Q s k) (hO:Old.n≤base:=by first | assumption | exact Nat.zero_le _ | omega | ((first | with_reducible refine Zb.le ?_ | with_reducible refine Zb.le1 ?_ | with_reducible refine Zb.le2 ?_ | with_reducible refine Zb.le3 ?_);repeat (first | assumption | exact Zb.up (by assumption) hOl | exact Zb.up (Hid.out (by assumption)) hOl | with_reducible refine Zb.set ?_ _ _ | with_reducible refine Zb.mk_ ?_ _ | with_reducible refine Zb.dr ?_ | with_reducible refine Zb.drN ?_ | refine Zb.up (by assumption) ?_ | refine Zb.up (Hid.out (by assumption)) ?_))):
 Zmg base w ge n va vr vc G D rp cp Q' f J (.slice (some ⟨w.heap.size,0,none⟩) n cf) ((((wr.setCell ⟨G i,j * 4,none⟩ x).setCell ⟨G i,j * 4+1,none⟩ y).setCell ⟨G i,j * 4+2,none⟩ z).setCell ⟨G i,j * 4+3,none⟩ u):=by
 obtain ⟨M,H,⟨e1,e2,e3,e4,e5⟩,h2,h3,h4,h5,h6,h7⟩:=h;obtain ⟨g1,g2⟩:=e2.set_ hi hj hq;have ho:=Yf (w:=wr) (g:=G i) (i:=j * 4) (j:=j * 4+1) (k:=j * 4+2) (l:=j * 4+3) (x:=x) (y:=y) (z:=z) (u:=u);have hg:=hG i hi;refine ⟨_,H,⟨g2.bk e1 (by decide),g1,e3.but g2 (by decide),e4.but g2 (by decide),e5⟩,fun s k hs hk=>?_,h3.others ho (g2.keep (by decide)) (fun b hb e=>by simp [Value.ownBlock] at hb;injection e with e;omega),h4,h5.trans g2,h6.trans (Zlp.of_others ho fun _=>⟨i,hi,rfl⟩),ZA h7 hg.1 _ _ _ _ _ _ _ _⟩;rw [hf s k hs hk];unfold Yct;by_cases e:s=i∧k=j
 ·rw [if_pos e,if_pos e];exact .inl rfl
 ·rw [if_neg e,if_neg e];exact h2 s k hs hk
def Yfi [Old] (base:Nat) (w:World) (ge n:Nat) (va vr vc:Value) (G D:Nat→Nat) (rp cp:List Int) (Q:Mx) (f:Nat→Rat) (J:Nat) (o:Ending) (w':World):Prop:=
 ∃v',o= .returned v'∧Zmg base w ge n va vr vc G D rp cp Q f J v' w'
theorem Zip [Old] (base ge n:Nat) (va vr vc:Value) (M0:Nat→Nat→RF) (G D:Nat→Nat) (rp cp:List Int) (a:Mx) (r c J:Nat) (w:World) (h:ElM base w ge n va vr vc M0 G D rp cp) (ht:∀i j,i < n→j < n→Tdy (M0 i j) (a i j)) (hn:n≤7) (hr:r < n) (hc:c < n) (hrp:¬rp.getD r 0 < 0) (hp:a r c≠0) (hJ:∀i j,i < n→j < n→Sz J (a i j)) (hJ2:J≤4000000) (hb:base≤w.heap.size) (hOl:Zb w:=by (repeat (first | assumption | exact Zb.up (by assumption) hOl | exact Zb.up (Hid.out (by assumption)) hOl | with_reducible refine Zb.set ?_ _ _ | with_reducible refine Zb.mk_ ?_ _ | with_reducible refine Zb.dr ?_ | with_reducible refine Zb.drN ?_ | refine Zb.up (by assumption) ?_ | refine Zb.up (Hid.out (by assumption)) ?_))) (hO:Old.n≤base:=by first | assumption | exact Nat.zero_le _ | omega | ((first | with_reducible refine Zb.le ?_ | with_reducible refine Zb.le1 ?_ | with_reducible refine Zb.le2 ?_ | with_reducible refine Zb.le3 ?_);repeat (first | assumption | exact Zb.up (by assumption) hOl | exact Zb.up (Hid.out (by assumption)) hOl | with_reducible refine Zb.set ?_ _ _ | with_reducible refine Zb.mk_ ?_ _ | with_reducible refine Zb.dr ?_ | with_reducible refine Zb.drN ?_ | refine Zb.up (by assumption) ?_ | refine Zb.up (Hid.out (by assumption)) ?_))):
 Calls Tryz.prog 142 #[.pointer (some ⟨ge,0,none⟩),.int .i64 (r:Int),.int .i64 (c:Int)] w (Yfi base w ge n va vr vc G D rp cp (elQ rp cp a r c n 0) (Zjj rp a r c n) (2 * J)):=by
 have ct:=hOl.le;have b:0 < n:=by omega
 have cu:1≤J:=Zgc (hJ r c hr hc);have am:Hid (∀i,i < n→base≤G i∧G i < w.heap.size):=JZ fun i hi=>by obtain ⟨h1,h2,_,_⟩:=h.2.1.lt hi b;exact ⟨h1,h2⟩
 obtain ⟨b0,b1,b2,b3⟩:=h.1.four;have HJ:=JZ hJ;have HP:=JZ hp;have bu:=WC n (by omega);have an:=Yd.zeros w n (by unfold maxLen;omega);have R:=Zc w (.cells (zfc n) 48);have b9:=h.1.later R;obtain ⟨cb,_,_,_⟩:=b9.four;have ba:List.replicate n zeroF=rfL n fun _=>zeroF:=by
  refine List.ext_getElem? fun i=>?_
  rcases JX i n with e | e
  ·rw [Yu e];simp [e]
  ·rw [JU (by simp;exact e),JU (by rw [Zw];exact e)]
 rw [ba] at an;have a3:Zmg base w ge n va vr vc G D rp cp (elQ rp cp a r c 0 0) (Zjj rp a r c 0) (2 * J) (.slice (some ⟨w.heap.size,0,none⟩) n n) (w.alloc (.cells (zfc n) 48)):=
  ⟨M0,fun _=>zeroF,h.below R,fun i j hi hj=>by rw [elQ_start];exact ht i j hi hj,an,fun i _=>⟨by unfold Zjj;rw [if_neg (by omega),zeroF_q],(Vz 1).mono (by omega)⟩,Ze.of_below R,Zlp.of_below R,R.mono hb⟩
 obtain ⟨go,co,rfl,_,_,cq,cs,_⟩:=h.2.1.outer b;obtain ⟨gr,cr,rfl,_,_,cd,d0⟩:=h.2.2.1.shape (by rw [h.2.2.2.2.1];exact b);obtain ⟨gc,cc,rfl,_,_,ce,d1⟩:=h.2.2.2.1.shape (by rw [h.2.2.2.2.2];exact b);have bb:Hid (¬rp.getD r 0 < 0):=JZ hrp;have ao:=JZ h.2.2.2.2.1;have ap:=JZ h.2.2.2.2.2;rw [ao.out] at cd b2 a3;rw [ap.out] at ce b3 a3;rw [ao.out,ap.out];have cv:(c:Int) < n:=by omega
 have cw:(r:Int) < n:=by omega
 clear h ht hJ hp an ba b9 hrp;go_enter Tryz.func142,Tryz.ntmps142;go_wp2;clear b0 b1 b2 b3 cb bu R;generalize w.alloc (.cells (zfc n) 48)=W0 at *
 go_loopw [21] (fun x wr=>∃i:Nat,i≤n∧x= .int .i64 i∧Zmg base w ge n (.slice (some ⟨go,0,none⟩) n co) (.slice (some ⟨gr,0,none⟩) n cr) (.slice (some ⟨gc,0,none⟩) n cc) G D rp cp (elQ rp cp a r c i 0) (Zjj rp a r c i) (2 * J) (.slice (some ⟨w.heap.size,0,none⟩) n n) wr) (fun x _=>n - (intOf x).toNat)
 case atStart=>exact ⟨0,by omega,rfl,a3⟩
 case round=>
  clear a3;obtain ⟨i,hi,rfl,hA⟩:=hrel;rcases JX i n with hil | hil
  ·have HA:=JZ hA;obtain ⟨M,H,⟨hB,hM,hR,hC,_,_⟩,hT,hF,hH,a0,F,L⟩:=hA;have bc:=Zb.up L hOl;have cx:(i:Int) < n:=(by omega);obtain ⟨b0,b1,b2,b3⟩:=hB.four;obtain ⟨zi,aa⟩:=Xm (l:=rp) (i:=i) (by rw [ao.out];exact hil);obtain ⟨r0,_,_,_⟩:=hR.at_ aa;have N:=Zfd aa;by_cases hz:zi < 0
   ·have aq:=hT i c hil hc;rw [Ydi] at aq;have a4:=JZ aq;have bv:=JZ hT;have V:Hid (rp.getD i 0 < 0):=JZ (by rw [N];exact hz);obtain ⟨m1,_⟩:=hM.cellAt hil;obtain ⟨A1,n1,c1,A2,n2,c2,⟨x0,x1,x2,x3⟩,p⟩:=hM.at_ hil hc;obtain ⟨l1,l2,l3,l4⟩:=hM.lt hil b;unfold Xx at m1;have X:qs (a i c)=0∨qs (a i c)=1∨qs (a i c)= -1:=(by have:=Vb (a i c);omega);clear aa N a0 F L hT hF hH hR hC aq;have HM:=JZ hM;have HB:=JZ hB;clear hM hB;by_cases C:qs (a i c)=0
    ·have a5:Hid (a i c=0):=JZ (ZW.1 C);go_wp2_with fail;refine (Zz _ (M i c) _ p).mono ?_;rw [a4.out.q,C];rintro _ w1 ⟨rfl,I⟩;have bw:=Zb.up I bc;have a6:=JZ (HA.out.below I hb);clear b0 b1 b2 b3 r0 m1 x0 x1 x2 x3 p X;go_wp2;go_roundw
     case rel=>exact ⟨i+1,by omega,by go_num,a6.out.congr (fun s k hs hk=>Zqd (.inr a5.out) hk) fun s hs=>Zlq (.inr a5.out) s⟩
     case measure=>simp [intOf];omega
    ·have ar:(qs (a i c)==0)=false:=(by simpa using C);clear X C;go_wp2_with fail;refine (Zz _ (M i c) _ p).mono ?_;rw [a4.out.q];rintro _ w1 ⟨rfl,I⟩;have bw:=Zb.up I bc;have a6:=JZ (HA.out.below I hb);have S:=HM.out.below I;have bd:=HB.out.later I;clear b0 b1 b2 b3 r0 m1 x0 x1 x2 x3 p I;obtain ⟨_,b1,_,_⟩:=bd.four;obtain ⟨m1,_⟩:=S.cellAt hil;obtain ⟨m2,_⟩:=S.cellAt hr;unfold Xx at m1 m2;obtain ⟨A1,n1,c1,A2,n2,c2,⟨x0,x1,x2,x3⟩,p⟩:=S.at_ hil hc;obtain ⟨A3,n3,c3,A4,n4,c4,⟨y0,y1,y2,y3⟩,t⟩:=S.at_ hr hc;obtain ⟨r1,r2,r3,r4⟩:=S.lt hr b;have au:Hid (Tdy (M r c) (a r c)):=JZ (by have:=bv.out r c hr hc;rwa [Zvs (by have:=bb.out;omega)] at this);obtain ⟨q,hq⟩:∃q,q=a i c / a r c:=⟨_,rfl⟩;have HQ:=JZ hq;have be:Hid ((M i c).q / (M r c).q=q):=JZ (by rw [a4.out.q,au.out.q,hq]);have a7:(M i c).Sm:=(a4.out.rs (HJ.out i c hil hc)).sm (by omega);have a8:(M r c).Sm:=(au.out.rs (HJ.out r c hr hc)).sm (by omega);have bf:(M r c).q≠0:=(by rw [au.out.q];exact HP.out);have av:Hid (Sz (2 * J) q):=JZ (by rw [hq];exact (Zal (HJ.out i c hil hc) (HJ.out r c hr hc)).mono (by omega));clear hq
     go_upto_region 6 with (fail)
     clear ar
     go_cut [9] (fun s9 wx=>Zbc w1 (canF q) s9 wx)
     case first=>
      have C0:=Zm x0;have C1:=Zm x1;have C2:=Zm x2;have C3:=Zm x3;have E0:=Zm y0;have E1:=Zm y1;have E2:=Zm y2;have E3:=Zm y3;have D0:=Zm b1;have D1:=Zm m1;have D2:=Zm m2;have d:=Zf w1;clear x0 x1 x2 x3 y0 y1 y2 y3 b1 m1 m2;refine YC 25 (.go 0 (.go 1 (.go 2 (.go 3 (.go 4 (.go 5 (.go 6 (.go 7 (.go 8 (.go 9 (.go 10 (.go 11 (.go 12 (.go 13 (.go 14 (.go 15 (.go 16 (.go 17 (.go 18 (.go 19 (.fork 20 (.go 21 (.go 22 (.go 23 (.go 24 (.go 25 (.go 26 .done)))))) 24 (.go 20 (.go 21 (.go 22 (.go 23 (.go 25 (.go 26 .done))))))))))))))))))))))))))) (by kernel_rfl) (by kernel_rfl) ?_;repeat ((first | (refine ZJ (v:=?_) rfl rfl rfl ?_ ?_;rotate_left;(· (intro _ A;go_simp;(try go_bits);(try with_reducible rfl)))) | (refine ZT (v:=?_) rfl rfl rfl ?_ ?_;rotate_left;(· (intro _ A;go_simp;(try go_bits);(try with_reducible rfl)))) | refine ZU rfl rfl rfl ?_ | refine ZK rfl rfl rfl (by assumption) ?_);(try simp only [Act.put,pu1,pu2,pu3,pu4,pu5,pu6]))
      refine WI rfl rfl (fun KR hKR=>?_) (fun KR hKR=>?_)
      ·go_simp;(with_reducible refine (Xq _ _ (M i c) (M r c) _ (p.below d) (t.below d) a7 a8 bf).mono ?_);rw [be.out];rintro _ wA ⟨vA,rfl,eA,ah⟩;have K:=Za d ah d.size;obtain ⟨A6,n6,c6,B6,m6,d6,rfl,_,_⟩:=id eA;refine hKR.out _ _ (Or.inr K) ?_;clear hKR KR;(try simp only [Act.put,pu1,pu2,pu3,pu4,pu5,pu6]);repeat ((first | (refine ZJ (v:=?_) rfl rfl rfl ?_ ?_;rotate_left;(· (intro _ A;go_simp;(try go_bits);(try with_reducible rfl)))) | (refine ZT (v:=?_) rfl rfl rfl ?_ ?_;rotate_left;(· (intro _ A;go_simp;(try go_bits);(try with_reducible rfl)))) | refine ZU rfl rfl rfl ?_ | refine ZK rfl rfl rfl (by assumption) ?_);(try simp only [Act.put,pu1,pu2,pu3,pu4,pu5,pu6]))
       obtain ⟨WG,b6,U,ab⟩:=Y7 wA (.bool false) (.slice none 0 0) (.bool false) (.slice none 0 0);refine ZB rfl rfl (fun KR hKR=>?_);go_simp;have aw:=K.size;have E:=Za K ab K.size;refine hKR.out _ _ (Or.inr E) ?_;clear hKR KR b6;(try simp only [Act.put,pu1,pu2,pu3,pu4,pu5,pu6]);have bx:=eA.below ab;obtain ⟨t0,t1,t2,t3⟩:=U.four;obtain ⟨f0,f1,f2,f3⟩:=U.fourF;refine ZB rfl rfl (fun KR hKR=>?_);go_simp;refine hKR.out _ _ (Or.inl (by decide)) ?_;clear hKR KR;(try simp only [Act.put,pu1,pu2,pu3,pu4,pu5,pu6]);refine ZB rfl rfl (fun KR hKR=>?_);go_simp;refine hKR.out _ _ (Or.inl (by decide)) ?_;clear hKR KR;(try simp only [Act.put,pu1,pu2,pu3,pu4,pu5,pu6]);refine Yl ?_;go_wp2_with fail
       go_meet
       exact Zbc.mk U bx E aw
      ·obtain ⟨WG,b6,U,ab⟩:=Y7 w1.drew (.bool false) (.slice none 0 0) (.bool false) (.slice none 0 0);go_simp;have aw:=d.size;have E:=Za d ab d.size;refine hKR.out _ _ (Or.inr E) ?_;clear hKR KR b6;(try simp only [Act.put,pu1,pu2,pu3,pu4,pu5,pu6])
       change Bk WG w1.heap.size 48 _ at U
       refine ZB rfl rfl (fun KR hKR=>?_);go_simp;(with_reducible refine (Xq _ _ (M i c) (M r c) _ (p.below E) (t.below E) a7 a8 bf).mono ?_);rw [be.out];rintro _ wA ⟨vA,rfl,eA,ah⟩;have K:=Za E ah E.size;obtain ⟨A6,n6,c6,B6,m6,d6,rfl,_,_⟩:=id eA;refine hKR.out _ _ (Or.inr K) ?_;clear hKR KR;(try simp only [Act.put,pu1,pu2,pu3,pu4,pu5,pu6]);have hG:=U.later ah;repeat ((first | (refine ZJ (v:=?_) rfl rfl rfl ?_ ?_;rotate_left;(· (intro _ A;go_simp;(try go_bits);(try with_reducible rfl)))) | (refine ZT (v:=?_) rfl rfl rfl ?_ ?_;rotate_left;(· (intro _ A;go_simp;(try go_bits);(try with_reducible rfl)))) | refine ZU rfl rfl rfl ?_ | refine ZK rfl rfl rfl (by assumption) ?_);(try simp only [Act.put,pu1,pu2,pu3,pu4,pu5,pu6]))
       obtain ⟨t0,t1,t2,t3⟩:=hG.four;obtain ⟨f0,f1,f2,f3⟩:=hG.fourF;refine ZB rfl rfl (fun KR hKR=>?_);go_simp;refine hKR.out _ _ (Or.inl (by decide)) ?_;clear hKR KR;(try simp only [Act.put,pu1,pu2,pu3,pu4,pu5,pu6]);refine ZB rfl rfl (fun KR hKR=>?_);go_simp;refine hKR.out _ _ (Or.inl (by decide)) ?_;clear hKR KR;(try simp only [Act.put,pu1,pu2,pu3,pu4,pu5,pu6]);refine Yl ?_;go_wp2_with fail
       go_meet
       exact Zbc.mk hG eA K aw
     case rest=>
      obtain ⟨gm,Am,nm,cm,ac,ad,ae,rfl,d2,B,o,bq⟩:=hcut;have bg:=a6.out.below bq hb;have cy:w.heap.size < w1.heap.size:=by
       obtain ⟨_,H1,_,_,cf,_⟩:=a6.out;obtain ⟨g,_,e,_,h,_⟩:=cf.shape (by rw [Zw];exact b);injection e with e;injection e with e;injection e with e;omega
      clear x0 x1 x2 x3 y0 y1 y2 y3 b1 m1 m2 p t S bd bq;have Y:=JZ bg;obtain ⟨M2,H2,_,_,b7,_⟩:=bg;obtain ⟨_,_,_,_,⟨c0,cg,ch,ci⟩,⟨f0,f1,f2,f3⟩,_⟩:=b7.at_ (Yu (f:=H2) hil);obtain ⟨_,br⟩:=b7.set_ (k:=i) (by rw [Zw];exact hil) o;have ax:=Y.out.setF hb (fun s hs=>(am.out s hs).2) hil o av.out.rs (f':=Zjj rp a r c (i+1)) (fun s hs=>by rw [Zvt V.out,Zu,HQ.out]);have ai:=(Yf (w:=wc) (g:=w.heap.size) (i:=i * 4) (j:=i * 4+1) (k:=i * 4+2) (l:=i * 4+3) (x:= .bool (canF q).num.neg) (y:= .slice Am nm cm) (z:= .bool (canF q).den.neg) (u:= .slice ac ad ae)).bk B (by intro e;injection e with e;omega);have aj:=o.keep (br.keep (by decide));obtain ⟨t0,t1,t2,t3⟩:=B.four;clear B o b7 br
      go_upto_region 8 with (fail)
      clear t0 t1 t2 t3 c0 cg ch ci f0 f1 f2 f3;generalize ((((wc.setCell ⟨w.heap.size,i * 4,none⟩ (.bool (canF q).num.neg)).setCell ⟨w.heap.size,i * 4+1,none⟩ (.slice Am nm cm)).setCell ⟨w.heap.size,i * 4+2,none⟩ (.bool (canF q).den.neg)).setCell ⟨w.heap.size,i * 4+3,none⟩ (.slice ac ad ae))=W3 at *;have b0:W3.cell? ⟨ge,0,none⟩=some (.int .i64 (n:Int)):=by
       obtain ⟨_,_,hE,_⟩:=ax;exact hE.1.four.1
      go_wp2;clear b0
      go_loopw [78] (fun x wr=>∃j:Nat,j≤n∧x= .int .i64 j∧Zmg base w ge n (.slice (some ⟨go,0,none⟩) n co) (.slice (some ⟨gr,0,none⟩) n cr) (.slice (some ⟨gc,0,none⟩) n cc) G D rp cp (elQ rp cp a r c i j) (Zjj rp a r c (i+1)) (2 * J) (.slice (some ⟨w.heap.size,0,none⟩) n n) wr∧Bk wr gm 48 [.bool (canF q).num.neg,.slice Am nm cm,.bool (canF q).den.neg,.slice ac ad ae]∧Zt wr (.agg #[.bool (canF q).num.neg,.slice Am nm cm,.bool (canF q).den.neg,.slice ac ad ae]) (canF q)) (fun x _=>n - (intOf x).toNat)
      case atStart=>exact ⟨0,by omega,rfl,ax,ai,aj⟩
      case round=>
       clear ax ai aj;obtain ⟨j,hj,rfl,hA,B,o⟩:=hrel;rcases JX j n with hjl | hjl
       ·have ay:=JZ hA;obtain ⟨M,H,⟨hB,hM,hR,hC,_,_⟩,hT,hF,hH,a0,F,L⟩:=hA;have ak:=Zb.up L hOl;have cz:(j:Int) < n:=(by omega);obtain ⟨b0,b1,b2,b3⟩:=hB.four;obtain ⟨zj,af⟩:=Xm (l:=cp) (i:=j) (by rw [ap.out];exact hjl);obtain ⟨k0,_,_,_⟩:=hC.at_ af;have O:=Zfd af;have az:=JZ B;have b4:=JZ o;clear B o;by_cases b8:zj < 0
        ·have b5:Hid (cp.getD j 0 < 0):=JZ (by rw [O];exact b8);have P:Hid (Tdy (M r j) (a r j)):=JZ (by have:=hT r j hr hjl;rwa [Zvs (by have:=bb.out;omega)] at this);have al:Hid (Tdy (M i j) (a i j)):=JZ (by have:=hT i j hil hjl;rwa [elQ_at] at this);obtain ⟨m2,_⟩:=hM.cellAt hr;obtain ⟨A3,n3,c3,A4,n4,c4,⟨y0,y1,y2,y3⟩,t⟩:=hM.at_ hr hjl;obtain ⟨r1,r2,r3,r4⟩:=hM.lt hr b;unfold Xx at m2;have HM:=JZ hM;have HB:=JZ hB;have X:qs (a r j)=0∨qs (a r j)=1∨qs (a r j)= -1:=(by have:=Vb (a r j);omega);clear af O a0 F L hT hF hH hR hC hM hB;by_cases C:qs (a r j)=0
         ·have a5:Hid (a r j=0):=JZ (ZW.1 C);go_wp2_with fail;refine (Zz _ (M r j) _ t).mono ?_;rw [P.out.q,C];rintro _ w2 ⟨rfl,m⟩;have bh:=Zb.up m ak;have Y:=JZ (ay.out.below m hb);have bi:=az.out.later m;have bj:=b4.out.below m;clear b0 b1 b2 b3 k0 m2 y0 y1 y2 y3 t X;go_wp2;go_roundw
          case rel=>exact ⟨j+1,by omega,by go_num,Y.out.congr (fun s k hs hk=>Zqe (.inr a5.out)) fun s hs=>rfl,bi,bj⟩
          case measure=>simp [intOf];omega
         ·have ar:(qs (a r j) !=0)=true:=(by simpa using C);clear X C;go_wp2_with fail;refine (Zz _ (M r j) _ t).mono ?_;rw [P.out.q];rintro _ w2 ⟨rfl,m⟩;have bh:=Zb.up m ak;have Y:=JZ (ay.out.below m hb);have B:=az.out.later m;have o:=b4.out.below m;have hM:=HM.out.below m;have hB:=HB.out.later m;clear b0 b1 b2 b3 k0 m2 y0 y1 y2 y3 t m;obtain ⟨_,b1,_,_⟩:=hB.four;obtain ⟨m1,_⟩:=hM.cellAt hil;obtain ⟨m2,_⟩:=hM.cellAt hr;unfold Xx at m1 m2;obtain ⟨l1,l2,l3,l4⟩:=hM.lt hil b;obtain ⟨A1,n1,c1,A2,n2,c2,⟨x0,x1,x2,x3⟩,p⟩:=hM.at_ hil hjl;obtain ⟨A3,n3,c3,A4,n4,c4,⟨y0,y1,y2,y3⟩,t⟩:=hM.at_ hr hjl;obtain ⟨t0,t1,t2,t3⟩:=B.four;obtain ⟨rj,ag⟩:∃rj,rj=a r j:=⟨_,rfl⟩;obtain ⟨a1,a2⟩:∃a1,a1=a i j:=⟨_,rfl⟩;have bl:=JZ ag;have bm:=JZ a2;have bz:Hid ((M r j).q=rj):=JZ (by rw [P.out.q,ag]);have c5:Hid ((M i j).q=a1):=JZ (by rw [al.out.q,a2]);have bn:Sz J rj:=(by rw [ag];exact HJ.out r j hr hjl);have a7:(M i j).Sm:=(al.out.rs (HJ.out i j hil hjl)).sm (by omega);have a8:(M r j).Sm:=(P.out.rs (HJ.out r j hr hjl)).sm (by omega);have c7:(canF q).Sm:=av.out.rs.sm (by omega);have c8:(canF (q * rj)).Sm:=(Wz av.out bn).rs.sm (by omega);clear ag a2 bn hB
          go_upto_region 12 with (fail)
          clear ar;have C0:=Zm x0;have C1:=Zm x1;have C2:=Zm x2;have C3:=Zm x3;have E0:=Zm y0;have E1:=Zm y1;have E2:=Zm y2;have E3:=Zm y3;have T0:=Zm t0;have T1:=Zm t1;have T2:=Zm t2;have T3:=Zm t3;have D0:=Zm b1;have D1:=Zm m1;have D2:=Zm m2;have d:=Zf w2;clear x0 x1 x2 x3 y0 y1 y2 y3 t0 t1 t2 t3 b1 m1 m2;refine Zp 32 [0,1,2,3,4,5,6,7,8,9,10,11,12,13,14,15,16,17,18,19,20,21,22,23,24,25,26,27,28,29,30,31,32] (by kernel_rfl) (by kernel_rfl) ?_;repeat ((first | (refine Zd (v:=?_) rfl rfl rfl ?_ ?_;rotate_left;(· (intro _ A;go_simp;(try go_bits);(try with_reducible rfl)))) | (refine Zj (v:=?_) rfl rfl rfl ?_ ?_;rotate_left;(· (intro _ A;go_simp;(try go_bits);(try with_reducible rfl)))) | refine Zk rfl rfl rfl ?_);(try simp only [Act.put,pu1,pu2,pu3,pu4,pu5,pu6]))
          refine Zh rfl rfl (fun KR hKR=>?_);go_simp;(with_reducible refine (Wj _ _ (canF q) (M r j) _ (o.below d) (t.below d) c7 a8).mono ?_);rw [Zu,bz.out];rintro _ w6 ⟨v6,rfl,e6,bs⟩;have Z:=Za d bs d.size;refine hKR.out _ _ (Or.inr Z) ?_;clear hKR KR;(try simp only [Act.put,pu1,pu2,pu3,pu4,pu5,pu6]);repeat ((first | (refine Zd (v:=?_) rfl rfl rfl ?_ ?_;rotate_left;(· (intro _ A;go_simp;(try go_bits);(try with_reducible rfl)))) | (refine Zj (v:=?_) rfl rfl rfl ?_ ?_;rotate_left;(· (intro _ A;go_simp;(try go_bits);(try with_reducible rfl)))) | refine Zk rfl rfl rfl ?_);(try simp only [Act.put,pu1,pu2,pu3,pu4,pu5,pu6]))
          refine Zh rfl rfl (fun KR hKR=>?_);go_simp;(with_reducible refine (WT _ _ (M i j) (canF (q * rj)) _ (p.below Z) e6 a7 c8).mono ?_);rw [Zu,c5.out];rintro _ w7 ⟨v7,rfl,e7,bt⟩;have T:=Za Z bt Z.size;obtain ⟨B9,l9,k9,cj,ck,cl,rfl,_,_⟩:=id e7;have a9:=hM.below T;obtain ⟨_,_,_,_,_,_,⟨c0,c1,c2,c3⟩,_⟩:=a9.at_ hil hjl;obtain ⟨f0,f1,f2,f3⟩:=a9.frozen hil hjl;refine hKR.out _ _ (Or.inr T) ?_;clear hKR KR;(try simp only [Act.put,pu1,pu2,pu3,pu4,pu5,pu6]);repeat ((first | (refine Zd (v:=?_) rfl rfl rfl ?_ ?_;rotate_left;(· (intro _ A;go_simp;(try go_bits);(try with_reducible rfl)))) | (refine Zj (v:=?_) rfl rfl rfl ?_ ?_;rotate_left;(· (intro _ A;go_simp;(try go_bits);(try with_reducible rfl)))) | refine Zk rfl rfl rfl ?_);(try simp only [Act.put,pu1,pu2,pu3,pu4,pu5,pu6]))
          refine Zh rfl rfl (fun KR hKR=>?_);go_simp;refine hKR.out _ _ (Or.inl (by decide)) ?_;clear hKR KR;(try simp only [Act.put,pu1,pu2,pu3,pu4,pu5,pu6]);refine Zx ?_;clear C0 C1 C2 C3 D0 D1 D2 E0 E1 E2 E3 T0 T1 T2 T3;obtain ⟨_,cn⟩:=a9.set_ hil hjl e7;have c9:=(Y.out.below T hb).setM am.out hil hjl e7 (Q':=elQ rp cp a r c i (j+1)) (fun s k hs hk=>by rw [Zzj V.out b5.out,HQ.out,bl.out,bm.out]);have bo:=(Yf (w:=w7) (g:=G i) (i:=j * 4) (j:=j * 4+1) (k:=j * 4+2) (l:=j * 4+3) (x:= .bool (canF (a1 - q * rj)).num.neg) (y:= .slice B9 l9 k9) (z:= .bool (canF (a1 - q * rj)).den.neg) (u:= .slice cj ck cl)).bk (B.later T) (by intro e;injection e with e;have:=(am.out i hil).2;omega);have bp:=(o.below T).keep (cn.keep (by decide));clear hM a9 B o p t e6 e7 bs bt d Z T;go_wp2;go_roundw
          case rel=>exact ⟨j+1,by omega,by go_num,c9,bo,bp⟩
          case measure=>simp [intOf];omega
        ·have b5:Hid (¬cp.getD j 0 < 0):=JZ (by rw [O];exact b8);have ca:0≤zj:=(by omega);clear af O a0 F L hT hF hH hM hR hC hB b8;go_wp2;go_roundw
         case rel=>exact ⟨j+1,by omega,by go_num,ay.out.congr (fun s k hs hk=>Zqe (.inl (by have:=b5.out;omega))) fun s hs=>rfl,az.out,b4.out⟩
         case measure=>simp [intOf];omega
       ·obtain rfl:n=j:=by omega
        go_wp2;go_roundw
        case rel=>exact ⟨i+1,by omega,by go_num,hA.congr (fun s k hs hk=>Zzi hk) fun s hs=>rfl⟩
        case measure=>simp [intOf];omega
   ·have V:Hid (¬rp.getD i 0 < 0):=JZ (by rw [N];exact hz);have ca:0≤zi:=(by omega);clear aa N a0 F L hT hF hH hM hR hC hB hz;go_wp2;go_roundw
    case rel=>exact ⟨i+1,by omega,by go_num,HA.out.congr (fun s k hs hk=>Zqd (.inl (by have:=V.out;omega)) hk) fun s hs=>Zlq (.inl (by have:=V.out;omega)) s⟩
    case measure=>simp [intOf];omega
  ·obtain rfl:n=i:=by omega
   go_wp2;go_ret;exact ⟨_,rfl,hA⟩
end
namespace Pl
def UB (cols:List (List En)) (k t:Nat):Mx:=fun i j=>if j < k then XG (cols.getD j []) i else if j=k then XG ((cols.getD k []).take t) i else 0
theorem Znw (cols:List (List En)) (i j:Nat):UB cols 0 0 i j=0:=by
 unfold UB;rw [if_neg (by omega)];split
 ·rfl
 ·rfl
theorem Zvu {es:List En} {t i:Nat} {e:En} (h:Inc none es) (he:es[t]? =some e):XG (es.take (t+1)) i=if e.idx=(i:Int) then e.f.q else XG (es.take t) i:=by
 rw [List.take_add_one,he];unfold XG;simp only [Option.toList];rw [Zhw]
theorem Zsh {cols:List (List En)} {k t i0 i j:Nat} {es:List En} {e:En} (hc:cols[k]? =some es) (hinc:Inc none es) (he:es[t]? =some e) (hi:e.idx=(i0:Int)):UB cols k (t+1) i j=if i=i0∧j=k then e.f.q else UB cols k t i j:=by
 have hg:cols.getD k []=es:=by simp [List.getD,hc]
 unfold UB;by_cases e1:j < k
 ·rw [if_pos e1,if_pos e1,if_neg (by omega)]
 ·rw [if_neg e1,if_neg e1];by_cases e2:j=k
  ·rw [if_pos e2,if_pos e2,hg,Zvu hinc he,hi];by_cases e3:i=i0
   ·rw [if_pos (by omega),if_pos ⟨e3,e2⟩]
   ·rw [if_neg (by omega),if_neg (by omega)]
  ·rw [if_neg e2,if_neg e2,if_neg (by omega)]
theorem Zsi {cols:List (List En)} {k i j:Nat} {es:List En} (hc:cols[k]? =some es):UB cols k es.length i j=UB cols (k+1) 0 i j:=by
 have hg:cols.getD k []=es:=by simp [List.getD,hc]
 unfold UB;by_cases e1:j < k
 ·rw [if_pos e1,if_pos (by omega)]
 ·rw [if_neg e1];by_cases e2:j=k
  ·rw [if_pos e2,if_pos (by omega),hg,List.take_length,e2,hg]
  ·rw [if_neg e2,if_neg (by omega)];split
   ·rfl
   ·rfl
theorem Zvv {cols:List (List En)} {n i j:Nat} (hj:j < n):UB cols n 0 i j=XG (cols.getD j []) i:=by unfold UB;rw [if_pos hj]
def Znx (R:Nat→Nat) (i:Nat):Nat→Int
 | 0=> -1
 | s+1=>if R s=i then (s:Int) else Znx R i s
def VL (n t:Nat) (R:Nat→Nat):List Int:=(List.range n).map fun i=>Znx R i t
theorem XU {n t:Nat} {R:Nat→Nat}:(VL n t R).length=n:=by simp [VL]
theorem WV {n t i:Nat} {R:Nat→Nat} (h:i < n):(VL n t R)[i]? =some (Znx R i t):=by simp [VL,h]
theorem Uf {n t i:Nat} {R:Nat→Nat} (h:i < n):(VL n t R).getD i 0=Znx R i t:=Zfd (WV h)
theorem Uw {R:Nat→Nat} {i:Nat}:∀{t:Nat},Znx R i t < 0↔∀s,s < t→R s≠i
 | 0=>⟨fun _ s h=>absurd h (by omega),fun _=>by unfold Znx;omega⟩
 | t+1=>by
  unfold Znx
  by_cases e:R t=i
  ·rw [if_pos e]
   exact ⟨fun h=>by omega,fun h=>absurd e (h t (by omega))⟩
  ·rw [if_neg e,Uw]
   exact ⟨fun h s hs=>by
    by_cases e2:s=t
    ·rw [e2];exact e
    ·exact h s (by omega),fun h s hs=>h s (by omega)⟩
theorem Ydj {R:Nat→Nat} {n s:Nat} (h:Inj n n R) (hs:s < n):Znx R (R s) n=s:=by
 have a:∀t,s < t→t≤n→Znx R (R s) t=s:=by
  intro t
  induction t with
  | zero=>intro h1;omega
  | succ t ih=>
   intro h1 h2;unfold Znx;by_cases e:t=s
   ·subst e;rw [if_pos rfl]
   ·rw [if_neg fun g=>e (h.eq (by omega) hs g)];exact ih (by omega) (by omega)
 exact a n hs (JY _)
theorem Zgv {R R':Nat→Nat} {i:Nat}:∀{t:Nat},(∀s,s < t→R s=R' s)→Znx R i t=Znx R' i t
 | 0,_=>rfl
 | t+1,h=>by unfold Znx;rw [h t (by omega),Zgv fun s hs=>h s (by omega)]
theorem Zqf {n t r:Nat} {R:Nat→Nat} (hf:∀s,s < t→R s≠r):(VL n t R).set r (t:Int)=VL n (t+1) (WF R t r):=by
 refine List.ext_getElem? fun i=>?_
 rcases JX i n with e | e
 ·rw [WV e,List.getElem?_set];unfold Znx;rw [ZO];by_cases g:r=i
  ·subst g;rw [if_pos rfl,if_pos (by rw [XU];exact e),if_pos rfl]
  ·rw [if_neg g,if_neg g,WV e,Zgv (R':=WF R t r) fun s hs=>(ZF hs).symm]
 ·rw [JU (by rw [List.length_set,XU];exact e),JU (by rw [XU];exact e)]
theorem Zvw {n:Nat} {R:Nat→Nat}:VL n 0 R=List.replicate n (-1):=by
 refine List.ext_getElem? fun i=>?_
 rcases JX i n with e | e
 ·rw [WV e];unfold Znx;simp [e]
 ·rw [JU (by rw [XU];exact e),JU (by simp;exact e)]
theorem WJ {R:Nat→Nat} {n t r i:Nat} (hi:i < n):((VL n (t+1) (WF R t r)).getD i 0 < 0)↔((∀s,s < t→R s≠i)∧i≠r):=by
 rw [Uf hi,Uw];constructor
 ·intro h;refine ⟨fun s hs=>?_,fun e=>?_⟩
  ·have:=h s (by omega);rwa [ZF hs] at this
  ·have:=h t (by omega);rw [ZO] at this;exact this e.symm
 ·rintro ⟨h1,h2⟩ s hs;by_cases e:s=t
  ·rw [e,ZO];exact fun g=>h2 g.symm
  ·rw [ZF (by omega)];exact h1 s (by omega)
theorem Zzk {n t K:Nat} {A a:Mx} {R C:Nat→Nat} {m:Mx} (h:UT n t A a R C m) {r c:Nat} (hr:r < n) (hc:c < n) (hrf:∀s,s < t→R s≠r) (hcf:∀s,s < t→C s≠c) (hp:a r c≠0) (hK:1≤K) (hs:∀i j,i < n→j < n→Sz (5^t * K) (a i j)):
 UT n (t+1) A (elQ (VL n (t+1) (WF R t r)) (VL n (t+1) (WF C t c)) a r c n 0) (WF R t r) (WF C t c) (WF m t (Zjj (VL n (t+1) (WF R t r)) a r c n))∧
 (∀i,i < n→Sz (2 * (5^t * K)) (Zjj (VL n (t+1) (WF R t r)) a r c n i))∧
 ∀i j,i < n→j < n→Sz (5^(t+1) * K) (elQ (VL n (t+1) (WF R t r)) (VL n (t+1) (WF C t c)) a r c n 0 i j):=by
 have b:∀i,i < n→Zjj (VL n (t+1) (WF R t r)) a r c n i=if (∀s,s < t→R s≠i)∧i≠r then a i c / a r c else 0:=fun i hi=>by
  unfold Zjj;by_cases e:(∀s,s < t→R s≠i)∧i≠r
  ·rw [if_pos e,if_pos ⟨hi,(WJ hi).2 e⟩]
  ·rw [if_neg e,if_neg fun g=>e ((WJ hi).1 g.2)]
 have d:∀i j,i < n→j < n→elQ (VL n (t+1) (WF R t r)) (VL n (t+1) (WF C t c)) a r c n 0 i j=if ((∀s,s < t→R s≠i)∧i≠r)∧((∀s,s < t→C s≠j)∧j≠c) then a i j - Zjj (VL n (t+1) (WF R t r)) a r c n i * a r j else a i j:=fun i j hi hj=>by
  unfold elQ;by_cases e:((∀s,s < t→R s≠i)∧i≠r)∧((∀s,s < t→C s≠j)∧j≠c)
  ·rw [if_pos e,if_pos ⟨.inl hi,(WJ hi).2 e.1,(WJ hj).2 e.2⟩,b i hi,if_pos e.1]
  ·rw [if_neg e,if_neg fun g=>e ⟨(WJ hi).1 g.2.1,(WJ hj).1 g.2.2⟩]
 classical
 obtain ⟨b1,b2⟩:=Yfb (m':=WF m t (Zjj (VL n (t+1) (WF R t r)) a r c n)) (t:=t) (P:=fun i=>(∀s,s < t→R s≠i)∧i≠r) (Q:=fun j=>(∀s,s < t→C s≠j)∧j≠c) hK hr hc hs (fun i hi=>by rw [ZO,b i hi]) (a':=elQ (VL n (t+1) (WF R t r)) (VL n (t+1) (WF C t c)) a r c n 0) (fun i j hi hj=>by rw [d i j hi hj,ZO]);refine ⟨h.step hr hc hrf hcf hp (fun s hs=>ZF hs) ZO (fun s hs=>ZF hs) ZO (fun s i hs=>by rw [ZF hs]) (fun i hi=>by rw [ZO];exact b i hi) (fun i j hi hj=>by rw [ZO];exact d i j hi hj),fun i hi=>?_,b2⟩;have:=b1 i hi
 rwa [ZO] at this
def Zny (R:Nat→Nat) (m:Mx) (t k:Nat):Nat→Rat:=fun p=>if p=t then 1 else if R p < k then m t (R p) else 0
theorem Zsj {R:Nat→Nat} {m:Mx} {t:Nat} (p:Nat):Zny R m t 0 p=if p=t then 1 else 0:=by
 unfold Zny;split
 ·rfl
 ·rw [if_neg (by omega)]
theorem Zvx {n:Nat} {R:Nat→Nat} {m:Mx} {t k p:Nat} (h0:m t k=0):Zny R m t k p=Zny R m t (k+1) p:=by
 unfold Zny;split
 ·rfl
 ·by_cases e:R p=k
  ·rw [if_neg (by omega),if_pos (by omega),e,h0]
  ·by_cases e2:R p < k
   ·rw [if_pos e2,if_pos (by omega)]
   ·rw [if_neg e2,if_neg (by omega)]
theorem Zvy {n:Nat} {R:Nat→Nat} {m:Mx} {t k p s:Nat} (h:Inj n n R) (ht:t < n) (hp:p < n) (hs:s < n) (hk:R s=k) (h0:m t k≠0) (hm0:m t (R t)=0):Zny R m t (k+1) p=if p=s then m t k else Zny R m t k p:=by
 have a:s≠t:=fun e=>h0 (by rw [← hk,e];exact hm0)
 unfold Zny;by_cases e:p=s
 ·subst e;rw [if_pos rfl,if_neg a,if_pos (by omega),hk]
 ·rw [if_neg e];split
  ·rfl
  ·have:R p≠k:=fun g=>e (h.eq hp hs (by rw [g,hk]))
   by_cases e2:R p < k
   ·rw [if_pos e2,if_pos (by omega)]
   ·rw [if_neg e2,if_neg (by omega)]
theorem Zzl {n:Nat} {R:Nat→Nat} {m:Mx} {t p:Nat} (h:Inj n n R) (hp:p < n) (hm0:∀q,q≤t→m t (R q)=0):Zny R m t n p=luL R m t p:=by
 unfold Zny luL;split
 ·rfl
 ·rw [if_pos (h.1 p hp)];split
  ·rfl
  ·exact hm0 p (by omega)
def upP (R C:Nat→Nat) (a:Mx) (t k:Nat):Nat→Rat:=fun s=>if s < k then a (R s) (C t) else 0
theorem Zzm {R C:Nat→Nat} {a:Mx} {t k:Nat} (s:Nat):upP R C a t (k+1) s=if s=k then a (R k) (C t) else upP R C a t k s:=by
 unfold upP;by_cases e:s=k
 ·subst e;rw [if_pos rfl,if_pos (by omega)]
 ·rw [if_neg e];by_cases e2:s < k
  ·rw [if_pos e2,if_pos (by omega)]
  ·rw [if_neg e2,if_neg (by omega)]
theorem Ydk {R C:Nat→Nat} {a:Mx} {t:Nat} (s:Nat):upP R C a t (t+1) s=luU R C a t s:=by
 unfold upP luU;by_cases e:s≤t
 ·rw [if_pos e,if_pos (by omega)]
 ·rw [if_neg e,if_neg (by omega)]
end Pl
section
theorem Znz {P:Program} {Q:Exit→Act→World→Prop} {id:Nat} {l:List Oper} {a:Act} {w:World} (S:World→Prop) (h0:S w.drew) (n:Nat) (is:List Nat) (hm:P.follows .mixedOrders=true) (hok:Zyy .any l.toArray n is=true)
 (h:XN P l.toArray (NoPanic Q) S n is a w.drew):(Code.region id l.toArray true).wp P Q a w:=by
 simp only [Zyy,Bool.and_eq_true,decide_eq_true_eq] at hok;obtain ⟨hs,b,hl⟩:=hok;refine wp_region_noPanic (wp_region_any hm (AnyG.any _ _ _ _ (S:=S) (n:=n) ?_));rw [← hl];have:=AnyG.of_seq (P:=P) (Q:=NoPanic Q) (S:=S) (fun c a d v w h=>h) hs is _ a w.drew false b (fun _=>h0) h
 rwa [hl] at this ⊢
theorem Yd.othP [Old] {base:Nat} {w w':World} {P:Nat→Prop} {v:Value} {fs:List RF} (h:Yd base w v fs) (ho:Zlp P w w') (hk:ZG w w') (hne:∀b,v.ownBlock=some b→¬P b):Yd base w' v fs:=by
 obtain ⟨cs,h1,h2⟩:=h;refine ⟨cs,⟨h1.1,?_⟩,h2.keep hk⟩;rcases h1.2 with hn | ⟨g',cap,cur,rfl,hb',hgg,rest⟩
 ·exact .inl hn
 ·exact .inr ⟨g',cap,cur,rfl,hb',(ho.2 g' (Yo hgg) (hne g' (by simp [Value.ownBlock]))).trans hgg,rest⟩
namespace Pl
def Zsz (n t:Nat) (R:Nat→Nat):List Int:=(List.range n).map fun s=>if s < t then (R s:Int) else 0
theorem VE {n t:Nat} {R:Nat→Nat}:(Zsz n t R).length=n:=by simp [Zsz]
theorem Zdg {n t s:Nat} {R:Nat→Nat} (h:s < n):(Zsz n t R)[s]? =some (if s < t then (R s:Int) else 0):=by simp [Zsz,h]
theorem Ziq {n t:Nat} {R:Nat→Nat} {l:List Int} (hl:l.length=n) (h:∀s,s < n→l[s]? =some (if s < t then (R s:Int) else 0)):l=Zsz n t R:=by
 refine List.ext_getElem? fun s=>?_
 rcases JX s n with e | e
 ·rw [h s e,Zdg e]
 ·rw [JU (by omega),JU (by rw [VE];exact e)]
theorem Zlr {n:Nat} {R:Nat→Nat}:List.replicate n 0=Zsz n 0 R:=Ziq (by simp) fun s hs=>by simp [hs]
theorem Zqg {n t r:Nat} {R:Nat→Nat} (ht:t < n):(Zsz n t R).set t (r:Int)=Zsz n (t+1) (WF R t r):=Ziq (by simp [Zsz]) fun s hs=>by
 rw [List.getElem?_set]
 by_cases e:t=s
 ·subst e
  rw [if_pos rfl,VE,if_pos hs,if_pos (by omega),ZO]
 ·rw [if_neg e,Zdg hs]
  by_cases e2:s < t
  ·rw [if_pos e2,if_pos (by omega),ZF e2]
  ·rw [if_neg e2,if_neg (by omega)]
theorem Zqh {n:Nat} {R:Nat→Nat}:Zsz n n R=Zle n R:=by
 refine (Ziq (Zex _ _) fun s hs=>?_).symm;rw [Zdf hs,if_pos hs]
def Zsm (n t:Nat) (L:Mx):List (List En):=(List.range n).map fun s=>if s < t then spV (L s) n else []
theorem WK {n t:Nat} {L:Mx}:(Zsm n t L).length=n:=by simp [Zsm]
theorem Zbd {n t s:Nat} {L:Mx} (h:s < n):(Zsm n t L)[s]? =some (if s < t then spV (L s) n else []):=by simp [Zsm,h]
theorem Zir {n t:Nat} {L:Mx} {l:List (List En)} (hl:l.length=n) (h:∀s,s < n→l[s]? =some (if s < t then spV (L s) n else [])):l=Zsm n t L:=by
 refine List.ext_getElem? fun s=>?_
 rcases JX s n with e | e
 ·rw [h s e,Zbd e]
 ·rw [JU (by omega),JU (by rw [WK];exact e)]
theorem Zfe {n:Nat} {L:Mx}:List.replicate n []=Zsm n 0 L:=Zir (by simp) fun s hs=>by simp [hs]
theorem Zis {n t:Nat} {L:Mx} (ht:t < n):(Zsm n t L).set t (spV (L t) n)=Zsm n (t+1) L:=Zir (by simp [Zsm]) fun s hs=>by
 rw [List.getElem?_set]
 by_cases e:t=s
 ·subst e
  rw [if_pos rfl,WK,if_pos hs,if_pos (by omega)]
 ·rw [if_neg e,Zbd hs]
  by_cases e2:s < t
  ·rw [if_pos e2,if_pos (by omega)]
  ·rw [if_neg e2,if_neg (by omega)]
theorem Zqi {n:Nat} {L:Mx}:Zsm n n L=vcL n L:=by
 refine (Zir (XR _ _) fun s hs=>?_).symm;rw [Ud hs,if_pos hs]
end Pl
def XA [Old] (U:World) (ge ga gr gc n:Nat) (G D:Nat→Nat) (rp cp:List Int) (Q:Mx) (wr:World):Prop:=
 ∃M,ElM U.heap.size wr ge n (.slice (some ⟨ga,0,none⟩) n n) (.slice (some ⟨gr,0,none⟩) n n) (.slice (some ⟨gc,0,none⟩) n n) M G D rp cp∧(∀i j,i < n→j < n→Tdy (M i j) (Q i j))∧Below U.heap.size U wr
section
variable {U wr w':World} {ge ga gr gc n:Nat} {G D:Nat→Nat} {rp cp:List Int} {Q Q':Mx}
theorem XA.below [Old] (h:XA U ge ga gr gc n G D rp cp Q wr) (hb:Below wr.heap.size wr w'):XA U ge ga gr gc n G D rp cp Q w':=by
 obtain ⟨M,h1,h2,h3⟩:=h;exact ⟨M,h1.below hb,h2,Za h3 hb h3.size⟩
theorem XA.congr [Old] (h:XA U ge ga gr gc n G D rp cp Q wr) (e:∀i j,i < n→j < n→Q i j=Q' i j):XA U ge ga gr gc n G D rp cp Q' wr:=by
 obtain ⟨M,h1,h2,h3⟩:=h;exact ⟨M,h1,fun i j hi hj=>by rw [← e i j hi hj];exact h2 i j hi hj,h3⟩
theorem XA.setM [Old] (h:XA U ge ga gr gc n G D rp cp Q wr) {i j:Nat} (hi:i < n) (hj:j < n) {x y z u:Value} {q:Rat} (hq:Zt wr (.agg #[x,y,z,u]) (canF q)) (hf:∀s k,s < n→k < n→Q' s k=if s=i∧k=j then q else Q s k) (hOU:Old.n≤U.heap.size:=by first | assumption | exact Nat.zero_le _ | omega | ((first | with_reducible refine Zb.le ?_ | with_reducible refine Zb.le1 ?_ | with_reducible refine Zb.le2 ?_ | with_reducible refine Zb.le3 ?_);repeat (first | assumption | exact Zb.up (by assumption) hOl | exact Zb.up (Hid.out (by assumption)) hOl | with_reducible refine Zb.set ?_ _ _ | with_reducible refine Zb.mk_ ?_ _ | with_reducible refine Zb.dr ?_ | with_reducible refine Zb.drN ?_ | refine Zb.up (by assumption) ?_ | refine Zb.up (Hid.out (by assumption)) ?_))):
 XA U ge ga gr gc n G D rp cp Q' ((((wr.setCell ⟨G i,j * 4,none⟩ x).setCell ⟨G i,j * 4+1,none⟩ y).setCell ⟨G i,j * 4+2,none⟩ z).setCell ⟨G i,j * 4+3,none⟩ u):=by
 obtain ⟨M,⟨e1,e2,e3,e4,e5⟩,h2,h3⟩:=h;obtain ⟨g1,g2⟩:=e2.set_ hi hj hq;obtain ⟨l1,_⟩:=e2.lt hi (by omega);refine ⟨_,⟨g2.bk e1 (by decide),g1,e3.but g2 (by decide),e4.but g2 (by decide),e5⟩,fun s k hs hk=>?_,ZA h3 l1 _ _ _ _ _ _ _ _⟩;rw [hf s k hs hk];unfold Yct;by_cases e:s=i∧k=j
 ·rw [if_pos e,if_pos e];exact .inl rfl
 ·rw [if_neg e,if_neg e];exact h2 s k hs hk
theorem XA.farI [Old] (h:XA U ge ga gr gc n G D rp cp Q wr) {g i:Nat} {v:Value} (hk:Ze 3 wr (wr.setCell ⟨g,i,none⟩ v)) (hg:U.heap.size≤g) (h1:g≠gr) (h2:g≠gc):XA U ge ga gr gc n G D rp cp Q (wr.setCell ⟨g,i,none⟩ v):=by
 obtain ⟨M,⟨e1,e2,e3,e4,e5⟩,h4,h3⟩:=h;have ho:=Z6.of_set (g:=g) (i:=i) (v:=v) (w:=wr);exact ⟨M,⟨hk.bk e1 (by decide),e2.but hk (by decide) (by decide) (by decide),e3.others ho (fun b hb e=>by simp [Value.ownBlock] at hb;injection e with e;omega),e4.others ho (fun b hb e=>by simp [Value.ownBlock] at hb;injection e with e;omega),e5⟩,h4,h3.setCell (p:=⟨g,i,none⟩) hg v⟩
theorem XA.but [Old] (h:XA U ge ga gr gc n G D rp cp Q wr) {e:TypeId} (hk:Ze e wr w') (hb:Below U.heap.size U w') (h1:160≠e) (h2:23≠e) (h3:48≠e) (h4:123≠e) (h5:3≠e):XA U ge ga gr gc n G D rp cp Q w':=by
 obtain ⟨M,⟨e1,e2,e3,e4,e5⟩,g4,g3⟩:=h;exact ⟨M,⟨hk.bk e1 h1,e2.but hk h2 h3 h4,e3.but hk h5,e4.but hk h5,e5⟩,g4,hb⟩
theorem XA.setR [Old] (h:XA U ge ga gr gc n G D rp cp Q wr) (hne:gr≠gc) {r:Nat} (hr:r < n) {z:Int} (h0: -9223372036854775808≤z) (h1:z≤9223372036854775807) (hOU:Old.n≤U.heap.size:=by first | assumption | exact Nat.zero_le _ | omega | ((first | with_reducible refine Zb.le ?_ | with_reducible refine Zb.le1 ?_ | with_reducible refine Zb.le2 ?_ | with_reducible refine Zb.le3 ?_);repeat (first | assumption | exact Zb.up (by assumption) hOl | exact Zb.up (Hid.out (by assumption)) hOl | with_reducible refine Zb.set ?_ _ _ | with_reducible refine Zb.mk_ ?_ _ | with_reducible refine Zb.dr ?_ | with_reducible refine Zb.drN ?_ | refine Zb.up (by assumption) ?_ | refine Zb.up (Hid.out (by assumption)) ?_))):
 XA U ge ga gr gc n G D (rp.set r z) cp Q (wr.setCell ⟨gr,r,none⟩ (.int .i64 z))∧Ze 3 wr (wr.setCell ⟨gr,r,none⟩ (.int .i64 z)):=by
 obtain ⟨M,⟨e1,e2,e3,e4,e5,e6⟩,h4,h3⟩:=h;obtain ⟨g1,hk⟩:=e3.set_ (k:=r) (by omega) h0 h1;have ho:=Z6.of_set (g:=gr) (i:=r) (v:= .int .i64 z) (w:=wr);exact ⟨⟨M,⟨hk.bk e1 (by decide),e2.but hk (by decide) (by decide) (by decide),g1,e4.others ho (fun b hb e=>by simp [Value.ownBlock] at hb;injection e with e;omega),by rw [List.length_set];exact e5,e6⟩,h4,h3.setCell (p:=⟨gr,r,none⟩) e3.base _⟩,hk⟩
theorem XA.setC [Old] (h:XA U ge ga gr gc n G D rp cp Q wr) (hne:gr≠gc) {c:Nat} (hc:c < n) {z:Int} (h0: -9223372036854775808≤z) (h1:z≤9223372036854775807) (hOU:Old.n≤U.heap.size:=by first | assumption | exact Nat.zero_le _ | omega | ((first | with_reducible refine Zb.le ?_ | with_reducible refine Zb.le1 ?_ | with_reducible refine Zb.le2 ?_ | with_reducible refine Zb.le3 ?_);repeat (first | assumption | exact Zb.up (by assumption) hOl | exact Zb.up (Hid.out (by assumption)) hOl | with_reducible refine Zb.set ?_ _ _ | with_reducible refine Zb.mk_ ?_ _ | with_reducible refine Zb.dr ?_ | with_reducible refine Zb.drN ?_ | refine Zb.up (by assumption) ?_ | refine Zb.up (Hid.out (by assumption)) ?_))):
 XA U ge ga gr gc n G D rp (cp.set c z) Q (wr.setCell ⟨gc,c,none⟩ (.int .i64 z))∧Ze 3 wr (wr.setCell ⟨gc,c,none⟩ (.int .i64 z)):=by
 obtain ⟨M,⟨e1,e2,e3,e4,e5,e6⟩,h4,h3⟩:=h;obtain ⟨g1,hk⟩:=e4.set_ (k:=c) (by omega) h0 h1;have ho:=Z6.of_set (g:=gc) (i:=c) (v:= .int .i64 z) (w:=wr);exact ⟨⟨M,⟨hk.bk e1 (by decide),e2.but hk (by decide) (by decide) (by decide),e3.others ho (fun b hb e=>by simp [Value.ownBlock] at hb;injection e with e;omega),g1,e5,by rw [List.length_set];exact e6⟩,h4,h3.setCell (p:=⟨gc,c,none⟩) e4.base _⟩,hk⟩
end
def Ydl [Old] (base n t:Nat) (F E:Nat→Nat) (m:Mx) (J:Nat) (G:Nat→Nat) (w:World):Prop:=
 ∃H:Nat→Nat→RF,∀s,s < t→Yd base w (Xx n F E s) (rfL n (H s))∧(∀i,i < n→(H s i).q=m s i∧(H s i).Rs J)∧∀i,i < n→F s≠G i
def XL [Old] (U:World) (gf g0 g1 gt n t J:Nat) (v2 v3:Value) (l0 l1:List Int) (F E:Nat→Nat) (m:Mx) (G:Nat→Nat) (w:World):Prop:=
 Bk w gf 137 [.slice (some ⟨g0,0,none⟩) n n,.slice (some ⟨g1,0,none⟩) n n,v2,v3]∧ZI U.heap.size w (.slice (some ⟨g0,0,none⟩) n n) l0∧ZI U.heap.size w (.slice (some ⟨g1,0,none⟩) n n) l1∧
  w.ownsRow U.heap.size 23 1 (.slice (some ⟨gt,0,none⟩) n n) n (Zmf n t F E)∧Ydl U.heap.size n t F E m J G w
section
variable {U w w':World} {gf g0 g1 gt n t J:Nat} {v2 v3:Value} {l0 l1:List Int} {F E G:Nat→Nat} {m:Mx}
theorem Ydl.below [Old] (h:Ydl U.heap.size n t F E m J G w) (hb:Below w.heap.size w w'):Ydl U.heap.size n t F E m J G w':=by
 obtain ⟨H,h⟩:=h;exact ⟨H,fun s hs=>⟨(h s hs).1.below hb,(h s hs).2⟩⟩
theorem Ydl.but [Old] {e:TypeId} (h:Ydl U.heap.size n t F E m J G w) (hk:Ze e w w') (h1:48≠e) (h2:123≠e):Ydl U.heap.size n t F E m J G w':=by
 obtain ⟨H,h⟩:=h;exact ⟨H,fun s hs=>⟨(h s hs).1.but hk h1 h2,(h s hs).2⟩⟩
theorem XL.below [Old] (h:XL U gf g0 g1 gt n t J v2 v3 l0 l1 F E m G w) (hb:Below w.heap.size w w'):XL U gf g0 g1 gt n t J v2 v3 l0 l1 F E m G w':=
 ⟨h.1.later hb,h.2.1.below hb,h.2.2.1.below hb,own_below h.2.2.2.1 hb,h.2.2.2.2.below hb⟩
theorem XL.but [Old] {e:TypeId} (h:XL U gf g0 g1 gt n t J v2 v3 l0 l1 F E m G w) (hk:Ze e w w') (h1:137≠e) (h2:23≠e) (h3:48≠e) (h4:123≠e) (h5:3≠e):XL U gf g0 g1 gt n t J v2 v3 l0 l1 F E m G w':=
 ⟨hk.bk h.1 h1,h.2.1.but hk h5,h.2.2.1.but hk h5,hk.own h.2.2.2.1 h2,h.2.2.2.2.but hk h3 h4⟩
theorem XL.set0 [Old] (h:XL U gf g0 g1 gt n t J v2 v3 l0 l1 F E m G w) (hne:g0≠g1) {k:Nat} (hk:k < l0.length) {z:Int} (z0: -9223372036854775808≤z) (z1:z≤9223372036854775807) (hOU:Old.n≤U.heap.size:=by first | assumption | exact Nat.zero_le _ | omega | ((first | with_reducible refine Zb.le ?_ | with_reducible refine Zb.le1 ?_ | with_reducible refine Zb.le2 ?_ | with_reducible refine Zb.le3 ?_);repeat (first | assumption | exact Zb.up (by assumption) hOl | exact Zb.up (Hid.out (by assumption)) hOl | with_reducible refine Zb.set ?_ _ _ | with_reducible refine Zb.mk_ ?_ _ | with_reducible refine Zb.dr ?_ | with_reducible refine Zb.drN ?_ | refine Zb.up (by assumption) ?_ | refine Zb.up (Hid.out (by assumption)) ?_))):
 XL U gf g0 g1 gt n t J v2 v3 (l0.set k z) l1 F E m G (w.setCell ⟨g0,k,none⟩ (.int .i64 z))∧Ze 3 w (w.setCell ⟨g0,k,none⟩ (.int .i64 z)):=by
 obtain ⟨e1,e2,e3,e4,e5⟩:=h;obtain ⟨g,a⟩:=e2.set_ hk z0 z1;have ho:=Z6.of_set (g:=g0) (i:=k) (v:= .int .i64 z) (w:=w);exact ⟨⟨a.bk e1 (by decide),g,e3.others ho (fun b hb e=>by simp [Value.ownBlock] at hb;injection e with e;omega),a.own e4 (by decide),e5.but a (by decide) (by decide)⟩,a⟩
theorem XL.set1 [Old] (h:XL U gf g0 g1 gt n t J v2 v3 l0 l1 F E m G w) (hne:g0≠g1) {k:Nat} (hk:k < l1.length) {z:Int} (z0: -9223372036854775808≤z) (z1:z≤9223372036854775807) (hOU:Old.n≤U.heap.size:=by first | assumption | exact Nat.zero_le _ | omega | ((first | with_reducible refine Zb.le ?_ | with_reducible refine Zb.le1 ?_ | with_reducible refine Zb.le2 ?_ | with_reducible refine Zb.le3 ?_);repeat (first | assumption | exact Zb.up (by assumption) hOl | exact Zb.up (Hid.out (by assumption)) hOl | with_reducible refine Zb.set ?_ _ _ | with_reducible refine Zb.mk_ ?_ _ | with_reducible refine Zb.dr ?_ | with_reducible refine Zb.drN ?_ | refine Zb.up (by assumption) ?_ | refine Zb.up (Hid.out (by assumption)) ?_))):
 XL U gf g0 g1 gt n t J v2 v3 l0 (l1.set k z) F E m G (w.setCell ⟨g1,k,none⟩ (.int .i64 z))∧Ze 3 w (w.setCell ⟨g1,k,none⟩ (.int .i64 z)):=by
 obtain ⟨e1,e2,e3,e4,e5⟩:=h;obtain ⟨g,a⟩:=e3.set_ hk z0 z1;have ho:=Z6.of_set (g:=g1) (i:=k) (v:= .int .i64 z) (w:=w);exact ⟨⟨a.bk e1 (by decide),e2.others ho (fun b hb e=>by simp [Value.ownBlock] at hb;injection e with e;omega),g,a.own e4 (by decide),e5.but a (by decide) (by decide)⟩,a⟩
theorem XL.farI [Old] (h:XL U gf g0 g1 gt n t J v2 v3 l0 l1 F E m G w) {g i:Nat} {v:Value} (hk:Ze 3 w (w.setCell ⟨g,i,none⟩ v)) (h1:g≠g0) (h2:g≠g1):XL U gf g0 g1 gt n t J v2 v3 l0 l1 F E m G (w.setCell ⟨g,i,none⟩ v):=by
 obtain ⟨e1,e2,e3,e4,e5⟩:=h;have ho:=Z6.of_set (g:=g) (i:=i) (v:=v) (w:=w);exact ⟨hk.bk e1 (by decide),e2.others ho (fun b hb e=>by simp [Value.ownBlock] at hb;injection e with e;omega),e3.others ho (fun b hb e=>by simp [Value.ownBlock] at hb;injection e with e;omega),hk.own e4 (by decide),e5.but hk (by decide) (by decide)⟩
theorem XL.othP [Old] (h:XL U gf g0 g1 gt n t J v2 v3 l0 l1 F E m G w) (ho:Zlp (fun b=>∃i,i < n∧b=G i) w w') (hk:Ze 48 w w'):XL U gf g0 g1 gt n t J v2 v3 l0 l1 F E m G w':=by
 obtain ⟨e1,e2,e3,e4,H,e5⟩:=h;refine ⟨hk.bk e1 (by decide),e2.but hk (by decide),e3.but hk (by decide),hk.own e4 (by decide),H,fun s hs=>⟨(e5 s hs).1.othP ho (hk.keep (by decide)) fun b hb=>?_,(e5 s hs).2⟩⟩;simp [Xx,Value.ownBlock] at hb;subst hb;rintro ⟨i,hi,e⟩;exact (e5 s hs).2.2 i hi e
theorem XL.push [Old] (h:XL U gf g0 g1 gt n t J v2 v3 l0 l1 F E m G w) (ht:t < n) {g c:Nat} {H:Nat→RF} {f:Nat→Rat} (hO:Yd U.heap.size w (.slice (some ⟨g,0,none⟩) n c) (rfL n H)) (hq:∀i,i < n→(H i).q=f i∧(H i).Rs J) (hg:∀i,i < n→g≠G i) (hOU:Old.n≤U.heap.size:=by first | assumption | exact Nat.zero_le _ | omega | ((first | with_reducible refine Zb.le ?_ | with_reducible refine Zb.le1 ?_ | with_reducible refine Zb.le2 ?_ | with_reducible refine Zb.le3 ?_);repeat (first | assumption | exact Zb.up (by assumption) hOl | exact Zb.up (Hid.out (by assumption)) hOl | with_reducible refine Zb.set ?_ _ _ | with_reducible refine Zb.mk_ ?_ _ | with_reducible refine Zb.dr ?_ | with_reducible refine Zb.drN ?_ | refine Zb.up (by assumption) ?_ | refine Zb.up (Hid.out (by assumption)) ?_))):
 XL U gf g0 g1 gt n (t+1) J v2 v3 l0 l1 (WF F t g) (WF E t c) (WF m t f) G (w.setCell ⟨gt,t,none⟩ (.slice (some ⟨g,0,none⟩) n c))∧Ze 23 w (w.setCell ⟨gt,t,none⟩ (.slice (some ⟨g,0,none⟩) n c)):=by
 obtain ⟨e1,e2,e3,e4,K,e5⟩:=h;obtain ⟨a,hb,_⟩:=Z8 e4;have hk:=Ze.setCell hb t (.slice (some ⟨g,0,none⟩) n c);have e6:=Xi e4 t (.slice (some ⟨g,0,none⟩) n c) (by rw [XT];exact ht);rw [Zqc ht] at e6;refine ⟨⟨hk.bk e1 (by decide),e2.but hk (by decide),e3.but hk (by decide),e6,WF K t H,fun s hs=>?_⟩,hk⟩;by_cases e:s=t
 ·subst e;unfold Xx;rw [ZO,ZO,ZO,ZO];exact ⟨hO.but hk (by decide) (by decide),hq,hg⟩
 ·unfold Xx;rw [ZF (by omega),ZF (by omega),ZF (by omega),ZF (by omega)];exact ⟨(e5 s (by omega)).1.but hk (by decide) (by decide),(e5 s (by omega)).2⟩
end
def Ydm [Old] (U:World) (ge ga gr gc gf g0 g1 gt n K t:Nat) (G D:Nat→Nat) (A:Mx) (wr:World):Prop:=
 ∃(a m:Mx) (R C F E:Nat→Nat),XA U ge ga gr gc n G D (VL n t R) (VL n t C) a wr∧UT n t A a R C m∧(∀i j,i < n→j < n→Sz (5^t * K) (a i j))∧(∀s i,s < t→i < n→Sz (2 * (5^n * K)) (m s i))∧
  XL U gf g0 g1 gt n t (2 * (5^n * K)) (.slice none 0 0) (.slice none 0 0) (Zsz n t R) (Zsz n t C) F E m G wr
def LuM [Old] (U:World) (ge ga gr gc gf g0 g1 gt gl gu go n J tl tu:Nat) (G D R C F E:Nat→Nat) (a m:Mx) (wr:World):Prop:=
 XA U ge ga gr gc n G D (VL n n R) (VL n n C) a wr∧XL U gf g0 g1 gt n n J (.slice (some ⟨gl,0,none⟩) n n) (.slice (some ⟨gu,0,none⟩) n n) (Zle n R) (Zle n C) F E m G wr∧
  (∃A k c A' k' c',Bk wr go 48 [.bool (canF 1).num.neg,.slice A k c,.bool (canF 1).den.neg,.slice A' k' c']∧Zt wr (.agg #[.bool (canF 1).num.neg,.slice A k c,.bool (canF 1).den.neg,.slice A' k' c']) (canF 1))∧
  Yy U.heap.size wr (.slice (some ⟨gl,0,none⟩) n n) (Zsm n tl (luL R m))∧Yy U.heap.size wr (.slice (some ⟨gu,0,none⟩) n n) (Zsm n tu (luU R C a))
section
variable {U wr w':World} {ge ga gr gc gf g0 g1 gt gl gu go n J tl tu:Nat} {G D R C F E:Nat→Nat} {a m:Mx}
theorem LuM.below [Old] (h:LuM U ge ga gr gc gf g0 g1 gt gl gu go n J tl tu G D R C F E a m wr) (hb:Below wr.heap.size wr w'):LuM U ge ga gr gc gf g0 g1 gt gl gu go n J tl tu G D R C F E a m w':=by
 obtain ⟨h1,h2,⟨A,k,c,A',k',c',h3,h4⟩,h5,h6⟩:=h;exact ⟨h1.below hb,h2.below hb,⟨A,k,c,A',k',c',h3.later hb,h4.below hb⟩,h5.below hb,h6.below hb⟩
theorem Yy.others [Old] {base:Nat} {w w':World} {g:Option Nat} {v:Value} {cols:List (List En)} (h:Yy base w v cols) (ho:Z6 g w w') (hk:Ze 72 w w') (hne:∀b,v.ownBlock=some b→some b≠g):Yy base w' v cols:=by
 obtain ⟨cs,h1,h2⟩:=h;exact ⟨cs,Zgt h1 ho hne,fun k c hc=>by
  obtain ⟨u,hu,hm⟩:=h2 k c hc;exact ⟨u,hu,hm.but hk (by decide) (by decide)⟩⟩
theorem Yy.monoB [Old] {base base':Nat} {w:World} {v:Value} {cols:List (List En)} (h:Yy base w v cols) (hb:base'≤base):Yy base' w v cols:=by
 obtain ⟨cs,h1,h2⟩:=h;exact ⟨cs,Xe h1 hb,h2⟩
theorem Yy.base [Old] {base:Nat} {w:World} {g n c:Nat} {cols:List (List En)} (h:Yy base w (.slice (some ⟨g,0,none⟩) n c) cols):base≤g:=by
 obtain ⟨cs,h1,_⟩:=h;have hn:n=cols.length:=(Vv.of_own h1).len;subst hn;obtain ⟨_,_,h3⟩:=Z8 h1;exact h3
theorem LuM.setL [Old] (h:LuM U ge ga gr gc gf g0 g1 gt gl gu go n J tl tu G D R C F E a m wr) (hne:gl≠gu) (ht:tl < n) {v:Value} (hv:Wp wr v (spV (luL R m tl) n)) (hOU:Old.n≤U.heap.size:=by first | assumption | exact Nat.zero_le _ | omega | ((first | with_reducible refine Zb.le ?_ | with_reducible refine Zb.le1 ?_ | with_reducible refine Zb.le2 ?_ | with_reducible refine Zb.le3 ?_);repeat (first | assumption | exact Zb.up (by assumption) hOl | exact Zb.up (Hid.out (by assumption)) hOl | with_reducible refine Zb.set ?_ _ _ | with_reducible refine Zb.mk_ ?_ _ | with_reducible refine Zb.dr ?_ | with_reducible refine Zb.drN ?_ | refine Zb.up (by assumption) ?_ | refine Zb.up (Hid.out (by assumption)) ?_))):
 LuM U ge ga gr gc gf g0 g1 gt gl gu go n J (tl+1) tu G D R C F E a m (wr.setCell ⟨gl,tl,none⟩ v):=by
 obtain ⟨h1,h2,⟨A,k,c,A',k',c',h3,h4⟩,h5,h6⟩:=h;obtain ⟨h7,hk⟩:=h5.set_ (k:=tl) (by rw [WK];exact ht) hv;rw [Zis ht] at h7;have ho:=Z6.of_set (g:=gl) (i:=tl) (v:=v) (w:=wr);have hb:Below U.heap.size U (wr.setCell ⟨gl,tl,none⟩ v):=by
  obtain ⟨_,_,_,hb⟩:=h1;exact hb.setCell (p:=⟨gl,tl,none⟩) h5.base v
 exact ⟨h1.but hk hb (by decide) (by decide) (by decide) (by decide) (by decide),h2.but hk (by decide) (by decide) (by decide) (by decide) (by decide),⟨A,k,c,A',k',c',hk.bk h3 (by decide),h4.keep (hk.keep (by decide))⟩,h7,h6.others ho hk fun b hb e=>by simp [Value.ownBlock] at hb;injection e with e;omega⟩
theorem LuM.setU [Old] (h:LuM U ge ga gr gc gf g0 g1 gt gl gu go n J tl tu G D R C F E a m wr) (hne:gl≠gu) (ht:tu < n) {v:Value} (hv:Wp wr v (spV (luU R C a tu) n)) (hOU:Old.n≤U.heap.size:=by first | assumption | exact Nat.zero_le _ | omega | ((first | with_reducible refine Zb.le ?_ | with_reducible refine Zb.le1 ?_ | with_reducible refine Zb.le2 ?_ | with_reducible refine Zb.le3 ?_);repeat (first | assumption | exact Zb.up (by assumption) hOl | exact Zb.up (Hid.out (by assumption)) hOl | with_reducible refine Zb.set ?_ _ _ | with_reducible refine Zb.mk_ ?_ _ | with_reducible refine Zb.dr ?_ | with_reducible refine Zb.drN ?_ | refine Zb.up (by assumption) ?_ | refine Zb.up (Hid.out (by assumption)) ?_))):
 LuM U ge ga gr gc gf g0 g1 gt gl gu go n J tl (tu+1) G D R C F E a m (wr.setCell ⟨gu,tu,none⟩ v):=by
 obtain ⟨h1,h2,⟨A,k,c,A',k',c',h3,h4⟩,h5,h6⟩:=h;obtain ⟨h7,hk⟩:=h6.set_ (k:=tu) (by rw [WK];exact ht) hv;rw [Zis ht] at h7;have ho:=Z6.of_set (g:=gu) (i:=tu) (v:=v) (w:=wr);have hb:Below U.heap.size U (wr.setCell ⟨gu,tu,none⟩ v):=by
  obtain ⟨_,_,_,hb⟩:=h1;exact hb.setCell (p:=⟨gu,tu,none⟩) h6.base v
 exact ⟨h1.but hk hb (by decide) (by decide) (by decide) (by decide) (by decide),h2.but hk (by decide) (by decide) (by decide) (by decide) (by decide),⟨A,k,c,A',k',c',hk.bk h3 (by decide),h4.keep (hk.keep (by decide))⟩,h5.others ho hk fun b hb e=>by simp [Value.ownBlock] at hb;injection e with e;omega,h7⟩
end
theorem XA.farT [Old] {U wr:World} {ge ga gr gc n:Nat} {G D:Nat→Nat} {rp cp:List Int} {Q:Mx} (h:XA U ge ga gr gc n G D rp cp Q wr) {g i:Nat} {v:Value} (hk:Ze 23 wr (wr.setCell ⟨g,i,none⟩ v)) (hg:U.heap.size≤g) (h1:g≠ga):XA U ge ga gr gc n G D rp cp Q (wr.setCell ⟨g,i,none⟩ v):=by
 obtain ⟨M,⟨e1,⟨m1,m2,m3⟩,e3,e4,e5⟩,h4,h3⟩:=h;have ho:=Z6.of_set (g:=g) (i:=i) (v:=v) (w:=wr);exact ⟨M,⟨hk.bk e1 (by decide),⟨Zgt m1 ho (fun b hb e=>by simp [Value.ownBlock] at hb;injection e with e;omega),fun r hr=>(m2 r hr).but hk (by decide) (by decide),m3⟩,e3.but hk (by decide),e4.but hk (by decide),e5⟩,h4,h3.setCell (p:=⟨g,i,none⟩) hg v⟩
section
variable {U w w':World} {gf g0 g1 gt n t J:Nat} {v2 v3:Value} {l0 l1:List Int} {F E G:Nat→Nat} {m:Mx}
theorem XL.set2 [Old] (h:XL U gf g0 g1 gt n t J v2 v3 l0 l1 F E m G w) (v:Value) (hOf:Old.n≤gf:=by first | assumption | exact Nat.zero_le _ | omega | ((first | with_reducible refine Zb.le ?_ | with_reducible refine Zb.le1 ?_ | with_reducible refine Zb.le2 ?_ | with_reducible refine Zb.le3 ?_);repeat (first | assumption | exact Zb.up (by assumption) hOl | exact Zb.up (Hid.out (by assumption)) hOl | with_reducible refine Zb.set ?_ _ _ | with_reducible refine Zb.mk_ ?_ _ | with_reducible refine Zb.dr ?_ | with_reducible refine Zb.drN ?_ | refine Zb.up (by assumption) ?_ | refine Zb.up (Hid.out (by assumption)) ?_))):XL U gf g0 g1 gt n t J v v3 l0 l1 F E m G (w.setCell ⟨gf,2,none⟩ v)∧Ze 137 w (w.setCell ⟨gf,2,none⟩ v):=by
 obtain ⟨e1,e2,e3,e4,e5⟩:=h;have hk:=Ze.setCell e1 2 v;exact ⟨⟨e1.set_ 2 v,e2.but hk (by decide),e3.but hk (by decide),hk.own e4 (by decide),e5.but hk (by decide) (by decide)⟩,hk⟩
theorem XL.set3 [Old] (h:XL U gf g0 g1 gt n t J v2 v3 l0 l1 F E m G w) (v:Value) (hOf:Old.n≤gf:=by first | assumption | exact Nat.zero_le _ | omega | ((first | with_reducible refine Zb.le ?_ | with_reducible refine Zb.le1 ?_ | with_reducible refine Zb.le2 ?_ | with_reducible refine Zb.le3 ?_);repeat (first | assumption | exact Zb.up (by assumption) hOl | exact Zb.up (Hid.out (by assumption)) hOl | with_reducible refine Zb.set ?_ _ _ | with_reducible refine Zb.mk_ ?_ _ | with_reducible refine Zb.dr ?_ | with_reducible refine Zb.drN ?_ | refine Zb.up (by assumption) ?_ | refine Zb.up (Hid.out (by assumption)) ?_))):XL U gf g0 g1 gt n t J v2 v l0 l1 F E m G (w.setCell ⟨gf,3,none⟩ v)∧Ze 137 w (w.setCell ⟨gf,3,none⟩ v):=by
 obtain ⟨e1,e2,e3,e4,e5⟩:=h;have hk:=Ze.setCell e1 3 v;exact ⟨⟨e1.set_ 3 v,e2.but hk (by decide),e3.but hk (by decide),hk.own e4 (by decide),e5.but hk (by decide) (by decide)⟩,hk⟩
end
theorem Zcu [Old] (w:World) (hOl:Zb w:=by (repeat (first | assumption | exact Zb.up (by assumption) hOl | exact Zb.up (Hid.out (by assumption)) hOl | with_reducible refine Zb.set ?_ _ _ | with_reducible refine Zb.mk_ ?_ _ | with_reducible refine Zb.dr ?_ | with_reducible refine Zb.drN ?_ | refine Zb.up (by assumption) ?_ | refine Zb.up (Hid.out (by assumption)) ?_))):Calls Tryz.prog 114 #[.int .i64 1,.int .i64 1] w fun e w'=>∃v',e= .returned (.tuple #[v',.int .i64 0])∧Zt w' v' (canF 1)∧Below w.heap.size w w':=by
 have a:=hOl.le;refine (V5 1 1 w (by omega) (by omega) (by omega) (by omega)).mono ?_;rintro e w' ⟨v',h1,h2,h3⟩;rw [if_neg (by omega)] at h1 h2;rw [show Rat.divInt 1 1=1 from Rat.divInt_self' (by decide)] at h2;exact ⟨v',h1,h2,h3⟩
def MkF (U:World) (n:Nat) (D:Nat→Prop) (s1 s2 s3 s4 s5:Value) (w:World):Prop:=
 Below U.heap.size U w∧(D 1→∃g,s1= .slice (some ⟨g,0,none⟩) n n∧g < w.heap.size∧ZI U.heap.size w (.slice (some ⟨g,0,none⟩) n n) (List.replicate n 0))∧
  (D 3→∃g,s2= .slice (some ⟨g,0,none⟩) n n∧g < w.heap.size∧ZI U.heap.size w (.slice (some ⟨g,0,none⟩) n n) (List.replicate n 0))∧
  (D 4→(D 1∧D 3)∧s3= .agg #[s1,s2,.slice none 0 0,.slice none 0 0])∧(D 5→∃g,s4= .pointer (some ⟨g,0,none⟩)∧U.heap.size≤g∧Bk w g 137 [.slice none 0 0,.slice none 0 0,.slice none 0 0,.slice none 0 0])∧(D 1→D 3→s1≠s2)∧s5= .int .i64 (n:Int)
theorem MkF.later {U w w':World} {n:Nat} {D:Nat→Prop} {s1 s2 s3 s4 s5:Value} (h:MkF U n D s1 s2 s3 s4 s5 w) (hb:Below w.heap.size w w'):MkF U n D s1 s2 s3 s4 s5 w':=by
 obtain ⟨h0,h1,h2,h3,h4,h5⟩:=h;have hs:=hb.size;refine ⟨Za h0 hb h0.size,fun d=>?_,fun d=>?_,h3,fun d=>?_,h5⟩
 ·obtain ⟨g,e,k,l⟩:=h1 d;exact ⟨g,e,by omega,l.below hb⟩
 ·obtain ⟨g,e,k,l⟩:=h2 d;exact ⟨g,e,by omega,l.below hb⟩
 ·obtain ⟨g,e,k,l⟩:=h4 d;exact ⟨g,e,k,l.later hb⟩
theorem MkF.set1 {U w:World} {n:Nat} {D:Nat→Prop} {s1 s2 s3 s4 s5:Value} (h:MkF U n D s1 s2 s3 s4 s5 w) (hn:n≤maxLen) (hd:¬D 1):MkF U n (fun k=>D k∨k=1) (.slice (some ⟨w.heap.size,0,none⟩) n n) s2 s3 s4 s5 (w.alloc (.cells (zic n) 3)):=by
 have hz:=ZI.zeros w n hn;obtain ⟨h0,h1,h2,h3,h4,h5,h6⟩:=h.later (Zc w (.cells (zic n) 3));exact ⟨h0,fun _=>⟨_,rfl,by simp,hz.monoB h.1.size⟩,fun d=>h2 (d.resolve_right (by decide)),fun d=>absurd (d.resolve_right (by decide)) fun h7=>hd (h3 h7).1.1,fun d=>h4 (d.resolve_right (by decide)),fun _ e he=>by
  obtain ⟨g,e1,e2,_⟩:=h.2.2.1 (e.resolve_right (by decide));rw [e1] at he;injection he with he;injection he with he;injection he with he;omega,h6⟩
theorem MkF.set3 {U w:World} {n:Nat} {D:Nat→Prop} {s1 s2 s3 s4 s5:Value} (h:MkF U n D s1 s2 s3 s4 s5 w) (hn:n≤maxLen) (hd:¬D 3):MkF U n (fun k=>D k∨k=3) s1 (.slice (some ⟨w.heap.size,0,none⟩) n n) s3 s4 s5 (w.alloc (.cells (zic n) 3)):=by
 have hz:=ZI.zeros w n hn;obtain ⟨h0,h1,h2,h3,h4,h5,h6⟩:=h.later (Zc w (.cells (zic n) 3));exact ⟨h0,fun d=>h1 (d.resolve_right (by decide)),fun _=>⟨_,rfl,by simp,hz.monoB h.1.size⟩,fun d=>absurd (d.resolve_right (by decide)) fun h7=>hd (h3 h7).1.2,fun d=>h4 (d.resolve_right (by decide)),fun e _ he=>by
  obtain ⟨g,e1,e2,_⟩:=h.2.1 (e.resolve_right (by decide));rw [e1] at he;injection he with he;injection he with he;injection he with he;omega,h6⟩
theorem MkF.set4 {U w:World} {n:Nat} {D:Nat→Prop} {s1 s2 s3 s4 s5:Value} (h:MkF U n D s1 s2 s3 s4 s5 w) (d1:D 1) (d3:D 3):MkF U n (fun k=>D k∨k=4) s1 s2 (.agg #[s1,s2,.slice none 0 0,.slice none 0 0]) s4 s5 w:=by
 obtain ⟨h0,h1,h2,h3,h4,h5,h6⟩:=h;exact ⟨h0,fun d=>h1 (d.resolve_right (by decide)),fun d=>h2 (d.resolve_right (by decide)),fun _=>⟨⟨.inl d1,.inl d3⟩,rfl⟩,fun d=>h4 (d.resolve_right (by decide)),fun d e=>h5 (d.resolve_right (by decide)) (e.resolve_right (by decide)),h6⟩
theorem MkF.set5 {U w:World} {n:Nat} {D:Nat→Prop} {s1 s2 s3 s4 s5:Value} (h:MkF U n D s1 s2 s3 s4 s5 w):MkF U n (fun k=>D k∨k=5) s1 s2 s3 (.pointer (some ⟨w.heap.size,0,none⟩)) s5 (w.alloc (.cells #[.slice none 0 0,.slice none 0 0,.slice none 0 0,.slice none 0 0] 137)):=by
 have hz:=Bk.new w 137 [.slice none 0 0,.slice none 0 0,.slice none 0 0,.slice none 0 0];obtain ⟨h0,h1,h2,h3,h4,h5,h6⟩:=h.later (Zc w (.cells #[.slice none 0 0,.slice none 0 0,.slice none 0 0,.slice none 0 0] 137));exact ⟨h0,fun d=>h1 (d.resolve_right (by decide)),fun d=>h2 (d.resolve_right (by decide)),fun d=>by
  obtain ⟨⟨a,b⟩,e⟩:=h3 (d.resolve_right (by decide));exact ⟨⟨.inl a,.inl b⟩,e⟩,fun _=>⟨_,rfl,h.1.size,hz⟩,fun d e=>h5 (d.resolve_right (by decide)) (e.resolve_right (by decide)),h6⟩
def Yfj (U:World) (n:Nat) (s:Value) (wx:World):Prop:=
 ∃gf g0 g1,s= .pointer (some ⟨gf,0,none⟩)∧g0≠g1∧Bk wx gf 137 [.slice (some ⟨g0,0,none⟩) n n,.slice (some ⟨g1,0,none⟩) n n,.slice none 0 0,.slice none 0 0]∧
  ZI U.heap.size wx (.slice (some ⟨g0,0,none⟩) n n) (List.replicate n 0)∧ZI U.heap.size wx (.slice (some ⟨g1,0,none⟩) n n) (List.replicate n 0)∧Below U.heap.size U wx∧U.heap.size≤gf
def Yfk [Old] (n K:Nat) (Cs:Mx) (w:World) (o:Ending) (w':World):Prop:=
 Below w.heap.size w w'∧((∃(R C:Nat→Nat) (L Um:Mx) (s0 s1 s2 s3:Value),o= .returned (.tuple #[.agg #[s0,s1,s2,s3],.bool true])∧Znn n (5^n * K) (trM Cs) R C L Um∧ZI w.heap.size w' s0 (Zle n R)∧ZI w.heap.size w' s1 (Zle n C)∧Yy w.heap.size w' s2 (vcL n L)∧Yy w.heap.size w' s3 (vcL n Um))∨
  (o= .returned (.tuple #[.agg #[.slice none 0 0,.slice none 0 0,.slice none 0 0,.slice none 0 0],.bool false])∧¬Xf n Cs))
end
section
attribute [local irreducible] YQ
theorem Zbe [Old] (v:Value) (n K:Nat) (Cs:Mx) (w:World) (h:Xz w v (vcL n Cs)) (hn:n≤7) (hK:1≤K) (hE:5^n * K≤4000000) (hs:∀r c,r < n→c < n→Sz K (Cs c r)) (hOl:Zb w:=by (repeat (first | assumption | exact Zb.up (by assumption) hOl | exact Zb.up (Hid.out (by assumption)) hOl | with_reducible refine Zb.set ?_ _ _ | with_reducible refine Zb.mk_ ?_ _ | with_reducible refine Zb.dr ?_ | with_reducible refine Zb.drN ?_ | refine Zb.up (by assumption) ?_ | refine Zb.up (Hid.out (by assumption)) ?_))):
 Calls Tryz.prog 116 #[v] w (Yfk n K Cs w):=by
 have hg:=hOl.le;obtain ⟨A,c,rfl,gn,hu⟩:=h.shape;rw [XR] at h gn ⊢;have HV:=JZ h;have fs:=JZ hs;have HK:=JZ hK;have HE:=JZ hE;have h6:=Zvr n (by omega);have h7:=Zfc n (by omega);obtain ⟨W,hW,b4,O⟩:∃W,w.alloc (.cells #[.slice none 0 0,.slice none 0 0,.slice none 0 0,.slice none 0 0] 137)=W∧Bk W w.heap.size 137 [.slice none 0 0,.slice none 0 0,.slice none 0 0,.slice none 0 0]∧Below w.heap.size w W:=⟨_,rfl,Bk.new w _ _,Zc w _⟩;have ag:=Zb.up O hOl;have e4:=JZ b4;have bt:Hid (W.heap.size≤W.heap.size):=JZ (JY _);clear h hs b4 hK hE;go_enter Tryz.func116,Tryz.ntmps116
 go_upto_region 2 with (fail)
 clear hW
 go_cut [5] (fun s5 wx=>Yfh W n s5 wx)
 case first=>
  refine YC 9 (.go 0 (.go 1 (.go 3 (.go 5 (.bag [2,4,6,7,8] (.go 9 .done)))))) (by kernel_rfl) (by kernel_rfl) ?_;repeat ((first | (refine ZJ (v:=?_) rfl rfl rfl ?_ ?_;rotate_left;(· (intro _ u;go_simp;(try go_bits);(try with_reducible rfl)))) | (refine ZT (v:=?_) rfl rfl rfl ?_ ?_;rotate_left;(· (intro _ u;go_simp;(try go_bits);(try with_reducible rfl)))) | refine ZU rfl rfl rfl ?_ | refine ZK rfl rfl rfl (by assumption) ?_);(try simp only [Act.put,pu1,pu2,pu3,pu4,pu5,pu6]))
  refine Zlm 29 31 33 34 5 _ _ _ _ _ (MkR W n) rfl (by decide) ⟨Zf W,fun h=>h.elim,fun h=>h.elim,fun h=>h.elim,fun h=>h.elim,fun h=>h.elim,fun h=>h.elim⟩ (List.forall_mem_cons.2 ⟨?_,List.forall_mem_cons.2 ⟨?_,List.forall_mem_cons.2 ⟨?_,List.forall_mem_cons.2 ⟨?_,List.forall_mem_cons.2 ⟨?_,fun _ h=>absurd h List.not_mem_nil⟩⟩⟩⟩⟩) ?_
  ·refine X7.mk rfl fun D s1 s2 s3 s4 s5 wx b d hnd o hR KR hKR=>?_
   simp only [Zfp,Act.put,List.setIfInBounds_toArray,List.set_cons_zero,List.set_cons_succ] at d;subst d;go_simp;have hN:=hR.set2 (by unfold maxLen;omega) hnd;exact hKR.out _ _ (Or.inr hN.1) ⟨_,s2,s3,s4,s5,rfl,hN⟩
  ·refine X7.mk rfl fun D s1 s2 s3 s4 s5 wx b d hnd o hR KR hKR=>?_
   simp only [Zfp,Act.put,List.setIfInBounds_toArray,List.set_cons_zero,List.set_cons_succ] at d;subst d;go_simp;have hN:=hR.set4 (by unfold maxLen;omega) hnd;exact hKR.out _ _ (Or.inr hN.1) ⟨s1,_,s3,s4,s5,rfl,hN⟩
  ·refine X7.mk rfl fun D s1 s2 s3 s4 s5 wx b d hnd o hR KR hKR=>?_
   simp only [Zfp,Act.put,List.setIfInBounds_toArray,List.set_cons_zero,List.set_cons_succ] at d;subst d;go_simp;have hN:=hR.set6 (by unfold maxLen;omega) hnd;exact hKR.out _ _ (Or.inr hN.1) ⟨s1,s2,_,s4,s5,rfl,hN⟩
  ·refine X7.mk rfl fun D s1 s2 s3 s4 s5 wx b d hnd o hR KR hKR=>?_
   have d2:D 2:=o 2 (by decide) (by kernel_rfl);have d4:D 4:=o 4 (by decide) (by kernel_rfl);have d6:D 6:=o 6 (by decide) (by kernel_rfl);clear o;obtain ⟨ga,rfl,_⟩:=hR.2.1 d2;obtain ⟨gr,rfl,_⟩:=hR.2.2.1 d4;obtain ⟨gc,rfl,_⟩:=hR.2.2.2.1 d6;simp only [Zfp,Act.put,List.setIfInBounds_toArray,List.set_cons_zero,List.set_cons_succ] at d;subst d;go_simp;have hN:=hR.set7 d2 d4 d6;exact hKR.out _ _ (Or.inr hN.1) ⟨_,_,_,_,s5,rfl,hN⟩
  ·refine X7.mk rfl fun D s1 s2 s3 s4 s5 wx b d hnd o hR KR hKR=>?_
   simp only [Zfp,Act.put,List.setIfInBounds_toArray,List.set_cons_zero,List.set_cons_succ] at d;subst d;go_simp;have hN:=hR.set8;exact hKR.out _ _ (Or.inr hN.1) ⟨s1,s2,s3,s4,_,rfl,hN⟩
  ·intro D s1 s2 s3 s4 s5 wx B hR;obtain ⟨hb,p1,p2,p3,p4,p5,p6⟩:=hR;obtain ⟨ga,rfl,hA⟩:=p1 (B 2 (by decide));obtain ⟨gr,rfl,_,hI⟩:=p2 (B 4 (by decide));obtain ⟨gc,rfl,_,hJ⟩:=p3 (B 6 (by decide));obtain rfl:=(p4 (B 7 (by decide))).2;obtain ⟨ge,rfl,cd,hB⟩:=p5 (B 8 (by decide));have cz:=p6 (B 4 (by decide)) (B 6 (by decide));obtain ⟨t0,t1,t2,t3⟩:=hB.four;obtain ⟨f0,f1,f2,f3⟩:=hB.fourF;simp only [Zfp,Act.put,List.setIfInBounds_toArray,List.set_cons_zero,List.set_cons_succ];refine ZB rfl rfl (fun KR hKR=>?_);go_simp;refine hKR.out _ _ (Or.inl (by decide)) ?_;clear hKR KR;refine Yl ?_;go_wp2_with fail
   go_meet
   have hh:Old.n≤ge:=JW ag.le cd;have k1:=hB.but4 (.int .i64 (n:Int)) (.slice (some ⟨ga,0,none⟩) n n) (.slice (some ⟨gr,0,none⟩) n n) (.slice (some ⟨gc,0,none⟩) n n);exact ⟨ge,ga,gr,gc,rfl,fun e=>cz (by rw [e]),hB.set4 _ _ _ _,k1.own hA (by decide),hI.but k1 (by decide),hJ.but k1 (by decide),ZE hb cd _ _ _ _,cd⟩
 case rest=>
  obtain ⟨ge,ga,gr,gc,rfl,cu,hB,hA,hI,hJ,l,cd⟩:=hcut;have e5:Ydh W ge ga gr gc n 0 wc:=⟨fun _=>0,fun _=>0,hB,by rw [Zln];exact hA,fun r hr=>absurd hr (by omega),fun r s hr=>absurd hr (by omega),by rw [Zlo];exact hI,by rw [Zlo];exact hJ,l⟩;have cl:=WC n (by omega);clear hB hA hI hJ l;go_wp2
  go_loopw [36] (fun x wr=>∃i:Nat,i≤n∧x= .int .i64 i∧Ydh W ge ga gr gc n i wr) (fun x _=>n - (intOf x).toNat)
  case atStart=>exact ⟨0,by omega,rfl,e5⟩
  case round=>
   clear e5;obtain ⟨i,hi,rfl,G,D,hB,hA,hR,af,hI,hJ,l⟩:=hrel;rcases JX i n with hil | hil
   ·have ft:(i:Int) < n:=(by omega);obtain ⟨_,b1,_,_⟩:=hB.four;obtain ⟨_,_,gp⟩:=Z8 hA;have HA:=JZ hA;have HB:=JZ hB;have e7:=JZ hR;have fu:=JZ af;have HI:=JZ hI;have HJ:=JZ hJ;have F:=Zc wr.drew (.cells (zfc n) 48);have d0:=Yd.zeros wr.drew n (by unfold maxLen;omega);obtain ⟨W1,ce⟩:∃W1,wr.drew.alloc (.cells (zfc n) 48)=W1:=⟨_,rfl⟩;rw [ce] at F d0;have Y:Below wr.heap.size wr W1:=Za (Zf wr) F (JY _);obtain ⟨m0,m1⟩:=ZP (own_below hA Y) (Zqb (G:=G) (D:=D) hil);clear hA hB hR af hI hJ F
    go_upto_region 6 with (fail)
    have C1:=Zm b1;have y:=Zf wr;clear b1;refine Zp 6 [0,1,2,3,4,5,6] (by kernel_rfl) (by kernel_rfl) ?_;repeat ((first | (refine Zd (v:=?_) rfl rfl rfl ?_ ?_;rotate_left;(· (intro _ u;go_simp;(try go_bits);(try with_reducible rfl)))) | (refine Zj (v:=?_) rfl rfl rfl ?_ ?_;rotate_left;(· (intro _ u;go_simp;(try go_bits);(try with_reducible rfl)))) | refine Zk rfl rfl rfl ?_);(try simp only [Act.put,pu1,pu2,pu3,pu4,pu5,pu6]))
    refine Zh rfl rfl (fun KR hKR=>?_);go_simp;refine hKR.out _ _ (Or.inr Y) ?_;clear hKR KR ce;(try simp only [Act.put,pu1,pu2,pu3,pu4,pu5,pu6]);repeat ((first | (refine Zd (v:=?_) rfl rfl rfl ?_ ?_;rotate_left;(· (intro _ u;go_simp;(try go_bits);(try with_reducible rfl)))) | (refine Zj (v:=?_) rfl rfl rfl ?_ ?_;rotate_left;(· (intro _ u;go_simp;(try go_bits);(try with_reducible rfl)))) | refine Zk rfl rfl rfl ?_);(try simp only [Act.put,pu1,pu2,pu3,pu4,pu5,pu6]))
    refine Zh rfl rfl (fun KR hKR=>?_);go_simp;refine hKR.out _ _ (Or.inl (by decide)) ?_;clear hKR KR;(try simp only [Act.put,pu1,pu2,pu3,pu4,pu5,pu6]);refine Zx ?_;clear C1;have aw:=own_below HA.out Y;have ax:=Xi aw i (.slice (some ⟨wr.heap.size,0,none⟩) n n) (by rw [XT];exact hil);rw [Zqc hil] at ax;obtain ⟨_,ew,gs⟩:=Z8 aw;have h8:Old.n≤ga:=JW ag.le gs;have kb:=Ze.setCell ew i (.slice (some ⟨wr.heap.size,0,none⟩) n n);have S:=kb.bk (HB.out.later Y) (by decide);have bu:=(HI.out.below Y).but kb (by decide);have bv:=(HJ.out.below Y).but kb (by decide);have J:=(Za l Y l.size).setCell (p:=⟨ga,i,none⟩) gp (.slice (some ⟨wr.heap.size,0,none⟩) n n);have a5:∀r,r < i+1→Yd W.heap.size (W1.setCell ⟨ga,i,none⟩ (.slice (some ⟨wr.heap.size,0,none⟩) n n)) (Xx n (WF G i wr.heap.size) (WF D i n) r) (rfL n fun _=>zeroF):=fun r hr=>by
     by_cases e:r=i
     ·subst e;unfold Xx;rw [ZO,ZO,← Zbb];exact (Yd.monoB d0 l.size).but kb (by decide) (by decide)
     ·unfold Xx;rw [ZF (by omega),ZF (by omega)];exact ((e7.out r (by omega)).below Y).but kb (by decide) (by decide)
    have cm:∀r s,r < i+1→s < i+1→WF G i wr.heap.size r=WF G i wr.heap.size s→r=s:=fun r s hr hs e=>by
     have e8:∀q,q < i→G q < wr.heap.size:=fun q hq=>by
      obtain ⟨g,c,hv,_,h2,_⟩:=(e7.out q hq).shape (by rw [Zw];omega);unfold Xx at hv;injection hv with e1;injection e1 with e1;injection e1 with e1;omega
     by_cases e1:r=i
     ·by_cases e2:s=i
      ·omega
      ·rw [e1,ZO,ZF (show s < i by omega)] at e;have:=e8 s (by omega);omega
     ·by_cases e2:s=i
      ·rw [e2,ZO,ZF (show r < i by omega)] at e;have:=e8 r (by omega);omega
      ·rw [ZF (show r < i by omega),ZF (show s < i by omega)] at e;exact fu.out r s (by omega) (by omega) e
    have fv:=JZ a5;have ea:=JZ cm;clear aw ew kb m0 m1 Y d0 a5 cm l;generalize W1.setCell ⟨ga,i,none⟩ (.slice (some ⟨wr.heap.size,0,none⟩) n n)=W3 at *;obtain ⟨_,_,b2,b3⟩:=S.four;obtain ⟨x0,x1,_,_⟩:=bu.at_ (Zio hil);obtain ⟨y0,y1,_,_⟩:=bv.at_ (Zio hil);obtain ⟨ex,k3⟩:=bu.set_ (k:=i) (z:= -1) (by rw [Xt];exact hil) (by omega) (by omega);have d5:=bv.others (Z6.of_set (g:=gr) (i:=i) (v:= .int .i64 (-1)) (w:=W3)) (fun b hb e=>by simp [Value.ownBlock] at hb;injection e with e;omega);obtain ⟨aq,k4⟩:=d5.set_ (k:=i) (z:= -1) (by rw [Xt];exact hil) (by omega) (by omega);have d7:=ex.others (Z6.of_set (g:=gc) (i:=i) (v:= .int .i64 (-1)) (w:=W3.setCell ⟨gr,i,none⟩ (.int .i64 (-1)))) (fun b hb e=>by simp [Value.ownBlock] at hb;injection e with e;omega);rw [Zzg hil] at d7 aq;have k5:=k3.trans k4;have a2:=(J.setCell (p:=⟨gr,i,none⟩) bu.base (.int .i64 (-1))).setCell (p:=⟨gc,i,none⟩) bv.base (.int .i64 (-1));have fw:Ydh W ge ga gr gc n (i+1) ((W3.setCell ⟨gr,i,none⟩ (.int .i64 (-1))).setCell ⟨gc,i,none⟩ (.int .i64 (-1))):=
     ⟨_,_,k5.bk S (by decide),k5.own ax (by decide),fun r hr=>(fv.out r hr).but k5 (by decide) (by decide),ea.out,d7,aq,a2⟩
    obtain ⟨hw,hx,_,_⟩:=d5.at_ (Zio hil);clear ax bu bv ex d5 d7 aq k3 k4 k5 J a2 S;go_wp2;go_roundw
    case rel=>exact ⟨i+1,by omega,by go_num,fw⟩
    case measure=>simp [intOf];omega
   ·obtain rfl:n=i:=by omega
    have hM:Zde W.heap.size wr (.slice (some ⟨ga,0,none⟩) n n) n n (fun _ _=>zeroF) G D:=⟨by rw [← Zqa];exact hA,hR,af⟩;rw [Zzh,← Zvw (R:=fun _=>0)] at hI hJ;have hF:XA W ge ga gr gc n G D (VL n 0 fun _=>0) (VL n 0 fun _=>0) (UB (vcL n Cs) 0 0) wr:=⟨_,⟨hB,hM,hI,hJ,XU,XU⟩,fun i j _ _=> .inr ⟨rfl,Znw _ _ _⟩,l⟩;clear hA hR af hI hJ hM hB cl l;go_wp2
    go_loopw [56] (fun x wr=>∃k:Nat,k≤n∧x= .int .i64 k∧XA W ge ga gr gc n G D (VL n 0 fun _=>0) (VL n 0 fun _=>0) (UB (vcL n Cs) k 0) wr) (fun x _=>n - (intOf x).toNat)
    case atStart=>exact ⟨0,by omega,rfl,hF⟩
    case round=>
     clear hF;obtain ⟨k,hk,rfl,hF⟩:=hrel;rcases JX k n with hkl | hkl
     ·obtain ⟨bc,oc,A1,c1,rfl,x0,hL⟩:=HV.out.vc (JR _ _) hkl;have I:=Za O hF.choose_spec.2.2 O.size;have y0:=Zg I x0;have eb:(k:Int) < n:=(by omega);have ec:0 < n:=(by omega);obtain ⟨ln,dl⟩:∃ln,ln=(spV (Cs k) n).length:=⟨_,rfl⟩;have ed:=JZ dl;rw [← dl] at x0 y0 hL;obtain ⟨-,ey,ez⟩:=hL.len;have HL:=JZ hL;clear hL dl I x0;go_wp2;clear y0
      go_loopw [63] (fun x wr=>∃t:Nat,t≤ln∧x= .int .i64 t∧XA W ge ga gr gc n G D (VL n 0 fun _=>0) (VL n 0 fun _=>0) (UB (vcL n Cs) k t) wr) (fun x _=>ln - (intOf x).toNat)
      case atStart=>exact ⟨0,by omega,rfl,hF⟩
      case round=>
       clear hF;obtain ⟨t,ht,rfl,hF⟩:=hrel;rcases JX t ln with htl | htl
       ·obtain ⟨e,he⟩:=YJ (es:=spV (Cs k) n) (i:=t) (by rw [← ed.out];exact htl);obtain ⟨i0,be,f4,f5,f6⟩:=UV he;obtain ⟨b,hy,A2,n2,c2,A3,n3,c3,rfl,_,⟨x0,x1,x2,x3,x4⟩,f7⟩:=HL.out.elem (Za O hF.choose_spec.2.2 O.size) he;have fx:Hid (∀i j,i < n→j < n→UB (vcL n Cs) k (t+1) i j=if i=i0∧j=k then Cs k i0 else UB (vcL n Cs) k t i j):=JZ fun i j _ _=>by
         rw [Zsh (Ud hkl) (Zia _ _) he f4,f5,Zu]
        obtain ⟨ei,f⟩:=e;simp only at *;subst f4 f5;obtain ⟨W1,ce,hV,dm⟩:=Zgf wr (.int .i64 (i0:Int)) (.bool (canF (Cs k i0)).num.neg) (.slice A2 n2 c2) (.bool (canF (Cs k i0)).den.neg) (.slice A3 n3 c3);obtain ⟨v0,v1,v2,v3,v4⟩:=hV.five;have Z:=hF.below dm;have ee:=f7.below dm;obtain ⟨M,⟨hB,hM,_⟩,_⟩:=id Z;obtain ⟨_,b1,_,_⟩:=hB.four;obtain ⟨m1,_⟩:=hM.cellAt be;unfold Xx at m1;obtain ⟨l1,l2,l3,l4⟩:=hM.lt be ec;obtain ⟨_,_,_,_,_,_,⟨c0,gv,gw,gx⟩,_⟩:=hM.at_ be hkl;obtain ⟨f0,f1,f2,f3⟩:=hM.frozen be hkl;have ft:(i0:Int) < n:=(by omega);clear hF f7 he f6 hM hB hV dm
        go_upto_region 15 with (fail)
        clear ce;have C0:=Zm v0;have C1:=Zm v1;have C2:=Zm v2;have C3:=Zm v3;have C4:=Zm v4;have D1:=Zm b1;have D2:=Zm m1;have y:=Zf W1;clear v0 v1 v2 v3 v4 x0 x1 x2 x3 x4 b1 m1;refine Zp 10 [0,1,2,3,4,5,6,7,8,9,10] (by kernel_rfl) (by kernel_rfl) ?_;repeat ((first | (refine Zd (v:=?_) rfl rfl rfl ?_ ?_;rotate_left;(· (intro _ u;go_simp;(try go_bits);(try with_reducible rfl)))) | (refine Zj (v:=?_) rfl rfl rfl ?_ ?_;rotate_left;(· (intro _ u;go_simp;(try go_bits);(try with_reducible rfl)))) | refine Zk rfl rfl rfl ?_);(try simp only [Act.put,pu1,pu2,pu3,pu4,pu5,pu6]))
        refine Zh rfl rfl (fun KR hKR=>?_);go_simp;refine hKR.out _ _ (Or.inl (by decide)) ?_;clear hKR KR;(try simp only [Act.put,pu1,pu2,pu3,pu4,pu5,pu6]);refine Zx ?_;clear C0 C1 C2 C3 C4 D1 D2;have ah:=(Z.below y).setM be hkl (ee.below y) fx.out;clear Z ee y c0 gv gw gx f0 f1 f2 f3;go_wp2;go_roundw
        case rel=>exact ⟨t+1,by omega,by go_num,ah⟩
        case measure=>simp [intOf];omega
       ·obtain rfl:ln=t:=by omega
        have ah:=hF.congr (Q':=UB (vcL n Cs) (k+1) 0) fun i j _ _=>by rw [ed.out];exact Zsi (Ud hkl)
        clear hF;go_wp2;go_roundw
        case rel=>exact ⟨k+1,by omega,by go_num,ah⟩
        case measure=>simp [intOf];omega
     ·obtain rfl:n=k:=by omega
      go_upto_region 18 with (fail)
      go_cut [11] (fun s11 wx=>Yfj wr n s11 wx)
      case first=>
       refine YC 6 (.go 0 (.go 2 (.bag [1,3,4,5] (.go 6 .done)))) (by kernel_rfl) (by kernel_rfl) ?_;repeat ((first | (refine ZJ (v:=?_) rfl rfl rfl ?_ ?_;rotate_left;(· (intro _ u;go_simp;(try go_bits);(try with_reducible rfl)))) | (refine ZT (v:=?_) rfl rfl rfl ?_ ?_;rotate_left;(· (intro _ u;go_simp;(try go_bits);(try with_reducible rfl)))) | refine ZU rfl rfl rfl ?_ | refine ZK rfl rfl rfl (by assumption) ?_);(try simp only [Act.put,pu1,pu2,pu3,pu4,pu5,pu6]))
       refine Zlm 80 82 83 11 4 _ _ _ _ _ (MkF wr n) rfl (by decide) ⟨Zf wr,fun h=>h.elim,fun h=>h.elim,fun h=>h.elim,fun h=>h.elim,fun h=>h.elim,rfl⟩ (List.forall_mem_cons.2 ⟨?_,List.forall_mem_cons.2 ⟨?_,List.forall_mem_cons.2 ⟨?_,List.forall_mem_cons.2 ⟨?_,fun _ h=>absurd h List.not_mem_nil⟩⟩⟩⟩) ?_
       ·refine X7.mk rfl fun D s1 s2 s3 s4 s5 wx b d hnd o hR KR hKR=>?_
        obtain rfl:=hR.2.2.2.2.2.2;simp only [Zfp,Act.put,List.setIfInBounds_toArray,List.set_cons_zero,List.set_cons_succ] at d;subst d;go_simp;have hN:=hR.set1 (by unfold maxLen;omega) hnd;exact hKR.out _ _ (Or.inr hN.1) ⟨_,s2,s3,s4,_,rfl,hN⟩
       ·refine X7.mk rfl fun D s1 s2 s3 s4 s5 wx b d hnd o hR KR hKR=>?_
        obtain rfl:=hR.2.2.2.2.2.2;simp only [Zfp,Act.put,List.setIfInBounds_toArray,List.set_cons_zero,List.set_cons_succ] at d;subst d;go_simp;have hN:=hR.set3 (by unfold maxLen;omega) hnd;exact hKR.out _ _ (Or.inr hN.1) ⟨s1,_,s3,s4,_,rfl,hN⟩
       ·refine X7.mk rfl fun D s1 s2 s3 s4 s5 wx b d hnd o hR KR hKR=>?_
        obtain rfl:=hR.2.2.2.2.2.2;have d1:D 1:=o 1 (by decide) (by kernel_rfl);have d3:D 3:=o 3 (by decide) (by kernel_rfl);clear o;obtain ⟨i1,rfl,_⟩:=hR.2.1 d1;obtain ⟨i2,rfl,_⟩:=hR.2.2.1 d3;simp only [Zfp,Act.put,List.setIfInBounds_toArray,List.set_cons_zero,List.set_cons_succ] at d;subst d;go_simp;have hN:=hR.set4 d1 d3;exact hKR.out _ _ (Or.inr hN.1) ⟨_,_,_,s4,_,rfl,hN⟩
       ·refine X7.mk rfl fun D s1 s2 s3 s4 s5 wx b d hnd o hR KR hKR=>?_
        obtain rfl:=hR.2.2.2.2.2.2;simp only [Zfp,Act.put,List.setIfInBounds_toArray,List.set_cons_zero,List.set_cons_succ] at d;subst d;go_simp;have hN:=hR.set5;exact hKR.out _ _ (Or.inr hN.1) ⟨s1,s2,s3,_,_,rfl,hN⟩
       ·intro D s1 s2 s3 s4 s5 wx B hR;obtain ⟨hb,p1,p2,p3,p4,p5,rfl⟩:=hR;obtain ⟨g0,rfl,_,hI⟩:=p1 (B 1 (by decide));obtain ⟨g1,rfl,_,hJ⟩:=p2 (B 3 (by decide));obtain rfl:=(p3 (B 4 (by decide))).2;obtain ⟨gf,rfl,bf,hB⟩:=p4 (B 5 (by decide));have cz:=p5 (B 1 (by decide)) (B 3 (by decide));obtain ⟨t0,t1,t2,t3⟩:=hB.four;obtain ⟨f0,f1,f2,f3⟩:=hB.fourF;simp only [Zfp,Act.put,List.setIfInBounds_toArray,List.set_cons_zero,List.set_cons_succ];refine ZB rfl rfl (fun KR hKR=>?_);go_simp;refine hKR.out _ _ (Or.inl (by decide)) ?_;clear hKR KR;refine Yl ?_;go_wp2_with fail
        go_meet
        have fy:Old.n≤gf:=JW (Zb.up hF.choose_spec.2.2 ag).le bf;have k1:=hB.but4 (.slice (some ⟨g0,0,none⟩) n n) (.slice (some ⟨g1,0,none⟩) n n) (.slice none 0 0) (.slice none 0 0);exact ⟨gf,g0,g1,rfl,fun e=>cz (by rw [e]),hB.set4 _ _ _ _,hI.but k1 (by decide),hJ.but k1 (by decide),ZE hb bf _ _ _ _,bf⟩
      case rest=>
       obtain ⟨gf,g0,g1,rfl,cv,hB,hI,hJ,l,bf⟩:=hcut;have Z:=hF.below l;obtain ⟨_,⟨bw,f8,a4,dn,ey,ez⟩,_,P⟩:=id hF;have ai:Hid (W.heap.size≤g0∧wr.heap.size≤g0∧gr < wr.heap.size∧gc < wr.heap.size):=JZ ⟨JW P.size hI.base,hI.base,Ue a4.1 gr rfl,Ue dn.1 gc rfl⟩;have aj:Hid (W.heap.size≤g1∧wr.heap.size≤g1∧gr < wr.heap.size∧gc < wr.heap.size):=JZ ⟨JW P.size hJ.base,hJ.base,Ue a4.1 gr rfl,Ue dn.1 gc rfl⟩;have g2:=Ue f8.1 ga rfl;have d8:Hid (W.heap.size≤gf):=JZ (JW P.size bf);have fy:Old.n≤gf:=JW ag.le d8.out;have ef:=l.size;have eg:Hid (W.heap.size≤wc.heap.size∧ga < wc.heap.size):=JZ ⟨by have:=P.size;omega,by omega⟩;have hz:=Zpz 23 wc n (by unfold maxLen;omega);have F:=Zc wc (.cells (zvc n) 23);have ay:Ydm W ge ga gr gc gf g0 g1 wc.heap.size n K 0 G D (trM Cs) (wc.alloc (.cells (zvc n) 23)):=by
        refine ⟨trM Cs,fun _ _=>0,fun _=>0,fun _=>0,fun _=>0,fun _=>0,(Z.below F).congr fun i j hi hj=>?_,UT.start _ _ _ _ _,fun i j hi hj=>by rw [Nat.pow_zero,Nat.one_mul];exact fs.out i j hi hj,fun s i hs=>absurd hs (by omega),hB.later F,?_,?_,?_,fun _ _=>zeroF,fun s hs=>absurd hs (by omega)⟩
        ·rw [Zvv hj,show (vcL n Cs).getD j []=spV (Cs j) n by simp [List.getD,Ud hj],Zgj,if_pos hi];rfl
        ·rw [← Zlr];exact (hI.below F).monoB P.size
        ·rw [← Zlr];exact (hJ.below F).monoB P.size
        ·rw [Zln];exact Xe hz (JW P.size ef)
       clear hB hI hJ l Z bw f8 a4 dn ey ez P hz F hF g2 ef;go_wp2;generalize wc.heap.size=gt at *;generalize wc.alloc (.cells (zvc n) 23)=W5 at *
       go_loopw [87] (fun x wr=>∃t:Nat,t≤n∧x= .int .i64 t∧Ydm W ge ga gr gc gf g0 g1 gt n K t G D (trM Cs) wr) (fun x _=>n - (intOf x).toNat)
       case atStart=>exact ⟨0,by omega,rfl,ay⟩
       case round=>
        clear ay;obtain ⟨t,ht,rfl,hL⟩:=hrel;rcases JX t n with htl | htl
        ·obtain ⟨a,m,R,C,Ff,E,hF,bg,bh,bi,hR⟩:=hL;obtain ⟨M,hE,hT,hb⟩:=id hF;have HF:=JZ hF;have HR:=JZ hR;have L:=JZ bg;have az:=JZ bh;have d9:=JZ bi;have HT:=JZ hT;have g3:Hid (∀i,i < n→G i < wr.heap.size):=JZ fun i hi=>(hE.2.1.lt hi (by omega)).2.1
         have a3:=Za O hb O.size;have g4:(t:Int) < n:=(by omega);clear hF bg bh bi hR hT hb;go_wp2_with fail;refine (Zsg W.heap.size ge n _ _ _ M G D _ _ _ hE (by omega)).mono ?_;rintro _ w1 ⟨r0,c0,ok,rfl,dz,e0,ae⟩;clear hE
         cases ok with
         | false=>
          have o:¬Xf n Cs:=L.out.dep htl fun i j hi hj h1 h2=>by
           have hz:=e0 rfl i j hi hj;unfold Zse at hz;rw [Uf hi,Uf hj,decide_eq_true (Uw.2 h1),decide_eq_true (Uw.2 h2)] at hz;simp only [Bool.true_and,decide_eq_false_iff_not] at hz;by_cases e:a i j=0
           ·exact e
           ·exact absurd ((HT.out i j hi hj).len.2 e) hz
          have da:=e4.out.later (Za (HF.out.choose_spec.2.2.mono bt.out) ae (JW bt.out HF.out.choose_spec.2.2.size));have F:=Za a3 ae a3.size;obtain ⟨t0,t1,t2,t3⟩:=da.four;obtain ⟨f0,f1,f2,f3⟩:=da.fourF;clear dz e0 a3;go_wp2;refine YR Tryz.results116 Tryz.underlying137 (by kernel_rfl) rfl (da.set4 _ _ _ _) rfl ?_;exact ⟨ZE F (JY _) _ _ _ _,.inr ⟨rfl,o⟩⟩
         | true=>
          obtain ⟨r,c,rfl,rfl,hr,hc,bj⟩:=dz rfl;unfold Zse at bj;rw [Uf hr,Uf hc,Bool.and_eq_true,Bool.and_eq_true,decide_eq_true_eq,decide_eq_true_eq,decide_eq_true_eq] at bj;obtain ⟨f9,fa,fb⟩:=bj;have eh:=JZ (Uw.1 f9);have ej:=JZ (Uw.1 fa);have HP:=JZ ((HT.out r c hr hc).len.1 fb);have g5:(r:Int) < n:=(by omega);have g6:(c:Int) < n:=(by omega);clear f9 fa fb dz e0;have Z:=HF.out.below ae;have ak:=HR.out.below ae;obtain ⟨a5,k2⟩:=ak.set0 cv (k:=t) (z:=(r:Int)) (by rw [VE];exact htl) (by omega) (by omega);obtain ⟨a6,k3⟩:=a5.set1 cv (k:=t) (z:=(c:Int)) (by rw [VE];exact htl) (by omega) (by omega);rw [Zqg htl] at a5 a6;rw [Zqg htl] at a6;have ah:=Z.farI k2 ai.out.1 (by have:=ai.out;omega) (by have:=ai.out;omega);have b0:=ah.farI k3 aj.out.1 (by have:=aj.out;omega) (by have:=aj.out;omega);obtain ⟨y0,y1,_,_⟩:=ak.2.1.at_ (Zdg htl);obtain ⟨z0,z1,_,_⟩:=ak.2.2.1.at_ (Zdg htl);have ek:=ak.1;have bw:=a5.1;have b4:=a6.1;obtain ⟨s0,s1,_,_⟩:=ak.1.four;have b0:=b0.below (Zf _);have a6:=a6.below (Zf _);clear Z ak a5 ah k2 k3
          go_upto_region 26 with (fail)
          clear s0 s1;have C0:∀w',Bk w' gf 137 [.slice (some ⟨g0,0,none⟩) n n,.slice (some ⟨g1,0,none⟩) n n,.slice none 0 0,.slice none 0 0]→w'.cell? ⟨gf,0,none⟩=some (.slice (some ⟨g0,0,none⟩) n n):=fun w' h=>h.four.1
          have C1:∀w',Bk w' gf 137 [.slice (some ⟨g0,0,none⟩) n n,.slice (some ⟨g1,0,none⟩) n n,.slice none 0 0,.slice none 0 0]→w'.cell? ⟨gf,1,none⟩=some (.slice (some ⟨g1,0,none⟩) n n):=fun w' h=>h.four.2.1
          refine Znz (fun w'=>Bk w' gf 137 [.slice (some ⟨g0,0,none⟩) n n,.slice (some ⟨g1,0,none⟩) n n,.slice none 0 0,.slice none 0 0]) ek 12 [0,1,2,3,4,5,6,7,8,9,10,11] (by kernel_rfl) (by kernel_rfl) ?_;repeat ((first | (refine Zd (v:=?_) rfl rfl rfl ?_ ?_;rotate_left;(· (intro _ u;go_simp;(try go_bits);(try with_reducible rfl)))) | (refine Zj (v:=?_) rfl rfl rfl ?_ ?_;rotate_left;(· (intro _ u;go_simp;(try go_bits);(try with_reducible rfl)))) | refine Zk rfl rfl rfl ?_);(try simp only [Act.put,pu1,pu2,pu3,pu4,pu5,pu6]))
          refine Zh rfl rfl (fun KR hKR=>?_);go_simp;refine hKR.out _ _ (Or.inr bw) ?_;clear hKR KR;(try simp only [Act.put,pu1,pu2,pu3,pu4,pu5,pu6]);repeat ((first | (refine Zd (v:=?_) rfl rfl rfl ?_ ?_;rotate_left;(· (intro _ u;go_simp;(try go_bits);(try with_reducible rfl)))) | (refine Zj (v:=?_) rfl rfl rfl ?_ ?_;rotate_left;(· (intro _ u;go_simp;(try go_bits);(try with_reducible rfl)))) | refine Zk rfl rfl rfl ?_);(try simp only [Act.put,pu1,pu2,pu3,pu4,pu5,pu6]))
          refine Zh rfl rfl (fun KR hKR=>?_);go_simp;refine hKR.out _ _ (Or.inr b4) ?_;clear hKR KR;(try simp only [Act.put,pu1,pu2,pu3,pu4,pu5,pu6]);refine Zx ?_;clear C0 C1 ek bw b4 y0 y1 z0 z1;have F:=Za a3 ae a3.size;have h9:=((F.setCell (p:=⟨g0,t,none⟩) (JW O.size ai.out.1) (.int .i64 (r:Int))).setCell (p:=⟨g1,t,none⟩) (JW O.size aj.out.1) (.int .i64 (c:Int))).drew;have el:wr.heap.size≤((w1.setCell ⟨g0,t,none⟩ (.int .i64 (r:Int))).setCell ⟨g1,t,none⟩ (.int .i64 (c:Int))).drew.heap.size:=(by simpa using ae.size);clear ae a3 F;generalize ((w1.setCell ⟨g0,t,none⟩ (.int .i64 (r:Int))).setCell ⟨g1,t,none⟩ (.int .i64 (c:Int))).drew=W2 at *;obtain ⟨_,⟨⟨hB,_,hI,hJ,_,_⟩,_,_⟩⟩:=id b0;obtain ⟨_,_,b2,b3⟩:=hB.four;obtain ⟨cf,k4⟩:=b0.setR cu hr (z:=(t:Int)) (by omega) (by omega);obtain ⟨am,k5⟩:=cf.setC cu hc (z:=(t:Int)) (by omega) (by omega);rw [Zqf eh.out] at cf am;rw [Zqf ej.out] at am;have em:=a6.farI k4 (by have:=ai.out;omega) (by have:=aj.out;omega);have a7:=em.farI k5 (by have:=ai.out;omega) (by have:=aj.out;omega);obtain ⟨y0,y1,_,_⟩:=hI.at_ (WV hr);obtain ⟨_,⟨⟨_,_,_,aq,_,_⟩,_,_⟩⟩:=id cf;obtain ⟨z0,z1,_,_⟩:=hJ.at_ (WV hc);obtain ⟨gy,gz,_,_⟩:=aq.at_ (WV hc);have ha:wr.heap.size≤((W2.setCell ⟨gr,r,none⟩ (.int .i64 (t:Int))).setCell ⟨gc,c,none⟩ (.int .i64 (t:Int))).heap.size:=(by simpa using el);clear b0 cf a6 em k4 k5 hB hI hJ aq;go_wp2_with fail;clear b2 b3 y0 y1 z0 z1 gy gz;generalize (W2.setCell ⟨gr,r,none⟩ (.int .i64 (t:Int))).setCell ⟨gc,c,none⟩ (.int .i64 (t:Int))=W4 at *;obtain ⟨M4,fc,fd,ch⟩:=am;have en:5^t * K≤5^n * K:=JS K (Nat.pow_le_pow_right (by decide) (by omega));have eo:¬(VL n (t+1) (WF R t r)).getD r 0 < 0:=fun g=>((WJ hr).1 g).2 rfl
          refine (Zip W.heap.size ge n _ _ _ M4 G D _ _ a r c (5^t * K) _ fc fd (by omega) hr hc eo HP.out az.out (by have:=HE.out;omega) ch.size).mono ?_;rintro _ w5 ⟨v',rfl,M5,H,fo,fp,e3,hH,fq,fr,a2⟩;obtain ⟨cw,cx,cy⟩:=Zzk L.out hr hc eh.out ej.out HP.out HK.out az.out;obtain ⟨g,cg,fe,i3,i4,h3,i5⟩:=e3.shape (by rw [Zw];omega);rw [Zw] at fe h3;subst fe;have al:XA W ge ga gr gc n G D (VL n (t+1) (WF R t r)) (VL n (t+1) (WF C t c)) (elQ (VL n (t+1) (WF R t r)) (VL n (t+1) (WF C t c)) a r c n 0) w5:=⟨M5,fo,fp,ch.trans a2⟩;have a8:=a7.othP fr fq;obtain ⟨m0,m1⟩:=ZP a8.2.2.2.1 (Zqb (G:=Ff) (D:=E) htl);obtain ⟨a9,k7⟩:=a8.push htl (Yd.monoB e3 ch.size) (fun i hi=>⟨(hH i hi).1,(hH i hi).2.mono (by omega)⟩) (fun i hi=>by have:=g3.out i hi;omega);have b5:=al.farT k7 (v:= .slice (some ⟨g,0,none⟩) n cg) eg.out.1 (by have:=eg.out;omega);have g7:Ydm W ge ga gr gc gf g0 g1 gt n K (t+1) G D (trM Cs) (w5.setCell ⟨gt,t,none⟩ (.slice (some ⟨g,0,none⟩) n cg)):=⟨_,_,_,_,_,_,b5,cw,cy,fun s i hs hi=>by
           by_cases e:s=t
           ·subst e;rw [ZO];exact (cx i hi).mono (by omega)
           ·rw [ZF (by omega)];exact d9.out s i (by omega) hi,a9⟩
          clear fc fd ch fo fp e3 hH fq fr a2 cw cx cy al a8 a9 k7 b5 a7 eo en;go_wp2;go_roundw
          case rel=>exact ⟨t+1,by omega,by go_num,g7⟩
          case measure=>simp [intOf];omega
        ·obtain rfl:n=t:=by omega
         obtain ⟨a,m,R,C,Ff,E,hF,bg,bh,bi,hR⟩:=hL;rw [Zqh,Zqh] at hR;have L:=JZ bg;have az:=JZ bh;have d9:=JZ bi;have db:Hid (1≤5^n * K):=JZ (Nat.mul_pos (Nat.pow_pos (by decide)) HK.out);have ep:=Zew n (by omega);have bx:=Zc wr (.cells (zvc n) 72);have er:=Yy.zeros wr n (by unfold maxLen;omega);have am:=hF.below bx;have a7:=hR.below bx;obtain ⟨a8,k6⟩:=a7.set2 (.slice (some ⟨wr.heap.size,0,none⟩) n n);obtain ⟨s0,s1,s2,s3⟩:=a7.1.four;obtain ⟨f0,f1,f2,f3⟩:=a7.1.fourF;have c4:=hF.choose_spec.2.2;have N:=(Za c4 bx c4.size).setCell (p:=⟨gf,2,none⟩) d8.out (.slice (some ⟨wr.heap.size,0,none⟩) n n);have al:=am.but k6 N (by decide) (by decide) (by decide) (by decide) (by decide);have dc:=er.but k6 (by decide) (by decide) (by decide);have g8:=c4.size;obtain ⟨gl,dp⟩:∃gl,gl=wr.heap.size:=⟨_,rfl⟩;have et:Hid (W.heap.size≤gl):=JZ (by omega);clear bg bh bi hF hR am a7 er k6 c4 bx
         go_upto_region 31 with (fail)
         clear s0 s1 s2 s3 f0 f1 f2 f3;have b6:((wr.alloc (.cells (zvc n) 72)).setCell ⟨gf,2,none⟩ (.slice (some ⟨wr.heap.size,0,none⟩) n n)).heap.size=gl+1:=(by rw [dp];simp);rw [← dp] at a8 dc N al b6 ⊢;generalize (wr.alloc (.cells (zvc n) 72)).setCell ⟨gf,2,none⟩ (.slice (some ⟨gl,0,none⟩) n n)=W6 at *;have g9:=JZ b6;clear b6 dp g8;have b7:=Zc W6 (.cells (zvc n) 72);have eu:=Yy.zeros W6 n (by unfold maxLen;omega);have b5:=al.below b7;have a9:=a8.below b7;have cn:=dc.below b7;obtain ⟨dq,k8⟩:=a9.set3 (.slice (some ⟨W6.heap.size,0,none⟩) n n);obtain ⟨s0,s1,s2,s3⟩:=a9.1.four;obtain ⟨f0,f1,f2,f3⟩:=a9.1.fourF;have dd:=(Za N b7 N.size).setCell (p:=⟨gf,3,none⟩) d8.out (.slice (some ⟨W6.heap.size,0,none⟩) n n);have de:=b5.but k8 dd (by decide) (by decide) (by decide) (by decide) (by decide);have df:=(cn.but k8 (by decide) (by decide) (by decide)).monoB et.out;have dg:=(eu.but k8 (by decide) (by decide) (by decide)).monoB (show W.heap.size≤W6.heap.size from N.size);obtain ⟨gu,ff⟩:∃gu,gu=W6.heap.size:=⟨_,rfl⟩;have cp:gl≠gu:=(by have:=g9.out;omega);have gb:=JZ ff;clear ff;clear al a8 dc b5 a9 eu cn k8 N b7;go_wp2_with fail;clear s0 s1 s2 s3 f0 f1 f2 f3;rw [← gb.out] at dq dg de dd df ⊢;generalize (W6.alloc (.cells (zvc n) 72)).setCell ⟨gf,3,none⟩ (.slice (some ⟨gu,0,none⟩) n n)=W8 at *;refine (Zcu _).mono ?_;rintro _ w9 ⟨v9,rfl,e9,a1⟩;obtain ⟨Ao,ko,co,aa,ab,ac,rfl,_,_⟩:=id e9;have b8:=Bk.new w9 48 [.bool (canF 1).num.neg,.slice Ao ko co,.bool (canF 1).den.neg,.slice aa ab ac];have an:=Zc w9 (.cells #[.bool (canF 1).num.neg,.slice Ao ko co,.bool (canF 1).den.neg,.slice aa ab ac] 48);have d:=Za a1 an a1.size;have ay:LuM W ge ga gr gc gf g0 g1 gt gl gu w9.heap.size n (2 * (5^n * K)) 0 0 G D R C Ff E a m (w9.alloc (.cells #[.bool (canF 1).num.neg,.slice Ao ko co,.bool (canF 1).den.neg,.slice aa ab ac] 48)):=
          ⟨de.below d,dq.below d,⟨_,_,_,_,_,_,b8,e9.below an⟩,by rw [← Zfe];exact df.below d,by rw [← Zfe];exact dg.below d⟩
         clear de dq df dg b8 an d e9 a1 dd;go_wp2;generalize w9.heap.size=go at *;generalize w9.alloc (.cells #[.bool (canF 1).num.neg,.slice Ao ko co,.bool (canF 1).den.neg,.slice aa ab ac] 48)=W9 at *;clear ep
         go_loopw [136] (fun x wr=>∃t:Nat,t≤n∧x= .int .i64 t∧LuM W ge ga gr gc gf g0 g1 gt gl gu go n (2 * (5^n * K)) t t G D R C Ff E a m wr) (fun x _=>n - (intOf x).toNat)
         case atStart=>exact ⟨0,by omega,rfl,ay⟩
         case round=>
          clear ay;obtain ⟨t,ht,rfl,cj⟩:=hrel;rcases JX t n with htl | htl
          ·have c8:=JZ cj;have hl:=Zb.up cj.1.choose_spec.2.2 ag;obtain ⟨-,bl,⟨Ao,ko,co,aa,ab,ac,b8,fg⟩,-⟩:=cj;have cl:=WC n (by omega);have ao:=Yd.zeros wr n (by unfold maxLen;omega);have T:=Zc wr (.cells (zfc n) 48);have an:=b8.later T;have cr:=fg.below T;obtain ⟨o0,o1,o2,o3⟩:=an.four;have g4:(t:Int) < n:=(by omega);obtain ⟨_,_,_,_,⟨c0,c1,c2,c3⟩,⟨f0,f1,f2,f3⟩,-⟩:=ao.at_ (k:=t) (f:=zeroF) (by simp [htl]);obtain ⟨ds,k1⟩:=ao.set_ (k:=t) (by simpa using htl) cr;rw [Zbb,VB htl] at ds;have b9:=ZA T (JY _) (t * 4) (t * 4+1) (t * 4+2) (t * 4+3) (.bool (canF 1).num.neg) (.slice Ao ko co) (.bool (canF 1).den.neg) (.slice aa ab ac);obtain ⟨m0,_⟩:=ZP (own_below bl.2.2.2.1 b9) (by rw [Zqa];exact X3 htl);unfold Xx at m0;obtain ⟨_,bm⟩:=bl.2.2.2.2;obtain ⟨gq,cq,ar,-,-,fh,h4⟩:=(bm t htl).1.shape (by rw [Zw];omega);rw [Zw] at ar fh;unfold Xx at ar;injection ar with hv1 hv2 ar;clear hv1 hv2;rw [← ar] at fh h4;clear bl b8 fg an cr ao bm ar
           go_upto_region 37 with (fail)
           generalize wr.alloc (.cells (zfc n) 48)=W6 at *
           go_upto_region 38 with (fail)
           clear o0 o1 o2 o3 c0 c1 c2 c3 f0 f1 f2 f3 k1 T;generalize (((W6.setCell ⟨wr.heap.size,t * 4,none⟩ (.bool (canF 1).num.neg)).setCell ⟨wr.heap.size,t * 4+1,none⟩ (.slice Ao ko co)).setCell ⟨wr.heap.size,t * 4+2,none⟩ (.bool (canF 1).den.neg)).setCell ⟨wr.heap.size,t * 4+3,none⟩ (.slice aa ab ac)=W8 at *;go_wp2;clear m0;generalize wr=V at *
           go_loopw [150] (fun x wr=>∃k:Nat,k≤n∧x= .int .i64 k∧Below V.heap.size V wr∧∃L':Nat→RF,Yd V.heap.size wr (.slice (some ⟨V.heap.size,0,none⟩) n n) (rfL n L')∧∀p,p < n→(L' p).q=Zny R m t k p∧(L' p).Rs (2 * (5^n * K))) (fun x _=>n - (intOf x).toNat)
           case atStart=>exact ⟨0,by omega,rfl,b9,_,ds,fun p hp=>by
            rw [Zsj];by_cases e:p=t
            ·simp only [if_pos e];exact ⟨Zu _,Sz_one.rs.mono (by have:=db.out;omega)⟩
            ·simp only [if_neg e];exact ⟨zeroF_q,(Vz 1).mono (by have:=db.out;omega)⟩⟩
           case round=>
            clear ds b9;obtain ⟨k,hk,rfl,l,L',hO,U⟩:=hrel;rcases JX k n with hkl | hkl
            ·obtain ⟨-,fi,-⟩:=c8.out;obtain ⟨H0,bm⟩:=fi.2.2.2.2;obtain ⟨fj,fk,-⟩:=bm t htl;obtain ⟨bn,bo⟩:=fk k hkl;obtain ⟨bz,oz,A5,n5,c5,A6,n6,c6,dt,_,⟨x0,x1,x2,x3⟩,au⟩:=fj.frs.elem l (Yu hkl);injection dt with dt;injection dt with aw ax;subst aw;subst ax;simp only [Nat.zero_add] at x0 x1 x2 x3;obtain ⟨sx,bp,du⟩:=L.out.ri.onto hkl;obtain ⟨fz,fl⟩:∃fz,fz=H0 t k:=⟨_,rfl⟩;rw [← fl] at x0 x2 au bn bo;have ev:=JZ bn;have gd:=JZ bo;have eb:(k:Int) < n:=(by omega);have hm:(sx:Int) < n:=(by omega);have gg:Hid (m t k≠0→∀p,p < n→Zny R m t (k+1) p=if p=sx then m t k else Zny R m t k p):=JZ fun h0 p hp=>Zvy L.out.ri htl hp bp du h0 (L.out.m0 t t htl (JY _))
             have gh:Hid (m t k=0→∀p,p < n→Zny R m t k p=Zny R m t (k+1) p):=JZ fun h0 p hp=>Zvx (n:=n) h0
             have gi:Hid ((VL n n R)[k]? =some (sx:Int)):=JZ (by rw [WV hkl,← du,Ydj L.out.ri bp]);clear fi bm fj fk fl du bn bo;obtain ⟨W9,h5,dv,a1⟩:=Y7 wr (.bool fz.num.neg) (.slice A5 n5 c5) (.bool fz.den.neg) (.slice A6 n6 c6);obtain ⟨v0,v1,v2,v3⟩:=dv.four;have dh:=au.below a1;go_wp2_with fail;clear h5;refine (Zz _ fz _ dh).mono ?_;rw [ev.out];rintro _ w2 ⟨rfl,bs⟩;have J:=Za (Za l a1 l.size) bs (JW l.size a1.size);have c9:=(hO.below a1).below bs;have di:=dh.below bs;have S:=dv.later bs;clear hO au dh dv l a1 bs v0 v1 v2 v3 x0 x1 x2 x3;by_cases av:qs (m t k)=0
             ·have dj:=JZ (ZW.1 av);rw [av];clear di S av;go_wp2;go_roundw
              case rel=>exact ⟨k+1,by omega,by go_num,J,L',c9,fun p hp=>⟨by rw [(U p hp).1,gh.out dj.out p hp],(U p hp).2⟩⟩
              case measure=>simp [intOf];omega
             ·have dj:Hid (m t k≠0):=JZ fun e=>av (ZW.2 e)
              have gj:(qs (m t k) !=0)=true:=(by simpa using av);clear av;obtain ⟨v0,v1,v2,v3⟩:=S.four;obtain ⟨⟨M0,⟨bq,-,ad,-⟩,-⟩,-⟩:=c8.out.below J;obtain ⟨_,_,b2,_⟩:=bq.four;obtain ⟨p0,_,_,_⟩:=ad.at_ gi.out;obtain ⟨_,_,_,_,⟨c0,c1,c2,c3⟩,⟨f0,f1,f2,f3⟩,_⟩:=c9.at_ (Yu (f:=L') bp);clear bq ad S
              go_upto_region 42 with (fail)
              clear gj;have C0:=Zm v0;have C1:=Zm v1;have C2:=Zm v2;have C3:=Zm v3;have D0:=Zm b2;have D1:=Zm p0;have y:=Zf w2;clear v0 v1 v2 v3 b2 p0;refine Zp 8 [0,1,2,3,4,5,6,7,8] (by kernel_rfl) (by kernel_rfl) ?_;repeat ((first | (refine Zd (v:=?_) rfl rfl rfl ?_ ?_;rotate_left;(· (intro _ u;go_simp;(try go_bits);(try with_reducible rfl)))) | (refine Zj (v:=?_) rfl rfl rfl ?_ ?_;rotate_left;(· (intro _ u;go_simp;(try go_bits);(try with_reducible rfl)))) | refine Zk rfl rfl rfl ?_);(try simp only [Act.put,pu1,pu2,pu3,pu4,pu5,pu6]))
              refine Zh rfl rfl (fun KR hKR=>?_);go_simp;refine hKR.out _ _ (Or.inl (by decide)) ?_;clear hKR KR;(try simp only [Act.put,pu1,pu2,pu3,pu4,pu5,pu6]);refine Zx ?_;clear C0 C1 C2 C3 D0 D1;obtain ⟨br,_⟩:=(c9.below y).set_ (k:=sx) (by rw [Zw];exact bp) (di.below y);rw [VB bp] at br;have ba:=ZA (Za J y J.size) (JY _) (sx * 4) (sx * 4+1) (sx * 4+2) (sx * 4+3);clear c9 di J y c0 c1 c2 c3 f0 f1 f2 f3;go_wp2;go_roundw
              case rel=>
               refine ⟨k+1,by omega,by go_num,ba _ _ _ _,_,br,fun p hp=>?_⟩;rw [gg.out dj.out p hp];by_cases e:p=sx
               ·simp only [if_pos e];exact ⟨ev.out,gd.out⟩
               ·simp only [if_neg e];exact U p hp
              case measure=>simp [intOf];omega
            ·obtain rfl:n=k:=by omega
             have I:=c8.out.below l;obtain ⟨-,⟨X,-⟩,-,-,-⟩:=id I;obtain ⟨-,-,s2,-⟩:=X.four;have bb:RsL (2 * (5^n * K)) (rfL n L'):=fun i f hf=>by
              have hi:i < n:=(by have:=(List.getElem?_eq_some_iff.1 hf).1;rwa [Zw] at this);rw [Yu hi] at hf;injection hf with hf;subst hf;exact (U i hi).2
             have dk:Hid (spV (qAt (rfL n L')) (rfL n L').length=spV (luL R m t) n):=JZ (by
              rw [Zw];exact XJ fun i hi=>by rw [Zig hi,(U i hi).1,Zzl L.out.ri hi fun q hq=>L.out.m0 t q htl hq])
             clear U X
             go_upto_region 44 with (fail)
             have D0:=Zm s2;have y:=Zf wr;clear s2;refine Zp 9 [0,1,2,3,4,5,6,7,8,9] (by kernel_rfl) (by kernel_rfl) ?_;repeat ((first | (refine Zd (v:=?_) rfl rfl rfl ?_ ?_;rotate_left;(· (intro _ u;go_simp;(try go_bits);(try with_reducible rfl)))) | (refine Zj (v:=?_) rfl rfl rfl ?_ ?_;rotate_left;(· (intro _ u;go_simp;(try go_bits);(try with_reducible rfl)))) | refine Zk rfl rfl rfl ?_);(try simp only [Act.put,pu1,pu2,pu3,pu4,pu5,pu6]))
             refine Zh rfl rfl (fun KR hKR=>?_);go_simp;(with_reducible refine (Xg _ _ (2 * (5^n * K)) _ (hO.frs.below y) (by rw [Zw];omega) bb (by have:=HE.out;omega)).mono ?_);rintro _ w6 ⟨v6,rfl,e6,N⟩;have a0:=Za y N y.size;rw [dk.out] at e6;obtain ⟨A7,n7,c7,rfl⟩:∃A n c,v6= .slice A n c:=by obtain ⟨A,c,e,_⟩:=e6.vec.shape;exact ⟨A,_,c,e⟩
             obtain ⟨_,dw,dx,_⟩:=(I.below a0).2.2.2.1.at_ (Zbd htl);refine hKR.out _ _ (Or.inr a0) ?_;clear hKR KR;(try simp only [Act.put,pu1,pu2,pu3,pu4,pu5,pu6]);repeat ((first | (refine Zd (v:=?_) rfl rfl rfl ?_ ?_;rotate_left;(· (intro _ u;go_simp;(try go_bits);(try with_reducible rfl)))) | (refine Zj (v:=?_) rfl rfl rfl ?_ ?_;rotate_left;(· (intro _ u;go_simp;(try go_bits);(try with_reducible rfl)))) | refine Zk rfl rfl rfl ?_);(try simp only [Act.put,pu1,pu2,pu3,pu4,pu5,pu6]))
             refine Zh rfl rfl (fun KR hKR=>?_);go_simp;refine hKR.out _ _ (Or.inl (by decide)) ?_;clear hKR KR;(try simp only [Act.put,pu1,pu2,pu3,pu4,pu5,pu6]);refine Zx ?_;clear D0;have F:=(I.below a0).setL cp htl e6.vec;clear I hO l y a0 N e6 dw dx c8;generalize w6.setCell ⟨gl,t,none⟩ (.slice A7 n7 c7)=W7 at *;have ao:=Yd.zeros W7 n (by unfold maxLen;omega);have T:=Zc W7 (.cells (zfc n) 48);have cs:=JZ F;have hd:=Zb.up F.1.choose_spec.2.2 ag;clear F;go_wp2
             go_loopw [180] (fun x wr=>∃k:Nat,k≤t+1∧x= .int .i64 k∧Below W7.heap.size W7 wr∧∃L':Nat→RF,Yd W7.heap.size wr (.slice (some ⟨W7.heap.size,0,none⟩) n n) (rfL n L')∧∀p,p < n→(L' p).q=upP R C a t k p∧(L' p).Rs (2 * (5^n * K))) (fun x _=>t+1 - (intOf x).toNat)
             case atStart=>exact ⟨0,by omega,rfl,T,fun _=>zeroF,by rw [← Zbb];exact ao,fun p hp=>⟨by unfold upP;rw [if_neg (by omega)];exact zeroF_q,(Vz 1).mono (by have:=db.out;omega)⟩⟩
             case round=>
              clear ao T;obtain ⟨k,hk,rfl,l,L',hO,U⟩:=hrel;rcases JX k (t+1) with hkl | hkl
              ·have I:=cs.out.below l;obtain ⟨⟨M0,⟨bq,ck,-⟩,dy,-⟩,⟨X,ad,a4,-⟩,-⟩:=I;have bd:k < n:=(by omega);have ap:R k < n:=L.out.ri.1 k bd;have ca:C t < n:=L.out.ci.1 t htl;obtain ⟨_,b1,_,_⟩:=bq.four;obtain ⟨s0,s1,_,_⟩:=X.four;obtain ⟨y0,_,_,_⟩:=ad.at_ (Zdf bd);obtain ⟨z0,_,_,_⟩:=a4.at_ (Zdf htl);obtain ⟨m1,_⟩:=ck.cellAt ap;unfold Xx at m1;obtain ⟨l1,l2,l3,l4⟩:=ck.lt ap (by omega);obtain ⟨A5,n5,c5,A6,n6,c6,⟨x0,x1,x2,x3⟩,au⟩:=ck.at_ ap ca;have gk:Hid ((M0 (R k) (C t)).q=a (R k) (C t)∧(M0 (R k) (C t)).Rs (2 * (5^n * K))):=JZ ⟨(dy _ _ ap ca).q,((dy _ _ ap ca).rs (az.out _ _ ap ca)).mono (by omega)⟩;have gm:Hid (∀p,upP R C a t (k+1) p=if p=k then a (R k) (C t) else upP R C a t k p):=JZ fun p=>Zzm p
               obtain ⟨_,_,_,_,⟨c0,c1,c2,c3⟩,⟨f0,f1,f2,f3⟩,_⟩:=hO.at_ (Yu (f:=L') bd);generalize M0 (R k) (C t)=fz at *;generalize a (R k) (C t)=qz at *;generalize R k=rk at *;generalize C t=ct at *;have eb:(k:Int) < n:=(by omega);have g5:(rk:Int) < n:=(by omega);have g6:(ct:Int) < n:=(by omega);clear bq ck dy X ad a4
               go_upto_region 49 with (fail)
               have C0:=Zm x0;have C1:=Zm x1;have C2:=Zm x2;have C3:=Zm x3;have D0:=Zm b1;have D1:=Zm s0;have D2:=Zm s1;have D3:=Zm y0;have D4:=Zm z0;have D5:=Zm m1;have y:=Zf wr;clear x0 x1 x2 x3 b1 s0 s1 y0 z0 m1;refine Zp 19 [0,1,2,3,4,5,6,7,8,9,10,11,12,13,14,15,16,17,18,19] (by kernel_rfl) (by kernel_rfl) ?_;repeat ((first | (refine Zd (v:=?_) rfl rfl rfl ?_ ?_;rotate_left;(· (intro _ u;go_simp;(try go_bits);(try with_reducible rfl)))) | (refine Zj (v:=?_) rfl rfl rfl ?_ ?_;rotate_left;(· (intro _ u;go_simp;(try go_bits);(try with_reducible rfl)))) | refine Zk rfl rfl rfl ?_);(try simp only [Act.put,pu1,pu2,pu3,pu4,pu5,pu6]))
               refine Zh rfl rfl (fun KR hKR=>?_);go_simp;refine hKR.out _ _ (Or.inl (by decide)) ?_;clear hKR KR;(try simp only [Act.put,pu1,pu2,pu3,pu4,pu5,pu6]);refine Zx ?_;clear C0 C1 C2 C3 D0 D1 D2 D3 D4 D5;obtain ⟨br,_⟩:=(hO.below y).set_ (k:=k) (by rw [Zw];exact bd) (au.below y);rw [VB bd] at br;have ba:=ZA (Za l y l.size) (JY _) (k * 4) (k * 4+1) (k * 4+2) (k * 4+3);clear hO au l y c0 c1 c2 c3 f0 f1 f2 f3;go_wp2;go_roundw
               case rel=>
                refine ⟨k+1,by omega,by go_num,ba _ _ _ _,_,br,fun p hp=>?_⟩;rw [gm.out p];by_cases e:p=k
                ·simp only [if_pos e];exact gk.out
                ·simp only [if_neg e];exact U p hp
               case measure=>simp [intOf];omega
              ·obtain rfl:k=t+1:=by omega
               have I:=cs.out.below l;obtain ⟨-,⟨X,-⟩,-,-,-⟩:=id I;obtain ⟨-,-,-,s3⟩:=X.four;have bb:RsL (2 * (5^n * K)) (rfL n L'):=fun i f hf=>by
                have hi:i < n:=(by have:=(List.getElem?_eq_some_iff.1 hf).1;rwa [Zw] at this);rw [Yu hi] at hf;injection hf with hf;subst hf;exact (U i hi).2
               have dk:Hid (spV (qAt (rfL n L')) (rfL n L').length=spV (luU R C a t) n):=JZ (by
                rw [Zw];exact XJ fun i hi=>by rw [Zig hi,(U i hi).1,Ydk])
               clear U X
               go_upto_region 51 with (fail)
               have D0:=Zm s3;have y:=Zf wr;clear s3;refine Zp 9 [0,1,2,3,4,5,6,7,8,9] (by kernel_rfl) (by kernel_rfl) ?_;repeat ((first | (refine Zd (v:=?_) rfl rfl rfl ?_ ?_;rotate_left;(· (intro _ u;go_simp;(try go_bits);(try with_reducible rfl)))) | (refine Zj (v:=?_) rfl rfl rfl ?_ ?_;rotate_left;(· (intro _ u;go_simp;(try go_bits);(try with_reducible rfl)))) | refine Zk rfl rfl rfl ?_);(try simp only [Act.put,pu1,pu2,pu3,pu4,pu5,pu6]))
               refine Zh rfl rfl (fun KR hKR=>?_);go_simp;(with_reducible refine (Xg _ _ (2 * (5^n * K)) _ (hO.frs.below y) (by rw [Zw];omega) bb (by have:=HE.out;omega)).mono ?_);rintro _ w6 ⟨v6,rfl,e6,N⟩;have a0:=Za y N y.size;rw [dk.out] at e6;obtain ⟨A7,n7,c7,rfl⟩:∃A n c,v6= .slice A n c:=by obtain ⟨A,c,e,_⟩:=e6.vec.shape;exact ⟨A,_,c,e⟩
               obtain ⟨_,dw,dx,_⟩:=(I.below a0).2.2.2.2.at_ (Zbd htl);refine hKR.out _ _ (Or.inr a0) ?_;clear hKR KR;(try simp only [Act.put,pu1,pu2,pu3,pu4,pu5,pu6]);repeat ((first | (refine Zd (v:=?_) rfl rfl rfl ?_ ?_;rotate_left;(· (intro _ u;go_simp;(try go_bits);(try with_reducible rfl)))) | (refine Zj (v:=?_) rfl rfl rfl ?_ ?_;rotate_left;(· (intro _ u;go_simp;(try go_bits);(try with_reducible rfl)))) | refine Zk rfl rfl rfl ?_);(try simp only [Act.put,pu1,pu2,pu3,pu4,pu5,pu6]))
               refine Zh rfl rfl (fun KR hKR=>?_);go_simp;refine hKR.out _ _ (Or.inl (by decide)) ?_;clear hKR KR;(try simp only [Act.put,pu1,pu2,pu3,pu4,pu5,pu6]);refine Zx ?_;clear D0;have F:=(I.below a0).setU cp htl e6.vec;clear I hO l y a0 N e6 dw dx;go_wp2;go_roundw
               case rel=>exact ⟨t+1,by omega,by go_num,F⟩
               case measure=>simp [intOf];omega
          ·obtain rfl:n=t:=by omega
           obtain ⟨⟨_,-,-,P⟩,⟨X,ad,a4,-,-⟩,-,fm,fn⟩:=cj;rw [Zqi] at fm fn;obtain ⟨s0,s1,s2,s3⟩:=X.four;have ho:=(P.mono bt.out);have cb:=e4.out.later (P.mono bt.out);have a3:=Za O P O.size;have cc:=O.size;obtain ⟨t0,t1,t2,t3⟩:=cb.four;obtain ⟨f0,f1,f2,f3⟩:=cb.fourF;go_wp2;have kk:=cb.but4 (.slice (some ⟨g0,0,none⟩) n n) (.slice (some ⟨g1,0,none⟩) n n) (.slice (some ⟨gl,0,none⟩) n n) (.slice (some ⟨gu,0,none⟩) n n);refine YR Tryz.results116 Tryz.underlying137 (by kernel_rfl) rfl (cb.set4 _ _ _ _) rfl ?_;exact ⟨ZE a3 (JY _) _ _ _ _,.inl ⟨R,C,luL R m,luU R C a,_,_,_,_,rfl,L.out.facS (by omega) HK.out HE.out az.out d9.out,(ad.but kk (by decide)).monoB cc,(a4.but kk (by decide)).monoB cc,(fm.but kk (by decide) (by decide) (by decide)).monoB cc,(fn.but kk (by decide) (by decide) (by decide)).monoB cc⟩⟩
end
end Go.Proofs.YtncmobkhenfhpaaGreat
