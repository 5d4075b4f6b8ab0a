/- Contracts that the claim is built on; no condition. -/
import Derived.Test.YtncmobkhenfhpaaGreatD21
set_option linter.unusedVariables false
set_option linter.unusedSimpArgs false
set_option maxRecDepth 100000
set_option maxHeartbeats 40000000
namespace Go.Proofs.YtncmobkhenfhpaaGreat
open Go.RowKit
open Pl
attribute [local go_sem ↓] Go.wp_at_zero Go.wp_at_succ
section
def Zju (P:Nat→Prop) (w w':World):Prop:=w.heap.size≤w'.heap.size∧∀b,b < w.heap.size→¬P b→w'.heap[b]? =w.heap[b]?
theorem Zju.trans {P:Nat→Prop} {a b c:World} (h:Zju P a b) (k:Zju P b c):Zju P a c:=⟨Nat.le_trans h.1 k.1,fun x hx hne=>(k.2 x (Nat.lt_of_lt_of_le hx h.1) hne).trans (h.2 x hx hne)⟩
theorem Zju.of_below {P:Nat→Prop} {w w':World} (h:Below w.heap.size w w'):Zju P w w':=⟨h.size,fun b hb _=>h.block b hb⟩
theorem Zju.of_others {P:Nat→Prop} {g:Nat} {w w':World} (h:ZT (some g) w w') (hp:g < w.heap.size→P g):Zju P w w':=⟨h.1,fun b hb hn=>h.2 b hb fun e=>by injection e with e;subst e;exact hn (hp hb)⟩
theorem Zju.below {P:Nat→Prop} {w w' w2:World} (h:Zju P w w') (hb:Below w'.heap.size w' w2):Zju P w w2:=h.trans (Zju.of_below hb)
namespace Pl
def Tdy (f:RF) (q:Rat):Prop:=f=canF q∨(f=zeroF∧q=0)
theorem Tdy.q {f:RF} {q:Rat} (h:Tdy f q):f.q=q:=by
 rcases h with rfl | ⟨rfl,rfl⟩
 ·exact Zt _
 ·exact zeroF_q
theorem Tdy.rs {f:RF} {q:Rat} {J:Nat} (h:Tdy f q) (hs:Sz J q):f.Rs J:=by
 rcases h with rfl | ⟨rfl,rfl⟩
 ·exact hs.rs
 ·exact (Vj 1).mono (Zex hs)
theorem Tdy.len {f:RF} {q:Rat} (h:Tdy f q):0 < f.num.ds.length↔q≠0:=by
 rcases h with rfl | ⟨rfl,rfl⟩
 ·show 0 < (Zl q.num.natAbs).length↔q≠0;by_cases e:q=0
  ·subst e;rw [show (0:Rat).num.natAbs=0 from rfl,digs_zero];simp
  ·have h1:q.num.natAbs≠0:=by
    intro h;exact e (Rat.num_eq_zero.1 (Int.natAbs_eq_zero.1 h))
   constructor
   ·exact fun _=>e
   ·intro _;rcases Nat.eq_zero_or_pos (Zl q.num.natAbs).length with h2 | h2
    ·exfalso;have h3:=List.eq_nil_of_length_eq_zero h2;have h4:=Zk q.num.natAbs;rw [h3] at h4;exact h1 (by rw [← h4];rfl)
    ·exact h2
 ·simp [zeroF,canI_zero]
def elQ (rp cp:List Int) (a:Mx) (r c i j:Nat):Mx:=fun s k=>if (s < i∨(s=i∧k < j))∧rp.getD s 0 < 0∧cp.getD k 0 < 0 then a s k - a s c / a r c * a r k else a s k
def Zhz (rp:List Int) (a:Mx) (r c i:Nat):Nat→Rat:=fun s=>if s < i∧rp.getD s 0 < 0 then a s c / a r c else 0
section
variable {rp cp:List Int} {a:Mx} {r c i j:Nat}
theorem elQ_start:elQ rp cp a r c 0 0=a:=by
 funext s k;unfold elQ;rw [if_neg (by omega)]
theorem Zsw {s k:Nat} (h:¬rp.getD s 0 < 0):elQ rp cp a r c i j s k=a s k:=by unfold elQ;rw [if_neg fun e=>h e.2.1]
theorem Znm {n s k:Nat} (hn:¬rp.getD i 0 < 0∨a i c=0) (hk:k < n):elQ rp cp a r c i 0 s k=elQ rp cp a r c (i+1) 0 s k:=by
 unfold elQ;by_cases e:s=i
 ·subst e;rw [if_neg (by omega)];by_cases e2:rp.getD s 0 < 0∧cp.getD k 0 < 0
  ·rw [if_pos ⟨by omega,e2⟩];rcases hn with hn | hn
   ·exact absurd e2.1 hn
   ·rw [hn,show (0:Rat) / a r c=0 by rw [Rat.div_def];grind];grind
  ·rw [if_neg fun h=>e2 h.2]
 ·by_cases e2:(s < i∨(s=i∧k < 0))∧rp.getD s 0 < 0∧cp.getD k 0 < 0
  ·rw [if_pos e2,if_pos ⟨by omega,e2.2⟩]
  ·rw [if_neg e2,if_neg fun h=>e2 ⟨by omega,h.2⟩]
theorem Zwp {n s k:Nat} (hk:k < n):elQ rp cp a r c i n s k=elQ rp cp a r c (i+1) 0 s k:=by
 unfold elQ;by_cases e2:(s < i∨(s=i∧k < n))∧rp.getD s 0 < 0∧cp.getD k 0 < 0
 ·rw [if_pos e2,if_pos ⟨by omega,e2.2⟩]
 ·rw [if_neg e2,if_neg fun h=>e2 ⟨by omega,h.2⟩]
theorem Znn {s k:Nat} (hn:¬cp.getD j 0 < 0∨a r j=0):elQ rp cp a r c i j s k=elQ rp cp a r c i (j+1) s k:=by
 unfold elQ;by_cases e:s=i∧k=j
 ·obtain ⟨rfl,rfl⟩:=e;rw [if_neg (by omega)];by_cases e2:rp.getD s 0 < 0∧cp.getD k 0 < 0
  ·rw [if_pos ⟨by omega,e2⟩];rcases hn with hn | hn
   ·exact absurd e2.2 hn
   ·rw [hn];grind
  ·rw [if_neg fun h=>e2 h.2]
 ·by_cases e2:(s < i∨(s=i∧k < j))∧rp.getD s 0 < 0∧cp.getD k 0 < 0
  ·rw [if_pos e2,if_pos ⟨by omega,e2.2⟩]
  ·rw [if_neg e2,if_neg fun h=>e2 ⟨by omega,h.2⟩]
theorem Zwq {s k:Nat} (h1:rp.getD i 0 < 0) (h2:cp.getD j 0 < 0):elQ rp cp a r c i (j+1) s k=if s=i∧k=j then a i j - a i c / a r c * a r j else elQ rp cp a r c i j s k:=by
 unfold elQ;by_cases e:s=i∧k=j
 ·rw [if_pos e];obtain ⟨rfl,rfl⟩:=e;rw [if_pos ⟨by omega,h1,h2⟩]
 ·rw [if_neg e];by_cases e2:(s < i∨(s=i∧k < j))∧rp.getD s 0 < 0∧cp.getD k 0 < 0
  ·rw [if_pos e2,if_pos ⟨by omega,e2.2⟩]
  ·rw [if_neg e2,if_neg fun h=>e2 ⟨by omega,h.2⟩]
theorem elQ_at:elQ rp cp a r c i j i j=a i j:=by unfold elQ;rw [if_neg (by omega)]
theorem Yap {k:Nat}:elQ rp cp a r c i 0 i k=a i k:=by unfold elQ;rw [if_neg (by omega)]
theorem Zjv (hn:¬rp.getD i 0 < 0∨a i c=0) (s:Nat):Zhz rp a r c i s=Zhz rp a r c (i+1) s:=by
 unfold Zhz;by_cases e:s=i
 ·subst e;rw [if_neg (by omega)];by_cases e2:rp.getD s 0 < 0
  ·rw [if_pos ⟨by omega,e2⟩];rcases hn with hn | hn
   ·exact absurd e2 hn
   ·rw [hn,Rat.div_def];grind
  ·rw [if_neg fun h=>e2 h.2]
 ·by_cases e2:s < i∧rp.getD s 0 < 0
  ·rw [if_pos e2,if_pos ⟨by omega,e2.2⟩]
  ·rw [if_neg e2,if_neg fun h=>e2 ⟨by omega,h.2⟩]
theorem Zsx (h1:rp.getD i 0 < 0) (s:Nat):Zhz rp a r c (i+1) s=if s=i then a i c / a r c else Zhz rp a r c i s:=by
 unfold Zhz;by_cases e:s=i
 ·subst e;rw [if_pos rfl,if_pos ⟨by omega,h1⟩]
 ·rw [if_neg e];by_cases e2:s < i∧rp.getD s 0 < 0
  ·rw [if_pos e2,if_pos ⟨by omega,e2.2⟩]
  ·rw [if_neg e2,if_neg fun h=>e2 ⟨by omega,h.2⟩]
end
end Pl
def U6 (V:World) (f:RF) (s9:Value) (wx:World):Prop:=
 ∃(g:Nat) (A:Option Addr) (n c:Nat) (A':Option Addr) (n' c':Nat),s9= .pointer (some ⟨g,0,none⟩)∧V.heap.size≤g∧Bk wx g 48 [.bool f.num.neg,.slice A n c,.bool f.den.neg,.slice A' n' c']∧Zv wx (.agg #[.bool f.num.neg,.slice A n c,.bool f.den.neg,.slice A' n' c']) f∧Below V.heap.size V wx
theorem U6.mk {V w:World} {g:Nat} {f:RF} {x y z u:Value} {A A':Option Addr} {n c n' c':Nat} (hB:Bk w g 48 [x,y,z,u]) (hm:Zv w (.agg #[.bool f.num.neg,.slice A n c,.bool f.den.neg,.slice A' n' c']) f) (hb:Below V.heap.size V w) (hg:V.heap.size≤g):
 U6 V f (.pointer (some ⟨g,0,none⟩)) ((((w.setCell ⟨g,0,none⟩ (.bool f.num.neg)).setCell ⟨g,1,none⟩ (.slice A n c)).setCell ⟨g,2,none⟩ (.bool f.den.neg)).setCell ⟨g,3,none⟩ (.slice A' n' c')):=
 ⟨g,A,n,c,A',n',c',rfl,hg,hB.set4 _ _ _ _,hm.keep (hB.keep4 (by decide) _ _ _ _),ZB hb hg _ _ _ _⟩
def Zkj (base:Nat) (w:World) (ge n:Nat) (va vr vc:Value) (G D:Nat→Nat) (rp cp:List Int) (Q:Mx) (f:Nat→Rat) (J:Nat) (vf:Value) (wr:World):Prop:=
 ∃(M:Nat→Nat→RF) (H:Nat→RF),ElM base wr ge n va vr vc M G D rp cp∧(∀i j,i < n→j < n→Tdy (M i j) (Q i j))∧Yi w.heap.size wr vf (rfL n H)∧(∀i,i < n→(H i).q=f i∧(H i).Rs J)∧
  Zd 48 w wr∧Zju (fun b=>∃i,i < n∧b=G i) w wr∧Below base w wr
theorem Zkj.below {base:Nat} {w wr w':World} {ge n:Nat} {va vr vc:Value} {G D:Nat→Nat} {rp cp:List Int} {Q:Mx} {f:Nat→Rat} {J:Nat} {vf:Value} (h:Zkj base w ge n va vr vc G D rp cp Q f J vf wr) (hb:Below wr.heap.size wr w') (hw:base≤w.heap.size):Zkj base w ge n va vr vc G D rp cp Q f J vf w':=by
 obtain ⟨M,H,h1,h2,h3,h4,h5,h6,h7⟩:=h;exact ⟨M,H,h1.below hb,h2,h3.below hb,h4,h5.trans (Zd.of_below hb),h6.below hb,Za h7 hb (Nat.le_trans hw h6.1)⟩
theorem Zkj.congr {base:Nat} {w wr:World} {ge n:Nat} {va vr vc:Value} {G D:Nat→Nat} {rp cp:List Int} {Q Q':Mx} {f f':Nat→Rat} {J:Nat} {vf:Value} (h:Zkj base w ge n va vr vc G D rp cp Q f J vf wr) (hq:∀i j,i < n→j < n→Q i j=Q' i j) (hf:∀i,i < n→f i=f' i):Zkj base w ge n va vr vc G D rp cp Q' f' J vf wr:=by
 obtain ⟨M,H,h1,h2,h3,h4,h5⟩:=h;exact ⟨M,H,h1,fun i j hi hj=>by rw [← hq i j hi hj];exact h2 i j hi hj,h3,fun i hi=>by rw [← hf i hi];exact h4 i hi,h5⟩
theorem Zkj.setF {base:Nat} {w wr:World} {ge n:Nat} {va vr vc:Value} {G D:Nat→Nat} {rp cp:List Int} {Q:Mx} {f f':Nat→Rat} {J cf:Nat} (h:Zkj base w ge n va vr vc G D rp cp Q f J (.slice (some ⟨w.heap.size,0,none⟩) n cf) wr) (hw:base≤w.heap.size) (hG:∀i,i < n→G i < w.heap.size) {i:Nat} (hi:i < n) {x y z u:Value} {q:RF} (hq:Zv wr (.agg #[x,y,z,u]) q) (hr:q.Rs J) (hf:∀s,s < n→f' s=if s=i then q.q else f s):
 Zkj base w ge n va vr vc G D rp cp Q f' J (.slice (some ⟨w.heap.size,0,none⟩) n cf) ((((wr.setCell ⟨w.heap.size,i * 4,none⟩ x).setCell ⟨w.heap.size,i * 4+1,none⟩ y).setCell ⟨w.heap.size,i * 4+2,none⟩ z).setCell ⟨w.heap.size,i * 4+3,none⟩ u):=by
 obtain ⟨M,H,⟨e1,e2,e3,e4,e5⟩,h2,h3,h4,h5,h6,h7⟩:=h;obtain ⟨g1,g2⟩:=h3.set_ (k:=i) (by rw [Zu];exact hi) hq;rw [Vl hi] at g1;have ho:=Yg (w:=wr) (g:=w.heap.size) (i:=i * 4) (j:=i * 4+1) (k:=i * 4+2) (l:=i * 4+3) (x:=x) (y:=y) (z:=z) (u:=u);refine ⟨M,fun s=>if s=i then q else H s,⟨g2.bk e1 (by decide),e2.far ho g2 fun r hr=>by have:=hG r hr;omega,e3.but g2 (by decide),e4.but g2 (by decide),e5⟩,h2,g1,fun s hs=>?_,h5.trans g2,⟨Nat.le_trans h6.1 ho.1,fun b hb hn=>(ho.2 b (Nat.lt_of_lt_of_le hb h6.1) fun e=>by injection e with e;omega).trans (h6.2 b hb hn)⟩,ZA h7 hw _ _ _ _ _ _ _ _⟩;rw [hf s hs];by_cases e:s=i
 ·simp only [if_pos e];exact ⟨trivial,hr⟩
 ·simp only [if_neg e];exact h4 s hs
theorem Zkj.setM {base:Nat} {w wr:World} {ge n:Nat} {va vr vc:Value} {G D:Nat→Nat} {rp cp:List Int} {Q Q':Mx} {f:Nat→Rat} {J cf:Nat} (h:Zkj base w ge n va vr vc G D rp cp Q f J (.slice (some ⟨w.heap.size,0,none⟩) n cf) wr) (hG:∀i,i < n→base≤G i∧G i < w.heap.size) {i j:Nat} (hi:i < n) (hj:j < n) {x y z u:Value} {q:Rat} (hq:Zv wr (.agg #[x,y,z,u]) (canF q)) (hf:∀s k,s < n→k < n→Q' s k=if s=i∧k=j then q else Q s k):
 Zkj base w ge n va vr vc G D rp cp Q' f J (.slice (some ⟨w.heap.size,0,none⟩) n cf) ((((wr.setCell ⟨G i,j * 4,none⟩ x).setCell ⟨G i,j * 4+1,none⟩ y).setCell ⟨G i,j * 4+2,none⟩ z).setCell ⟨G i,j * 4+3,none⟩ u):=by
 obtain ⟨M,H,⟨e1,e2,e3,e4,e5⟩,h2,h3,h4,h5,h6,h7⟩:=h;obtain ⟨g1,g2⟩:=e2.set_ hi hj hq;have ho:=Yg (w:=wr) (g:=G i) (i:=j * 4) (j:=j * 4+1) (k:=j * 4+2) (l:=j * 4+3) (x:=x) (y:=y) (z:=z) (u:=u);have hg:=hG i hi;refine ⟨_,H,⟨g2.bk e1 (by decide),g1,e3.but g2 (by decide),e4.but g2 (by decide),e5⟩,fun s k hs hk=>?_,h3.others ho (g2.keep (by decide)) (fun b hb e=>by simp [Value.ownBlock] at hb;injection e with e;omega),h4,h5.trans g2,h6.trans (Zju.of_others ho fun _=>⟨i,hi,rfl⟩),ZA h7 hg.1 _ _ _ _ _ _ _ _⟩;rw [hf s k hs hk];unfold Yac;by_cases e:s=i∧k=j
 ·rw [if_pos e,if_pos e];exact .inl rfl
 ·rw [if_neg e,if_neg e];exact h2 s k hs hk
def Ycq (base:Nat) (w:World) (ge n:Nat) (va vr vc:Value) (G D:Nat→Nat) (rp cp:List Int) (Q:Mx) (f:Nat→Rat) (J:Nat) (o:Ending) (w':World):Prop:=
 ∃v',o= .returned v'∧Zkj base w ge n va vr vc G D rp cp Q f J v' w'
theorem Zhg (base ge n:Nat) (va vr vc:Value) (M0:Nat→Nat→RF) (G D:Nat→Nat) (rp cp:List Int) (a:Mx) (r c J:Nat) (w:World) (h:ElM base w ge n va vr vc M0 G D rp cp) (ht:∀i j,i < n→j < n→Tdy (M0 i j) (a i j)) (hn:n≤7) (hr:r < n) (hc:c < n) (hrp:¬rp.getD r 0 < 0) (hp:a r c≠0) (hJ:∀i j,i < n→j < n→Sz J (a i j)) (hJ2:J≤4000000) (hb:base≤w.heap.size):
 Calls Tryz.prog 142 #[.pointer (some ⟨ge,0,none⟩),.int .i64 (r:Int),.int .i64 (c:Int)] w (Ycq base w ge n va vr vc G D rp cp (elQ rp cp a r c n 0) (Zhz rp a r c n) (2 * J)):=by
 have b:0 < n:=by omega
 have cl:1≤J:=Zex (hJ r c hr hc);have al:Hid (∀i,i < n→base≤G i∧G i < w.heap.size):=Lib.hid fun i hi=>by obtain ⟨h1,h2,_,_⟩:=h.2.1.lt hi b;exact ⟨h1,h2⟩
 obtain ⟨b0,b1,b2,b3⟩:=h.1.four;have HJ:=Lib.hid hJ;have HP:=Lib.hid hp;have br:=Wh n (by omega);have am:=Yi.zeros w n (by unfold maxLen;omega);have O:=Zb w (.cells (zfc n) 48);have b8:=h.1.later O;obtain ⟨c7,_,_,_⟩:=b8.four;have b9:List.replicate n zeroF=rfL n fun _=>zeroF:=by
  refine List.ext_getElem? fun i=>?_
  rcases Nat.lt_or_ge i n with e | e
  ·rw [Ym e];simp [e]
  ·rw [List.getElem?_eq_none (by simp;exact e),List.getElem?_eq_none (by rw [Zu];exact e)]
 rw [b9] at am;have a3:Zkj base w ge n va vr vc G D rp cp (elQ rp cp a r c 0 0) (Zhz rp a r c 0) (2 * J) (.slice (some ⟨w.heap.size,0,none⟩) n n) (w.alloc (.cells (zfc n) 48)):=
  ⟨M0,fun _=>zeroF,h.below O,fun i j hi hj=>by rw [elQ_start];exact ht i j hi hj,am,fun i _=>⟨by unfold Zhz;rw [if_neg (by omega),zeroF_q],(Vj 1).mono (by omega)⟩,Zd.of_below O,Zju.of_below O,O.mono hb⟩
 obtain ⟨go,co,rfl,_,_,cj,ck,_⟩:=h.2.1.outer b;obtain ⟨gr,cr,rfl,_,_,c8,cv⟩:=h.2.2.1.shape (by rw [h.2.2.2.2.1];exact b);obtain ⟨gc,cc,rfl,_,_,c9,cw⟩:=h.2.2.2.1.shape (by rw [h.2.2.2.2.2];exact b);have ba:Hid (¬rp.getD r 0 < 0):=Lib.hid hrp;have an:=Lib.hid h.2.2.2.2.1;have ao:=Lib.hid h.2.2.2.2.2;rw [an.out] at c8 b2 a3;rw [ao.out] at c9 b3 a3;rw [an.out,ao.out];have cn:(c:Int) < n:=by omega
 have cq:(r:Int) < n:=by omega
 clear h ht hJ hp am b9 b8 hrp;go_enter Tryz.func142,Tryz.ntmps142;go_wp2;clear b0 b1 b2 b3 c7 br O;generalize w.alloc (.cells (zfc n) 48)=W0 at *
 go_loopw [21] (fun x wr=>∃i:Nat,i≤n∧x= .int .i64 i∧Zkj base w ge n (.slice (some ⟨go,0,none⟩) n co) (.slice (some ⟨gr,0,none⟩) n cr) (.slice (some ⟨gc,0,none⟩) n cc) G D rp cp (elQ rp cp a r c i 0) (Zhz rp a r c i) (2 * J) (.slice (some ⟨w.heap.size,0,none⟩) n n) wr) (fun x _=>n - (intOf x).toNat)
 case atStart=>exact ⟨0,by omega,rfl,a3⟩
 case round=>
  clear a3;obtain ⟨i,hi,rfl,hA⟩:=hrel;rcases Nat.lt_or_ge i n with hil | hil
  ·have HA:=Lib.hid hA;obtain ⟨M,H,⟨hB,hM,hR,hC,_,_⟩,hT,hF,hH,Z,F,a0⟩:=hA;have cs:(i:Int) < n:=(by omega);obtain ⟨b0,b1,b2,b3⟩:=hB.four;obtain ⟨zi,aa⟩:=Y5 (l:=rp) (i:=i) (by rw [an.out];exact hil);obtain ⟨r0,_,_,_⟩:=hR.at_ aa;have K:=Zdw aa;by_cases hz:zi < 0
   ·have ap:=hT i c hil hc;rw [Yap] at ap;have a4:=Lib.hid ap;have bs:=Lib.hid hT;have U:Hid (rp.getD i 0 < 0):=Lib.hid (by rw [K];exact hz);obtain ⟨m1,_⟩:=hM.cellAt hil;obtain ⟨A1,n1,c1,A2,n2,c2,⟨x0,x1,x2,x3⟩,o⟩:=hM.at_ hil hc;obtain ⟨l1,l2,l3,l4⟩:=hM.lt hil b;unfold U3 at m1;have V:qs (a i c)=0∨qs (a i c)=1∨qs (a i c)= -1:=(by have:=WH (a i c);omega);clear aa K Z F a0 hT hF hH hR hC ap;have HM:=Lib.hid hM;have HB:=Lib.hid hB;clear hM hB;by_cases C:qs (a i c)=0
    ·have a5:Hid (a i c=0):=Lib.hid (Z7.1 C);go_wp2_with fail;refine (Zx _ (M i c) _ o).mono ?_;rw [a4.out.q,C];rintro _ w1 ⟨rfl,T⟩;have a6:=Lib.hid (HA.out.below T hb);clear b0 b1 b2 b3 r0 m1 x0 x1 x2 x3 o V;go_wp2;go_roundw
     case rel=>exact ⟨i+1,by omega,by go_num,a6.out.congr (fun s k hs hk=>Znm (.inr a5.out) hk) fun s hs=>Zjv (.inr a5.out) s⟩
     case measure=>simp [intOf];omega
    ·have aq:(qs (a i c)==0)=false:=(by simpa using C);clear V C;go_wp2_with fail;refine (Zx _ (M i c) _ o).mono ?_;rw [a4.out.q];rintro _ w1 ⟨rfl,T⟩;have a6:=Lib.hid (HA.out.below T hb);have P:=HM.out.below T;have bb:=HB.out.later T;clear b0 b1 b2 b3 r0 m1 x0 x1 x2 x3 o T;obtain ⟨_,b1,_,_⟩:=bb.four;obtain ⟨m1,_⟩:=P.cellAt hil;obtain ⟨m2,_⟩:=P.cellAt hr;unfold U3 at m1 m2;obtain ⟨A1,n1,c1,A2,n2,c2,⟨x0,x1,x2,x3⟩,o⟩:=P.at_ hil hc;obtain ⟨A3,n3,c3,A4,n4,c4,⟨y0,y1,y2,y3⟩,p⟩:=P.at_ hr hc;obtain ⟨r1,r2,r3,r4⟩:=P.lt hr b;have ar:Hid (Tdy (M r c) (a r c)):=Lib.hid (by have:=bs.out r c hr hc;rwa [Zsw (by have:=ba.out;omega)] at this);obtain ⟨q,hq⟩:∃q,q=a i c / a r c:=⟨_,rfl⟩;have HQ:=Lib.hid hq;have bc:Hid ((M i c).q / (M r c).q=q):=Lib.hid (by rw [a4.out.q,ar.out.q,hq]);have a7:(M i c).Sm:=(a4.out.rs (HJ.out i c hil hc)).sm (by omega);have a8:(M r c).Sm:=(ar.out.rs (HJ.out r c hr hc)).sm (by omega);have bd:(M r c).q≠0:=(by rw [ar.out.q];exact HP.out);have au:Hid (Sz (2 * J) q):=Lib.hid (by rw [hq];exact (Uc (HJ.out i c hil hc) (HJ.out r c hr hc)).mono (by omega));clear hq
     go_upto_region 6 with (fail)
     clear aq
     go_cut [9] (fun s9 wx=>U6 w1 (canF q) s9 wx)
     case first=>
      have C0:=Zm x0;have C1:=Zm x1;have C2:=Zm x2;have C3:=Zm x3;have E0:=Zm y0;have E1:=Zm y1;have E2:=Zm y2;have E3:=Zm y3;have D0:=Zm b1;have D1:=Zm m1;have D2:=Zm m2;have d:=Ze w1;clear x0 x1 x2 x3 y0 y1 y2 y3 b1 m1 m2;refine YF 25 (.go 0 (.go 1 (.go 2 (.go 3 (.go 4 (.go 5 (.go 6 (.go 7 (.go 8 (.go 9 (.go 10 (.go 11 (.go 12 (.go 13 (.go 14 (.go 15 (.go 16 (.go 17 (.go 18 (.go 19 (.fork 20 (.go 21 (.go 22 (.go 23 (.go 24 (.go 25 (.go 26 .done)))))) 24 (.go 20 (.go 21 (.go 22 (.go 23 (.go 25 (.go 26 .done))))))))))))))))))))))))))) (by kernel_rfl) (by kernel_rfl) ?_;repeat ((first | (refine ZK (v:=?_) rfl rfl rfl ?_ ?_;rotate_left;(· (intro _ t;go_simp;(try go_bits);(try with_reducible rfl)))) | (refine ZU (v:=?_) rfl rfl rfl ?_ ?_;rotate_left;(· (intro _ t;go_simp;(try go_bits);(try with_reducible rfl)))) | refine ZV rfl rfl rfl ?_ | refine ZL rfl rfl rfl (by assumption) ?_);(try simp only [Act.put,pu1,pu2,pu3,pu4,pu5,pu6]))
      refine WT rfl rfl (fun KR hKR=>?_) (fun KR hKR=>?_)
      ·go_simp;(with_reducible refine (Y9 _ _ (M i c) (M r c) _ (o.below d) (p.below d) a7 a8 bd).mono ?_);rw [bc.out];rintro _ wA ⟨vA,rfl,eA,ah⟩;have I:=Za d ah d.size;obtain ⟨A6,n6,c6,B6,m6,d6,rfl,_,_⟩:=id eA;refine hKR.out _ _ (Or.inr I) ?_;clear hKR KR;(try simp only [Act.put,pu1,pu2,pu3,pu4,pu5,pu6]);repeat ((first | (refine ZK (v:=?_) rfl rfl rfl ?_ ?_;rotate_left;(· (intro _ t;go_simp;(try go_bits);(try with_reducible rfl)))) | (refine ZU (v:=?_) rfl rfl rfl ?_ ?_;rotate_left;(· (intro _ t;go_simp;(try go_bits);(try with_reducible rfl)))) | refine ZV rfl rfl rfl ?_ | refine ZL rfl rfl rfl (by assumption) ?_);(try simp only [Act.put,pu1,pu2,pu3,pu4,pu5,pu6]))
       obtain ⟨WG,b5,S,ab⟩:=YZ wA (.bool false) (.slice none 0 0) (.bool false) (.slice none 0 0);refine Zz rfl rfl (fun KR hKR=>?_);go_simp;have av:=I.size;have E:=Za I ab I.size;refine hKR.out _ _ (Or.inr E) ?_;clear hKR KR b5;(try simp only [Act.put,pu1,pu2,pu3,pu4,pu5,pu6]);have bt:=eA.below ab;obtain ⟨t0,t1,t2,t3⟩:=S.four;obtain ⟨f0,f1,f2,f3⟩:=S.fourF;refine Zz rfl rfl (fun KR hKR=>?_);go_simp;refine hKR.out _ _ (Or.inl (by decide)) ?_;clear hKR KR;(try simp only [Act.put,pu1,pu2,pu3,pu4,pu5,pu6]);refine Zz rfl rfl (fun KR hKR=>?_);go_simp;refine hKR.out _ _ (Or.inl (by decide)) ?_;clear hKR KR;(try simp only [Act.put,pu1,pu2,pu3,pu4,pu5,pu6]);refine Yp ?_;go_wp2_with fail
       go_meet
       exact U6.mk S bt E av
      ·obtain ⟨WG,b5,S,ab⟩:=YZ w1.drew (.bool false) (.slice none 0 0) (.bool false) (.slice none 0 0);go_simp;have av:=d.size;have E:=Za d ab d.size;refine hKR.out _ _ (Or.inr E) ?_;clear hKR KR b5;(try simp only [Act.put,pu1,pu2,pu3,pu4,pu5,pu6])
       change Bk WG w1.heap.size 48 _ at S
       refine Zz rfl rfl (fun KR hKR=>?_);go_simp;(with_reducible refine (Y9 _ _ (M i c) (M r c) _ (o.below E) (p.below E) a7 a8 bd).mono ?_);rw [bc.out];rintro _ wA ⟨vA,rfl,eA,ah⟩;have I:=Za E ah E.size;obtain ⟨A6,n6,c6,B6,m6,d6,rfl,_,_⟩:=id eA;refine hKR.out _ _ (Or.inr I) ?_;clear hKR KR;(try simp only [Act.put,pu1,pu2,pu3,pu4,pu5,pu6]);have hG:=S.later ah;repeat ((first | (refine ZK (v:=?_) rfl rfl rfl ?_ ?_;rotate_left;(· (intro _ t;go_simp;(try go_bits);(try with_reducible rfl)))) | (refine ZU (v:=?_) rfl rfl rfl ?_ ?_;rotate_left;(· (intro _ t;go_simp;(try go_bits);(try with_reducible rfl)))) | refine ZV rfl rfl rfl ?_ | refine ZL rfl rfl rfl (by assumption) ?_);(try simp only [Act.put,pu1,pu2,pu3,pu4,pu5,pu6]))
       obtain ⟨t0,t1,t2,t3⟩:=hG.four;obtain ⟨f0,f1,f2,f3⟩:=hG.fourF;refine Zz rfl rfl (fun KR hKR=>?_);go_simp;refine hKR.out _ _ (Or.inl (by decide)) ?_;clear hKR KR;(try simp only [Act.put,pu1,pu2,pu3,pu4,pu5,pu6]);refine Zz rfl rfl (fun KR hKR=>?_);go_simp;refine hKR.out _ _ (Or.inl (by decide)) ?_;clear hKR KR;(try simp only [Act.put,pu1,pu2,pu3,pu4,pu5,pu6]);refine Yp ?_;go_wp2_with fail
       go_meet
       exact U6.mk hG eA I av
     case rest=>
      obtain ⟨gm,Am,nm,cm,ac,ad,ae,rfl,cx,A,m,bn⟩:=hcut;have be:=a6.out.below bn hb;have ct:w.heap.size < w1.heap.size:=by
       obtain ⟨_,H1,_,_,ca,_⟩:=a6.out;obtain ⟨g,_,e,_,h,_⟩:=ca.shape (by rw [Zu];exact b);injection e with e;injection e with e;injection e with e;omega
      clear x0 x1 x2 x3 y0 y1 y2 y3 b1 m1 m2 o p P bb bn;have X:=Lib.hid be;obtain ⟨M2,H2,_,_,b6,_⟩:=be;obtain ⟨_,_,_,_,⟨c0,cb,cd,ce⟩,⟨f0,f1,f2,f3⟩,_⟩:=b6.at_ (Ym (f:=H2) hil);obtain ⟨_,bo⟩:=b6.set_ (k:=i) (by rw [Zu];exact hil) m;have aw:=X.out.setF hb (fun s hs=>(al.out s hs).2) hil m au.out.rs (f':=Zhz rp a r c (i+1)) (fun s hs=>by rw [Zsx U.out,Zt,HQ.out]);have ai:=(Yg (w:=wc) (g:=w.heap.size) (i:=i * 4) (j:=i * 4+1) (k:=i * 4+2) (l:=i * 4+3) (x:= .bool (canF q).num.neg) (y:= .slice Am nm cm) (z:= .bool (canF q).den.neg) (u:= .slice ac ad ae)).bk A (by intro e;injection e with e;omega);have aj:=m.keep (bo.keep (by decide));obtain ⟨t0,t1,t2,t3⟩:=A.four;clear A m b6 bo
      go_upto_region 8 with (fail)
      clear t0 t1 t2 t3 c0 cb cd ce f0 f1 f2 f3;generalize ((((wc.setCell ⟨w.heap.size,i * 4,none⟩ (.bool (canF q).num.neg)).setCell ⟨w.heap.size,i * 4+1,none⟩ (.slice Am nm cm)).setCell ⟨w.heap.size,i * 4+2,none⟩ (.bool (canF q).den.neg)).setCell ⟨w.heap.size,i * 4+3,none⟩ (.slice ac ad ae))=W3 at *;have b0:W3.cell? ⟨ge,0,none⟩=some (.int .i64 (n:Int)):=by
       obtain ⟨_,_,hE,_⟩:=aw;exact hE.1.four.1
      go_wp2;clear b0
      go_loopw [78] (fun x wr=>∃j:Nat,j≤n∧x= .int .i64 j∧Zkj base w ge n (.slice (some ⟨go,0,none⟩) n co) (.slice (some ⟨gr,0,none⟩) n cr) (.slice (some ⟨gc,0,none⟩) n cc) G D rp cp (elQ rp cp a r c i j) (Zhz rp a r c (i+1)) (2 * J) (.slice (some ⟨w.heap.size,0,none⟩) n n) wr∧Bk wr gm 48 [.bool (canF q).num.neg,.slice Am nm cm,.bool (canF q).den.neg,.slice ac ad ae]∧Zv wr (.agg #[.bool (canF q).num.neg,.slice Am nm cm,.bool (canF q).den.neg,.slice ac ad ae]) (canF q)) (fun x _=>n - (intOf x).toNat)
      case atStart=>exact ⟨0,by omega,rfl,aw,ai,aj⟩
      case round=>
       clear aw ai aj;obtain ⟨j,hj,rfl,hA,A,m⟩:=hrel;rcases Nat.lt_or_ge j n with hjl | hjl
       ·have ax:=Lib.hid hA;obtain ⟨M,H,⟨hB,hM,hR,hC,_,_⟩,hT,hF,hH,Z,F,a0⟩:=hA;have cu:(j:Int) < n:=(by omega);obtain ⟨b0,b1,b2,b3⟩:=hB.four;obtain ⟨zj,af⟩:=Y5 (l:=cp) (i:=j) (by rw [ao.out];exact hjl);obtain ⟨k0,_,_,_⟩:=hC.at_ af;have L:=Zdw af;have ay:=Lib.hid A;have az:=Lib.hid m;clear A m;by_cases b7:zj < 0
        ·have b4:Hid (cp.getD j 0 < 0):=Lib.hid (by rw [L];exact b7);have N:Hid (Tdy (M r j) (a r j)):=Lib.hid (by have:=hT r j hr hjl;rwa [Zsw (by have:=ba.out;omega)] at this);have ak:Hid (Tdy (M i j) (a i j)):=Lib.hid (by have:=hT i j hil hjl;rwa [elQ_at] at this);obtain ⟨m2,_⟩:=hM.cellAt hr;obtain ⟨A3,n3,c3,A4,n4,c4,⟨y0,y1,y2,y3⟩,p⟩:=hM.at_ hr hjl;obtain ⟨r1,r2,r3,r4⟩:=hM.lt hr b;unfold U3 at m2;have HM:=Lib.hid hM;have HB:=Lib.hid hB;have V:qs (a r j)=0∨qs (a r j)=1∨qs (a r j)= -1:=(by have:=WH (a r j);omega);clear af L Z F a0 hT hF hH hR hC hM hB;by_cases C:qs (a r j)=0
         ·have a5:Hid (a r j=0):=Lib.hid (Z7.1 C);go_wp2_with fail;refine (Zx _ (M r j) _ p).mono ?_;rw [N.out.q,C];rintro _ w2 ⟨rfl,B⟩;have X:=Lib.hid (ax.out.below B hb);have bf:=ay.out.later B;have bg:=az.out.below B;clear b0 b1 b2 b3 k0 m2 y0 y1 y2 y3 p V;go_wp2;go_roundw
          case rel=>exact ⟨j+1,by omega,by go_num,X.out.congr (fun s k hs hk=>Znn (.inr a5.out)) fun s hs=>rfl,bf,bg⟩
          case measure=>simp [intOf];omega
         ·have aq:(qs (a r j) !=0)=true:=(by simpa using C);clear V C;go_wp2_with fail;refine (Zx _ (M r j) _ p).mono ?_;rw [N.out.q];rintro _ w2 ⟨rfl,B⟩;have X:=Lib.hid (ax.out.below B hb);have A:=ay.out.later B;have m:=az.out.below B;have hM:=HM.out.below B;have hB:=HB.out.later B;clear b0 b1 b2 b3 k0 m2 y0 y1 y2 y3 p B;obtain ⟨_,b1,_,_⟩:=hB.four;obtain ⟨m1,_⟩:=hM.cellAt hil;obtain ⟨m2,_⟩:=hM.cellAt hr;unfold U3 at m1 m2;obtain ⟨l1,l2,l3,l4⟩:=hM.lt hil b;obtain ⟨A1,n1,c1,A2,n2,c2,⟨x0,x1,x2,x3⟩,o⟩:=hM.at_ hil hjl;obtain ⟨A3,n3,c3,A4,n4,c4,⟨y0,y1,y2,y3⟩,p⟩:=hM.at_ hr hjl;obtain ⟨t0,t1,t2,t3⟩:=A.four;obtain ⟨rj,ag⟩:∃rj,rj=a r j:=⟨_,rfl⟩;obtain ⟨a1,a2⟩:∃a1,a1=a i j:=⟨_,rfl⟩;have bh:=Lib.hid ag;have bi:=Lib.hid a2;have bu:Hid ((M r j).q=rj):=Lib.hid (by rw [N.out.q,ag]);have bv:Hid ((M i j).q=a1):=Lib.hid (by rw [ak.out.q,a2]);have bj:Sz J rj:=(by rw [ag];exact HJ.out r j hr hjl);have a7:(M i j).Sm:=(ak.out.rs (HJ.out i j hil hjl)).sm (by omega);have a8:(M r j).Sm:=(N.out.rs (HJ.out r j hr hjl)).sm (by omega);have bw:(canF q).Sm:=au.out.rs.sm (by omega);have bx:(canF (q * rj)).Sm:=(We au.out bj).rs.sm (by omega);clear ag a2 bj hB
          go_upto_region 12 with (fail)
          clear aq;have C0:=Zm x0;have C1:=Zm x1;have C2:=Zm x2;have C3:=Zm x3;have E0:=Zm y0;have E1:=Zm y1;have E2:=Zm y2;have E3:=Zm y3;have T0:=Zm t0;have T1:=Zm t1;have T2:=Zm t2;have T3:=Zm t3;have D0:=Zm b1;have D1:=Zm m1;have D2:=Zm m2;have d:=Ze w2;clear x0 x1 x2 x3 y0 y1 y2 y3 t0 t1 t2 t3 b1 m1 m2;refine Zo 32 [0,1,2,3,4,5,6,7,8,9,10,11,12,13,14,15,16,17,18,19,20,21,22,23,24,25,26,27,28,29,30,31,32] (by kernel_rfl) (by kernel_rfl) ?_;repeat ((first | (refine Zc (v:=?_) rfl rfl rfl ?_ ?_;rotate_left;(· (intro _ t;go_simp;(try go_bits);(try with_reducible rfl)))) | (refine Zg (v:=?_) rfl rfl rfl ?_ ?_;rotate_left;(· (intro _ t;go_simp;(try go_bits);(try with_reducible rfl)))) | refine Zh rfl rfl rfl ?_);(try simp only [Act.put,pu1,pu2,pu3,pu4,pu5,pu6]))
          refine Zf rfl rfl (fun KR hKR=>?_);go_simp;(with_reducible refine (XR _ _ (canF q) (M r j) _ (m.below d) (p.below d) bw a8).mono ?_);rw [Zt,bu.out];rintro _ w6 ⟨v6,rfl,e6,bp⟩;have Y:=Za d bp d.size;refine hKR.out _ _ (Or.inr Y) ?_;clear hKR KR;(try simp only [Act.put,pu1,pu2,pu3,pu4,pu5,pu6]);repeat ((first | (refine Zc (v:=?_) rfl rfl rfl ?_ ?_;rotate_left;(· (intro _ t;go_simp;(try go_bits);(try with_reducible rfl)))) | (refine Zg (v:=?_) rfl rfl rfl ?_ ?_;rotate_left;(· (intro _ t;go_simp;(try go_bits);(try with_reducible rfl)))) | refine Zh rfl rfl rfl ?_);(try simp only [Act.put,pu1,pu2,pu3,pu4,pu5,pu6]))
          refine Zf rfl rfl (fun KR hKR=>?_);go_simp;(with_reducible refine (Wz _ _ (M i j) (canF (q * rj)) _ (o.below Y) e6 a7 bx).mono ?_);rw [Zt,bv.out];rintro _ w7 ⟨v7,rfl,e7,bq⟩;have R:=Za Y bq Y.size;obtain ⟨B9,l9,k9,cf,cg,ch,rfl,_,_⟩:=id e7;have a9:=hM.below R;obtain ⟨_,_,_,_,_,_,⟨c0,c1,c2,c3⟩,_⟩:=a9.at_ hil hjl;obtain ⟨f0,f1,f2,f3⟩:=a9.frozen hil hjl;refine hKR.out _ _ (Or.inr R) ?_;clear hKR KR;(try simp only [Act.put,pu1,pu2,pu3,pu4,pu5,pu6]);repeat ((first | (refine Zc (v:=?_) rfl rfl rfl ?_ ?_;rotate_left;(· (intro _ t;go_simp;(try go_bits);(try with_reducible rfl)))) | (refine Zg (v:=?_) rfl rfl rfl ?_ ?_;rotate_left;(· (intro _ t;go_simp;(try go_bits);(try with_reducible rfl)))) | refine Zh rfl rfl rfl ?_);(try simp only [Act.put,pu1,pu2,pu3,pu4,pu5,pu6]))
          refine Zf rfl rfl (fun KR hKR=>?_);go_simp;refine hKR.out _ _ (Or.inl (by decide)) ?_;clear hKR KR;(try simp only [Act.put,pu1,pu2,pu3,pu4,pu5,pu6]);refine Zy ?_;clear C0 C1 C2 C3 D0 D1 D2 E0 E1 E2 E3 T0 T1 T2 T3;obtain ⟨_,ci⟩:=a9.set_ hil hjl e7;have bz:=(X.out.below R hb).setM al.out hil hjl e7 (Q':=elQ rp cp a r c i (j+1)) (fun s k hs hk=>by rw [Zwq U.out b4.out,HQ.out,bh.out,bi.out]);have bl:=(Yg (w:=w7) (g:=G i) (i:=j * 4) (j:=j * 4+1) (k:=j * 4+2) (l:=j * 4+3) (x:= .bool (canF (a1 - q * rj)).num.neg) (y:= .slice B9 l9 k9) (z:= .bool (canF (a1 - q * rj)).den.neg) (u:= .slice cf cg ch)).bk (A.later R) (by intro e;injection e with e;have:=(al.out i hil).2;omega);have bm:=(m.below R).keep (ci.keep (by decide));clear hM a9 A m o p e6 e7 bp bq d Y R;go_wp2;go_roundw
          case rel=>exact ⟨j+1,by omega,by go_num,bz,bl,bm⟩
          case measure=>simp [intOf];omega
        ·have b4:Hid (¬cp.getD j 0 < 0):=Lib.hid (by rw [L];exact b7);have c5:0≤zj:=(by omega);clear af L Z F a0 hT hF hH hM hR hC hB b7;go_wp2;go_roundw
         case rel=>exact ⟨j+1,by omega,by go_num,ax.out.congr (fun s k hs hk=>Znn (.inl (by have:=b4.out;omega))) fun s hs=>rfl,ay.out,az.out⟩
         case measure=>simp [intOf];omega
       ·obtain rfl:n=j:=by omega
        go_wp2;go_roundw
        case rel=>exact ⟨i+1,by omega,by go_num,hA.congr (fun s k hs hk=>Zwp hk) fun s hs=>rfl⟩
        case measure=>simp [intOf];omega
   ·have U:Hid (¬rp.getD i 0 < 0):=Lib.hid (by rw [K];exact hz);have c5:0≤zi:=(by omega);clear aa K Z F a0 hT hF hH hM hR hC hB hz;go_wp2;go_roundw
    case rel=>exact ⟨i+1,by omega,by go_num,HA.out.congr (fun s k hs hk=>Znm (.inl (by have:=U.out;omega)) hk) fun s hs=>Zjv (.inl (by have:=U.out;omega)) s⟩
    case measure=>simp [intOf];omega
  ·obtain rfl:n=i:=by omega
   go_wp2;go_ret;exact ⟨_,rfl,hA⟩
end
namespace Pl
def V8 (cols:List (List En)) (k t:Nat):Mx:=fun i j=>if j < k then Xt (cols.getD j []) i else if j=k then Xt ((cols.getD k []).take t) i else 0
theorem Zlt (cols:List (List En)) (i j:Nat):V8 cols 0 0 i j=0:=by
 unfold V8;rw [if_neg (by omega)];split
 ·rfl
 ·rfl
theorem Zsy {es:List En} {t i:Nat} {e:En} (h:Inc none es) (he:es[t]? =some e):Xt (es.take (t+1)) i=if e.idx=(i:Int) then e.f.q else Xt (es.take t) i:=by
 rw [List.take_add_one,he];unfold Xt;simp only [Option.toList];rw [Zgo]
theorem Zpm {cols:List (List En)} {k t i0 i j:Nat} {es:List En} {e:En} (hc:cols[k]? =some es) (hinc:Inc none es) (he:es[t]? =some e) (hi:e.idx=(i0:Int)):V8 cols k (t+1) i j=if i=i0∧j=k then e.f.q else V8 cols k t i j:=by
 have hg:cols.getD k []=es:=by simp [List.getD,hc]
 unfold V8;by_cases e1:j < k
 ·rw [if_pos e1,if_pos e1,if_neg (by omega)]
 ·rw [if_neg e1,if_neg e1];by_cases e2:j=k
  ·rw [if_pos e2,if_pos e2,hg,Zsy hinc he,hi];by_cases e3:i=i0
   ·rw [if_pos (by omega),if_pos ⟨e3,e2⟩]
   ·rw [if_neg (by omega),if_neg (by omega)]
  ·rw [if_neg e2,if_neg e2,if_neg (by omega)]
theorem Zpn {cols:List (List En)} {k i j:Nat} {es:List En} (hc:cols[k]? =some es):V8 cols k es.length i j=V8 cols (k+1) 0 i j:=by
 have hg:cols.getD k []=es:=by simp [List.getD,hc]
 unfold V8;by_cases e1:j < k
 ·rw [if_pos e1,if_pos (by omega)]
 ·rw [if_neg e1];by_cases e2:j=k
  ·rw [if_pos e2,if_pos (by omega),hg,List.take_length,e2,hg]
  ·rw [if_neg e2,if_neg (by omega)];split
   ·rfl
   ·rfl
theorem Zsz {cols:List (List En)} {n i j:Nat} (hj:j < n):V8 cols n 0 i j=Xt (cols.getD j []) i:=by unfold V8;rw [if_pos hj]
def Zlu (R:Nat→Nat) (i:Nat):Nat→Int
 | 0=> -1
 | s+1=>if R s=i then (s:Int) else Zlu R i s
def Vv (n t:Nat) (R:Nat→Nat):List Int:=(List.range n).map fun i=>Zlu R i t
theorem XB {n t:Nat} {R:Nat→Nat}:(Vv n t R).length=n:=by simp [Vv]
theorem WB {n t i:Nat} {R:Nat→Nat} (h:i < n):(Vv n t R)[i]? =some (Zlu R i t):=by simp [Vv,h]
theorem VS {n t i:Nat} {R:Nat→Nat} (h:i < n):(Vv n t R).getD i 0=Zlu R i t:=Zdw (WB h)
theorem V6 {R:Nat→Nat} {i:Nat}:∀{t:Nat},Zlu R i t < 0↔∀s,s < t→R s≠i
 | 0=>⟨fun _ s h=>absurd h (by omega),fun _=>by unfold Zlu;omega⟩
 | t+1=>by
  unfold Zlu
  by_cases e:R t=i
  ·rw [if_pos e]
   exact ⟨fun h=>by omega,fun h=>absurd e (h t (by omega))⟩
  ·rw [if_neg e,V6]
   exact ⟨fun h s hs=>by
    by_cases e2:s=t
    ·rw [e2];exact e
    ·exact h s (by omega),fun h s hs=>h s (by omega)⟩
theorem Yaq {R:Nat→Nat} {n s:Nat} (h:Inj n n R) (hs:s < n):Zlu R (R s) n=s:=by
 have a:∀t,s < t→t≤n→Zlu R (R s) t=s:=by
  intro t
  induction t with
  | zero=>intro h1;omega
  | succ t ih=>
   intro h1 h2;unfold Zlu;by_cases e:t=s
   ·subst e;rw [if_pos rfl]
   ·rw [if_neg fun g=>e (h.eq (by omega) hs g)];exact ih (by omega) (by omega)
 exact a n hs (Nat.le_refl _)
theorem Zfp {R R':Nat→Nat} {i:Nat}:∀{t:Nat},(∀s,s < t→R s=R' s)→Zlu R i t=Zlu R' i t
 | 0,_=>rfl
 | t+1,h=>by unfold Zlu;rw [h t (by omega),Zfp fun s hs=>h s (by omega)]
theorem Zno {n t r:Nat} {R:Nat→Nat} (hf:∀s,s < t→R s≠r):(Vv n t R).set r (t:Int)=Vv n (t+1) (Wl R t r):=by
 refine List.ext_getElem? fun i=>?_
 rcases Nat.lt_or_ge i n with e | e
 ·rw [WB e,List.getElem?_set];unfold Zlu;rw [ZG];by_cases g:r=i
  ·subst g;rw [if_pos rfl,if_pos (by rw [XB];exact e),if_pos rfl]
  ·rw [if_neg g,if_neg g,WB e,Zfp (R':=Wl R t r) fun s hs=>(ZE hs).symm]
 ·rw [List.getElem?_eq_none (by rw [List.length_set,XB];exact e),List.getElem?_eq_none (by rw [XB];exact e)]
theorem Zta {n:Nat} {R:Nat→Nat}:Vv n 0 R=List.replicate n (-1):=by
 refine List.ext_getElem? fun i=>?_
 rcases Nat.lt_or_ge i n with e | e
 ·rw [WB e];unfold Zlu;simp [e]
 ·rw [List.getElem?_eq_none (by rw [XB];exact e),List.getElem?_eq_none (by simp;exact e)]
theorem Wn {R:Nat→Nat} {n t r i:Nat} (hi:i < n):((Vv n (t+1) (Wl R t r)).getD i 0 < 0)↔((∀s,s < t→R s≠i)∧i≠r):=by
 rw [VS hi,V6];constructor
 ·intro h;refine ⟨fun s hs=>?_,fun e=>?_⟩
  ·have:=h s (by omega);rwa [ZE hs] at this
  ·have:=h t (by omega);rw [ZG] at this;exact this e.symm
 ·rintro ⟨h1,h2⟩ s hs;by_cases e:s=t
  ·rw [e,ZG];exact fun g=>h2 g.symm
  ·rw [ZE (by omega)];exact h1 s (by omega)
theorem Zwr {n t K:Nat} {A a:Mx} {R C:Nat→Nat} {m:Mx} (h:Us n t A a R C m) {r c:Nat} (hr:r < n) (hc:c < n) (hrf:∀s,s < t→R s≠r) (hcf:∀s,s < t→C s≠c) (hp:a r c≠0) (hK:1≤K) (hs:∀i j,i < n→j < n→Sz (5^t * K) (a i j)):
 Us n (t+1) A (elQ (Vv n (t+1) (Wl R t r)) (Vv n (t+1) (Wl C t c)) a r c n 0) (Wl R t r) (Wl C t c) (Wl m t (Zhz (Vv n (t+1) (Wl R t r)) a r c n))∧
 (∀i,i < n→Sz (2 * (5^t * K)) (Zhz (Vv n (t+1) (Wl R t r)) a r c n i))∧
 ∀i j,i < n→j < n→Sz (5^(t+1) * K) (elQ (Vv n (t+1) (Wl R t r)) (Vv n (t+1) (Wl C t c)) a r c n 0 i j):=by
 have b:∀i,i < n→Zhz (Vv n (t+1) (Wl R t r)) a r c n i=if (∀s,s < t→R s≠i)∧i≠r then a i c / a r c else 0:=fun i hi=>by
  unfold Zhz;by_cases e:(∀s,s < t→R s≠i)∧i≠r
  ·rw [if_pos e,if_pos ⟨hi,(Wn hi).2 e⟩]
  ·rw [if_neg e,if_neg fun g=>e ((Wn hi).1 g.2)]
 have d:∀i j,i < n→j < n→elQ (Vv n (t+1) (Wl R t r)) (Vv n (t+1) (Wl C t c)) a r c n 0 i j=if ((∀s,s < t→R s≠i)∧i≠r)∧((∀s,s < t→C s≠j)∧j≠c) then a i j - Zhz (Vv n (t+1) (Wl R t r)) a r c n i * a r j else a i j:=fun i j hi hj=>by
  unfold elQ;by_cases e:((∀s,s < t→R s≠i)∧i≠r)∧((∀s,s < t→C s≠j)∧j≠c)
  ·rw [if_pos e,if_pos ⟨.inl hi,(Wn hi).2 e.1,(Wn hj).2 e.2⟩,b i hi,if_pos e.1]
  ·rw [if_neg e,if_neg fun g=>e ⟨(Wn hi).1 g.2.1,(Wn hj).1 g.2.2⟩]
 classical
 obtain ⟨b1,b2⟩:=Yck (m':=Wl m t (Zhz (Vv n (t+1) (Wl R t r)) a r c n)) (t:=t) (P:=fun i=>(∀s,s < t→R s≠i)∧i≠r) (Q:=fun j=>(∀s,s < t→C s≠j)∧j≠c) hK hr hc hs (fun i hi=>by rw [ZG,b i hi]) (a':=elQ (Vv n (t+1) (Wl R t r)) (Vv n (t+1) (Wl C t c)) a r c n 0) (fun i j hi hj=>by rw [d i j hi hj,ZG]);refine ⟨h.step hr hc hrf hcf hp (fun s hs=>ZE hs) ZG (fun s hs=>ZE hs) ZG (fun s i hs=>by rw [ZE hs]) (fun i hi=>by rw [ZG];exact b i hi) (fun i j hi hj=>by rw [ZG];exact d i j hi hj),fun i hi=>?_,b2⟩;have:=b1 i hi
 rwa [ZG] at this
def Zlv (R:Nat→Nat) (m:Mx) (t k:Nat):Nat→Rat:=fun p=>if p=t then 1 else if R p < k then m t (R p) else 0
theorem Zpo {R:Nat→Nat} {m:Mx} {t:Nat} (p:Nat):Zlv R m t 0 p=if p=t then 1 else 0:=by
 unfold Zlv;split
 ·rfl
 ·rw [if_neg (by omega)]
theorem Ztb {n:Nat} {R:Nat→Nat} {m:Mx} {t k p:Nat} (h0:m t k=0):Zlv R m t k p=Zlv R m t (k+1) p:=by
 unfold Zlv;split
 ·rfl
 ·by_cases e:R p=k
  ·rw [if_neg (by omega),if_pos (by omega),e,h0]
  ·by_cases e2:R p < k
   ·rw [if_pos e2,if_pos (by omega)]
   ·rw [if_neg e2,if_neg (by omega)]
theorem Ztc {n:Nat} {R:Nat→Nat} {m:Mx} {t k p s:Nat} (h:Inj n n R) (ht:t < n) (hp:p < n) (hs:s < n) (hk:R s=k) (h0:m t k≠0) (hm0:m t (R t)=0):Zlv R m t (k+1) p=if p=s then m t k else Zlv R m t k p:=by
 have a:s≠t:=fun e=>h0 (by rw [← hk,e];exact hm0)
 unfold Zlv;by_cases e:p=s
 ·subst e;rw [if_pos rfl,if_neg a,if_pos (by omega),hk]
 ·rw [if_neg e];split
  ·rfl
  ·have:R p≠k:=fun g=>e (h.eq hp hs (by rw [g,hk]))
   by_cases e2:R p < k
   ·rw [if_pos e2,if_pos (by omega)]
   ·rw [if_neg e2,if_neg (by omega)]
theorem Zws {n:Nat} {R:Nat→Nat} {m:Mx} {t p:Nat} (h:Inj n n R) (hp:p < n) (hm0:∀q,q≤t→m t (R q)=0):Zlv R m t n p=luL R m t p:=by
 unfold Zlv luL;split
 ·rfl
 ·rw [if_pos (h.1 p hp)];split
  ·rfl
  ·exact hm0 p (by omega)
def upP (R C:Nat→Nat) (a:Mx) (t k:Nat):Nat→Rat:=fun s=>if s < k then a (R s) (C t) else 0
theorem Zwt {R C:Nat→Nat} {a:Mx} {t k:Nat} (s:Nat):upP R C a t (k+1) s=if s=k then a (R k) (C t) else upP R C a t k s:=by
 unfold upP;by_cases e:s=k
 ·subst e;rw [if_pos rfl,if_pos (by omega)]
 ·rw [if_neg e];by_cases e2:s < k
  ·rw [if_pos e2,if_pos (by omega)]
  ·rw [if_neg e2,if_neg (by omega)]
theorem Yar {R C:Nat→Nat} {a:Mx} {t:Nat} (s:Nat):upP R C a t (t+1) s=luU R C a t s:=by
 unfold upP luU;by_cases e:s≤t
 ·rw [if_pos e,if_pos (by omega)]
 ·rw [if_neg e,if_neg (by omega)]
end Pl
section
theorem Zlw {P:Program} {Q:Exit→Act→World→Prop} {id:Nat} {l:List Oper} {a:Act} {w:World} (S:World→Prop) (h0:S w.drew) (n:Nat) (is:List Nat) (hm:P.follows .mixedOrders=true) (hok:Zwe .any l.toArray n is=true)
 (h:Xe P l.toArray (NoPanic Q) S n is a w.drew):(Code.region id l.toArray true).wp P Q a w:=by
 simp only [Zwe,Bool.and_eq_true,decide_eq_true_eq] at hok;obtain ⟨hs,b,hl⟩:=hok;refine wp_region_noPanic (wp_region_any hm (AnyG.any _ _ _ _ (S:=S) (n:=n) ?_));rw [← hl];have:=AnyG.of_seq (P:=P) (Q:=NoPanic Q) (S:=S) (fun c a d v w h=>h) hs is _ a w.drew false b (fun _=>h0) h
 rwa [hl] at this ⊢
theorem Yi.othP {base:Nat} {w w':World} {P:Nat→Prop} {v:Value} {fs:List RF} (h:Yi base w v fs) (ho:Zju P w w') (hk:ZJ w w') (hne:∀b,v.ownBlock=some b→¬P b):Yi base w' v fs:=by
 obtain ⟨cs,h1,h2⟩:=h;refine ⟨cs,⟨h1.1,?_⟩,h2.keep hk⟩;rcases h1.2 with hn | ⟨g',cap,cur,rfl,hb',hgg,rest⟩
 ·exact .inl hn
 ·exact .inr ⟨g',cap,cur,rfl,hb',(ho.2 g' (Yo hgg) (hne g' (by simp [Value.ownBlock]))).trans hgg,rest⟩
namespace Pl
def Zqc (n t:Nat) (R:Nat→Nat):List Int:=(List.range n).map fun s=>if s < t then (R s:Int) else 0
theorem Vo {n t:Nat} {R:Nat→Nat}:(Zqc n t R).length=n:=by simp [Zqc]
theorem Zbw {n t s:Nat} {R:Nat→Nat} (h:s < n):(Zqc n t R)[s]? =some (if s < t then (R s:Int) else 0):=by simp [Zqc,h]
theorem Zhh {n t:Nat} {R:Nat→Nat} {l:List Int} (hl:l.length=n) (h:∀s,s < n→l[s]? =some (if s < t then (R s:Int) else 0)):l=Zqc n t R:=by
 refine List.ext_getElem? fun s=>?_
 rcases Nat.lt_or_ge s n with e | e
 ·rw [h s e,Zbw e]
 ·rw [List.getElem?_eq_none (by omega),List.getElem?_eq_none (by rw [Vo];exact e)]
theorem Zjw {n:Nat} {R:Nat→Nat}:List.replicate n 0=Zqc n 0 R:=Zhh (by simp) fun s hs=>by simp [hs]
theorem Znp {n t r:Nat} {R:Nat→Nat} (ht:t < n):(Zqc n t R).set t (r:Int)=Zqc n (t+1) (Wl R t r):=Zhh (by simp [Zqc]) fun s hs=>by
 rw [List.getElem?_set]
 by_cases e:t=s
 ·subst e
  rw [if_pos rfl,Vo,if_pos hs,if_pos (by omega),ZG]
 ·rw [if_neg e,Zbw hs]
  by_cases e2:s < t
  ·rw [if_pos e2,if_pos (by omega),ZE e2]
  ·rw [if_neg e2,if_neg (by omega)]
theorem Znq {n:Nat} {R:Nat→Nat}:Zqc n n R=Zjm n R:=by
 refine (Zhh (Zdr _ _) fun s hs=>?_).symm;rw [Zbv hs,if_pos hs]
def Zpr (n t:Nat) (L:Mx):List (List En):=(List.range n).map fun s=>if s < t then spV (L s) n else []
theorem Wo {n t:Nat} {L:Mx}:(Zpr n t L).length=n:=by simp [Zpr]
theorem U7 {n t s:Nat} {L:Mx} (h:s < n):(Zpr n t L)[s]? =some (if s < t then spV (L s) n else []):=by simp [Zpr,h]
theorem Zhi {n t:Nat} {L:Mx} {l:List (List En)} (hl:l.length=n) (h:∀s,s < n→l[s]? =some (if s < t then spV (L s) n else [])):l=Zpr n t L:=by
 refine List.ext_getElem? fun s=>?_
 rcases Nat.lt_or_ge s n with e | e
 ·rw [h s e,U7 e]
 ·rw [List.getElem?_eq_none (by omega),List.getElem?_eq_none (by rw [Wo];exact e)]
theorem Zdx {n:Nat} {L:Mx}:List.replicate n []=Zpr n 0 L:=Zhi (by simp) fun s hs=>by simp [hs]
theorem Zhj {n t:Nat} {L:Mx} (ht:t < n):(Zpr n t L).set t (spV (L t) n)=Zpr n (t+1) L:=Zhi (by simp [Zpr]) fun s hs=>by
 rw [List.getElem?_set]
 by_cases e:t=s
 ·subst e
  rw [if_pos rfl,Wo,if_pos hs,if_pos (by omega)]
 ·rw [if_neg e,U7 hs]
  by_cases e2:s < t
  ·rw [if_pos e2,if_pos (by omega)]
  ·rw [if_neg e2,if_neg (by omega)]
theorem Znr {n:Nat} {L:Mx}:Zpr n n L=vcL n L:=by
 refine (Zhi (Xz _ _) fun s hs=>?_).symm;rw [VO hs,if_pos hs]
end Pl
def Xf (U:World) (ge ga gr gc n:Nat) (G D:Nat→Nat) (rp cp:List Int) (Q:Mx) (wr:World):Prop:=
 ∃M,ElM U.heap.size wr ge n (.slice (some ⟨ga,0,none⟩) n n) (.slice (some ⟨gr,0,none⟩) n n) (.slice (some ⟨gc,0,none⟩) n n) M G D rp cp∧(∀i j,i < n→j < n→Tdy (M i j) (Q i j))∧Below U.heap.size U wr
section
variable {U wr w':World} {ge ga gr gc n:Nat} {G D:Nat→Nat} {rp cp:List Int} {Q Q':Mx}
theorem Xf.below (h:Xf U ge ga gr gc n G D rp cp Q wr) (hb:Below wr.heap.size wr w'):Xf U ge ga gr gc n G D rp cp Q w':=by
 obtain ⟨M,h1,h2,h3⟩:=h;exact ⟨M,h1.below hb,h2,Za h3 hb h3.size⟩
theorem Xf.congr (h:Xf U ge ga gr gc n G D rp cp Q wr) (e:∀i j,i < n→j < n→Q i j=Q' i j):Xf U ge ga gr gc n G D rp cp Q' wr:=by
 obtain ⟨M,h1,h2,h3⟩:=h;exact ⟨M,h1,fun i j hi hj=>by rw [← e i j hi hj];exact h2 i j hi hj,h3⟩
theorem Xf.setM (h:Xf U ge ga gr gc n G D rp cp Q wr) {i j:Nat} (hi:i < n) (hj:j < n) {x y z u:Value} {q:Rat} (hq:Zv wr (.agg #[x,y,z,u]) (canF q)) (hf:∀s k,s < n→k < n→Q' s k=if s=i∧k=j then q else Q s k):
 Xf U ge ga gr gc n G D rp cp Q' ((((wr.setCell ⟨G i,j * 4,none⟩ x).setCell ⟨G i,j * 4+1,none⟩ y).setCell ⟨G i,j * 4+2,none⟩ z).setCell ⟨G i,j * 4+3,none⟩ u):=by
 obtain ⟨M,⟨e1,e2,e3,e4,e5⟩,h2,h3⟩:=h;obtain ⟨g1,g2⟩:=e2.set_ hi hj hq;obtain ⟨l1,_⟩:=e2.lt hi (by omega);refine ⟨_,⟨g2.bk e1 (by decide),g1,e3.but g2 (by decide),e4.but g2 (by decide),e5⟩,fun s k hs hk=>?_,ZA h3 l1 _ _ _ _ _ _ _ _⟩;rw [hf s k hs hk];unfold Yac;by_cases e:s=i∧k=j
 ·rw [if_pos e,if_pos e];exact .inl rfl
 ·rw [if_neg e,if_neg e];exact h2 s k hs hk
theorem Xf.farI (h:Xf U ge ga gr gc n G D rp cp Q wr) {g i:Nat} {v:Value} (hk:Zd 3 wr (wr.setCell ⟨g,i,none⟩ v)) (hg:U.heap.size≤g) (h1:g≠gr) (h2:g≠gc):Xf U ge ga gr gc n G D rp cp Q (wr.setCell ⟨g,i,none⟩ v):=by
 obtain ⟨M,⟨e1,e2,e3,e4,e5⟩,h4,h3⟩:=h;have ho:=ZT.of_set (g:=g) (i:=i) (v:=v) (w:=wr);exact ⟨M,⟨hk.bk e1 (by decide),e2.but hk (by decide) (by decide) (by decide),e3.others ho (fun b hb e=>by simp [Value.ownBlock] at hb;injection e with e;omega),e4.others ho (fun b hb e=>by simp [Value.ownBlock] at hb;injection e with e;omega),e5⟩,h4,h3.setCell (p:=⟨g,i,none⟩) hg v⟩
theorem Xf.but (h:Xf U ge ga gr gc n G D rp cp Q wr) {e:TypeId} (hk:Zd e wr w') (hb:Below U.heap.size U w') (h1:160≠e) (h2:23≠e) (h3:48≠e) (h4:123≠e) (h5:3≠e):Xf U ge ga gr gc n G D rp cp Q w':=by
 obtain ⟨M,⟨e1,e2,e3,e4,e5⟩,g4,g3⟩:=h;exact ⟨M,⟨hk.bk e1 h1,e2.but hk h2 h3 h4,e3.but hk h5,e4.but hk h5,e5⟩,g4,hb⟩
theorem Xf.setR (h:Xf U ge ga gr gc n G D rp cp Q wr) (hne:gr≠gc) {r:Nat} (hr:r < n) {z:Int} (h0: -9223372036854775808≤z) (h1:z≤9223372036854775807):
 Xf U ge ga gr gc n G D (rp.set r z) cp Q (wr.setCell ⟨gr,r,none⟩ (.int .i64 z))∧Zd 3 wr (wr.setCell ⟨gr,r,none⟩ (.int .i64 z)):=by
 obtain ⟨M,⟨e1,e2,e3,e4,e5,e6⟩,h4,h3⟩:=h;obtain ⟨g1,hk⟩:=e3.set_ (k:=r) (by omega) h0 h1;have ho:=ZT.of_set (g:=gr) (i:=r) (v:= .int .i64 z) (w:=wr);exact ⟨⟨M,⟨hk.bk e1 (by decide),e2.but hk (by decide) (by decide) (by decide),g1,e4.others ho (fun b hb e=>by simp [Value.ownBlock] at hb;injection e with e;omega),by rw [List.length_set];exact e5,e6⟩,h4,h3.setCell (p:=⟨gr,r,none⟩) e3.base _⟩,hk⟩
theorem Xf.setC (h:Xf U ge ga gr gc n G D rp cp Q wr) (hne:gr≠gc) {c:Nat} (hc:c < n) {z:Int} (h0: -9223372036854775808≤z) (h1:z≤9223372036854775807):
 Xf U ge ga gr gc n G D rp (cp.set c z) Q (wr.setCell ⟨gc,c,none⟩ (.int .i64 z))∧Zd 3 wr (wr.setCell ⟨gc,c,none⟩ (.int .i64 z)):=by
 obtain ⟨M,⟨e1,e2,e3,e4,e5,e6⟩,h4,h3⟩:=h;obtain ⟨g1,hk⟩:=e4.set_ (k:=c) (by omega) h0 h1;have ho:=ZT.of_set (g:=gc) (i:=c) (v:= .int .i64 z) (w:=wr);exact ⟨⟨M,⟨hk.bk e1 (by decide),e2.but hk (by decide) (by decide) (by decide),e3.others ho (fun b hb e=>by simp [Value.ownBlock] at hb;injection e with e;omega),g1,e5,by rw [List.length_set];exact e6⟩,h4,h3.setCell (p:=⟨gc,c,none⟩) e4.base _⟩,hk⟩
end
def Yas (base n t:Nat) (F E:Nat→Nat) (m:Mx) (J:Nat) (G:Nat→Nat) (w:World):Prop:=
 ∃H:Nat→Nat→RF,∀s,s < t→Yi base w (U3 n F E s) (rfL n (H s))∧(∀i,i < n→(H s i).q=m s i∧(H s i).Rs J)∧∀i,i < n→F s≠G i
def Xq (U:World) (gf g0 g1 gt n t J:Nat) (v2 v3:Value) (l0 l1:List Int) (F E:Nat→Nat) (m:Mx) (G:Nat→Nat) (w:World):Prop:=
 Bk w gf 137 [.slice (some ⟨g0,0,none⟩) n n,.slice (some ⟨g1,0,none⟩) n n,v2,v3]∧ZI U.heap.size w (.slice (some ⟨g0,0,none⟩) n n) l0∧ZI U.heap.size w (.slice (some ⟨g1,0,none⟩) n n) l1∧
  w.ownsRow U.heap.size 23 1 (.slice (some ⟨gt,0,none⟩) n n) n (Zki n t F E)∧Yas U.heap.size n t F E m J G w
section
variable {U w w':World} {gf g0 g1 gt n t J:Nat} {v2 v3:Value} {l0 l1:List Int} {F E G:Nat→Nat} {m:Mx}
theorem Yas.below (h:Yas U.heap.size n t F E m J G w) (hb:Below w.heap.size w w'):Yas U.heap.size n t F E m J G w':=by
 obtain ⟨H,h⟩:=h;exact ⟨H,fun s hs=>⟨(h s hs).1.below hb,(h s hs).2⟩⟩
theorem Yas.but {e:TypeId} (h:Yas U.heap.size n t F E m J G w) (hk:Zd e w w') (h1:48≠e) (h2:123≠e):Yas U.heap.size n t F E m J G w':=by
 obtain ⟨H,h⟩:=h;exact ⟨H,fun s hs=>⟨(h s hs).1.but hk h1 h2,(h s hs).2⟩⟩
theorem Xq.below (h:Xq U gf g0 g1 gt n t J v2 v3 l0 l1 F E m G w) (hb:Below w.heap.size w w'):Xq U gf g0 g1 gt n t J v2 v3 l0 l1 F E m G w':=
 ⟨h.1.later hb,h.2.1.below hb,h.2.2.1.below hb,own_below h.2.2.2.1 hb,h.2.2.2.2.below hb⟩
theorem Xq.but {e:TypeId} (h:Xq U gf g0 g1 gt n t J v2 v3 l0 l1 F E m G w) (hk:Zd e w w') (h1:137≠e) (h2:23≠e) (h3:48≠e) (h4:123≠e) (h5:3≠e):Xq U gf g0 g1 gt n t J v2 v3 l0 l1 F E m G w':=
 ⟨hk.bk h.1 h1,h.2.1.but hk h5,h.2.2.1.but hk h5,hk.own h.2.2.2.1 h2,h.2.2.2.2.but hk h3 h4⟩
theorem Xq.set0 (h:Xq U gf g0 g1 gt n t J v2 v3 l0 l1 F E m G w) (hne:g0≠g1) {k:Nat} (hk:k < l0.length) {z:Int} (z0: -9223372036854775808≤z) (z1:z≤9223372036854775807):
 Xq U gf g0 g1 gt n t J v2 v3 (l0.set k z) l1 F E m G (w.setCell ⟨g0,k,none⟩ (.int .i64 z))∧Zd 3 w (w.setCell ⟨g0,k,none⟩ (.int .i64 z)):=by
 obtain ⟨e1,e2,e3,e4,e5⟩:=h;obtain ⟨g,a⟩:=e2.set_ hk z0 z1;have ho:=ZT.of_set (g:=g0) (i:=k) (v:= .int .i64 z) (w:=w);exact ⟨⟨a.bk e1 (by decide),g,e3.others ho (fun b hb e=>by simp [Value.ownBlock] at hb;injection e with e;omega),a.own e4 (by decide),e5.but a (by decide) (by decide)⟩,a⟩
theorem Xq.set1 (h:Xq U gf g0 g1 gt n t J v2 v3 l0 l1 F E m G w) (hne:g0≠g1) {k:Nat} (hk:k < l1.length) {z:Int} (z0: -9223372036854775808≤z) (z1:z≤9223372036854775807):
 Xq U gf g0 g1 gt n t J v2 v3 l0 (l1.set k z) F E m G (w.setCell ⟨g1,k,none⟩ (.int .i64 z))∧Zd 3 w (w.setCell ⟨g1,k,none⟩ (.int .i64 z)):=by
 obtain ⟨e1,e2,e3,e4,e5⟩:=h;obtain ⟨g,a⟩:=e3.set_ hk z0 z1;have ho:=ZT.of_set (g:=g1) (i:=k) (v:= .int .i64 z) (w:=w);exact ⟨⟨a.bk e1 (by decide),e2.others ho (fun b hb e=>by simp [Value.ownBlock] at hb;injection e with e;omega),g,a.own e4 (by decide),e5.but a (by decide) (by decide)⟩,a⟩
theorem Xq.farI (h:Xq U gf g0 g1 gt n t J v2 v3 l0 l1 F E m G w) {g i:Nat} {v:Value} (hk:Zd 3 w (w.setCell ⟨g,i,none⟩ v)) (h1:g≠g0) (h2:g≠g1):Xq U gf g0 g1 gt n t J v2 v3 l0 l1 F E m G (w.setCell ⟨g,i,none⟩ v):=by
 obtain ⟨e1,e2,e3,e4,e5⟩:=h;have ho:=ZT.of_set (g:=g) (i:=i) (v:=v) (w:=w);exact ⟨hk.bk e1 (by decide),e2.others ho (fun b hb e=>by simp [Value.ownBlock] at hb;injection e with e;omega),e3.others ho (fun b hb e=>by simp [Value.ownBlock] at hb;injection e with e;omega),hk.own e4 (by decide),e5.but hk (by decide) (by decide)⟩
theorem Xq.othP (h:Xq U gf g0 g1 gt n t J v2 v3 l0 l1 F E m G w) (ho:Zju (fun b=>∃i,i < n∧b=G i) w w') (hk:Zd 48 w w'):Xq U gf g0 g1 gt n t J v2 v3 l0 l1 F E m G w':=by
 obtain ⟨e1,e2,e3,e4,H,e5⟩:=h;refine ⟨hk.bk e1 (by decide),e2.but hk (by decide),e3.but hk (by decide),hk.own e4 (by decide),H,fun s hs=>⟨(e5 s hs).1.othP ho (hk.keep (by decide)) fun b hb=>?_,(e5 s hs).2⟩⟩;simp [U3,Value.ownBlock] at hb;subst hb;rintro ⟨i,hi,e⟩;exact (e5 s hs).2.2 i hi e
theorem Xq.push (h:Xq U gf g0 g1 gt n t J v2 v3 l0 l1 F E m G w) (ht:t < n) {g c:Nat} {H:Nat→RF} {f:Nat→Rat} (hO:Yi U.heap.size w (.slice (some ⟨g,0,none⟩) n c) (rfL n H)) (hq:∀i,i < n→(H i).q=f i∧(H i).Rs J) (hg:∀i,i < n→g≠G i):
 Xq U gf g0 g1 gt n (t+1) J v2 v3 l0 l1 (Wl F t g) (Wl E t c) (Wl m t f) G (w.setCell ⟨gt,t,none⟩ (.slice (some ⟨g,0,none⟩) n c))∧Zd 23 w (w.setCell ⟨gt,t,none⟩ (.slice (some ⟨g,0,none⟩) n c)):=by
 obtain ⟨e1,e2,e3,e4,K,e5⟩:=h;obtain ⟨_,hb,_⟩:=Yb e4;have hk:=Zd.setCell hb t (.slice (some ⟨g,0,none⟩) n c);have e6:=Xy e4 t (.slice (some ⟨g,0,none⟩) n c) (by rw [XA];exact ht);rw [Znl ht] at e6;refine ⟨⟨hk.bk e1 (by decide),e2.but hk (by decide),e3.but hk (by decide),e6,Wl K t H,fun s hs=>?_⟩,hk⟩;by_cases e:s=t
 ·subst e;unfold U3;rw [ZG,ZG,ZG,ZG];exact ⟨hO.but hk (by decide) (by decide),hq,hg⟩
 ·unfold U3;rw [ZE (by omega),ZE (by omega),ZE (by omega),ZE (by omega)];exact ⟨(e5 s (by omega)).1.but hk (by decide) (by decide),(e5 s (by omega)).2⟩
end
def Yat (U:World) (ge ga gr gc gf g0 g1 gt n K t:Nat) (G D:Nat→Nat) (A:Mx) (wr:World):Prop:=
 ∃(a m:Mx) (R C F E:Nat→Nat),Xf U ge ga gr gc n G D (Vv n t R) (Vv n t C) a wr∧Us n t A a R C m∧(∀i j,i < n→j < n→Sz (5^t * K) (a i j))∧(∀s i,s < t→i < n→Sz (2 * (5^n * K)) (m s i))∧
  Xq U gf g0 g1 gt n t (2 * (5^n * K)) (.slice none 0 0) (.slice none 0 0) (Zqc n t R) (Zqc n t C) F E m G wr
def LuM (U:World) (ge ga gr gc gf g0 g1 gt gl gu go n J tl tu:Nat) (G D R C F E:Nat→Nat) (a m:Mx) (wr:World):Prop:=
 Xf U ge ga gr gc n G D (Vv n n R) (Vv n n C) a wr∧Xq U gf g0 g1 gt n n J (.slice (some ⟨gl,0,none⟩) n n) (.slice (some ⟨gu,0,none⟩) n n) (Zjm n R) (Zjm n C) F E m G wr∧
  (∃A k c A' k' c',Bk wr go 48 [.bool (canF 1).num.neg,.slice A k c,.bool (canF 1).den.neg,.slice A' k' c']∧Zv wr (.agg #[.bool (canF 1).num.neg,.slice A k c,.bool (canF 1).den.neg,.slice A' k' c']) (canF 1))∧
  Yc U.heap.size wr (.slice (some ⟨gl,0,none⟩) n n) (Zpr n tl (luL R m))∧Yc U.heap.size wr (.slice (some ⟨gu,0,none⟩) n n) (Zpr n tu (luU R C a))
section
variable {U wr w':World} {ge ga gr gc gf g0 g1 gt gl gu go n J tl tu:Nat} {G D R C F E:Nat→Nat} {a m:Mx}
theorem LuM.below (h:LuM U ge ga gr gc gf g0 g1 gt gl gu go n J tl tu G D R C F E a m wr) (hb:Below wr.heap.size wr w'):LuM U ge ga gr gc gf g0 g1 gt gl gu go n J tl tu G D R C F E a m w':=by
 obtain ⟨h1,h2,⟨A,k,c,A',k',c',h3,h4⟩,h5,h6⟩:=h;exact ⟨h1.below hb,h2.below hb,⟨A,k,c,A',k',c',h3.later hb,h4.below hb⟩,h5.below hb,h6.below hb⟩
theorem Yc.others {base:Nat} {w w':World} {g:Option Nat} {v:Value} {cols:List (List En)} (h:Yc base w v cols) (ho:ZT g w w') (hk:Zd 72 w w') (hne:∀b,v.ownBlock=some b→some b≠g):Yc base w' v cols:=by
 obtain ⟨cs,h1,h2⟩:=h;exact ⟨cs,Zfn h1 ho hne,fun k c hc=>by
  obtain ⟨u,hu,hm⟩:=h2 k c hc;exact ⟨u,hu,hm.but hk (by decide) (by decide)⟩⟩
theorem Yc.monoB {base base':Nat} {w:World} {v:Value} {cols:List (List En)} (h:Yc base w v cols) (hb:base'≤base):Yc base' w v cols:=by
 obtain ⟨cs,h1,h2⟩:=h;exact ⟨cs,Vi h1 hb,h2⟩
theorem Yc.base {base:Nat} {w:World} {g n c:Nat} {cols:List (List En)} (h:Yc base w (.slice (some ⟨g,0,none⟩) n c) cols):base≤g:=by
 obtain ⟨cs,h1,_⟩:=h;have hn:n=cols.length:=(Uq.of_own h1).len;subst hn;obtain ⟨_,_,h3⟩:=Yb h1;exact h3
theorem LuM.setL (h:LuM U ge ga gr gc gf g0 g1 gt gl gu go n J tl tu G D R C F E a m wr) (hne:gl≠gu) (ht:tl < n) {v:Value} (hv:Wv wr v (spV (luL R m tl) n)):
 LuM U ge ga gr gc gf g0 g1 gt gl gu go n J (tl+1) tu G D R C F E a m (wr.setCell ⟨gl,tl,none⟩ v):=by
 obtain ⟨h1,h2,⟨A,k,c,A',k',c',h3,h4⟩,h5,h6⟩:=h;obtain ⟨h7,hk⟩:=h5.set_ (k:=tl) (by rw [Wo];exact ht) hv;rw [Zhj ht] at h7;have ho:=ZT.of_set (g:=gl) (i:=tl) (v:=v) (w:=wr);have hb:Below U.heap.size U (wr.setCell ⟨gl,tl,none⟩ v):=by
  obtain ⟨_,_,_,hb⟩:=h1;exact hb.setCell (p:=⟨gl,tl,none⟩) h5.base v
 exact ⟨h1.but hk hb (by decide) (by decide) (by decide) (by decide) (by decide),h2.but hk (by decide) (by decide) (by decide) (by decide) (by decide),⟨A,k,c,A',k',c',hk.bk h3 (by decide),h4.keep (hk.keep (by decide))⟩,h7,h6.others ho hk fun b hb e=>by simp [Value.ownBlock] at hb;injection e with e;omega⟩
theorem LuM.setU (h:LuM U ge ga gr gc gf g0 g1 gt gl gu go n J tl tu G D R C F E a m wr) (hne:gl≠gu) (ht:tu < n) {v:Value} (hv:Wv wr v (spV (luU R C a tu) n)):
 LuM U ge ga gr gc gf g0 g1 gt gl gu go n J tl (tu+1) G D R C F E a m (wr.setCell ⟨gu,tu,none⟩ v):=by
 obtain ⟨h1,h2,⟨A,k,c,A',k',c',h3,h4⟩,h5,h6⟩:=h;obtain ⟨h7,hk⟩:=h6.set_ (k:=tu) (by rw [Wo];exact ht) hv;rw [Zhj ht] at h7;have ho:=ZT.of_set (g:=gu) (i:=tu) (v:=v) (w:=wr);have hb:Below U.heap.size U (wr.setCell ⟨gu,tu,none⟩ v):=by
  obtain ⟨_,_,_,hb⟩:=h1;exact hb.setCell (p:=⟨gu,tu,none⟩) h6.base v
 exact ⟨h1.but hk hb (by decide) (by decide) (by decide) (by decide) (by decide),h2.but hk (by decide) (by decide) (by decide) (by decide) (by decide),⟨A,k,c,A',k',c',hk.bk h3 (by decide),h4.keep (hk.keep (by decide))⟩,h5.others ho hk fun b hb e=>by simp [Value.ownBlock] at hb;injection e with e;omega,h7⟩
end
theorem Xf.farT {U wr:World} {ge ga gr gc n:Nat} {G D:Nat→Nat} {rp cp:List Int} {Q:Mx} (h:Xf U ge ga gr gc n G D rp cp Q wr) {g i:Nat} {v:Value} (hk:Zd 23 wr (wr.setCell ⟨g,i,none⟩ v)) (hg:U.heap.size≤g) (h1:g≠ga):Xf U ge ga gr gc n G D rp cp Q (wr.setCell ⟨g,i,none⟩ v):=by
 obtain ⟨M,⟨e1,⟨m1,m2,m3⟩,e3,e4,e5⟩,h4,h3⟩:=h;have ho:=ZT.of_set (g:=g) (i:=i) (v:=v) (w:=wr);exact ⟨M,⟨hk.bk e1 (by decide),⟨Zfn m1 ho (fun b hb e=>by simp [Value.ownBlock] at hb;injection e with e;omega),fun r hr=>(m2 r hr).but hk (by decide) (by decide),m3⟩,e3.but hk (by decide),e4.but hk (by decide),e5⟩,h4,h3.setCell (p:=⟨g,i,none⟩) hg v⟩
section
variable {U w w':World} {gf g0 g1 gt n t J:Nat} {v2 v3:Value} {l0 l1:List Int} {F E G:Nat→Nat} {m:Mx}
theorem Xq.set2 (h:Xq U gf g0 g1 gt n t J v2 v3 l0 l1 F E m G w) (v:Value):Xq U gf g0 g1 gt n t J v v3 l0 l1 F E m G (w.setCell ⟨gf,2,none⟩ v)∧Zd 137 w (w.setCell ⟨gf,2,none⟩ v):=by
 obtain ⟨e1,e2,e3,e4,e5⟩:=h;have hk:=Zd.setCell e1 2 v;exact ⟨⟨e1.set_ 2 v,e2.but hk (by decide),e3.but hk (by decide),hk.own e4 (by decide),e5.but hk (by decide) (by decide)⟩,hk⟩
theorem Xq.set3 (h:Xq U gf g0 g1 gt n t J v2 v3 l0 l1 F E m G w) (v:Value):Xq U gf g0 g1 gt n t J v2 v l0 l1 F E m G (w.setCell ⟨gf,3,none⟩ v)∧Zd 137 w (w.setCell ⟨gf,3,none⟩ v):=by
 obtain ⟨e1,e2,e3,e4,e5⟩:=h;have hk:=Zd.setCell e1 3 v;exact ⟨⟨e1.set_ 3 v,e2.but hk (by decide),e3.but hk (by decide),hk.own e4 (by decide),e5.but hk (by decide) (by decide)⟩,hk⟩
end
theorem Zbg (w:World):Calls Tryz.prog 114 #[.int .i64 1,.int .i64 1] w fun e w'=>∃v',e= .returned (.tuple #[v',.int .i64 0])∧Zv w' v' (canF 1)∧Below w.heap.size w w':=by
 refine (VH 1 1 w (by omega) (by omega) (by omega) (by omega)).mono ?_;rintro e w' ⟨v',h1,h2,h3⟩;rw [if_neg (by omega)] at h1 h2;rw [show Rat.divInt 1 1=1 from Rat.divInt_self' (by decide)] at h2;exact ⟨v',h1,h2,h3⟩
def MkF (U:World) (n:Nat) (D:Nat→Prop) (s1 s2 s3 s4 s5:Value) (w:World):Prop:=
 Below U.heap.size U w∧(D 1→∃g,s1= .slice (some ⟨g,0,none⟩) n n∧g < w.heap.size∧ZI U.heap.size w (.slice (some ⟨g,0,none⟩) n n) (List.replicate n 0))∧
  (D 3→∃g,s2= .slice (some ⟨g,0,none⟩) n n∧g < w.heap.size∧ZI U.heap.size w (.slice (some ⟨g,0,none⟩) n n) (List.replicate n 0))∧
  (D 4→(D 1∧D 3)∧s3= .agg #[s1,s2,.slice none 0 0,.slice none 0 0])∧(D 5→∃g,s4= .pointer (some ⟨g,0,none⟩)∧U.heap.size≤g∧Bk w g 137 [.slice none 0 0,.slice none 0 0,.slice none 0 0,.slice none 0 0])∧(D 1→D 3→s1≠s2)∧s5= .int .i64 (n:Int)
theorem MkF.later {U w w':World} {n:Nat} {D:Nat→Prop} {s1 s2 s3 s4 s5:Value} (h:MkF U n D s1 s2 s3 s4 s5 w) (hb:Below w.heap.size w w'):MkF U n D s1 s2 s3 s4 s5 w':=by
 obtain ⟨h0,h1,h2,h3,h4,h5⟩:=h;have hs:=hb.size;refine ⟨Za h0 hb h0.size,fun d=>?_,fun d=>?_,h3,fun d=>?_,h5⟩
 ·obtain ⟨g,e,k,l⟩:=h1 d;exact ⟨g,e,by omega,l.below hb⟩
 ·obtain ⟨g,e,k,l⟩:=h2 d;exact ⟨g,e,by omega,l.below hb⟩
 ·obtain ⟨g,e,k,l⟩:=h4 d;exact ⟨g,e,k,l.later hb⟩
theorem MkF.set1 {U w:World} {n:Nat} {D:Nat→Prop} {s1 s2 s3 s4 s5:Value} (h:MkF U n D s1 s2 s3 s4 s5 w) (hn:n≤maxLen) (hd:¬D 1):MkF U n (fun k=>D k∨k=1) (.slice (some ⟨w.heap.size,0,none⟩) n n) s2 s3 s4 s5 (w.alloc (.cells (zic n) 3)):=by
 have hz:=ZI.zeros w n hn;obtain ⟨h0,h1,h2,h3,h4,h5,h6⟩:=h.later (Zb w (.cells (zic n) 3));exact ⟨h0,fun _=>⟨_,rfl,by simp,hz.monoB h.1.size⟩,fun d=>h2 (d.resolve_right (by decide)),fun d=>absurd (d.resolve_right (by decide)) fun h7=>hd (h3 h7).1.1,fun d=>h4 (d.resolve_right (by decide)),fun _ e he=>by
  obtain ⟨g,e1,e2,_⟩:=h.2.2.1 (e.resolve_right (by decide));rw [e1] at he;injection he with he;injection he with he;injection he with he;omega,h6⟩
theorem MkF.set3 {U w:World} {n:Nat} {D:Nat→Prop} {s1 s2 s3 s4 s5:Value} (h:MkF U n D s1 s2 s3 s4 s5 w) (hn:n≤maxLen) (hd:¬D 3):MkF U n (fun k=>D k∨k=3) s1 (.slice (some ⟨w.heap.size,0,none⟩) n n) s3 s4 s5 (w.alloc (.cells (zic n) 3)):=by
 have hz:=ZI.zeros w n hn;obtain ⟨h0,h1,h2,h3,h4,h5,h6⟩:=h.later (Zb w (.cells (zic n) 3));exact ⟨h0,fun d=>h1 (d.resolve_right (by decide)),fun _=>⟨_,rfl,by simp,hz.monoB h.1.size⟩,fun d=>absurd (d.resolve_right (by decide)) fun h7=>hd (h3 h7).1.2,fun d=>h4 (d.resolve_right (by decide)),fun e _ he=>by
  obtain ⟨g,e1,e2,_⟩:=h.2.1 (e.resolve_right (by decide));rw [e1] at he;injection he with he;injection he with he;injection he with he;omega,h6⟩
theorem MkF.set4 {U w:World} {n:Nat} {D:Nat→Prop} {s1 s2 s3 s4 s5:Value} (h:MkF U n D s1 s2 s3 s4 s5 w) (d1:D 1) (d3:D 3):MkF U n (fun k=>D k∨k=4) s1 s2 (.agg #[s1,s2,.slice none 0 0,.slice none 0 0]) s4 s5 w:=by
 obtain ⟨h0,h1,h2,h3,h4,h5,h6⟩:=h;exact ⟨h0,fun d=>h1 (d.resolve_right (by decide)),fun d=>h2 (d.resolve_right (by decide)),fun _=>⟨⟨.inl d1,.inl d3⟩,rfl⟩,fun d=>h4 (d.resolve_right (by decide)),fun d e=>h5 (d.resolve_right (by decide)) (e.resolve_right (by decide)),h6⟩
theorem MkF.set5 {U w:World} {n:Nat} {D:Nat→Prop} {s1 s2 s3 s4 s5:Value} (h:MkF U n D s1 s2 s3 s4 s5 w):MkF U n (fun k=>D k∨k=5) s1 s2 s3 (.pointer (some ⟨w.heap.size,0,none⟩)) s5 (w.alloc (.cells #[.slice none 0 0,.slice none 0 0,.slice none 0 0,.slice none 0 0] 137)):=by
 have hz:=Bk.new w 137 [.slice none 0 0,.slice none 0 0,.slice none 0 0,.slice none 0 0];obtain ⟨h0,h1,h2,h3,h4,h5,h6⟩:=h.later (Zb w (.cells #[.slice none 0 0,.slice none 0 0,.slice none 0 0,.slice none 0 0] 137));exact ⟨h0,fun d=>h1 (d.resolve_right (by decide)),fun d=>h2 (d.resolve_right (by decide)),fun d=>by
  obtain ⟨⟨a,b⟩,e⟩:=h3 (d.resolve_right (by decide));exact ⟨⟨.inl a,.inl b⟩,e⟩,fun _=>⟨_,rfl,h.1.size,hz⟩,fun d e=>h5 (d.resolve_right (by decide)) (e.resolve_right (by decide)),h6⟩
def Ycr (U:World) (n:Nat) (s:Value) (wx:World):Prop:=
 ∃gf g0 g1,s= .pointer (some ⟨gf,0,none⟩)∧g0≠g1∧Bk wx gf 137 [.slice (some ⟨g0,0,none⟩) n n,.slice (some ⟨g1,0,none⟩) n n,.slice none 0 0,.slice none 0 0]∧
  ZI U.heap.size wx (.slice (some ⟨g0,0,none⟩) n n) (List.replicate n 0)∧ZI U.heap.size wx (.slice (some ⟨g1,0,none⟩) n n) (List.replicate n 0)∧Below U.heap.size U wx∧U.heap.size≤gf
def Ycs (n K:Nat) (Cs:Mx) (w:World) (o:Ending) (w':World):Prop:=
 Below w.heap.size w w'∧((∃(R C:Nat→Nat) (L Um:Mx) (s0 s1 s2 s3:Value),o= .returned (.tuple #[.agg #[s0,s1,s2,s3],.bool true])∧Zlp n (5^n * K) (trM Cs) R C L Um∧ZI w.heap.size w' s0 (Zjm n R)∧ZI w.heap.size w' s1 (Zjm n C)∧Yc w.heap.size w' s2 (vcL n L)∧Yc w.heap.size w' s3 (vcL n Um))∨
  (o= .returned (.tuple #[.agg #[.slice none 0 0,.slice none 0 0,.slice none 0 0,.slice none 0 0],.bool false])∧¬YW n Cs))
end
section
attribute [local irreducible] YE
theorem U8 (v:Value) (n K:Nat) (Cs:Mx) (w:World) (h:Xd w v (vcL n Cs)) (hn:n≤7) (hK:1≤K) (hE:5^n * K≤4000000) (hs:∀r c,r < n→c < n→Sz K (Cs c r)):
 Calls Tryz.prog 116 #[v] w (Ycs n K Cs w):=by
 obtain ⟨A,c,rfl,gj,h8⟩:=h.shape;rw [Xz] at h gj ⊢;have HV:=Lib.hid h;have fq:=Lib.hid hs;have HK:=Lib.hid hK;have HE:=Lib.hid hE;have gz:=Zsv n (by omega);have h3:=Zdv n (by omega);obtain ⟨W,hW,b0,T⟩:∃W,w.alloc (.cells #[.slice none 0 0,.slice none 0 0,.slice none 0 0,.slice none 0 0] 137)=W∧Bk W w.heap.size 137 [.slice none 0 0,.slice none 0 0,.slice none 0 0,.slice none 0 0]∧Below w.heap.size w W:=⟨_,rfl,Bk.new w _ _,Zb w _⟩;have dz:=Lib.hid b0;have br:Hid (W.heap.size≤W.heap.size):=Lib.hid (Nat.le_refl _);clear h hs b0 hK hE;go_enter Tryz.func116,Tryz.ntmps116
 go_upto_region 2 with (fail)
 clear hW
 go_cut [5] (fun s5 wx=>Ycp W n s5 wx)
 case first=>
  refine YF 9 (.go 0 (.go 1 (.go 3 (.go 5 (.bag [2,4,6,7,8] (.go 9 .done)))))) (by kernel_rfl) (by kernel_rfl) ?_;repeat ((first | (refine ZK (v:=?_) rfl rfl rfl ?_ ?_;rotate_left;(· (intro _ u;go_simp;(try go_bits);(try with_reducible rfl)))) | (refine ZU (v:=?_) rfl rfl rfl ?_ ?_;rotate_left;(· (intro _ u;go_simp;(try go_bits);(try with_reducible rfl)))) | refine ZV rfl rfl rfl ?_ | refine ZL rfl rfl rfl (by assumption) ?_);(try simp only [Act.put,pu1,pu2,pu3,pu4,pu5,pu6]))
  refine Zjr 29 31 33 34 5 _ _ _ _ _ (MkR W n) rfl (by decide) ⟨Ze W,fun h=>h.elim,fun h=>h.elim,fun h=>h.elim,fun h=>h.elim,fun h=>h.elim,fun h=>h.elim⟩ (List.forall_mem_cons.2 ⟨?_,List.forall_mem_cons.2 ⟨?_,List.forall_mem_cons.2 ⟨?_,List.forall_mem_cons.2 ⟨?_,List.forall_mem_cons.2 ⟨?_,fun _ h=>absurd h List.not_mem_nil⟩⟩⟩⟩⟩) ?_
  ·refine XM.mk rfl fun D s1 s2 s3 s4 s5 wx b d hnd o hR KR hKR=>?_
   simp only [Zej,Act.put,List.setIfInBounds_toArray,List.set_cons_zero,List.set_cons_succ] at d;subst d;go_simp;have hN:=hR.set2 (by unfold maxLen;omega) hnd;exact hKR.out _ _ (Or.inr hN.1) ⟨_,s2,s3,s4,s5,rfl,hN⟩
  ·refine XM.mk rfl fun D s1 s2 s3 s4 s5 wx b d hnd o hR KR hKR=>?_
   simp only [Zej,Act.put,List.setIfInBounds_toArray,List.set_cons_zero,List.set_cons_succ] at d;subst d;go_simp;have hN:=hR.set4 (by unfold maxLen;omega) hnd;exact hKR.out _ _ (Or.inr hN.1) ⟨s1,_,s3,s4,s5,rfl,hN⟩
  ·refine XM.mk rfl fun D s1 s2 s3 s4 s5 wx b d hnd o hR KR hKR=>?_
   simp only [Zej,Act.put,List.setIfInBounds_toArray,List.set_cons_zero,List.set_cons_succ] at d;subst d;go_simp;have hN:=hR.set6 (by unfold maxLen;omega) hnd;exact hKR.out _ _ (Or.inr hN.1) ⟨s1,s2,_,s4,s5,rfl,hN⟩
  ·refine XM.mk rfl fun D s1 s2 s3 s4 s5 wx b d hnd o hR KR hKR=>?_
   have d2:D 2:=o 2 (by decide) (by kernel_rfl);have d4:D 4:=o 4 (by decide) (by kernel_rfl);have d6:D 6:=o 6 (by decide) (by kernel_rfl);clear o;obtain ⟨ga,rfl,_⟩:=hR.2.1 d2;obtain ⟨gr,rfl,_⟩:=hR.2.2.1 d4;obtain ⟨gc,rfl,_⟩:=hR.2.2.2.1 d6;simp only [Zej,Act.put,List.setIfInBounds_toArray,List.set_cons_zero,List.set_cons_succ] at d;subst d;go_simp;have hN:=hR.set7 d2 d4 d6;exact hKR.out _ _ (Or.inr hN.1) ⟨_,_,_,_,s5,rfl,hN⟩
  ·refine XM.mk rfl fun D s1 s2 s3 s4 s5 wx b d hnd o hR KR hKR=>?_
   simp only [Zej,Act.put,List.setIfInBounds_toArray,List.set_cons_zero,List.set_cons_succ] at d;subst d;go_simp;have hN:=hR.set8;exact hKR.out _ _ (Or.inr hN.1) ⟨s1,s2,s3,s4,_,rfl,hN⟩
  ·intro D s1 s2 s3 s4 s5 wx B hR;obtain ⟨hb,p1,p2,p3,p4,p5,p6⟩:=hR;obtain ⟨ga,rfl,hA⟩:=p1 (B 2 (by decide));obtain ⟨gr,rfl,_,hI⟩:=p2 (B 4 (by decide));obtain ⟨gc,rfl,_,hJ⟩:=p3 (B 6 (by decide));obtain rfl:=(p4 (B 7 (by decide))).2;obtain ⟨ge,rfl,dh,hB⟩:=p5 (B 8 (by decide));have cw:=p6 (B 4 (by decide)) (B 6 (by decide));obtain ⟨t0,t1,t2,t3⟩:=hB.four;obtain ⟨f0,f1,f2,f3⟩:=hB.fourF;simp only [Zej,Act.put,List.setIfInBounds_toArray,List.set_cons_zero,List.set_cons_succ];refine Zz rfl rfl (fun KR hKR=>?_);go_simp;refine hKR.out _ _ (Or.inl (by decide)) ?_;clear hKR KR;refine Yp ?_;go_wp2_with fail
   go_meet
   have k1:=hB.but4 (.int .i64 (n:Int)) (.slice (some ⟨ga,0,none⟩) n n) (.slice (some ⟨gr,0,none⟩) n n) (.slice (some ⟨gc,0,none⟩) n n);exact ⟨ge,ga,gr,gc,rfl,fun e=>cw (by rw [e]),hB.set4 _ _ _ _,k1.own hA (by decide),hI.but k1 (by decide),hJ.but k1 (by decide),ZB hb dh _ _ _ _,dh⟩
 case rest=>
  obtain ⟨ge,ga,gr,gc,rfl,cp,hB,hA,hI,hJ,l,dh⟩:=hcut;have e0:Yao W ge ga gr gc n 0 wc:=⟨fun _=>0,fun _=>0,hB,by rw [Zjs];exact hA,fun r hr=>absurd hr (by omega),fun r s hr=>absurd hr (by omega),by rw [Zjt];exact hI,by rw [Zjt];exact hJ,l⟩;have ch:=Wh n (by omega);clear hB hA hI hJ l;go_wp2
  go_loopw [36] (fun x wr=>∃i:Nat,i≤n∧x= .int .i64 i∧Yao W ge ga gr gc n i wr) (fun x _=>n - (intOf x).toNat)
  case atStart=>exact ⟨0,by omega,rfl,e0⟩
  case round=>
   clear e0;obtain ⟨i,hi,rfl,G,D,hB,hA,hR,af,hI,hJ,l⟩:=hrel;rcases Nat.lt_or_ge i n with hil | hil
   ·have fr:(i:Int) < n:=(by omega);obtain ⟨_,b1,_,_⟩:=hB.four;obtain ⟨_,_,gk⟩:=Yb hA;have HA:=Lib.hid hA;have HB:=Lib.hid hB;have e3:=Lib.hid hR;have fs:=Lib.hid af;have HI:=Lib.hid hI;have HJ:=Lib.hid hJ;have F:=Zb wr.drew (.cells (zfc n) 48);have cx:=Yi.zeros wr.drew n (by unfold maxLen;omega);obtain ⟨W1,cb⟩:∃W1,wr.drew.alloc (.cells (zfc n) 48)=W1:=⟨_,rfl⟩;rw [cb] at F cx;have Y:Below wr.heap.size wr W1:=Za (Ze wr) F (Nat.le_refl _);obtain ⟨m0,m1⟩:=ZP (own_below hA Y) (Znk (G:=G) (D:=D) hil);clear hA hB hR af hI hJ F
    go_upto_region 6 with (fail)
    have C1:=Zm b1;have y:=Ze wr;clear b1;refine Zo 6 [0,1,2,3,4,5,6] (by kernel_rfl) (by kernel_rfl) ?_;repeat ((first | (refine Zc (v:=?_) rfl rfl rfl ?_ ?_;rotate_left;(· (intro _ u;go_simp;(try go_bits);(try with_reducible rfl)))) | (refine Zg (v:=?_) rfl rfl rfl ?_ ?_;rotate_left;(· (intro _ u;go_simp;(try go_bits);(try with_reducible rfl)))) | refine Zh rfl rfl rfl ?_);(try simp only [Act.put,pu1,pu2,pu3,pu4,pu5,pu6]))
    refine Zf rfl rfl (fun KR hKR=>?_);go_simp;refine hKR.out _ _ (Or.inr Y) ?_;clear hKR KR cb;(try simp only [Act.put,pu1,pu2,pu3,pu4,pu5,pu6]);repeat ((first | (refine Zc (v:=?_) rfl rfl rfl ?_ ?_;rotate_left;(· (intro _ u;go_simp;(try go_bits);(try with_reducible rfl)))) | (refine Zg (v:=?_) rfl rfl rfl ?_ ?_;rotate_left;(· (intro _ u;go_simp;(try go_bits);(try with_reducible rfl)))) | refine Zh rfl rfl rfl ?_);(try simp only [Act.put,pu1,pu2,pu3,pu4,pu5,pu6]))
    refine Zf rfl rfl (fun KR hKR=>?_);go_simp;refine hKR.out _ _ (Or.inl (by decide)) ?_;clear hKR KR;(try simp only [Act.put,pu1,pu2,pu3,pu4,pu5,pu6]);refine Zy ?_;clear C1;have av:=own_below HA.out Y;have aw:=Xy av i (.slice (some ⟨wr.heap.size,0,none⟩) n n) (by rw [XA];exact hil);rw [Znl hil] at aw;obtain ⟨_,eu,_⟩:=Yb av;have kb:=Zd.setCell eu i (.slice (some ⟨wr.heap.size,0,none⟩) n n);have P:=kb.bk (HB.out.later Y) (by decide);have bs:=(HI.out.below Y).but kb (by decide);have bt:=(HJ.out.below Y).but kb (by decide);have J:=(Za l Y l.size).setCell (p:=⟨ga,i,none⟩) gk (.slice (some ⟨wr.heap.size,0,none⟩) n n);have a5:∀r,r < i+1→Yi W.heap.size (W1.setCell ⟨ga,i,none⟩ (.slice (some ⟨wr.heap.size,0,none⟩) n n)) (U3 n (Wl G i wr.heap.size) (Wl D i n) r) (rfL n fun _=>zeroF):=fun r hr=>by
     by_cases e:r=i
     ·subst e;unfold U3;rw [ZG,ZG,← U5];exact (Yi.monoB cx l.size).but kb (by decide) (by decide)
     ·unfold U3;rw [ZE (by omega),ZE (by omega)];exact ((e3.out r (by omega)).below Y).but kb (by decide) (by decide)
    have cj:∀r s,r < i+1→s < i+1→Wl G i wr.heap.size r=Wl G i wr.heap.size s→r=s:=fun r s hr hs e=>by
     have e4:∀q,q < i→G q < wr.heap.size:=fun q hq=>by
      obtain ⟨g,c,hv,_,h2,_⟩:=(e3.out q hq).shape (by rw [Zu];omega);unfold U3 at hv;injection hv with e1;injection e1 with e1;injection e1 with e1;omega
     by_cases e1:r=i
     ·by_cases e2:s=i
      ·omega
      ·rw [e1,ZG,ZE (show s < i by omega)] at e;have:=e4 s (by omega);omega
     ·by_cases e2:s=i
      ·rw [e2,ZG,ZE (show r < i by omega)] at e;have:=e4 r (by omega);omega
      ·rw [ZE (show r < i by omega),ZE (show s < i by omega)] at e;exact fs.out r s (by omega) (by omega) e
    have ft:=Lib.hid a5;have e5:=Lib.hid cj;clear av eu kb m0 m1 Y cx a5 cj l;generalize W1.setCell ⟨ga,i,none⟩ (.slice (some ⟨wr.heap.size,0,none⟩) n n)=W3 at *;obtain ⟨_,_,b2,b3⟩:=P.four;obtain ⟨x0,x1,_,_⟩:=bs.at_ (Zhf hil);obtain ⟨y0,y1,_,_⟩:=bt.at_ (Zhf hil);obtain ⟨ev,k3⟩:=bs.set_ (k:=i) (z:= -1) (by rw [Xb];exact hil) (by omega) (by omega);have cy:=bt.others (ZT.of_set (g:=gr) (i:=i) (v:= .int .i64 (-1)) (w:=W3)) (fun b hb e=>by simp [Value.ownBlock] at hb;injection e with e;omega);obtain ⟨ap,k4⟩:=cy.set_ (k:=i) (z:= -1) (by rw [Xb];exact hil) (by omega) (by omega);have cz:=ev.others (ZT.of_set (g:=gc) (i:=i) (v:= .int .i64 (-1)) (w:=W3.setCell ⟨gr,i,none⟩ (.int .i64 (-1)))) (fun b hb e=>by simp [Value.ownBlock] at hb;injection e with e;omega);rw [Zwn hil] at cz ap;have k5:=k3.trans k4;have a2:=(J.setCell (p:=⟨gr,i,none⟩) bs.base (.int .i64 (-1))).setCell (p:=⟨gc,i,none⟩) bt.base (.int .i64 (-1));have fu:Yao W ge ga gr gc n (i+1) ((W3.setCell ⟨gr,i,none⟩ (.int .i64 (-1))).setCell ⟨gc,i,none⟩ (.int .i64 (-1))):=
     ⟨_,_,k5.bk P (by decide),k5.own aw (by decide),fun r hr=>(ft.out r hr).but k5 (by decide) (by decide),e5.out,cz,ap,a2⟩
    obtain ⟨h9,ha,_,_⟩:=cy.at_ (Zhf hil);clear aw bs bt ev cy cz ap k3 k4 k5 J a2 P;go_wp2;go_roundw
    case rel=>exact ⟨i+1,by omega,by go_num,fu⟩
    case measure=>simp [intOf];omega
   ·obtain rfl:n=i:=by omega
    have hM:Zbu W.heap.size wr (.slice (some ⟨ga,0,none⟩) n n) n n (fun _ _=>zeroF) G D:=⟨by rw [← Znj];exact hA,hR,af⟩;rw [Zwo,← Zta (R:=fun _=>0)] at hI hJ;have hF:Xf W ge ga gr gc n G D (Vv n 0 fun _=>0) (Vv n 0 fun _=>0) (V8 (vcL n Cs) 0 0) wr:=⟨_,⟨hB,hM,hI,hJ,XB,XB⟩,fun i j _ _=> .inr ⟨rfl,Zlt _ _ _⟩,l⟩;clear hA hR af hI hJ hM hB ch l;go_wp2
    go_loopw [56] (fun x wr=>∃k:Nat,k≤n∧x= .int .i64 k∧Xf W ge ga gr gc n G D (Vv n 0 fun _=>0) (Vv n 0 fun _=>0) (V8 (vcL n Cs) k 0) wr) (fun x _=>n - (intOf x).toNat)
    case atStart=>exact ⟨0,by omega,rfl,hF⟩
    case round=>
     clear hF;obtain ⟨k,hk,rfl,hF⟩:=hrel;rcases Nat.lt_or_ge k n with hkl | hkl
     ·obtain ⟨bc,oc,A1,c1,rfl,x0,hL⟩:=HV.out.vc (Below.refl _ _) hkl;have I:=Za T hF.choose_spec.2.2 T.size;have y0:=Zi I x0;have e7:(k:Int) < n:=(by omega);have e8:0 < n:=(by omega);obtain ⟨ln,di⟩:∃ln,ln=(spV (Cs k) n).length:=⟨_,rfl⟩;have ea:=Lib.hid di;rw [← di] at x0 y0 hL;obtain ⟨-,ew,ex⟩:=hL.len;have HL:=Lib.hid hL;clear hL di I x0;go_wp2;clear y0
      go_loopw [63] (fun x wr=>∃t:Nat,t≤ln∧x= .int .i64 t∧Xf W ge ga gr gc n G D (Vv n 0 fun _=>0) (Vv n 0 fun _=>0) (V8 (vcL n Cs) k t) wr) (fun x _=>ln - (intOf x).toNat)
      case atStart=>exact ⟨0,by omega,rfl,hF⟩
      case round=>
       clear hF;obtain ⟨t,ht,rfl,hF⟩:=hrel;rcases Nat.lt_or_ge t ln with htl | htl
       ·obtain ⟨e,he⟩:=Xk (es:=spV (Cs k) n) (i:=t) (by rw [← ea.out];exact htl);obtain ⟨i0,bd,ey,ez,f4⟩:=Ut he;obtain ⟨b,hd,A2,n2,c2,A3,n3,c3,rfl,_,⟨x0,x1,x2,x3,x4⟩,f5⟩:=HL.out.elem (Za T hF.choose_spec.2.2 T.size) he;have fv:Hid (∀i j,i < n→j < n→V8 (vcL n Cs) k (t+1) i j=if i=i0∧j=k then Cs k i0 else V8 (vcL n Cs) k t i j):=Lib.hid fun i j _ _=>by
         rw [Zpm (VO hkl) (Zgt _ _) he ey,ez,Zt]
        obtain ⟨ei,f⟩:=e;simp only at *;subst ey ez;obtain ⟨W1,cb,hV,dj⟩:=Zfa wr (.int .i64 (i0:Int)) (.bool (canF (Cs k i0)).num.neg) (.slice A2 n2 c2) (.bool (canF (Cs k i0)).den.neg) (.slice A3 n3 c3);obtain ⟨v0,v1,v2,v3,v4⟩:=hV.five;have Z:=hF.below dj;have eb:=f5.below dj;obtain ⟨M,⟨hB,hM,_⟩,_⟩:=id Z;obtain ⟨_,b1,_,_⟩:=hB.four;obtain ⟨m1,_⟩:=hM.cellAt bd;unfold U3 at m1;obtain ⟨l1,l2,l3,l4⟩:=hM.lt bd e8;obtain ⟨_,_,_,_,_,_,⟨c0,gm,gn,gp⟩,_⟩:=hM.at_ bd hkl;obtain ⟨f0,f1,f2,f3⟩:=hM.frozen bd hkl;have fr:(i0:Int) < n:=(by omega);clear hF f5 he f4 hM hB hV dj
        go_upto_region 15 with (fail)
        clear cb;have C0:=Zm v0;have C1:=Zm v1;have C2:=Zm v2;have C3:=Zm v3;have C4:=Zm v4;have D1:=Zm b1;have D2:=Zm m1;have y:=Ze W1;clear v0 v1 v2 v3 v4 x0 x1 x2 x3 x4 b1 m1;refine Zo 10 [0,1,2,3,4,5,6,7,8,9,10] (by kernel_rfl) (by kernel_rfl) ?_;repeat ((first | (refine Zc (v:=?_) rfl rfl rfl ?_ ?_;rotate_left;(· (intro _ u;go_simp;(try go_bits);(try with_reducible rfl)))) | (refine Zg (v:=?_) rfl rfl rfl ?_ ?_;rotate_left;(· (intro _ u;go_simp;(try go_bits);(try with_reducible rfl)))) | refine Zh rfl rfl rfl ?_);(try simp only [Act.put,pu1,pu2,pu3,pu4,pu5,pu6]))
        refine Zf rfl rfl (fun KR hKR=>?_);go_simp;refine hKR.out _ _ (Or.inl (by decide)) ?_;clear hKR KR;(try simp only [Act.put,pu1,pu2,pu3,pu4,pu5,pu6]);refine Zy ?_;clear C0 C1 C2 C3 C4 D1 D2;have ag:=(Z.below y).setM bd hkl (eb.below y) fv.out;clear Z eb y c0 gm gn gp f0 f1 f2 f3;go_wp2;go_roundw
        case rel=>exact ⟨t+1,by omega,by go_num,ag⟩
        case measure=>simp [intOf];omega
       ·obtain rfl:ln=t:=by omega
        have ag:=hF.congr (Q':=V8 (vcL n Cs) (k+1) 0) fun i j _ _=>by rw [ea.out];exact Zpn (VO hkl)
        clear hF;go_wp2;go_roundw
        case rel=>exact ⟨k+1,by omega,by go_num,ag⟩
        case measure=>simp [intOf];omega
     ·obtain rfl:n=k:=by omega
      go_upto_region 18 with (fail)
      go_cut [11] (fun s11 wx=>Ycr wr n s11 wx)
      case first=>
       refine YF 6 (.go 0 (.go 2 (.bag [1,3,4,5] (.go 6 .done)))) (by kernel_rfl) (by kernel_rfl) ?_;repeat ((first | (refine ZK (v:=?_) rfl rfl rfl ?_ ?_;rotate_left;(· (intro _ u;go_simp;(try go_bits);(try with_reducible rfl)))) | (refine ZU (v:=?_) rfl rfl rfl ?_ ?_;rotate_left;(· (intro _ u;go_simp;(try go_bits);(try with_reducible rfl)))) | refine ZV rfl rfl rfl ?_ | refine ZL rfl rfl rfl (by assumption) ?_);(try simp only [Act.put,pu1,pu2,pu3,pu4,pu5,pu6]))
       refine Zjr 80 82 83 11 4 _ _ _ _ _ (MkF wr n) rfl (by decide) ⟨Ze wr,fun h=>h.elim,fun h=>h.elim,fun h=>h.elim,fun h=>h.elim,fun h=>h.elim,rfl⟩ (List.forall_mem_cons.2 ⟨?_,List.forall_mem_cons.2 ⟨?_,List.forall_mem_cons.2 ⟨?_,List.forall_mem_cons.2 ⟨?_,fun _ h=>absurd h List.not_mem_nil⟩⟩⟩⟩) ?_
       ·refine XM.mk rfl fun D s1 s2 s3 s4 s5 wx b d hnd o hR KR hKR=>?_
        obtain rfl:=hR.2.2.2.2.2.2;simp only [Zej,Act.put,List.setIfInBounds_toArray,List.set_cons_zero,List.set_cons_succ] at d;subst d;go_simp;have hN:=hR.set1 (by unfold maxLen;omega) hnd;exact hKR.out _ _ (Or.inr hN.1) ⟨_,s2,s3,s4,_,rfl,hN⟩
       ·refine XM.mk rfl fun D s1 s2 s3 s4 s5 wx b d hnd o hR KR hKR=>?_
        obtain rfl:=hR.2.2.2.2.2.2;simp only [Zej,Act.put,List.setIfInBounds_toArray,List.set_cons_zero,List.set_cons_succ] at d;subst d;go_simp;have hN:=hR.set3 (by unfold maxLen;omega) hnd;exact hKR.out _ _ (Or.inr hN.1) ⟨s1,_,s3,s4,_,rfl,hN⟩
       ·refine XM.mk rfl fun D s1 s2 s3 s4 s5 wx b d hnd o hR KR hKR=>?_
        obtain rfl:=hR.2.2.2.2.2.2;have d1:D 1:=o 1 (by decide) (by kernel_rfl);have d3:D 3:=o 3 (by decide) (by kernel_rfl);clear o;obtain ⟨hg,rfl,_⟩:=hR.2.1 d1;obtain ⟨hh,rfl,_⟩:=hR.2.2.1 d3;simp only [Zej,Act.put,List.setIfInBounds_toArray,List.set_cons_zero,List.set_cons_succ] at d;subst d;go_simp;have hN:=hR.set4 d1 d3;exact hKR.out _ _ (Or.inr hN.1) ⟨_,_,_,s4,_,rfl,hN⟩
       ·refine XM.mk rfl fun D s1 s2 s3 s4 s5 wx b d hnd o hR KR hKR=>?_
        obtain rfl:=hR.2.2.2.2.2.2;simp only [Zej,Act.put,List.setIfInBounds_toArray,List.set_cons_zero,List.set_cons_succ] at d;subst d;go_simp;have hN:=hR.set5;exact hKR.out _ _ (Or.inr hN.1) ⟨s1,s2,s3,_,_,rfl,hN⟩
       ·intro D s1 s2 s3 s4 s5 wx B hR;obtain ⟨hb,p1,p2,p3,p4,p5,rfl⟩:=hR;obtain ⟨g0,rfl,_,hI⟩:=p1 (B 1 (by decide));obtain ⟨g1,rfl,_,hJ⟩:=p2 (B 3 (by decide));obtain rfl:=(p3 (B 4 (by decide))).2;obtain ⟨gf,rfl,cc,hB⟩:=p4 (B 5 (by decide));have cw:=p5 (B 1 (by decide)) (B 3 (by decide));obtain ⟨t0,t1,t2,t3⟩:=hB.four;obtain ⟨f0,f1,f2,f3⟩:=hB.fourF;simp only [Zej,Act.put,List.setIfInBounds_toArray,List.set_cons_zero,List.set_cons_succ];refine Zz rfl rfl (fun KR hKR=>?_);go_simp;refine hKR.out _ _ (Or.inl (by decide)) ?_;clear hKR KR;refine Yp ?_;go_wp2_with fail
        go_meet
        have k1:=hB.but4 (.slice (some ⟨g0,0,none⟩) n n) (.slice (some ⟨g1,0,none⟩) n n) (.slice none 0 0) (.slice none 0 0);exact ⟨gf,g0,g1,rfl,fun e=>cw (by rw [e]),hB.set4 _ _ _ _,hI.but k1 (by decide),hJ.but k1 (by decide),ZB hb cc _ _ _ _,cc⟩
      case rest=>
       obtain ⟨gf,g0,g1,rfl,cr,hB,hI,hJ,l,cc⟩:=hcut;have Z:=hF.below l;obtain ⟨_,⟨bu,f6,a4,dk,ew,ex⟩,_,O⟩:=id hF;have ah:Hid (W.heap.size≤g0∧wr.heap.size≤g0∧gr < wr.heap.size∧gc < wr.heap.size):=Lib.hid ⟨Nat.le_trans O.size hI.base,hI.base,VP a4.1 gr rfl,VP dk.1 gc rfl⟩;have ai:Hid (W.heap.size≤g1∧wr.heap.size≤g1∧gr < wr.heap.size∧gc < wr.heap.size):=Lib.hid ⟨Nat.le_trans O.size hJ.base,hJ.base,VP a4.1 gr rfl,VP dk.1 gc rfl⟩;have fw:=VP f6.1 ga rfl;have ec:Hid (W.heap.size≤gf):=Lib.hid (Nat.le_trans O.size cc);have ed:=l.size;have ee:Hid (W.heap.size≤wc.heap.size∧ga < wc.heap.size):=Lib.hid ⟨by have:=O.size;omega,by omega⟩;have hz:=Zni 23 wc n (by unfold maxLen;omega);have F:=Zb wc (.cells (zvc n) 23);have ax:Yat W ge ga gr gc gf g0 g1 wc.heap.size n K 0 G D (trM Cs) (wc.alloc (.cells (zvc n) 23)):=by
        refine ⟨trM Cs,fun _ _=>0,fun _=>0,fun _=>0,fun _=>0,fun _=>0,(Z.below F).congr fun i j hi hj=>?_,Us.start _ _ _ _ _,fun i j hi hj=>by rw [Nat.pow_zero,Nat.one_mul];exact fq.out i j hi hj,fun s i hs=>absurd hs (by omega),hB.later F,?_,?_,?_,fun _ _=>zeroF,fun s hs=>absurd hs (by omega)⟩
        ·rw [Zsz hj,show (vcL n Cs).getD j []=spV (Cs j) n by simp [List.getD,VO hj],Zfd,if_pos hi];rfl
        ·rw [← Zjw];exact (hI.below F).monoB O.size
        ·rw [← Zjw];exact (hJ.below F).monoB O.size
        ·rw [Zjs];exact Vi hz (Nat.le_trans O.size ed)
       clear hB hI hJ l Z bu f6 a4 dk ew ex O hz F hF fw ed;go_wp2;generalize wc.heap.size=gt at *;generalize wc.alloc (.cells (zvc n) 23)=W5 at *
       go_loopw [87] (fun x wr=>∃t:Nat,t≤n∧x= .int .i64 t∧Yat W ge ga gr gc gf g0 g1 gt n K t G D (trM Cs) wr) (fun x _=>n - (intOf x).toNat)
       case atStart=>exact ⟨0,by omega,rfl,ax⟩
       case round=>
        clear ax;obtain ⟨t,ht,rfl,hL⟩:=hrel;rcases Nat.lt_or_ge t n with htl | htl
        ·obtain ⟨a,m,R,C,Ff,E,hF,be,bf,bg,hR⟩:=hL;obtain ⟨M,hE,hT,hb⟩:=id hF;have HF:=Lib.hid hF;have HR:=Lib.hid hR;have L:=Lib.hid be;have ay:=Lib.hid bf;have d0:=Lib.hid bg;have HT:=Lib.hid hT;have fx:Hid (∀i,i < n→G i < wr.heap.size):=Lib.hid fun i hi=>(hE.2.1.lt hi (by omega)).2.1
         have a3:=Za T hb T.size;have fy:(t:Int) < n:=(by omega);clear hF be bf bg hR hT hb;go_wp2_with fail;refine (Zpl W.heap.size ge n _ _ _ M G D _ _ _ hE (by omega)).mono ?_;rintro _ w1 ⟨r0,c0,ok,rfl,dw,dx,ae⟩;clear hE
         cases ok with
         | false=>
          have o:¬YW n Cs:=L.out.dep htl fun i j hi hj h1 h2=>by
           have hz:=dx rfl i j hi hj;unfold Zpj at hz;rw [VS hi,VS hj,decide_eq_true (V6.2 h1),decide_eq_true (V6.2 h2)] at hz;simp only [Bool.true_and,decide_eq_false_iff_not] at hz;by_cases e:a i j=0
           ·exact e
           ·exact absurd ((HT.out i j hi hj).len.2 e) hz
          have d5:=dz.out.later (Za (HF.out.choose_spec.2.2.mono br.out) ae (Nat.le_trans br.out HF.out.choose_spec.2.2.size));have F:=Za a3 ae a3.size;obtain ⟨t0,t1,t2,t3⟩:=d5.four;obtain ⟨f0,f1,f2,f3⟩:=d5.fourF;clear dw dx a3;go_wp2;refine YR Tryz.results116 Tryz.underlying137 (by kernel_rfl) rfl (d5.set4 _ _ _ _) rfl ?_;exact ⟨ZB F (Nat.le_refl _) _ _ _ _,.inr ⟨rfl,o⟩⟩
         | true=>
          obtain ⟨r,c,rfl,rfl,hr,hc,bh⟩:=dw rfl;unfold Zpj at bh;rw [VS hr,VS hc,Bool.and_eq_true,Bool.and_eq_true,decide_eq_true_eq,decide_eq_true_eq,decide_eq_true_eq] at bh;obtain ⟨f7,f8,f9⟩:=bh;have ef:=Lib.hid (V6.1 f7);have eg:=Lib.hid (V6.1 f8);have HP:=Lib.hid ((HT.out r c hr hc).len.1 f9);have g2:(r:Int) < n:=(by omega);have g3:(c:Int) < n:=(by omega);clear f7 f8 f9 dw dx;have Z:=HF.out.below ae;have aj:=HR.out.below ae;obtain ⟨a5,k2⟩:=aj.set0 cr (k:=t) (z:=(r:Int)) (by rw [Vo];exact htl) (by omega) (by omega);obtain ⟨a6,k3⟩:=a5.set1 cr (k:=t) (z:=(c:Int)) (by rw [Vo];exact htl) (by omega) (by omega);rw [Znp htl] at a5 a6;rw [Znp htl] at a6;have ag:=Z.farI k2 ah.out.1 (by have:=ah.out;omega) (by have:=ah.out;omega);have az:=ag.farI k3 ai.out.1 (by have:=ai.out;omega) (by have:=ai.out;omega);obtain ⟨y0,y1,_,_⟩:=aj.2.1.at_ (Zbw htl);obtain ⟨z0,z1,_,_⟩:=aj.2.2.1.at_ (Zbw htl);have eh:=aj.1;have bu:=a5.1;have b0:=a6.1;obtain ⟨s0,s1,_,_⟩:=aj.1.four;have az:=az.below (Ze _);have a6:=a6.below (Ze _);clear Z aj a5 ag k2 k3
          go_upto_region 26 with (fail)
          clear s0 s1;have C0:∀w',Bk w' gf 137 [.slice (some ⟨g0,0,none⟩) n n,.slice (some ⟨g1,0,none⟩) n n,.slice none 0 0,.slice none 0 0]→w'.cell? ⟨gf,0,none⟩=some (.slice (some ⟨g0,0,none⟩) n n):=fun w' h=>h.four.1
          have C1:∀w',Bk w' gf 137 [.slice (some ⟨g0,0,none⟩) n n,.slice (some ⟨g1,0,none⟩) n n,.slice none 0 0,.slice none 0 0]→w'.cell? ⟨gf,1,none⟩=some (.slice (some ⟨g1,0,none⟩) n n):=fun w' h=>h.four.2.1
          refine Zlw (fun w'=>Bk w' gf 137 [.slice (some ⟨g0,0,none⟩) n n,.slice (some ⟨g1,0,none⟩) n n,.slice none 0 0,.slice none 0 0]) eh 12 [0,1,2,3,4,5,6,7,8,9,10,11] (by kernel_rfl) (by kernel_rfl) ?_;repeat ((first | (refine Zc (v:=?_) rfl rfl rfl ?_ ?_;rotate_left;(· (intro _ u;go_simp;(try go_bits);(try with_reducible rfl)))) | (refine Zg (v:=?_) rfl rfl rfl ?_ ?_;rotate_left;(· (intro _ u;go_simp;(try go_bits);(try with_reducible rfl)))) | refine Zh rfl rfl rfl ?_);(try simp only [Act.put,pu1,pu2,pu3,pu4,pu5,pu6]))
          refine Zf rfl rfl (fun KR hKR=>?_);go_simp;refine hKR.out _ _ (Or.inr bu) ?_;clear hKR KR;(try simp only [Act.put,pu1,pu2,pu3,pu4,pu5,pu6]);repeat ((first | (refine Zc (v:=?_) rfl rfl rfl ?_ ?_;rotate_left;(· (intro _ u;go_simp;(try go_bits);(try with_reducible rfl)))) | (refine Zg (v:=?_) rfl rfl rfl ?_ ?_;rotate_left;(· (intro _ u;go_simp;(try go_bits);(try with_reducible rfl)))) | refine Zh rfl rfl rfl ?_);(try simp only [Act.put,pu1,pu2,pu3,pu4,pu5,pu6]))
          refine Zf rfl rfl (fun KR hKR=>?_);go_simp;refine hKR.out _ _ (Or.inr b0) ?_;clear hKR KR;(try simp only [Act.put,pu1,pu2,pu3,pu4,pu5,pu6]);refine Zy ?_;clear C0 C1 eh bu b0 y0 y1 z0 z1;have F:=Za a3 ae a3.size;have h4:=((F.setCell (p:=⟨g0,t,none⟩) (Nat.le_trans T.size ah.out.1) (.int .i64 (r:Int))).setCell (p:=⟨g1,t,none⟩) (Nat.le_trans T.size ai.out.1) (.int .i64 (c:Int))).drew;have ej:wr.heap.size≤((w1.setCell ⟨g0,t,none⟩ (.int .i64 (r:Int))).setCell ⟨g1,t,none⟩ (.int .i64 (c:Int))).drew.heap.size:=(by simpa using ae.size);clear ae a3 F;generalize ((w1.setCell ⟨g0,t,none⟩ (.int .i64 (r:Int))).setCell ⟨g1,t,none⟩ (.int .i64 (c:Int))).drew=W2 at *;obtain ⟨_,⟨⟨hB,_,hI,hJ,_,_⟩,_,_⟩⟩:=id az;obtain ⟨_,_,b2,b3⟩:=hB.four;obtain ⟨cd,k4⟩:=az.setR cp hr (z:=(t:Int)) (by omega) (by omega);obtain ⟨al,k5⟩:=cd.setC cp hc (z:=(t:Int)) (by omega) (by omega);rw [Zno ef.out] at cd al;rw [Zno eg.out] at al;have ek:=a6.farI k4 (by have:=ah.out;omega) (by have:=ai.out;omega);have a7:=ek.farI k5 (by have:=ah.out;omega) (by have:=ai.out;omega);obtain ⟨y0,y1,_,_⟩:=hI.at_ (WB hr);obtain ⟨_,⟨⟨_,_,_,ap,_,_⟩,_,_⟩⟩:=id cd;obtain ⟨z0,z1,_,_⟩:=hJ.at_ (WB hc);obtain ⟨gs,gv,_,_⟩:=ap.at_ (WB hc);have h5:wr.heap.size≤((W2.setCell ⟨gr,r,none⟩ (.int .i64 (t:Int))).setCell ⟨gc,c,none⟩ (.int .i64 (t:Int))).heap.size:=(by simpa using ej);clear az cd a6 ek k4 k5 hB hI hJ ap;go_wp2_with fail;clear b2 b3 y0 y1 z0 z1 gs gv;generalize (W2.setCell ⟨gr,r,none⟩ (.int .i64 (t:Int))).setCell ⟨gc,c,none⟩ (.int .i64 (t:Int))=W4 at *;obtain ⟨M4,fa,fb,ce⟩:=al;have el:5^t * K≤5^n * K:=Nat.mul_le_mul_right K (Nat.pow_le_pow_right (by decide) (by omega));have em:¬(Vv n (t+1) (Wl R t r)).getD r 0 < 0:=fun g=>((Wn hr).1 g).2 rfl
          refine (Zhg W.heap.size ge n _ _ _ M4 G D _ _ a r c (5^t * K) _ fa fb (by omega) hr hc em HP.out ay.out (by have:=HE.out;omega) ce.size).mono ?_;rintro _ w5 ⟨v',rfl,M5,H,fm,fn,dy,hH,fo,fp,a2⟩;obtain ⟨cs,cu,cv⟩:=Zwr L.out hr hc ef.out eg.out HP.out HK.out ay.out;obtain ⟨g,cg,fc,hl,hm,gw,ho⟩:=dy.shape (by rw [Zu];omega);rw [Zu] at fc gw;subst fc;have ak:Xf W ge ga gr gc n G D (Vv n (t+1) (Wl R t r)) (Vv n (t+1) (Wl C t c)) (elQ (Vv n (t+1) (Wl R t r)) (Vv n (t+1) (Wl C t c)) a r c n 0) w5:=⟨M5,fm,fn,ce.trans a2⟩;have a8:=a7.othP fp fo;obtain ⟨m0,m1⟩:=ZP a8.2.2.2.1 (Znk (G:=Ff) (D:=E) htl);obtain ⟨a9,k7⟩:=a8.push htl (Yi.monoB dy ce.size) (fun i hi=>⟨(hH i hi).1,(hH i hi).2.mono (by omega)⟩) (fun i hi=>by have:=fx.out i hi;omega);have b4:=ak.farT k7 (v:= .slice (some ⟨g,0,none⟩) n cg) ee.out.1 (by have:=ee.out;omega);have g4:Yat W ge ga gr gc gf g0 g1 gt n K (t+1) G D (trM Cs) (w5.setCell ⟨gt,t,none⟩ (.slice (some ⟨g,0,none⟩) n cg)):=⟨_,_,_,_,_,_,b4,cs,cv,fun s i hs hi=>by
           by_cases e:s=t
           ·subst e;rw [ZG];exact (cu i hi).mono (by omega)
           ·rw [ZE (by omega)];exact d0.out s i (by omega) hi,a9⟩
          clear fa fb ce fm fn dy hH fo fp a2 cs cu cv ak a8 a9 k7 b4 a7 em el;go_wp2;go_roundw
          case rel=>exact ⟨t+1,by omega,by go_num,g4⟩
          case measure=>simp [intOf];omega
        ·obtain rfl:n=t:=by omega
         obtain ⟨a,m,R,C,Ff,E,hF,be,bf,bg,hR⟩:=hL;rw [Znq,Znq] at hR;have L:=Lib.hid be;have ay:=Lib.hid bf;have d0:=Lib.hid bg;have d7:Hid (1≤5^n * K):=Lib.hid (Nat.mul_pos (Nat.pow_pos (by decide)) HK.out);have en:=Zdq n (by omega);have bv:=Zb wr (.cells (zvc n) 72);have eo:=Yc.zeros wr n (by unfold maxLen;omega);have al:=hF.below bv;have a7:=hR.below bv;obtain ⟨a8,k6⟩:=a7.set2 (.slice (some ⟨wr.heap.size,0,none⟩) n n);obtain ⟨s0,s1,s2,s3⟩:=a7.1.four;obtain ⟨f0,f1,f2,f3⟩:=a7.1.fourF;have bw:=hF.choose_spec.2.2;have N:=(Za bw bv bw.size).setCell (p:=⟨gf,2,none⟩) ec.out (.slice (some ⟨wr.heap.size,0,none⟩) n n);have ak:=al.but k6 N (by decide) (by decide) (by decide) (by decide) (by decide);have d8:=eo.but k6 (by decide) (by decide) (by decide);have g5:=bw.size;obtain ⟨gl,dl⟩:∃gl,gl=wr.heap.size:=⟨_,rfl⟩;have ep:Hid (W.heap.size≤gl):=Lib.hid (by omega);clear be bf bg hF hR al a7 eo k6 bw bv
         go_upto_region 31 with (fail)
         clear s0 s1 s2 s3 f0 f1 f2 f3;have b5:((wr.alloc (.cells (zvc n) 72)).setCell ⟨gf,2,none⟩ (.slice (some ⟨wr.heap.size,0,none⟩) n n)).heap.size=gl+1:=(by rw [dl];simp);rw [← dl] at a8 d8 N ak b5 ⊢;generalize (wr.alloc (.cells (zvc n) 72)).setCell ⟨gf,2,none⟩ (.slice (some ⟨gl,0,none⟩) n n)=W6 at *;have g6:=Lib.hid b5;clear b5 dl g5;have b6:=Zb W6 (.cells (zvc n) 72);have er:=Yc.zeros W6 n (by unfold maxLen;omega);have b4:=ak.below b6;have a9:=a8.below b6;have ck:=d8.below b6;obtain ⟨dm,k8⟩:=a9.set3 (.slice (some ⟨W6.heap.size,0,none⟩) n n);obtain ⟨s0,s1,s2,s3⟩:=a9.1.four;obtain ⟨f0,f1,f2,f3⟩:=a9.1.fourF;have d9:=(Za N b6 N.size).setCell (p:=⟨gf,3,none⟩) ec.out (.slice (some ⟨W6.heap.size,0,none⟩) n n);have da:=b4.but k8 d9 (by decide) (by decide) (by decide) (by decide) (by decide);have db:=(ck.but k8 (by decide) (by decide) (by decide)).monoB ep.out;have dc:=(er.but k8 (by decide) (by decide) (by decide)).monoB (show W.heap.size≤W6.heap.size from N.size);obtain ⟨gu,fd⟩:∃gu,gu=W6.heap.size:=⟨_,rfl⟩;have cl:gl≠gu:=(by have:=g6.out;omega);have g7:=Lib.hid fd;clear fd;clear ak a8 d8 b4 a9 er ck k8 N b6;go_wp2_with fail;clear s0 s1 s2 s3 f0 f1 f2 f3;rw [← g7.out] at dm dc da d9 db ⊢;generalize (W6.alloc (.cells (zvc n) 72)).setCell ⟨gf,3,none⟩ (.slice (some ⟨gu,0,none⟩) n n)=W8 at *;refine (Zbg _).mono ?_;rintro _ w9 ⟨v9,rfl,e9,a1⟩;obtain ⟨Ao,ko,co,aa,ab,ac,rfl,_,_⟩:=id e9;have b7:=Bk.new w9 48 [.bool (canF 1).num.neg,.slice Ao ko co,.bool (canF 1).den.neg,.slice aa ab ac];have am:=Zb w9 (.cells #[.bool (canF 1).num.neg,.slice Ao ko co,.bool (canF 1).den.neg,.slice aa ab ac] 48);have d:=Za a1 am a1.size;have ax:LuM W ge ga gr gc gf g0 g1 gt gl gu w9.heap.size n (2 * (5^n * K)) 0 0 G D R C Ff E a m (w9.alloc (.cells #[.bool (canF 1).num.neg,.slice Ao ko co,.bool (canF 1).den.neg,.slice aa ab ac] 48)):=
          ⟨da.below d,dm.below d,⟨_,_,_,_,_,_,b7,e9.below am⟩,by rw [← Zdx];exact db.below d,by rw [← Zdx];exact dc.below d⟩
         clear da dm db dc b7 am d e9 a1 d9;go_wp2;generalize w9.heap.size=go at *;generalize w9.alloc (.cells #[.bool (canF 1).num.neg,.slice Ao ko co,.bool (canF 1).den.neg,.slice aa ab ac] 48)=W9 at *;clear en
         go_loopw [136] (fun x wr=>∃t:Nat,t≤n∧x= .int .i64 t∧LuM W ge ga gr gc gf g0 g1 gt gl gu go n (2 * (5^n * K)) t t G D R C Ff E a m wr) (fun x _=>n - (intOf x).toNat)
         case atStart=>exact ⟨0,by omega,rfl,ax⟩
         case round=>
          clear ax;obtain ⟨t,ht,rfl,dn⟩:=hrel;rcases Nat.lt_or_ge t n with htl | htl
          ·have bx:=Lib.hid dn;obtain ⟨-,bi,⟨Ao,ko,co,aa,ab,ac,b7,fe⟩,-⟩:=dn;have ch:=Wh n (by omega);have an:=Yi.zeros wr n (by unfold maxLen;omega);have S:=Zb wr (.cells (zfc n) 48);have am:=b7.later S;have cm:=fe.below S;obtain ⟨o0,o1,o2,o3⟩:=am.four;have fy:(t:Int) < n:=(by omega);obtain ⟨_,_,_,_,⟨c0,c1,c2,c3⟩,⟨f0,f1,f2,f3⟩,-⟩:=an.at_ (k:=t) (f:=zeroF) (by simp [htl]);obtain ⟨dp,k1⟩:=an.set_ (k:=t) (by simpa using htl) cm;rw [U5,Vl htl] at dp;have b8:=ZA S (Nat.le_refl _) (t * 4) (t * 4+1) (t * 4+2) (t * 4+3) (.bool (canF 1).num.neg) (.slice Ao ko co) (.bool (canF 1).den.neg) (.slice aa ab ac);obtain ⟨m0,_⟩:=ZP (own_below bi.2.2.2.1 b8) (by rw [Znj];exact U4 htl);unfold U3 at m0;obtain ⟨_,bj⟩:=bi.2.2.2.2;obtain ⟨gq,cq,aq,-,-,ff,gx⟩:=(bj t htl).1.shape (by rw [Zu];omega);rw [Zu] at aq ff;unfold U3 at aq;injection aq with hv1 hv2 aq;clear hv1 hv2;rw [← aq] at ff gx;clear bi b7 fe am cm an bj aq
           go_upto_region 37 with (fail)
           generalize wr.alloc (.cells (zfc n) 48)=W6 at *
           go_upto_region 38 with (fail)
           clear o0 o1 o2 o3 c0 c1 c2 c3 f0 f1 f2 f3 k1 S;generalize (((W6.setCell ⟨wr.heap.size,t * 4,none⟩ (.bool (canF 1).num.neg)).setCell ⟨wr.heap.size,t * 4+1,none⟩ (.slice Ao ko co)).setCell ⟨wr.heap.size,t * 4+2,none⟩ (.bool (canF 1).den.neg)).setCell ⟨wr.heap.size,t * 4+3,none⟩ (.slice aa ab ac)=W8 at *;go_wp2;clear m0;generalize wr=V at *
           go_loopw [150] (fun x wr=>∃k:Nat,k≤n∧x= .int .i64 k∧Below V.heap.size V wr∧∃L':Nat→RF,Yi V.heap.size wr (.slice (some ⟨V.heap.size,0,none⟩) n n) (rfL n L')∧∀p,p < n→(L' p).q=Zlv R m t k p∧(L' p).Rs (2 * (5^n * K))) (fun x _=>n - (intOf x).toNat)
           case atStart=>exact ⟨0,by omega,rfl,b8,_,dp,fun p hp=>by
            rw [Zpo];by_cases e:p=t
            ·simp only [if_pos e];exact ⟨Zt _,Sz_one.rs.mono (by have:=d7.out;omega)⟩
            ·simp only [if_neg e];exact ⟨zeroF_q,(Vj 1).mono (by have:=d7.out;omega)⟩⟩
           case round=>
            clear dp b8;obtain ⟨k,hk,rfl,l,L',hO,U⟩:=hrel;rcases Nat.lt_or_ge k n with hkl | hkl
            ·obtain ⟨-,fg,-⟩:=bx.out;obtain ⟨H0,bj⟩:=fg.2.2.2.2;obtain ⟨fh,fi,-⟩:=bj t htl;obtain ⟨bl,bm⟩:=fi k hkl;obtain ⟨bz,oz,A5,n5,c5,A6,n6,c6,dq,_,⟨x0,x1,x2,x3⟩,ar⟩:=fh.frs.elem l (Ym hkl);injection dq with dq;injection dq with av aw;subst av;subst aw;simp only [Nat.zero_add] at x0 x1 x2 x3;obtain ⟨sx,bn,dr⟩:=L.out.ri.onto hkl;obtain ⟨fz,fj⟩:∃fz,fz=H0 t k:=⟨_,rfl⟩;rw [← fj] at x0 x2 ar bl bm;have et:=Lib.hid bl;have g8:=Lib.hid bm;have e7:(k:Int) < n:=(by omega);have h6:(sx:Int) < n:=(by omega);have g9:Hid (m t k≠0→∀p,p < n→Zlv R m t (k+1) p=if p=sx then m t k else Zlv R m t k p):=Lib.hid fun h0 p hp=>Ztc L.out.ri htl hp bn dr h0 (L.out.m0 t t htl (Nat.le_refl _))
             have gb:Hid (m t k=0→∀p,p < n→Zlv R m t k p=Zlv R m t (k+1) p):=Lib.hid fun h0 p hp=>Ztb (n:=n) h0
             have gd:Hid ((Vv n n R)[k]? =some (sx:Int)):=Lib.hid (by rw [WB hkl,← dr,Yaq L.out.ri bn]);clear fg bj fh fi fj dr bl bm;obtain ⟨W9,gy,ds,a1⟩:=YZ wr (.bool fz.num.neg) (.slice A5 n5 c5) (.bool fz.den.neg) (.slice A6 n6 c6);obtain ⟨v0,v1,v2,v3⟩:=ds.four;have dd:=ar.below a1;go_wp2_with fail;clear gy;refine (Zx _ fz _ dd).mono ?_;rw [et.out];rintro _ w2 ⟨rfl,bq⟩;have J:=Za (Za l a1 l.size) bq (Nat.le_trans l.size a1.size);have c4:=(hO.below a1).below bq;have de:=dd.below bq;have P:=ds.later bq;clear hO ar dd ds l a1 bq v0 v1 v2 v3 x0 x1 x2 x3;by_cases au:qs (m t k)=0
             ·have df:=Lib.hid (Z7.1 au);rw [au];clear de P au;go_wp2;go_roundw
              case rel=>exact ⟨k+1,by omega,by go_num,J,L',c4,fun p hp=>⟨by rw [(U p hp).1,gb.out df.out p hp],(U p hp).2⟩⟩
              case measure=>simp [intOf];omega
             ·have df:Hid (m t k≠0):=Lib.hid fun e=>au (Z7.2 e)
              have gg:(qs (m t k) !=0)=true:=(by simpa using au);clear au;obtain ⟨v0,v1,v2,v3⟩:=P.four;obtain ⟨⟨M0,⟨bo,-,ad,-⟩,-⟩,-⟩:=bx.out.below J;obtain ⟨_,_,b2,_⟩:=bo.four;obtain ⟨p0,_,_,_⟩:=ad.at_ gd.out;obtain ⟨_,_,_,_,⟨c0,c1,c2,c3⟩,⟨f0,f1,f2,f3⟩,_⟩:=c4.at_ (Ym (f:=L') bn);clear bo ad P
              go_upto_region 42 with (fail)
              clear gg;have C0:=Zm v0;have C1:=Zm v1;have C2:=Zm v2;have C3:=Zm v3;have D0:=Zm b2;have D1:=Zm p0;have y:=Ze w2;clear v0 v1 v2 v3 b2 p0;refine Zo 8 [0,1,2,3,4,5,6,7,8] (by kernel_rfl) (by kernel_rfl) ?_;repeat ((first | (refine Zc (v:=?_) rfl rfl rfl ?_ ?_;rotate_left;(· (intro _ u;go_simp;(try go_bits);(try with_reducible rfl)))) | (refine Zg (v:=?_) rfl rfl rfl ?_ ?_;rotate_left;(· (intro _ u;go_simp;(try go_bits);(try with_reducible rfl)))) | refine Zh rfl rfl rfl ?_);(try simp only [Act.put,pu1,pu2,pu3,pu4,pu5,pu6]))
              refine Zf rfl rfl (fun KR hKR=>?_);go_simp;refine hKR.out _ _ (Or.inl (by decide)) ?_;clear hKR KR;(try simp only [Act.put,pu1,pu2,pu3,pu4,pu5,pu6]);refine Zy ?_;clear C0 C1 C2 C3 D0 D1;obtain ⟨bp,_⟩:=(c4.below y).set_ (k:=sx) (by rw [Zu];exact bn) (de.below y);rw [Vl bn] at bp;have b9:=ZA (Za J y J.size) (Nat.le_refl _) (sx * 4) (sx * 4+1) (sx * 4+2) (sx * 4+3);clear c4 de J y c0 c1 c2 c3 f0 f1 f2 f3;go_wp2;go_roundw
              case rel=>
               refine ⟨k+1,by omega,by go_num,b9 _ _ _ _,_,bp,fun p hp=>?_⟩;rw [g9.out df.out p hp];by_cases e:p=sx
               ·simp only [if_pos e];exact ⟨et.out,g8.out⟩
               ·simp only [if_neg e];exact U p hp
              case measure=>simp [intOf];omega
            ·obtain rfl:n=k:=by omega
             have I:=bx.out.below l;obtain ⟨-,⟨X,-⟩,-,-,-⟩:=id I;obtain ⟨-,-,s2,-⟩:=X.four;have ba:RsL (2 * (5^n * K)) (rfL n L'):=fun i f hf=>by
              have hi:i < n:=(by have:=(List.getElem?_eq_some_iff.1 hf).1;rwa [Zu] at this);rw [Ym hi] at hf;injection hf with hf;subst hf;exact (U i hi).2
             have dg:Hid (spV (qAt (rfL n L')) (rfL n L').length=spV (luL R m t) n):=Lib.hid (by
              rw [Zu];exact Xo fun i hi=>by rw [Zgz hi,(U i hi).1,Zws L.out.ri hi fun q hq=>L.out.m0 t q htl hq])
             clear U X
             go_upto_region 44 with (fail)
             have D0:=Zm s2;have y:=Ze wr;clear s2;refine Zo 9 [0,1,2,3,4,5,6,7,8,9] (by kernel_rfl) (by kernel_rfl) ?_;repeat ((first | (refine Zc (v:=?_) rfl rfl rfl ?_ ?_;rotate_left;(· (intro _ u;go_simp;(try go_bits);(try with_reducible rfl)))) | (refine Zg (v:=?_) rfl rfl rfl ?_ ?_;rotate_left;(· (intro _ u;go_simp;(try go_bits);(try with_reducible rfl)))) | refine Zh rfl rfl rfl ?_);(try simp only [Act.put,pu1,pu2,pu3,pu4,pu5,pu6]))
             refine Zf rfl rfl (fun KR hKR=>?_);go_simp;(with_reducible refine (YX _ _ (2 * (5^n * K)) _ (hO.frs.below y) (by rw [Zu];omega) ba (by have:=HE.out;omega)).mono ?_);rintro _ w6 ⟨v6,rfl,e6,N⟩;have a0:=Za y N y.size;rw [dg.out] at e6;obtain ⟨A7,n7,c7,rfl⟩:∃A n c,v6= .slice A n c:=by obtain ⟨A,c,e,_⟩:=e6.vec.shape;exact ⟨A,_,c,e⟩
             obtain ⟨_,dt,du,_⟩:=(I.below a0).2.2.2.1.at_ (U7 htl);refine hKR.out _ _ (Or.inr a0) ?_;clear hKR KR;(try simp only [Act.put,pu1,pu2,pu3,pu4,pu5,pu6]);repeat ((first | (refine Zc (v:=?_) rfl rfl rfl ?_ ?_;rotate_left;(· (intro _ u;go_simp;(try go_bits);(try with_reducible rfl)))) | (refine Zg (v:=?_) rfl rfl rfl ?_ ?_;rotate_left;(· (intro _ u;go_simp;(try go_bits);(try with_reducible rfl)))) | refine Zh rfl rfl rfl ?_);(try simp only [Act.put,pu1,pu2,pu3,pu4,pu5,pu6]))
             refine Zf rfl rfl (fun KR hKR=>?_);go_simp;refine hKR.out _ _ (Or.inl (by decide)) ?_;clear hKR KR;(try simp only [Act.put,pu1,pu2,pu3,pu4,pu5,pu6]);refine Zy ?_;clear D0;have F:=(I.below a0).setL cl htl e6.vec;clear I hO l y a0 N e6 dt du bx;generalize w6.setCell ⟨gl,t,none⟩ (.slice A7 n7 c7)=W7 at *;have an:=Yi.zeros W7 n (by unfold maxLen;omega);have S:=Zb W7 (.cells (zfc n) 48);have cn:=Lib.hid F;clear F;go_wp2
             go_loopw [180] (fun x wr=>∃k:Nat,k≤t+1∧x= .int .i64 k∧Below W7.heap.size W7 wr∧∃L':Nat→RF,Yi W7.heap.size wr (.slice (some ⟨W7.heap.size,0,none⟩) n n) (rfL n L')∧∀p,p < n→(L' p).q=upP R C a t k p∧(L' p).Rs (2 * (5^n * K))) (fun x _=>t+1 - (intOf x).toNat)
             case atStart=>exact ⟨0,by omega,rfl,S,fun _=>zeroF,by rw [← U5];exact an,fun p hp=>⟨by unfold upP;rw [if_neg (by omega)];exact zeroF_q,(Vj 1).mono (by have:=d7.out;omega)⟩⟩
             case round=>
              clear an S;obtain ⟨k,hk,rfl,l,L',hO,U⟩:=hrel;rcases Nat.lt_or_ge k (t+1) with hkl | hkl
              ·have I:=cn.out.below l;obtain ⟨⟨M0,⟨bo,cf,-⟩,dv,-⟩,⟨X,ad,a4,-⟩,-⟩:=I;have bb:k < n:=(by omega);have ao:R k < n:=L.out.ri.1 k bb;have c8:C t < n:=L.out.ci.1 t htl;obtain ⟨_,b1,_,_⟩:=bo.four;obtain ⟨s0,s1,_,_⟩:=X.four;obtain ⟨y0,_,_,_⟩:=ad.at_ (Zbv bb);obtain ⟨z0,_,_,_⟩:=a4.at_ (Zbv htl);obtain ⟨m1,_⟩:=cf.cellAt ao;unfold U3 at m1;obtain ⟨l1,l2,l3,l4⟩:=cf.lt ao (by omega);obtain ⟨A5,n5,c5,A6,n6,c6,⟨x0,x1,x2,x3⟩,ar⟩:=cf.at_ ao c8;have gh:Hid ((M0 (R k) (C t)).q=a (R k) (C t)∧(M0 (R k) (C t)).Rs (2 * (5^n * K))):=Lib.hid ⟨(dv _ _ ao c8).q,((dv _ _ ao c8).rs (ay.out _ _ ao c8)).mono (by omega)⟩;have gi:Hid (∀p,upP R C a t (k+1) p=if p=k then a (R k) (C t) else upP R C a t k p):=Lib.hid fun p=>Zwt p
               obtain ⟨_,_,_,_,⟨c0,c1,c2,c3⟩,⟨f0,f1,f2,f3⟩,_⟩:=hO.at_ (Ym (f:=L') bb);generalize M0 (R k) (C t)=fz at *;generalize a (R k) (C t)=qz at *;generalize R k=rk at *;generalize C t=ct at *;have e7:(k:Int) < n:=(by omega);have g2:(rk:Int) < n:=(by omega);have g3:(ct:Int) < n:=(by omega);clear bo cf dv X ad a4
               go_upto_region 49 with (fail)
               have C0:=Zm x0;have C1:=Zm x1;have C2:=Zm x2;have C3:=Zm x3;have D0:=Zm b1;have D1:=Zm s0;have D2:=Zm s1;have D3:=Zm y0;have D4:=Zm z0;have D5:=Zm m1;have y:=Ze wr;clear x0 x1 x2 x3 b1 s0 s1 y0 z0 m1;refine Zo 19 [0,1,2,3,4,5,6,7,8,9,10,11,12,13,14,15,16,17,18,19] (by kernel_rfl) (by kernel_rfl) ?_;repeat ((first | (refine Zc (v:=?_) rfl rfl rfl ?_ ?_;rotate_left;(· (intro _ u;go_simp;(try go_bits);(try with_reducible rfl)))) | (refine Zg (v:=?_) rfl rfl rfl ?_ ?_;rotate_left;(· (intro _ u;go_simp;(try go_bits);(try with_reducible rfl)))) | refine Zh rfl rfl rfl ?_);(try simp only [Act.put,pu1,pu2,pu3,pu4,pu5,pu6]))
               refine Zf rfl rfl (fun KR hKR=>?_);go_simp;refine hKR.out _ _ (Or.inl (by decide)) ?_;clear hKR KR;(try simp only [Act.put,pu1,pu2,pu3,pu4,pu5,pu6]);refine Zy ?_;clear C0 C1 C2 C3 D0 D1 D2 D3 D4 D5;obtain ⟨bp,_⟩:=(hO.below y).set_ (k:=k) (by rw [Zu];exact bb) (ar.below y);rw [Vl bb] at bp;have b9:=ZA (Za l y l.size) (Nat.le_refl _) (k * 4) (k * 4+1) (k * 4+2) (k * 4+3);clear hO ar l y c0 c1 c2 c3 f0 f1 f2 f3;go_wp2;go_roundw
               case rel=>
                refine ⟨k+1,by omega,by go_num,b9 _ _ _ _,_,bp,fun p hp=>?_⟩;rw [gi.out p];by_cases e:p=k
                ·simp only [if_pos e];exact gh.out
                ·simp only [if_neg e];exact U p hp
               case measure=>simp [intOf];omega
              ·obtain rfl:k=t+1:=by omega
               have I:=cn.out.below l;obtain ⟨-,⟨X,-⟩,-,-,-⟩:=id I;obtain ⟨-,-,-,s3⟩:=X.four;have ba:RsL (2 * (5^n * K)) (rfL n L'):=fun i f hf=>by
                have hi:i < n:=(by have:=(List.getElem?_eq_some_iff.1 hf).1;rwa [Zu] at this);rw [Ym hi] at hf;injection hf with hf;subst hf;exact (U i hi).2
               have dg:Hid (spV (qAt (rfL n L')) (rfL n L').length=spV (luU R C a t) n):=Lib.hid (by
                rw [Zu];exact Xo fun i hi=>by rw [Zgz hi,(U i hi).1,Yar])
               clear U X
               go_upto_region 51 with (fail)
               have D0:=Zm s3;have y:=Ze wr;clear s3;refine Zo 9 [0,1,2,3,4,5,6,7,8,9] (by kernel_rfl) (by kernel_rfl) ?_;repeat ((first | (refine Zc (v:=?_) rfl rfl rfl ?_ ?_;rotate_left;(· (intro _ u;go_simp;(try go_bits);(try with_reducible rfl)))) | (refine Zg (v:=?_) rfl rfl rfl ?_ ?_;rotate_left;(· (intro _ u;go_simp;(try go_bits);(try with_reducible rfl)))) | refine Zh rfl rfl rfl ?_);(try simp only [Act.put,pu1,pu2,pu3,pu4,pu5,pu6]))
               refine Zf rfl rfl (fun KR hKR=>?_);go_simp;(with_reducible refine (YX _ _ (2 * (5^n * K)) _ (hO.frs.below y) (by rw [Zu];omega) ba (by have:=HE.out;omega)).mono ?_);rintro _ w6 ⟨v6,rfl,e6,N⟩;have a0:=Za y N y.size;rw [dg.out] at e6;obtain ⟨A7,n7,c7,rfl⟩:∃A n c,v6= .slice A n c:=by obtain ⟨A,c,e,_⟩:=e6.vec.shape;exact ⟨A,_,c,e⟩
               obtain ⟨_,dt,du,_⟩:=(I.below a0).2.2.2.2.at_ (U7 htl);refine hKR.out _ _ (Or.inr a0) ?_;clear hKR KR;(try simp only [Act.put,pu1,pu2,pu3,pu4,pu5,pu6]);repeat ((first | (refine Zc (v:=?_) rfl rfl rfl ?_ ?_;rotate_left;(· (intro _ u;go_simp;(try go_bits);(try with_reducible rfl)))) | (refine Zg (v:=?_) rfl rfl rfl ?_ ?_;rotate_left;(· (intro _ u;go_simp;(try go_bits);(try with_reducible rfl)))) | refine Zh rfl rfl rfl ?_);(try simp only [Act.put,pu1,pu2,pu3,pu4,pu5,pu6]))
               refine Zf rfl rfl (fun KR hKR=>?_);go_simp;refine hKR.out _ _ (Or.inl (by decide)) ?_;clear hKR KR;(try simp only [Act.put,pu1,pu2,pu3,pu4,pu5,pu6]);refine Zy ?_;clear D0;have F:=(I.below a0).setU cl htl e6.vec;clear I hO l y a0 N e6 dt du;go_wp2;go_roundw
               case rel=>exact ⟨t+1,by omega,by go_num,F⟩
               case measure=>simp [intOf];omega
          ·obtain rfl:n=t:=by omega
           obtain ⟨⟨_,-,-,O⟩,⟨X,ad,a4,-,-⟩,-,fk,fl⟩:=dn;rw [Znr] at fk fl;obtain ⟨s0,s1,s2,s3⟩:=X.four;have h7:=(O.mono br.out);have c9:=dz.out.later (O.mono br.out);have a3:=Za T O T.size;have ca:=T.size;obtain ⟨t0,t1,t2,t3⟩:=c9.four;obtain ⟨f0,f1,f2,f3⟩:=c9.fourF;go_wp2;have kk:=c9.but4 (.slice (some ⟨g0,0,none⟩) n n) (.slice (some ⟨g1,0,none⟩) n n) (.slice (some ⟨gl,0,none⟩) n n) (.slice (some ⟨gu,0,none⟩) n n);refine YR Tryz.results116 Tryz.underlying137 (by kernel_rfl) rfl (c9.set4 _ _ _ _) rfl ?_;exact ⟨ZB a3 (Nat.le_refl _) _ _ _ _,.inl ⟨R,C,luL R m,luU R C a,_,_,_,_,rfl,L.out.facS (by omega) HK.out HE.out ay.out d0.out,(ad.but kk (by decide)).monoB ca,(a4.but kk (by decide)).monoB ca,(fk.but kk (by decide) (by decide) (by decide)).monoB ca,(fl.but kk (by decide) (by decide) (by decide)).monoB ca⟩⟩
end
end Go.Proofs.YtncmobkhenfhpaaGreat
