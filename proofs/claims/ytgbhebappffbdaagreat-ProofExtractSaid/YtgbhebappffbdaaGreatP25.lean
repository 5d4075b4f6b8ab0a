/- Lemmas of the claim; no condition. -/
import Derived.Test.YtgbhebappffbdaaGreatP23
set_option linter.all false
set_option maxRecDepth 100000
set_option maxHeartbeats 40000000
namespace Go.Proofs.YtgbhebappffbdaaGreat
open Go.RowKit
open Pl
attribute [local go_sem ↓] Go.wp_at_zero Go.wp_at_succ
section
def Zkp (P:Nat→Prop) (w w':World):Prop:=w.heap.size≤w'.heap.size∧∀b,b < w.heap.size→¬P b→w'.heap[b]? =w.heap[b]?
theorem Zkp.trans {P:Nat→Prop} {a b c:World} (h:Zkp P a b) (k:Zkp P b c):Zkp P a c:=⟨JW h.1 k.1,fun x hx hne=>(k.2 x (Nat.lt_of_lt_of_le hx h.1) hne).trans (h.2 x hx hne)⟩
theorem Zkp.of_below {P:Nat→Prop} {w w':World} (h:Below w.heap.size w w'):Zkp P w w':=⟨h.size,fun b hb _=>h.block b hb⟩
theorem Zkp.of_others {P:Nat→Prop} {g:Nat} {w w':World} (h:ZW (some g) w w') (hp:g < w.heap.size→P g):Zkp P w w':=⟨h.1,fun b hb hn=>h.2 b hb fun e=>by injection e with e;subst e;exact hn (hp hb)⟩
theorem Zkp.below {P:Nat→Prop} {w w' w2:World} (h:Zkp P w w') (hb:Below w'.heap.size w' w2):Zkp P w w2:=h.trans (Zkp.of_below hb)
namespace Pl
def Tdy (f:RF) (q:Rat):Prop:=f=canF q∨(f=zeroF∧q=0)
theorem Tdy.q {f:RF} {q:Rat} (h:Tdy f q):f.q=q:=by
 rcases h with rfl | ⟨rfl,rfl⟩
 ·exact Zu _
 ·exact zeroF_q
theorem Tdy.rs {f:RF} {q:Rat} {J:Nat} (h:Tdy f q) (hs:Sz J q):f.Rs J:=by
 rcases h with rfl | ⟨rfl,rfl⟩
 ·exact hs.rs
 ·exact (Wz 1).mono (Zfn hs)
theorem Tdy.len {f:RF} {q:Rat} (h:Tdy f q):0 < f.num.ds.length↔q≠0:=by
 rcases h with rfl | ⟨rfl,rfl⟩
 ·show 0 < (Zl q.num.natAbs).length↔q≠0;by_cases e:q=0
  ·subst e;rw [show (0:Rat).num.natAbs=0 from rfl,digs_zero];simp
  ·have h1:q.num.natAbs≠0:=by
    intro h;exact e (Rat.num_eq_zero.1 (Int.natAbs_eq_zero.1 h))
   constructor
   ·exact fun _=>e
   ·intro _;rcases JV (Zl q.num.natAbs).length with h2 | h2
    ·exfalso;have h3:=List.eq_nil_of_length_eq_zero h2;have h4:=Zi q.num.natAbs;rw [h3] at h4;exact h1 (by rw [← h4];rfl)
    ·exact h2
 ·simp [zeroF,canI_zero]
def elQ (rp cp:List Int) (a:Mx) (r c i j:Nat):Mx:=fun s k=>if (s < i∨(s=i∧k < j))∧rp.getD s 0 < 0∧cp.getD k 0 < 0 then a s k - a s c / a r c * a r k else a s k
def Zig (rp:List Int) (a:Mx) (r c i:Nat):Nat→Rat:=fun s=>if s < i∧rp.getD s 0 < 0 then a s c / a r c else 0
section
variable {rp cp:List Int} {a:Mx} {r c i j:Nat}
theorem elQ_start:elQ rp cp a r c 0 0=a:=by
 funext s k;unfold elQ;rw [if_neg (by omega)]
theorem Zuy {s k:Nat} (h:¬rp.getD s 0 < 0):elQ rp cp a r c i j s k=a s k:=by unfold elQ;rw [if_neg fun e=>h e.2.1]
theorem Zou {n s k:Nat} (hn:¬rp.getD i 0 < 0∨a i c=0) (hk:k < n):elQ rp cp a r c i 0 s k=elQ rp cp a r c (i+1) 0 s k:=by
 unfold elQ;by_cases e:s=i
 ·subst e;rw [if_neg (by omega)];by_cases e2:rp.getD s 0 < 0∧cp.getD k 0 < 0
  ·rw [if_pos ⟨by omega,e2⟩];rcases hn with hn | hn
   ·exact absurd e2.1 hn
   ·rw [hn,show (0:Rat) / a r c=0 by rw [Rat.div_def];grind];grind
  ·rw [if_neg fun h=>e2 h.2]
 ·by_cases e2:(s < i∨(s=i∧k < 0))∧rp.getD s 0 < 0∧cp.getD k 0 < 0
  ·rw [if_pos e2,if_pos ⟨by omega,e2.2⟩]
  ·rw [if_neg e2,if_neg fun h=>e2 ⟨by omega,h.2⟩]
theorem Zyw {n s k:Nat} (hk:k < n):elQ rp cp a r c i n s k=elQ rp cp a r c (i+1) 0 s k:=by
 unfold elQ;by_cases e2:(s < i∨(s=i∧k < n))∧rp.getD s 0 < 0∧cp.getD k 0 < 0
 ·rw [if_pos e2,if_pos ⟨by omega,e2.2⟩]
 ·rw [if_neg e2,if_neg fun h=>e2 ⟨by omega,h.2⟩]
theorem Zov {s k:Nat} (hn:¬cp.getD j 0 < 0∨a r j=0):elQ rp cp a r c i j s k=elQ rp cp a r c i (j+1) s k:=by
 unfold elQ;by_cases e:s=i∧k=j
 ·obtain ⟨rfl,rfl⟩:=e;rw [if_neg (by omega)];by_cases e2:rp.getD s 0 < 0∧cp.getD k 0 < 0
  ·rw [if_pos ⟨by omega,e2⟩];rcases hn with hn | hn
   ·exact absurd e2.2 hn
   ·rw [hn];grind
  ·rw [if_neg fun h=>e2 h.2]
 ·by_cases e2:(s < i∨(s=i∧k < j))∧rp.getD s 0 < 0∧cp.getD k 0 < 0
  ·rw [if_pos e2,if_pos ⟨by omega,e2.2⟩]
  ·rw [if_neg e2,if_neg fun h=>e2 ⟨by omega,h.2⟩]
theorem Zyx {s k:Nat} (h1:rp.getD i 0 < 0) (h2:cp.getD j 0 < 0):elQ rp cp a r c i (j+1) s k=if s=i∧k=j then a i j - a i c / a r c * a r j else elQ rp cp a r c i j s k:=by
 unfold elQ;by_cases e:s=i∧k=j
 ·rw [if_pos e];obtain ⟨rfl,rfl⟩:=e;rw [if_pos ⟨by omega,h1,h2⟩]
 ·rw [if_neg e];by_cases e2:(s < i∨(s=i∧k < j))∧rp.getD s 0 < 0∧cp.getD k 0 < 0
  ·rw [if_pos e2,if_pos ⟨by omega,e2.2⟩]
  ·rw [if_neg e2,if_neg fun h=>e2 ⟨by omega,h.2⟩]
theorem elQ_at:elQ rp cp a r c i j i j=a i j:=by unfold elQ;rw [if_neg (by omega)]
theorem Ycy {k:Nat}:elQ rp cp a r c i 0 i k=a i k:=by unfold elQ;rw [if_neg (by omega)]
theorem Zkq (hn:¬rp.getD i 0 < 0∨a i c=0) (s:Nat):Zig rp a r c i s=Zig rp a r c (i+1) s:=by
 unfold Zig;by_cases e:s=i
 ·subst e;rw [if_neg (by omega)];by_cases e2:rp.getD s 0 < 0
  ·rw [if_pos ⟨by omega,e2⟩];rcases hn with hn | hn
   ·exact absurd e2 hn
   ·rw [hn,Rat.div_def];grind
  ·rw [if_neg fun h=>e2 h.2]
 ·by_cases e2:s < i∧rp.getD s 0 < 0
  ·rw [if_pos e2,if_pos ⟨by omega,e2.2⟩]
  ·rw [if_neg e2,if_neg fun h=>e2 ⟨by omega,h.2⟩]
theorem Zuz (h1:rp.getD i 0 < 0) (s:Nat):Zig rp a r c (i+1) s=if s=i then a i c / a r c else Zig rp a r c i s:=by
 unfold Zig;by_cases e:s=i
 ·subst e;rw [if_pos rfl,if_pos ⟨by omega,h1⟩]
 ·rw [if_neg e];by_cases e2:s < i∧rp.getD s 0 < 0
  ·rw [if_pos e2,if_pos ⟨by omega,e2.2⟩]
  ·rw [if_neg e2,if_neg fun h=>e2 ⟨by omega,h.2⟩]
end
end Pl
def Zva (V:World) (f:RF) (s9:Value) (wx:World):Prop:=
 ∃(g:Nat) (A:Option Addr) (n c:Nat) (A':Option Addr) (n' c':Nat),s9= .pointer (some ⟨g,0,none⟩)∧V.heap.size≤g∧Bk wx g 46 [.bool f.num.neg,.slice A n c,.bool f.den.neg,.slice A' n' c']∧Zt wx (.agg #[.bool f.num.neg,.slice A n c,.bool f.den.neg,.slice A' n' c']) f∧Below V.heap.size V wx
theorem Zva.mk {V w:World} {g:Nat} {f:RF} {x y z u:Value} {A A':Option Addr} {n c n' c':Nat} (hB:Bk w g 46 [x,y,z,u]) (hm:Zt w (.agg #[.bool f.num.neg,.slice A n c,.bool f.den.neg,.slice A' n' c']) f) (hb:Below V.heap.size V w) (hg:V.heap.size≤g):
 Zva V f (.pointer (some ⟨g,0,none⟩)) ((((w.setCell ⟨g,0,none⟩ (.bool f.num.neg)).setCell ⟨g,1,none⟩ (.slice A n c)).setCell ⟨g,2,none⟩ (.bool f.den.neg)).setCell ⟨g,3,none⟩ (.slice A' n' c')):=
 ⟨g,A,n,c,A',n',c',rfl,hg,hB.set4 _ _ _ _,hm.keep (hB.keep4 (by decide) _ _ _ _),ZG hb hg _ _ _ _⟩
def Zlg (base:Nat) (w:World) (ge n:Nat) (va vr vc:Value) (G D:Nat→Nat) (rp cp:List Int) (Q:Mx) (f:Nat→Rat) (J:Nat) (vf:Value) (wr:World):Prop:=
 ∃(M:Nat→Nat→RF) (H:Nat→RF),ElM base wr ge n va vr vc M G D rp cp∧(∀i j,i < n→j < n→Tdy (M i j) (Q i j))∧Z4 w.heap.size wr vf (rfL n H)∧(∀i,i < n→(H i).q=f i∧(H i).Rs J)∧
  Ze 46 w wr∧Zkp (fun b=>∃i,i < n∧b=G i) w wr∧Below base w wr
theorem Zlg.below {base:Nat} {w wr w':World} {ge n:Nat} {va vr vc:Value} {G D:Nat→Nat} {rp cp:List Int} {Q:Mx} {f:Nat→Rat} {J:Nat} {vf:Value} (h:Zlg base w ge n va vr vc G D rp cp Q f J vf wr) (hb:Below wr.heap.size wr w') (hw:base≤w.heap.size):Zlg base w ge n va vr vc G D rp cp Q f J vf w':=by
 obtain ⟨M,H,h1,h2,h3,h4,h5,h6,h7⟩:=h;exact ⟨M,H,h1.below hb,h2,h3.below hb,h4,h5.trans (Ze.of_below hb),h6.below hb,Za h7 hb (JW hw h6.1)⟩
theorem Zlg.congr {base:Nat} {w wr:World} {ge n:Nat} {va vr vc:Value} {G D:Nat→Nat} {rp cp:List Int} {Q Q':Mx} {f f':Nat→Rat} {J:Nat} {vf:Value} (h:Zlg base w ge n va vr vc G D rp cp Q f J vf wr) (hq:∀i j,i < n→j < n→Q i j=Q' i j) (hf:∀i,i < n→f i=f' i):Zlg base w ge n va vr vc G D rp cp Q' f' J vf wr:=by
 obtain ⟨M,H,h1,h2,h3,h4,h5⟩:=h;exact ⟨M,H,h1,fun i j hi hj=>by rw [← hq i j hi hj];exact h2 i j hi hj,h3,fun i hi=>by rw [← hf i hi];exact h4 i hi,h5⟩
theorem Zlg.setF {base:Nat} {w wr:World} {ge n:Nat} {va vr vc:Value} {G D:Nat→Nat} {rp cp:List Int} {Q:Mx} {f f':Nat→Rat} {J cf:Nat} (h:Zlg base w ge n va vr vc G D rp cp Q f J (.slice (some ⟨w.heap.size,0,none⟩) n cf) wr) (hw:base≤w.heap.size) (hG:∀i,i < n→G i < w.heap.size) {i:Nat} (hi:i < n) {x y z u:Value} {q:RF} (hq:Zt wr (.agg #[x,y,z,u]) q) (hr:q.Rs J) (hf:∀s,s < n→f' s=if s=i then q.q else f s):
 Zlg base w ge n va vr vc G D rp cp Q f' J (.slice (some ⟨w.heap.size,0,none⟩) n cf) ((((wr.setCell ⟨w.heap.size,i * 4,none⟩ x).setCell ⟨w.heap.size,i * 4+1,none⟩ y).setCell ⟨w.heap.size,i * 4+2,none⟩ z).setCell ⟨w.heap.size,i * 4+3,none⟩ u):=by
 obtain ⟨M,H,⟨e1,e2,e3,e4,e5⟩,h2,h3,h4,h5,h6,h7⟩:=h;obtain ⟨g1,g2⟩:=h3.set_ (k:=i) (by rw [Zr];exact hi) hq;rw [Vk hi] at g1;have ho:=Yq (w:=wr) (g:=w.heap.size) (i:=i * 4) (j:=i * 4+1) (k:=i * 4+2) (l:=i * 4+3) (x:=x) (y:=y) (z:=z) (u:=u);refine ⟨M,fun s=>if s=i then q else H s,⟨g2.bk e1 (by decide),e2.far ho g2 fun r hr=>by have:=hG r hr;omega,e3.but g2 (by decide),e4.but g2 (by decide),e5⟩,h2,g1,fun s hs=>?_,h5.trans g2,⟨JW h6.1 ho.1,fun b hb hn=>(ho.2 b (Nat.lt_of_lt_of_le hb h6.1) fun e=>by injection e with e;omega).trans (h6.2 b hb hn)⟩,Zw h7 hw _ _ _ _ _ _ _ _⟩;rw [hf s hs];by_cases e:s=i
 ·simp only [if_pos e];exact ⟨trivial,hr⟩
 ·simp only [if_neg e];exact h4 s hs
theorem Zlg.setM {base:Nat} {w wr:World} {ge n:Nat} {va vr vc:Value} {G D:Nat→Nat} {rp cp:List Int} {Q Q':Mx} {f:Nat→Rat} {J cf:Nat} (h:Zlg base w ge n va vr vc G D rp cp Q f J (.slice (some ⟨w.heap.size,0,none⟩) n cf) wr) (hG:∀i,i < n→base≤G i∧G i < w.heap.size) {i j:Nat} (hi:i < n) (hj:j < n) {x y z u:Value} {q:Rat} (hq:Zt wr (.agg #[x,y,z,u]) (canF q)) (hf:∀s k,s < n→k < n→Q' s k=if s=i∧k=j then q else Q s k):
 Zlg base w ge n va vr vc G D rp cp Q' f J (.slice (some ⟨w.heap.size,0,none⟩) n cf) ((((wr.setCell ⟨G i,j * 4,none⟩ x).setCell ⟨G i,j * 4+1,none⟩ y).setCell ⟨G i,j * 4+2,none⟩ z).setCell ⟨G i,j * 4+3,none⟩ u):=by
 obtain ⟨M,H,⟨e1,e2,e3,e4,e5⟩,h2,h3,h4,h5,h6,h7⟩:=h;obtain ⟨g1,g2⟩:=e2.set_ hi hj hq;have ho:=Yq (w:=wr) (g:=G i) (i:=j * 4) (j:=j * 4+1) (k:=j * 4+2) (l:=j * 4+3) (x:=x) (y:=y) (z:=z) (u:=u);have hg:=hG i hi;refine ⟨_,H,⟨g2.bk e1 (by decide),g1,e3.but g2 (by decide),e4.but g2 (by decide),e5⟩,fun s k hs hk=>?_,h3.others ho (g2.keep (by decide)) (fun b hb e=>by simp [Value.ownBlock] at hb;injection e with e;omega),h4,h5.trans g2,h6.trans (Zkp.of_others ho fun _=>⟨i,hi,rfl⟩),Zw h7 hg.1 _ _ _ _ _ _ _ _⟩;rw [hf s k hs hk];unfold Yci;by_cases e:s=i∧k=j
 ·rw [if_pos e,if_pos e];exact .inl rfl
 ·rw [if_neg e,if_neg e];exact h2 s k hs hk
def Yfa (base:Nat) (w:World) (ge n:Nat) (va vr vc:Value) (G D:Nat→Nat) (rp cp:List Int) (Q:Mx) (f:Nat→Rat) (J:Nat) (o:Ending) (w':World):Prop:=
 ∃v',o= .returned v'∧Zlg base w ge n va vr vc G D rp cp Q f J v' w'
theorem Zht (base ge n:Nat) (va vr vc:Value) (M0:Nat→Nat→RF) (G D:Nat→Nat) (rp cp:List Int) (a:Mx) (r c J:Nat) (w:World) (h:ElM base w ge n va vr vc M0 G D rp cp) (ht:∀i j,i < n→j < n→Tdy (M0 i j) (a i j)) (hn:n≤7) (hr:r < n) (hc:c < n) (hrp:¬rp.getD r 0 < 0) (hp:a r c≠0) (hJ:∀i j,i < n→j < n→Sz J (a i j)) (hJ2:J≤4000000) (hb:base≤w.heap.size):
 Calls Tryz.prog 156 #[.pointer (some ⟨ge,0,none⟩),.int .i64 (r:Int),.int .i64 (c:Int)] w (Yfa base w ge n va vr vc G D rp cp (elQ rp cp a r c n 0) (Zig rp a r c n) (2 * J)):=by
 have b:0 < n:=by omega
 have cl:1≤J:=Zfn (hJ r c hr hc);have al:Hid (∀i,i < n→base≤G i∧G i < w.heap.size):=JZ fun i hi=>by obtain ⟨h1,h2,_,_⟩:=h.2.1.lt hi b;exact ⟨h1,h2⟩
 obtain ⟨b0,b1,b2,b3⟩:=h.1.four;have HJ:=JZ hJ;have HP:=JZ hp;have br:=Y1 n (by omega);have am:=Z4.zeros w n (by unfold maxLen;omega);have O:=Zb w (.cells (zfc n) 46);have b8:=h.1.later O;obtain ⟨c7,_,_,_⟩:=b8.four;have b9:List.replicate n zeroF=rfL n fun _=>zeroF:=by
  refine List.ext_getElem? fun i=>?_
  rcases JX i n with e | e
  ·rw [Yi e];simp [e]
  ·rw [JU (by simp;exact e),JU (by rw [Zr];exact e)]
 rw [b9] at am;have a3:Zlg base w ge n va vr vc G D rp cp (elQ rp cp a r c 0 0) (Zig rp a r c 0) (2 * J) (.slice (some ⟨w.heap.size,0,none⟩) n n) (w.alloc (.cells (zfc n) 46)):=
  ⟨M0,fun _=>zeroF,h.below O,fun i j hi hj=>by rw [elQ_start];exact ht i j hi hj,am,fun i _=>⟨by unfold Zig;rw [if_neg (by omega),zeroF_q],(Wz 1).mono (by omega)⟩,Ze.of_below O,Zkp.of_below O,O.mono hb⟩
 obtain ⟨go,co,rfl,_,_,cj,ck,_⟩:=h.2.1.outer b;obtain ⟨gr,cr,rfl,_,_,c8,cv⟩:=h.2.2.1.shape (by rw [h.2.2.2.2.1];exact b);obtain ⟨gc,cc,rfl,_,_,c9,cw⟩:=h.2.2.2.1.shape (by rw [h.2.2.2.2.2];exact b);have ba:Hid (¬rp.getD r 0 < 0):=JZ hrp;have an:=JZ h.2.2.2.2.1;have ao:=JZ h.2.2.2.2.2;rw [an.out] at c8 b2 a3;rw [ao.out] at c9 b3 a3;rw [an.out,ao.out];have cn:(c:Int) < n:=by omega
 have cq:(r:Int) < n:=by omega
 clear h ht hJ hp am b9 b8 hrp;go_enter Tryz.func156,Tryz.ntmps156;go_wp2;clear b0 b1 b2 b3 c7 br O;generalize w.alloc (.cells (zfc n) 46)=W0 at *
 go_loopw [21] (fun x wr=>∃i:Nat,i≤n∧x= .int .i64 i∧Zlg base w ge n (.slice (some ⟨go,0,none⟩) n co) (.slice (some ⟨gr,0,none⟩) n cr) (.slice (some ⟨gc,0,none⟩) n cc) G D rp cp (elQ rp cp a r c i 0) (Zig rp a r c i) (2 * J) (.slice (some ⟨w.heap.size,0,none⟩) n n) wr) (fun x _=>n - (intOf x).toNat)
 case atStart=>exact ⟨0,by omega,rfl,a3⟩
 case round=>
  clear a3;obtain ⟨i,hi,rfl,hA⟩:=hrel;rcases JX i n with hil | hil
  ·have HA:=JZ hA;obtain ⟨M,H,⟨hB,hM,hR,hC,_,_⟩,hT,hF,hH,Z,F,a0⟩:=hA;have cs:(i:Int) < n:=(by omega);obtain ⟨b0,b1,b2,b3⟩:=hB.four;obtain ⟨zi,aa⟩:=Xx (l:=rp) (i:=i) (by rw [an.out];exact hil);obtain ⟨r0,_,_,_⟩:=hR.at_ aa;have K:=Zed aa;by_cases hz:zi < 0
   ·have ap:=hT i c hil hc;rw [Ycy] at ap;have a4:=JZ ap;have bs:=JZ hT;have U:Hid (rp.getD i 0 < 0):=JZ (by rw [K];exact hz);obtain ⟨m1,_⟩:=hM.cellAt hil;obtain ⟨A1,n1,c1,A2,n2,c2,⟨x0,x1,x2,x3⟩,o⟩:=hM.at_ hil hc;obtain ⟨l1,l2,l3,l4⟩:=hM.lt hil b;unfold Zai at m1;have V:qs (a i c)=0∨qs (a i c)=1∨qs (a i c)= -1:=(by have:=Ul (a i c);omega);clear aa K Z F a0 hT hF hH hR hC ap;have HM:=JZ hM;have HB:=JZ hB;clear hM hB;by_cases C:qs (a i c)=0
    ·have a5:Hid (a i c=0):=JZ (Yp.1 C);go_wp2_with fail;refine (Zx _ (M i c) _ o).mono ?_;rw [a4.out.q,C];rintro _ w1 ⟨rfl,T⟩;have a6:=JZ (HA.out.below T hb);clear b0 b1 b2 b3 r0 m1 x0 x1 x2 x3 o V;go_wp2;go_roundw
     case rel=>exact ⟨i+1,by omega,by go_num,a6.out.congr (fun s k hs hk=>Zou (.inr a5.out) hk) fun s hs=>Zkq (.inr a5.out) s⟩
     case measure=>simp [intOf];omega
    ·have aq:(qs (a i c)==0)=false:=(by simpa using C);clear V C;go_wp2_with fail;refine (Zx _ (M i c) _ o).mono ?_;rw [a4.out.q];rintro _ w1 ⟨rfl,T⟩;have a6:=JZ (HA.out.below T hb);have P:=HM.out.below T;have bb:=HB.out.later T;clear b0 b1 b2 b3 r0 m1 x0 x1 x2 x3 o T;obtain ⟨_,b1,_,_⟩:=bb.four;obtain ⟨m1,_⟩:=P.cellAt hil;obtain ⟨m2,_⟩:=P.cellAt hr;unfold Zai at m1 m2;obtain ⟨A1,n1,c1,A2,n2,c2,⟨x0,x1,x2,x3⟩,o⟩:=P.at_ hil hc;obtain ⟨A3,n3,c3,A4,n4,c4,⟨y0,y1,y2,y3⟩,p⟩:=P.at_ hr hc;obtain ⟨r1,r2,r3,r4⟩:=P.lt hr b;have ar:Hid (Tdy (M r c) (a r c)):=JZ (by have:=bs.out r c hr hc;rwa [Zuy (by have:=ba.out;omega)] at this);obtain ⟨q,hq⟩:∃q,q=a i c / a r c:=⟨_,rfl⟩;have HQ:=JZ hq;have bc:Hid ((M i c).q / (M r c).q=q):=JZ (by rw [a4.out.q,ar.out.q,hq]);have a7:(M i c).Sm:=(a4.out.rs (HJ.out i c hil hc)).sm (by omega);have a8:(M r c).Sm:=(ar.out.rs (HJ.out r c hr hc)).sm (by omega);have bd:(M r c).q≠0:=(by rw [ar.out.q];exact HP.out);have au:Hid (Sz (2 * J) q):=JZ (by rw [hq];exact (Zje (HJ.out i c hil hc) (HJ.out r c hr hc)).mono (by omega));clear hq
     go_upto_region 6 with (fail)
     clear aq
     go_cut [9] (fun s9 wx=>Zva w1 (canF q) s9 wx)
     case first=>
      have C0:=Zp x0;have C1:=Zp x1;have C2:=Zp x2;have C3:=Zp x3;have E0:=Zp y0;have E1:=Zp y1;have E2:=Zp y2;have E3:=Zp y3;have D0:=Zp b1;have D1:=Zp m1;have D2:=Zp m2;have d:=Zj w1;clear x0 x1 x2 x3 y0 y1 y2 y3 b1 m1 m2;refine XF 25 (.go 0 (.go 1 (.go 2 (.go 3 (.go 4 (.go 5 (.go 6 (.go 7 (.go 8 (.go 9 (.go 10 (.go 11 (.go 12 (.go 13 (.go 14 (.go 15 (.go 16 (.go 17 (.go 18 (.go 19 (.fork 20 (.go 21 (.go 22 (.go 23 (.go 24 (.go 25 (.go 26 .done)))))) 24 (.go 20 (.go 21 (.go 22 (.go 23 (.go 25 (.go 26 .done))))))))))))))))))))))))))) (by kernel_rfl) (by kernel_rfl) ?_;repeat ((first | (refine Z6 (v:=?_) rfl rfl rfl ?_ ?_;rotate_left;(· (intro _ t;go_simp;(try go_bits);(try with_reducible rfl)))) | (refine Yr (v:=?_) rfl rfl rfl ?_ ?_;rotate_left;(· (intro _ t;go_simp;(try go_bits);(try with_reducible rfl)))) | refine Yt rfl rfl rfl ?_ | refine Z8 rfl rfl rfl (by assumption) ?_);(try simp only [Act.put,pu1,pu2,pu3,pu4,pu5,pu6]))
      refine WT rfl rfl (fun KR hKR=>?_) (fun KR hKR=>?_)
      ·go_simp;(with_reducible refine (VY _ _ (M i c) (M r c) _ (o.below d) (p.below d) a7 a8 bd).mono ?_);rw [bc.out];rintro _ wA ⟨vA,rfl,eA,ah⟩;have I:=Za d ah d.size;obtain ⟨A6,n6,c6,B6,m6,d6,rfl,_,_⟩:=id eA;refine hKR.out _ _ (Or.inr I) ?_;clear hKR KR;(try simp only [Act.put,pu1,pu2,pu3,pu4,pu5,pu6]);repeat ((first | (refine Z6 (v:=?_) rfl rfl rfl ?_ ?_;rotate_left;(· (intro _ t;go_simp;(try go_bits);(try with_reducible rfl)))) | (refine Yr (v:=?_) rfl rfl rfl ?_ ?_;rotate_left;(· (intro _ t;go_simp;(try go_bits);(try with_reducible rfl)))) | refine Yt rfl rfl rfl ?_ | refine Z8 rfl rfl rfl (by assumption) ?_);(try simp only [Act.put,pu1,pu2,pu3,pu4,pu5,pu6]))
       obtain ⟨WG,b5,S,ab⟩:=YN wA (.bool false) (.slice none 0 0) (.bool false) (.slice none 0 0);refine ZA rfl rfl (fun KR hKR=>?_);go_simp;have av:=I.size;have E:=Za I ab I.size;refine hKR.out _ _ (Or.inr E) ?_;clear hKR KR b5;(try simp only [Act.put,pu1,pu2,pu3,pu4,pu5,pu6]);have bt:=eA.below ab;obtain ⟨t0,t1,t2,t3⟩:=S.four;obtain ⟨f0,f1,f2,f3⟩:=S.fourF;refine ZA rfl rfl (fun KR hKR=>?_);go_simp;refine hKR.out _ _ (Or.inl (by decide)) ?_;clear hKR KR;(try simp only [Act.put,pu1,pu2,pu3,pu4,pu5,pu6]);refine ZA rfl rfl (fun KR hKR=>?_);go_simp;refine hKR.out _ _ (Or.inl (by decide)) ?_;clear hKR KR;(try simp only [Act.put,pu1,pu2,pu3,pu4,pu5,pu6]);refine YM ?_;go_wp2_with fail
       go_meet
       exact Zva.mk S bt E av
      ·obtain ⟨WG,b5,S,ab⟩:=YN w1.drew (.bool false) (.slice none 0 0) (.bool false) (.slice none 0 0);go_simp;have av:=d.size;have E:=Za d ab d.size;refine hKR.out _ _ (Or.inr E) ?_;clear hKR KR b5;(try simp only [Act.put,pu1,pu2,pu3,pu4,pu5,pu6])
       change Bk WG w1.heap.size 46 _ at S
       refine ZA rfl rfl (fun KR hKR=>?_);go_simp;(with_reducible refine (VY _ _ (M i c) (M r c) _ (o.below E) (p.below E) a7 a8 bd).mono ?_);rw [bc.out];rintro _ wA ⟨vA,rfl,eA,ah⟩;have I:=Za E ah E.size;obtain ⟨A6,n6,c6,B6,m6,d6,rfl,_,_⟩:=id eA;refine hKR.out _ _ (Or.inr I) ?_;clear hKR KR;(try simp only [Act.put,pu1,pu2,pu3,pu4,pu5,pu6]);have hG:=S.later ah;repeat ((first | (refine Z6 (v:=?_) rfl rfl rfl ?_ ?_;rotate_left;(· (intro _ t;go_simp;(try go_bits);(try with_reducible rfl)))) | (refine Yr (v:=?_) rfl rfl rfl ?_ ?_;rotate_left;(· (intro _ t;go_simp;(try go_bits);(try with_reducible rfl)))) | refine Yt rfl rfl rfl ?_ | refine Z8 rfl rfl rfl (by assumption) ?_);(try simp only [Act.put,pu1,pu2,pu3,pu4,pu5,pu6]))
       obtain ⟨t0,t1,t2,t3⟩:=hG.four;obtain ⟨f0,f1,f2,f3⟩:=hG.fourF;refine ZA rfl rfl (fun KR hKR=>?_);go_simp;refine hKR.out _ _ (Or.inl (by decide)) ?_;clear hKR KR;(try simp only [Act.put,pu1,pu2,pu3,pu4,pu5,pu6]);refine ZA rfl rfl (fun KR hKR=>?_);go_simp;refine hKR.out _ _ (Or.inl (by decide)) ?_;clear hKR KR;(try simp only [Act.put,pu1,pu2,pu3,pu4,pu5,pu6]);refine YM ?_;go_wp2_with fail
       go_meet
       exact Zva.mk hG eA I av
     case rest=>
      obtain ⟨gm,Am,nm,cm,ac,ad,ae,rfl,cx,A,m,bn⟩:=hcut;have be:=a6.out.below bn hb;have ct:w.heap.size < w1.heap.size:=by
       obtain ⟨_,H1,_,_,ca,_⟩:=a6.out;obtain ⟨g,_,e,_,h,_⟩:=ca.shape (by rw [Zr];exact b);injection e with e;injection e with e;injection e with e;omega
      clear x0 x1 x2 x3 y0 y1 y2 y3 b1 m1 m2 o p P bb bn;have X:=JZ be;obtain ⟨M2,H2,_,_,b6,_⟩:=be;obtain ⟨_,_,_,_,⟨c0,cb,cd,ce⟩,⟨f0,f1,f2,f3⟩,_⟩:=b6.at_ (Yi (f:=H2) hil);obtain ⟨_,bo⟩:=b6.set_ (k:=i) (by rw [Zr];exact hil) m;have aw:=X.out.setF hb (fun s hs=>(al.out s hs).2) hil m au.out.rs (f':=Zig rp a r c (i+1)) (fun s hs=>by rw [Zuz U.out,Zu,HQ.out]);have ai:=(Yq (w:=wc) (g:=w.heap.size) (i:=i * 4) (j:=i * 4+1) (k:=i * 4+2) (l:=i * 4+3) (x:= .bool (canF q).num.neg) (y:= .slice Am nm cm) (z:= .bool (canF q).den.neg) (u:= .slice ac ad ae)).bk A (by intro e;injection e with e;omega);have aj:=m.keep (bo.keep (by decide));obtain ⟨t0,t1,t2,t3⟩:=A.four;clear A m b6 bo
      go_upto_region 8 with (fail)
      clear t0 t1 t2 t3 c0 cb cd ce f0 f1 f2 f3;generalize ((((wc.setCell ⟨w.heap.size,i * 4,none⟩ (.bool (canF q).num.neg)).setCell ⟨w.heap.size,i * 4+1,none⟩ (.slice Am nm cm)).setCell ⟨w.heap.size,i * 4+2,none⟩ (.bool (canF q).den.neg)).setCell ⟨w.heap.size,i * 4+3,none⟩ (.slice ac ad ae))=W3 at *;have b0:W3.cell? ⟨ge,0,none⟩=some (.int .i64 (n:Int)):=by
       obtain ⟨_,_,hE,_⟩:=aw;exact hE.1.four.1
      go_wp2;clear b0
      go_loopw [78] (fun x wr=>∃j:Nat,j≤n∧x= .int .i64 j∧Zlg base w ge n (.slice (some ⟨go,0,none⟩) n co) (.slice (some ⟨gr,0,none⟩) n cr) (.slice (some ⟨gc,0,none⟩) n cc) G D rp cp (elQ rp cp a r c i j) (Zig rp a r c (i+1)) (2 * J) (.slice (some ⟨w.heap.size,0,none⟩) n n) wr∧Bk wr gm 46 [.bool (canF q).num.neg,.slice Am nm cm,.bool (canF q).den.neg,.slice ac ad ae]∧Zt wr (.agg #[.bool (canF q).num.neg,.slice Am nm cm,.bool (canF q).den.neg,.slice ac ad ae]) (canF q)) (fun x _=>n - (intOf x).toNat)
      case atStart=>exact ⟨0,by omega,rfl,aw,ai,aj⟩
      case round=>
       clear aw ai aj;obtain ⟨j,hj,rfl,hA,A,m⟩:=hrel;rcases JX j n with hjl | hjl
       ·have ax:=JZ hA;obtain ⟨M,H,⟨hB,hM,hR,hC,_,_⟩,hT,hF,hH,Z,F,a0⟩:=hA;have cu:(j:Int) < n:=(by omega);obtain ⟨b0,b1,b2,b3⟩:=hB.four;obtain ⟨zj,af⟩:=Xx (l:=cp) (i:=j) (by rw [ao.out];exact hjl);obtain ⟨k0,_,_,_⟩:=hC.at_ af;have L:=Zed af;have ay:=JZ A;have az:=JZ m;clear A m;by_cases b7:zj < 0
        ·have b4:Hid (cp.getD j 0 < 0):=JZ (by rw [L];exact b7);have N:Hid (Tdy (M r j) (a r j)):=JZ (by have:=hT r j hr hjl;rwa [Zuy (by have:=ba.out;omega)] at this);have ak:Hid (Tdy (M i j) (a i j)):=JZ (by have:=hT i j hil hjl;rwa [elQ_at] at this);obtain ⟨m2,_⟩:=hM.cellAt hr;obtain ⟨A3,n3,c3,A4,n4,c4,⟨y0,y1,y2,y3⟩,p⟩:=hM.at_ hr hjl;obtain ⟨r1,r2,r3,r4⟩:=hM.lt hr b;unfold Zai at m2;have HM:=JZ hM;have HB:=JZ hB;have V:qs (a r j)=0∨qs (a r j)=1∨qs (a r j)= -1:=(by have:=Ul (a r j);omega);clear af L Z F a0 hT hF hH hR hC hM hB;by_cases C:qs (a r j)=0
         ·have a5:Hid (a r j=0):=JZ (Yp.1 C);go_wp2_with fail;refine (Zx _ (M r j) _ p).mono ?_;rw [N.out.q,C];rintro _ w2 ⟨rfl,B⟩;have X:=JZ (ax.out.below B hb);have bf:=ay.out.later B;have bg:=az.out.below B;clear b0 b1 b2 b3 k0 m2 y0 y1 y2 y3 p V;go_wp2;go_roundw
          case rel=>exact ⟨j+1,by omega,by go_num,X.out.congr (fun s k hs hk=>Zov (.inr a5.out)) fun s hs=>rfl,bf,bg⟩
          case measure=>simp [intOf];omega
         ·have aq:(qs (a r j) !=0)=true:=(by simpa using C);clear V C;go_wp2_with fail;refine (Zx _ (M r j) _ p).mono ?_;rw [N.out.q];rintro _ w2 ⟨rfl,B⟩;have X:=JZ (ax.out.below B hb);have A:=ay.out.later B;have m:=az.out.below B;have hM:=HM.out.below B;have hB:=HB.out.later B;clear b0 b1 b2 b3 k0 m2 y0 y1 y2 y3 p B;obtain ⟨_,b1,_,_⟩:=hB.four;obtain ⟨m1,_⟩:=hM.cellAt hil;obtain ⟨m2,_⟩:=hM.cellAt hr;unfold Zai at m1 m2;obtain ⟨l1,l2,l3,l4⟩:=hM.lt hil b;obtain ⟨A1,n1,c1,A2,n2,c2,⟨x0,x1,x2,x3⟩,o⟩:=hM.at_ hil hjl;obtain ⟨A3,n3,c3,A4,n4,c4,⟨y0,y1,y2,y3⟩,p⟩:=hM.at_ hr hjl;obtain ⟨t0,t1,t2,t3⟩:=A.four;obtain ⟨rj,ag⟩:∃rj,rj=a r j:=⟨_,rfl⟩;obtain ⟨a1,a2⟩:∃a1,a1=a i j:=⟨_,rfl⟩;have bh:=JZ ag;have bi:=JZ a2;have bu:Hid ((M r j).q=rj):=JZ (by rw [N.out.q,ag]);have bv:Hid ((M i j).q=a1):=JZ (by rw [ak.out.q,a2]);have bj:Sz J rj:=(by rw [ag];exact HJ.out r j hr hjl);have a7:(M i j).Sm:=(ak.out.rs (HJ.out i j hil hjl)).sm (by omega);have a8:(M r j).Sm:=(N.out.rs (HJ.out r j hr hjl)).sm (by omega);have bw:(canF q).Sm:=au.out.rs.sm (by omega);have bx:(canF (q * rj)).Sm:=(XN au.out bj).rs.sm (by omega);clear ag a2 bj hB
          go_upto_region 12 with (fail)
          clear aq;have C0:=Zp x0;have C1:=Zp x1;have C2:=Zp x2;have C3:=Zp x3;have E0:=Zp y0;have E1:=Zp y1;have E2:=Zp y2;have E3:=Zp y3;have T0:=Zp t0;have T1:=Zp t1;have T2:=Zp t2;have T3:=Zp t3;have D0:=Zp b1;have D1:=Zp m1;have D2:=Zp m2;have d:=Zj w2;clear x0 x1 x2 x3 y0 y1 y2 y3 t0 t1 t2 t3 b1 m1 m2;refine Zq 32 [0,1,2,3,4,5,6,7,8,9,10,11,12,13,14,15,16,17,18,19,20,21,22,23,24,25,26,27,28,29,30,31,32] (by kernel_rfl) (by kernel_rfl) ?_;repeat ((first | (refine Zc (v:=?_) rfl rfl rfl ?_ ?_;rotate_left;(· (intro _ t;go_simp;(try go_bits);(try with_reducible rfl)))) | (refine Zg (v:=?_) rfl rfl rfl ?_ ?_;rotate_left;(· (intro _ t;go_simp;(try go_bits);(try with_reducible rfl)))) | refine Zh rfl rfl rfl ?_);(try simp only [Act.put,pu1,pu2,pu3,pu4,pu5,pu6]))
          refine Zd rfl rfl (fun KR hKR=>?_);go_simp;(with_reducible refine (XJ _ _ (canF q) (M r j) _ (m.below d) (p.below d) bw a8).mono ?_);rw [Zu,bu.out];rintro _ w6 ⟨v6,rfl,e6,bp⟩;have Y:=Za d bp d.size;refine hKR.out _ _ (Or.inr Y) ?_;clear hKR KR;(try simp only [Act.put,pu1,pu2,pu3,pu4,pu5,pu6]);repeat ((first | (refine Zc (v:=?_) rfl rfl rfl ?_ ?_;rotate_left;(· (intro _ t;go_simp;(try go_bits);(try with_reducible rfl)))) | (refine Zg (v:=?_) rfl rfl rfl ?_ ?_;rotate_left;(· (intro _ t;go_simp;(try go_bits);(try with_reducible rfl)))) | refine Zh rfl rfl rfl ?_);(try simp only [Act.put,pu1,pu2,pu3,pu4,pu5,pu6]))
          refine Zd rfl rfl (fun KR hKR=>?_);go_simp;(with_reducible refine (Vj _ _ (M i j) (canF (q * rj)) _ (o.below Y) e6 a7 bx).mono ?_);rw [Zu,bv.out];rintro _ w7 ⟨v7,rfl,e7,bq⟩;have R:=Za Y bq Y.size;obtain ⟨B9,l9,k9,cf,cg,ch,rfl,_,_⟩:=id e7;have a9:=hM.below R;obtain ⟨_,_,_,_,_,_,⟨c0,c1,c2,c3⟩,_⟩:=a9.at_ hil hjl;obtain ⟨f0,f1,f2,f3⟩:=a9.frozen hil hjl;refine hKR.out _ _ (Or.inr R) ?_;clear hKR KR;(try simp only [Act.put,pu1,pu2,pu3,pu4,pu5,pu6]);repeat ((first | (refine Zc (v:=?_) rfl rfl rfl ?_ ?_;rotate_left;(· (intro _ t;go_simp;(try go_bits);(try with_reducible rfl)))) | (refine Zg (v:=?_) rfl rfl rfl ?_ ?_;rotate_left;(· (intro _ t;go_simp;(try go_bits);(try with_reducible rfl)))) | refine Zh rfl rfl rfl ?_);(try simp only [Act.put,pu1,pu2,pu3,pu4,pu5,pu6]))
          refine Zd rfl rfl (fun KR hKR=>?_);go_simp;refine hKR.out _ _ (Or.inl (by decide)) ?_;clear hKR KR;(try simp only [Act.put,pu1,pu2,pu3,pu4,pu5,pu6]);refine Zz ?_;clear C0 C1 C2 C3 D0 D1 D2 E0 E1 E2 E3 T0 T1 T2 T3;obtain ⟨_,ci⟩:=a9.set_ hil hjl e7;have bz:=(X.out.below R hb).setM al.out hil hjl e7 (Q':=elQ rp cp a r c i (j+1)) (fun s k hs hk=>by rw [Zyx U.out b4.out,HQ.out,bh.out,bi.out]);have bl:=(Yq (w:=w7) (g:=G i) (i:=j * 4) (j:=j * 4+1) (k:=j * 4+2) (l:=j * 4+3) (x:= .bool (canF (a1 - q * rj)).num.neg) (y:= .slice B9 l9 k9) (z:= .bool (canF (a1 - q * rj)).den.neg) (u:= .slice cf cg ch)).bk (A.later R) (by intro e;injection e with e;have:=(al.out i hil).2;omega);have bm:=(m.below R).keep (ci.keep (by decide));clear hM a9 A m o p e6 e7 bp bq d Y R;go_wp2;go_roundw
          case rel=>exact ⟨j+1,by omega,by go_num,bz,bl,bm⟩
          case measure=>simp [intOf];omega
        ·have b4:Hid (¬cp.getD j 0 < 0):=JZ (by rw [L];exact b7);have c5:0≤zj:=(by omega);clear af L Z F a0 hT hF hH hM hR hC hB b7;go_wp2;go_roundw
         case rel=>exact ⟨j+1,by omega,by go_num,ax.out.congr (fun s k hs hk=>Zov (.inl (by have:=b4.out;omega))) fun s hs=>rfl,ay.out,az.out⟩
         case measure=>simp [intOf];omega
       ·obtain rfl:n=j:=by omega
        go_wp2;go_roundw
        case rel=>exact ⟨i+1,by omega,by go_num,hA.congr (fun s k hs hk=>Zyw hk) fun s hs=>rfl⟩
        case measure=>simp [intOf];omega
   ·have U:Hid (¬rp.getD i 0 < 0):=JZ (by rw [K];exact hz);have c5:0≤zi:=(by omega);clear aa K Z F a0 hT hF hH hM hR hC hB hz;go_wp2;go_roundw
    case rel=>exact ⟨i+1,by omega,by go_num,HA.out.congr (fun s k hs hk=>Zou (.inl (by have:=U.out;omega)) hk) fun s hs=>Zkq (.inl (by have:=U.out;omega)) s⟩
    case measure=>simp [intOf];omega
  ·obtain rfl:n=i:=by omega
   go_wp2;go_ret;exact ⟨_,rfl,hA⟩
end
namespace Pl
def V8 (cols:List (List En)) (k t:Nat):Mx:=fun i j=>if j < k then Wl (cols.getD j []) i else if j=k then Wl ((cols.getD k []).take t) i else 0
theorem Zmw (cols:List (List En)) (i j:Nat):V8 cols 0 0 i j=0:=by
 unfold V8;rw [if_neg (by omega)];split
 ·rfl
 ·rfl
theorem Zvb {es:List En} {t i:Nat} {e:En} (h:Inc none es) (he:es[t]? =some e):Wl (es.take (t+1)) i=if e.idx=(i:Int) then e.f.q else Wl (es.take t) i:=by
 rw [List.take_add_one,he];unfold Wl;simp only [Option.toList];rw [Zgx]
theorem Zrg {cols:List (List En)} {k t i0 i j:Nat} {es:List En} {e:En} (hc:cols[k]? =some es) (hinc:Inc none es) (he:es[t]? =some e) (hi:e.idx=(i0:Int)):V8 cols k (t+1) i j=if i=i0∧j=k then e.f.q else V8 cols k t i j:=by
 have hg:cols.getD k []=es:=by simp [List.getD,hc]
 unfold V8;by_cases e1:j < k
 ·rw [if_pos e1,if_pos e1,if_neg (by omega)]
 ·rw [if_neg e1,if_neg e1];by_cases e2:j=k
  ·rw [if_pos e2,if_pos e2,hg,Zvb hinc he,hi];by_cases e3:i=i0
   ·rw [if_pos (by omega),if_pos ⟨e3,e2⟩]
   ·rw [if_neg (by omega),if_neg (by omega)]
  ·rw [if_neg e2,if_neg e2,if_neg (by omega)]
theorem Zrh {cols:List (List En)} {k i j:Nat} {es:List En} (hc:cols[k]? =some es):V8 cols k es.length i j=V8 cols (k+1) 0 i j:=by
 have hg:cols.getD k []=es:=by simp [List.getD,hc]
 unfold V8;by_cases e1:j < k
 ·rw [if_pos e1,if_pos (by omega)]
 ·rw [if_neg e1];by_cases e2:j=k
  ·rw [if_pos e2,if_pos (by omega),hg,List.take_length,e2,hg]
  ·rw [if_neg e2,if_neg (by omega)];split
   ·rfl
   ·rfl
theorem Zvc {cols:List (List En)} {n i j:Nat} (hj:j < n):V8 cols n 0 i j=Wl (cols.getD j []) i:=by unfold V8;rw [if_pos hj]
def Zmx (R:Nat→Nat) (i:Nat):Nat→Int
 | 0=> -1
 | s+1=>if R s=i then (s:Int) else Zmx R i s
def Vp (n t:Nat) (R:Nat→Nat):List Int:=(List.range n).map fun i=>Zmx R i t
theorem XH {n t:Nat} {R:Nat→Nat}:(Vp n t R).length=n:=by simp [Vp]
theorem WF {n t i:Nat} {R:Nat→Nat} (h:i < n):(Vp n t R)[i]? =some (Zmx R i t):=by simp [Vp,h]
theorem VM {n t i:Nat} {R:Nat→Nat} (h:i < n):(Vp n t R).getD i 0=Zmx R i t:=Zed (WF h)
theorem V4 {R:Nat→Nat} {i:Nat}:∀{t:Nat},Zmx R i t < 0↔∀s,s < t→R s≠i
 | 0=>⟨fun _ s h=>absurd h (by omega),fun _=>by unfold Zmx;omega⟩
 | t+1=>by
  unfold Zmx
  by_cases e:R t=i
  ·rw [if_pos e]
   exact ⟨fun h=>by omega,fun h=>absurd e (h t (by omega))⟩
  ·rw [if_neg e,V4]
   exact ⟨fun h s hs=>by
    by_cases e2:s=t
    ·rw [e2];exact e
    ·exact h s (by omega),fun h s hs=>h s (by omega)⟩
theorem Ycz {R:Nat→Nat} {n s:Nat} (h:Inj n n R) (hs:s < n):Zmx R (R s) n=s:=by
 have a:∀t,s < t→t≤n→Zmx R (R s) t=s:=by
  intro t
  induction t with
  | zero=>intro h1;omega
  | succ t ih=>
   intro h1 h2;unfold Zmx;by_cases e:t=s
   ·subst e;rw [if_pos rfl]
   ·rw [if_neg fun g=>e (h.eq (by omega) hs g)];exact ih (by omega) (by omega)
 exact a n hs (JY _)
theorem Zge {R R':Nat→Nat} {i:Nat}:∀{t:Nat},(∀s,s < t→R s=R' s)→Zmx R i t=Zmx R' i t
 | 0,_=>rfl
 | t+1,h=>by unfold Zmx;rw [h t (by omega),Zge fun s hs=>h s (by omega)]
theorem Zow {n t r:Nat} {R:Nat→Nat} (hf:∀s,s < t→R s≠r):(Vp n t R).set r (t:Int)=Vp n (t+1) (WY R t r):=by
 refine List.ext_getElem? fun i=>?_
 rcases JX i n with e | e
 ·rw [WF e,List.getElem?_set];unfold Zmx;rw [Yd];by_cases g:r=i
  ·subst g;rw [if_pos rfl,if_pos (by rw [XH];exact e),if_pos rfl]
  ·rw [if_neg g,if_neg g,WF e,Zge (R':=WY R t r) fun s hs=>(Yv hs).symm]
 ·rw [JU (by rw [List.length_set,XH];exact e),JU (by rw [XH];exact e)]
theorem Zvd {n:Nat} {R:Nat→Nat}:Vp n 0 R=List.replicate n (-1):=by
 refine List.ext_getElem? fun i=>?_
 rcases JX i n with e | e
 ·rw [WF e];unfold Zmx;simp [e]
 ·rw [JU (by rw [XH];exact e),JU (by simp;exact e)]
theorem Wp {R:Nat→Nat} {n t r i:Nat} (hi:i < n):((Vp n (t+1) (WY R t r)).getD i 0 < 0)↔((∀s,s < t→R s≠i)∧i≠r):=by
 rw [VM hi,V4];constructor
 ·intro h;refine ⟨fun s hs=>?_,fun e=>?_⟩
  ·have:=h s (by omega);rwa [Yv hs] at this
  ·have:=h t (by omega);rw [Yd] at this;exact this e.symm
 ·rintro ⟨h1,h2⟩ s hs;by_cases e:s=t
  ·rw [e,Yd];exact fun g=>h2 g.symm
  ·rw [Yv (by omega)];exact h1 s (by omega)
theorem Zyy {n t K:Nat} {A a:Mx} {R C:Nat→Nat} {m:Mx} (h:Uq n t A a R C m) {r c:Nat} (hr:r < n) (hc:c < n) (hrf:∀s,s < t→R s≠r) (hcf:∀s,s < t→C s≠c) (hp:a r c≠0) (hK:1≤K) (hs:∀i j,i < n→j < n→Sz (5^t * K) (a i j)):
 Uq n (t+1) A (elQ (Vp n (t+1) (WY R t r)) (Vp n (t+1) (WY C t c)) a r c n 0) (WY R t r) (WY C t c) (WY m t (Zig (Vp n (t+1) (WY R t r)) a r c n))∧
 (∀i,i < n→Sz (2 * (5^t * K)) (Zig (Vp n (t+1) (WY R t r)) a r c n i))∧
 ∀i j,i < n→j < n→Sz (5^(t+1) * K) (elQ (Vp n (t+1) (WY R t r)) (Vp n (t+1) (WY C t c)) a r c n 0 i j):=by
 have b:∀i,i < n→Zig (Vp n (t+1) (WY R t r)) a r c n i=if (∀s,s < t→R s≠i)∧i≠r then a i c / a r c else 0:=fun i hi=>by
  unfold Zig;by_cases e:(∀s,s < t→R s≠i)∧i≠r
  ·rw [if_pos e,if_pos ⟨hi,(Wp hi).2 e⟩]
  ·rw [if_neg e,if_neg fun g=>e ((Wp hi).1 g.2)]
 have d:∀i j,i < n→j < n→elQ (Vp n (t+1) (WY R t r)) (Vp n (t+1) (WY C t c)) a r c n 0 i j=if ((∀s,s < t→R s≠i)∧i≠r)∧((∀s,s < t→C s≠j)∧j≠c) then a i j - Zig (Vp n (t+1) (WY R t r)) a r c n i * a r j else a i j:=fun i j hi hj=>by
  unfold elQ;by_cases e:((∀s,s < t→R s≠i)∧i≠r)∧((∀s,s < t→C s≠j)∧j≠c)
  ·rw [if_pos e,if_pos ⟨.inl hi,(Wp hi).2 e.1,(Wp hj).2 e.2⟩,b i hi,if_pos e.1]
  ·rw [if_neg e,if_neg fun g=>e ⟨(Wp hi).1 g.2.1,(Wp hj).1 g.2.2⟩]
 classical
 obtain ⟨b1,b2⟩:=Yer (m':=WY m t (Zig (Vp n (t+1) (WY R t r)) a r c n)) (t:=t) (P:=fun i=>(∀s,s < t→R s≠i)∧i≠r) (Q:=fun j=>(∀s,s < t→C s≠j)∧j≠c) hK hr hc hs (fun i hi=>by rw [Yd,b i hi]) (a':=elQ (Vp n (t+1) (WY R t r)) (Vp n (t+1) (WY C t c)) a r c n 0) (fun i j hi hj=>by rw [d i j hi hj,Yd]);refine ⟨h.step hr hc hrf hcf hp (fun s hs=>Yv hs) Yd (fun s hs=>Yv hs) Yd (fun s i hs=>by rw [Yv hs]) (fun i hi=>by rw [Yd];exact b i hi) (fun i j hi hj=>by rw [Yd];exact d i j hi hj),fun i hi=>?_,b2⟩;have:=b1 i hi
 rwa [Yd] at this
def Zmy (R:Nat→Nat) (m:Mx) (t k:Nat):Nat→Rat:=fun p=>if p=t then 1 else if R p < k then m t (R p) else 0
theorem Zri {R:Nat→Nat} {m:Mx} {t:Nat} (p:Nat):Zmy R m t 0 p=if p=t then 1 else 0:=by
 unfold Zmy;split
 ·rfl
 ·rw [if_neg (by omega)]
theorem Zve {n:Nat} {R:Nat→Nat} {m:Mx} {t k p:Nat} (h0:m t k=0):Zmy R m t k p=Zmy R m t (k+1) p:=by
 unfold Zmy;split
 ·rfl
 ·by_cases e:R p=k
  ·rw [if_neg (by omega),if_pos (by omega),e,h0]
  ·by_cases e2:R p < k
   ·rw [if_pos e2,if_pos (by omega)]
   ·rw [if_neg e2,if_neg (by omega)]
theorem Zvf {n:Nat} {R:Nat→Nat} {m:Mx} {t k p s:Nat} (h:Inj n n R) (ht:t < n) (hp:p < n) (hs:s < n) (hk:R s=k) (h0:m t k≠0) (hm0:m t (R t)=0):Zmy R m t (k+1) p=if p=s then m t k else Zmy R m t k p:=by
 have a:s≠t:=fun e=>h0 (by rw [← hk,e];exact hm0)
 unfold Zmy;by_cases e:p=s
 ·subst e;rw [if_pos rfl,if_neg a,if_pos (by omega),hk]
 ·rw [if_neg e];split
  ·rfl
  ·have:R p≠k:=fun g=>e (h.eq hp hs (by rw [g,hk]))
   by_cases e2:R p < k
   ·rw [if_pos e2,if_pos (by omega)]
   ·rw [if_neg e2,if_neg (by omega)]
theorem Zyz {n:Nat} {R:Nat→Nat} {m:Mx} {t p:Nat} (h:Inj n n R) (hp:p < n) (hm0:∀q,q≤t→m t (R q)=0):Zmy R m t n p=luL R m t p:=by
 unfold Zmy luL;split
 ·rfl
 ·rw [if_pos (h.1 p hp)];split
  ·rfl
  ·exact hm0 p (by omega)
def upP (R C:Nat→Nat) (a:Mx) (t k:Nat):Nat→Rat:=fun s=>if s < k then a (R s) (C t) else 0
theorem Zza {R C:Nat→Nat} {a:Mx} {t k:Nat} (s:Nat):upP R C a t (k+1) s=if s=k then a (R k) (C t) else upP R C a t k s:=by
 unfold upP;by_cases e:s=k
 ·subst e;rw [if_pos rfl,if_pos (by omega)]
 ·rw [if_neg e];by_cases e2:s < k
  ·rw [if_pos e2,if_pos (by omega)]
  ·rw [if_neg e2,if_neg (by omega)]
theorem Yda {R C:Nat→Nat} {a:Mx} {t:Nat} (s:Nat):upP R C a t (t+1) s=luU R C a t s:=by
 unfold upP luU;by_cases e:s≤t
 ·rw [if_pos e,if_pos (by omega)]
 ·rw [if_neg e,if_neg (by omega)]
end Pl
section
theorem Zmz {P:Program} {Q:Exit→Act→World→Prop} {id:Nat} {l:List Oper} {a:Act} {w:World} (S:World→Prop) (h0:S w.drew) (n:Nat) (is:List Nat) (hm:P.follows .mixedOrders=true) (hok:Zyd .any l.toArray n is=true)
 (h:Xl P l.toArray (NoPanic Q) S n is a w.drew):(Code.region id l.toArray true).wp P Q a w:=by
 simp only [Zyd,Bool.and_eq_true,decide_eq_true_eq] at hok;obtain ⟨hs,b,hl⟩:=hok;refine wp_region_noPanic (wp_region_any hm (AnyG.any _ _ _ _ (S:=S) (n:=n) ?_));rw [← hl];have:=AnyG.of_seq (P:=P) (Q:=NoPanic Q) (S:=S) (fun c a d v w h=>h) hs is _ a w.drew false b (fun _=>h0) h
 rwa [hl] at this ⊢
theorem Z4.othP {base:Nat} {w w':World} {P:Nat→Prop} {v:Value} {fs:List RF} (h:Z4 base w v fs) (ho:Zkp P w w') (hk:ZF w w') (hne:∀b,v.ownBlock=some b→¬P b):Z4 base w' v fs:=by
 obtain ⟨cs,h1,h2⟩:=h;refine ⟨cs,⟨h1.1,?_⟩,h2.keep hk⟩;rcases h1.2 with hn | ⟨g',cap,cur,rfl,hb',hgg,rest⟩
 ·exact .inl hn
 ·exact .inr ⟨g',cap,cur,rfl,hb',(ho.2 g' (Yw hgg) (hne g' (by simp [Value.ownBlock]))).trans hgg,rest⟩
namespace Pl
def Zrx (n t:Nat) (R:Nat→Nat):List Int:=(List.range n).map fun s=>if s < t then (R s:Int) else 0
theorem Vn {n t:Nat} {R:Nat→Nat}:(Zrx n t R).length=n:=by simp [Zrx]
theorem Zci {n t s:Nat} {R:Nat→Nat} (h:s < n):(Zrx n t R)[s]? =some (if s < t then (R s:Int) else 0):=by simp [Zrx,h]
theorem Zhu {n t:Nat} {R:Nat→Nat} {l:List Int} (hl:l.length=n) (h:∀s,s < n→l[s]? =some (if s < t then (R s:Int) else 0)):l=Zrx n t R:=by
 refine List.ext_getElem? fun s=>?_
 rcases JX s n with e | e
 ·rw [h s e,Zci e]
 ·rw [JU (by omega),JU (by rw [Vn];exact e)]
theorem Zkr {n:Nat} {R:Nat→Nat}:List.replicate n 0=Zrx n 0 R:=Zhu (by simp) fun s hs=>by simp [hs]
theorem Zox {n t r:Nat} {R:Nat→Nat} (ht:t < n):(Zrx n t R).set t (r:Int)=Zrx n (t+1) (WY R t r):=Zhu (by simp [Zrx]) fun s hs=>by
 rw [List.getElem?_set]
 by_cases e:t=s
 ·subst e
  rw [if_pos rfl,Vn,if_pos hs,if_pos (by omega),Yd]
 ·rw [if_neg e,Zci hs]
  by_cases e2:s < t
  ·rw [if_pos e2,if_pos (by omega),Yv e2]
  ·rw [if_neg e2,if_neg (by omega)]
theorem Zoy {n:Nat} {R:Nat→Nat}:Zrx n n R=Zke n R:=by
 refine (Zhu (Zdy _ _) fun s hs=>?_).symm;rw [Zch hs,if_pos hs]
def Zrl (n t:Nat) (L:Mx):List (List En):=(List.range n).map fun s=>if s < t then spV (L s) n else []
theorem Wq {n t:Nat} {L:Mx}:(Zrl n t L).length=n:=by simp [Zrl]
theorem Zan {n t s:Nat} {L:Mx} (h:s < n):(Zrl n t L)[s]? =some (if s < t then spV (L s) n else []):=by simp [Zrl,h]
theorem Zhv {n t:Nat} {L:Mx} {l:List (List En)} (hl:l.length=n) (h:∀s,s < n→l[s]? =some (if s < t then spV (L s) n else [])):l=Zrl n t L:=by
 refine List.ext_getElem? fun s=>?_
 rcases JX s n with e | e
 ·rw [h s e,Zan e]
 ·rw [JU (by omega),JU (by rw [Wq];exact e)]
theorem Zee {n:Nat} {L:Mx}:List.replicate n []=Zrl n 0 L:=Zhv (by simp) fun s hs=>by simp [hs]
theorem Zhw {n t:Nat} {L:Mx} (ht:t < n):(Zrl n t L).set t (spV (L t) n)=Zrl n (t+1) L:=Zhv (by simp [Zrl]) fun s hs=>by
 rw [List.getElem?_set]
 by_cases e:t=s
 ·subst e
  rw [if_pos rfl,Wq,if_pos hs,if_pos (by omega)]
 ·rw [if_neg e,Zan hs]
  by_cases e2:s < t
  ·rw [if_pos e2,if_pos (by omega)]
  ·rw [if_neg e2,if_neg (by omega)]
theorem Zoz {n:Nat} {L:Mx}:Zrl n n L=vcL n L:=by
 refine (Zhv (Zbg _ _) fun s hs=>?_).symm;rw [Zdz hs,if_pos hs]
end Pl
def Xm (U:World) (ge ga gr gc n:Nat) (G D:Nat→Nat) (rp cp:List Int) (Q:Mx) (wr:World):Prop:=
 ∃M,ElM U.heap.size wr ge n (.slice (some ⟨ga,0,none⟩) n n) (.slice (some ⟨gr,0,none⟩) n n) (.slice (some ⟨gc,0,none⟩) n n) M G D rp cp∧(∀i j,i < n→j < n→Tdy (M i j) (Q i j))∧Below U.heap.size U wr
section
variable {U wr w':World} {ge ga gr gc n:Nat} {G D:Nat→Nat} {rp cp:List Int} {Q Q':Mx}
theorem Xm.below (h:Xm U ge ga gr gc n G D rp cp Q wr) (hb:Below wr.heap.size wr w'):Xm U ge ga gr gc n G D rp cp Q w':=by
 obtain ⟨M,h1,h2,h3⟩:=h;exact ⟨M,h1.below hb,h2,Za h3 hb h3.size⟩
theorem Xm.congr (h:Xm U ge ga gr gc n G D rp cp Q wr) (e:∀i j,i < n→j < n→Q i j=Q' i j):Xm U ge ga gr gc n G D rp cp Q' wr:=by
 obtain ⟨M,h1,h2,h3⟩:=h;exact ⟨M,h1,fun i j hi hj=>by rw [← e i j hi hj];exact h2 i j hi hj,h3⟩
theorem Xm.setM (h:Xm U ge ga gr gc n G D rp cp Q wr) {i j:Nat} (hi:i < n) (hj:j < n) {x y z u:Value} {q:Rat} (hq:Zt wr (.agg #[x,y,z,u]) (canF q)) (hf:∀s k,s < n→k < n→Q' s k=if s=i∧k=j then q else Q s k):
 Xm U ge ga gr gc n G D rp cp Q' ((((wr.setCell ⟨G i,j * 4,none⟩ x).setCell ⟨G i,j * 4+1,none⟩ y).setCell ⟨G i,j * 4+2,none⟩ z).setCell ⟨G i,j * 4+3,none⟩ u):=by
 obtain ⟨M,⟨e1,e2,e3,e4,e5⟩,h2,h3⟩:=h;obtain ⟨g1,g2⟩:=e2.set_ hi hj hq;obtain ⟨l1,_⟩:=e2.lt hi (by omega);refine ⟨_,⟨g2.bk e1 (by decide),g1,e3.but g2 (by decide),e4.but g2 (by decide),e5⟩,fun s k hs hk=>?_,Zw h3 l1 _ _ _ _ _ _ _ _⟩;rw [hf s k hs hk];unfold Yci;by_cases e:s=i∧k=j
 ·rw [if_pos e,if_pos e];exact .inl rfl
 ·rw [if_neg e,if_neg e];exact h2 s k hs hk
theorem Xm.farI (h:Xm U ge ga gr gc n G D rp cp Q wr) {g i:Nat} {v:Value} (hk:Ze 3 wr (wr.setCell ⟨g,i,none⟩ v)) (hg:U.heap.size≤g) (h1:g≠gr) (h2:g≠gc):Xm U ge ga gr gc n G D rp cp Q (wr.setCell ⟨g,i,none⟩ v):=by
 obtain ⟨M,⟨e1,e2,e3,e4,e5⟩,h4,h3⟩:=h;have ho:=ZW.of_set (g:=g) (i:=i) (v:=v) (w:=wr);exact ⟨M,⟨hk.bk e1 (by decide),e2.but hk (by decide) (by decide) (by decide),e3.others ho (fun b hb e=>by simp [Value.ownBlock] at hb;injection e with e;omega),e4.others ho (fun b hb e=>by simp [Value.ownBlock] at hb;injection e with e;omega),e5⟩,h4,h3.setCell (p:=⟨g,i,none⟩) hg v⟩
theorem Xm.but (h:Xm U ge ga gr gc n G D rp cp Q wr) {e:TypeId} (hk:Ze e wr w') (hb:Below U.heap.size U w') (h1:174≠e) (h2:23≠e) (h3:46≠e) (h4:148≠e) (h5:3≠e):Xm U ge ga gr gc n G D rp cp Q w':=by
 obtain ⟨M,⟨e1,e2,e3,e4,e5⟩,g4,g3⟩:=h;exact ⟨M,⟨hk.bk e1 h1,e2.but hk h2 h3 h4,e3.but hk h5,e4.but hk h5,e5⟩,g4,hb⟩
theorem Xm.setR (h:Xm U ge ga gr gc n G D rp cp Q wr) (hne:gr≠gc) {r:Nat} (hr:r < n) {z:Int} (h0: -9223372036854775808≤z) (h1:z≤9223372036854775807):
 Xm U ge ga gr gc n G D (rp.set r z) cp Q (wr.setCell ⟨gr,r,none⟩ (.int .i64 z))∧Ze 3 wr (wr.setCell ⟨gr,r,none⟩ (.int .i64 z)):=by
 obtain ⟨M,⟨e1,e2,e3,e4,e5,e6⟩,h4,h3⟩:=h;obtain ⟨g1,hk⟩:=e3.set_ (k:=r) (by omega) h0 h1;have ho:=ZW.of_set (g:=gr) (i:=r) (v:= .int .i64 z) (w:=wr);exact ⟨⟨M,⟨hk.bk e1 (by decide),e2.but hk (by decide) (by decide) (by decide),g1,e4.others ho (fun b hb e=>by simp [Value.ownBlock] at hb;injection e with e;omega),by rw [List.length_set];exact e5,e6⟩,h4,h3.setCell (p:=⟨gr,r,none⟩) e3.base _⟩,hk⟩
theorem Xm.setC (h:Xm U ge ga gr gc n G D rp cp Q wr) (hne:gr≠gc) {c:Nat} (hc:c < n) {z:Int} (h0: -9223372036854775808≤z) (h1:z≤9223372036854775807):
 Xm U ge ga gr gc n G D rp (cp.set c z) Q (wr.setCell ⟨gc,c,none⟩ (.int .i64 z))∧Ze 3 wr (wr.setCell ⟨gc,c,none⟩ (.int .i64 z)):=by
 obtain ⟨M,⟨e1,e2,e3,e4,e5,e6⟩,h4,h3⟩:=h;obtain ⟨g1,hk⟩:=e4.set_ (k:=c) (by omega) h0 h1;have ho:=ZW.of_set (g:=gc) (i:=c) (v:= .int .i64 z) (w:=wr);exact ⟨⟨M,⟨hk.bk e1 (by decide),e2.but hk (by decide) (by decide) (by decide),e3.others ho (fun b hb e=>by simp [Value.ownBlock] at hb;injection e with e;omega),g1,e5,by rw [List.length_set];exact e6⟩,h4,h3.setCell (p:=⟨gc,c,none⟩) e4.base _⟩,hk⟩
end
def Ydb (base n t:Nat) (F E:Nat→Nat) (m:Mx) (J:Nat) (G:Nat→Nat) (w:World):Prop:=
 ∃H:Nat→Nat→RF,∀s,s < t→Z4 base w (Zai n F E s) (rfL n (H s))∧(∀i,i < n→(H s i).q=m s i∧(H s i).Rs J)∧∀i,i < n→F s≠G i
def Xy (U:World) (gf g0 g1 gt n t J:Nat) (v2 v3:Value) (l0 l1:List Int) (F E:Nat→Nat) (m:Mx) (G:Nat→Nat) (w:World):Prop:=
 Bk w gf 158 [.slice (some ⟨g0,0,none⟩) n n,.slice (some ⟨g1,0,none⟩) n n,v2,v3]∧ZN U.heap.size w (.slice (some ⟨g0,0,none⟩) n n) l0∧ZN U.heap.size w (.slice (some ⟨g1,0,none⟩) n n) l1∧
  w.ownsRow U.heap.size 23 1 (.slice (some ⟨gt,0,none⟩) n n) n (Zlf n t F E)∧Ydb U.heap.size n t F E m J G w
section
variable {U w w':World} {gf g0 g1 gt n t J:Nat} {v2 v3:Value} {l0 l1:List Int} {F E G:Nat→Nat} {m:Mx}
theorem Ydb.below (h:Ydb U.heap.size n t F E m J G w) (hb:Below w.heap.size w w'):Ydb U.heap.size n t F E m J G w':=by
 obtain ⟨H,h⟩:=h;exact ⟨H,fun s hs=>⟨(h s hs).1.below hb,(h s hs).2⟩⟩
theorem Ydb.but {e:TypeId} (h:Ydb U.heap.size n t F E m J G w) (hk:Ze e w w') (h1:46≠e) (h2:148≠e):Ydb U.heap.size n t F E m J G w':=by
 obtain ⟨H,h⟩:=h;exact ⟨H,fun s hs=>⟨(h s hs).1.but hk h1 h2,(h s hs).2⟩⟩
theorem Xy.below (h:Xy U gf g0 g1 gt n t J v2 v3 l0 l1 F E m G w) (hb:Below w.heap.size w w'):Xy U gf g0 g1 gt n t J v2 v3 l0 l1 F E m G w':=
 ⟨h.1.later hb,h.2.1.below hb,h.2.2.1.below hb,own_below h.2.2.2.1 hb,h.2.2.2.2.below hb⟩
theorem Xy.but {e:TypeId} (h:Xy U gf g0 g1 gt n t J v2 v3 l0 l1 F E m G w) (hk:Ze e w w') (h1:158≠e) (h2:23≠e) (h3:46≠e) (h4:148≠e) (h5:3≠e):Xy U gf g0 g1 gt n t J v2 v3 l0 l1 F E m G w':=
 ⟨hk.bk h.1 h1,h.2.1.but hk h5,h.2.2.1.but hk h5,hk.own h.2.2.2.1 h2,h.2.2.2.2.but hk h3 h4⟩
theorem Xy.set0 (h:Xy U gf g0 g1 gt n t J v2 v3 l0 l1 F E m G w) (hne:g0≠g1) {k:Nat} (hk:k < l0.length) {z:Int} (z0: -9223372036854775808≤z) (z1:z≤9223372036854775807):
 Xy U gf g0 g1 gt n t J v2 v3 (l0.set k z) l1 F E m G (w.setCell ⟨g0,k,none⟩ (.int .i64 z))∧Ze 3 w (w.setCell ⟨g0,k,none⟩ (.int .i64 z)):=by
 obtain ⟨e1,e2,e3,e4,e5⟩:=h;obtain ⟨g,a⟩:=e2.set_ hk z0 z1;have ho:=ZW.of_set (g:=g0) (i:=k) (v:= .int .i64 z) (w:=w);exact ⟨⟨a.bk e1 (by decide),g,e3.others ho (fun b hb e=>by simp [Value.ownBlock] at hb;injection e with e;omega),a.own e4 (by decide),e5.but a (by decide) (by decide)⟩,a⟩
theorem Xy.set1 (h:Xy U gf g0 g1 gt n t J v2 v3 l0 l1 F E m G w) (hne:g0≠g1) {k:Nat} (hk:k < l1.length) {z:Int} (z0: -9223372036854775808≤z) (z1:z≤9223372036854775807):
 Xy U gf g0 g1 gt n t J v2 v3 l0 (l1.set k z) F E m G (w.setCell ⟨g1,k,none⟩ (.int .i64 z))∧Ze 3 w (w.setCell ⟨g1,k,none⟩ (.int .i64 z)):=by
 obtain ⟨e1,e2,e3,e4,e5⟩:=h;obtain ⟨g,a⟩:=e3.set_ hk z0 z1;have ho:=ZW.of_set (g:=g1) (i:=k) (v:= .int .i64 z) (w:=w);exact ⟨⟨a.bk e1 (by decide),e2.others ho (fun b hb e=>by simp [Value.ownBlock] at hb;injection e with e;omega),g,a.own e4 (by decide),e5.but a (by decide) (by decide)⟩,a⟩
theorem Xy.farI (h:Xy U gf g0 g1 gt n t J v2 v3 l0 l1 F E m G w) {g i:Nat} {v:Value} (hk:Ze 3 w (w.setCell ⟨g,i,none⟩ v)) (h1:g≠g0) (h2:g≠g1):Xy U gf g0 g1 gt n t J v2 v3 l0 l1 F E m G (w.setCell ⟨g,i,none⟩ v):=by
 obtain ⟨e1,e2,e3,e4,e5⟩:=h;have ho:=ZW.of_set (g:=g) (i:=i) (v:=v) (w:=w);exact ⟨hk.bk e1 (by decide),e2.others ho (fun b hb e=>by simp [Value.ownBlock] at hb;injection e with e;omega),e3.others ho (fun b hb e=>by simp [Value.ownBlock] at hb;injection e with e;omega),hk.own e4 (by decide),e5.but hk (by decide) (by decide)⟩
theorem Xy.othP (h:Xy U gf g0 g1 gt n t J v2 v3 l0 l1 F E m G w) (ho:Zkp (fun b=>∃i,i < n∧b=G i) w w') (hk:Ze 46 w w'):Xy U gf g0 g1 gt n t J v2 v3 l0 l1 F E m G w':=by
 obtain ⟨e1,e2,e3,e4,H,e5⟩:=h;refine ⟨hk.bk e1 (by decide),e2.but hk (by decide),e3.but hk (by decide),hk.own e4 (by decide),H,fun s hs=>⟨(e5 s hs).1.othP ho (hk.keep (by decide)) fun b hb=>?_,(e5 s hs).2⟩⟩;simp [Zai,Value.ownBlock] at hb;subst hb;rintro ⟨i,hi,e⟩;exact (e5 s hs).2.2 i hi e
theorem Xy.push (h:Xy U gf g0 g1 gt n t J v2 v3 l0 l1 F E m G w) (ht:t < n) {g c:Nat} {H:Nat→RF} {f:Nat→Rat} (hO:Z4 U.heap.size w (.slice (some ⟨g,0,none⟩) n c) (rfL n H)) (hq:∀i,i < n→(H i).q=f i∧(H i).Rs J) (hg:∀i,i < n→g≠G i):
 Xy U gf g0 g1 gt n (t+1) J v2 v3 l0 l1 (WY F t g) (WY E t c) (WY m t f) G (w.setCell ⟨gt,t,none⟩ (.slice (some ⟨g,0,none⟩) n c))∧Ze 23 w (w.setCell ⟨gt,t,none⟩ (.slice (some ⟨g,0,none⟩) n c)):=by
 obtain ⟨e1,e2,e3,e4,K,e5⟩:=h;obtain ⟨_,hb,_⟩:=Yl e4;have hk:=Ze.setCell hb t (.slice (some ⟨g,0,none⟩) n c);have e6:=XD e4 t (.slice (some ⟨g,0,none⟩) n c) (by rw [XG];exact ht);rw [Zot ht] at e6;refine ⟨⟨hk.bk e1 (by decide),e2.but hk (by decide),e3.but hk (by decide),e6,WY K t H,fun s hs=>?_⟩,hk⟩;by_cases e:s=t
 ·subst e;unfold Zai;rw [Yd,Yd,Yd,Yd];exact ⟨hO.but hk (by decide) (by decide),hq,hg⟩
 ·unfold Zai;rw [Yv (by omega),Yv (by omega),Yv (by omega),Yv (by omega)];exact ⟨(e5 s (by omega)).1.but hk (by decide) (by decide),(e5 s (by omega)).2⟩
end
def Ydc (U:World) (ge ga gr gc gf g0 g1 gt n K t:Nat) (G D:Nat→Nat) (A:Mx) (wr:World):Prop:=
 ∃(a m:Mx) (R C F E:Nat→Nat),Xm U ge ga gr gc n G D (Vp n t R) (Vp n t C) a wr∧Uq n t A a R C m∧(∀i j,i < n→j < n→Sz (5^t * K) (a i j))∧(∀s i,s < t→i < n→Sz (2 * (5^n * K)) (m s i))∧
  Xy U gf g0 g1 gt n t (2 * (5^n * K)) (.slice none 0 0) (.slice none 0 0) (Zrx n t R) (Zrx n t C) F E m G wr
def LuM (U:World) (ge ga gr gc gf g0 g1 gt gl gu go n J tl tu:Nat) (G D R C F E:Nat→Nat) (a m:Mx) (wr:World):Prop:=
 Xm U ge ga gr gc n G D (Vp n n R) (Vp n n C) a wr∧Xy U gf g0 g1 gt n n J (.slice (some ⟨gl,0,none⟩) n n) (.slice (some ⟨gu,0,none⟩) n n) (Zke n R) (Zke n C) F E m G wr∧
  (∃A k c A' k' c',Bk wr go 46 [.bool (canF 1).num.neg,.slice A k c,.bool (canF 1).den.neg,.slice A' k' c']∧Zt wr (.agg #[.bool (canF 1).num.neg,.slice A k c,.bool (canF 1).den.neg,.slice A' k' c']) (canF 1))∧
  Ym U.heap.size wr (.slice (some ⟨gl,0,none⟩) n n) (Zrl n tl (luL R m))∧Ym U.heap.size wr (.slice (some ⟨gu,0,none⟩) n n) (Zrl n tu (luU R C a))
section
variable {U wr w':World} {ge ga gr gc gf g0 g1 gt gl gu go n J tl tu:Nat} {G D R C F E:Nat→Nat} {a m:Mx}
theorem LuM.below (h:LuM U ge ga gr gc gf g0 g1 gt gl gu go n J tl tu G D R C F E a m wr) (hb:Below wr.heap.size wr w'):LuM U ge ga gr gc gf g0 g1 gt gl gu go n J tl tu G D R C F E a m w':=by
 obtain ⟨h1,h2,⟨A,k,c,A',k',c',h3,h4⟩,h5,h6⟩:=h;exact ⟨h1.below hb,h2.below hb,⟨A,k,c,A',k',c',h3.later hb,h4.below hb⟩,h5.below hb,h6.below hb⟩
theorem Ym.others {base:Nat} {w w':World} {g:Option Nat} {v:Value} {cols:List (List En)} (h:Ym base w v cols) (ho:ZW g w w') (hk:Ze 66 w w') (hne:∀b,v.ownBlock=some b→some b≠g):Ym base w' v cols:=by
 obtain ⟨cs,h1,h2⟩:=h;exact ⟨cs,Zgb h1 ho hne,fun k c hc=>by
  obtain ⟨u,hu,hm⟩:=h2 k c hc;exact ⟨u,hu,hm.but hk (by decide) (by decide)⟩⟩
theorem Ym.monoB {base base':Nat} {w:World} {v:Value} {cols:List (List En)} (h:Ym base w v cols) (hb:base'≤base):Ym base' w v cols:=by
 obtain ⟨cs,h1,h2⟩:=h;exact ⟨cs,Wy h1 hb,h2⟩
theorem Ym.base {base:Nat} {w:World} {g n c:Nat} {cols:List (List En)} (h:Ym base w (.slice (some ⟨g,0,none⟩) n c) cols):base≤g:=by
 obtain ⟨cs,h1,_⟩:=h;have hn:n=cols.length:=(V7.of_own h1).len;subst hn;obtain ⟨_,_,h3⟩:=Yl h1;exact h3
theorem LuM.setL (h:LuM U ge ga gr gc gf g0 g1 gt gl gu go n J tl tu G D R C F E a m wr) (hne:gl≠gu) (ht:tl < n) {v:Value} (hv:Vf wr v (spV (luL R m tl) n)):
 LuM U ge ga gr gc gf g0 g1 gt gl gu go n J (tl+1) tu G D R C F E a m (wr.setCell ⟨gl,tl,none⟩ v):=by
 obtain ⟨h1,h2,⟨A,k,c,A',k',c',h3,h4⟩,h5,h6⟩:=h;obtain ⟨h7,hk⟩:=h5.set_ (k:=tl) (by rw [Wq];exact ht) hv;rw [Zhw ht] at h7;have ho:=ZW.of_set (g:=gl) (i:=tl) (v:=v) (w:=wr);have hb:Below U.heap.size U (wr.setCell ⟨gl,tl,none⟩ v):=by
  obtain ⟨_,_,_,hb⟩:=h1;exact hb.setCell (p:=⟨gl,tl,none⟩) h5.base v
 exact ⟨h1.but hk hb (by decide) (by decide) (by decide) (by decide) (by decide),h2.but hk (by decide) (by decide) (by decide) (by decide) (by decide),⟨A,k,c,A',k',c',hk.bk h3 (by decide),h4.keep (hk.keep (by decide))⟩,h7,h6.others ho hk fun b hb e=>by simp [Value.ownBlock] at hb;injection e with e;omega⟩
theorem LuM.setU (h:LuM U ge ga gr gc gf g0 g1 gt gl gu go n J tl tu G D R C F E a m wr) (hne:gl≠gu) (ht:tu < n) {v:Value} (hv:Vf wr v (spV (luU R C a tu) n)):
 LuM U ge ga gr gc gf g0 g1 gt gl gu go n J tl (tu+1) G D R C F E a m (wr.setCell ⟨gu,tu,none⟩ v):=by
 obtain ⟨h1,h2,⟨A,k,c,A',k',c',h3,h4⟩,h5,h6⟩:=h;obtain ⟨h7,hk⟩:=h6.set_ (k:=tu) (by rw [Wq];exact ht) hv;rw [Zhw ht] at h7;have ho:=ZW.of_set (g:=gu) (i:=tu) (v:=v) (w:=wr);have hb:Below U.heap.size U (wr.setCell ⟨gu,tu,none⟩ v):=by
  obtain ⟨_,_,_,hb⟩:=h1;exact hb.setCell (p:=⟨gu,tu,none⟩) h6.base v
 exact ⟨h1.but hk hb (by decide) (by decide) (by decide) (by decide) (by decide),h2.but hk (by decide) (by decide) (by decide) (by decide) (by decide),⟨A,k,c,A',k',c',hk.bk h3 (by decide),h4.keep (hk.keep (by decide))⟩,h5.others ho hk fun b hb e=>by simp [Value.ownBlock] at hb;injection e with e;omega,h7⟩
end
theorem Xm.farT {U wr:World} {ge ga gr gc n:Nat} {G D:Nat→Nat} {rp cp:List Int} {Q:Mx} (h:Xm U ge ga gr gc n G D rp cp Q wr) {g i:Nat} {v:Value} (hk:Ze 23 wr (wr.setCell ⟨g,i,none⟩ v)) (hg:U.heap.size≤g) (h1:g≠ga):Xm U ge ga gr gc n G D rp cp Q (wr.setCell ⟨g,i,none⟩ v):=by
 obtain ⟨M,⟨e1,⟨m1,m2,m3⟩,e3,e4,e5⟩,h4,h3⟩:=h;have ho:=ZW.of_set (g:=g) (i:=i) (v:=v) (w:=wr);exact ⟨M,⟨hk.bk e1 (by decide),⟨Zgb m1 ho (fun b hb e=>by simp [Value.ownBlock] at hb;injection e with e;omega),fun r hr=>(m2 r hr).but hk (by decide) (by decide),m3⟩,e3.but hk (by decide),e4.but hk (by decide),e5⟩,h4,h3.setCell (p:=⟨g,i,none⟩) hg v⟩
section
variable {U w w':World} {gf g0 g1 gt n t J:Nat} {v2 v3:Value} {l0 l1:List Int} {F E G:Nat→Nat} {m:Mx}
theorem Xy.set2 (h:Xy U gf g0 g1 gt n t J v2 v3 l0 l1 F E m G w) (v:Value):Xy U gf g0 g1 gt n t J v v3 l0 l1 F E m G (w.setCell ⟨gf,2,none⟩ v)∧Ze 158 w (w.setCell ⟨gf,2,none⟩ v):=by
 obtain ⟨e1,e2,e3,e4,e5⟩:=h;have hk:=Ze.setCell e1 2 v;exact ⟨⟨e1.set_ 2 v,e2.but hk (by decide),e3.but hk (by decide),hk.own e4 (by decide),e5.but hk (by decide) (by decide)⟩,hk⟩
theorem Xy.set3 (h:Xy U gf g0 g1 gt n t J v2 v3 l0 l1 F E m G w) (v:Value):Xy U gf g0 g1 gt n t J v2 v l0 l1 F E m G (w.setCell ⟨gf,3,none⟩ v)∧Ze 158 w (w.setCell ⟨gf,3,none⟩ v):=by
 obtain ⟨e1,e2,e3,e4,e5⟩:=h;have hk:=Ze.setCell e1 3 v;exact ⟨⟨e1.set_ 3 v,e2.but hk (by decide),e3.but hk (by decide),hk.own e4 (by decide),e5.but hk (by decide) (by decide)⟩,hk⟩
end
theorem VN (w:World):Calls Tryz.prog 35 #[.int .i64 1,.int .i64 1] w fun e w'=>∃v',e= .returned (.tuple #[v',.int .i64 0])∧Zt w' v' (canF 1)∧Below w.heap.size w w':=by
 refine (Ww 1 1 w (by omega) (by omega) (by omega) (by omega)).mono ?_;rintro e w' ⟨v',h1,h2,h3⟩;rw [if_neg (by omega)] at h1 h2;rw [show Rat.divInt 1 1=1 from Rat.divInt_self' (by decide)] at h2;exact ⟨v',h1,h2,h3⟩
def MkF (U:World) (n:Nat) (D:Nat→Prop) (s1 s2 s3 s4 s5:Value) (w:World):Prop:=
 Below U.heap.size U w∧(D 1→∃g,s1= .slice (some ⟨g,0,none⟩) n n∧g < w.heap.size∧ZN U.heap.size w (.slice (some ⟨g,0,none⟩) n n) (List.replicate n 0))∧
  (D 3→∃g,s2= .slice (some ⟨g,0,none⟩) n n∧g < w.heap.size∧ZN U.heap.size w (.slice (some ⟨g,0,none⟩) n n) (List.replicate n 0))∧
  (D 4→(D 1∧D 3)∧s3= .agg #[s1,s2,.slice none 0 0,.slice none 0 0])∧(D 5→∃g,s4= .pointer (some ⟨g,0,none⟩)∧U.heap.size≤g∧Bk w g 158 [.slice none 0 0,.slice none 0 0,.slice none 0 0,.slice none 0 0])∧(D 1→D 3→s1≠s2)∧s5= .int .i64 (n:Int)
theorem MkF.later {U w w':World} {n:Nat} {D:Nat→Prop} {s1 s2 s3 s4 s5:Value} (h:MkF U n D s1 s2 s3 s4 s5 w) (hb:Below w.heap.size w w'):MkF U n D s1 s2 s3 s4 s5 w':=by
 obtain ⟨h0,h1,h2,h3,h4,h5⟩:=h;have hs:=hb.size;refine ⟨Za h0 hb h0.size,fun d=>?_,fun d=>?_,h3,fun d=>?_,h5⟩
 ·obtain ⟨g,e,k,l⟩:=h1 d;exact ⟨g,e,by omega,l.below hb⟩
 ·obtain ⟨g,e,k,l⟩:=h2 d;exact ⟨g,e,by omega,l.below hb⟩
 ·obtain ⟨g,e,k,l⟩:=h4 d;exact ⟨g,e,k,l.later hb⟩
theorem MkF.set1 {U w:World} {n:Nat} {D:Nat→Prop} {s1 s2 s3 s4 s5:Value} (h:MkF U n D s1 s2 s3 s4 s5 w) (hn:n≤maxLen) (hd:¬D 1):MkF U n (fun k=>D k∨k=1) (.slice (some ⟨w.heap.size,0,none⟩) n n) s2 s3 s4 s5 (w.alloc (.cells (zic n) 3)):=by
 have hz:=ZN.zeros w n hn;obtain ⟨h0,h1,h2,h3,h4,h5,h6⟩:=h.later (Zb w (.cells (zic n) 3));exact ⟨h0,fun _=>⟨_,rfl,by simp,hz.monoB h.1.size⟩,fun d=>h2 (d.resolve_right (by decide)),fun d=>absurd (d.resolve_right (by decide)) fun h7=>hd (h3 h7).1.1,fun d=>h4 (d.resolve_right (by decide)),fun _ e he=>by
  obtain ⟨g,e1,e2,_⟩:=h.2.2.1 (e.resolve_right (by decide));rw [e1] at he;injection he with he;injection he with he;injection he with he;omega,h6⟩
theorem MkF.set3 {U w:World} {n:Nat} {D:Nat→Prop} {s1 s2 s3 s4 s5:Value} (h:MkF U n D s1 s2 s3 s4 s5 w) (hn:n≤maxLen) (hd:¬D 3):MkF U n (fun k=>D k∨k=3) s1 (.slice (some ⟨w.heap.size,0,none⟩) n n) s3 s4 s5 (w.alloc (.cells (zic n) 3)):=by
 have hz:=ZN.zeros w n hn;obtain ⟨h0,h1,h2,h3,h4,h5,h6⟩:=h.later (Zb w (.cells (zic n) 3));exact ⟨h0,fun d=>h1 (d.resolve_right (by decide)),fun _=>⟨_,rfl,by simp,hz.monoB h.1.size⟩,fun d=>absurd (d.resolve_right (by decide)) fun h7=>hd (h3 h7).1.2,fun d=>h4 (d.resolve_right (by decide)),fun e _ he=>by
  obtain ⟨g,e1,e2,_⟩:=h.2.1 (e.resolve_right (by decide));rw [e1] at he;injection he with he;injection he with he;injection he with he;omega,h6⟩
theorem MkF.set4 {U w:World} {n:Nat} {D:Nat→Prop} {s1 s2 s3 s4 s5:Value} (h:MkF U n D s1 s2 s3 s4 s5 w) (d1:D 1) (d3:D 3):MkF U n (fun k=>D k∨k=4) s1 s2 (.agg #[s1,s2,.slice none 0 0,.slice none 0 0]) s4 s5 w:=by
 obtain ⟨h0,h1,h2,h3,h4,h5,h6⟩:=h;exact ⟨h0,fun d=>h1 (d.resolve_right (by decide)),fun d=>h2 (d.resolve_right (by decide)),fun _=>⟨⟨.inl d1,.inl d3⟩,rfl⟩,fun d=>h4 (d.resolve_right (by decide)),fun d e=>h5 (d.resolve_right (by decide)) (e.resolve_right (by decide)),h6⟩
theorem MkF.set5 {U w:World} {n:Nat} {D:Nat→Prop} {s1 s2 s3 s4 s5:Value} (h:MkF U n D s1 s2 s3 s4 s5 w):MkF U n (fun k=>D k∨k=5) s1 s2 s3 (.pointer (some ⟨w.heap.size,0,none⟩)) s5 (w.alloc (.cells #[.slice none 0 0,.slice none 0 0,.slice none 0 0,.slice none 0 0] 158)):=by
 have hz:=Bk.new w 158 [.slice none 0 0,.slice none 0 0,.slice none 0 0,.slice none 0 0];obtain ⟨h0,h1,h2,h3,h4,h5,h6⟩:=h.later (Zb w (.cells #[.slice none 0 0,.slice none 0 0,.slice none 0 0,.slice none 0 0] 158));exact ⟨h0,fun d=>h1 (d.resolve_right (by decide)),fun d=>h2 (d.resolve_right (by decide)),fun d=>by
  obtain ⟨⟨a,b⟩,e⟩:=h3 (d.resolve_right (by decide));exact ⟨⟨.inl a,.inl b⟩,e⟩,fun _=>⟨_,rfl,h.1.size,hz⟩,fun d e=>h5 (d.resolve_right (by decide)) (e.resolve_right (by decide)),h6⟩
def Yfb (U:World) (n:Nat) (s:Value) (wx:World):Prop:=
 ∃gf g0 g1,s= .pointer (some ⟨gf,0,none⟩)∧g0≠g1∧Bk wx gf 158 [.slice (some ⟨g0,0,none⟩) n n,.slice (some ⟨g1,0,none⟩) n n,.slice none 0 0,.slice none 0 0]∧
  ZN U.heap.size wx (.slice (some ⟨g0,0,none⟩) n n) (List.replicate n 0)∧ZN U.heap.size wx (.slice (some ⟨g1,0,none⟩) n n) (List.replicate n 0)∧Below U.heap.size U wx∧U.heap.size≤gf
def Yfc (n K:Nat) (Cs:Mx) (w:World) (o:Ending) (w':World):Prop:=
 Below w.heap.size w w'∧((∃(R C:Nat→Nat) (L Um:Mx) (s0 s1 s2 s3:Value),o= .returned (.tuple #[.agg #[s0,s1,s2,s3],.bool true])∧Zml n (5^n * K) (trM Cs) R C L Um∧ZN w.heap.size w' s0 (Zke n R)∧ZN w.heap.size w' s1 (Zke n C)∧Ym w.heap.size w' s2 (vcL n L)∧Ym w.heap.size w' s3 (vcL n Um))∨
  (o= .returned (.tuple #[.agg #[.slice none 0 0,.slice none 0 0,.slice none 0 0,.slice none 0 0],.bool false])∧¬Xr n Cs))
end
section
attribute [local irreducible] YO
theorem Zhx (v:Value) (n K:Nat) (Cs:Mx) (w:World) (h:XO w v (vcL n Cs)) (hn:n≤7) (hK:1≤K) (hE:5^n * K≤4000000) (hs:∀r c,r < n→c < n→Sz K (Cs c r)):
 Calls Tryz.prog 139 #[v] w (Yfc n K Cs w):=by
 obtain ⟨A,c,rfl,gj,h8⟩:=h.shape;rw [Zbg] at h gj ⊢;have HV:=JZ h;have fq:=JZ hs;have HK:=JZ hK;have HE:=JZ hE;have gz:=Zux n (by omega);have h3:=Zkl n (by omega);obtain ⟨W,hW,b0,T⟩:∃W,w.alloc (.cells #[.slice none 0 0,.slice none 0 0,.slice none 0 0,.slice none 0 0] 158)=W∧Bk W w.heap.size 158 [.slice none 0 0,.slice none 0 0,.slice none 0 0,.slice none 0 0]∧Below w.heap.size w W:=⟨_,rfl,Bk.new w _ _,Zb w _⟩;have dz:=JZ b0;have br:Hid (W.heap.size≤W.heap.size):=JZ (JY _);clear h hs b0 hK hE;go_enter Tryz.func139,Tryz.ntmps139
 go_upto_region 2 with (fail)
 clear hW
 go_cut [5] (fun s5 wx=>Yez W n s5 wx)
 case first=>
  refine XF 9 (.go 0 (.go 1 (.go 3 (.go 5 (.bag [2,4,6,7,8] (.go 9 .done)))))) (by kernel_rfl) (by kernel_rfl) ?_;repeat ((first | (refine Z6 (v:=?_) rfl rfl rfl ?_ ?_;rotate_left;(· (intro _ u;go_simp;(try go_bits);(try with_reducible rfl)))) | (refine Yr (v:=?_) rfl rfl rfl ?_ ?_;rotate_left;(· (intro _ u;go_simp;(try go_bits);(try with_reducible rfl)))) | refine Yt rfl rfl rfl ?_ | refine Z8 rfl rfl rfl (by assumption) ?_);(try simp only [Act.put,pu1,pu2,pu3,pu4,pu5,pu6]))
  refine Zkm 29 31 33 34 5 _ _ _ _ _ (MkR W n) rfl (by decide) ⟨Zj W,fun h=>h.elim,fun h=>h.elim,fun h=>h.elim,fun h=>h.elim,fun h=>h.elim,fun h=>h.elim⟩ (List.forall_mem_cons.2 ⟨?_,List.forall_mem_cons.2 ⟨?_,List.forall_mem_cons.2 ⟨?_,List.forall_mem_cons.2 ⟨?_,List.forall_mem_cons.2 ⟨?_,fun _ h=>absurd h List.not_mem_nil⟩⟩⟩⟩⟩) ?_
  ·refine XW.mk rfl fun D s1 s2 s3 s4 s5 wx b d hnd o hR KR hKR=>?_
   simp only [Zet,Act.put,List.setIfInBounds_toArray,List.set_cons_zero,List.set_cons_succ] at d;subst d;go_simp;have hN:=hR.set2 (by unfold maxLen;omega) hnd;exact hKR.out _ _ (Or.inr hN.1) ⟨_,s2,s3,s4,s5,rfl,hN⟩
  ·refine XW.mk rfl fun D s1 s2 s3 s4 s5 wx b d hnd o hR KR hKR=>?_
   simp only [Zet,Act.put,List.setIfInBounds_toArray,List.set_cons_zero,List.set_cons_succ] at d;subst d;go_simp;have hN:=hR.set4 (by unfold maxLen;omega) hnd;exact hKR.out _ _ (Or.inr hN.1) ⟨s1,_,s3,s4,s5,rfl,hN⟩
  ·refine XW.mk rfl fun D s1 s2 s3 s4 s5 wx b d hnd o hR KR hKR=>?_
   simp only [Zet,Act.put,List.setIfInBounds_toArray,List.set_cons_zero,List.set_cons_succ] at d;subst d;go_simp;have hN:=hR.set6 (by unfold maxLen;omega) hnd;exact hKR.out _ _ (Or.inr hN.1) ⟨s1,s2,_,s4,s5,rfl,hN⟩
  ·refine XW.mk rfl fun D s1 s2 s3 s4 s5 wx b d hnd o hR KR hKR=>?_
   have d2:D 2:=o 2 (by decide) (by kernel_rfl);have d4:D 4:=o 4 (by decide) (by kernel_rfl);have d6:D 6:=o 6 (by decide) (by kernel_rfl);clear o;obtain ⟨ga,rfl,_⟩:=hR.2.1 d2;obtain ⟨gr,rfl,_⟩:=hR.2.2.1 d4;obtain ⟨gc,rfl,_⟩:=hR.2.2.2.1 d6;simp only [Zet,Act.put,List.setIfInBounds_toArray,List.set_cons_zero,List.set_cons_succ] at d;subst d;go_simp;have hN:=hR.set7 d2 d4 d6;exact hKR.out _ _ (Or.inr hN.1) ⟨_,_,_,_,s5,rfl,hN⟩
  ·refine XW.mk rfl fun D s1 s2 s3 s4 s5 wx b d hnd o hR KR hKR=>?_
   simp only [Zet,Act.put,List.setIfInBounds_toArray,List.set_cons_zero,List.set_cons_succ] at d;subst d;go_simp;have hN:=hR.set8;exact hKR.out _ _ (Or.inr hN.1) ⟨s1,s2,s3,s4,_,rfl,hN⟩
  ·intro D s1 s2 s3 s4 s5 wx B hR;obtain ⟨hb,p1,p2,p3,p4,p5,p6⟩:=hR;obtain ⟨ga,rfl,hA⟩:=p1 (B 2 (by decide));obtain ⟨gr,rfl,_,hI⟩:=p2 (B 4 (by decide));obtain ⟨gc,rfl,_,hJ⟩:=p3 (B 6 (by decide));obtain rfl:=(p4 (B 7 (by decide))).2;obtain ⟨ge,rfl,dh,hB⟩:=p5 (B 8 (by decide));have cw:=p6 (B 4 (by decide)) (B 6 (by decide));obtain ⟨t0,t1,t2,t3⟩:=hB.four;obtain ⟨f0,f1,f2,f3⟩:=hB.fourF;simp only [Zet,Act.put,List.setIfInBounds_toArray,List.set_cons_zero,List.set_cons_succ];refine ZA rfl rfl (fun KR hKR=>?_);go_simp;refine hKR.out _ _ (Or.inl (by decide)) ?_;clear hKR KR;refine YM ?_;go_wp2_with fail
   go_meet
   have k1:=hB.but4 (.int .i64 (n:Int)) (.slice (some ⟨ga,0,none⟩) n n) (.slice (some ⟨gr,0,none⟩) n n) (.slice (some ⟨gc,0,none⟩) n n);exact ⟨ge,ga,gr,gc,rfl,fun e=>cw (by rw [e]),hB.set4 _ _ _ _,k1.own hA (by decide),hI.but k1 (by decide),hJ.but k1 (by decide),ZG hb dh _ _ _ _,dh⟩
 case rest=>
  obtain ⟨ge,ga,gr,gc,rfl,cp,hB,hA,hI,hJ,l,dh⟩:=hcut;have e0:Ycx W ge ga gr gc n 0 wc:=⟨fun _=>0,fun _=>0,hB,by rw [Zkn];exact hA,fun r hr=>absurd hr (by omega),fun r s hr=>absurd hr (by omega),by rw [Zko];exact hI,by rw [Zko];exact hJ,l⟩;have ch:=Y1 n (by omega);clear hB hA hI hJ l;go_wp2
  go_loopw [36] (fun x wr=>∃i:Nat,i≤n∧x= .int .i64 i∧Ycx W ge ga gr gc n i wr) (fun x _=>n - (intOf x).toNat)
  case atStart=>exact ⟨0,by omega,rfl,e0⟩
  case round=>
   clear e0;obtain ⟨i,hi,rfl,G,D,hB,hA,hR,af,hI,hJ,l⟩:=hrel;rcases JX i n with hil | hil
   ·have fr:(i:Int) < n:=(by omega);obtain ⟨_,b1,_,_⟩:=hB.four;obtain ⟨_,_,gk⟩:=Yl hA;have HA:=JZ hA;have HB:=JZ hB;have e3:=JZ hR;have fs:=JZ af;have HI:=JZ hI;have HJ:=JZ hJ;have F:=Zb wr.drew (.cells (zfc n) 46);have cx:=Z4.zeros wr.drew n (by unfold maxLen;omega);obtain ⟨W1,cb⟩:∃W1,wr.drew.alloc (.cells (zfc n) 46)=W1:=⟨_,rfl⟩;rw [cb] at F cx;have Y:Below wr.heap.size wr W1:=Za (Zj wr) F (JY _);obtain ⟨m0,m1⟩:=ZM (own_below hA Y) (Zos (G:=G) (D:=D) hil);clear hA hB hR af hI hJ F
    go_upto_region 6 with (fail)
    have C1:=Zp b1;have y:=Zj wr;clear b1;refine Zq 6 [0,1,2,3,4,5,6] (by kernel_rfl) (by kernel_rfl) ?_;repeat ((first | (refine Zc (v:=?_) rfl rfl rfl ?_ ?_;rotate_left;(· (intro _ u;go_simp;(try go_bits);(try with_reducible rfl)))) | (refine Zg (v:=?_) rfl rfl rfl ?_ ?_;rotate_left;(· (intro _ u;go_simp;(try go_bits);(try with_reducible rfl)))) | refine Zh rfl rfl rfl ?_);(try simp only [Act.put,pu1,pu2,pu3,pu4,pu5,pu6]))
    refine Zd rfl rfl (fun KR hKR=>?_);go_simp;refine hKR.out _ _ (Or.inr Y) ?_;clear hKR KR cb;(try simp only [Act.put,pu1,pu2,pu3,pu4,pu5,pu6]);repeat ((first | (refine Zc (v:=?_) rfl rfl rfl ?_ ?_;rotate_left;(· (intro _ u;go_simp;(try go_bits);(try with_reducible rfl)))) | (refine Zg (v:=?_) rfl rfl rfl ?_ ?_;rotate_left;(· (intro _ u;go_simp;(try go_bits);(try with_reducible rfl)))) | refine Zh rfl rfl rfl ?_);(try simp only [Act.put,pu1,pu2,pu3,pu4,pu5,pu6]))
    refine Zd rfl rfl (fun KR hKR=>?_);go_simp;refine hKR.out _ _ (Or.inl (by decide)) ?_;clear hKR KR;(try simp only [Act.put,pu1,pu2,pu3,pu4,pu5,pu6]);refine Zz ?_;clear C1;have av:=own_below HA.out Y;have aw:=XD av i (.slice (some ⟨wr.heap.size,0,none⟩) n n) (by rw [XG];exact hil);rw [Zot hil] at aw;obtain ⟨_,eu,_⟩:=Yl av;have kb:=Ze.setCell eu i (.slice (some ⟨wr.heap.size,0,none⟩) n n);have P:=kb.bk (HB.out.later Y) (by decide);have bs:=(HI.out.below Y).but kb (by decide);have bt:=(HJ.out.below Y).but kb (by decide);have J:=(Za l Y l.size).setCell (p:=⟨ga,i,none⟩) gk (.slice (some ⟨wr.heap.size,0,none⟩) n n);have a5:∀r,r < i+1→Z4 W.heap.size (W1.setCell ⟨ga,i,none⟩ (.slice (some ⟨wr.heap.size,0,none⟩) n n)) (Zai n (WY G i wr.heap.size) (WY D i n) r) (rfL n fun _=>zeroF):=fun r hr=>by
     by_cases e:r=i
     ·subst e;unfold Zai;rw [Yd,Yd,← Zam];exact (Z4.monoB cx l.size).but kb (by decide) (by decide)
     ·unfold Zai;rw [Yv (by omega),Yv (by omega)];exact ((e3.out r (by omega)).below Y).but kb (by decide) (by decide)
    have cj:∀r s,r < i+1→s < i+1→WY G i wr.heap.size r=WY G i wr.heap.size s→r=s:=fun r s hr hs e=>by
     have e4:∀q,q < i→G q < wr.heap.size:=fun q hq=>by
      obtain ⟨g,c,hv,_,h2,_⟩:=(e3.out q hq).shape (by rw [Zr];omega);unfold Zai at hv;injection hv with e1;injection e1 with e1;injection e1 with e1;omega
     by_cases e1:r=i
     ·by_cases e2:s=i
      ·omega
      ·rw [e1,Yd,Yv (show s < i by omega)] at e;have:=e4 s (by omega);omega
     ·by_cases e2:s=i
      ·rw [e2,Yd,Yv (show r < i by omega)] at e;have:=e4 r (by omega);omega
      ·rw [Yv (show r < i by omega),Yv (show s < i by omega)] at e;exact fs.out r s (by omega) (by omega) e
    have ft:=JZ a5;have e5:=JZ cj;clear av eu kb m0 m1 Y cx a5 cj l;generalize W1.setCell ⟨ga,i,none⟩ (.slice (some ⟨wr.heap.size,0,none⟩) n n)=W3 at *;obtain ⟨_,_,b2,b3⟩:=P.four;obtain ⟨x0,x1,_,_⟩:=bs.at_ (Zhs hil);obtain ⟨y0,y1,_,_⟩:=bt.at_ (Zhs hil);obtain ⟨ev,k3⟩:=bs.set_ (k:=i) (z:= -1) (by rw [Xj];exact hil) (by omega) (by omega);have cy:=bt.others (ZW.of_set (g:=gr) (i:=i) (v:= .int .i64 (-1)) (w:=W3)) (fun b hb e=>by simp [Value.ownBlock] at hb;injection e with e;omega);obtain ⟨ap,k4⟩:=cy.set_ (k:=i) (z:= -1) (by rw [Xj];exact hil) (by omega) (by omega);have cz:=ev.others (ZW.of_set (g:=gc) (i:=i) (v:= .int .i64 (-1)) (w:=W3.setCell ⟨gr,i,none⟩ (.int .i64 (-1)))) (fun b hb e=>by simp [Value.ownBlock] at hb;injection e with e;omega);rw [Zyu hil] at cz ap;have k5:=k3.trans k4;have a2:=(J.setCell (p:=⟨gr,i,none⟩) bs.base (.int .i64 (-1))).setCell (p:=⟨gc,i,none⟩) bt.base (.int .i64 (-1));have fu:Ycx W ge ga gr gc n (i+1) ((W3.setCell ⟨gr,i,none⟩ (.int .i64 (-1))).setCell ⟨gc,i,none⟩ (.int .i64 (-1))):=
     ⟨_,_,k5.bk P (by decide),k5.own aw (by decide),fun r hr=>(ft.out r hr).but k5 (by decide) (by decide),e5.out,cz,ap,a2⟩
    obtain ⟨h9,ha,_,_⟩:=cy.at_ (Zhs hil);clear aw bs bt ev cy cz ap k3 k4 k5 J a2 P;go_wp2;go_roundw
    case rel=>exact ⟨i+1,by omega,by go_num,fu⟩
    case measure=>simp [intOf];omega
   ·obtain rfl:n=i:=by omega
    have hM:Zcg W.heap.size wr (.slice (some ⟨ga,0,none⟩) n n) n n (fun _ _=>zeroF) G D:=⟨by rw [← Zor];exact hA,hR,af⟩;rw [Zyv,← Zvd (R:=fun _=>0)] at hI hJ;have hF:Xm W ge ga gr gc n G D (Vp n 0 fun _=>0) (Vp n 0 fun _=>0) (V8 (vcL n Cs) 0 0) wr:=⟨_,⟨hB,hM,hI,hJ,XH,XH⟩,fun i j _ _=> .inr ⟨rfl,Zmw _ _ _⟩,l⟩;clear hA hR af hI hJ hM hB ch l;go_wp2
    go_loopw [56] (fun x wr=>∃k:Nat,k≤n∧x= .int .i64 k∧Xm W ge ga gr gc n G D (Vp n 0 fun _=>0) (Vp n 0 fun _=>0) (V8 (vcL n Cs) k 0) wr) (fun x _=>n - (intOf x).toNat)
    case atStart=>exact ⟨0,by omega,rfl,hF⟩
    case round=>
     clear hF;obtain ⟨k,hk,rfl,hF⟩:=hrel;rcases JX k n with hkl | hkl
     ·obtain ⟨bc,oc,A1,c1,rfl,x0,hL⟩:=HV.out.vc (JR _ _) hkl;have I:=Za T hF.choose_spec.2.2 T.size;have y0:=Zf I x0;have e7:(k:Int) < n:=(by omega);have e8:0 < n:=(by omega);obtain ⟨ln,di⟩:∃ln,ln=(spV (Cs k) n).length:=⟨_,rfl⟩;have ea:=JZ di;rw [← di] at x0 y0 hL;obtain ⟨-,ew,ex⟩:=hL.len;have HL:=JZ hL;clear hL di I x0;go_wp2;clear y0
      go_loopw [63] (fun x wr=>∃t:Nat,t≤ln∧x= .int .i64 t∧Xm W ge ga gr gc n G D (Vp n 0 fun _=>0) (Vp n 0 fun _=>0) (V8 (vcL n Cs) k t) wr) (fun x _=>ln - (intOf x).toNat)
      case atStart=>exact ⟨0,by omega,rfl,hF⟩
      case round=>
       clear hF;obtain ⟨t,ht,rfl,hF⟩:=hrel;rcases JX t ln with htl | htl
       ·obtain ⟨e,he⟩:=YZ (es:=spV (Cs k) n) (i:=t) (by rw [← ea.out];exact htl);obtain ⟨i0,bd,ey,ez,f4⟩:=Ur he;obtain ⟨b,hd,A2,n2,c2,A3,n3,c3,rfl,_,⟨x0,x1,x2,x3,x4⟩,f5⟩:=HL.out.elem (Za T hF.choose_spec.2.2 T.size) he;have fv:Hid (∀i j,i < n→j < n→V8 (vcL n Cs) k (t+1) i j=if i=i0∧j=k then Cs k i0 else V8 (vcL n Cs) k t i j):=JZ fun i j _ _=>by
         rw [Zrg (Zdz hkl) (Zhc _ _) he ey,ez,Zu]
        obtain ⟨ei,f⟩:=e;simp only at *;subst ey ez;obtain ⟨W1,cb,hV,dj⟩:=Zaa wr (.int .i64 (i0:Int)) (.bool (canF (Cs k i0)).num.neg) (.slice A2 n2 c2) (.bool (canF (Cs k i0)).den.neg) (.slice A3 n3 c3);obtain ⟨v0,v1,v2,v3,v4⟩:=hV.five;have Z:=hF.below dj;have eb:=f5.below dj;obtain ⟨M,⟨hB,hM,_⟩,_⟩:=id Z;obtain ⟨_,b1,_,_⟩:=hB.four;obtain ⟨m1,_⟩:=hM.cellAt bd;unfold Zai at m1;obtain ⟨l1,l2,l3,l4⟩:=hM.lt bd e8;obtain ⟨_,_,_,_,_,_,⟨c0,gm,gn,gp⟩,_⟩:=hM.at_ bd hkl;obtain ⟨f0,f1,f2,f3⟩:=hM.frozen bd hkl;have fr:(i0:Int) < n:=(by omega);clear hF f5 he f4 hM hB hV dj
        go_upto_region 15 with (fail)
        clear cb;have C0:=Zp v0;have C1:=Zp v1;have C2:=Zp v2;have C3:=Zp v3;have C4:=Zp v4;have D1:=Zp b1;have D2:=Zp m1;have y:=Zj W1;clear v0 v1 v2 v3 v4 x0 x1 x2 x3 x4 b1 m1;refine Zq 10 [0,1,2,3,4,5,6,7,8,9,10] (by kernel_rfl) (by kernel_rfl) ?_;repeat ((first | (refine Zc (v:=?_) rfl rfl rfl ?_ ?_;rotate_left;(· (intro _ u;go_simp;(try go_bits);(try with_reducible rfl)))) | (refine Zg (v:=?_) rfl rfl rfl ?_ ?_;rotate_left;(· (intro _ u;go_simp;(try go_bits);(try with_reducible rfl)))) | refine Zh rfl rfl rfl ?_);(try simp only [Act.put,pu1,pu2,pu3,pu4,pu5,pu6]))
        refine Zd rfl rfl (fun KR hKR=>?_);go_simp;refine hKR.out _ _ (Or.inl (by decide)) ?_;clear hKR KR;(try simp only [Act.put,pu1,pu2,pu3,pu4,pu5,pu6]);refine Zz ?_;clear C0 C1 C2 C3 C4 D1 D2;have ag:=(Z.below y).setM bd hkl (eb.below y) fv.out;clear Z eb y c0 gm gn gp f0 f1 f2 f3;go_wp2;go_roundw
        case rel=>exact ⟨t+1,by omega,by go_num,ag⟩
        case measure=>simp [intOf];omega
       ·obtain rfl:ln=t:=by omega
        have ag:=hF.congr (Q':=V8 (vcL n Cs) (k+1) 0) fun i j _ _=>by rw [ea.out];exact Zrh (Zdz hkl)
        clear hF;go_wp2;go_roundw
        case rel=>exact ⟨k+1,by omega,by go_num,ag⟩
        case measure=>simp [intOf];omega
     ·obtain rfl:n=k:=by omega
      go_upto_region 18 with (fail)
      go_cut [11] (fun s11 wx=>Yfb wr n s11 wx)
      case first=>
       refine XF 6 (.go 0 (.go 2 (.bag [1,3,4,5] (.go 6 .done)))) (by kernel_rfl) (by kernel_rfl) ?_;repeat ((first | (refine Z6 (v:=?_) rfl rfl rfl ?_ ?_;rotate_left;(· (intro _ u;go_simp;(try go_bits);(try with_reducible rfl)))) | (refine Yr (v:=?_) rfl rfl rfl ?_ ?_;rotate_left;(· (intro _ u;go_simp;(try go_bits);(try with_reducible rfl)))) | refine Yt rfl rfl rfl ?_ | refine Z8 rfl rfl rfl (by assumption) ?_);(try simp only [Act.put,pu1,pu2,pu3,pu4,pu5,pu6]))
       refine Zkm 80 82 83 11 4 _ _ _ _ _ (MkF wr n) rfl (by decide) ⟨Zj wr,fun h=>h.elim,fun h=>h.elim,fun h=>h.elim,fun h=>h.elim,fun h=>h.elim,rfl⟩ (List.forall_mem_cons.2 ⟨?_,List.forall_mem_cons.2 ⟨?_,List.forall_mem_cons.2 ⟨?_,List.forall_mem_cons.2 ⟨?_,fun _ h=>absurd h List.not_mem_nil⟩⟩⟩⟩) ?_
       ·refine XW.mk rfl fun D s1 s2 s3 s4 s5 wx b d hnd o hR KR hKR=>?_
        obtain rfl:=hR.2.2.2.2.2.2;simp only [Zet,Act.put,List.setIfInBounds_toArray,List.set_cons_zero,List.set_cons_succ] at d;subst d;go_simp;have hN:=hR.set1 (by unfold maxLen;omega) hnd;exact hKR.out _ _ (Or.inr hN.1) ⟨_,s2,s3,s4,_,rfl,hN⟩
       ·refine XW.mk rfl fun D s1 s2 s3 s4 s5 wx b d hnd o hR KR hKR=>?_
        obtain rfl:=hR.2.2.2.2.2.2;simp only [Zet,Act.put,List.setIfInBounds_toArray,List.set_cons_zero,List.set_cons_succ] at d;subst d;go_simp;have hN:=hR.set3 (by unfold maxLen;omega) hnd;exact hKR.out _ _ (Or.inr hN.1) ⟨s1,_,s3,s4,_,rfl,hN⟩
       ·refine XW.mk rfl fun D s1 s2 s3 s4 s5 wx b d hnd o hR KR hKR=>?_
        obtain rfl:=hR.2.2.2.2.2.2;have d1:D 1:=o 1 (by decide) (by kernel_rfl);have d3:D 3:=o 3 (by decide) (by kernel_rfl);clear o;obtain ⟨hg,rfl,_⟩:=hR.2.1 d1;obtain ⟨hh,rfl,_⟩:=hR.2.2.1 d3;simp only [Zet,Act.put,List.setIfInBounds_toArray,List.set_cons_zero,List.set_cons_succ] at d;subst d;go_simp;have hN:=hR.set4 d1 d3;exact hKR.out _ _ (Or.inr hN.1) ⟨_,_,_,s4,_,rfl,hN⟩
       ·refine XW.mk rfl fun D s1 s2 s3 s4 s5 wx b d hnd o hR KR hKR=>?_
        obtain rfl:=hR.2.2.2.2.2.2;simp only [Zet,Act.put,List.setIfInBounds_toArray,List.set_cons_zero,List.set_cons_succ] at d;subst d;go_simp;have hN:=hR.set5;exact hKR.out _ _ (Or.inr hN.1) ⟨s1,s2,s3,_,_,rfl,hN⟩
       ·intro D s1 s2 s3 s4 s5 wx B hR;obtain ⟨hb,p1,p2,p3,p4,p5,rfl⟩:=hR;obtain ⟨g0,rfl,_,hI⟩:=p1 (B 1 (by decide));obtain ⟨g1,rfl,_,hJ⟩:=p2 (B 3 (by decide));obtain rfl:=(p3 (B 4 (by decide))).2;obtain ⟨gf,rfl,cc,hB⟩:=p4 (B 5 (by decide));have cw:=p5 (B 1 (by decide)) (B 3 (by decide));obtain ⟨t0,t1,t2,t3⟩:=hB.four;obtain ⟨f0,f1,f2,f3⟩:=hB.fourF;simp only [Zet,Act.put,List.setIfInBounds_toArray,List.set_cons_zero,List.set_cons_succ];refine ZA rfl rfl (fun KR hKR=>?_);go_simp;refine hKR.out _ _ (Or.inl (by decide)) ?_;clear hKR KR;refine YM ?_;go_wp2_with fail
        go_meet
        have k1:=hB.but4 (.slice (some ⟨g0,0,none⟩) n n) (.slice (some ⟨g1,0,none⟩) n n) (.slice none 0 0) (.slice none 0 0);exact ⟨gf,g0,g1,rfl,fun e=>cw (by rw [e]),hB.set4 _ _ _ _,hI.but k1 (by decide),hJ.but k1 (by decide),ZG hb cc _ _ _ _,cc⟩
      case rest=>
       obtain ⟨gf,g0,g1,rfl,cr,hB,hI,hJ,l,cc⟩:=hcut;have Z:=hF.below l;obtain ⟨_,⟨bu,f6,a4,dk,ew,ex⟩,_,O⟩:=id hF;have ah:Hid (W.heap.size≤g0∧wr.heap.size≤g0∧gr < wr.heap.size∧gc < wr.heap.size):=JZ ⟨JW O.size hI.base,hI.base,Uy a4.1 gr rfl,Uy dk.1 gc rfl⟩;have ai:Hid (W.heap.size≤g1∧wr.heap.size≤g1∧gr < wr.heap.size∧gc < wr.heap.size):=JZ ⟨JW O.size hJ.base,hJ.base,Uy a4.1 gr rfl,Uy dk.1 gc rfl⟩;have fw:=Uy f6.1 ga rfl;have ec:Hid (W.heap.size≤gf):=JZ (JW O.size cc);have ed:=l.size;have ee:Hid (W.heap.size≤wc.heap.size∧ga < wc.heap.size):=JZ ⟨by have:=O.size;omega,by omega⟩;have hz:=Zoq 23 wc n (by unfold maxLen;omega);have F:=Zb wc (.cells (zvc n) 23);have ax:Ydc W ge ga gr gc gf g0 g1 wc.heap.size n K 0 G D (trM Cs) (wc.alloc (.cells (zvc n) 23)):=by
        refine ⟨trM Cs,fun _ _=>0,fun _=>0,fun _=>0,fun _=>0,fun _=>0,(Z.below F).congr fun i j hi hj=>?_,Uq.start _ _ _ _ _,fun i j hi hj=>by rw [Nat.pow_zero,Nat.one_mul];exact fq.out i j hi hj,fun s i hs=>absurd hs (by omega),hB.later F,?_,?_,?_,fun _ _=>zeroF,fun s hs=>absurd hs (by omega)⟩
        ·rw [Zvc hj,show (vcL n Cs).getD j []=spV (Cs j) n by simp [List.getD,Zdz hj],Zdm,if_pos hi];rfl
        ·rw [← Zkr];exact (hI.below F).monoB O.size
        ·rw [← Zkr];exact (hJ.below F).monoB O.size
        ·rw [Zkn];exact Wy hz (JW O.size ed)
       clear hB hI hJ l Z bu f6 a4 dk ew ex O hz F hF fw ed;go_wp2;generalize wc.heap.size=gt at *;generalize wc.alloc (.cells (zvc n) 23)=W5 at *
       go_loopw [87] (fun x wr=>∃t:Nat,t≤n∧x= .int .i64 t∧Ydc W ge ga gr gc gf g0 g1 gt n K t G D (trM Cs) wr) (fun x _=>n - (intOf x).toNat)
       case atStart=>exact ⟨0,by omega,rfl,ax⟩
       case round=>
        clear ax;obtain ⟨t,ht,rfl,hL⟩:=hrel;rcases JX t n with htl | htl
        ·obtain ⟨a,m,R,C,Ff,E,hF,be,bf,bg,hR⟩:=hL;obtain ⟨M,hE,hT,hb⟩:=id hF;have HF:=JZ hF;have HR:=JZ hR;have L:=JZ be;have ay:=JZ bf;have d0:=JZ bg;have HT:=JZ hT;have fx:Hid (∀i,i < n→G i < wr.heap.size):=JZ fun i hi=>(hE.2.1.lt hi (by omega)).2.1
         have a3:=Za T hb T.size;have fy:(t:Int) < n:=(by omega);clear hF be bf bg hR hT hb;go_wp2_with fail;refine (Zrf W.heap.size ge n _ _ _ M G D _ _ _ hE (by omega)).mono ?_;rintro _ w1 ⟨r0,c0,ok,rfl,dw,dx,ae⟩;clear hE
         cases ok with
         | false=>
          have o:¬Xr n Cs:=L.out.dep htl fun i j hi hj h1 h2=>by
           have hz:=dx rfl i j hi hj;unfold Zrd at hz;rw [VM hi,VM hj,decide_eq_true (V4.2 h1),decide_eq_true (V4.2 h2)] at hz;simp only [Bool.true_and,decide_eq_false_iff_not] at hz;by_cases e:a i j=0
           ·exact e
           ·exact absurd ((HT.out i j hi hj).len.2 e) hz
          have d5:=dz.out.later (Za (HF.out.choose_spec.2.2.mono br.out) ae (JW br.out HF.out.choose_spec.2.2.size));have F:=Za a3 ae a3.size;obtain ⟨t0,t1,t2,t3⟩:=d5.four;obtain ⟨f0,f1,f2,f3⟩:=d5.fourF;clear dw dx a3;go_wp2;refine Y5 Tryz.results139 Tryz.underlying158 (by kernel_rfl) rfl (d5.set4 _ _ _ _) rfl ?_;exact ⟨ZG F (JY _) _ _ _ _,.inr ⟨rfl,o⟩⟩
         | true=>
          obtain ⟨r,c,rfl,rfl,hr,hc,bh⟩:=dw rfl;unfold Zrd at bh;rw [VM hr,VM hc,Bool.and_eq_true,Bool.and_eq_true,decide_eq_true_eq,decide_eq_true_eq,decide_eq_true_eq] at bh;obtain ⟨f7,f8,f9⟩:=bh;have ef:=JZ (V4.1 f7);have eg:=JZ (V4.1 f8);have HP:=JZ ((HT.out r c hr hc).len.1 f9);have g2:(r:Int) < n:=(by omega);have g3:(c:Int) < n:=(by omega);clear f7 f8 f9 dw dx;have Z:=HF.out.below ae;have aj:=HR.out.below ae;obtain ⟨a5,k2⟩:=aj.set0 cr (k:=t) (z:=(r:Int)) (by rw [Vn];exact htl) (by omega) (by omega);obtain ⟨a6,k3⟩:=a5.set1 cr (k:=t) (z:=(c:Int)) (by rw [Vn];exact htl) (by omega) (by omega);rw [Zox htl] at a5 a6;rw [Zox htl] at a6;have ag:=Z.farI k2 ah.out.1 (by have:=ah.out;omega) (by have:=ah.out;omega);have az:=ag.farI k3 ai.out.1 (by have:=ai.out;omega) (by have:=ai.out;omega);obtain ⟨y0,y1,_,_⟩:=aj.2.1.at_ (Zci htl);obtain ⟨z0,z1,_,_⟩:=aj.2.2.1.at_ (Zci htl);have eh:=aj.1;have bu:=a5.1;have b0:=a6.1;obtain ⟨s0,s1,_,_⟩:=aj.1.four;have az:=az.below (Zj _);have a6:=a6.below (Zj _);clear Z aj a5 ag k2 k3
          go_upto_region 26 with (fail)
          clear s0 s1;have C0:∀w',Bk w' gf 158 [.slice (some ⟨g0,0,none⟩) n n,.slice (some ⟨g1,0,none⟩) n n,.slice none 0 0,.slice none 0 0]→w'.cell? ⟨gf,0,none⟩=some (.slice (some ⟨g0,0,none⟩) n n):=fun w' h=>h.four.1
          have C1:∀w',Bk w' gf 158 [.slice (some ⟨g0,0,none⟩) n n,.slice (some ⟨g1,0,none⟩) n n,.slice none 0 0,.slice none 0 0]→w'.cell? ⟨gf,1,none⟩=some (.slice (some ⟨g1,0,none⟩) n n):=fun w' h=>h.four.2.1
          refine Zmz (fun w'=>Bk w' gf 158 [.slice (some ⟨g0,0,none⟩) n n,.slice (some ⟨g1,0,none⟩) n n,.slice none 0 0,.slice none 0 0]) eh 12 [0,1,2,3,4,5,6,7,8,9,10,11] (by kernel_rfl) (by kernel_rfl) ?_;repeat ((first | (refine Zc (v:=?_) rfl rfl rfl ?_ ?_;rotate_left;(· (intro _ u;go_simp;(try go_bits);(try with_reducible rfl)))) | (refine Zg (v:=?_) rfl rfl rfl ?_ ?_;rotate_left;(· (intro _ u;go_simp;(try go_bits);(try with_reducible rfl)))) | refine Zh rfl rfl rfl ?_);(try simp only [Act.put,pu1,pu2,pu3,pu4,pu5,pu6]))
          refine Zd rfl rfl (fun KR hKR=>?_);go_simp;refine hKR.out _ _ (Or.inr bu) ?_;clear hKR KR;(try simp only [Act.put,pu1,pu2,pu3,pu4,pu5,pu6]);repeat ((first | (refine Zc (v:=?_) rfl rfl rfl ?_ ?_;rotate_left;(· (intro _ u;go_simp;(try go_bits);(try with_reducible rfl)))) | (refine Zg (v:=?_) rfl rfl rfl ?_ ?_;rotate_left;(· (intro _ u;go_simp;(try go_bits);(try with_reducible rfl)))) | refine Zh rfl rfl rfl ?_);(try simp only [Act.put,pu1,pu2,pu3,pu4,pu5,pu6]))
          refine Zd rfl rfl (fun KR hKR=>?_);go_simp;refine hKR.out _ _ (Or.inr b0) ?_;clear hKR KR;(try simp only [Act.put,pu1,pu2,pu3,pu4,pu5,pu6]);refine Zz ?_;clear C0 C1 eh bu b0 y0 y1 z0 z1;have F:=Za a3 ae a3.size;have h4:=((F.setCell (p:=⟨g0,t,none⟩) (JW T.size ah.out.1) (.int .i64 (r:Int))).setCell (p:=⟨g1,t,none⟩) (JW T.size ai.out.1) (.int .i64 (c:Int))).drew;have ej:wr.heap.size≤((w1.setCell ⟨g0,t,none⟩ (.int .i64 (r:Int))).setCell ⟨g1,t,none⟩ (.int .i64 (c:Int))).drew.heap.size:=(by simpa using ae.size);clear ae a3 F;generalize ((w1.setCell ⟨g0,t,none⟩ (.int .i64 (r:Int))).setCell ⟨g1,t,none⟩ (.int .i64 (c:Int))).drew=W2 at *;obtain ⟨_,⟨⟨hB,_,hI,hJ,_,_⟩,_,_⟩⟩:=id az;obtain ⟨_,_,b2,b3⟩:=hB.four;obtain ⟨cd,k4⟩:=az.setR cp hr (z:=(t:Int)) (by omega) (by omega);obtain ⟨al,k5⟩:=cd.setC cp hc (z:=(t:Int)) (by omega) (by omega);rw [Zow ef.out] at cd al;rw [Zow eg.out] at al;have ek:=a6.farI k4 (by have:=ah.out;omega) (by have:=ai.out;omega);have a7:=ek.farI k5 (by have:=ah.out;omega) (by have:=ai.out;omega);obtain ⟨y0,y1,_,_⟩:=hI.at_ (WF hr);obtain ⟨_,⟨⟨_,_,_,ap,_,_⟩,_,_⟩⟩:=id cd;obtain ⟨z0,z1,_,_⟩:=hJ.at_ (WF hc);obtain ⟨gs,gv,_,_⟩:=ap.at_ (WF hc);have h5:wr.heap.size≤((W2.setCell ⟨gr,r,none⟩ (.int .i64 (t:Int))).setCell ⟨gc,c,none⟩ (.int .i64 (t:Int))).heap.size:=(by simpa using ej);clear az cd a6 ek k4 k5 hB hI hJ ap;go_wp2_with fail;clear b2 b3 y0 y1 z0 z1 gs gv;generalize (W2.setCell ⟨gr,r,none⟩ (.int .i64 (t:Int))).setCell ⟨gc,c,none⟩ (.int .i64 (t:Int))=W4 at *;obtain ⟨M4,fa,fb,ce⟩:=al;have el:5^t * K≤5^n * K:=JS K (Nat.pow_le_pow_right (by decide) (by omega));have em:¬(Vp n (t+1) (WY R t r)).getD r 0 < 0:=fun g=>((Wp hr).1 g).2 rfl
          refine (Zht W.heap.size ge n _ _ _ M4 G D _ _ a r c (5^t * K) _ fa fb (by omega) hr hc em HP.out ay.out (by have:=HE.out;omega) ce.size).mono ?_;rintro _ w5 ⟨v',rfl,M5,H,fm,fn,dy,hH,fo,fp,a2⟩;obtain ⟨cs,cu,cv⟩:=Zyy L.out hr hc ef.out eg.out HP.out HK.out ay.out;obtain ⟨g,cg,fc,hl,hm,gw,ho⟩:=dy.shape (by rw [Zr];omega);rw [Zr] at fc gw;subst fc;have ak:Xm W ge ga gr gc n G D (Vp n (t+1) (WY R t r)) (Vp n (t+1) (WY C t c)) (elQ (Vp n (t+1) (WY R t r)) (Vp n (t+1) (WY C t c)) a r c n 0) w5:=⟨M5,fm,fn,ce.trans a2⟩;have a8:=a7.othP fp fo;obtain ⟨m0,m1⟩:=ZM a8.2.2.2.1 (Zos (G:=Ff) (D:=E) htl);obtain ⟨a9,k7⟩:=a8.push htl (Z4.monoB dy ce.size) (fun i hi=>⟨(hH i hi).1,(hH i hi).2.mono (by omega)⟩) (fun i hi=>by have:=fx.out i hi;omega);have b4:=ak.farT k7 (v:= .slice (some ⟨g,0,none⟩) n cg) ee.out.1 (by have:=ee.out;omega);have g4:Ydc W ge ga gr gc gf g0 g1 gt n K (t+1) G D (trM Cs) (w5.setCell ⟨gt,t,none⟩ (.slice (some ⟨g,0,none⟩) n cg)):=⟨_,_,_,_,_,_,b4,cs,cv,fun s i hs hi=>by
           by_cases e:s=t
           ·subst e;rw [Yd];exact (cu i hi).mono (by omega)
           ·rw [Yv (by omega)];exact d0.out s i (by omega) hi,a9⟩
          clear fa fb ce fm fn dy hH fo fp a2 cs cu cv ak a8 a9 k7 b4 a7 em el;go_wp2;go_roundw
          case rel=>exact ⟨t+1,by omega,by go_num,g4⟩
          case measure=>simp [intOf];omega
        ·obtain rfl:n=t:=by omega
         obtain ⟨a,m,R,C,Ff,E,hF,be,bf,bg,hR⟩:=hL;rw [Zoy,Zoy] at hR;have L:=JZ be;have ay:=JZ bf;have d0:=JZ bg;have d7:Hid (1≤5^n * K):=JZ (Nat.mul_pos (Nat.pow_pos (by decide)) HK.out);have en:=Zdx n (by omega);have bv:=Zb wr (.cells (zvc n) 66);have eo:=Ym.zeros wr n (by unfold maxLen;omega);have al:=hF.below bv;have a7:=hR.below bv;obtain ⟨a8,k6⟩:=a7.set2 (.slice (some ⟨wr.heap.size,0,none⟩) n n);obtain ⟨s0,s1,s2,s3⟩:=a7.1.four;obtain ⟨f0,f1,f2,f3⟩:=a7.1.fourF;have bw:=hF.choose_spec.2.2;have N:=(Za bw bv bw.size).setCell (p:=⟨gf,2,none⟩) ec.out (.slice (some ⟨wr.heap.size,0,none⟩) n n);have ak:=al.but k6 N (by decide) (by decide) (by decide) (by decide) (by decide);have d8:=eo.but k6 (by decide) (by decide) (by decide);have g5:=bw.size;obtain ⟨gl,dl⟩:∃gl,gl=wr.heap.size:=⟨_,rfl⟩;have ep:Hid (W.heap.size≤gl):=JZ (by omega);clear be bf bg hF hR al a7 eo k6 bw bv
         go_upto_region 31 with (fail)
         clear s0 s1 s2 s3 f0 f1 f2 f3;have b5:((wr.alloc (.cells (zvc n) 66)).setCell ⟨gf,2,none⟩ (.slice (some ⟨wr.heap.size,0,none⟩) n n)).heap.size=gl+1:=(by rw [dl];simp);rw [← dl] at a8 d8 N ak b5 ⊢;generalize (wr.alloc (.cells (zvc n) 66)).setCell ⟨gf,2,none⟩ (.slice (some ⟨gl,0,none⟩) n n)=W6 at *;have g6:=JZ b5;clear b5 dl g5;have b6:=Zb W6 (.cells (zvc n) 66);have er:=Ym.zeros W6 n (by unfold maxLen;omega);have b4:=ak.below b6;have a9:=a8.below b6;have ck:=d8.below b6;obtain ⟨dm,k8⟩:=a9.set3 (.slice (some ⟨W6.heap.size,0,none⟩) n n);obtain ⟨s0,s1,s2,s3⟩:=a9.1.four;obtain ⟨f0,f1,f2,f3⟩:=a9.1.fourF;have d9:=(Za N b6 N.size).setCell (p:=⟨gf,3,none⟩) ec.out (.slice (some ⟨W6.heap.size,0,none⟩) n n);have da:=b4.but k8 d9 (by decide) (by decide) (by decide) (by decide) (by decide);have db:=(ck.but k8 (by decide) (by decide) (by decide)).monoB ep.out;have dc:=(er.but k8 (by decide) (by decide) (by decide)).monoB (show W.heap.size≤W6.heap.size from N.size);obtain ⟨gu,fd⟩:∃gu,gu=W6.heap.size:=⟨_,rfl⟩;have cl:gl≠gu:=(by have:=g6.out;omega);have g7:=JZ fd;clear fd;clear ak a8 d8 b4 a9 er ck k8 N b6;go_wp2_with fail;clear s0 s1 s2 s3 f0 f1 f2 f3;rw [← g7.out] at dm dc da d9 db ⊢;generalize (W6.alloc (.cells (zvc n) 66)).setCell ⟨gf,3,none⟩ (.slice (some ⟨gu,0,none⟩) n n)=W8 at *;refine (VN _).mono ?_;rintro _ w9 ⟨v9,rfl,e9,a1⟩;obtain ⟨Ao,ko,co,aa,ab,ac,rfl,_,_⟩:=id e9;have b7:=Bk.new w9 46 [.bool (canF 1).num.neg,.slice Ao ko co,.bool (canF 1).den.neg,.slice aa ab ac];have am:=Zb w9 (.cells #[.bool (canF 1).num.neg,.slice Ao ko co,.bool (canF 1).den.neg,.slice aa ab ac] 46);have d:=Za a1 am a1.size;have ax:LuM W ge ga gr gc gf g0 g1 gt gl gu w9.heap.size n (2 * (5^n * K)) 0 0 G D R C Ff E a m (w9.alloc (.cells #[.bool (canF 1).num.neg,.slice Ao ko co,.bool (canF 1).den.neg,.slice aa ab ac] 46)):=
          ⟨da.below d,dm.below d,⟨_,_,_,_,_,_,b7,e9.below am⟩,by rw [← Zee];exact db.below d,by rw [← Zee];exact dc.below d⟩
         clear da dm db dc b7 am d e9 a1 d9;go_wp2;generalize w9.heap.size=go at *;generalize w9.alloc (.cells #[.bool (canF 1).num.neg,.slice Ao ko co,.bool (canF 1).den.neg,.slice aa ab ac] 46)=W9 at *;clear en
         go_loopw [136] (fun x wr=>∃t:Nat,t≤n∧x= .int .i64 t∧LuM W ge ga gr gc gf g0 g1 gt gl gu go n (2 * (5^n * K)) t t G D R C Ff E a m wr) (fun x _=>n - (intOf x).toNat)
         case atStart=>exact ⟨0,by omega,rfl,ax⟩
         case round=>
          clear ax;obtain ⟨t,ht,rfl,dn⟩:=hrel;rcases JX t n with htl | htl
          ·have bx:=JZ dn;obtain ⟨-,bi,⟨Ao,ko,co,aa,ab,ac,b7,fe⟩,-⟩:=dn;have ch:=Y1 n (by omega);have an:=Z4.zeros wr n (by unfold maxLen;omega);have S:=Zb wr (.cells (zfc n) 46);have am:=b7.later S;have cm:=fe.below S;obtain ⟨o0,o1,o2,o3⟩:=am.four;have fy:(t:Int) < n:=(by omega);obtain ⟨_,_,_,_,⟨c0,c1,c2,c3⟩,⟨f0,f1,f2,f3⟩,-⟩:=an.at_ (k:=t) (f:=zeroF) (by simp [htl]);obtain ⟨dp,k1⟩:=an.set_ (k:=t) (by simpa using htl) cm;rw [Zam,Vk htl] at dp;have b8:=Zw S (JY _) (t * 4) (t * 4+1) (t * 4+2) (t * 4+3) (.bool (canF 1).num.neg) (.slice Ao ko co) (.bool (canF 1).den.neg) (.slice aa ab ac);obtain ⟨m0,_⟩:=ZM (own_below bi.2.2.2.1 b8) (by rw [Zor];exact Zaj htl);unfold Zai at m0;obtain ⟨_,bj⟩:=bi.2.2.2.2;obtain ⟨gq,cq,aq,-,-,ff,gx⟩:=(bj t htl).1.shape (by rw [Zr];omega);rw [Zr] at aq ff;unfold Zai at aq;injection aq with hv1 hv2 aq;clear hv1 hv2;rw [← aq] at ff gx;clear bi b7 fe am cm an bj aq
           go_upto_region 37 with (fail)
           generalize wr.alloc (.cells (zfc n) 46)=W6 at *
           go_upto_region 38 with (fail)
           clear o0 o1 o2 o3 c0 c1 c2 c3 f0 f1 f2 f3 k1 S;generalize (((W6.setCell ⟨wr.heap.size,t * 4,none⟩ (.bool (canF 1).num.neg)).setCell ⟨wr.heap.size,t * 4+1,none⟩ (.slice Ao ko co)).setCell ⟨wr.heap.size,t * 4+2,none⟩ (.bool (canF 1).den.neg)).setCell ⟨wr.heap.size,t * 4+3,none⟩ (.slice aa ab ac)=W8 at *;go_wp2;clear m0;generalize wr=V at *
           go_loopw [150] (fun x wr=>∃k:Nat,k≤n∧x= .int .i64 k∧Below V.heap.size V wr∧∃L':Nat→RF,Z4 V.heap.size wr (.slice (some ⟨V.heap.size,0,none⟩) n n) (rfL n L')∧∀p,p < n→(L' p).q=Zmy R m t k p∧(L' p).Rs (2 * (5^n * K))) (fun x _=>n - (intOf x).toNat)
           case atStart=>exact ⟨0,by omega,rfl,b8,_,dp,fun p hp=>by
            rw [Zri];by_cases e:p=t
            ·simp only [if_pos e];exact ⟨Zu _,Sz_one.rs.mono (by have:=d7.out;omega)⟩
            ·simp only [if_neg e];exact ⟨zeroF_q,(Wz 1).mono (by have:=d7.out;omega)⟩⟩
           case round=>
            clear dp b8;obtain ⟨k,hk,rfl,l,L',hO,U⟩:=hrel;rcases JX k n with hkl | hkl
            ·obtain ⟨-,fg,-⟩:=bx.out;obtain ⟨H0,bj⟩:=fg.2.2.2.2;obtain ⟨fh,fi,-⟩:=bj t htl;obtain ⟨bl,bm⟩:=fi k hkl;obtain ⟨bz,oz,A5,n5,c5,A6,n6,c6,dq,_,⟨x0,x1,x2,x3⟩,ar⟩:=fh.frs.elem l (Yi hkl);injection dq with dq;injection dq with av aw;subst av;subst aw;simp only [Nat.zero_add] at x0 x1 x2 x3;obtain ⟨sx,bn,dr⟩:=L.out.ri.onto hkl;obtain ⟨fz,fj⟩:∃fz,fz=H0 t k:=⟨_,rfl⟩;rw [← fj] at x0 x2 ar bl bm;have et:=JZ bl;have g8:=JZ bm;have e7:(k:Int) < n:=(by omega);have h6:(sx:Int) < n:=(by omega);have g9:Hid (m t k≠0→∀p,p < n→Zmy R m t (k+1) p=if p=sx then m t k else Zmy R m t k p):=JZ fun h0 p hp=>Zvf L.out.ri htl hp bn dr h0 (L.out.m0 t t htl (JY _))
             have gb:Hid (m t k=0→∀p,p < n→Zmy R m t k p=Zmy R m t (k+1) p):=JZ fun h0 p hp=>Zve (n:=n) h0
             have gd:Hid ((Vp n n R)[k]? =some (sx:Int)):=JZ (by rw [WF hkl,← dr,Ycz L.out.ri bn]);clear fg bj fh fi fj dr bl bm;obtain ⟨W9,gy,ds,a1⟩:=YN wr (.bool fz.num.neg) (.slice A5 n5 c5) (.bool fz.den.neg) (.slice A6 n6 c6);obtain ⟨v0,v1,v2,v3⟩:=ds.four;have dd:=ar.below a1;go_wp2_with fail;clear gy;refine (Zx _ fz _ dd).mono ?_;rw [et.out];rintro _ w2 ⟨rfl,bq⟩;have J:=Za (Za l a1 l.size) bq (JW l.size a1.size);have c4:=(hO.below a1).below bq;have de:=dd.below bq;have P:=ds.later bq;clear hO ar dd ds l a1 bq v0 v1 v2 v3 x0 x1 x2 x3;by_cases au:qs (m t k)=0
             ·have df:=JZ (Yp.1 au);rw [au];clear de P au;go_wp2;go_roundw
              case rel=>exact ⟨k+1,by omega,by go_num,J,L',c4,fun p hp=>⟨by rw [(U p hp).1,gb.out df.out p hp],(U p hp).2⟩⟩
              case measure=>simp [intOf];omega
             ·have df:Hid (m t k≠0):=JZ fun e=>au (Yp.2 e)
              have gg:(qs (m t k) !=0)=true:=(by simpa using au);clear au;obtain ⟨v0,v1,v2,v3⟩:=P.four;obtain ⟨⟨M0,⟨bo,-,ad,-⟩,-⟩,-⟩:=bx.out.below J;obtain ⟨_,_,b2,_⟩:=bo.four;obtain ⟨p0,_,_,_⟩:=ad.at_ gd.out;obtain ⟨_,_,_,_,⟨c0,c1,c2,c3⟩,⟨f0,f1,f2,f3⟩,_⟩:=c4.at_ (Yi (f:=L') bn);clear bo ad P
              go_upto_region 42 with (fail)
              clear gg;have C0:=Zp v0;have C1:=Zp v1;have C2:=Zp v2;have C3:=Zp v3;have D0:=Zp b2;have D1:=Zp p0;have y:=Zj w2;clear v0 v1 v2 v3 b2 p0;refine Zq 8 [0,1,2,3,4,5,6,7,8] (by kernel_rfl) (by kernel_rfl) ?_;repeat ((first | (refine Zc (v:=?_) rfl rfl rfl ?_ ?_;rotate_left;(· (intro _ u;go_simp;(try go_bits);(try with_reducible rfl)))) | (refine Zg (v:=?_) rfl rfl rfl ?_ ?_;rotate_left;(· (intro _ u;go_simp;(try go_bits);(try with_reducible rfl)))) | refine Zh rfl rfl rfl ?_);(try simp only [Act.put,pu1,pu2,pu3,pu4,pu5,pu6]))
              refine Zd rfl rfl (fun KR hKR=>?_);go_simp;refine hKR.out _ _ (Or.inl (by decide)) ?_;clear hKR KR;(try simp only [Act.put,pu1,pu2,pu3,pu4,pu5,pu6]);refine Zz ?_;clear C0 C1 C2 C3 D0 D1;obtain ⟨bp,_⟩:=(c4.below y).set_ (k:=sx) (by rw [Zr];exact bn) (de.below y);rw [Vk bn] at bp;have b9:=Zw (Za J y J.size) (JY _) (sx * 4) (sx * 4+1) (sx * 4+2) (sx * 4+3);clear c4 de J y c0 c1 c2 c3 f0 f1 f2 f3;go_wp2;go_roundw
              case rel=>
               refine ⟨k+1,by omega,by go_num,b9 _ _ _ _,_,bp,fun p hp=>?_⟩;rw [g9.out df.out p hp];by_cases e:p=sx
               ·simp only [if_pos e];exact ⟨et.out,g8.out⟩
               ·simp only [if_neg e];exact U p hp
              case measure=>simp [intOf];omega
            ·obtain rfl:n=k:=by omega
             have I:=bx.out.below l;obtain ⟨-,⟨X,-⟩,-,-,-⟩:=id I;obtain ⟨-,-,s2,-⟩:=X.four;have ba:RsL (2 * (5^n * K)) (rfL n L'):=fun i f hf=>by
              have hi:i < n:=(by have:=(List.getElem?_eq_some_iff.1 hf).1;rwa [Zr] at this);rw [Yi hi] at hf;injection hf with hf;subst hf;exact (U i hi).2
             have dg:Hid (spV (qAt (rfL n L')) (rfL n L').length=spV (luL R m t) n):=JZ (by
              rw [Zr];exact Wm fun i hi=>by rw [Zhl hi,(U i hi).1,Zyz L.out.ri hi fun q hq=>L.out.m0 t q htl hq])
             clear U X
             go_upto_region 44 with (fail)
             have D0:=Zp s2;have y:=Zj wr;clear s2;refine Zq 9 [0,1,2,3,4,5,6,7,8,9] (by kernel_rfl) (by kernel_rfl) ?_;repeat ((first | (refine Zc (v:=?_) rfl rfl rfl ?_ ?_;rotate_left;(· (intro _ u;go_simp;(try go_bits);(try with_reducible rfl)))) | (refine Zg (v:=?_) rfl rfl rfl ?_ ?_;rotate_left;(· (intro _ u;go_simp;(try go_bits);(try with_reducible rfl)))) | refine Zh rfl rfl rfl ?_);(try simp only [Act.put,pu1,pu2,pu3,pu4,pu5,pu6]))
             refine Zd rfl rfl (fun KR hKR=>?_);go_simp;(with_reducible refine (YI _ _ (2 * (5^n * K)) _ (hO.frs.below y) (by rw [Zr];omega) ba (by have:=HE.out;omega)).mono ?_);rintro _ w6 ⟨v6,rfl,e6,N⟩;have a0:=Za y N y.size;rw [dg.out] at e6;obtain ⟨A7,n7,c7,rfl⟩:∃A n c,v6= .slice A n c:=by obtain ⟨A,c,e,_⟩:=e6.vec.shape;exact ⟨A,_,c,e⟩
             obtain ⟨_,dt,du,_⟩:=(I.below a0).2.2.2.1.at_ (Zan htl);refine hKR.out _ _ (Or.inr a0) ?_;clear hKR KR;(try simp only [Act.put,pu1,pu2,pu3,pu4,pu5,pu6]);repeat ((first | (refine Zc (v:=?_) rfl rfl rfl ?_ ?_;rotate_left;(· (intro _ u;go_simp;(try go_bits);(try with_reducible rfl)))) | (refine Zg (v:=?_) rfl rfl rfl ?_ ?_;rotate_left;(· (intro _ u;go_simp;(try go_bits);(try with_reducible rfl)))) | refine Zh rfl rfl rfl ?_);(try simp only [Act.put,pu1,pu2,pu3,pu4,pu5,pu6]))
             refine Zd rfl rfl (fun KR hKR=>?_);go_simp;refine hKR.out _ _ (Or.inl (by decide)) ?_;clear hKR KR;(try simp only [Act.put,pu1,pu2,pu3,pu4,pu5,pu6]);refine Zz ?_;clear D0;have F:=(I.below a0).setL cl htl e6.vec;clear I hO l y a0 N e6 dt du bx;generalize w6.setCell ⟨gl,t,none⟩ (.slice A7 n7 c7)=W7 at *;have an:=Z4.zeros W7 n (by unfold maxLen;omega);have S:=Zb W7 (.cells (zfc n) 46);have cn:=JZ F;clear F;go_wp2
             go_loopw [180] (fun x wr=>∃k:Nat,k≤t+1∧x= .int .i64 k∧Below W7.heap.size W7 wr∧∃L':Nat→RF,Z4 W7.heap.size wr (.slice (some ⟨W7.heap.size,0,none⟩) n n) (rfL n L')∧∀p,p < n→(L' p).q=upP R C a t k p∧(L' p).Rs (2 * (5^n * K))) (fun x _=>t+1 - (intOf x).toNat)
             case atStart=>exact ⟨0,by omega,rfl,S,fun _=>zeroF,by rw [← Zam];exact an,fun p hp=>⟨by unfold upP;rw [if_neg (by omega)];exact zeroF_q,(Wz 1).mono (by have:=d7.out;omega)⟩⟩
             case round=>
              clear an S;obtain ⟨k,hk,rfl,l,L',hO,U⟩:=hrel;rcases JX k (t+1) with hkl | hkl
              ·have I:=cn.out.below l;obtain ⟨⟨M0,⟨bo,cf,-⟩,dv,-⟩,⟨X,ad,a4,-⟩,-⟩:=I;have bb:k < n:=(by omega);have ao:R k < n:=L.out.ri.1 k bb;have c8:C t < n:=L.out.ci.1 t htl;obtain ⟨_,b1,_,_⟩:=bo.four;obtain ⟨s0,s1,_,_⟩:=X.four;obtain ⟨y0,_,_,_⟩:=ad.at_ (Zch bb);obtain ⟨z0,_,_,_⟩:=a4.at_ (Zch htl);obtain ⟨m1,_⟩:=cf.cellAt ao;unfold Zai at m1;obtain ⟨l1,l2,l3,l4⟩:=cf.lt ao (by omega);obtain ⟨A5,n5,c5,A6,n6,c6,⟨x0,x1,x2,x3⟩,ar⟩:=cf.at_ ao c8;have gh:Hid ((M0 (R k) (C t)).q=a (R k) (C t)∧(M0 (R k) (C t)).Rs (2 * (5^n * K))):=JZ ⟨(dv _ _ ao c8).q,((dv _ _ ao c8).rs (ay.out _ _ ao c8)).mono (by omega)⟩;have gi:Hid (∀p,upP R C a t (k+1) p=if p=k then a (R k) (C t) else upP R C a t k p):=JZ fun p=>Zza p
               obtain ⟨_,_,_,_,⟨c0,c1,c2,c3⟩,⟨f0,f1,f2,f3⟩,_⟩:=hO.at_ (Yi (f:=L') bb);generalize M0 (R k) (C t)=fz at *;generalize a (R k) (C t)=qz at *;generalize R k=rk at *;generalize C t=ct at *;have e7:(k:Int) < n:=(by omega);have g2:(rk:Int) < n:=(by omega);have g3:(ct:Int) < n:=(by omega);clear bo cf dv X ad a4
               go_upto_region 49 with (fail)
               have C0:=Zp x0;have C1:=Zp x1;have C2:=Zp x2;have C3:=Zp x3;have D0:=Zp b1;have D1:=Zp s0;have D2:=Zp s1;have D3:=Zp y0;have D4:=Zp z0;have D5:=Zp m1;have y:=Zj wr;clear x0 x1 x2 x3 b1 s0 s1 y0 z0 m1;refine Zq 19 [0,1,2,3,4,5,6,7,8,9,10,11,12,13,14,15,16,17,18,19] (by kernel_rfl) (by kernel_rfl) ?_;repeat ((first | (refine Zc (v:=?_) rfl rfl rfl ?_ ?_;rotate_left;(· (intro _ u;go_simp;(try go_bits);(try with_reducible rfl)))) | (refine Zg (v:=?_) rfl rfl rfl ?_ ?_;rotate_left;(· (intro _ u;go_simp;(try go_bits);(try with_reducible rfl)))) | refine Zh rfl rfl rfl ?_);(try simp only [Act.put,pu1,pu2,pu3,pu4,pu5,pu6]))
               refine Zd rfl rfl (fun KR hKR=>?_);go_simp;refine hKR.out _ _ (Or.inl (by decide)) ?_;clear hKR KR;(try simp only [Act.put,pu1,pu2,pu3,pu4,pu5,pu6]);refine Zz ?_;clear C0 C1 C2 C3 D0 D1 D2 D3 D4 D5;obtain ⟨bp,_⟩:=(hO.below y).set_ (k:=k) (by rw [Zr];exact bb) (ar.below y);rw [Vk bb] at bp;have b9:=Zw (Za l y l.size) (JY _) (k * 4) (k * 4+1) (k * 4+2) (k * 4+3);clear hO ar l y c0 c1 c2 c3 f0 f1 f2 f3;go_wp2;go_roundw
               case rel=>
                refine ⟨k+1,by omega,by go_num,b9 _ _ _ _,_,bp,fun p hp=>?_⟩;rw [gi.out p];by_cases e:p=k
                ·simp only [if_pos e];exact gh.out
                ·simp only [if_neg e];exact U p hp
               case measure=>simp [intOf];omega
              ·obtain rfl:k=t+1:=by omega
               have I:=cn.out.below l;obtain ⟨-,⟨X,-⟩,-,-,-⟩:=id I;obtain ⟨-,-,-,s3⟩:=X.four;have ba:RsL (2 * (5^n * K)) (rfL n L'):=fun i f hf=>by
                have hi:i < n:=(by have:=(List.getElem?_eq_some_iff.1 hf).1;rwa [Zr] at this);rw [Yi hi] at hf;injection hf with hf;subst hf;exact (U i hi).2
               have dg:Hid (spV (qAt (rfL n L')) (rfL n L').length=spV (luU R C a t) n):=JZ (by
                rw [Zr];exact Wm fun i hi=>by rw [Zhl hi,(U i hi).1,Yda])
               clear U X
               go_upto_region 51 with (fail)
               have D0:=Zp s3;have y:=Zj wr;clear s3;refine Zq 9 [0,1,2,3,4,5,6,7,8,9] (by kernel_rfl) (by kernel_rfl) ?_;repeat ((first | (refine Zc (v:=?_) rfl rfl rfl ?_ ?_;rotate_left;(· (intro _ u;go_simp;(try go_bits);(try with_reducible rfl)))) | (refine Zg (v:=?_) rfl rfl rfl ?_ ?_;rotate_left;(· (intro _ u;go_simp;(try go_bits);(try with_reducible rfl)))) | refine Zh rfl rfl rfl ?_);(try simp only [Act.put,pu1,pu2,pu3,pu4,pu5,pu6]))
               refine Zd rfl rfl (fun KR hKR=>?_);go_simp;(with_reducible refine (YI _ _ (2 * (5^n * K)) _ (hO.frs.below y) (by rw [Zr];omega) ba (by have:=HE.out;omega)).mono ?_);rintro _ w6 ⟨v6,rfl,e6,N⟩;have a0:=Za y N y.size;rw [dg.out] at e6;obtain ⟨A7,n7,c7,rfl⟩:∃A n c,v6= .slice A n c:=by obtain ⟨A,c,e,_⟩:=e6.vec.shape;exact ⟨A,_,c,e⟩
               obtain ⟨_,dt,du,_⟩:=(I.below a0).2.2.2.2.at_ (Zan htl);refine hKR.out _ _ (Or.inr a0) ?_;clear hKR KR;(try simp only [Act.put,pu1,pu2,pu3,pu4,pu5,pu6]);repeat ((first | (refine Zc (v:=?_) rfl rfl rfl ?_ ?_;rotate_left;(· (intro _ u;go_simp;(try go_bits);(try with_reducible rfl)))) | (refine Zg (v:=?_) rfl rfl rfl ?_ ?_;rotate_left;(· (intro _ u;go_simp;(try go_bits);(try with_reducible rfl)))) | refine Zh rfl rfl rfl ?_);(try simp only [Act.put,pu1,pu2,pu3,pu4,pu5,pu6]))
               refine Zd rfl rfl (fun KR hKR=>?_);go_simp;refine hKR.out _ _ (Or.inl (by decide)) ?_;clear hKR KR;(try simp only [Act.put,pu1,pu2,pu3,pu4,pu5,pu6]);refine Zz ?_;clear D0;have F:=(I.below a0).setU cl htl e6.vec;clear I hO l y a0 N e6 dt du;go_wp2;go_roundw
               case rel=>exact ⟨t+1,by omega,by go_num,F⟩
               case measure=>simp [intOf];omega
          ·obtain rfl:n=t:=by omega
           obtain ⟨⟨_,-,-,O⟩,⟨X,ad,a4,-,-⟩,-,fk,fl⟩:=dn;rw [Zoz] at fk fl;obtain ⟨s0,s1,s2,s3⟩:=X.four;have h7:=(O.mono br.out);have c9:=dz.out.later (O.mono br.out);have a3:=Za T O T.size;have ca:=T.size;obtain ⟨t0,t1,t2,t3⟩:=c9.four;obtain ⟨f0,f1,f2,f3⟩:=c9.fourF;go_wp2;have kk:=c9.but4 (.slice (some ⟨g0,0,none⟩) n n) (.slice (some ⟨g1,0,none⟩) n n) (.slice (some ⟨gl,0,none⟩) n n) (.slice (some ⟨gu,0,none⟩) n n);refine Y5 Tryz.results139 Tryz.underlying158 (by kernel_rfl) rfl (c9.set4 _ _ _ _) rfl ?_;exact ⟨ZG a3 (JY _) _ _ _ _,.inl ⟨R,C,luL R m,luU R C a,_,_,_,_,rfl,L.out.facS (by omega) HK.out HE.out ay.out d0.out,(ad.but kk (by decide)).monoB ca,(a4.but kk (by decide)).monoB ca,(fk.but kk (by decide) (by decide) (by decide)).monoB ca,(fl.but kk (by decide) (by decide) (by decide)).monoB ca⟩⟩
end
end Go.Proofs.YtgbhebappffbdaaGreat
