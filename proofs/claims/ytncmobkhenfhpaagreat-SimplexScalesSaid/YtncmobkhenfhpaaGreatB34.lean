/- Contracts and plain facts that the claim is built on, joined out of smaller texts; no condition. -/
import Derived.Test.YtncmobkhenfhpaaGreatB32
set_option linter.unusedVariables false
set_option linter.unusedSimpArgs false
set_option maxRecDepth 100000
set_option maxHeartbeats 40000000
namespace Go.Proofs.YtncmobkhenfhpaaGreat
open Go.RowKit
open Pl
attribute [local go_sem ↓] Go.wp_at_zero Go.wp_at_succ
section
def OthP (P:Nat→Prop) (w w':World):Prop:=w.heap.size≤w'.heap.size∧∀b,b < w.heap.size→¬P b→w'.heap[b]? =w.heap[b]?
theorem OthP.refl (P:Nat→Prop) (w:World):OthP P w w:=⟨Nat.le_refl _,fun _ _ _=>rfl⟩
theorem OthP.trans {P:Nat→Prop} {a b c:World} (h:OthP P a b) (k:OthP P b c):OthP P a c:=⟨Nat.le_trans h.1 k.1,fun x hx hne=>(k.2 x (Nat.lt_of_lt_of_le hx h.1) hne).trans (h.2 x hx hne)⟩
theorem OthP.mono {P Q:Nat→Prop} {w w':World} (h:OthP P w w') (hp:∀b,b < w.heap.size→P b→Q b):OthP Q w w':=⟨h.1,fun b hb hn=>h.2 b hb fun h'=>hn (hp b hb h')⟩
theorem OthP.of_below {P:Nat→Prop} {w w':World} (h:Below w.heap.size w w'):OthP P w w':=⟨h.size,fun b hb _=>h.block b hb⟩
theorem OthP.of_others {P:Nat→Prop} {g:Nat} {w w':World} (h:Others (some g) w w') (hp:g < w.heap.size→P g):OthP P w w':=⟨h.1,fun b hb hn=>h.2 b hb fun e=>by injection e with e;subst e;exact hn (hp hb)⟩
theorem OthP.below {P:Nat→Prop} {w w' w2:World} (h:OthP P w w') (hb:Below w'.heap.size w' w2):OthP P w w2:=h.trans (OthP.of_below hb)
theorem OthP.bk {P:Nat→Prop} {w w':World} {b:Nat} {t:TypeId} {cs:List Value} (h:OthP P w w') (hb:Bk w b t cs) (hn:¬P b):Bk w' b t cs:=(h.2 b hb.lt hn).trans hb
namespace Pl
def Tdy (f:RF) (q:Rat):Prop:=f=canF q∨(f=zeroF∧q=0)
theorem Tdy.q {f:RF} {q:Rat} (h:Tdy f q):f.q=q:=by
 rcases h with rfl | ⟨rfl,rfl⟩
 ·exact canF_q _
 ·exact zeroF_q
theorem Tdy.rs {f:RF} {q:Rat} {J:Nat} (h:Tdy f q) (hs:Sz J q):f.Rs J:=by
 rcases h with rfl | ⟨rfl,rfl⟩
 ·exact hs.rs
 ·exact (zeroF_rs 1).mono (Sz_pos hs)
theorem Tdy.len {f:RF} {q:Rat} (h:Tdy f q):0 < f.num.ds.length↔q≠0:=by
 rcases h with rfl | ⟨rfl,rfl⟩
 ·show 0 < (digs q.num.natAbs).length↔q≠0
  by_cases e:q=0
  ·subst e
   rw [show (0:Rat).num.natAbs=0 from rfl,digs_zero];simp
  ·have h1:q.num.natAbs≠0:=by
    intro h;exact e (Rat.num_eq_zero.1 (Int.natAbs_eq_zero.1 h))
   constructor
   ·exact fun _=>e
   ·intro _
    rcases Nat.eq_zero_or_pos (digs q.num.natAbs).length with h2 | h2
    ·exfalso
     have h3:=List.eq_nil_of_length_eq_zero h2
     have h4:=val_digs q.num.natAbs
     rw [h3] at h4
     exact h1 (by rw [← h4];rfl)
    ·exact h2
 ·simp [zeroF,canI_zero]
def elQ (rp cp:List Int) (a:Mx) (r c i j:Nat):Mx:=fun s k=>if (s < i∨(s=i∧k < j))∧rp.getD s 0 < 0∧cp.getD k 0 < 0 then a s k - a s c / a r c * a r k else a s k
def facQ (rp:List Int) (a:Mx) (r c i:Nat):Nat→Rat:=fun s=>if s < i∧rp.getD s 0 < 0 then a s c / a r c else 0
section
variable {rp cp:List Int} {a:Mx} {r c i j:Nat}
theorem elQ_start:elQ rp cp a r c 0 0=a:=by
 funext s k;unfold elQ;rw [if_neg (by omega)]
theorem elQ_row {s k:Nat} (h:¬rp.getD s 0 < 0):elQ rp cp a r c i j s k=a s k:=by unfold elQ;rw [if_neg fun e=>h e.2.1]
theorem elQ_skip {n s k:Nat} (hn:¬rp.getD i 0 < 0∨a i c=0) (hk:k < n):elQ rp cp a r c i 0 s k=elQ rp cp a r c (i+1) 0 s k:=by
 unfold elQ
 by_cases e:s=i
 ·subst e
  rw [if_neg (by omega)]
  by_cases e2:rp.getD s 0 < 0∧cp.getD k 0 < 0
  ·rw [if_pos ⟨by omega,e2⟩]
   rcases hn with hn | hn
   ·exact absurd e2.1 hn
   ·rw [hn,show (0:Rat) / a r c=0 by rw [Rat.div_def];grind];grind
  ·rw [if_neg fun h=>e2 h.2]
 ·by_cases e2:(s < i∨(s=i∧k < 0))∧rp.getD s 0 < 0∧cp.getD k 0 < 0
  ·rw [if_pos e2,if_pos ⟨by omega,e2.2⟩]
  ·rw [if_neg e2,if_neg fun h=>e2 ⟨by omega,h.2⟩]
theorem elQ_done {n s k:Nat} (hk:k < n):elQ rp cp a r c i n s k=elQ rp cp a r c (i+1) 0 s k:=by
 unfold elQ
 by_cases e2:(s < i∨(s=i∧k < n))∧rp.getD s 0 < 0∧cp.getD k 0 < 0
 ·rw [if_pos e2,if_pos ⟨by omega,e2.2⟩]
 ·rw [if_neg e2,if_neg fun h=>e2 ⟨by omega,h.2⟩]
theorem elQ_pass {s k:Nat} (hn:¬cp.getD j 0 < 0∨a r j=0):elQ rp cp a r c i j s k=elQ rp cp a r c i (j+1) s k:=by
 unfold elQ
 by_cases e:s=i∧k=j
 ·obtain ⟨rfl,rfl⟩:=e
  rw [if_neg (by omega)]
  by_cases e2:rp.getD s 0 < 0∧cp.getD k 0 < 0
  ·rw [if_pos ⟨by omega,e2⟩]
   rcases hn with hn | hn
   ·exact absurd e2.2 hn
   ·rw [hn];grind
  ·rw [if_neg fun h=>e2 h.2]
 ·by_cases e2:(s < i∨(s=i∧k < j))∧rp.getD s 0 < 0∧cp.getD k 0 < 0
  ·rw [if_pos e2,if_pos ⟨by omega,e2.2⟩]
  ·rw [if_neg e2,if_neg fun h=>e2 ⟨by omega,h.2⟩]
theorem elQ_next {s k:Nat} (h1:rp.getD i 0 < 0) (h2:cp.getD j 0 < 0):elQ rp cp a r c i (j+1) s k=if s=i∧k=j then a i j - a i c / a r c * a r j else elQ rp cp a r c i j s k:=by
 unfold elQ
 by_cases e:s=i∧k=j
 ·rw [if_pos e]
  obtain ⟨rfl,rfl⟩:=e
  rw [if_pos ⟨by omega,h1,h2⟩]
 ·rw [if_neg e]
  by_cases e2:(s < i∨(s=i∧k < j))∧rp.getD s 0 < 0∧cp.getD k 0 < 0
  ·rw [if_pos e2,if_pos ⟨by omega,e2.2⟩]
  ·rw [if_neg e2,if_neg fun h=>e2 ⟨by omega,h.2⟩]
theorem elQ_at:elQ rp cp a r c i j i j=a i j:=by unfold elQ;rw [if_neg (by omega)]
theorem elQ_at0 {k:Nat}:elQ rp cp a r c i 0 i k=a i k:=by unfold elQ;rw [if_neg (by omega)]
theorem facQ_skip (hn:¬rp.getD i 0 < 0∨a i c=0) (s:Nat):facQ rp a r c i s=facQ rp a r c (i+1) s:=by
 unfold facQ
 by_cases e:s=i
 ·subst e
  rw [if_neg (by omega)]
  by_cases e2:rp.getD s 0 < 0
  ·rw [if_pos ⟨by omega,e2⟩]
   rcases hn with hn | hn
   ·exact absurd e2 hn
   ·rw [hn,Rat.div_def];grind
  ·rw [if_neg fun h=>e2 h.2]
 ·by_cases e2:s < i∧rp.getD s 0 < 0
  ·rw [if_pos e2,if_pos ⟨by omega,e2.2⟩]
  ·rw [if_neg e2,if_neg fun h=>e2 ⟨by omega,h.2⟩]
theorem facQ_next (h1:rp.getD i 0 < 0) (s:Nat):facQ rp a r c (i+1) s=if s=i then a i c / a r c else facQ rp a r c i s:=by
 unfold facQ
 by_cases e:s=i
 ·subst e;rw [if_pos rfl,if_pos ⟨by omega,h1⟩]
 ·rw [if_neg e]
  by_cases e2:s < i∧rp.getD s 0 < 0
  ·rw [if_pos e2,if_pos ⟨by omega,e2.2⟩]
  ·rw [if_neg e2,if_neg fun h=>e2 ⟨by omega,h.2⟩]
end
end Pl
def BoxAt (V:World) (f:RF) (s9:Value) (wx:World):Prop:=
 ∃(g:Nat) (A:Option Addr) (n c:Nat) (A':Option Addr) (n' c':Nat),s9= .pointer (some ⟨g,0,none⟩)∧V.heap.size≤g∧Bk wx g 48 [.bool f.num.neg,.slice A n c,.bool f.den.neg,.slice A' n' c']∧FracM wx (.agg #[.bool f.num.neg,.slice A n c,.bool f.den.neg,.slice A' n' c']) f∧Below V.heap.size V wx
theorem BoxAt.mk {V w:World} {g:Nat} {f:RF} {x y z u:Value} {A A':Option Addr} {n c n' c':Nat} (hB:Bk w g 48 [x,y,z,u]) (hm:FracM w (.agg #[.bool f.num.neg,.slice A n c,.bool f.den.neg,.slice A' n' c']) f) (hb:Below V.heap.size V w) (hg:V.heap.size≤g):
 BoxAt V f (.pointer (some ⟨g,0,none⟩)) ((((w.setCell ⟨g,0,none⟩ (.bool f.num.neg)).setCell ⟨g,1,none⟩ (.slice A n c)).setCell ⟨g,2,none⟩ (.bool f.den.neg)).setCell ⟨g,3,none⟩ (.slice A' n' c')):=
 ⟨g,A,n,c,A',n',c',rfl,hg,hB.set4 _ _ _ _,hm.keep (hB.keep4 (by decide) _ _ _ _),below_set4 hb hg _ _ _ _⟩
def ElAt (base:Nat) (w:World) (ge n:Nat) (va vr vc:Value) (G D:Nat→Nat) (rp cp:List Int) (Q:Mx) (f:Nat→Rat) (J:Nat) (vf:Value) (wr:World):Prop:=
 ∃(M:Nat→Nat→RF) (H:Nat→RF),ElM base wr ge n va vr vc M G D rp cp∧(∀i j,i < n→j < n→Tdy (M i j) (Q i j))∧FrsO w.heap.size wr vf (rfL n H)∧(∀i,i < n→(H i).q=f i∧(H i).Rs J)∧
  KeepBut 48 w wr∧OthP (fun b=>∃i,i < n∧b=G i) w wr∧Below base w wr
theorem ElAt.below {base:Nat} {w wr w':World} {ge n:Nat} {va vr vc:Value} {G D:Nat→Nat} {rp cp:List Int} {Q:Mx} {f:Nat→Rat} {J:Nat} {vf:Value} (h:ElAt base w ge n va vr vc G D rp cp Q f J vf wr) (hb:Below wr.heap.size wr w') (hw:base≤w.heap.size):ElAt base w ge n va vr vc G D rp cp Q f J vf w':=by
 obtain ⟨M,H,h1,h2,h3,h4,h5,h6,h7⟩:=h
 exact ⟨M,H,h1.below hb,h2,h3.below hb,h4,h5.trans (KeepBut.of_below hb),h6.below hb,below_then h7 hb (Nat.le_trans hw h6.1)⟩
theorem ElAt.congr {base:Nat} {w wr:World} {ge n:Nat} {va vr vc:Value} {G D:Nat→Nat} {rp cp:List Int} {Q Q':Mx} {f f':Nat→Rat} {J:Nat} {vf:Value} (h:ElAt base w ge n va vr vc G D rp cp Q f J vf wr) (hq:∀i j,i < n→j < n→Q i j=Q' i j) (hf:∀i,i < n→f i=f' i):ElAt base w ge n va vr vc G D rp cp Q' f' J vf wr:=by
 obtain ⟨M,H,h1,h2,h3,h4,h5⟩:=h
 exact ⟨M,H,h1,fun i j hi hj=>by rw [← hq i j hi hj];exact h2 i j hi hj,h3,fun i hi=>by rw [← hf i hi];exact h4 i hi,h5⟩
theorem ElAt.setF {base:Nat} {w wr:World} {ge n:Nat} {va vr vc:Value} {G D:Nat→Nat} {rp cp:List Int} {Q:Mx} {f f':Nat→Rat} {J cf:Nat} (h:ElAt base w ge n va vr vc G D rp cp Q f J (.slice (some ⟨w.heap.size,0,none⟩) n cf) wr) (hw:base≤w.heap.size) (hG:∀i,i < n→G i < w.heap.size) {i:Nat} (hi:i < n) {x y z u:Value} {q:RF} (hq:FracM wr (.agg #[x,y,z,u]) q) (hr:q.Rs J) (hf:∀s,s < n→f' s=if s=i then q.q else f s):
 ElAt base w ge n va vr vc G D rp cp Q f' J (.slice (some ⟨w.heap.size,0,none⟩) n cf) ((((wr.setCell ⟨w.heap.size,i * 4,none⟩ x).setCell ⟨w.heap.size,i * 4+1,none⟩ y).setCell ⟨w.heap.size,i * 4+2,none⟩ z).setCell ⟨w.heap.size,i * 4+3,none⟩ u):=by
 obtain ⟨M,H,⟨e1,e2,e3,e4,e5⟩,h2,h3,h4,h5,h6,h7⟩:=h
 obtain ⟨g1,g2⟩:=h3.set_ (k:=i) (by rw [rfL_length];exact hi) hq
 rw [rfL_set hi] at g1
 have ho:=others_set4 (w:=wr) (g:=w.heap.size) (i:=i * 4) (j:=i * 4+1) (k:=i * 4+2) (l:=i * 4+3) (x:=x) (y:=y) (z:=z) (u:=u)
 refine ⟨M,fun s=>if s=i then q else H s,⟨g2.bk e1 (by decide),e2.far ho g2 fun r hr=>by have:=hG r hr;omega,e3.but g2 (by decide),e4.but g2 (by decide),e5⟩,h2,g1,fun s hs=>?_,h5.trans g2,⟨Nat.le_trans h6.1 ho.1,fun b hb hn=>(ho.2 b (Nat.lt_of_lt_of_le hb h6.1) fun e=>by injection e with e;omega).trans (h6.2 b hb hn)⟩,below_set4' h7 hw _ _ _ _ _ _ _ _⟩
 rw [hf s hs]
 by_cases e:s=i
 ·simp only [if_pos e];exact ⟨trivial,hr⟩
 ·simp only [if_neg e];exact h4 s hs
theorem ElAt.setM {base:Nat} {w wr:World} {ge n:Nat} {va vr vc:Value} {G D:Nat→Nat} {rp cp:List Int} {Q Q':Mx} {f:Nat→Rat} {J cf:Nat} (h:ElAt base w ge n va vr vc G D rp cp Q f J (.slice (some ⟨w.heap.size,0,none⟩) n cf) wr) (hG:∀i,i < n→base≤G i∧G i < w.heap.size) {i j:Nat} (hi:i < n) (hj:j < n) {x y z u:Value} {q:Rat} (hq:FracM wr (.agg #[x,y,z,u]) (canF q)) (hf:∀s k,s < n→k < n→Q' s k=if s=i∧k=j then q else Q s k):
 ElAt base w ge n va vr vc G D rp cp Q' f J (.slice (some ⟨w.heap.size,0,none⟩) n cf) ((((wr.setCell ⟨G i,j * 4,none⟩ x).setCell ⟨G i,j * 4+1,none⟩ y).setCell ⟨G i,j * 4+2,none⟩ z).setCell ⟨G i,j * 4+3,none⟩ u):=by
 obtain ⟨M,H,⟨e1,e2,e3,e4,e5⟩,h2,h3,h4,h5,h6,h7⟩:=h
 obtain ⟨g1,g2⟩:=e2.set_ hi hj hq
 have ho:=others_set4 (w:=wr) (g:=G i) (i:=j * 4) (j:=j * 4+1) (k:=j * 4+2) (l:=j * 4+3) (x:=x) (y:=y) (z:=z) (u:=u)
 have hg:=hG i hi
 refine ⟨_,H,⟨g2.bk e1 (by decide),g1,e3.but g2 (by decide),e4.but g2 (by decide),e5⟩,fun s k hs hk=>?_,h3.others ho (g2.keep (by decide)) (fun b hb e=>by simp [Value.ownBlock] at hb;injection e with e;omega),h4,h5.trans g2,h6.trans (OthP.of_others ho fun _=>⟨i,hi,rfl⟩),below_set4' h7 hg.1 _ _ _ _ _ _ _ _⟩
 rw [hf s k hs hk]
 unfold updR
 by_cases e:s=i∧k=j
 ·rw [if_pos e,if_pos e];exact .inl rfl
 ·rw [if_neg e,if_neg e];exact h2 s k hs hk
def ElPost (base:Nat) (w:World) (ge n:Nat) (va vr vc:Value) (G D:Nat→Nat) (rp cp:List Int) (Q:Mx) (f:Nat→Rat) (J:Nat) (o:Ending) (w':World):Prop:=
 ∃v',o= .returned v'∧ElAt base w ge n va vr vc G D rp cp Q f J v' w'
theorem eliminate_own (base ge n:Nat) (va vr vc:Value) (M0:Nat→Nat→RF) (G D:Nat→Nat) (rp cp:List Int) (a:Mx) (r c J:Nat) (w:World) (h:ElM base w ge n va vr vc M0 G D rp cp) (ht:∀i j,i < n→j < n→Tdy (M0 i j) (a i j)) (hn:n≤7) (hr:r < n) (hc:c < n) (hrp:¬rp.getD r 0 < 0) (hp:a r c≠0) (hJ:∀i j,i < n→j < n→Sz J (a i j)) (hJ2:J≤4000000) (hb:base≤w.heap.size):
 Calls Tryz.prog 142 #[.pointer (some ⟨ge,0,none⟩),.int .i64 (r:Int),.int .i64 (c:Int)] w (ElPost base w ge n va vr vc G D rp cp (elQ rp cp a r c n 0) (facQ rp a r c n) (2 * J)):=by
 have hpos:0 < n:=by omega
 have hJ1:1≤J:=Sz_pos (hJ r c hr hc)
 have HGB:Hid (∀i,i < n→base≤G i∧G i < w.heap.size):=Lib.hid fun i hi=>by obtain ⟨h1,h2,_,_⟩:=h.2.1.lt hi hpos;exact ⟨h1,h2⟩
 obtain ⟨b0,b1,b2,b3⟩:=h.1.four
 have HJ:=Lib.hid hJ
 have HP:=Lib.hid hp
 have hmk:=make_frac n (by omega)
 have hO0:=FrsO.zeros w n (by unfold maxLen;omega)
 have hb0:=below_new w (.cells (zfc n) 48)
 have hB0:=h.1.later hb0
 obtain ⟨b0',_,_,_⟩:=hB0.four
 have hz0:List.replicate n zeroF=rfL n fun _=>zeroF:=by
  refine List.ext_getElem? fun i=>?_
  rcases Nat.lt_or_ge i n with e | e
  ·rw [rfL_get e];simp [e]
  ·rw [List.getElem?_eq_none (by simp;exact e),List.getElem?_eq_none (by rw [rfL_length];exact e)]
 rw [hz0] at hO0
 have hA0:ElAt base w ge n va vr vc G D rp cp (elQ rp cp a r c 0 0) (facQ rp a r c 0) (2 * J) (.slice (some ⟨w.heap.size,0,none⟩) n n) (w.alloc (.cells (zfc n) 48)):=
  ⟨M0,fun _=>zeroF,h.below hb0,fun i j hi hj=>by rw [elQ_start];exact ht i j hi hj,hO0,fun i _=>⟨by unfold facQ;rw [if_neg (by omega),zeroF_q],(zeroF_rs 1).mono (by omega)⟩,KeepBut.of_below hb0,OthP.of_below hb0,hb0.mono hb⟩
 obtain ⟨go,co,rfl,_,_,hco1,hco2,_⟩:=h.2.1.outer hpos
 obtain ⟨gr,cr,rfl,_,_,hr1,hr2⟩:=h.2.2.1.shape (by rw [h.2.2.2.2.1];exact hpos)
 obtain ⟨gc,cc,rfl,_,_,hc1,hc2⟩:=h.2.2.2.1.shape (by rw [h.2.2.2.2.2];exact hpos)
 have HRP:Hid (¬rp.getD r 0 < 0):=Lib.hid hrp
 have HL1:=Lib.hid h.2.2.2.2.1
 have HL2:=Lib.hid h.2.2.2.2.2
 rw [HL1.out] at hr1 b2 hA0
 rw [HL2.out] at hc1 b3 hA0
 rw [HL1.out,HL2.out]
 have hcI:(c:Int) < n:=by omega
 have hrI:(r:Int) < n:=by omega
 clear h ht hJ hp hO0 hz0 hB0 hrp
 go_enter Tryz.func142,Tryz.ntmps142
 go_wp2
 clear b0 b1 b2 b3 b0' hmk hb0
 generalize w.alloc (.cells (zfc n) 48)=W0 at *
 go_loopw [21] (fun x wr=>∃i:Nat,i≤n∧x= .int .i64 i∧ElAt base w ge n (.slice (some ⟨go,0,none⟩) n co) (.slice (some ⟨gr,0,none⟩) n cr) (.slice (some ⟨gc,0,none⟩) n cc) G D rp cp (elQ rp cp a r c i 0) (facQ rp a r c i) (2 * J) (.slice (some ⟨w.heap.size,0,none⟩) n n) wr) (fun x _=>n - (intOf x).toNat)
 case atStart=>exact ⟨0,by omega,rfl,hA0⟩
 case round=>
  clear hA0
  obtain ⟨i,hi,rfl,hA⟩:=hrel
  rcases Nat.lt_or_ge i n with hil | hil
  ·have HA:=Lib.hid hA
   obtain ⟨M,H,⟨hB,hM,hR,hC,_,_⟩,hT,hF,hH,hkb,hoth,hbe⟩:=hA
   have hiI:(i:Int) < n:=by omega
   obtain ⟨b0,b1,b2,b3⟩:=hB.four
   obtain ⟨zi,hzi⟩:=get_someI (l:=rp) (i:=i) (by rw [HL1.out];exact hil)
   obtain ⟨r0,_,_,_⟩:=hR.at_ hzi
   have hziD:=getD_of hzi
   by_cases hz:zi < 0
   ·have hTI:=hT i c hil hc
    rw [elQ_at0] at hTI
    have HTI:=Lib.hid hTI
    have HTM:=Lib.hid hT
    have HZI:Hid (rp.getD i 0 < 0):=Lib.hid (by rw [hziD];exact hz)
    obtain ⟨m1,_⟩:=hM.cellAt hil
    obtain ⟨A1,n1,c1,A2,n2,c2,⟨x0,x1,x2,x3⟩,hmi⟩:=hM.at_ hil hc
    obtain ⟨l1,l2,l3,l4⟩:=hM.lt hil hpos
    unfold rowV at m1
    have hq3:qs (a i c)=0∨qs (a i c)=1∨qs (a i c)= -1:=by have:=qs_bd (a i c);omega
    clear hzi hziD hkb hoth hbe hT hF hH hR hC hTI
    have HM:=Lib.hid hM
    have HB:=Lib.hid hB
    clear hM hB
    by_cases hq0:qs (a i c)=0
    ·have HQ0:Hid (a i c=0):=Lib.hid (qs_zero.1 hq0)
     go_wp2_with fail
     refine (signF_any _ (M i c) _ hmi).mono ?_
     rw [HTI.out.q,hq0]
     rintro _ w1 ⟨rfl,hb1⟩
     have HA1:=Lib.hid (HA.out.below hb1 hb)
     clear b0 b1 b2 b3 r0 m1 x0 x1 x2 x3 hmi hq3
     go_wp2
     go_roundw
     case rel=>exact ⟨i+1,by omega,by go_num,HA1.out.congr (fun s k hs hk=>elQ_skip (.inr HQ0.out) hk) fun s hs=>facQ_skip (.inr HQ0.out) s⟩
     case measure=>simp [intOf];omega
    ·have hqe:(qs (a i c)==0)=false:=by simpa using hq0
     clear hq3 hq0
     go_wp2_with fail
     refine (signF_any _ (M i c) _ hmi).mono ?_
     rw [HTI.out.q]
     rintro _ w1 ⟨rfl,hb1⟩
     have HA1:=Lib.hid (HA.out.below hb1 hb)
     have hM1:=HM.out.below hb1
     have hB1:=HB.out.later hb1
     clear b0 b1 b2 b3 r0 m1 x0 x1 x2 x3 hmi hb1
     obtain ⟨_,b1,_,_⟩:=hB1.four
     obtain ⟨m1,_⟩:=hM1.cellAt hil
     obtain ⟨m2,_⟩:=hM1.cellAt hr
     unfold rowV at m1 m2
     obtain ⟨A1,n1,c1,A2,n2,c2,⟨x0,x1,x2,x3⟩,hmi⟩:=hM1.at_ hil hc
     obtain ⟨A3,n3,c3,A4,n4,c4,⟨y0,y1,y2,y3⟩,hmr⟩:=hM1.at_ hr hc
     obtain ⟨r1,r2,r3,r4⟩:=hM1.lt hr hpos
     have HTR:Hid (Tdy (M r c) (a r c)):=Lib.hid (by have:=HTM.out r c hr hc;rwa [elQ_row (by have:=HRP.out;omega)] at this)
     obtain ⟨q,hq⟩:∃q,q=a i c / a r c:=⟨_,rfl⟩
     have HQ:=Lib.hid hq
     have HQI:Hid ((M i c).q / (M r c).q=q):=Lib.hid (by rw [HTI.out.q,HTR.out.q,hq])
     have hsi:(M i c).Sm:=(HTI.out.rs (HJ.out i c hil hc)).sm (by omega)
     have hsr:(M r c).Sm:=(HTR.out.rs (HJ.out r c hr hc)).sm (by omega)
     have hp0:(M r c).q≠0:=by rw [HTR.out.q];exact HP.out
     have HSQ:Hid (Sz (2 * J) q):=Lib.hid (by rw [hq];exact (Sz_div (HJ.out i c hil hc) (HJ.out r c hr hc)).mono (by omega))
     clear hq
     go_upto_region 6 with (fail)
     clear hqe
     go_cut [9] (fun s9 wx=>BoxAt w1 (canF q) s9 wx)
     case first=>
      have C0:=stab x0
      have C1:=stab x1
      have C2:=stab x2
      have C3:=stab x3
      have E0:=stab y0
      have E1:=stab y1
      have E2:=stab y2
      have E3:=stab y3
      have D0:=stab b1
      have D1:=stab m1
      have D2:=stab m2
      have hS0:=below_drew' w1
      clear x0 x1 x2 x3 y0 y1 y2 y3 b1 m1 m2
      refine region_plan 25 (.go 0 (.go 1 (.go 2 (.go 3 (.go 4 (.go 5 (.go 6 (.go 7 (.go 8 (.go 9 (.go 10 (.go 11 (.go 12 (.go 13 (.go 14 (.go 15 (.go 16 (.go 17 (.go 18 (.go 19 (.fork 20 (.go 21 (.go 22 (.go 23 (.go 24 (.go 25 (.go 26 .done)))))) 24 (.go 20 (.go 21 (.go 22 (.go 23 (.go 25 (.go 26 .done))))))))))))))))))))))))))) (by kernel_rfl) (by kernel_rfl) ?_
      repeat ((first | (refine plan_takeP (v:=?_) rfl rfl rfl ?_ ?_;rotate_left;(· (intro _ hSw;go_simp;(try go_bits);(try with_reducible rfl)))) | (refine plan_take (v:=?_) rfl rfl rfl ?_ ?_;rotate_left;(· (intro _ hSw;go_simp;(try go_bits);(try with_reducible rfl)))) | refine plan_skip rfl rfl rfl ?_ | refine plan_skipc rfl rfl rfl (by assumption) ?_);(try simp only [Act.put,pu1,pu2,pu3,pu4,pu5,pu6]))
      refine plan_fork rfl rfl (fun KR hKR=>?_) (fun KR hKR=>?_)
      ·go_simp
       with_reducible refine (divF_any _ _ (M i c) (M r c) _ (hmi.below hS0) (hmr.below hS0) hsi hsr hp0).mono ?_
       rw [HQI.out]
       rintro _ wA ⟨vA,rfl,eA,hbA⟩
       have hSA:=below_then hS0 hbA hS0.size
       obtain ⟨A6,n6,c6,B6,m6,d6,rfl,_,_⟩:=id eA
       refine hKR.out _ _ (Or.inr hSA) ?_
       clear hKR KR
       (try simp only [Act.put,pu1,pu2,pu3,pu4,pu5,pu6])
       repeat ((first | (refine plan_takeP (v:=?_) rfl rfl rfl ?_ ?_;rotate_left;(· (intro _ hSw;go_simp;(try go_bits);(try with_reducible rfl)))) | (refine plan_take (v:=?_) rfl rfl rfl ?_ ?_;rotate_left;(· (intro _ hSw;go_simp;(try go_bits);(try with_reducible rfl)))) | refine plan_skip rfl rfl rfl ?_ | refine plan_skipc rfl rfl rfl (by assumption) ?_);(try simp only [Act.put,pu1,pu2,pu3,pu4,pu5,pu6]))
       obtain ⟨WG,hWG,hGG,hbG⟩:=boxF1 wA (.bool false) (.slice none 0 0) (.bool false) (.slice none 0 0)
       refine plan_step rfl rfl (fun KR hKR=>?_)
       go_simp
       have hge:=hSA.size
       have hSG:=below_then hSA hbG hSA.size
       refine hKR.out _ _ (Or.inr hSG) ?_
       clear hKR KR hWG
       (try simp only [Act.put,pu1,pu2,pu3,pu4,pu5,pu6])
       have eAG:=eA.below hbG
       obtain ⟨t0,t1,t2,t3⟩:=hGG.four
       obtain ⟨f0,f1,f2,f3⟩:=hGG.fourF
       refine plan_step rfl rfl (fun KR hKR=>?_)
       go_simp
       refine hKR.out _ _ (Or.inl (by decide)) ?_
       clear hKR KR
       (try simp only [Act.put,pu1,pu2,pu3,pu4,pu5,pu6])
       refine plan_step rfl rfl (fun KR hKR=>?_)
       go_simp
       refine hKR.out _ _ (Or.inl (by decide)) ?_
       clear hKR KR
       (try simp only [Act.put,pu1,pu2,pu3,pu4,pu5,pu6])
       refine plan_done ?_
       go_wp2_with fail
       go_meet
       exact BoxAt.mk hGG eAG hSG hge
      ·obtain ⟨WG,hWG,hGG,hbG⟩:=boxF1 w1.drew (.bool false) (.slice none 0 0) (.bool false) (.slice none 0 0)
       go_simp
       have hge:=hS0.size
       have hSG:=below_then hS0 hbG hS0.size
       refine hKR.out _ _ (Or.inr hSG) ?_
       clear hKR KR hWG
       (try simp only [Act.put,pu1,pu2,pu3,pu4,pu5,pu6])
       change Bk WG w1.heap.size 48 _ at hGG
       refine plan_step rfl rfl (fun KR hKR=>?_)
       go_simp
       with_reducible refine (divF_any _ _ (M i c) (M r c) _ (hmi.below hSG) (hmr.below hSG) hsi hsr hp0).mono ?_
       rw [HQI.out]
       rintro _ wA ⟨vA,rfl,eA,hbA⟩
       have hSA:=below_then hSG hbA hSG.size
       obtain ⟨A6,n6,c6,B6,m6,d6,rfl,_,_⟩:=id eA
       refine hKR.out _ _ (Or.inr hSA) ?_
       clear hKR KR
       (try simp only [Act.put,pu1,pu2,pu3,pu4,pu5,pu6])
       have hG:=hGG.later hbA
       repeat ((first | (refine plan_takeP (v:=?_) rfl rfl rfl ?_ ?_;rotate_left;(· (intro _ hSw;go_simp;(try go_bits);(try with_reducible rfl)))) | (refine plan_take (v:=?_) rfl rfl rfl ?_ ?_;rotate_left;(· (intro _ hSw;go_simp;(try go_bits);(try with_reducible rfl)))) | refine plan_skip rfl rfl rfl ?_ | refine plan_skipc rfl rfl rfl (by assumption) ?_);(try simp only [Act.put,pu1,pu2,pu3,pu4,pu5,pu6]))
       obtain ⟨t0,t1,t2,t3⟩:=hG.four
       obtain ⟨f0,f1,f2,f3⟩:=hG.fourF
       refine plan_step rfl rfl (fun KR hKR=>?_)
       go_simp
       refine hKR.out _ _ (Or.inl (by decide)) ?_
       clear hKR KR
       (try simp only [Act.put,pu1,pu2,pu3,pu4,pu5,pu6])
       refine plan_step rfl rfl (fun KR hKR=>?_)
       go_simp
       refine hKR.out _ _ (Or.inl (by decide)) ?_
       clear hKR KR
       (try simp only [Act.put,pu1,pu2,pu3,pu4,pu5,pu6])
       refine plan_done ?_
       go_wp2_with fail
       go_meet
       exact BoxAt.mk hG eA hSA hge
     case rest=>
      obtain ⟨gm,Am,nm,cm,Am',nm',cm',rfl,hgm,hBm,hmq,hbK⟩:=hcut
      have hA2:=HA1.out.below hbK hb
      have hws:w.heap.size < w1.heap.size:=by
       obtain ⟨_,H1,_,_,hF1,_⟩:=HA1.out
       obtain ⟨g,_,e,_,h,_⟩:=hF1.shape (by rw [rfL_length];exact hpos)
       injection e with e
       injection e with e
       injection e with e
       omega
      clear x0 x1 x2 x3 y0 y1 y2 y3 b1 m1 m2 hmi hmr hM1 hB1 hbK
      have HA2:=Lib.hid hA2
      obtain ⟨M2,H2,_,_,hF2,_⟩:=hA2
      obtain ⟨_,_,_,_,⟨c0,c1',c2',c3'⟩,⟨f0,f1,f2,f3⟩,_⟩:=hF2.at_ (rfL_get (f:=H2) hil)
      obtain ⟨_,hk2⟩:=hF2.set_ (k:=i) (by rw [rfL_length];exact hil) hmq
      have hA3:=HA2.out.setF hb (fun s hs=>(HGB.out s hs).2) hil hmq HSQ.out.rs (f':=facQ rp a r c (i+1)) (fun s hs=>by rw [facQ_next HZI.out,canF_q,HQ.out])
      have hBm3:=(others_set4 (w:=wc) (g:=w.heap.size) (i:=i * 4) (j:=i * 4+1) (k:=i * 4+2) (l:=i * 4+3) (x:= .bool (canF q).num.neg) (y:= .slice Am nm cm) (z:= .bool (canF q).den.neg) (u:= .slice Am' nm' cm')).bk hBm (by intro e;injection e with e;omega)
      have hmq3:=hmq.keep (hk2.keep (by decide))
      obtain ⟨t0,t1,t2,t3⟩:=hBm.four
      clear hBm hmq hF2 hk2
      go_upto_region 8 with (fail)
      clear t0 t1 t2 t3 c0 c1' c2' c3' f0 f1 f2 f3
      generalize ((((wc.setCell ⟨w.heap.size,i * 4,none⟩ (.bool (canF q).num.neg)).setCell ⟨w.heap.size,i * 4+1,none⟩ (.slice Am nm cm)).setCell ⟨w.heap.size,i * 4+2,none⟩ (.bool (canF q).den.neg)).setCell ⟨w.heap.size,i * 4+3,none⟩ (.slice Am' nm' cm'))=W3 at *
      have b0:W3.cell? ⟨ge,0,none⟩=some (.int .i64 (n:Int)):=by
       obtain ⟨_,_,hE,_⟩:=hA3
       exact hE.1.four.1
      go_wp2
      clear b0
      go_loopw [78] (fun x wr=>∃j:Nat,j≤n∧x= .int .i64 j∧ElAt base w ge n (.slice (some ⟨go,0,none⟩) n co) (.slice (some ⟨gr,0,none⟩) n cr) (.slice (some ⟨gc,0,none⟩) n cc) G D rp cp (elQ rp cp a r c i j) (facQ rp a r c (i+1)) (2 * J) (.slice (some ⟨w.heap.size,0,none⟩) n n) wr∧Bk wr gm 48 [.bool (canF q).num.neg,.slice Am nm cm,.bool (canF q).den.neg,.slice Am' nm' cm']∧FracM wr (.agg #[.bool (canF q).num.neg,.slice Am nm cm,.bool (canF q).den.neg,.slice Am' nm' cm']) (canF q)) (fun x _=>n - (intOf x).toNat)
      case atStart=>exact ⟨0,by omega,rfl,hA3,hBm3,hmq3⟩
      case round=>
       clear hA3 hBm3 hmq3
       obtain ⟨j,hj,rfl,hA,hBm,hmq⟩:=hrel
       rcases Nat.lt_or_ge j n with hjl | hjl
       ·have HAJ:=Lib.hid hA
        obtain ⟨M,H,⟨hB,hM,hR,hC,_,_⟩,hT,hF,hH,hkb,hoth,hbe⟩:=hA
        have hjI:(j:Int) < n:=by omega
        obtain ⟨b0,b1,b2,b3⟩:=hB.four
        obtain ⟨zj,hzj⟩:=get_someI (l:=cp) (i:=j) (by rw [HL2.out];exact hjl)
        obtain ⟨k0,_,_,_⟩:=hC.at_ hzj
        have hzjD:=getD_of hzj
        have HBM:=Lib.hid hBm
        have HMQ:=Lib.hid hmq
        clear hBm hmq
        by_cases hz2:zj < 0
        ·have HZJ:Hid (cp.getD j 0 < 0):=Lib.hid (by rw [hzjD];exact hz2)
         have HTRJ:Hid (Tdy (M r j) (a r j)):=Lib.hid (by have:=hT r j hr hjl;rwa [elQ_row (by have:=HRP.out;omega)] at this)
         have HTIJ:Hid (Tdy (M i j) (a i j)):=Lib.hid (by have:=hT i j hil hjl;rwa [elQ_at] at this)
         obtain ⟨m2,_⟩:=hM.cellAt hr
         obtain ⟨A3,n3,c3,A4,n4,c4,⟨y0,y1,y2,y3⟩,hmr⟩:=hM.at_ hr hjl
         obtain ⟨r1,r2,r3,r4⟩:=hM.lt hr hpos
         unfold rowV at m2
         have HM:=Lib.hid hM
         have HB:=Lib.hid hB
         have hq3:qs (a r j)=0∨qs (a r j)=1∨qs (a r j)= -1:=by have:=qs_bd (a r j);omega
         clear hzj hzjD hkb hoth hbe hT hF hH hR hC hM hB
         by_cases hq0:qs (a r j)=0
         ·have HQ0:Hid (a r j=0):=Lib.hid (qs_zero.1 hq0)
          go_wp2_with fail
          refine (signF_any _ (M r j) _ hmr).mono ?_
          rw [HTRJ.out.q,hq0]
          rintro _ w2 ⟨rfl,hb2⟩
          have HA2:=Lib.hid (HAJ.out.below hb2 hb)
          have hBm2:=HBM.out.later hb2
          have hmq2:=HMQ.out.below hb2
          clear b0 b1 b2 b3 k0 m2 y0 y1 y2 y3 hmr hq3
          go_wp2
          go_roundw
          case rel=>exact ⟨j+1,by omega,by go_num,HA2.out.congr (fun s k hs hk=>elQ_pass (.inr HQ0.out)) fun s hs=>rfl,hBm2,hmq2⟩
          case measure=>simp [intOf];omega
         ·have hqe:(qs (a r j) !=0)=true:=by simpa using hq0
          clear hq3 hq0
          go_wp2_with fail
          refine (signF_any _ (M r j) _ hmr).mono ?_
          rw [HTRJ.out.q]
          rintro _ w2 ⟨rfl,hb2⟩
          have HA2:=Lib.hid (HAJ.out.below hb2 hb)
          have hBm:=HBM.out.later hb2
          have hmq:=HMQ.out.below hb2
          have hM:=HM.out.below hb2
          have hB:=HB.out.later hb2
          clear b0 b1 b2 b3 k0 m2 y0 y1 y2 y3 hmr hb2
          obtain ⟨_,b1,_,_⟩:=hB.four
          obtain ⟨m1,_⟩:=hM.cellAt hil
          obtain ⟨m2,_⟩:=hM.cellAt hr
          unfold rowV at m1 m2
          obtain ⟨l1,l2,l3,l4⟩:=hM.lt hil hpos
          obtain ⟨A1,n1,c1,A2,n2,c2,⟨x0,x1,x2,x3⟩,hmi⟩:=hM.at_ hil hjl
          obtain ⟨A3,n3,c3,A4,n4,c4,⟨y0,y1,y2,y3⟩,hmr⟩:=hM.at_ hr hjl
          obtain ⟨t0,t1,t2,t3⟩:=hBm.four
          obtain ⟨rj,hrj⟩:∃rj,rj=a r j:=⟨_,rfl⟩
          obtain ⟨aij,haij⟩:∃aij,aij=a i j:=⟨_,rfl⟩
          have HRJ0:=Lib.hid hrj
          have HIJ0:=Lib.hid haij
          have HRJ:Hid ((M r j).q=rj):=Lib.hid (by rw [HTRJ.out.q,hrj])
          have HIJ:Hid ((M i j).q=aij):=Lib.hid (by rw [HTIJ.out.q,haij])
          have szr:Sz J rj:=by rw [hrj];exact HJ.out r j hr hjl
          have hsi:(M i j).Sm:=(HTIJ.out.rs (HJ.out i j hil hjl)).sm (by omega)
          have hsr:(M r j).Sm:=(HTRJ.out.rs (HJ.out r j hr hjl)).sm (by omega)
          have hsq:(canF q).Sm:=HSQ.out.rs.sm (by omega)
          have szP:(canF (q * rj)).Sm:=(Sz_mul HSQ.out szr).rs.sm (by omega)
          clear hrj haij szr hB
          go_upto_region 12 with (fail)
          clear hqe
          have C0:=stab x0
          have C1:=stab x1
          have C2:=stab x2
          have C3:=stab x3
          have E0:=stab y0
          have E1:=stab y1
          have E2:=stab y2
          have E3:=stab y3
          have T0:=stab t0
          have T1:=stab t1
          have T2:=stab t2
          have T3:=stab t3
          have D0:=stab b1
          have D1:=stab m1
          have D2:=stab m2
          have hS0:=below_drew' w2
          clear x0 x1 x2 x3 y0 y1 y2 y3 t0 t1 t2 t3 b1 m1 m2
          refine region_seq 32 [0,1,2,3,4,5,6,7,8,9,10,11,12,13,14,15,16,17,18,19,20,21,22,23,24,25,26,27,28,29,30,31,32] (by kernel_rfl) (by kernel_rfl) ?_
          repeat ((first | (refine seq_takeP (v:=?_) rfl rfl rfl ?_ ?_;rotate_left;(· (intro _ hSw;go_simp;(try go_bits);(try with_reducible rfl)))) | (refine seq_take (v:=?_) rfl rfl rfl ?_ ?_;rotate_left;(· (intro _ hSw;go_simp;(try go_bits);(try with_reducible rfl)))) | refine seq_skip rfl rfl rfl ?_);(try simp only [Act.put,pu1,pu2,pu3,pu4,pu5,pu6]))
          refine seq_step rfl rfl (fun KR hKR=>?_)
          go_simp
          with_reducible refine (mulF_any _ _ (canF q) (M r j) _ (hmq.below hS0) (hmr.below hS0) hsq hsr).mono ?_
          rw [canF_q,HRJ.out]
          rintro _ w6 ⟨v6,rfl,e6,hb6⟩
          have hS6:=below_then hS0 hb6 hS0.size
          refine hKR.out _ _ (Or.inr hS6) ?_
          clear hKR KR
          (try simp only [Act.put,pu1,pu2,pu3,pu4,pu5,pu6])
          repeat ((first | (refine seq_takeP (v:=?_) rfl rfl rfl ?_ ?_;rotate_left;(· (intro _ hSw;go_simp;(try go_bits);(try with_reducible rfl)))) | (refine seq_take (v:=?_) rfl rfl rfl ?_ ?_;rotate_left;(· (intro _ hSw;go_simp;(try go_bits);(try with_reducible rfl)))) | refine seq_skip rfl rfl rfl ?_);(try simp only [Act.put,pu1,pu2,pu3,pu4,pu5,pu6]))
          refine seq_step rfl rfl (fun KR hKR=>?_)
          go_simp
          with_reducible refine (subF_any _ _ (M i j) (canF (q * rj)) _ (hmi.below hS6) e6 hsi szP).mono ?_
          rw [canF_q,HIJ.out]
          rintro _ w7 ⟨v7,rfl,e7,hb7⟩
          have hS7:=below_then hS6 hb7 hS6.size
          obtain ⟨B9,l9,k9,B9',l9',k9',rfl,_,_⟩:=id e7
          have hM7:=hM.below hS7
          obtain ⟨_,_,_,_,_,_,⟨c0,c1,c2,c3⟩,_⟩:=hM7.at_ hil hjl
          obtain ⟨f0,f1,f2,f3⟩:=hM7.frozen hil hjl
          refine hKR.out _ _ (Or.inr hS7) ?_
          clear hKR KR
          (try simp only [Act.put,pu1,pu2,pu3,pu4,pu5,pu6])
          repeat ((first | (refine seq_takeP (v:=?_) rfl rfl rfl ?_ ?_;rotate_left;(· (intro _ hSw;go_simp;(try go_bits);(try with_reducible rfl)))) | (refine seq_take (v:=?_) rfl rfl rfl ?_ ?_;rotate_left;(· (intro _ hSw;go_simp;(try go_bits);(try with_reducible rfl)))) | refine seq_skip rfl rfl rfl ?_);(try simp only [Act.put,pu1,pu2,pu3,pu4,pu5,pu6]))
          refine seq_step rfl rfl (fun KR hKR=>?_)
          go_simp
          refine hKR.out _ _ (Or.inl (by decide)) ?_
          clear hKR KR
          (try simp only [Act.put,pu1,pu2,pu3,pu4,pu5,pu6])
          refine seq_done ?_
          clear C0 C1 C2 C3 D0 D1 D2 E0 E1 E2 E3 T0 T1 T2 T3
          obtain ⟨_,hk8⟩:=hM7.set_ hil hjl e7
          have hA8:=(HA2.out.below hS7 hb).setM HGB.out hil hjl e7 (Q':=elQ rp cp a r c i (j+1)) (fun s k hs hk=>by rw [elQ_next HZI.out HZJ.out,HQ.out,HRJ0.out,HIJ0.out])
          have hBm8:=(others_set4 (w:=w7) (g:=G i) (i:=j * 4) (j:=j * 4+1) (k:=j * 4+2) (l:=j * 4+3) (x:= .bool (canF (aij - q * rj)).num.neg) (y:= .slice B9 l9 k9) (z:= .bool (canF (aij - q * rj)).den.neg) (u:= .slice B9' l9' k9')).bk (hBm.later hS7) (by intro e;injection e with e;have:=(HGB.out i hil).2;omega)
          have hmq8:=(hmq.below hS7).keep (hk8.keep (by decide))
          clear hM hM7 hBm hmq hmi hmr e6 e7 hb6 hb7 hS0 hS6 hS7
          go_wp2
          go_roundw
          case rel=>exact ⟨j+1,by omega,by go_num,hA8,hBm8,hmq8⟩
          case measure=>simp [intOf];omega
        ·have HZJ:Hid (¬cp.getD j 0 < 0):=Lib.hid (by rw [hzjD];exact hz2)
         have hz':0≤zj:=by omega
         clear hzj hzjD hkb hoth hbe hT hF hH hM hR hC hB hz2
         go_wp2
         go_roundw
         case rel=>exact ⟨j+1,by omega,by go_num,HAJ.out.congr (fun s k hs hk=>elQ_pass (.inl (by have:=HZJ.out;omega))) fun s hs=>rfl,HBM.out,HMQ.out⟩
         case measure=>simp [intOf];omega
       ·obtain rfl:n=j:=by omega
        go_wp2
        go_roundw
        case rel=>exact ⟨i+1,by omega,by go_num,hA.congr (fun s k hs hk=>elQ_done hk) fun s hs=>rfl⟩
        case measure=>simp [intOf];omega
   ·have HZI:Hid (¬rp.getD i 0 < 0):=Lib.hid (by rw [hziD];exact hz)
    have hz':0≤zi:=by omega
    clear hzi hziD hkb hoth hbe hT hF hH hM hR hC hB hz
    go_wp2
    go_roundw
    case rel=>exact ⟨i+1,by omega,by go_num,HA.out.congr (fun s k hs hk=>elQ_skip (.inl (by have:=HZI.out;omega)) hk) fun s hs=>facQ_skip (.inl (by have:=HZI.out;omega)) s⟩
    case measure=>simp [intOf];omega
  ·obtain rfl:n=i:=by omega
   go_wp2
   go_ret
   exact ⟨_,rfl,hA⟩
end
namespace Pl
def fillQ (cols:List (List En)) (k t:Nat):Mx:=fun i j=>if j < k then colQ (cols.getD j []) i else if j=k then colQ ((cols.getD k []).take t) i else 0
theorem fillQ_start (cols:List (List En)) (i j:Nat):fillQ cols 0 0 i j=0:=by
 unfold fillQ
 rw [if_neg (by omega)]
 split
 ·rfl
 ·rfl
theorem colQ_take {es:List En} {t i:Nat} {e:En} (h:Inc none es) (he:es[t]? =some e):colQ (es.take (t+1)) i=if e.idx=(i:Int) then e.f.q else colQ (es.take t) i:=by
 rw [List.take_add_one,he]
 unfold colQ
 simp only [Option.toList]
 rw [dQ_snoc]
theorem fillQ_next {cols:List (List En)} {k t i0 i j:Nat} {es:List En} {e:En} (hc:cols[k]? =some es) (hinc:Inc none es) (he:es[t]? =some e) (hi:e.idx=(i0:Int)):fillQ cols k (t+1) i j=if i=i0∧j=k then e.f.q else fillQ cols k t i j:=by
 have hg:cols.getD k []=es:=by simp [List.getD,hc]
 unfold fillQ
 by_cases e1:j < k
 ·rw [if_pos e1,if_pos e1,if_neg (by omega)]
 ·rw [if_neg e1,if_neg e1]
  by_cases e2:j=k
  ·rw [if_pos e2,if_pos e2,hg,colQ_take hinc he,hi]
   by_cases e3:i=i0
   ·rw [if_pos (by omega),if_pos ⟨e3,e2⟩]
   ·rw [if_neg (by omega),if_neg (by omega)]
  ·rw [if_neg e2,if_neg e2,if_neg (by omega)]
theorem fillQ_done {cols:List (List En)} {k i j:Nat} {es:List En} (hc:cols[k]? =some es):fillQ cols k es.length i j=fillQ cols (k+1) 0 i j:=by
 have hg:cols.getD k []=es:=by simp [List.getD,hc]
 unfold fillQ
 by_cases e1:j < k
 ·rw [if_pos e1,if_pos (by omega)]
 ·rw [if_neg e1]
  by_cases e2:j=k
  ·rw [if_pos e2,if_pos (by omega),hg,List.take_length,e2,hg]
  ·rw [if_neg e2,if_neg (by omega)]
   split
   ·rfl
   ·rfl
theorem fillQ_all {cols:List (List En)} {n i j:Nat} (hj:j < n):fillQ cols n 0 i j=colQ (cols.getD j []) i:=by unfold fillQ;rw [if_pos hj]
def posI (R:Nat→Nat) (i:Nat):Nat→Int
 | 0=> -1
 | s+1=>if R s=i then (s:Int) else posI R i s
def posL (n t:Nat) (R:Nat→Nat):List Int:=(List.range n).map fun i=>posI R i t
theorem posL_length {n t:Nat} {R:Nat→Nat}:(posL n t R).length=n:=by simp [posL]
theorem posL_get {n t i:Nat} {R:Nat→Nat} (h:i < n):(posL n t R)[i]? =some (posI R i t):=by simp [posL,h]
theorem posL_getD {n t i:Nat} {R:Nat→Nat} (h:i < n):(posL n t R).getD i 0=posI R i t:=getD_of (posL_get h)
theorem posI_neg {R:Nat→Nat} {i:Nat}:∀{t:Nat},posI R i t < 0↔∀s,s < t→R s≠i
 | 0=>⟨fun _ s h=>absurd h (by omega),fun _=>by unfold posI;omega⟩
 | t+1=>by
  unfold posI
  by_cases e:R t=i
  ·rw [if_pos e]
   exact ⟨fun h=>by omega,fun h=>absurd e (h t (by omega))⟩
  ·rw [if_neg e,posI_neg]
   exact ⟨fun h s hs=>by
    by_cases e2:s=t
    ·rw [e2];exact e
    ·exact h s (by omega),fun h s hs=>h s (by omega)⟩
theorem posI_at {R:Nat→Nat} {n s:Nat} (h:Inj n n R) (hs:s < n):posI R (R s) n=s:=by
 have key:∀t,s < t→t≤n→posI R (R s) t=s:=by
  intro t
  induction t with
  | zero=>intro h1;omega
  | succ t ih=>
   intro h1 h2
   unfold posI
   by_cases e:t=s
   ·subst e;rw [if_pos rfl]
   ·rw [if_neg fun g=>e (h.eq (by omega) hs g)];exact ih (by omega) (by omega)
 exact key n hs (Nat.le_refl _)
theorem posI_congr {R R':Nat→Nat} {i:Nat}:∀{t:Nat},(∀s,s < t→R s=R' s)→posI R i t=posI R' i t
 | 0,_=>rfl
 | t+1,h=>by unfold posI;rw [h t (by omega),posI_congr fun s hs=>h s (by omega)]
theorem posL_set {n t r:Nat} {R:Nat→Nat} (hf:∀s,s < t→R s≠r):(posL n t R).set r (t:Int)=posL n (t+1) (putN R t r):=by
 refine List.ext_getElem? fun i=>?_
 rcases Nat.lt_or_ge i n with e | e
 ·rw [posL_get e,List.getElem?_set]
  unfold posI
  rw [putN_new]
  by_cases g:r=i
  ·subst g;rw [if_pos rfl,if_pos (by rw [posL_length];exact e),if_pos rfl]
  ·rw [if_neg g,if_neg g,posL_get e,posI_congr (R':=putN R t r) fun s hs=>(putN_old hs).symm]
 ·rw [List.getElem?_eq_none (by rw [List.length_set,posL_length];exact e),List.getElem?_eq_none (by rw [posL_length];exact e)]
theorem posL_zero {n:Nat} {R:Nat→Nat}:posL n 0 R=List.replicate n (-1):=by
 refine List.ext_getElem? fun i=>?_
 rcases Nat.lt_or_ge i n with e | e
 ·rw [posL_get e];unfold posI;simp [e]
 ·rw [List.getElem?_eq_none (by rw [posL_length];exact e),List.getElem?_eq_none (by simp;exact e)]
theorem left_next {R:Nat→Nat} {n t r i:Nat} (hi:i < n):((posL n (t+1) (putN R t r)).getD i 0 < 0)↔((∀s,s < t→R s≠i)∧i≠r):=by
 rw [posL_getD hi,posI_neg]
 constructor
 ·intro h
  refine ⟨fun s hs=>?_,fun e=>?_⟩
  ·have:=h s (by omega);rwa [putN_old hs] at this
  ·have:=h t (by omega);rw [putN_new] at this;exact this e.symm
 ·rintro ⟨h1,h2⟩ s hs
  by_cases e:s=t
  ·rw [e,putN_new];exact fun g=>h2 g.symm
  ·rw [putN_old (by omega)];exact h1 s (by omega)
theorem lu_round {n t K:Nat} {A a:Mx} {R C:Nat→Nat} {m:Mx} (h:LuInv n t A a R C m) {r c:Nat} (hr:r < n) (hc:c < n) (hrf:∀s,s < t→R s≠r) (hcf:∀s,s < t→C s≠c) (hp:a r c≠0) (hK:1≤K) (hs:∀i j,i < n→j < n→Sz (5^t * K) (a i j)):
 LuInv n (t+1) A (elQ (posL n (t+1) (putN R t r)) (posL n (t+1) (putN C t c)) a r c n 0) (putN R t r) (putN C t c) (putN m t (facQ (posL n (t+1) (putN R t r)) a r c n))∧
 (∀i,i < n→Sz (2 * (5^t * K)) (facQ (posL n (t+1) (putN R t r)) a r c n i))∧
 ∀i j,i < n→j < n→Sz (5^(t+1) * K) (elQ (posL n (t+1) (putN R t r)) (posL n (t+1) (putN C t c)) a r c n 0 i j):=by
 have hmt:∀i,i < n→facQ (posL n (t+1) (putN R t r)) a r c n i=if (∀s,s < t→R s≠i)∧i≠r then a i c / a r c else 0:=fun i hi=>by
  unfold facQ
  by_cases e:(∀s,s < t→R s≠i)∧i≠r
  ·rw [if_pos e,if_pos ⟨hi,(left_next hi).2 e⟩]
  ·rw [if_neg e,if_neg fun g=>e ((left_next hi).1 g.2)]
 have hat:∀i j,i < n→j < n→elQ (posL n (t+1) (putN R t r)) (posL n (t+1) (putN C t c)) a r c n 0 i j=if ((∀s,s < t→R s≠i)∧i≠r)∧((∀s,s < t→C s≠j)∧j≠c) then a i j - facQ (posL n (t+1) (putN R t r)) a r c n i * a r j else a i j:=fun i j hi hj=>by
  unfold elQ
  by_cases e:((∀s,s < t→R s≠i)∧i≠r)∧((∀s,s < t→C s≠j)∧j≠c)
  ·rw [if_pos e,if_pos ⟨.inl hi,(left_next hi).2 e.1,(left_next hj).2 e.2⟩,hmt i hi,if_pos e.1]
  ·rw [if_neg e,if_neg fun g=>e ⟨(left_next hi).1 g.2.1,(left_next hj).1 g.2.2⟩]
 classical
 obtain ⟨b1,b2⟩:=elim_B (m':=putN m t (facQ (posL n (t+1) (putN R t r)) a r c n)) (t:=t) (P:=fun i=>(∀s,s < t→R s≠i)∧i≠r) (Q:=fun j=>(∀s,s < t→C s≠j)∧j≠c) hK hr hc hs (fun i hi=>by rw [putN_new,hmt i hi]) (a':=elQ (posL n (t+1) (putN R t r)) (posL n (t+1) (putN C t c)) a r c n 0) (fun i j hi hj=>by rw [hat i j hi hj,putN_new])
 refine ⟨h.step hr hc hrf hcf hp (fun s hs=>putN_old hs) putN_new (fun s hs=>putN_old hs) putN_new (fun s i hs=>by rw [putN_old hs]) (fun i hi=>by rw [putN_new];exact hmt i hi) (fun i j hi hj=>by rw [putN_new];exact hat i j hi hj),fun i hi=>?_,b2⟩
 have:=b1 i hi
 rwa [putN_new] at this
def lowP (R:Nat→Nat) (m:Mx) (t k:Nat):Nat→Rat:=fun p=>if p=t then 1 else if R p < k then m t (R p) else 0
theorem lowP_start {R:Nat→Nat} {m:Mx} {t:Nat} (p:Nat):lowP R m t 0 p=if p=t then 1 else 0:=by
 unfold lowP
 split
 ·rfl
 ·rw [if_neg (by omega)]
theorem lowP_skip {n:Nat} {R:Nat→Nat} {m:Mx} {t k p:Nat} (h0:m t k=0):lowP R m t k p=lowP R m t (k+1) p:=by
 unfold lowP
 split
 ·rfl
 ·by_cases e:R p=k
  ·rw [if_neg (by omega),if_pos (by omega),e,h0]
  ·by_cases e2:R p < k
   ·rw [if_pos e2,if_pos (by omega)]
   ·rw [if_neg e2,if_neg (by omega)]
theorem lowP_next {n:Nat} {R:Nat→Nat} {m:Mx} {t k p s:Nat} (h:Inj n n R) (ht:t < n) (hp:p < n) (hs:s < n) (hk:R s=k) (h0:m t k≠0) (hm0:m t (R t)=0):lowP R m t (k+1) p=if p=s then m t k else lowP R m t k p:=by
 have hst:s≠t:=fun e=>h0 (by rw [← hk,e];exact hm0)
 unfold lowP
 by_cases e:p=s
 ·subst e
  rw [if_pos rfl,if_neg hst,if_pos (by omega),hk]
 ·rw [if_neg e]
  split
  ·rfl
  ·have:R p≠k:=fun g=>e (h.eq hp hs (by rw [g,hk]))
   by_cases e2:R p < k
   ·rw [if_pos e2,if_pos (by omega)]
   ·rw [if_neg e2,if_neg (by omega)]
theorem lowP_all {n:Nat} {R:Nat→Nat} {m:Mx} {t p:Nat} (h:Inj n n R) (hp:p < n) (hm0:∀q,q≤t→m t (R q)=0):lowP R m t n p=luL R m t p:=by
 unfold lowP luL
 split
 ·rfl
 ·rw [if_pos (h.1 p hp)]
  split
  ·rfl
  ·exact hm0 p (by omega)
def upP (R C:Nat→Nat) (a:Mx) (t k:Nat):Nat→Rat:=fun s=>if s < k then a (R s) (C t) else 0
theorem upP_next {R C:Nat→Nat} {a:Mx} {t k:Nat} (s:Nat):upP R C a t (k+1) s=if s=k then a (R k) (C t) else upP R C a t k s:=by
 unfold upP
 by_cases e:s=k
 ·subst e;rw [if_pos rfl,if_pos (by omega)]
 ·rw [if_neg e]
  by_cases e2:s < k
  ·rw [if_pos e2,if_pos (by omega)]
  ·rw [if_neg e2,if_neg (by omega)]
theorem upP_all {R C:Nat→Nat} {a:Mx} {t:Nat} (s:Nat):upP R C a t (t+1) s=luU R C a t s:=by
 unfold upP luU
 by_cases e:s≤t
 ·rw [if_pos e,if_pos (by omega)]
 ·rw [if_neg e,if_neg (by omega)]
end Pl
end Go.Proofs.YtncmobkhenfhpaaGreat
