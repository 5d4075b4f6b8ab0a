/- Contracts that the claim is built on; no condition. -/
import Derived.Test.YtncmobkhenfhpaaGreatFn3
set_option linter.unusedVariables false
set_option linter.unusedSimpArgs false
set_option maxRecDepth 100000
set_option maxHeartbeats 40000000
namespace Go.Proofs.YtncmobkhenfhpaaGreat
open Go.RowKit
open Pl
attribute [local go_sem ↓] Go.wp_at_zero Go.wp_at_succ
namespace Pl
theorem findFrom_none {M:Mx} {c:Nat}:∀{n r:Nat},(∀s,r≤s→s < r+n→M s c=0)→XE M c r n=none
 | 0,_,_=>rfl
 | n+1,r,h=>by
  unfold XE
  rw [if_neg (by simpa using h r (Nat.le_refl _) (by omega))]
  exact findFrom_none fun s h1 h2=>h s (by omega) (by omega)
theorem findFrom_some {M:Mx} {c:Nat}:∀{n r t:Nat},r≤t→t < r+n→M t c≠0→(∀s,r≤s→s < t→M s c=0)→XE M c r n=some t
 | 0,r,t,h1,h2,_,_=>by omega
 | n+1,r,t,h1,h2,h3,h4=>by
  unfold XE
  rcases Nat.eq_or_lt_of_le h1 with e | e
  ·subst e;rw [if_pos h3]
  ·rw [if_neg (by simpa using h4 r (Nat.le_refl _) e)]
   exact findFrom_some (by omega) (by omega) h3 fun s h5 h6=>h4 s (by omega) h6
theorem findP_none {M:Mx} {k m:Nat} (h:∀s,k≤s→s < m→M s k=0):Zgl M k m=none:=findFrom_none fun s h1 h2=>h s h1 (by omega)
theorem findP_some {M:Mx} {k m t:Nat} (h1:k≤t) (h2:t < m) (h3:M t k≠0) (h4:∀s,k≤s→s < t→M s k=0):Zgl M k m=some t:=findFrom_some h1 (by omega) h3 h4
def updM (M:Mx) (r i:Nat) (q:Rat):Mx:=fun s c=>if s=r∧c=i then q else M s c
def elimTo (M:Mx) (k s i:Nat) (g:Rat):Mx:=fun r c=>if r=s∧k≤c∧c < i then M r c - g * M k c else M r c
theorem scaleTo_start (M:Mx) (k:Nat) (f:Rat):scaleTo M k k f=M:=by
 funext r c;unfold scaleTo;rw [if_neg (by omega)]
theorem scaleTo_next {M:Mx} {k i:Nat} {f:Rat} (h:k≤i):updM (scaleTo M k i f) k i (scaleTo M k i f k i / f)=scaleTo M k (i+1) f:=by
 funext r c;unfold updM scaleTo
 by_cases h1:r=k∧c=i
 ·obtain ⟨rfl,rfl⟩:=h1;rw [if_pos ⟨rfl,rfl⟩,if_neg (by omega),if_pos ⟨rfl,h,by omega⟩]
 ·rw [if_neg h1];by_cases h2:r=k∧k≤c∧c < i
  ·rw [if_pos h2,if_pos ⟨h2.1,h2.2.1,by omega⟩]
  ·rw [if_neg h2,if_neg (by omega)]
theorem elimTo_start (M:Mx) (k s:Nat) (g:Rat):elimTo M k s k g=M:=by
 funext r c;unfold elimTo;rw [if_neg (by omega)]
theorem elimTo_row {M:Mx} {k s i:Nat} {g:Rat} (h:s≠k) (c:Nat):elimTo M k s i g k c=M k c:=by
 unfold elimTo;rw [if_neg (by omega)]
theorem elimTo_next {M:Mx} {k s i:Nat} {g:Rat} (h:k≤i) (hs:s≠k):updM (elimTo M k s i g) s i (elimTo M k s i g s i - g * elimTo M k s i g k i)=elimTo M k s (i+1) g:=by
 funext r c
 rw [elimTo_row hs];unfold updM elimTo;by_cases h1:r=s∧c=i
 ·obtain ⟨rfl,rfl⟩:=h1;rw [if_pos ⟨rfl,rfl⟩,if_neg (by omega),if_pos ⟨rfl,h,by omega⟩]
 ·rw [if_neg h1];by_cases h2:r=s∧k≤c∧c < i
  ·rw [if_pos h2,if_pos ⟨h2.1,h2.2.1,by omega⟩]
  ·rw [if_neg h2,if_neg (by omega)]
theorem elimAll_start (M:Mx) (k m:Nat):Xa M k 0 m=M:=by
 funext r c;unfold Xa;rw [if_neg (by omega)]
theorem elimAll_at {M:Mx} {k s m:Nat} (c:Nat):Xa M k s m s c=M s c:=by
 unfold Xa;rw [if_neg (by omega)]
theorem elimAll_skip {M:Mx} {k s m:Nat} (h:s=k∨M s k=0):Xa M k s m=Xa M k (s+1) m:=by
 funext r c
 unfold Xa;by_cases h1:r≠k∧r < s∧k≤c∧c≤m
 ·rw [if_pos h1,if_pos ⟨h1.1,by omega,h1.2.2⟩]
 ·rw [if_neg h1];by_cases h2:r≠k∧r < s+1∧k≤c∧c≤m
  ·rw [if_pos h2];have:r=s:=by omega
   subst this;rcases h with h | h
   ·exact absurd h h2.1
   ·rw [h];grind
  ·rw [if_neg h2]
theorem elimAll_next {M:Mx} {k s m:Nat} (hs:s≠k):elimTo (Xa M k s m) k s (m+1) (Xa M k s m s k)=Xa M k (s+1) m:=by
 funext r c
 unfold elimTo;rw [Zct,elimAll_at];unfold Xa;by_cases h1:r=s∧k≤c∧c < m+1
 ·obtain ⟨rfl,h2,h3⟩:=h1;rw [if_pos ⟨rfl,h2,h3⟩,if_neg (by omega),if_pos ⟨hs,by omega,h2,by omega⟩]
 ·rw [if_neg h1];by_cases h2:r≠k∧r < s∧k≤c∧c≤m
  ·rw [if_pos h2,if_pos ⟨h2.1,by omega,h2.2.2⟩]
  ·rw [if_neg h2,if_neg (by omega)]
end Pl
def MatG (base:Nat) (w:World) (v:Value) (m n:Nat) (M:Mx) (G C:Nat→Nat):Prop:=
 w.ownsRow base 23 1 v m (Zpf m n G C)∧(∀r,r < m→Yi base w (U3 n G C r) (Yl n (M r)))∧∀r s,r < m→s < m→G r=G s→r=s
theorem MatG.below {base:Nat} {w w':World} {v:Value} {m n:Nat} {M:Mx} {G C:Nat→Nat} (h:MatG base w v m n M G C) (hb:Below w.heap.size w w'):MatG base w' v m n M G C:=
 ⟨own_below h.1 hb,fun r hr=>(h.2.1 r hr).below hb,h.2.2⟩
theorem MatG.nil (base:Nat) (w:World) (n:Nat) (M:Mx) (G C:Nat→Nat):MatG base w (.slice none 0 0) 0 n M G C:=
 ⟨World.ownsRow_nil _ _ _ _,fun r hr=>absurd hr (by omega),fun r s hr=>absurd hr (by omega)⟩
theorem MatG.lt {base:Nat} {w:World} {v:Value} {m n:Nat} {M:Mx} {G C:Nat→Nat} (h:MatG base w v m n M G C) {r:Nat} (hr:r < m) (hn:0 < n):base≤G r∧G r < w.heap.size∧n≤C r∧C r≤9223372036854775807:=by
 obtain ⟨g,c,hv,h1,h2,h3,h4⟩:=(h.2.1 r hr).shape (by rw [Zn];exact hn);rw [Zn] at hv h3;unfold U3 at hv;injection hv with e1 e2 e3;injection e1 with e1;injection e1 with e1;subst e1 e3;exact ⟨h1,h2,h3,h4⟩
theorem MatG.outer {base:Nat} {w:World} {v:Value} {m n:Nat} {M:Mx} {G C:Nat→Nat} (h:MatG base w v m n M G C) (hm:0 < m):
 ∃g c,v= .slice (some ⟨g,0,none⟩) m c∧base≤g∧g < w.heap.size∧m≤c∧c≤9223372036854775807∧∀r,r < m→w.cell? ⟨g,r,none⟩=some (U3 n G C r)∧w.frozen? ⟨g,r,none⟩=false:=by
 have h0:=h.1;rcases h.1.2 with ⟨rfl,e⟩ | ⟨g,cap,cur,rfl,hb,hg,hnc,hcm,hcs,htake⟩
 ·omega
 ·unfold maxLen at hcm;exact ⟨g,cap,rfl,hb,Yo hg,hnc,by omega,fun r hr=>ZP h0 (U4 hr)⟩
theorem MatG.shape {base:Nat} {w:World} {v:Value} {m n:Nat} {M:Mx} {G C:Nat→Nat} (h:MatG base w v m n M G C):∃A c,v= .slice A m c∧m≤c∧c≤9223372036854775807:=(Uq.of_own h.1).shape
theorem MatG.at_ {base:Nat} {w:World} {v:Value} {m n:Nat} {M:Mx} {G C:Nat→Nat} (h:MatG base w v m n M G C) {r c:Nat} (hr:r < m) (hc:c < n):
 ∃A1 n1 c1 A2 n2 c2,(w.cell? ⟨G r,c * 4,none⟩=some (.bool (canF (M r c)).num.neg)∧w.cell? ⟨G r,c * 4+1,none⟩=some (.slice A1 n1 c1)∧w.cell? ⟨G r,c * 4+2,none⟩=some (.bool (canF (M r c)).den.neg)∧w.cell? ⟨G r,c * 4+3,none⟩=some (.slice A2 n2 c2))∧Zv w (.agg #[.bool (canF (M r c)).num.neg,.slice A1 n1 c1,.bool (canF (M r c)).den.neg,.slice A2 n2 c2]) (canF (M r c)):=by
 obtain ⟨b,d,A1,n1,c1,A2,n2,c2,hA,_,a,hm⟩:=(h.2.1 r hr).frs.elem (Below.refl _ _) (ZC hc);injection hA with hA;injection hA with e1 e2;subst e1 e2;simp only [Nat.zero_add] at a;exact ⟨A1,n1,c1,A2,n2,c2,a,hm⟩
theorem MatG.frozen {base:Nat} {w:World} {v:Value} {m n:Nat} {M:Mx} {G C:Nat→Nat} (h:MatG base w v m n M G C) {r c:Nat} (hr:r < m) (hc:c < n):
 w.frozen? ⟨G r,c * 4,none⟩=false∧w.frozen? ⟨G r,c * 4+1,none⟩=false∧w.frozen? ⟨G r,c * 4+2,none⟩=false∧w.frozen? ⟨G r,c * 4+3,none⟩=false:=by
 obtain ⟨_,_,_,_,_,hf,_⟩:=(h.2.1 r hr).at_ (ZC hc);exact hf
theorem MatG.set_ {base:Nat} {w:World} {v:Value} {m n:Nat} {M:Mx} {G C:Nat→Nat} (h:MatG base w v m n M G C) {r c:Nat} (hr:r < m) (hc:c < n) {x y z u:Value} {q:Rat} (hf:Zv w (.agg #[x,y,z,u]) (canF q)):
 MatG base ((((w.setCell ⟨G r,c * 4,none⟩ x).setCell ⟨G r,c * 4+1,none⟩ y).setCell ⟨G r,c * 4+2,none⟩ z).setCell ⟨G r,c * 4+3,none⟩ u) v m n (updM M r c q) G C∧
 Zd 48 w ((((w.setCell ⟨G r,c * 4,none⟩ x).setCell ⟨G r,c * 4+1,none⟩ y).setCell ⟨G r,c * 4+2,none⟩ z).setCell ⟨G r,c * 4+3,none⟩ u):=by
 obtain ⟨hs,hk⟩:=Yi.set_ (h.2.1 r hr) (k:=c) (by rw [Zn];exact hc) hf;rw [Vh hc] at hs;refine ⟨⟨hk.own h.1 (by decide),fun s hs'=>?_,h.2.2⟩,hk⟩;by_cases e:s=r
 ·subst e;have:Yl n (updM M s c q s)=Yl n (fun i=>if i=c then q else M s i):=Z4 fun i _=>by
   unfold updM;by_cases e:i=c
   ·rw [if_pos ⟨rfl,e⟩,if_pos e]
   ·rw [if_neg (by omega),if_neg e]
  rw [this];exact hs
 ·have:Yl n (updM M r c q s)=Yl n (M s):=Z4 fun i _=>by unfold updM;rw [if_neg (by omega)]
  rw [this];refine (h.2.1 s hs').others Yg (hk.keep (by decide)) fun b hb hne=>?_
  simp [U3,Value.ownBlock] at hb;injection hne with hne;exact e (h.2.2 s r hs' hr (by omega))
def swapF (F:Nat→Nat) (k t:Nat):Nat→Nat:=fun r=>if r=k then F t else if r=t then F k else F r
theorem MatG.swap {base:Nat} {w:World} {m n:Nat} {M:Mx} {G C:Nat→Nat} {g c:Nat} (h:MatG base w (.slice (some ⟨g,0,none⟩) m c) m n M G C) {k t:Nat} (hk:k < m) (ht:t < m):
 MatG base ((w.setCell ⟨g,k,none⟩ (U3 n G C t)).setCell ⟨g,t,none⟩ (U3 n G C k)) (.slice (some ⟨g,0,none⟩) m c) m n (swapM M k t) (swapF G k t) (swapF C k t)∧
 Zd 23 w ((w.setCell ⟨g,k,none⟩ (U3 n G C t)).setCell ⟨g,t,none⟩ (U3 n G C k)):=by
 have o1:=Xy h.1 k (U3 n G C t) (by rw [Zjg];exact hk);have o2:=Xy o1 t (U3 n G C k) (by rw [List.length_set,Zjg];exact ht);obtain ⟨_,b0,_⟩:=Yb h.1;obtain ⟨_,b1,_⟩:=Yb o1;have kp:=(Zd.setCell b0 k (U3 n G C t)).trans (Zd.setCell b1 t (U3 n G C k));have b:∀r,U3 n (swapF G k t) (swapF C k t) r=if r=k then U3 n G C t else if r=t then U3 n G C k else U3 n G C r:=fun r=>by
  unfold U3 swapF;by_cases e:r=k
  ·simp only [if_pos e]
  ·simp only [if_neg e];by_cases e2:r=t
   ·simp only [if_pos e2]
   ·simp only [if_neg e2]
 refine ⟨⟨?_,fun r hr=>?_,fun r s hr hs e=>?_⟩,kp⟩
 ·have:((Zpf m n G C).set k (U3 n G C t)).set t (U3 n G C k)=Zpf m n (swapF G k t) (swapF C k t):=by
   apply List.ext_getElem?;intro i;rcases Nat.lt_or_ge i m with hi | hi
   ·rw [U4 hi,b,List.getElem?_set,List.getElem?_set];simp only [List.length_set,Zjg];by_cases e1:t=i
    ·subst e1;rw [if_pos rfl,if_pos ht];by_cases e2:t=k
     ·subst e2;rw [if_pos rfl]
     ·rw [if_neg e2,if_pos rfl]
    ·rw [if_neg e1];by_cases e2:k=i
     ·subst e2;rw [if_pos rfl,if_pos hk,if_pos rfl]
     ·rw [if_neg e2,if_neg (fun h=>e2 h.symm),if_neg (fun h=>e1 h.symm),U4 hi]
   ·rw [List.getElem?_eq_none (by simp [Zjg];exact hi),List.getElem?_eq_none (by rw [Zjg];exact hi)]
  rw [← this];exact o2
 ·rw [b];unfold swapM;split
  ·exact (h.2.1 t ht).but kp (by decide) (by decide)
  ·split
   ·exact (h.2.1 k hk).but kp (by decide) (by decide)
   ·exact (h.2.1 r hr).but kp (by decide) (by decide)
 ·have d:∀a,a < m→∃a',a' < m∧swapF G k t a=G a'∧((a=k∧a'=t)∨(a≠k∧a=t∧a'=k)∨(a≠k∧a≠t∧a'=a)):=fun a ha=>by
   unfold swapF;by_cases e1:a=k
   ·exact ⟨t,ht,by rw [if_pos e1],.inl ⟨e1,rfl⟩⟩
   ·by_cases e2:a=t
    ·exact ⟨k,hk,by rw [if_neg e1,if_pos e2],.inr (.inl ⟨e1,e2,rfl⟩)⟩
    ·exact ⟨a,ha,by rw [if_neg e1,if_neg e2],.inr (.inr ⟨e1,e2,rfl⟩)⟩
  obtain ⟨r',f,er,cr⟩:=d r hr;obtain ⟨s',j,es,cs⟩:=d s hs;rw [er,es] at e;have:=h.2.2 _ _ f j e;omega
theorem MatG.cellAt {base:Nat} {w:World} {m n:Nat} {M:Mx} {G C:Nat→Nat} {g c:Nat} (h:MatG base w (.slice (some ⟨g,0,none⟩) m c) m n M G C) {r:Nat} (hr:r < m):w.cell? ⟨g,r,none⟩=some (U3 n G C r)∧w.frozen? ⟨g,r,none⟩=false:=ZP h.1 (U4 hr)
theorem MatG.swap1 {base:Nat} {w:World} {m n:Nat} {M:Mx} {G C:Nat→Nat} {g c:Nat} (h:MatG base w (.slice (some ⟨g,0,none⟩) m c) m n M G C) {k t:Nat} {u:Value} (ht:t < m):∃y,(w.setCell ⟨g,k,none⟩ u).cell? ⟨g,t,none⟩=some y∧(w.setCell ⟨g,k,none⟩ u).frozen? ⟨g,t,none⟩=false:=by
 rcases Nat.lt_or_ge k m with hk | hk
 ·have o1:=Xy h.1 k u (by rw [Zjg];exact hk);obtain ⟨y,hy⟩:∃y,((Zpf m n G C).set k u)[t]? =some y:=⟨_,List.getElem?_eq_getElem (by rw [List.length_set,Zjg];exact ht)⟩;exact ⟨y,ZP o1 hy⟩
 ·obtain ⟨a,b0,_⟩:=Yb h.1;have hb:=heap_setCell_same w g k a 23 u b0;obtain ⟨c0,_⟩:=h.cellAt ht;rw [cell_of_row w g t a _ _ b0] at c0;have b:t < a.size:=by
   rcases Nat.lt_or_ge t a.size with h9 | h9
   ·exact h9
   ·rw [Array.getElem?_eq_none (by omega)] at c0;cases c0
  refine ⟨(a.setIfInBounds k u)[t]'(by simpa using b),?_,frozen_of_row _ g t _ _ hb⟩;rw [cell_of_row _ g t _ _ _ hb];exact Array.getElem?_eq_getElem (by simpa using b)
def ColsM (w:World) (v:Value) (m n:Nat) (M:Mx):Prop:=∃vs:Nat→Value,Uq w 23 1 v m ((List.range m).map vs)∧∀k,k < m→WL w (vs k) (Yl n (M k))
theorem ColsM.shape {w:World} {v:Value} {m n:Nat} {M:Mx} (h:ColsM w v m n M):∃A c,v= .slice A m c∧m≤c∧c≤9223372036854775807:=by
 obtain ⟨vs,h1,h2⟩:=h;exact h1.shape
theorem ColsM.at_ {w w0:World} {A:Option Addr} {m n c:Nat} {M:Mx} (h0:ColsM w0 (.slice A m c) m n M) (hb0:Below w0.heap.size w0 w) {k:Nat} (hk:k < m) {r:Nat} (hr:r < n):
 ∃b off B cB b' off' A1 n1 c1 A2 n2 c2,A=some ⟨b,off,none⟩∧b < w0.heap.size∧w.cell? ⟨b,off+k,none⟩=some (.slice (some ⟨b',off',none⟩) n cB)∧n≤cB∧cB≤9223372036854775807∧B=(some ⟨b',off',none⟩:Option Addr)∧
 (w.cell? ⟨b',off'+r * 4,none⟩=some (.bool (canF (M k r)).num.neg)∧w.cell? ⟨b',off'+r * 4+1,none⟩=some (.slice A1 n1 c1)∧w.cell? ⟨b',off'+r * 4+2,none⟩=some (.bool (canF (M k r)).den.neg)∧w.cell? ⟨b',off'+r * 4+3,none⟩=some (.slice A2 n2 c2))∧Zv w (.agg #[.bool (canF (M k r)).num.neg,.slice A1 n1 c1,.bool (canF (M k r)).den.neg,.slice A2 n2 c2]) (canF (M k r)):=by
 obtain ⟨vs,h1,h2⟩:=h0;obtain ⟨b,off,hA,d,hc⟩:=h1.at_ (by omega);obtain ⟨B,cB,hv,a,e⟩:=(h2 k hk).shape;rw [Zn] at hv a;have h3:=h2 k hk;rw [hv] at h3;obtain ⟨b',off',A1,n1,c1,A2,n2,c2,f,_,h4,hm⟩:=h3.elem hb0 (ZC hr);subst f;refine ⟨b,off,_,cB,b',off',A1,n1,c1,A2,n2,c2,hA,d,?_,a,e,rfl,h4,hm⟩;have:=hc k (vs k) (by simp [hk]);rw [← hv];exact cell_later hb0 this
theorem wpList_append_slice {ops:Array Oper} {rest:List Oper} {o:Oper} {a:Act} {Q:Exit→Act→World→Prop} (hgd:o.guard=none) (s x:Operand)
 (ho:o.op= .call { callee:= .builtin .append,args:=#[s,x],argTypes:=#[118,118] })
 (W:World) (base:Nat) (v:Value) (m:Nat) (xs:List Value) (hs:a.eval s=v) (hown:W.ownsRow base 23 1 v m xs) (A:Option Addr) (n c:Nat)
 (hx:a.eval x= .slice (some ⟨W.heap.size,0,none⟩) 1 1) (hn:m+1≤1099511627776) (hbase:base≤W.heap.size)
 (h:∀v' w',w'.ownsRow base 23 1 v' (m+1) (xs++[.slice A n c])→Zd 23 W w'→Below base W w'→wpList Tryz.prog ops Q rest (a.put o.dst v') w'):
 wpList Tryz.prog ops Q (o::rest) a (W.alloc (.cells #[.slice A n c] 23)):=by
 obtain ⟨i0,hi,b,d,e⟩:=info_parts info_rowT;exact WM hgd s x 118 ho 23 i0 _ 1 24 Tryz.underlying118 hi b d e rfl (by decide) W base v m xs [.slice A n c] hs hown hx rfl (by intro u hu;simp at hu;subst hu;rfl) (by unfold maxLen;omega) (by omega) hbase h
def ColsO (base:Nat) (w:World) (v:Value) (m n:Nat) (M:Mx):Prop:=∃vs:Nat→Value,w.ownsRow base 23 1 v m ((List.range m).map vs)∧∀k,k < m→WL w (vs k) (Yl n (M k))
theorem ColsO.cols {base:Nat} {w:World} {v:Value} {m n:Nat} {M:Mx} (h:ColsO base w v m n M):ColsM w v m n M:=by
 obtain ⟨vs,h1,h2⟩:=h;exact ⟨vs,Uq.of_own h1,h2⟩
theorem ColsO.nil (base:Nat) (w:World) (n:Nat) (M:Mx):ColsO base w (.slice none 0 0) 0 n M:=⟨fun _=> .slice none 0 0,World.ownsRow_nil _ _ _ _,fun k hk=>absurd hk (by omega)⟩
theorem ColsO.below {base:Nat} {w w':World} {v:Value} {m n:Nat} {M:Mx} (h:ColsO base w v m n M) (hb:Below w.heap.size w w'):ColsO base w' v m n M:=by
 obtain ⟨vs,h1,h2⟩:=h;exact ⟨vs,own_below h1 hb,fun k hk=>(h2 k hk).below hb⟩
theorem seq_append_cols {ops:Array Oper} {Q:Exit→Act→World→Prop} {S:World→Prop} {q:Nat} {i:Nat} {is:List Nat} {o:Oper} {a:Act} (hoi:ops[i]? =some o) (hfl:YH ops q i=false) (hgd:o.guard=none) (hl0:q≤i) (s x:Operand)
 (ho:o.op= .call { callee:= .builtin .append,args:=#[s,x],argTypes:=#[118,118] })
 (W:World) (base:Nat) (v:Value) (m n:Nat) (M:Mx) (hs:a.eval s=v) (hown:ColsO base W v m n M) (A:Option Addr) (l c:Nat) (hf:WL W (.slice A l c) (Yl n (M m)))
 (hx:a.eval x= .slice (some ⟨W.heap.size,0,none⟩) 1 1) (hn:m+1≤1099511627776) (hbase:base≤W.heap.size)
 (h:∀v' w',ColsO base w' v' (m+1) n M→Zd 23 W w'→Below base W w'→Xe Tryz.prog ops Q S q is (a.put o.dst v') w'):
 Xe Tryz.prog ops Q S q (i::is) a (W.alloc (.cells #[.slice A l c] 23)):=by
 obtain ⟨vs,h1,h2⟩:=hown;obtain ⟨i0,hi,b,d,f⟩:=info_parts info_rowT;refine Uf hoi hfl hgd hl0 s x 118 ho 23 i0 _ 1 24 Tryz.underlying118 hi b d f rfl (by decide) W base v m _ [.slice A l c] hs h1 hx rfl (by intro u hu;simp at hu;subst hu;rfl) (by unfold maxLen;omega) (by omega) hbase fun v' w' g1 g2 g3=>h v' w' ⟨fun k=>if k=m then .slice A l c else vs k,?_,fun k hk=>?_⟩ g2 g3
 ·rw [List.range_succ,List.map_append];have:(List.range m).map (fun k=>if k=m then Value.slice A l c else vs k)=(List.range m).map vs:=List.map_congr_left fun k hk=>by
   have:k < m:=List.mem_range.1 hk;rw [if_neg (by omega)]
  rw [this];simpa using g1
 ·by_cases e:k=m
  ·subst e;simp only [if_true];exact hf.but g2 (by decide) (by decide)
  ·simp only [if_neg e];exact (h2 k (by omega)).but g2 (by decide) (by decide)
theorem wpList_append_mat {ops:Array Oper} {rest:List Oper} {o:Oper} {a:Act} {Q:Exit→Act→World→Prop} (hgd:o.guard=none) (s x:Operand)
 (ho:o.op= .call { callee:= .builtin .append,args:=#[s,x],argTypes:=#[118,118] })
 (W:World) (base:Nat) (v:Value) (m n:Nat) (M:Mx) (G C:Nat→Nat) (hs:a.eval s=v) (hown:MatG base W v m n M G C) (g c:Nat) (hf:Yi base W (.slice (some ⟨g,0,none⟩) n c) (Yl n (M m))) (hne:∀r,r < m→G r≠g)
 (hx:a.eval x= .slice (some ⟨W.heap.size,0,none⟩) 1 1) (hn:m+1≤1099511627776) (hbase:base≤W.heap.size)
 (h:∀v' w',MatG base w' v' (m+1) n M (fun r=>if r=m then g else G r) (fun r=>if r=m then c else C r)→Zd 23 W w'→Below base W w'→wpList Tryz.prog ops Q rest (a.put o.dst v') w'):
 wpList Tryz.prog ops Q (o::rest) a (W.alloc (.cells #[.slice (some ⟨g,0,none⟩) n c] 23)):=by
 obtain ⟨h1,h2,h3⟩:=hown;have b:∀r,U3 n (fun r=>if r=m then g else G r) (fun r=>if r=m then c else C r) r=if r=m then .slice (some ⟨g,0,none⟩) n c else U3 n G C r:=fun r=>by
  unfold U3;by_cases e:r=m
  ·simp only [if_pos e]
  ·simp only [if_neg e]
 refine wpList_append_slice hgd s x ho W base v m _ hs h1 _ n c hx hn hbase fun v' w' g1 g2 g3=>h v' w' ⟨?_,fun r hr=>?_,fun r t hr ht e=>?_⟩ g2 g3
 ·have:Zpf (m+1) n (fun r=>if r=m then g else G r) (fun r=>if r=m then c else C r)=Zpf m n G C++[.slice (some ⟨g,0,none⟩) n c]:=by
   unfold Zpf;rw [List.range_succ,List.map_append];have e1:(List.range m).map (U3 n (fun r=>if r=m then g else G r) (fun r=>if r=m then c else C r))=(List.range m).map (U3 n G C):=List.map_congr_left fun k hk=>by
    have:k < m:=List.mem_range.1 hk;rw [b,if_neg (by omega)]
   rw [e1,List.map_cons,b,if_pos rfl,List.map_nil]
  rw [this];exact g1
 ·rw [b];split
  ·rename_i e;subst e;exact hf.but g2 (by decide) (by decide)
  ·exact (h2 r (by omega)).but g2 (by decide) (by decide)
 ·by_cases e1:r=m <;> by_cases e2:t=m
  ·omega
  ·simp only [if_pos e1,if_neg e2] at e;exact absurd e.symm (hne t (by omega))
  ·simp only [if_neg e1,if_pos e2] at e;exact absurd e (hne r (by omega))
  ·simp only [if_neg e1,if_neg e2] at e;exact h3 r t (by omega) (by omega) e
theorem rcolumn_neg (v:Value) (p:LPd) (K r:Nat) (w:World) (h:LpM w v p) (ok:p.Ok K) (hK:K≤34359738368) (hr:r < p.right.length) (hm:p.right.length≤64):
 Calls Tryz.prog 44 #[v,.int .i64 (-1 - (r:Int))] w fun e w'=>∃v',e= .returned v'∧Yi w.heap.size w' v' (Yl p.right.length (p.col (-1 - (r:Int))))∧Below w.heap.size w w':=by
 obtain ⟨A,n,c,A',n',c',a0,a,a1,rfl,hc,hv,J⟩:=id h;obtain ⟨W,hW,hX,l⟩:=UV w (.slice A n c) (.slice A' n' c') (.slice a0 a a1);obtain ⟨x0,x1,x2⟩:=hX.three;obtain ⟨r1,r2,r3⟩:=J.len;obtain ⟨f,hf⟩:=Yt (fs:=p.right) (i:=r) hr;have Y:=(ok.2.1 r f hf).sh hK;have HQ:=Lib.hid (Yv hf);have F:Hid (p.col (-1 - (r:Int))=fun i=>if i=r then (if qs (qAt p.right i) < 0 then -1 else 1) else 0):=Lib.hid LPd.col_neg;have HF:=Lib.hid hf;rw [← r1];have d:r < a:=by omega
 have ab:(r:Int) < a:=by omega
 have aa:a≤64:=by omega
 generalize hj: -1 - (r:Int)=j at *;have ac:j < 0:=by omega
 have ad: -1 - j=(r:Int):=by omega
 clear hf hm r1 hr ok hc hv h hj;go_enter Tryz.func44,Tryz.ntmps44;go_wp2_with fail;clear hW;refine (zeros_own a _ (by omega)).mono ?_;rw [canL_zero];rintro _ w1 ⟨v1,rfl,e1,o⟩;obtain ⟨g,cg,rfl,ae,af,a2,ag⟩:=e1.shape (by rw [Zn];omega);rw [Zn] at e1 a2 ⊢;go_wp2_with fail;refine (XT 1 _ (by omega) (by omega)).mono ?_;rw [show ((1:Int):Rat)=1 from rfl];rintro _ w2 ⟨v2,rfl,e2,s⟩;have u:=e1.below s;have x:=e2.frac;generalize D:canF 1=q1 at *;obtain ⟨E,l9,k9,E',L,M,rfl,_,_⟩:=id x;obtain ⟨_,_,_,_,⟨N,O,P,R⟩,⟨f0,f1,f2,f3⟩,_⟩:=u.at_ (ZC d)
 go_upto_region 6 with (fail)
 obtain ⟨B,S⟩:=u.set_ (k:=r) (by rw [Zn];exact d) x;rw [← D,Vh d,D] at B;have t:=Za o s o.size;have m:=ZA (Za l t l.size) (show w.heap.size≤g by have:=l.size;omega) (r * 4) (r * 4+1) (r * 4+2) (r * 4+3) (.bool q1.num.neg) (.slice E l9 k9) (.bool q1.den.neg) (.slice E' L M);have G:=S.bk ((hX.later o).later s) (by decide);clear N O P R f0 f1 f2 f3 S u e1 o s t e2 x x0 x1 x2 hX D;generalize (((w2.setCell ⟨g,r * 4,none⟩ (.bool q1.num.neg)).setCell ⟨g,r * 4+1,none⟩ (.slice E l9 k9)).setCell ⟨g,r * 4+2,none⟩ (.bool q1.den.neg)).setCell ⟨g,r * 4+3,none⟩ (.slice E' L M)=W3 at *;obtain ⟨x0,x1,x2⟩:=G.three;obtain ⟨b,ah,B1,n1,k1,B2,n2,k2,rfl,ai,⟨a3,a4,a5,a6⟩,T⟩:=J.elem m HF.out;go_wp2_with fail;refine (rsignF_any _ f _ T Y).mono ?_;rintro _ w4 ⟨rfl,C⟩;have y:=B.below C;have z:=Za m C m.size;clear a3 a4 a5 a6 T x0 x1 x2 G B m C;by_cases hq:qs f.q < 0
 ·have HC:Hid (∀i,i < a→(if i=r then (-1:Rat) else if i=r then 1 else 0)=p.col j i):=Lib.hid fun i _=>by
   rw [F.out];by_cases e:i=r
   ·simp only [if_pos e];rw [e,HQ.out,if_pos hq]
   ·simp only [if_neg e]
  go_wp2_with fail;refine (XT (-1) _ (by omega) (by omega)).mono ?_;rw [show ((-1:Int):Rat)= -1 from rfl];rintro _ w6 ⟨v6,rfl,e6,V⟩;have H:=y.below V;have I:=e6.frac;generalize X:canF (-1)=q6 at *;obtain ⟨E6,l6,k6,a7,a8,a9,rfl,_,_⟩:=id I;obtain ⟨_,_,_,_,⟨N,O,P,R⟩,⟨f0,f1,f2,f3⟩,_⟩:=H.at_ (ZC d);go_wp2;obtain ⟨U,aj⟩:=H.set_ (k:=r) (by rw [Zn];exact d) I;rw [← X,Vh d,X,Z4 HC.out] at U;have Z:=ZA (Za z V z.size) (show w.heap.size≤g by have:=l.size;omega) (r * 4) (r * 4+1) (r * 4+2) (r * 4+3) (.bool q6.num.neg) (.slice E6 l6 k6) (.bool q6.den.neg) (.slice a7 a8 a9);go_ret;obtain ⟨cs,ho,hf⟩:=U;exact ⟨_,rfl,⟨cs,Vi ho l.size,hf⟩,Z⟩
 ·have HC:Hid (∀i,i < a→(if i=r then (1:Rat) else 0)=p.col j i):=Lib.hid fun i _=>by
   rw [F.out];by_cases e:i=r
   ·simp only [if_pos e];rw [e,HQ.out,if_neg hq]
   ·simp only [if_neg e]
  go_wp2;go_ret;rw [Z4 HC.out] at y;obtain ⟨cs,ho,hf⟩:=y;exact ⟨_,rfl,⟨cs,Vi ho l.size,hf⟩,z⟩
theorem rcolumn_any (v:Value) (p:LPd) (K:Nat) (j:Int) (w:World) (h:LpM w v p) (ok:p.Ok K) (hK:K≤34359738368) (hin:p.In) (hj0: -(p.right.length:Int)≤j) (hj1:j < p.cols.length) (hm:p.right.length≤64):
 Calls Tryz.prog 44 #[v,.int .i64 j] w fun e w'=>∃v',e= .returned v'∧Yi w.heap.size w' v' (Yl p.right.length (p.col j))∧Below w.heap.size w w':=by
 rcases Int.lt_or_le j 0 with h0 | h0
 ·obtain ⟨r,rfl⟩:∃r:Nat,j= -1 - (r:Int):=⟨(-1 - j).toNat,by omega⟩;exact rcolumn_neg v p K r w h ok hK (by omega) hm
 ·obtain ⟨r,rfl⟩:=Int.eq_ofNat_of_zero_le h0;exact rcolumn_pos v p K r w h ok hK hin (by omega) hm
theorem rmatrix_own (v1 v2:Value) (p:LPd) (s:LSt) (K:Nat) (w:World) (h:LpM w v1 p) (h2:StM w v2 s) (ok:p.Ok K) (hK:K≤34359738368) (hin:p.In) (hs:s.In p) (hm:p.right.length≤64) (hl:s.basis.length≤1000):
 Calls Tryz.prog 97 #[v1,v2] w fun e w'=>∃v',e= .returned v'∧ColsM w' v' s.basis.length p.right.length (s.mat p)∧Below w.heap.size w w':=by
 obtain ⟨A,n,c,A',n',c',q,r,t,rfl,hc,hv,hr⟩:=id h;obtain ⟨Ab,nb,cb,rfl,hI⟩:=id h2;obtain ⟨W,hW,x,f⟩:=UV w (.slice A n c) (.slice A' n' c') (.slice q r t);obtain ⟨W1,L,b,g⟩:=Vu W (.int .i64 s.phase) (.slice Ab nb cb) (.int .i64 s.pivots);have hX:=x.later g;have a:=Za f g f.size;obtain ⟨b1,b2,b3⟩:=hI.len;have C:W.heap.size=w.heap.size+1:=by rw [← hW];simp
 rw [C] at b;have D:=Lib.hid h;have E:=Lib.hid ok;have F:=Lib.hid hin;have G:=Lib.hid hs;have N:=Lib.hid b1;rw [← b1];have O:nb≤1000:=by omega
 have HI:=Lib.hid hI;obtain ⟨x0,x1,x2⟩:=hX.three;obtain ⟨y0,y1,y2⟩:=b.three;clear h h2 ok hin hs hc hv hr b1 hl hI x f g;go_enter Tryz.func97,Tryz.ntmps97;go_wp2;clear hW L x0 x1 x2 y0 y1 y2
 go_loopw [5,6] (fun u i wr=>∃k:Nat,k≤nb∧i= .int .i64 k∧Below w.heap.size w wr∧Bk wr w.heap.size 26 [.slice A n c,.slice A' n' c',.slice q r t]∧Bk wr (w.heap.size+1) 29 [.int .i64 s.phase,.slice Ab nb cb,.int .i64 s.pivots]∧ColsO w.heap.size wr u k p.right.length (s.mat p)) (fun _ i _=>nb - (intOf i).toNat)
 case atStart=>exact ⟨0,by omega,rfl,a,hX,b,ColsO.nil _ _ _ _⟩
 case round=>
  clear a hX b;obtain ⟨k,hk,rfl,a,hX,hS,hO⟩:=hrel;obtain ⟨x0,x1,x2⟩:=hX.three;obtain ⟨y0,y1,y2⟩:=hS.three;rcases Nat.lt_or_ge k nb with hkl | hkl
  ·obtain ⟨bb,bo,z,rfl,hz,j,z0,z1⟩:=(HI.out.below a).at_ hkl;have HZ:Hid (s.mat p k=p.col z):=Lib.hid (by unfold LSt.mat;rw [LSt.at_eq j]);obtain ⟨i0,i1⟩:=G.out k z j;have P:(k:Int) < nb:=(by omega);clear j;go_wp2_with fail;have C0:=Zm x0;have C1:=Zm x1;have C2:=Zm x2;have D1:=Zm y1;have E1:=Zm hz;have b:=Ze wr;clear x0 x1 x2 y0 y1 y2 hz;refine Zo 8 [0,1,2,3,4,5,6,7,8,9,10] (by kernel_rfl) (by kernel_rfl) ?_;repeat ((first | (refine Zc (v:=?_) rfl rfl rfl ?_ ?_;rotate_left;(· (intro _ M;go_simp;(try go_bits);(try with_reducible rfl)))) | (refine Zg (v:=?_) rfl rfl rfl ?_ ?_;rotate_left;(· (intro _ M;go_simp;(try go_bits);(try with_reducible rfl)))) | refine Zh rfl rfl rfl ?_);(try simp only [Act.put,pu1,pu2,pu3,pu4,pu5,pu6]))
   refine Zf rfl rfl (fun KR hKR=>?_);go_simp;(with_reducible refine (rcolumn_any _ p K z _ ((D.out.below a).below b) E.out hK F.out i0 i1 hm).mono ?_);rw [← HZ.out];rintro _ w5 ⟨v5,rfl,e5,y⟩;have d:=Za b y b.size;obtain ⟨Ae,ce,rfl,_,_⟩:=e5.frs.shape;have HF:=Lib.hid e5.frs;have HO:=Lib.hid (hO.below d);have H:w.heap.size≤w5.heap.size:=(by have:=a.size;have:=d.size;omega);clear e5;refine hKR.out _ _ (Or.inr d) ?_;clear hKR KR;(try simp only [Act.put,pu1,pu2,pu3,pu4,pu5,pu6]);refine Zf rfl rfl (fun KR hKR=>?_);go_simp;refine hKR.out _ _ (Or.inl (by decide)) ?_;clear hKR KR;(try simp only [Act.put,pu1,pu2,pu3,pu4,pu5,pu6]);refine seq_append_cols rfl rfl rfl (by decide) (.tmp 14) (.tmp 22) rfl w5 w.heap.size u5 k p.right.length (s.mat p) rfl HO.out Ae _ ce HF.out rfl (by omega) H ?_;intro v' w6 l m B;(try simp only [Act.put,pu1,pu2,pu3,pu4,pu5,pu6]);refine Zf rfl rfl (fun KR hKR=>?_);go_simp;refine hKR.out _ _ (Or.inl (by decide)) ?_;clear hKR KR;(try simp only [Act.put,pu1,pu2,pu3,pu4,pu5,pu6]);refine Zy ?_;have I:=m.bk (hX.later d) (by decide);have J:=m.bk (hS.later d) (by decide);have o:=(Za a d a.size).trans B;clear C0 C1 C2 D1 E1 hX hS a b d y hO HO HF m B;go_wp2;go_roundw
   case rel=>exact ⟨k+1,by omega,by go_num,o,I,J,l⟩
   case measure=>simp [intOf];omega
  ·obtain rfl:k=nb:=by omega
   go_wp2;go_ret;exact ⟨_,rfl,hO.cols,a⟩
end Go.Proofs.YtncmobkhenfhpaaGreat
