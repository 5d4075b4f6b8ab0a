/- Lemmas of the claim; no condition. -/
import Derived.Test.YtidgdpkcloaheaaGreatQ12
set_option linter.all false
set_option maxRecDepth 100000
set_option maxHeartbeats 40000000
namespace Go.Proofs.YtidgdpkcloaheaaGreat
open Go.RowKit
open Pl
attribute [local go_sem ↓] Go.wp_at_zero Go.wp_at_succ
def Zk [Old] (e:TypeId) (w w':World):Prop:=∀(b:Nat) (cs:Array Value) (t:TypeId) (fz:Nat × Nat),(t≠e∨b < Old.n)→w.heap[b]? =some (.cells cs t fz)→w'.heap[b]? =some (.cells cs t fz)
theorem Zk.keep [Old] {e:TypeId} {w w':World} (h:Zk e w w') (he:106≠e):ZE w w':=fun b cs t fz ht hb=>h b cs t fz (ht.elim (fun e1=>Or.inl (e1▸he)) Or.inr) hb
theorem Zk.bk [Old] {e:TypeId} {w w':World} {g:Nat} {t:TypeId} {cs:List Value} (h:Zk e w w') (hb:Bk w g t cs) (ht:t≠e):Bk w' g t cs:=h g _ t _ (Or.inl ht) hb
theorem Zk.own [Old] {e:TypeId} {w w':World} {base:Nat} {t:TypeId} {s n:Nat} {v:Value} {xs:List Value} (h:Zk e w w') (ho:w.ownsRow base t s v n xs) (ht:t≠e):w'.ownsRow base t s v n xs:=by
 refine ⟨ho.1,?_⟩;rcases ho.2 with hn | ⟨g,cap,cur,rfl,hb',hgg,rest⟩
 ·exact .inl hn
 ·exact .inr ⟨g,cap,cur,rfl,hb',h g _ t _ (Or.inl ht) hgg,rest⟩
theorem Zk.row [Old] {e:TypeId} {w w':World} {t:TypeId} {s n:Nat} {v:Value} {xs:List Value} (h:Zk e w w') (hr:X9 w t s v n xs) (ht:t≠e):X9 w' t s v n xs:=by
 obtain ⟨A,c,h1,h2,h3,h4,h5⟩:=hr;refine ⟨A,c,h1,h2,h3,h4,fun hp=>?_⟩;obtain ⟨b,d,cs,t',fz,hA,a,hc,hx⟩:=h5 hp;exact ⟨b,d,cs,t',fz,hA,a,h b cs t' fz (a.elim (fun e1=>Or.inl (e1▸ht)) Or.inr) hc,hx⟩
theorem Zk.trans [Old] {e:TypeId} {a b c:World} (h:Zk e a b) (k:Zk e b c):Zk e a c:=fun x cs t fz ht hx=>k x cs t fz ht (h x cs t fz ht hx)
theorem Zk.alloc [Old] (e:TypeId) (w:World) (o:Obj):Zk e w (w.alloc o):=fun b _ _ _ _ hb=>(Below.heap_alloc w o b (Ye hb)).trans hb
theorem Zk.setCell [Old] {w:World} {g:Nat} {cs:Array Value} {e:TypeId} {fz:Nat × Nat} (h:w.heap[g]? =some (.cells cs e fz)) (i:Nat) (u:Value) (hg:Old.n≤g:=by first | assumption | exact Nat.zero_le _ | omega | ((first | with_reducible refine Zb.le ?_ | with_reducible refine Zb.le1 ?_ | with_reducible refine Zb.le2 ?_ | with_reducible refine Zb.le3 ?_);repeat (first | assumption | exact Zb.up (by assumption) hOl | exact Zb.up (Hid.out (by assumption)) hOl | with_reducible refine Zb.set ?_ _ _ | with_reducible refine Zb.mk_ ?_ _ | with_reducible refine Zb.dr ?_ | with_reducible refine Zb.drN ?_ | refine Zb.up (by assumption) ?_ | refine Zb.up (Hid.out (by assumption)) ?_))):Zk e w (w.setCell ⟨g,i,none⟩ u):=by
 intro b c t d ht hb;have a:b≠g:=by
  rintro rfl;rw [h] at hb;injection hb with hb;injection hb with _ h2 _;rcases ht with e1 | e1
  ·exact e1 h2.symm
  ·omega
 rw [heap_setCell_other w _ _ _ a];exact hb
theorem Zbo [Old] (ty t e:TypeId) (i:TypeInfo) (z:Value) (size bytes:Nat) (ht:Tryz.prog.underlying t=some (.slice e)) (hi:Tryz.prog.info? e=some i) (hz:i.zero=some z)
 (hsize:i.size=size) (hby:i.bytes=bytes) (hzs:z.cells.size=size) (hsz:0 < size) (W:World) (base:Nat) (v:Value) (n:Nat) (xs news:List Value) (hown:W.ownsRow base e size v n xs)
 (hl:news.length=size) (h1:∀u∈news,u.oneCell'=true) (hn:n+1≤maxLen) (hb:(n+1) * bytes≤140737488355328) (hbase:base≤W.heap.size) (hO:Old.n≤base:=by first | assumption | exact Nat.zero_le _ | omega | ((first | with_reducible refine Zb.le ?_ | with_reducible refine Zb.le1 ?_ | with_reducible refine Zb.le2 ?_ | with_reducible refine Zb.le3 ?_);repeat (first | assumption | exact Zb.up (by assumption) hOl | exact Zb.up (Hid.out (by assumption)) hOl | with_reducible refine Zb.set ?_ _ _ | with_reducible refine Zb.mk_ ?_ _ | with_reducible refine Zb.dr ?_ | with_reducible refine Zb.drN ?_ | refine Zb.up (by assumption) ?_ | refine Zb.up (Hid.out (by assumption)) ?_))):
 ∃v' w',(Builtin.append_ #[t,t] ty #[v,.slice (some ⟨W.heap.size,0,none⟩) 1 1]).run Tryz.prog (W.alloc (.cells news.toArray e))= .ok v' w'∧w'.ownsRow base e size v' (n+1) (xs++news)∧Zk e W w'∧Below base W w':=by
 have a:Bk (W.alloc (.cells news.toArray e)) W.heap.size e news:=Bk.new W e news;obtain ⟨v',w',c,h2,h3,_,_⟩:=run_append_own_at (P:=Tryz.prog) (W.alloc (.cells news.toArray e)) base t ty e i z size bytes ht hi hz hsize hby hzs hsz v n xs (hown.alloc _) ⟨W.heap.size,0,none⟩ 1 1 news (by omega) (fun j u hj=>by rw [addr_add,Nat.zero_add,a.cell];exact hj) h1 hn hb (by simp;omega);refine ⟨v',w',c,h2,?_,?_⟩
 ·intro b cs t' fz f hc;have d:=Ye hc;refine (h3.block b (by simp;omega) ?_).trans ((Below.heap_alloc W _ b d).trans hc);intro e1;rcases hown.2 with ⟨rfl,_⟩ | ⟨g,cap,cur,rfl,hbg,hg,_⟩
  ·simp [Value.ownBlock] at e1
  ·simp [Value.ownBlock] at e1;subst e1;rw [hg] at hc;injection hc with hc;injection hc with _ h2 _;rcases f with e2 | e2
   ·exact e2 h2.symm
   ·omega
 ·refine ((JR _ _).alloc hbase _).grown h3 (by simp;omega) (fun k hk=>?_);exact (hown.lt k hk).1
 where
  addr_add (g j:Nat):(⟨g,0,none⟩:Addr).add j=⟨g,0+j,none⟩:=by
   unfold Addr.add;split
   ·rename_i h;subst h;rfl
   ·rfl
theorem UC [Old] {ops:Array Oper} {rest:List Oper} {o:Oper} {a:Act} {Q:Exit→Act→World→Prop} (hgd:o.guard=none) (s x:Operand) (t:TypeId)
 (ho:o.op= .call { callee:= .builtin .append,args:=#[s,x],argTypes:=#[t,t] })
 (e:TypeId) (i:TypeInfo) (z:Value) (size bytes:Nat) (ht:Tryz.prog.underlying t=some (.slice e)) (hi:Tryz.prog.info? e=some i) (hz:i.zero=some z)
 (hsize:i.size=size) (hby:i.bytes=bytes) (hzs:z.cells.size=size) (hsz:0 < size) (W:World) (base:Nat) (v:Value) (n:Nat) (xs news:List Value) (hs:a.eval s=v) (hown:W.ownsRow base e size v n xs)
 (hx:a.eval x= .slice (some ⟨W.heap.size,0,none⟩) 1 1) (hl:news.length=size) (h1:∀u∈news,u.oneCell'=true) (hn:n+1≤maxLen) (hb:(n+1) * bytes≤140737488355328) (hbase:base≤W.heap.size)
 (h:∀v' w',w'.ownsRow base e size v' (n+1) (xs++news)→Zk e W w'→Below base W w'→wpList Tryz.prog ops Q rest (a.put o.dst v') w') (hO:Old.n≤base:=by first | assumption | exact Nat.zero_le _ | omega | ((first | with_reducible refine Zb.le ?_ | with_reducible refine Zb.le1 ?_ | with_reducible refine Zb.le2 ?_ | with_reducible refine Zb.le3 ?_);repeat (first | assumption | exact Zb.up (by assumption) hOl | exact Zb.up (Hid.out (by assumption)) hOl | with_reducible refine Zb.set ?_ _ _ | with_reducible refine Zb.mk_ ?_ _ | with_reducible refine Zb.dr ?_ | with_reducible refine Zb.drN ?_ | refine Zb.up (by assumption) ?_ | refine Zb.up (Hid.out (by assumption)) ?_))):
 wpList Tryz.prog ops Q (o::rest) a (W.alloc (.cells news.toArray e)):=by
 refine wpList_plain hgd fun K hK=>?_
 obtain ⟨v',w',hr,h2,h3,h4⟩:=Zbo o.type t e i z size bytes ht hi hz hsize hby hzs hsz W base v n xs news hown hl h1 hn hb hbase;unfold Oper.wp execOp;simp only [ho,resolve,invoke,builtin,Sem.run_bind,Sem.run_pure,Result.andThen_ok,List.map_toArray,List.map_cons,List.map_nil,hs,hx,hr];exact hK _ _ (h v' w' h2 h3 h4)
theorem YJ {w:World} {base:Nat} {e:TypeId} {size n c g:Nat} {xs:List Value} (h:w.ownsRow base e size (.slice (some ⟨g,0,none⟩) n c) n xs) (j:Nat) (u:Value) (hj:j < xs.length):
 (w.setCell ⟨g,j,none⟩ u).ownsRow base e size (.slice (some ⟨g,0,none⟩) n c) n (xs.set j u):=by
 refine ⟨by rw [List.length_set];exact h.1,?_⟩;rcases h.2 with ⟨h0,_⟩ | ⟨g',cap,cur,hv,hb,hg,hnc,hcm,hcs,htake⟩
 ·injection h0 with h0;cases h0
 ·injection hv with e1 e2 e3;injection e1 with e1;injection e1 with e1;subst e1 e3;refine .inr ⟨g,c,cur.setIfInBounds j u,rfl,hb,?_,hnc,hcm,by simpa using hcs,?_⟩
  ·rw [heap_setCell_same w g j _ e u hg]
  ·rw [Array.toList_setIfInBounds,List.take_set,htake]
theorem Zw {w:World} {base:Nat} {e:TypeId} {size n c g:Nat} {xs:List Value} (h:w.ownsRow base e size (.slice (some ⟨g,0,none⟩) n c) n xs) {j:Nat} {u:Value} (hj:xs[j]? =some u):w.cell? ⟨g,j,none⟩=some u∧w.frozen? ⟨g,j,none⟩=false:=by
 rcases h.2 with ⟨h0,_⟩ | ⟨g',cap,cur,hv,hb,hg,hnc,hcm,hcs,htake⟩
 ·injection h0 with h0;cases h0
 ·injection hv with e1 e2 e3;injection e1 with e1;injection e1 with e1;subst e1 e3;refine ⟨?_,frozen_of_row w g j _ _ hg⟩;rw [cell_of_row w g j _ _ _ hg];rw [← htake,List.getElem?_take] at hj;split at hj
  ·simpa using hj
  ·cases hj
theorem ZI {w:World} {base:Nat} {e:TypeId} {size n c g:Nat} {xs:List Value} (h:w.ownsRow base e size (.slice (some ⟨g,0,none⟩) n c) n xs):∃cur,w.heap[g]? =some (.cells cur e (0,0))∧base≤g:=by
 rcases h.2 with ⟨h0,_⟩ | ⟨g',cap,cur,hv,hb,hg,hnc,hcm,hcs,htake⟩
 ·injection h0 with h0;cases h0
 ·injection hv with e1 e2 e3;injection e1 with e1;injection e1 with e1;subst e1;exact ⟨cur,hg,hb⟩
theorem YL.shape [Old] {base:Nat} {w:World} {v:Value} {fs:List RF} (h:YL base w v fs) (hp:0 < fs.length):∃g c,v= .slice (some ⟨g,0,none⟩) fs.length c∧base≤g∧g < w.heap.size∧fs.length≤c∧c≤9223372036854775807:=by
 obtain ⟨cs,h1,h2⟩:=h;rcases h1.2 with ⟨rfl,h0⟩ | ⟨g,cap,cur,rfl,hb,hg,hnc,hcm,hcs,htake⟩
 ·have:=h2.1;rw [h0] at this;simp at this;omega
 ·unfold maxLen at hcm;exact ⟨g,cap,rfl,hb,Ye hg,hnc,by omega⟩
theorem YL.at_ [Old] {base:Nat} {w:World} {g n c:Nat} {fs:List RF} (h:YL base w (.slice (some ⟨g,0,none⟩) n c) fs) {k:Nat} {f:RF} (hf:fs[k]? =some f):
 ∃x y z u,(w.cell? ⟨g,k * 4,none⟩=some x∧w.cell? ⟨g,k * 4+1,none⟩=some y∧w.cell? ⟨g,k * 4+2,none⟩=some z∧w.cell? ⟨g,k * 4+3,none⟩=some u)∧(w.frozen? ⟨g,k * 4,none⟩=false∧w.frozen? ⟨g,k * 4+1,none⟩=false∧w.frozen? ⟨g,k * 4+2,none⟩=false∧w.frozen? ⟨g,k * 4+3,none⟩=false)∧Zm w (.agg #[x,y,z,u]) f:=by
 obtain ⟨cs,h1,h2⟩:=h;have hn:n=fs.length:=(X9.of_own h1).len;subst hn;obtain ⟨x,y,z,u,c1,c2,c3,c4,hm⟩:=h2.2 k f hf;exact ⟨x,y,z,u,⟨(Zw h1 c1).1,(Zw h1 c2).1,(Zw h1 c3).1,(Zw h1 c4).1⟩,⟨(Zw h1 c1).2,(Zw h1 c2).2,(Zw h1 c3).2,(Zw h1 c4).2⟩,hm⟩
theorem YL.set_ [Old] {base:Nat} {w:World} {g n c:Nat} {fs:List RF} (h:YL base w (.slice (some ⟨g,0,none⟩) n c) fs) {k:Nat} (hk:k < fs.length) {x y z u:Value} {f:RF} (hf:Zm w (.agg #[x,y,z,u]) f) (hO:Old.n≤base:=by first | assumption | exact Nat.zero_le _ | omega | ((first | with_reducible refine Zb.le ?_ | with_reducible refine Zb.le1 ?_ | with_reducible refine Zb.le2 ?_ | with_reducible refine Zb.le3 ?_);repeat (first | assumption | exact Zb.up (by assumption) hOl | exact Zb.up (Hid.out (by assumption)) hOl | with_reducible refine Zb.set ?_ _ _ | with_reducible refine Zb.mk_ ?_ _ | with_reducible refine Zb.dr ?_ | with_reducible refine Zb.drN ?_ | refine Zb.up (by assumption) ?_ | refine Zb.up (Hid.out (by assumption)) ?_))):
 YL base ((((w.setCell ⟨g,k * 4,none⟩ x).setCell ⟨g,k * 4+1,none⟩ y).setCell ⟨g,k * 4+2,none⟩ z).setCell ⟨g,k * 4+3,none⟩ u) (.slice (some ⟨g,0,none⟩) n c) (fs.set k f)∧
 Zk 36 w ((((w.setCell ⟨g,k * 4,none⟩ x).setCell ⟨g,k * 4+1,none⟩ y).setCell ⟨g,k * 4+2,none⟩ z).setCell ⟨g,k * 4+3,none⟩ u):=by
 obtain ⟨cs,h1,h2⟩:=h;have hn:n=fs.length:=(X9.of_own h1).len;subst hn;have hl:=h2.1;have o1:=YJ h1 (k * 4) x (by omega);have o2:=YJ o1 (k * 4+1) y (by simp;omega);have o3:=YJ o2 (k * 4+2) z (by simp;omega);have o4:=YJ o3 (k * 4+3) u (by simp;omega);obtain ⟨_,b0,a⟩:=ZI h1;have b:Old.n≤g:=JW hO a;obtain ⟨_,b1,_⟩:=ZI o1;obtain ⟨_,b2,_⟩:=ZI o2;obtain ⟨_,b3,_⟩:=ZI o3;have kp:=(((Zk.setCell b0 (k * 4) x).trans (Zk.setCell b1 (k * 4+1) y)).trans (Zk.setCell b2 (k * 4+2) z)).trans (Zk.setCell b3 (k * 4+3) u);have kd:=kp.keep (by decide);refine ⟨⟨Zjs cs (k * 4) x y z u,by rw [List.length_set];exact o4,?_⟩,kp⟩;exact (h2.keep kd).set_ hk (hf.keep kd)
namespace Pl
theorem Zqf {q:Rat}:qs q=0↔q=0:=by
 unfold qs;rw [Wj];exact Rat.num_eq_zero
theorem Zmx {n d m k:Int} (hk:k≠0):Rat.divInt (n * k) (d * m)=Rat.divInt n d / Rat.divInt m k:=by
 rw [Rat.div_def,Rat.inv_divInt,Rat.divInt_mul_divInt]
theorem Ztr {n d m k:Int} {p q:Rat} (h:okq n d p) (g:okq m k q) (hq:q≠0):(-4611686018427387904≤n * k∧n * k≤4611686018427387904)∧(-4611686018427387904≤d * m∧d * m≤4611686018427387904)∧((0 < m∧0 < d * m)∨(m < 0∧d * m < 0))∧Rat.divInt (n * k) (d * m)=p / q∧Rat.divInt (-(n * k)) (-(d * m))=p / q:=by
 obtain ⟨⟨a1,a2⟩,a3,a4,rfl⟩:=h;obtain ⟨⟨b1,b2⟩,b3,b4,rfl⟩:=g;have hm:m≠0:=fun e=>hq (by rw [e,Rat.zero_divInt])
 have e1:Rat.divInt (n * k) (d * m)=Rat.divInt n d / Rat.divInt m k:=Zmx (by omega);refine ⟨prod_bd1 (by omega) (by omega) (by omega) (by omega),prod_bd1 (by omega) (by omega) (by omega) (by omega),?_,e1,?_⟩
 ·rcases Int.lt_or_le m 0 with c | c
  ·right;exact ⟨c,Int.mul_neg_of_pos_of_neg a3 c⟩
  ·left;exact ⟨by omega,Int.mul_pos a3 (by omega)⟩
 ·rw [← e1,Rat.neg_divInt_neg]
 where
  prod_bd1 {x y:Int} (h1: -2147483648≤x) (h2:x≤2147483648) (h3: -2147483648≤y) (h4:y≤2147483648): -4611686018427387904≤x * y∧x * y≤4611686018427387904:=by
   have e:(x * y).natAbs≤2147483648 * 2147483648:=(by rw [Int.natAbs_mul];exact Nat.mul_le_mul (by omega) (by omega));omega
end Pl
theorem Zgt [Old] {w w2:World} {m g:Nat} {x y z u b s b' s' er:Value} {a:RF} (hR:Bk w2 g 36 [x,y,z,u]) (d:Zm w2 (.agg #[b,s,b',s']) a) (hbe:Below m w w2) (hg:m≤g) (hO:Old.n≤m:=by first | assumption | exact Nat.zero_le _ | omega | ((first | with_reducible refine Zb.le ?_ | with_reducible refine Zb.le1 ?_ | with_reducible refine Zb.le2 ?_ | with_reducible refine Zb.le3 ?_);repeat (first | assumption | exact Zb.up (by assumption) hOl | exact Zb.up (Hid.out (by assumption)) hOl | with_reducible refine Zb.set ?_ _ _ | with_reducible refine Zb.mk_ ?_ _ | with_reducible refine Zb.dr ?_ | with_reducible refine Zb.drN ?_ | refine Zb.up (by assumption) ?_ | refine Zb.up (Hid.out (by assumption)) ?_))):
 ∃v',Ending.returned (.tuple #[.agg [b,s,b',s'].toArray,er])= .returned (.tuple #[v',er])∧Zm ((((w2.setCell ⟨g,0,none⟩ b).setCell ⟨g,1,none⟩ s).setCell ⟨g,2,none⟩ b').setCell ⟨g,3,none⟩ s') v' a∧Below m w ((((w2.setCell ⟨g,0,none⟩ b).setCell ⟨g,1,none⟩ s).setCell ⟨g,2,none⟩ b').setCell ⟨g,3,none⟩ s'):=
 ⟨_,rfl,d.keep (hR.keep4 (by decide) _ _ _ _),Z5 hbe hg _ _ _ _⟩
theorem UX [Old] (v1 v2:Value) (a b:RF) (w:World) (h1:Zm w v1 a) (h2:Zm w v2 b) (hs:a.Sm) (hs2:b.Sm) (hb0:b.q≠0) (hOl:Zb w:=by (repeat (first | assumption | exact Zb.up (by assumption) hOl | exact Zb.up (Hid.out (by assumption)) hOl | with_reducible refine Zb.set ?_ _ _ | with_reducible refine Zb.mk_ ?_ _ | with_reducible refine Zb.dr ?_ | with_reducible refine Zb.drN ?_ | refine Zb.up (by assumption) ?_ | refine Zb.up (Hid.out (by assumption)) ?_))):
 Calls Tryz.prog 59 #[v1,v2] w fun e w'=>∃v',e= .returned (.tuple #[v',.int .i64 0])∧Zm w' v' (canF (a.q / b.q))∧Below w.heap.size w w':=by
 have b8:=hOl.le;obtain ⟨A,n,c,A',n',c',rfl,hd,aw⟩:=id h1;obtain ⟨B,m,d,B',m',d',rfl,ke,ax⟩:=id h2;obtain ⟨W,hW,hX,hY,hR,p⟩:=Zee w (.bool a.num.neg) (.slice A n c) (.bool a.den.neg) (.slice A' n' c') (.bool b.num.neg) (.slice B m d) (.bool b.den.neg) (.slice B' m' d');have e1:=h1.below p;have e2:=h2.below p;obtain ⟨p1,p2,p3,p4⟩:=hX.four;obtain ⟨r1,r2,r3,r4⟩:=hY.four;have S:=JZ hb0;have aj:(qs b.q==0)=false:=by simpa using fun e=>hb0 (Zqf.1 e)
 clear h1 h2 hd aw ke ax hb0;go_enter Tryz.func59,Tryz.ntmps59;go_wp2_with fail;clear hW;refine (Yd _ b _ e2).mono ?_;rintro e w0 ⟨rfl,hb0⟩;replace hX:=hX.later hb0;replace hY:=hY.later hb0;replace hR:=hR.later hb0;replace p:=Za p hb0 p.size;replace e1:=e1.below hb0;replace e2:=e2.below hb0;clear p1 p2 p3 p4 r1 r2 r3 r4 hb0;obtain ⟨p1,p2,p3,p4⟩:=hX.four;obtain ⟨r1,r2,r3,r4⟩:=hY.four;go_wp2_with fail;refine (VV _ _ a b _ e1 e2).mono ?_;rintro e w1 ⟨x,y,z,u,ok,rfl,hq,t⟩;have HQ:=JZ hq;have T:=hX.later t;have U:=hY.later t;have V:=hR.later t;have E:=Za p t p.size;have X:=e1.below t;have Y:=e2.below t;clear hq hX hY hR p e1 e2 t p1 p2 p3 p4 r1 r2 r3 r4 aj;obtain ⟨W2,M,bW,bV,bn⟩:=Zhs w1 x y z u;have Z:=T.later bn;have a0:=U.later bn;have r:=V.later bn;have h:=Za E bn E.size;have a1:=X.below bn;have a2:=Y.below bn;clear T U V E X Y bn
 cases ok
 ·obtain ⟨p1,p2,p3,p4⟩:=Z.four;clear HQ;go_wp2_with fail;clear M;refine (Xr _ a _ a1 hs).mono ?_;rintro e w3 ⟨v1,v2,N,D,rfl,iN,iD,hD,ad,sN,sD,k⟩;have HD:=JZ hD;have ak:=JZ ad;obtain ⟨A3,n3,k3,rfl,_⟩:=iN.shape;obtain ⟨A4,n4,k4,rfl,_⟩:=iD.shape;obtain ⟨W3,ay,bN,bD,bn⟩:=boxes w3 (.bool N.neg) (.slice A3 n3 k3) (.bool D.neg) (.slice A4 n4 k4);have s:=Za k bn k.size;have a3:=a0.later s;have i:=r.later s;have F:=Za h s h.size;have a4:=a2.below s;have a5:=iN.below bn;have a6:=iD.below bn;clear hD ad Z a0 r h a1 a2 k s bn iN iD p1 p2 p3 p4 bW bV hs;obtain ⟨r1,r2,r3,r4⟩:=a3.four;go_wp2_with fail;clear ay;refine (Xr _ b _ a4 hs2).mono ?_;rintro e w5 ⟨v1,v2,N',D',rfl,jN,jD,ae,af,ag,ah,R⟩;have al:=JZ ae;have a7:=JZ af;obtain ⟨A5,n5,k5,rfl,_⟩:=jN.shape;obtain ⟨A6,n6,k6,rfl,_⟩:=jD.shape;obtain ⟨W5,az,b0,b5,bn⟩:=boxes w5 (.bool N'.neg) (.slice A5 n5 k5) (.bool D'.neg) (.slice A6 n6 k6);have j:=Za R bn R.size;have am:=bN.later j;have an:=bD.later j;have ao:=i.later j;have J:=Za F j F.size;have ap:=a5.below j;have aq:=a6.below j;have ar:=jN.below bn;have au:=jD.below bn;clear ae af a3 i F a4 R j bn jN jD r1 r2 r3 r4 bN bD a5 a6 hs2;obtain ⟨x0,x1,_,_⟩:=am.two;obtain ⟨y0,y1,_,_⟩:=an.two;obtain ⟨a9,aa,_,_⟩:=b0.two;obtain ⟨ab,ac,_,_⟩:=b5.two;have av:Hid ((canI (D.z * N'.z)).z≠0):=JZ (by
   rw [Zx];intro e;rcases Int.mul_eq_zero.1 e with g | g
   ·have:=HD.out;omega
   ·exact S.out (by rw [← a7.out,g,Rat.zero_divInt]))
  go_upto_region 11 with (fail)
  clear az;have C0:=Zr x0;have C1:=Zr x1;have C2:=Zr y0;have C3:=Zr y1;have D0:=Zr a9;have D1:=Zr aa;have D2:=Zr ab;have D3:=Zr ac;have H:Below W5.heap.size W5 W5.drew:=(JR _ _).drew;clear x0 x1 y0 y1 a9 aa ab ac;refine Zt 7 [0,1,3,4,2,5,6,7,8] (by kernel_rfl) (by kernel_rfl) ?_;repeat ((first | (refine Zc (v:=?_) rfl rfl rfl ?_ ?_;rotate_left;(· (intro _ o;go_simp;(try go_bits);(try with_reducible rfl)))) | (refine Ze (v:=?_) rfl rfl rfl ?_ ?_;rotate_left;(· (intro _ o;go_simp;(try go_bits);(try with_reducible rfl)))) | refine Zf rfl rfl rfl ?_);(try simp only [Act.put,pu1,pu2,pu3,pu4,pu5,pu6]))
  refine Zg rfl rfl (fun KR hKR=>?_);go_simp;with_reducible refine (Xm _ _ N D' _ (ap.below H) (au.below H) (RI.Sm.two sN ah)).mono ?_
  rintro _ w6 ⟨v6,rfl,e6,b6⟩;have G:=Za H b6 H.size;refine hKR.out _ _ (Or.inr G) ?_;clear hKR KR;(try simp only [Act.put,pu1,pu2,pu3,pu4,pu5,pu6]);repeat ((first | (refine Zc (v:=?_) rfl rfl rfl ?_ ?_;rotate_left;(· (intro _ o;go_simp;(try go_bits);(try with_reducible rfl)))) | (refine Ze (v:=?_) rfl rfl rfl ?_ ?_;rotate_left;(· (intro _ o;go_simp;(try go_bits);(try with_reducible rfl)))) | refine Zf rfl rfl rfl ?_);(try simp only [Act.put,pu1,pu2,pu3,pu4,pu5,pu6]))
  refine Zg rfl rfl (fun KR hKR=>?_);go_simp;with_reducible refine (Xm _ _ D N' _ (aq.below G) (ar.below G) (RI.Sm.two sD ag)).mono ?_
  rintro _ w7 ⟨v7,rfl,e7,ai⟩;have K:=Za G ai G.size;refine hKR.out _ _ (Or.inr K) ?_;clear hKR KR;(try simp only [Act.put,pu1,pu2,pu3,pu4,pu5,pu6]);repeat ((first | (refine Zc (v:=?_) rfl rfl rfl ?_ ?_;rotate_left;(· (intro _ o;go_simp;(try go_bits);(try with_reducible rfl)))) | (refine Ze (v:=?_) rfl rfl rfl ?_ ?_;rotate_left;(· (intro _ o;go_simp;(try go_bits);(try with_reducible rfl)))) | refine Zf rfl rfl rfl ?_);(try simp only [Act.put,pu1,pu2,pu3,pu4,pu5,pu6]))
  refine Zg rfl rfl (fun KR hKR=>?_);go_simp;with_reducible refine (Xd _ _ (canI (N.z * D'.z)) (canI (D.z * N'.z)) _ (e6.below ai) e7 (JW (RI.Sm.mul sN ah) (by decide)) (JW (RI.Sm.mul sD ag) (by decide)) av.out).mono ?_
  rw [Zx,Zx,Zmx (Int.ne_of_gt al.out),ak.out,a7.out];rintro _ w8 ⟨v8,rfl,e8,b7⟩;have L:=Za K b7 K.size;obtain ⟨C,l,f,C',l',f',rfl,_,_⟩:=id e8;have I:=ao.later L;obtain ⟨c0,c1,c2,c3⟩:=I.four;obtain ⟨f0,f1,f2,f3⟩:=I.fourF;refine hKR.out _ _ (Or.inr L) ?_;clear hKR KR;(try simp only [Act.put,pu1,pu2,pu3,pu4,pu5,pu6]);refine Zg rfl rfl (fun KR hKR=>?_);go_simp;refine hKR.out _ _ (Or.inl (by decide)) ?_;clear hKR KR;(try simp only [Act.put,pu1,pu2,pu3,pu4,pu5,pu6]);refine Zg rfl rfl (fun KR hKR=>?_);go_simp;refine hKR.out _ _ (Or.inl (by decide)) ?_;clear hKR KR;(try simp only [Act.put,pu1,pu2,pu3,pu4,pu5,pu6]);refine Zv ?_;clear C0 C1 C2 C3 D0 D1 D2 D3;have a8:=Za J L J.size;go_wp2;refine XN Tryz.results59 Tryz.underlying36 (by kernel_rfl) rfl (I.set4 _ _ _ _) rfl ?_;exact Zgt I e8 a8 (by omega)
 ·obtain ⟨⟨b1,b2⟩,⟨b3,b4⟩,hz,O,P⟩:=Ztr (HQ.out rfl).1 (HQ.out rfl).2 S.out;obtain ⟨q0,q1,_,_⟩:=bW.two;obtain ⟨s0,s1,_,_⟩:=bV.two;clear HQ;rcases hz with ⟨hz,hz2⟩ | ⟨hz,hz2⟩
  ·have HV:=JZ O;clear O P;have t1:IntKind.i64.wrap (x * u)=x * u:=(by simp only [IntKind.wrap,IntKind.bits,IntKind.signed];simp;omega);have t2:IntKind.i64.wrap (y * z)=y * z:=by simp only [IntKind.wrap,IntKind.bits,IntKind.signed];simp;omega
   go_upto_region 5 with (fail)
   clear M;have C0:=Zr q0;have C1:=Zr q1;have D0:=Zr s0;have D1:=Zr s1;clear q0 q1 s0 s1;refine Zt 12 [0,1,2,3,4,5,6,7,8,9,10,11] (by kernel_rfl) (by kernel_rfl) ?_;repeat ((first | (refine Zc (v:=?_) rfl rfl rfl ?_ ?_;rotate_left;(· (intro _ o;go_simp;(try go_bits);(try with_reducible rfl)))) | (refine Ze (v:=?_) rfl rfl rfl ?_ ?_;rotate_left;(· (intro _ o;go_simp;(try go_bits);(try with_reducible rfl)))) | refine Zf rfl rfl rfl ?_);(try simp only [Act.put,pu1,pu2,pu3,pu4,pu5,pu6]))
   refine Zv ?_;clear C0 C1 D0 D1;replace r:=r.drew;replace h:=h.drew;generalize W2.drew=W3 at *;go_wp2_with fail;refine (YQ (x * u) (y * z) _ (by omega) (by omega) (by omega) (by omega)).mono ?_;rw [HV.out];rintro e w3 ⟨v3,rfl,e3,k⟩;have i:=r.later k;obtain ⟨C,l,f,C',l',f',rfl,_,_⟩:=id e3;obtain ⟨c0,c1,c2,c3⟩:=i.four;obtain ⟨f0,f1,f2,f3⟩:=i.fourF;go_wp2;refine XN Tryz.results59 Tryz.underlying36 (by kernel_rfl) rfl (i.set4 _ _ _ _) rfl ?_;exact Zgt i e3 (Za h k h.size) (by omega)
  ·have HV:=JZ P;clear O P;have t1:IntKind.i64.wrap (x * u)=x * u:=(by simp only [IntKind.wrap,IntKind.bits,IntKind.signed];simp;omega);have t2:IntKind.i64.wrap (y * z)=y * z:=(by simp only [IntKind.wrap,IntKind.bits,IntKind.signed];simp;omega);have t3:IntKind.i64.wrap (-(x * u))= -(x * u):=(by simp only [IntKind.wrap,IntKind.bits,IntKind.signed];simp;omega);have t4:IntKind.i64.wrap (-(y * z))= -(y * z):=by simp only [IntKind.wrap,IntKind.bits,IntKind.signed];simp;omega
   go_upto_region 5 with (fail)
   clear M;have C0:=Zr q0;have C1:=Zr q1;have D0:=Zr s0;have D1:=Zr s1;clear q0 q1 s0 s1;refine Zt 12 [0,1,2,3,4,5,6,7,8,9,10,11] (by kernel_rfl) (by kernel_rfl) ?_;repeat ((first | (refine Zc (v:=?_) rfl rfl rfl ?_ ?_;rotate_left;(· (intro _ o;go_simp;(try go_bits);(try with_reducible rfl)))) | (refine Ze (v:=?_) rfl rfl rfl ?_ ?_;rotate_left;(· (intro _ o;go_simp;(try go_bits);(try with_reducible rfl)))) | refine Zf rfl rfl rfl ?_);(try simp only [Act.put,pu1,pu2,pu3,pu4,pu5,pu6]))
   refine Zv ?_;clear C0 C1 D0 D1;replace r:=r.drew;replace h:=h.drew;generalize W2.drew=W3 at *;go_wp2_with fail;refine (YQ (-(x * u)) (-(y * z)) _ (by omega) (by omega) (by omega) (by omega)).mono ?_;rw [HV.out];rintro e w3 ⟨v3,rfl,e3,k⟩;have i:=r.later k;obtain ⟨C,l,f,C',l',f',rfl,_,_⟩:=id e3;obtain ⟨c0,c1,c2,c3⟩:=i.four;obtain ⟨f0,f1,f2,f3⟩:=i.fourF;go_wp2;refine XN Tryz.results59 Tryz.underlying36 (by kernel_rfl) rfl (i.set4 _ _ _ _) rfl ?_;exact Zgt i e3 (Za h k h.size) (by omega)
end Go.Proofs.YtidgdpkcloaheaaGreat
