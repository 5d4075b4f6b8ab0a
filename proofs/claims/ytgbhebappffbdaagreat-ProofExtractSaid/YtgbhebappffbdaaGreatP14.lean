/- Lemmas of the claim; no condition. -/
import Derived.StillTail
import Derived.Test.YtgbhebappffbdaaGreatP12
set_option linter.all false
set_option maxRecDepth 100000
set_option maxHeartbeats 40000000
namespace Go.Proofs.YtgbhebappffbdaaGreat
open Go.RowKit
open Pl
attribute [local go_sem ↓] Go.wp_at_zero Go.wp_at_succ
def FrC (w:World) (cs:List Value) (fs:List RF):Prop:=
 cs.length=fs.length * 4∧∀k f,fs[k]? =some f→∃x y z u,cs[k * 4]? =some x∧cs[k * 4+1]? =some y∧cs[k * 4+2]? =some z∧cs[k * 4+3]? =some u∧Zt w (.agg #[x,y,z,u]) f
theorem FrC.keep {w w':World} {cs:List Value} {fs:List RF} (h:FrC w cs fs) (hk:ZF w w'):FrC w' cs fs:=
 ⟨h.1,fun k f hf=>by
  obtain ⟨x,y,z,u,h1,h2,h3,h4,h5⟩:=h.2 k f hf
  exact ⟨x,y,z,u,h1,h2,h3,h4,h5.keep hk⟩⟩
theorem FrC.nil (w:World):FrC w [] []:=⟨rfl,fun k f h=>by simp at h⟩
theorem FrC.snoc {w:World} {cs:List Value} {fs:List RF} (h:FrC w cs fs) {x y z u:Value} {f:RF} (hf:Zt w (.agg #[x,y,z,u]) f):FrC w (cs++[x,y,z,u]) (fs++[f]):=by
 refine ⟨by simp [h.1];omega,fun k g hg=>?_⟩;have hl:=h.1;rcases JX k fs.length with hk | hk
 ·rw [List.getElem?_append_left hk] at hg;obtain ⟨x',y',z',u',h1,h2,h3,h4,h5⟩:=h.2 k g hg;refine ⟨x',y',z',u',?_,?_,?_,?_,h5⟩
  ·rw [List.getElem?_append_left (by omega)];exact h1
  ·rw [List.getElem?_append_left (by omega)];exact h2
  ·rw [List.getElem?_append_left (by omega)];exact h3
  ·rw [List.getElem?_append_left (by omega)];exact h4
 ·rw [List.getElem?_append_right hk] at hg;have a:k - fs.length=0:=by
   rcases JV (k - fs.length) with e | e
   ·exact e
   ·rw [JU (by simp;omega)] at hg;cases hg
  rw [a] at hg;simp at hg;subst hg;obtain rfl:k=fs.length:=by omega
  refine ⟨x,y,z,u,?_,?_,?_,?_,hf⟩
  ·rw [List.getElem?_append_right (by omega),show fs.length * 4 - cs.length=0 by omega];rfl
  ·rw [List.getElem?_append_right (by omega),show fs.length * 4+1 - cs.length=1 by omega];rfl
  ·rw [List.getElem?_append_right (by omega),show fs.length * 4+2 - cs.length=2 by omega];rfl
  ·rw [List.getElem?_append_right (by omega),show fs.length * 4+3 - cs.length=3 by omega];rfl
def Zqb (cs:List Value) (j:Nat) (x y z u:Value):List Value:=(((cs.set j x).set (j+1) y).set (j+2) z).set (j+3) u
theorem FrC.set_ {w:World} {cs:List Value} {fs:List RF} (h:FrC w cs fs) {k:Nat} (hk:k < fs.length) {x y z u:Value} {f:RF} (hf:Zt w (.agg #[x,y,z,u]) f):FrC w (Zqb cs (k * 4) x y z u) (fs.set k f):=by
 have hl:=h.1;refine ⟨by simp [Zqb,hl],fun j g hg=>?_⟩;rcases Nat.lt_trichotomy j k with hjk | hjk | hjk
 ·rw [List.getElem?_set_ne (by omega)] at hg;obtain ⟨x',y',z',u',h1,h2,h3,h4,h5⟩:=h.2 j g hg;refine ⟨x',y',z',u',?_,?_,?_,?_,h5⟩ <;> unfold Zqb <;> rw [List.getElem?_set_ne (by omega),List.getElem?_set_ne (by omega),List.getElem?_set_ne (by omega),List.getElem?_set_ne (by omega)] <;> assumption
 ·subst hjk;rw [List.getElem?_set_self hk] at hg;injection hg with hg;subst hg;refine ⟨x,y,z,u,?_,?_,?_,?_,hf⟩ <;> unfold Zqb
  ·rw [List.getElem?_set_ne (by omega),List.getElem?_set_ne (by omega),List.getElem?_set_ne (by omega),List.getElem?_set_self (by omega)]
  ·rw [List.getElem?_set_ne (by omega),List.getElem?_set_ne (by omega),List.getElem?_set_self (by simp;omega)]
  ·rw [List.getElem?_set_ne (by omega),List.getElem?_set_self (by simp;omega)]
  ·rw [List.getElem?_set_self (by simp;omega)]
 ·rw [List.getElem?_set_ne (by omega)] at hg;obtain ⟨x',y',z',u',h1,h2,h3,h4,h5⟩:=h.2 j g hg;refine ⟨x',y',z',u',?_,?_,?_,?_,h5⟩ <;> unfold Zqb <;> rw [List.getElem?_set_ne (by omega),List.getElem?_set_ne (by omega),List.getElem?_set_ne (by omega),List.getElem?_set_ne (by omega)] <;> assumption
def V7 (w:World) (t:TypeId) (s:Nat) (v:Value) (n:Nat) (xs:List Value):Prop:=
 ∃A c,v= .slice A n c∧xs.length=n * s∧n≤c∧c≤maxLen∧(0 < n→∃b off cs fz,A=some ⟨b,off,none⟩∧w.heap[b]? =some (.cells cs t fz)∧∀j u,xs[j]? =some u→cs[off+j]? =some u)
theorem V7.below {w w':World} {t:TypeId} {s n:Nat} {v:Value} {xs:List Value} (h:V7 w t s v n xs) (hb:Below w.heap.size w w'):V7 w' t s v n xs:=by
 obtain ⟨A,c,h1,h2,h3,h4,h5⟩:=h;refine ⟨A,c,h1,h2,h3,h4,fun hp=>?_⟩;obtain ⟨b,a,cs,fz,hA,hc,hx⟩:=h5 hp;exact ⟨b,a,cs,fz,hA,(hb.block b (Yw hc)).trans hc,hx⟩
theorem V7.shape {w:World} {t:TypeId} {s n:Nat} {v:Value} {xs:List Value} (h:V7 w t s v n xs):∃A c,v= .slice A n c∧n≤c∧c≤9223372036854775807:=by
 obtain ⟨A,c,h1,h2,h3,h4,h5⟩:=h;unfold maxLen at h4;exact ⟨A,c,h1,h3,by omega⟩
theorem V7.at_ {w:World} {t:TypeId} {s n c:Nat} {A:Option Addr} {xs:List Value} (h:V7 w t s (.slice A n c) n xs) (hn:0 < n):
 ∃b off,A=some ⟨b,off,none⟩∧b < w.heap.size∧∀j u,xs[j]? =some u→w.cell? ⟨b,off+j,none⟩=some u:=by
 obtain ⟨A',c',hv,h2,h3,h4,h5⟩:=h;injection hv with e1 e2 e3;subst e1;obtain ⟨b,off,cs,fz,hA,hc,hx⟩:=h5 hn;exact ⟨b,off,hA,Yw hc,fun j u hj=>by rw [cell_of_row w b (off+j) cs _ fz hc,hx j u hj]⟩
theorem V7.len {w:World} {t:TypeId} {s n m c:Nat} {A:Option Addr} {xs:List Value} (h:V7 w t s (.slice A n c) m xs):n=m:=by
 obtain ⟨A',c',hv,_⟩:=h;injection hv
theorem V7.of_own {w:World} {base:Nat} {t:TypeId} {s n:Nat} {v:Value} {xs:List Value} (h:w.ownsRow base t s v n xs):V7 w t s v n xs:=by
 rcases h.2 with ⟨rfl,h0⟩ | ⟨g,cap,cur,rfl,hb,hg,hnc,hcm,hcs,htake⟩
 ·have hl:=h.1;have hx:n=0∨s=0:=by
   subst h0;exact Or.inl rfl
  subst h0;exact ⟨none,0,rfl,hl,JY _,by simp,fun hp=>by omega⟩
 ·refine ⟨_,cap,rfl,h.1,hnc,hcm,fun _=>⟨g,0,cur,(0,0),rfl,hg,fun j u hj=>?_⟩⟩;rw [← htake,List.getElem?_take] at hj;split at hj
  ·simpa using hj
  ·cases hj
theorem V7.nil (w:World) (t:TypeId) (s:Nat) (A:Option Addr) (c:Nat) (hm:c≤maxLen):V7 w t s (.slice A 0 c) 0 []:=⟨A,c,rfl,by simp,Nat.zero_le _,hm,fun h=>by omega⟩
def Xh (w:World) (v:Value) (fs:List RF):Prop:=∃cs,V7 w 46 4 v fs.length cs∧FrC w cs fs
theorem Xh.below {w w':World} {v:Value} {fs:List RF} (h:Xh w v fs) (hb:Below w.heap.size w w'):Xh w' v fs:=by
 obtain ⟨cs,h1,h2⟩:=h;exact ⟨cs,h1.below hb,h2.keep (ZF.of_below hb)⟩
theorem Xh.shape {w:World} {v:Value} {fs:List RF} (h:Xh w v fs):∃A c,v= .slice A fs.length c∧fs.length≤c∧c≤9223372036854775807:=by
 obtain ⟨cs,h1,h2⟩:=h;exact h1.shape
theorem Xh.at_ {w:World} {A:Option Addr} {n c:Nat} {fs:List RF} (h:Xh w (.slice A n c) fs) {k:Nat} {f:RF} (hf:fs[k]? =some f):
 ∃b off x y z u,A=some ⟨b,off,none⟩∧b < w.heap.size∧w.cell? ⟨b,off+k * 4,none⟩=some x∧w.cell? ⟨b,off+k * 4+1,none⟩=some y∧w.cell? ⟨b,off+k * 4+2,none⟩=some z∧w.cell? ⟨b,off+k * 4+3,none⟩=some u∧Zt w (.agg #[x,y,z,u]) f:=by
 obtain ⟨cs,h1,h2⟩:=h;obtain ⟨x,y,z,u,c1,c2,c3,c4,hm⟩:=h2.2 k f hf;have hk:k < fs.length:=(List.getElem?_eq_some_iff.1 hf).1;have hn:=h1.len;subst hn;obtain ⟨b,off,hA,hb,hc⟩:=h1.at_ (by omega);exact ⟨b,off,x,y,z,u,hA,hb,hc _ _ c1,hc _ _ c2,hc _ _ c3,hc _ _ c4,hm⟩
def Z4 (base:Nat) (w:World) (v:Value) (fs:List RF):Prop:=∃cs,w.ownsRow base 46 4 v fs.length cs∧FrC w cs fs
theorem Z4.frs {base:Nat} {w:World} {v:Value} {fs:List RF} (h:Z4 base w v fs):Xh w v fs:=by
 obtain ⟨cs,h1,h2⟩:=h;exact ⟨cs,V7.of_own h1,h2⟩
theorem own_below {w w':World} {base:Nat} {t:TypeId} {s n:Nat} {v:Value} {xs:List Value} (h:w.ownsRow base t s v n xs) (hb:Below w.heap.size w w'):w'.ownsRow base t s v n xs:=by
 refine ⟨h.1,?_⟩;rcases h.2 with hn | ⟨g,cap,cur,rfl,hb',hgg,rest⟩
 ·exact .inl hn
 ·exact .inr ⟨g,cap,cur,rfl,hb',(hb.block g (Yw hgg)).trans hgg,rest⟩
theorem Z4.below {base:Nat} {w w':World} {v:Value} {fs:List RF} (h:Z4 base w v fs) (hb:Below w.heap.size w w'):Z4 base w' v fs:=by
 obtain ⟨cs,h1,h2⟩:=h;exact ⟨cs,own_below h1 hb,h2.keep (ZF.of_below hb)⟩
theorem Z4.nil (base:Nat) (w:World):Z4 base w (.slice none 0 0) []:=⟨[],World.ownsRow_nil _ _ _ _,FrC.nil _⟩
theorem info_frac:(Tryz.prog.info? 46).map (fun i=>(i.zero,i.size,i.bytes))=some (some (.agg #[.bool false,.slice none 0 0,.bool false,.slice none 0 0]),4,64):=by kernel_rfl
def Ze (e:TypeId) (w w':World):Prop:=∀(b:Nat) (cs:Array Value) (t:TypeId) (fz:Nat × Nat),t≠e→w.heap[b]? =some (.cells cs t fz)→w'.heap[b]? =some (.cells cs t fz)
theorem Ze.keep {e:TypeId} {w w':World} (h:Ze e w w') (he:148≠e):ZF w w':=fun b cs fz hb=>h b cs _ fz he hb
theorem Ze.bk {e:TypeId} {w w':World} {g:Nat} {t:TypeId} {cs:List Value} (h:Ze e w w') (hb:Bk w g t cs) (ht:t≠e):Bk w' g t cs:=h g _ t _ ht hb
theorem Ze.own {e:TypeId} {w w':World} {base:Nat} {t:TypeId} {s n:Nat} {v:Value} {xs:List Value} (h:Ze e w w') (ho:w.ownsRow base t s v n xs) (ht:t≠e):w'.ownsRow base t s v n xs:=by
 refine ⟨ho.1,?_⟩;rcases ho.2 with hn | ⟨g,cap,cur,rfl,hb',hgg,rest⟩
 ·exact .inl hn
 ·exact .inr ⟨g,cap,cur,rfl,hb',h g _ t _ ht hgg,rest⟩
theorem Ze.row {e:TypeId} {w w':World} {t:TypeId} {s n:Nat} {v:Value} {xs:List Value} (h:Ze e w w') (hr:V7 w t s v n xs) (ht:t≠e):V7 w' t s v n xs:=by
 obtain ⟨A,c,h1,h2,h3,h4,h5⟩:=hr;refine ⟨A,c,h1,h2,h3,h4,fun hp=>?_⟩;obtain ⟨b,a,cs,fz,hA,hc,hx⟩:=h5 hp;exact ⟨b,a,cs,fz,hA,h b cs t fz ht hc,hx⟩
theorem Ze.trans {e:TypeId} {a b c:World} (h:Ze e a b) (k:Ze e b c):Ze e a c:=fun x cs t fz ht hx=>k x cs t fz ht (h x cs t fz ht hx)
theorem Ze.setCell {w:World} {g:Nat} {cs:Array Value} {e:TypeId} {fz:Nat × Nat} (h:w.heap[g]? =some (.cells cs e fz)) (i:Nat) (u:Value):Ze e w (w.setCell ⟨g,i,none⟩ u):=by
 intro b c t d ht hb;have a:b≠g:=by
  rintro rfl;rw [h] at hb;injection hb with hb;injection hb with _ h2 _;exact ht h2.symm
 rw [heap_setCell_other w _ _ _ a];exact hb
theorem Ud (ty t e:TypeId) (i:TypeInfo) (z:Value) (size bytes:Nat) (ht:Tryz.prog.underlying t=some (.slice e)) (hi:Tryz.prog.info? e=some i) (hz:i.zero=some z)
 (hsize:i.size=size) (hby:i.bytes=bytes) (hzs:z.cells.size=size) (hsz:0 < size) (W:World) (base:Nat) (v:Value) (n:Nat) (xs news:List Value) (hown:W.ownsRow base e size v n xs)
 (hl:news.length=size) (h1:∀u∈news,u.oneCell'=true) (hn:n+1≤maxLen) (hb:(n+1) * bytes≤140737488355328) (hbase:base≤W.heap.size):
 ∃v' w',(Builtin.append_ #[t,t] ty #[v,.slice (some ⟨W.heap.size,0,none⟩) 1 1]).run Tryz.prog (W.alloc (.cells news.toArray e))= .ok v' w'∧w'.ownsRow base e size v' (n+1) (xs++news)∧Ze e W w'∧Below base W w':=by
 have a:Bk (W.alloc (.cells news.toArray e)) W.heap.size e news:=Bk.new W e news;obtain ⟨v',w',c,h2,h3,_,_⟩:=run_append_own_at (P:=Tryz.prog) (W.alloc (.cells news.toArray e)) base t ty e i z size bytes ht hi hz hsize hby hzs hsz v n xs (hown.alloc _) ⟨W.heap.size,0,none⟩ 1 1 news (by omega) (fun j u hj=>by rw [addr_add,Nat.zero_add,a.cell];exact hj) h1 hn hb (by simp;omega);refine ⟨v',w',c,h2,?_,?_⟩
 ·intro b cs t' fz f hc;have d:=Yw hc;refine (h3.block b (by simp;omega) ?_).trans ((Below.heap_alloc W _ b d).trans hc);intro e1;rcases hown.2 with ⟨rfl,_⟩ | ⟨g,cap,cur,rfl,_,hg,_⟩
  ·simp [Value.ownBlock] at e1
  ·simp [Value.ownBlock] at e1;subst e1;rw [hg] at hc;injection hc with hc;injection hc with _ h2 _;exact f h2.symm
 ·refine ((JR _ _).alloc hbase _).grown h3 (by simp;omega) (fun k hk=>?_);exact (hown.lt k hk).1
 where
  addr_add (g j:Nat):(⟨g,0,none⟩:Addr).add j=⟨g,0+j,none⟩:=by
   unfold Addr.add;split
   ·rename_i h;subst h;rfl
   ·rfl
theorem Zba {ops:Array Oper} {rest:List Oper} {o:Oper} {a:Act} {Q:Exit→Act→World→Prop} (hgd:o.guard=none) (s x:Operand) (t:TypeId)
 (ho:o.op= .call { callee:= .builtin .append,args:=#[s,x],argTypes:=#[t,t] })
 (e:TypeId) (i:TypeInfo) (z:Value) (size bytes:Nat) (ht:Tryz.prog.underlying t=some (.slice e)) (hi:Tryz.prog.info? e=some i) (hz:i.zero=some z)
 (hsize:i.size=size) (hby:i.bytes=bytes) (hzs:z.cells.size=size) (hsz:0 < size) (W:World) (base:Nat) (v:Value) (n:Nat) (xs news:List Value) (hs:a.eval s=v) (hown:W.ownsRow base e size v n xs)
 (hx:a.eval x= .slice (some ⟨W.heap.size,0,none⟩) 1 1) (hl:news.length=size) (h1:∀u∈news,u.oneCell'=true) (hn:n+1≤maxLen) (hb:(n+1) * bytes≤140737488355328) (hbase:base≤W.heap.size)
 (h:∀v' w',w'.ownsRow base e size v' (n+1) (xs++news)→Ze e W w'→Below base W w'→wpList Tryz.prog ops Q rest (a.put o.dst v') w'):
 wpList Tryz.prog ops Q (o::rest) a (W.alloc (.cells news.toArray e)):=by
 refine wpList_plain hgd fun K hK=>?_
 obtain ⟨v',w',hr,h2,h3,h4⟩:=Ud o.type t e i z size bytes ht hi hz hsize hby hzs hsz W base v n xs news hown hl h1 hn hb hbase;unfold Oper.wp execOp;simp only [ho,resolve,invoke,builtin,Sem.run_bind,Sem.run_pure,Result.andThen_ok,List.map_toArray,List.map_cons,List.map_nil,hs,hx,hr];exact hK _ _ (h v' w' h2 h3 h4)
theorem Zjf {x y:Bool} {A A':Option Addr} {n c n' c':Nat}:∀u∈[Value.bool x,.slice A n c,.bool y,.slice A' n' c'],u.oneCell'=true:=by
 intro u hu;simp at hu;rcases hu with rfl | rfl | rfl | rfl <;> rfl
theorem XD {w:World} {base:Nat} {e:TypeId} {size n c g:Nat} {xs:List Value} (h:w.ownsRow base e size (.slice (some ⟨g,0,none⟩) n c) n xs) (j:Nat) (u:Value) (hj:j < xs.length):
 (w.setCell ⟨g,j,none⟩ u).ownsRow base e size (.slice (some ⟨g,0,none⟩) n c) n (xs.set j u):=by
 refine ⟨by rw [List.length_set];exact h.1,?_⟩;rcases h.2 with ⟨h0,_⟩ | ⟨g',cap,cur,hv,hb,hg,hnc,hcm,hcs,htake⟩
 ·injection h0 with h0;cases h0
 ·injection hv with e1 e2 e3;injection e1 with e1;injection e1 with e1;subst e1 e3;refine .inr ⟨g,c,cur.setIfInBounds j u,rfl,hb,?_,hnc,hcm,by simpa using hcs,?_⟩
  ·rw [heap_setCell_same w g j _ e u hg]
  ·rw [Array.toList_setIfInBounds,List.take_set,htake]
theorem ZM {w:World} {base:Nat} {e:TypeId} {size n c g:Nat} {xs:List Value} (h:w.ownsRow base e size (.slice (some ⟨g,0,none⟩) n c) n xs) {j:Nat} {u:Value} (hj:xs[j]? =some u):w.cell? ⟨g,j,none⟩=some u∧w.frozen? ⟨g,j,none⟩=false:=by
 rcases h.2 with ⟨h0,_⟩ | ⟨g',cap,cur,hv,hb,hg,hnc,hcm,hcs,htake⟩
 ·injection h0 with h0;cases h0
 ·injection hv with e1 e2 e3;injection e1 with e1;injection e1 with e1;subst e1 e3;refine ⟨?_,frozen_of_row w g j _ _ hg⟩;rw [cell_of_row w g j _ _ _ hg];rw [← htake,List.getElem?_take] at hj;split at hj
  ·simpa using hj
  ·cases hj
theorem Yl {w:World} {base:Nat} {e:TypeId} {size n c g:Nat} {xs:List Value} (h:w.ownsRow base e size (.slice (some ⟨g,0,none⟩) n c) n xs):∃cur,w.heap[g]? =some (.cells cur e (0,0))∧base≤g:=by
 rcases h.2 with ⟨h0,_⟩ | ⟨g',cap,cur,hv,hb,hg,hnc,hcm,hcs,htake⟩
 ·injection h0 with h0;cases h0
 ·injection hv with e1 e2 e3;injection e1 with e1;injection e1 with e1;subst e1;exact ⟨cur,hg,hb⟩
theorem Z4.shape {base:Nat} {w:World} {v:Value} {fs:List RF} (h:Z4 base w v fs) (hp:0 < fs.length):∃g c,v= .slice (some ⟨g,0,none⟩) fs.length c∧base≤g∧g < w.heap.size∧fs.length≤c∧c≤9223372036854775807:=by
 obtain ⟨cs,h1,h2⟩:=h;rcases h1.2 with ⟨rfl,h0⟩ | ⟨g,cap,cur,rfl,hb,hg,hnc,hcm,hcs,htake⟩
 ·have:=h2.1;rw [h0] at this;simp at this;omega
 ·unfold maxLen at hcm;exact ⟨g,cap,rfl,hb,Yw hg,hnc,by omega⟩
theorem Z4.at_ {base:Nat} {w:World} {g n c:Nat} {fs:List RF} (h:Z4 base w (.slice (some ⟨g,0,none⟩) n c) fs) {k:Nat} {f:RF} (hf:fs[k]? =some f):
 ∃x y z u,(w.cell? ⟨g,k * 4,none⟩=some x∧w.cell? ⟨g,k * 4+1,none⟩=some y∧w.cell? ⟨g,k * 4+2,none⟩=some z∧w.cell? ⟨g,k * 4+3,none⟩=some u)∧(w.frozen? ⟨g,k * 4,none⟩=false∧w.frozen? ⟨g,k * 4+1,none⟩=false∧w.frozen? ⟨g,k * 4+2,none⟩=false∧w.frozen? ⟨g,k * 4+3,none⟩=false)∧Zt w (.agg #[x,y,z,u]) f:=by
 obtain ⟨cs,h1,h2⟩:=h;have hn:n=fs.length:=(V7.of_own h1).len;subst hn;obtain ⟨x,y,z,u,c1,c2,c3,c4,hm⟩:=h2.2 k f hf;exact ⟨x,y,z,u,⟨(ZM h1 c1).1,(ZM h1 c2).1,(ZM h1 c3).1,(ZM h1 c4).1⟩,⟨(ZM h1 c1).2,(ZM h1 c2).2,(ZM h1 c3).2,(ZM h1 c4).2⟩,hm⟩
theorem Z4.set_ {base:Nat} {w:World} {g n c:Nat} {fs:List RF} (h:Z4 base w (.slice (some ⟨g,0,none⟩) n c) fs) {k:Nat} (hk:k < fs.length) {x y z u:Value} {f:RF} (hf:Zt w (.agg #[x,y,z,u]) f):
 Z4 base ((((w.setCell ⟨g,k * 4,none⟩ x).setCell ⟨g,k * 4+1,none⟩ y).setCell ⟨g,k * 4+2,none⟩ z).setCell ⟨g,k * 4+3,none⟩ u) (.slice (some ⟨g,0,none⟩) n c) (fs.set k f)∧
 Ze 46 w ((((w.setCell ⟨g,k * 4,none⟩ x).setCell ⟨g,k * 4+1,none⟩ y).setCell ⟨g,k * 4+2,none⟩ z).setCell ⟨g,k * 4+3,none⟩ u):=by
 obtain ⟨cs,h1,h2⟩:=h;have hn:n=fs.length:=(V7.of_own h1).len;subst hn;have hl:=h2.1;have o1:=XD h1 (k * 4) x (by omega);have o2:=XD o1 (k * 4+1) y (by simp;omega);have o3:=XD o2 (k * 4+2) z (by simp;omega);have o4:=XD o3 (k * 4+3) u (by simp;omega);obtain ⟨_,b0,_⟩:=Yl h1;obtain ⟨_,b1,_⟩:=Yl o1;obtain ⟨_,b2,_⟩:=Yl o2;obtain ⟨_,b3,_⟩:=Yl o3;have kp:=(((Ze.setCell b0 (k * 4) x).trans (Ze.setCell b1 (k * 4+1) y)).trans (Ze.setCell b2 (k * 4+2) z)).trans (Ze.setCell b3 (k * 4+3) u);have kd:=kp.keep (by decide);refine ⟨⟨Zqb cs (k * 4) x y z u,by rw [List.length_set];exact o4,?_⟩,kp⟩;exact (h2.keep kd).set_ hk (hf.keep kd)
namespace Pl
def RF.Rs (k:Nat) (f:RF):Prop:=(Zl (val f.num.ds)).length≤k∧(Zl (val f.den.ds)).length≤k
theorem RF.Rs.mono {j k:Nat} {f:RF} (h:f.Rs j) (hk:j≤k):f.Rs k:=⟨JW h.1 hk,JW h.2 hk⟩
theorem RF.Rs.sh {k:Nat} {f:RF} (h:f.Rs k) (hk:k≤34359738368):f.Sh:=h.mono hk
theorem RF.Rs.sm {k:Nat} {f:RF} (h:f.Rs k) (hk:k≤34359738368):f.Sm:=(h.sh hk).sm
theorem Sz.rs {k:Nat} {q:Rat} (h:Sz k q):(canF q).Rs k:=by
 unfold RF.Rs canF;simp only [YG];exact h
theorem RF.Rs.sz {k:Nat} {f:RF} (h:f.Rs k) (hk:1≤k):Sz k f.q:=VD (by rw [ZR];exact h.1) (by rw [ZR];exact h.2) hk
def qAt (fs:List RF) (i:Nat):Rat:=match fs[i]? with | some f=>f.q | none=>0
theorem Yo {fs:List RF} {i:Nat} {f:RF} (h:fs[i]? =some f):qAt fs i=f.q:=by simp [qAt,h]
def ZO (f:Nat→Rat):Nat→Rat
 | 0=>0
 | n+1=>ZO f n+f n
theorem YK (f:Nat→Rat):ZO f 0=0:=rfl
theorem ZC (f:Nat→Rat) (n:Nat):ZO f (n+1)=ZO f n+f n:=rfl
theorem Zk {f g:Nat→Rat} {n:Nat} (h:∀i,i < n→f i=g i):ZO f n=ZO g n:=by
 induction n with
 | zero=>rfl
 | succ n ih=>rw [ZC,ZC,ih (fun i hi=>h i (by omega)),h n (by omega)]
theorem Zjg {f:Nat→Rat} {K n:Nat} (h:∀i,i < n→Sz K (f i)):Sz (1+n * (K+1)) (ZO f n):=by
 induction n with
 | zero=>exact Sz_zero.mono (by omega)
 | succ n ih=>
  rw [ZC];exact (Ztl (ih fun i hi=>h i (by omega)) (h n (by omega))).mono (by rw [Nat.add_mul n 1];omega)
def Zbb (xs ys:List RF) (n:Nat):Rat:=ZO (fun i=>qAt xs i * qAt ys i) n
theorem Ztp (xs ys:List RF) (n:Nat):Zbb xs ys (n+1)=Zbb xs ys n+qAt xs n * qAt ys n:=rfl
def RsL (k:Nat) (fs:List RF):Prop:=∀(i:Nat) (f:RF),fs[i]? =some f→f.Rs k
theorem RsL.qAt {k:Nat} {fs:List RF} (h:RsL k fs) (hk:1≤k) (i:Nat):Sz k (qAt fs i):=by
 unfold Pl.qAt;split
 ·rename_i f hf;exact (h i f hf).sz hk
 ·exact Sz_zero.mono hk
theorem Ztq {xs ys:List RF} {K n:Nat} (ha:RsL K xs) (hb:RsL K ys) (hK:1≤K):Sz (1+n * (2 * K+1)) (Zbb xs ys n):=
 Zjg fun i _=>(XN (ha.qAt hK i) (hb.qAt hK i)).mono (by omega)
theorem Yp {q:Rat}:qs q=0↔q=0:=by
 unfold qs;rw [Vd];exact Rat.num_eq_zero
theorem Yb {fs:List RF} {i:Nat} (h:i < fs.length):∃f,fs[i]? =some f:=⟨fs[i],JQ h⟩
end Pl
theorem ZP {w w':World} {b o:Nat} {x y z u:Value} (hb:Below w.heap.size w w') (h:w.cell? ⟨b,o,none⟩=some x∧w.cell? ⟨b,o+1,none⟩=some y∧w.cell? ⟨b,o+2,none⟩=some z∧w.cell? ⟨b,o+3,none⟩=some u):
 w'.cell? ⟨b,o,none⟩=some x∧w'.cell? ⟨b,o+1,none⟩=some y∧w'.cell? ⟨b,o+2,none⟩=some z∧w'.cell? ⟨b,o+3,none⟩=some u:=
 ⟨Zf hb h.1,Zf hb h.2.1,Zf hb h.2.2.1,Zf hb h.2.2.2⟩
theorem Xh.elem {w wr:World} {A:Option Addr} {n c:Nat} {fs:List RF} (h:Xh w (.slice A n c) fs) (hb:Below w.heap.size w wr) {k:Nat} {f:RF} (hf:fs[k]? =some f):
 ∃b off A1 n1 c1 A2 n2 c2,A=some ⟨b,off,none⟩∧b < w.heap.size∧(wr.cell? ⟨b,off+k * 4,none⟩=some (.bool f.num.neg)∧wr.cell? ⟨b,off+k * 4+1,none⟩=some (.slice A1 n1 c1)∧wr.cell? ⟨b,off+k * 4+2,none⟩=some (.bool f.den.neg)∧wr.cell? ⟨b,off+k * 4+3,none⟩=some (.slice A2 n2 c2))∧
  Zt wr (.agg #[.bool f.num.neg,.slice A1 n1 c1,.bool f.den.neg,.slice A2 n2 c2]) f:=by
 obtain ⟨b,off,x,y,z,u,hA,a,c1,c2,c3,c4,hm⟩:=h.at_ hf;obtain ⟨A1,n1,k1,A2,n2,k2,hv,d1,d2⟩:=id hm;simp at hv;obtain ⟨rfl,rfl,rfl,rfl⟩:=hv;exact ⟨b,off,A1,n1,k1,A2,n2,k2,hA,a,ZP hb ⟨c1,c2,c3,c4⟩,hm.below hb⟩
section
namespace Pl
structure En where
 idx:Int
 f:RF
structure LPd where
 cost:List RF
 cols:List (List En)
 right:List RF
def leP (p:Option Int) (i:Int):Bool:=match p with | some j=>decide (i≤j) | none=>false
def UD (n:Int):List En→Option Int→Int
 | [],_=>0
 | e::es,p=>if e.idx < 0∨n≤e.idx then 5 else if leP p e.idx=true then 8 else if e.f.q=0 then 11 else UD n es (some e.idx)
def vecErr (es:List En) (n:Int):Int:=if n < 0∨4096 < n then 5 else UD n es none
def Wt (es:List En) (k:Nat):Option Int:=match k with | 0=>none | k+1=>(es[k]?).map (·.idx)
theorem UZ {n:Int} {es:List En} {k:Nat} {e:En} (h:es[k]? =some e):
 UD n (es.drop k) (Wt es k)=if e.idx < 0∨n≤e.idx then 5 else if leP (Wt es k) e.idx=true then 8 else if e.f.q=0 then 11 else UD n (es.drop (k+1)) (Wt es (k+1)):=by
 have hk:k < es.length:=(List.getElem?_eq_some_iff.1 h).1;have he:es[k]=e:=(List.getElem?_eq_some_iff.1 h).2;rw [List.drop_eq_getElem_cons hk,he,UD];rw [show Wt es (k+1)=some e.idx from by simp [Wt,h]]
theorem Zxt {n:Int} {es:List En} {k:Nat} (h:es.length≤k):UD n (es.drop k) (Wt es k)=0:=by
 rw [List.drop_eq_nil_of_le h,UD]
def Xi (n:Int):List (List En)→Int
 | []=>0
 | c::cs=>if vecErr c n=0 then Xi n cs else vecErr c n
theorem Zjh {n:Int} {cs:List (List En)} {k:Nat} {c:List En} (h:cs[k]? =some c):Xi n (cs.drop k)=if vecErr c n=0 then Xi n (cs.drop (k+1)) else vecErr c n:=by
 have hk:k < cs.length:=(List.getElem?_eq_some_iff.1 h).1;have he:cs[k]=c:=(List.getElem?_eq_some_iff.1 h).2;rw [List.drop_eq_getElem_cons hk,he,Xi]
theorem Zmb {n:Int} {cs:List (List En)} {k:Nat} (h:cs.length≤k):Xi n (cs.drop k)=0:=by
 rw [List.drop_eq_nil_of_le h,Xi]
def lpErr (p:LPd):Int:=if 64 < p.right.length∨1200 < p.cols.length then 10 else if p.cost.length≠p.cols.length then 12 else Xi (p.right.length:Int) p.cols
theorem Zqd (n:Int) (p:Option Int) (es:List En):UD n es p=0∨UD n es p=5∨UD n es p=8∨UD n es p=11:=by
 induction es generalizing p with
 | nil=>left;rfl
 | cons e es ih=>
  rw [UD];split
  ·simp
  ·split
   ·simp
   ·split
    ·simp
    ·exact ih _
theorem Ztr (es:List En) (n:Int):0≤vecErr es n∧vecErr es n≤11:=by
 unfold vecErr;split
 ·omega
 ·rcases Zqd n none es with h | h | h | h <;> omega
end Pl
def EnC (w:World) (cs:List Value) (es:List En):Prop:=
 cs.length=es.length * 5∧∀k e,es[k]? =some e→∃x y z u,cs[k * 5]? =some (.int .i64 e.idx)∧cs[k * 5+1]? =some x∧cs[k * 5+2]? =some y∧cs[k * 5+3]? =some z∧cs[k * 5+4]? =some u∧Zt w (.agg #[x,y,z,u]) e.f
theorem EnC.keep {w w':World} {cs:List Value} {es:List En} (h:EnC w cs es) (hk:ZF w w'):EnC w' cs es:=
 ⟨h.1,fun k f hf=>by
  obtain ⟨x,y,z,u,h0,h1,h2,h3,h4,h5⟩:=h.2 k f hf
  exact ⟨x,y,z,u,h0,h1,h2,h3,h4,h5.keep hk⟩⟩
theorem EnC.nil (w:World):EnC w [] []:=⟨rfl,fun k f h=>by simp at h⟩
theorem EnC.snoc {w:World} {cs:List Value} {es:List En} (h:EnC w cs es) {x y z u:Value} {e:En} (hf:Zt w (.agg #[x,y,z,u]) e.f):EnC w (cs++[.int .i64 e.idx,x,y,z,u]) (es++[e]):=by
 refine ⟨by simp [h.1];omega,fun k g hg=>?_⟩;have hl:=h.1;rcases JX k es.length with hk | hk
 ·rw [List.getElem?_append_left hk] at hg;obtain ⟨x',y',z',u',h0,h1,h2,h3,h4,h5⟩:=h.2 k g hg;refine ⟨x',y',z',u',?_,?_,?_,?_,?_,h5⟩
  ·rw [List.getElem?_append_left (by omega)];exact h0
  ·rw [List.getElem?_append_left (by omega)];exact h1
  ·rw [List.getElem?_append_left (by omega)];exact h2
  ·rw [List.getElem?_append_left (by omega)];exact h3
  ·rw [List.getElem?_append_left (by omega)];exact h4
 ·rw [List.getElem?_append_right hk] at hg;have a:k - es.length=0:=by
   rcases JV (k - es.length) with e | e
   ·exact e
   ·rw [JU (by simp;omega)] at hg;cases hg
  rw [a] at hg;simp at hg;subst hg;obtain rfl:k=es.length:=by omega
  refine ⟨x,y,z,u,?_,?_,?_,?_,?_,hf⟩
  ·rw [List.getElem?_append_right (by omega),show es.length * 5 - cs.length=0 by omega];rfl
  ·rw [List.getElem?_append_right (by omega),show es.length * 5+1 - cs.length=1 by omega];rfl
  ·rw [List.getElem?_append_right (by omega),show es.length * 5+2 - cs.length=2 by omega];rfl
  ·rw [List.getElem?_append_right (by omega),show es.length * 5+3 - cs.length=3 by omega];rfl
  ·rw [List.getElem?_append_right (by omega),show es.length * 5+4 - cs.length=4 by omega];rfl
def Vf (w:World) (v:Value) (es:List En):Prop:=∃cs,V7 w 83 5 v es.length cs∧EnC w cs es
theorem Vf.below {w w':World} {v:Value} {es:List En} (h:Vf w v es) (hb:Below w.heap.size w w'):Vf w' v es:=by
 obtain ⟨cs,h1,h2⟩:=h;exact ⟨cs,h1.below hb,h2.keep (ZF.of_below hb)⟩
theorem Vf.but {w w':World} {e:TypeId} {v:Value} {es:List En} (h:Vf w v es) (hk:Ze e w w') (h1:83≠e) (h2:148≠e):Vf w' v es:=by
 obtain ⟨cs,g1,g2⟩:=h;exact ⟨cs,hk.row g1 h1,g2.keep (hk.keep h2)⟩
theorem Xh.but {w w':World} {e:TypeId} {v:Value} {fs:List RF} (h:Xh w v fs) (hk:Ze e w w') (h1:46≠e) (h2:148≠e):Xh w' v fs:=by
 obtain ⟨cs,g1,g2⟩:=h;exact ⟨cs,hk.row g1 h1,g2.keep (hk.keep h2)⟩
theorem Z4.but {base:Nat} {w w':World} {e:TypeId} {v:Value} {fs:List RF} (h:Z4 base w v fs) (hk:Ze e w w') (h1:46≠e) (h2:148≠e):Z4 base w' v fs:=by
 obtain ⟨cs,g1,g2⟩:=h;exact ⟨cs,hk.own g1 h1,g2.keep (hk.keep h2)⟩
theorem Vf.shape {w:World} {v:Value} {es:List En} (h:Vf w v es):∃A c,v= .slice A es.length c∧es.length≤c∧c≤9223372036854775807:=by
 obtain ⟨cs,h1,h2⟩:=h;exact h1.shape
theorem Vf.elem {w wr:World} {A:Option Addr} {n c:Nat} {es:List En} (h:Vf w (.slice A n c) es) (hb:Below w.heap.size w wr) {k:Nat} {e:En} (he:es[k]? =some e):
 ∃b off A1 n1 c1 A2 n2 c2,A=some ⟨b,off,none⟩∧b < w.heap.size∧(wr.cell? ⟨b,off+k * 5,none⟩=some (.int .i64 e.idx)∧wr.cell? ⟨b,off+k * 5+1,none⟩=some (.bool e.f.num.neg)∧wr.cell? ⟨b,off+k * 5+2,none⟩=some (.slice A1 n1 c1)∧wr.cell? ⟨b,off+k * 5+3,none⟩=some (.bool e.f.den.neg)∧wr.cell? ⟨b,off+k * 5+4,none⟩=some (.slice A2 n2 c2))∧
  Zt wr (.agg #[.bool e.f.num.neg,.slice A1 n1 c1,.bool e.f.den.neg,.slice A2 n2 c2]) e.f:=by
 obtain ⟨cs,h1,h2⟩:=h;obtain ⟨x,y,z,u,c0,c1,c2,c3,c4,hm⟩:=h2.2 k e he;have hk:k < es.length:=(List.getElem?_eq_some_iff.1 he).1;have hn:=h1.len;subst hn;obtain ⟨b,off,hA,a,hc⟩:=h1.at_ (by omega);obtain ⟨A1,n1,k1,A2,n2,k2,hv,d1,d2⟩:=id hm;simp at hv;obtain ⟨rfl,rfl,rfl,rfl⟩:=hv;exact ⟨b,off,A1,n1,k1,A2,n2,k2,hA,a,⟨Zf hb (hc _ _ c0),Zf hb (hc _ _ c1),Zf hb (hc _ _ c2),Zf hb (hc _ _ c3),Zf hb (hc _ _ c4)⟩,hm.below hb⟩
def XO (w:World) (v:Value) (cols:List (List En)):Prop:=∃cs,V7 w 66 1 v cols.length cs∧∀(k:Nat) (c:List En),cols[k]? =some c→∃u,cs[k]? =some u∧Vf w u c
theorem XO.below {w w':World} {v:Value} {cols:List (List En)} (h:XO w v cols) (hb:Below w.heap.size w w'):XO w' v cols:=by
 obtain ⟨cs,h1,h2⟩:=h;exact ⟨cs,h1.below hb,fun k c hc=>by obtain ⟨u,g1,g2⟩:=h2 k c hc;exact ⟨u,g1,g2.below hb⟩⟩
theorem XO.shape {w:World} {v:Value} {cols:List (List En)} (h:XO w v cols):∃A c,v= .slice A cols.length c∧cols.length≤c∧c≤9223372036854775807:=by
 obtain ⟨cs,h1,h2⟩:=h;exact h1.shape
theorem XO.elem {w wr:World} {A:Option Addr} {n c:Nat} {cols:List (List En)} (h:XO w (.slice A n c) cols) (hb:Below w.heap.size w wr) {k:Nat} {es:List En} (he:cols[k]? =some es):
 ∃b off A1 c1,A=some ⟨b,off,none⟩∧b < w.heap.size∧wr.cell? ⟨b,off+k,none⟩=some (.slice A1 es.length c1)∧Vf wr (.slice A1 es.length c1) es:=by
 obtain ⟨cs,h1,h2⟩:=h;obtain ⟨u,hu,hv⟩:=h2 k es he;have hk:k < cols.length:=(List.getElem?_eq_some_iff.1 he).1;have hn:=h1.len;subst hn;obtain ⟨b,off,hA,a,hc⟩:=h1.at_ (by omega);obtain ⟨A1,c1,rfl,_,_⟩:=hv.shape;exact ⟨b,off,A1,c1,hA,a,Zf hb (hc _ _ hu),hv.below hb⟩
def LpM (w:World) (v:Value) (p:LPd):Prop:=
 ∃A n c A' n' c' A'' n'' c'',v= .agg #[.slice A n c,.slice A' n' c',.slice A'' n'' c'']∧Xh w (.slice A n c) p.cost∧XO w (.slice A' n' c') p.cols∧Xh w (.slice A'' n'' c'') p.right
theorem LpM.below {w w':World} {v:Value} {p:LPd} (h:LpM w v p) (hb:Below w.heap.size w w'):LpM w' v p:=by
 obtain ⟨A,n,c,A',n',c',a,b,d,h1,h2,h3,h4⟩:=h;exact ⟨A,n,c,A',n',c',a,b,d,h1,h2.below hb,h3.below hb,h4.below hb⟩
theorem Xh.len {w:World} {A:Option Addr} {n c:Nat} {fs:List RF} (h:Xh w (.slice A n c) fs):n=fs.length∧n≤c∧c≤9223372036854775807:=by
 obtain ⟨A',c',e,h1,h2⟩:=h.shape;injection e with _ e2 e3;subst e2 e3;exact ⟨rfl,h1,h2⟩
theorem Vf.len {w:World} {A:Option Addr} {n c:Nat} {fs:List En} (h:Vf w (.slice A n c) fs):n=fs.length∧n≤c∧c≤9223372036854775807:=by
 obtain ⟨A',c',e,h1,h2⟩:=h.shape;injection e with _ e2 e3;subst e2 e3;exact ⟨rfl,h1,h2⟩
theorem XO.len {w:World} {A:Option Addr} {n c:Nat} {fs:List (List En)} (h:XO w (.slice A n c) fs):n=fs.length∧n≤c∧c≤9223372036854775807:=by
 obtain ⟨A',c',e,h1,h2⟩:=h.shape;injection e with _ e2 e3;subst e2 e3;exact ⟨rfl,h1,h2⟩
section
variable {w:World} {g:Nat} {t:TypeId} {a b c:Value}
theorem Bk.three (h:Bk w g t [a,b,c]):w.cell? ⟨g,0,none⟩=some a∧w.cell? ⟨g,1,none⟩=some b∧w.cell? ⟨g,2,none⟩=some c:=⟨h.cellAt 0 rfl,h.cellAt 1 rfl,h.cellAt 2 rfl⟩
theorem Bk.five {d e:Value} (h:Bk w g t [a,b,c,d,e]):w.cell? ⟨g,0,none⟩=some a∧w.cell? ⟨g,1,none⟩=some b∧w.cell? ⟨g,2,none⟩=some c∧w.cell? ⟨g,3,none⟩=some d∧w.cell? ⟨g,4,none⟩=some e:=⟨h.cellAt 0 rfl,h.cellAt 1 rfl,h.cellAt 2 rfl,h.cellAt 3 rfl,h.cellAt 4 rfl⟩
end
end
namespace Pl
theorem Zfp {n:Int} {es:List En} {k:Nat} {e:En} (h:es[k]? =some e) (h2:e.idx < 0∨n≤e.idx):UD n (es.drop k) (Wt es k)=5:=by rw [UZ h,if_pos h2]
theorem Zqe {n:Int} {es:List En} {k:Nat} {e p:En} (h:es[k+1]? =some e) (hp:es[k]? =some p) (h2:¬(e.idx < 0∨n≤e.idx)) (h3:e.idx≤p.idx):UD n (es.drop (k+1)) (Wt es (k+1))=8:=by
 rw [UZ h,if_neg h2,if_pos (by simp [Wt,hp,leP,h3])]
theorem Zji {n:Int} {es:List En} {k:Nat} {e:En} (h:es[k]? =some e) (h2:¬(e.idx < 0∨n≤e.idx)) (h3:leP (Wt es k) e.idx=false) (h4:e.f.q=0):UD n (es.drop k) (Wt es k)=11:=by
 rw [UZ h,if_neg h2,if_neg (by simp [h3]),if_pos h4]
theorem Zjj {n:Int} {es:List En} {k:Nat} {e:En} (h:es[k]? =some e) (h2:¬(e.idx < 0∨n≤e.idx)) (h3:leP (Wt es k) e.idx=false) (h4:e.f.q≠0):UD n (es.drop k) (Wt es k)=UD n (es.drop (k+1)) (Wt es (k+1)):=by
 rw [UZ h,if_neg h2,if_neg (by simp [h3]),if_neg h4]
theorem Zxu {es:List En} {k:Nat} {p:En} (hp:es[k]? =some p) {i:Int} (h:¬i≤p.idx):leP (Wt es (k+1)) i=false:=by simp [Wt,hp,leP];omega
theorem YZ {es:List En} {i:Nat} (h:i < es.length):∃f,es[i]? =some f:=⟨es[i],JQ h⟩
def EnI (es:List En):Prop:=∀(k:Nat) (e:En),es[k]? =some e→ -9223372036854775808≤e.idx∧e.idx≤9223372036854775807
end Pl
theorem Zaa (w:World) (x0 x1 x2 x3 x4:Value):∃W,w.alloc (.cells #[x0,x1,x2,x3,x4] 83)=W∧Bk W w.heap.size 83 [x0,x1,x2,x3,x4]∧Below w.heap.size w W:=
 ⟨_,rfl,Bk.new w _ [x0,x1,x2,x3,x4],Zb w _⟩
theorem Xq (v:Value) (es:List En) (n:Int) (w:World) (h:Vf w v es) (hi:EnI es) (h0: -9223372036854775808≤n) (h1:n≤9223372036854775807):
 Calls Tryz.prog 90 #[v,.int .i64 n] w fun e w'=>e= .returned (.int .i64 (vecErr es n))∧Below w.heap.size w w':=by
 obtain ⟨A,c,rfl,N,O⟩:=h.shape;generalize hl:es.length=l at *;have HL:=JZ hl;have HI:=JZ hi;clear hl hi;by_cases r:n < 0
 ·have HV:Hid (vecErr es n=5):=JZ (by unfold vecErr;rw [if_pos (.inl r)]);go_enter Tryz.func90,Tryz.ntmps90;go_wp2;go_ret;exact ⟨by rw [HV.out];rfl,JR _ _⟩
 ·by_cases s:4096 < n
  ·have HV:Hid (vecErr es n=5):=JZ (by unfold vecErr;rw [if_pos (.inr s)]);go_enter Tryz.func90,Tryz.ntmps90;go_wp2;go_ret;exact ⟨by rw [HV.out];rfl,JR _ _⟩
  ·have hv:vecErr es n=UD n (es.drop 0) (Wt es 0):=by
    unfold vecErr;rw [if_neg (by omega)];rfl
   generalize vecErr es n=d at *;have HV:=JZ hv;clear hv;have D:decide (n < 0)=false:=(by simpa using r);have E:decide (4096 < n)=false:=(by simpa using s);clear r s;go_enter Tryz.func90,Tryz.ntmps90;go_wp2;clear D E
   go_loopw [15] (fun i wr=>∃k:Nat,k≤l∧i= .int .i64 k∧Below w.heap.size w wr∧d=UD n (es.drop k) (Wt es k)) (fun i _=>l - (intOf i).toNat)
   case atStart=>exact ⟨0,by omega,rfl,JR _ _,HV.out⟩
   case round=>
    obtain ⟨k,hk,rfl,x,G⟩:=hrel;have HE:=JZ G;clear G HV;rcases JX k l with hkl | hkl
    ·obtain ⟨e,he⟩:=YZ (es:=es) (i:=k) (by rw [HL.out];exact hkl);obtain ⟨b,P,A1,n1,c1,A2,n2,c2,rfl,R,g,hm⟩:=h.elem x he;obtain ⟨x0,x1,x2,x3,x4⟩:=g;obtain ⟨i0,i1⟩:=HI.out k e he;obtain ⟨W,hW,hX,H⟩:=Zaa wr (.int .i64 e.idx) (.bool e.f.num.neg) (.slice A1 n1 c1) (.bool e.f.den.neg) (.slice A2 n2 c2);obtain ⟨z0,z1,z2,z3,z4⟩:=hX.five;have a:=Za x H x.size;have u:=hm.below H;by_cases t:e.idx < 0
     ·have HR:Hid (d=5):=JZ (HE.out.trans (Zfp he (.inl t)));clear he;go_wp2;go_ret;exact ⟨by rw [HR.out];rfl,a⟩
     ·by_cases C:n≤e.idx
      ·have HR:Hid (d=5):=JZ (HE.out.trans (Zfp he (.inr C)));clear he;go_wp2;go_ret;exact ⟨by rw [HR.out];rfl,a⟩
      ·have F:¬(e.idx < 0∨n≤e.idx):=(by omega);have o:=JZ F;have D:decide (e.idx < 0)=false:=(by simpa using t);have E:decide (n≤e.idx)=false:=(by simpa using C);clear F t C;by_cases y:k=0
       ·have HP:Hid (leP (Wt es k) e.idx=false):=JZ (by rw [y];rfl);have hg:decide ((0:Int) < (k:Int))=false:=(by simp;omega);have I:decide (0 < k)=false:=(by simp;omega);clear y;by_cases hz:e.f.q=0
        ·have B:qs e.f.q=0:=Yp.2 hz;have HR:Hid (d=11):=JZ (HE.out.trans (Zji he o.out HP.out hz));clear he hz;go_wp2
         go_quiet (fail)
         go_wp2_with fail;refine (Zx _ e.f _ (u.keep (ZF.drewN _ _))).mono ?_;rintro _ w2 ⟨rfl,m⟩;go_wp2;go_ret;exact ⟨by rw [HR.out];rfl,Za (below_drewN a _) m a.size⟩
        ·have B:(qs e.f.q==0)=false:=(by simpa using fun h=>hz (Yp.1 h));have HR:Hid (d=UD n (es.drop (k+1)) (Wt es (k+1))):=JZ (HE.out.trans (Zjj he o.out HP.out hz));clear he hz;go_wp2
         go_quiet (fail)
         go_wp2_with fail;refine (Zx _ e.f _ (u.keep (ZF.drewN _ _))).mono ?_;rintro _ w2 ⟨rfl,m⟩;go_wp2;go_roundw
         case rel=>exact ⟨k+1,by omega,by go_num,Za (below_drewN a _) m a.size,HR.out⟩
         case measure=>simp [intOf];omega
       ·obtain ⟨j,hj⟩:∃j,k=j+1:=⟨k - 1,by omega⟩;have L:(k:Int) - 1=(j:Int):=(by omega);have hg:(0:Int) < (k:Int):=(by omega);have I:0 < k:=(by omega);have HJ:=JZ hj;obtain ⟨p,hp⟩:=YZ (es:=es) (i:=j) (by rw [HL.out];omega);obtain ⟨b2,K,B1,m1,d1,B2,m2,d2,hA,_,g,_⟩:=h.elem a hp;injection hA with hA;injection hA with hA1 hA2;subst hA1 hA2;obtain ⟨y0,_,_,_,_⟩:=g;obtain ⟨j0,j1⟩:=HI.out j p hp;have M:(j:Int) < l:=(by omega);by_cases z:e.idx≤p.idx
        ·have HR:Hid (d=8):=JZ (HE.out.trans (by rw [HJ.out] at he ⊢;exact Zqe he hp o.out z));clear he hp y hj;go_wp2
         go_quiet (fail)
         go_wp2;go_ret;exact ⟨by rw [HR.out];rfl,below_drewN a _⟩
        ·have HP:Hid (leP (Wt es k) e.idx=false):=JZ (by rw [HJ.out];exact Zxu hp z);have J:decide (e.idx≤p.idx)=false:=(by simpa using z);clear hp y hj z;by_cases hz:e.f.q=0
         ·have B:qs e.f.q=0:=Yp.2 hz;have HR:Hid (d=11):=JZ (HE.out.trans (Zji he o.out HP.out hz));clear he hz;go_wp2
          go_quiet (fail)
          go_wp2_with fail;refine (Zx _ e.f _ (u.keep (ZF.drewN _ _))).mono ?_;rintro _ w2 ⟨rfl,m⟩;go_wp2;go_ret;exact ⟨by rw [HR.out];rfl,Za (below_drewN a _) m a.size⟩
         ·have B:(qs e.f.q==0)=false:=(by simpa using fun h=>hz (Yp.1 h));have HR:Hid (d=UD n (es.drop (k+1)) (Wt es (k+1))):=JZ (HE.out.trans (Zjj he o.out HP.out hz));clear he hz;go_wp2
          go_quiet (fail)
          go_wp2_with fail;refine (Zx _ e.f _ (u.keep (ZF.drewN _ _))).mono ?_;rintro _ w2 ⟨rfl,m⟩;go_wp2;go_roundw
          case rel=>exact ⟨k+1,by omega,by go_num,Za (below_drewN a _) m a.size,HR.out⟩
          case measure=>simp [intOf];omega
    ·have HR:Hid (d=0):=JZ (HE.out.trans (Zxt (by rw [HL.out];omega)));go_wp2;go_ret;exact ⟨by rw [HR.out];rfl,x⟩
namespace Pl
def LPd.Ok (K:Nat) (p:LPd):Prop:=RsL K p.cost∧RsL K p.right∧∀(j:Nat) (c:List En),p.cols[j]? =some c→EnI c∧∀(k:Nat) (e:En),c[k]? =some e→e.f.Rs K
theorem Zde {p:LPd} (h:64 < p.right.length∨1200 < p.cols.length):lpErr p=10:=by unfold lpErr;rw [if_pos h]
theorem Zmc {p:LPd} (h:¬(64 < p.right.length∨1200 < p.cols.length)) (h2:p.cost.length≠p.cols.length):lpErr p=12:=by unfold lpErr;rw [if_neg h,if_pos h2]
theorem Zqf {p:LPd} (h:¬(64 < p.right.length∨1200 < p.cols.length)) (h2:p.cost.length=p.cols.length):lpErr p=Xi (p.right.length:Int) (p.cols.drop 0):=by unfold lpErr;rw [if_neg h,if_neg (by omega)];rfl
theorem Xb {cs:List (List En)} {i:Nat} (h:i < cs.length):∃f,cs[i]? =some f:=⟨cs[i],JQ h⟩
end Pl
theorem Zj (w:World):Below w.heap.size w w.drew:=(JR _ _).drew
theorem Y6 (w:World) (x y z:Value):∃W,w.alloc (.cells #[x,y,z] 26)=W∧Bk W w.heap.size 26 [x,y,z]∧Below w.heap.size w W:=⟨_,rfl,Bk.new w _ [x,y,z],Zb w _⟩
theorem Wx (v:Value) (p:LPd) (K:Nat) (w:World) (h:LpM w v p) (ok:p.Ok K):
 Calls Tryz.prog 49 #[v] w fun e w'=>e= .returned (.int .i64 (lpErr p))∧Below w.heap.size w w':=by
 obtain ⟨A,n,c,A',n',c',x,a,y,rfl,hc,hv,hr⟩:=h;obtain ⟨W,hW,hX,d⟩:=Y6 w (.slice A n c) (.slice A' n' c') (.slice x a y);obtain ⟨x0,x1,x2⟩:=hX.three;obtain ⟨l1,l2,l3⟩:=hc.len;obtain ⟨m1,m2,m3⟩:=hv.len;obtain ⟨r1,r2,r3⟩:=hr.len;have t:=JZ l1;have j:=JZ m1;have o:=JZ r1;clear l1 m1 r1;by_cases B:64 < a
 ·have HV:Hid (lpErr p=10):=JZ (Zde (.inl (by rw [← o.out];exact B)));have f:(64:Int) < a:=by omega
  go_enter Tryz.func49,Tryz.ntmps49;go_wp2;go_ret;exact ⟨by rw [HV.out];rfl,d⟩
 ·by_cases s:1200 < n'
  ·have HV:Hid (lpErr p=10):=JZ (Zde (.inr (by rw [← j.out];exact s)));have f:decide ((64:Int) < a)=false:=(by simp;omega);have g:(1200:Int) < n':=(by omega);go_enter Tryz.func49,Tryz.ntmps49;go_wp2;go_ret;exact ⟨by rw [HV.out];rfl,d⟩
  ·have HB:Hid (¬(64 < p.right.length∨1200 < p.cols.length)):=JZ (by rw [← o.out,← j.out];omega);have f:decide ((64:Int) < a)=false:=(by simp;omega);have g:decide ((1200:Int) < n')=false:=(by simp;omega);by_cases l:n=n'
   ·have q:=Zqf HB.out (by rw [← t.out,← j.out];exact l);rw [← o.out] at q;subst l;generalize lpErr p=m at *;have HV:=JZ q;clear q;go_enter Tryz.func49,Tryz.ntmps49;go_wp2;clear hW f g
    go_loopw [26] (fun i wr=>∃k:Nat,k≤n∧i= .int .i64 k∧Below w.heap.size w wr∧Bk wr w.heap.size 26 [.slice A n c,.slice A' n c',.slice x a y]∧m=Xi (a:Int) (p.cols.drop k)) (fun i _=>n - (intOf i).toNat)
    case atStart=>exact ⟨0,by omega,rfl,d,hX,HV.out⟩
    case round=>
     obtain ⟨k,hk,rfl,d,hX,z⟩:=hrel;have HE:=JZ z;clear z HV x0 x1 x2;obtain ⟨x0,x1,x2⟩:=hX.three;rcases JX k n with hkl | hkl
     ·obtain ⟨es,he⟩:=Xb (cs:=p.cols) (i:=k) (by rw [← j.out];exact hkl);obtain ⟨b,H,A1,c1,rfl,I,C,hm⟩:=hv.elem d he;have HO:=JZ (ok.2.2 k es he);have E:(k:Int) < n:=(by omega);have u:=JZ (Zjh (n:=(a:Int)) he);have F:=Ztr es (a:Int);clear he;go_wp2_with fail;refine (Xq _ es (a:Int) _ hm HO.out.1 (by omega) (by omega)).mono ?_;rintro _ w2 ⟨rfl,r⟩;by_cases hz:vecErr es (a:Int)=0
      ·have HR:Hid (m=Xi (a:Int) (p.cols.drop (k+1))):=JZ (by rw [HE.out,u.out,if_pos hz]);go_wp2;go_roundw
       case rel=>exact ⟨k+1,by omega,by go_num,Za d r d.size,hX.later r,HR.out⟩
       case measure=>simp [intOf];omega
      ·have HR:Hid (m=vecErr es (a:Int)):=JZ (by rw [HE.out,u.out,if_neg hz]);have G:(vecErr es (a:Int) !=0)=true:=(by simpa using hz);generalize vecErr es (a:Int)=ER at *;clear hz;go_wp2;go_ret;exact ⟨by rw [HR.out];rfl,Za d r d.size⟩
     ·have HR:Hid (m=0):=JZ (HE.out.trans (Zmb (by rw [← j.out];omega)));go_wp2;go_ret;exact ⟨by rw [HR.out];rfl,d⟩
   ·have HV:Hid (lpErr p=12):=JZ (Zmc HB.out (by rw [← t.out,← j.out];exact l));have D:((n:Int) !=(n':Int))=true:=(by simp;omega);clear l;go_enter Tryz.func49,Tryz.ntmps49;go_wp2;go_ret;exact ⟨by rw [HV.out];rfl,d⟩
end Go.Proofs.YtgbhebappffbdaaGreat
