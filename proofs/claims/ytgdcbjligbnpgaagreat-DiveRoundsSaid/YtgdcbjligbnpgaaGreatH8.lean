/- Lemmas of the claim; no condition. -/
import Derived.OpenShut
import Derived.Test.YtgdcbjligbnpgaaGreatH3
set_option linter.all false
set_option maxRecDepth 100000
set_option maxHeartbeats 40000000
namespace Go.Proofs.YtgdcbjligbnpgaaGreat
open Go.RowKit
open Pl
attribute [local go_sem ↓] Go.wp_at_zero Go.wp_at_succ
def FrC (w:World) (cs:List Value) (fs:List RF):Prop:=
 cs.length=fs.length * 4∧∀k f,fs[k]? =some f→∃x y z u,cs[k * 4]? =some x∧cs[k * 4+1]? =some y∧cs[k * 4+2]? =some z∧cs[k * 4+3]? =some u∧FracM w (.agg #[x,y,z,u]) f
theorem FrC.keep {w w':World} {cs:List Value} {fs:List RF} (h:FrC w cs fs) (hk:Keep w w'):FrC w' cs fs:=
 ⟨h.1,fun k f hf=>by
  obtain ⟨x,y,z,u,h1,h2,h3,h4,h5⟩:=h.2 k f hf
  exact ⟨x,y,z,u,h1,h2,h3,h4,h5.keep hk⟩⟩
theorem FrC.nil (w:World):FrC w [] []:=⟨rfl,fun k f h=>by simp at h⟩
theorem FrC.snoc {w:World} {cs:List Value} {fs:List RF} (h:FrC w cs fs) {x y z u:Value} {f:RF} (hf:FracM w (.agg #[x,y,z,u]) f):FrC w (cs++[x,y,z,u]) (fs++[f]):=by
 refine ⟨by simp [h.1];omega,fun k g hg=>?_⟩
 have hl:=h.1
 rcases Nat.lt_or_ge k fs.length with hk | hk
 ·rw [List.getElem?_append_left hk] at hg
  obtain ⟨x',y',z',u',h1,h2,h3,h4,h5⟩:=h.2 k g hg
  refine ⟨x',y',z',u',?_,?_,?_,?_,h5⟩
  ·rw [List.getElem?_append_left (by omega)];exact h1
  ·rw [List.getElem?_append_left (by omega)];exact h2
  ·rw [List.getElem?_append_left (by omega)];exact h3
  ·rw [List.getElem?_append_left (by omega)];exact h4
 ·rw [List.getElem?_append_right hk] at hg
  have hk':k - fs.length=0:=by
   rcases Nat.eq_zero_or_pos (k - fs.length) with e | e
   ·exact e
   ·rw [List.getElem?_eq_none (by simp;omega)] at hg;cases hg
  rw [hk'] at hg
  simp at hg
  subst hg
  obtain rfl:k=fs.length:=by omega
  refine ⟨x,y,z,u,?_,?_,?_,?_,hf⟩
  ·rw [List.getElem?_append_right (by omega),show fs.length * 4 - cs.length=0 by omega];rfl
  ·rw [List.getElem?_append_right (by omega),show fs.length * 4+1 - cs.length=1 by omega];rfl
  ·rw [List.getElem?_append_right (by omega),show fs.length * 4+2 - cs.length=2 by omega];rfl
  ·rw [List.getElem?_append_right (by omega),show fs.length * 4+3 - cs.length=3 by omega];rfl
def RowM (w:World) (t:TypeId) (s:Nat) (v:Value) (n:Nat) (xs:List Value):Prop:=
 ∃A c,v= .slice A n c∧xs.length=n * s∧n≤c∧c≤maxLen∧(0 < n→∃b off cs fz,A=some ⟨b,off,none⟩∧w.heap[b]? =some (.cells cs t fz)∧∀j u,xs[j]? =some u→cs[off+j]? =some u)
theorem RowM.below {w w':World} {t:TypeId} {s n:Nat} {v:Value} {xs:List Value} (h:RowM w t s v n xs) (hb:Below w.heap.size w w'):RowM w' t s v n xs:=by
 obtain ⟨A,c,h1,h2,h3,h4,h5⟩:=h
 refine ⟨A,c,h1,h2,h3,h4,fun hp=>?_⟩
 obtain ⟨b,off,cs,fz,hA,hc,hx⟩:=h5 hp
 exact ⟨b,off,cs,fz,hA,(hb.block b (lt_heap hc)).trans hc,hx⟩
theorem RowM.shape {w:World} {t:TypeId} {s n:Nat} {v:Value} {xs:List Value} (h:RowM w t s v n xs):∃A c,v= .slice A n c∧n≤c∧c≤9223372036854775807:=by
 obtain ⟨A,c,h1,h2,h3,h4,h5⟩:=h
 unfold maxLen at h4
 exact ⟨A,c,h1,h3,by omega⟩
theorem RowM.at_ {w:World} {t:TypeId} {s n c:Nat} {A:Option Addr} {xs:List Value} (h:RowM w t s (.slice A n c) n xs) (hn:0 < n):
 ∃b off,A=some ⟨b,off,none⟩∧b < w.heap.size∧∀j u,xs[j]? =some u→w.cell? ⟨b,off+j,none⟩=some u:=by
 obtain ⟨A',c',hv,h2,h3,h4,h5⟩:=h
 injection hv with e1 e2 e3
 subst e1
 obtain ⟨b,off,cs,fz,hA,hc,hx⟩:=h5 hn
 exact ⟨b,off,hA,lt_heap hc,fun j u hj=>by rw [cell_of_row w b (off+j) cs _ fz hc,hx j u hj]⟩
theorem RowM.len {w:World} {t:TypeId} {s n m c:Nat} {A:Option Addr} {xs:List Value} (h:RowM w t s (.slice A n c) m xs):n=m:=by
 obtain ⟨A',c',hv,_⟩:=h
 injection hv
theorem RowM.of_own {w:World} {base:Nat} {t:TypeId} {s n:Nat} {v:Value} {xs:List Value} (h:w.ownsRow base t s v n xs):RowM w t s v n xs:=by
 rcases h.2 with ⟨rfl,h0⟩ | ⟨g,cap,cur,rfl,hb,hg,hnc,hcm,hcs,htake⟩
 ·have hl:=h.1
  have hx:n=0∨s=0:=by
   subst h0
   exact Or.inl rfl
  subst h0
  exact ⟨none,0,rfl,hl,Nat.le_refl _,by simp,fun hp=>by omega⟩
 ·refine ⟨_,cap,rfl,h.1,hnc,hcm,fun _=>⟨g,0,cur,(0,0),rfl,hg,fun j u hj=>?_⟩⟩
  rw [← htake,List.getElem?_take] at hj
  split at hj
  ·simpa using hj
  ·cases hj
theorem RowM.nil (w:World) (t:TypeId) (s:Nat) (A:Option Addr) (c:Nat) (hm:c≤maxLen):RowM w t s (.slice A 0 c) 0 []:=⟨A,c,rfl,by simp,Nat.zero_le _,hm,fun h=>by omega⟩
def FrsM (w:World) (v:Value) (fs:List RF):Prop:=∃cs,RowM w 59 4 v fs.length cs∧FrC w cs fs
theorem FrsM.below {w w':World} {v:Value} {fs:List RF} (h:FrsM w v fs) (hb:Below w.heap.size w w'):FrsM w' v fs:=by
 obtain ⟨cs,h1,h2⟩:=h
 exact ⟨cs,h1.below hb,h2.keep (Keep.of_below hb)⟩
theorem FrsM.shape {w:World} {v:Value} {fs:List RF} (h:FrsM w v fs):∃A c,v= .slice A fs.length c∧fs.length≤c∧c≤9223372036854775807:=by
 obtain ⟨cs,h1,h2⟩:=h
 exact h1.shape
theorem FrsM.at_ {w:World} {A:Option Addr} {n c:Nat} {fs:List RF} (h:FrsM w (.slice A n c) fs) {k:Nat} {f:RF} (hf:fs[k]? =some f):
 ∃b off x y z u,A=some ⟨b,off,none⟩∧b < w.heap.size∧w.cell? ⟨b,off+k * 4,none⟩=some x∧w.cell? ⟨b,off+k * 4+1,none⟩=some y∧w.cell? ⟨b,off+k * 4+2,none⟩=some z∧w.cell? ⟨b,off+k * 4+3,none⟩=some u∧FracM w (.agg #[x,y,z,u]) f:=by
 obtain ⟨cs,h1,h2⟩:=h
 obtain ⟨x,y,z,u,c1,c2,c3,c4,hm⟩:=h2.2 k f hf
 have hk:k < fs.length:=(List.getElem?_eq_some_iff.1 hf).1
 have hn:=h1.len
 subst hn
 obtain ⟨b,off,hA,hb,hc⟩:=h1.at_ (by omega)
 exact ⟨b,off,x,y,z,u,hA,hb,hc _ _ c1,hc _ _ c2,hc _ _ c3,hc _ _ c4,hm⟩
def FrsO (base:Nat) (w:World) (v:Value) (fs:List RF):Prop:=∃cs,w.ownsRow base 59 4 v fs.length cs∧FrC w cs fs
theorem FrsO.frs {base:Nat} {w:World} {v:Value} {fs:List RF} (h:FrsO base w v fs):FrsM w v fs:=by
 obtain ⟨cs,h1,h2⟩:=h
 exact ⟨cs,RowM.of_own h1,h2⟩
theorem own_below {w w':World} {base:Nat} {t:TypeId} {s n:Nat} {v:Value} {xs:List Value} (h:w.ownsRow base t s v n xs) (hb:Below w.heap.size w w'):w'.ownsRow base t s v n xs:=by
 refine ⟨h.1,?_⟩
 rcases h.2 with hn | ⟨g,cap,cur,rfl,hb',hgg,rest⟩
 ·exact .inl hn
 ·exact .inr ⟨g,cap,cur,rfl,hb',(hb.block g (lt_heap hgg)).trans hgg,rest⟩
theorem FrsO.below {base:Nat} {w w':World} {v:Value} {fs:List RF} (h:FrsO base w v fs) (hb:Below w.heap.size w w'):FrsO base w' v fs:=by
 obtain ⟨cs,h1,h2⟩:=h
 exact ⟨cs,own_below h1 hb,h2.keep (Keep.of_below hb)⟩
theorem FrsO.nil (base:Nat) (w:World):FrsO base w (.slice none 0 0) []:=⟨[],World.ownsRow_nil _ _ _ _,FrC.nil _⟩
theorem info_frac:(Tryz.prog.info? 59).map (fun i=>(i.zero,i.size,i.bytes))=some (some (.agg #[.bool false,.slice none 0 0,.bool false,.slice none 0 0]),4,64):=by kernel_rfl
def KeepBut (e:TypeId) (w w':World):Prop:=∀(b:Nat) (cs:Array Value) (t:TypeId) (fz:Nat × Nat),t≠e→w.heap[b]? =some (.cells cs t fz)→w'.heap[b]? =some (.cells cs t fz)
theorem KeepBut.keep {e:TypeId} {w w':World} (h:KeepBut e w w') (he:72≠e):Keep w w':=fun b cs fz hb=>h b cs _ fz he hb
theorem KeepBut.bk {e:TypeId} {w w':World} {g:Nat} {t:TypeId} {cs:List Value} (h:KeepBut e w w') (hb:Bk w g t cs) (ht:t≠e):Bk w' g t cs:=h g _ t _ ht hb
theorem KeepBut.own {e:TypeId} {w w':World} {base:Nat} {t:TypeId} {s n:Nat} {v:Value} {xs:List Value} (h:KeepBut e w w') (ho:w.ownsRow base t s v n xs) (ht:t≠e):w'.ownsRow base t s v n xs:=by
 refine ⟨ho.1,?_⟩
 rcases ho.2 with hn | ⟨g,cap,cur,rfl,hb',hgg,rest⟩
 ·exact .inl hn
 ·exact .inr ⟨g,cap,cur,rfl,hb',h g _ t _ ht hgg,rest⟩
theorem KeepBut.row {e:TypeId} {w w':World} {t:TypeId} {s n:Nat} {v:Value} {xs:List Value} (h:KeepBut e w w') (hr:RowM w t s v n xs) (ht:t≠e):RowM w' t s v n xs:=by
 obtain ⟨A,c,h1,h2,h3,h4,h5⟩:=hr
 refine ⟨A,c,h1,h2,h3,h4,fun hp=>?_⟩
 obtain ⟨b,off,cs,fz,hA,hc,hx⟩:=h5 hp
 exact ⟨b,off,cs,fz,hA,h b cs t fz ht hc,hx⟩
theorem KeepBut.trans {e:TypeId} {a b c:World} (h:KeepBut e a b) (k:KeepBut e b c):KeepBut e a c:=fun x cs t fz ht hx=>k x cs t fz ht (h x cs t fz ht hx)
theorem KeepBut.setCell {w:World} {g:Nat} {cs:Array Value} {e:TypeId} {fz:Nat × Nat} (h:w.heap[g]? =some (.cells cs e fz)) (i:Nat) (u:Value):KeepBut e w (w.setCell ⟨g,i,none⟩ u):=by
 intro b cs' t fz' ht hb
 have hne:b≠g:=by
  rintro rfl
  rw [h] at hb
  injection hb with hb
  injection hb with _ h2 _
  exact ht h2.symm
 rw [heap_setCell_other w _ _ _ hne]
 exact hb
theorem run_append_one (ty t e:TypeId) (i:TypeInfo) (z:Value) (size bytes:Nat) (ht:Tryz.prog.underlying t=some (.slice e)) (hi:Tryz.prog.info? e=some i) (hz:i.zero=some z)
 (hsize:i.size=size) (hby:i.bytes=bytes) (hzs:z.cells.size=size) (hsz:0 < size) (W:World) (base:Nat) (v:Value) (n:Nat) (xs news:List Value) (hown:W.ownsRow base e size v n xs)
 (hl:news.length=size) (h1:∀u∈news,u.oneCell'=true) (hn:n+1≤maxLen) (hb:(n+1) * bytes≤140737488355328) (hbase:base≤W.heap.size):
 ∃v' w',(Builtin.append_ #[t,t] ty #[v,.slice (some ⟨W.heap.size,0,none⟩) 1 1]).run Tryz.prog (W.alloc (.cells news.toArray e))= .ok v' w'∧w'.ownsRow base e size v' (n+1) (xs++news)∧KeepBut e W w'∧Below base W w':=by
 have hnew:Bk (W.alloc (.cells news.toArray e)) W.heap.size e news:=Bk.new W e news
 obtain ⟨v',w',hrun,h2,h3,_,_⟩:=run_append_own_at (P:=Tryz.prog) (W.alloc (.cells news.toArray e)) base t ty e i z size bytes ht hi hz hsize hby hzs hsz v n xs (hown.alloc _) ⟨W.heap.size,0,none⟩ 1 1 news (by omega) (fun j u hj=>by rw [addr_add,Nat.zero_add,hnew.cell];exact hj) h1 hn hb (by simp;omega)
 refine ⟨v',w',hrun,h2,?_,?_⟩
 ·intro b cs t' fz hne hc
  have hlt:=lt_heap hc
  refine (h3.block b (by simp;omega) ?_).trans ((Below.heap_alloc W _ b hlt).trans hc)
  intro e1
  rcases hown.2 with ⟨rfl,_⟩ | ⟨g,cap,cur,rfl,_,hg,_⟩
  ·simp [Value.ownBlock] at e1
  ·simp [Value.ownBlock] at e1
   subst e1
   rw [hg] at hc
   injection hc with hc
   injection hc with _ h2 _
   exact hne h2.symm
 ·refine ((Below.refl _ _).alloc hbase _).grown h3 (by simp;omega) (fun k hk=>?_)
  exact (hown.lt k hk).1
 where
  addr_add (g j:Nat):(⟨g,0,none⟩:Addr).add j=⟨g,0+j,none⟩:=by
   unfold Addr.add
   split
   ·rename_i h;subst h;rfl
   ·rfl
theorem wpList_append_one {ops:Array Oper} {rest:List Oper} {o:Oper} {a:Act} {Q:Exit→Act→World→Prop} (hgd:o.guard=none) (s x:Operand) (t:TypeId)
 (ho:o.op= .call { callee:= .builtin .append,args:=#[s,x],argTypes:=#[t,t] })
 (e:TypeId) (i:TypeInfo) (z:Value) (size bytes:Nat) (ht:Tryz.prog.underlying t=some (.slice e)) (hi:Tryz.prog.info? e=some i) (hz:i.zero=some z)
 (hsize:i.size=size) (hby:i.bytes=bytes) (hzs:z.cells.size=size) (hsz:0 < size) (W:World) (base:Nat) (v:Value) (n:Nat) (xs news:List Value) (hs:a.eval s=v) (hown:W.ownsRow base e size v n xs)
 (hx:a.eval x= .slice (some ⟨W.heap.size,0,none⟩) 1 1) (hl:news.length=size) (h1:∀u∈news,u.oneCell'=true) (hn:n+1≤maxLen) (hb:(n+1) * bytes≤140737488355328) (hbase:base≤W.heap.size)
 (h:∀v' w',w'.ownsRow base e size v' (n+1) (xs++news)→KeepBut e W w'→Below base W w'→wpList Tryz.prog ops Q rest (a.put o.dst v') w'):
 wpList Tryz.prog ops Q (o::rest) a (W.alloc (.cells news.toArray e)):=by
 refine wpList_plain hgd fun K hK=>?_
 obtain ⟨v',w',hr,h2,h3,h4⟩:=run_append_one o.type t e i z size bytes ht hi hz hsize hby hzs hsz W base v n xs news hown hl h1 hn hb hbase
 unfold Oper.wp execOp
 simp only [ho,resolve,invoke,builtin,Sem.run_bind,Sem.run_pure,Result.andThen_ok,List.map_toArray,List.map_cons,List.map_nil,hs,hx,hr]
 exact hK _ _ (h v' w' h2 h3 h4)
theorem frac_oneCell {x y:Bool} {A A':Option Addr} {n c n' c':Nat}:∀u∈[Value.bool x,.slice A n c,.bool y,.slice A' n' c'],u.oneCell'=true:=by
 intro u hu
 simp at hu
 rcases hu with rfl | rfl | rfl | rfl <;> rfl
theorem wpList_append_frac {ops:Array Oper} {rest:List Oper} {o:Oper} {a:Act} {Q:Exit→Act→World→Prop} (hgd:o.guard=none) (s x:Operand)
 (ho:o.op= .call { callee:= .builtin .append,args:=#[s,x],argTypes:=#[35,35] })
 (W:World) (base:Nat) (v:Value) (fs:List RF) (hs:a.eval s=v) (hown:FrsO base W v fs) (b b':Bool) (A A':Option Addr) (n c n' c':Nat) (f:RF) (hf:FracM W (.agg #[.bool b,.slice A n c,.bool b',.slice A' n' c']) f)
 (hx:a.eval x= .slice (some ⟨W.heap.size,0,none⟩) 1 1) (hn:fs.length+1≤1099511627776) (hbase:base≤W.heap.size)
 (h:∀v' w',FrsO base w' v' (fs++[f])→KeepBut 59 W w'→Below base W w'→wpList Tryz.prog ops Q rest (a.put o.dst v') w'):
 wpList Tryz.prog ops Q (o::rest) a (W.alloc (.cells #[.bool b,.slice A n c,.bool b',.slice A' n' c'] 59)):=by
 obtain ⟨cs,h1,h2⟩:=hown
 obtain ⟨i0,hi,hz0,hz1,hz2⟩:=info_parts info_frac
 refine wpList_append_one hgd s x 35 ho 59 i0 _ 4 64 Tryz.underlying35 hi hz0 hz1 hz2 rfl (by decide) W base v fs.length cs [.bool b,.slice A n c,.bool b',.slice A' n' c'] hs h1 hx rfl frac_oneCell (by unfold maxLen;omega) (by omega) hbase ?_
 intro v' w' g1 g2 g3
 refine h v' w' ⟨_,by simpa using g1,?_⟩ g2 g3
 have hk:=g2.keep (by decide)
 exact (h2.keep hk).snoc (hf.keep hk)
theorem row_set {w:World} {base:Nat} {e:TypeId} {size n c g:Nat} {xs:List Value} (h:w.ownsRow base e size (.slice (some ⟨g,0,none⟩) n c) n xs) (j:Nat) (u:Value) (hj:j < xs.length):
 (w.setCell ⟨g,j,none⟩ u).ownsRow base e size (.slice (some ⟨g,0,none⟩) n c) n (xs.set j u):=by
 refine ⟨by rw [List.length_set];exact h.1,?_⟩
 rcases h.2 with ⟨h0,_⟩ | ⟨g',cap,cur,hv,hb,hg,hnc,hcm,hcs,htake⟩
 ·injection h0 with h0;cases h0
 ·injection hv with e1 e2 e3
  injection e1 with e1
  injection e1 with e1
  subst e1 e3
  refine .inr ⟨g,c,cur.setIfInBounds j u,rfl,hb,?_,hnc,hcm,by simpa using hcs,?_⟩
  ·rw [heap_setCell_same w g j _ e u hg]
  ·rw [Array.toList_setIfInBounds,List.take_set,htake]
theorem row_cell {w:World} {base:Nat} {e:TypeId} {size n c g:Nat} {xs:List Value} (h:w.ownsRow base e size (.slice (some ⟨g,0,none⟩) n c) n xs) {j:Nat} {u:Value} (hj:xs[j]? =some u):w.cell? ⟨g,j,none⟩=some u∧w.frozen? ⟨g,j,none⟩=false:=by
 rcases h.2 with ⟨h0,_⟩ | ⟨g',cap,cur,hv,hb,hg,hnc,hcm,hcs,htake⟩
 ·injection h0 with h0;cases h0
 ·injection hv with e1 e2 e3
  injection e1 with e1
  injection e1 with e1
  subst e1 e3
  refine ⟨?_,frozen_of_row w g j _ _ hg⟩
  rw [cell_of_row w g j _ _ _ hg]
  rw [← htake,List.getElem?_take] at hj
  split at hj
  ·simpa using hj
  ·cases hj
theorem row_block {w:World} {base:Nat} {e:TypeId} {size n c g:Nat} {xs:List Value} (h:w.ownsRow base e size (.slice (some ⟨g,0,none⟩) n c) n xs):∃cur,w.heap[g]? =some (.cells cur e (0,0))∧base≤g:=by
 rcases h.2 with ⟨h0,_⟩ | ⟨g',cap,cur,hv,hb,hg,hnc,hcm,hcs,htake⟩
 ·injection h0 with h0;cases h0
 ·injection hv with e1 e2 e3
  injection e1 with e1
  injection e1 with e1
  subst e1
  exact ⟨cur,hg,hb⟩
namespace Pl
def qAt (fs:List RF) (i:Nat):Rat:=match fs[i]? with | some f=>f.q | none=>0
end Pl
theorem cell4_later {w w':World} {b o:Nat} {x y z u:Value} (hb:Below w.heap.size w w') (h:w.cell? ⟨b,o,none⟩=some x∧w.cell? ⟨b,o+1,none⟩=some y∧w.cell? ⟨b,o+2,none⟩=some z∧w.cell? ⟨b,o+3,none⟩=some u):
 w'.cell? ⟨b,o,none⟩=some x∧w'.cell? ⟨b,o+1,none⟩=some y∧w'.cell? ⟨b,o+2,none⟩=some z∧w'.cell? ⟨b,o+3,none⟩=some u:=
 ⟨cell_keep hb h.1,cell_keep hb h.2.1,cell_keep hb h.2.2.1,cell_keep hb h.2.2.2⟩
theorem FrsM.elem {w wr:World} {A:Option Addr} {n c:Nat} {fs:List RF} (h:FrsM w (.slice A n c) fs) (hb:Below w.heap.size w wr) {k:Nat} {f:RF} (hf:fs[k]? =some f):
 ∃b off A1 n1 c1 A2 n2 c2,A=some ⟨b,off,none⟩∧b < w.heap.size∧(wr.cell? ⟨b,off+k * 4,none⟩=some (.bool f.num.neg)∧wr.cell? ⟨b,off+k * 4+1,none⟩=some (.slice A1 n1 c1)∧wr.cell? ⟨b,off+k * 4+2,none⟩=some (.bool f.den.neg)∧wr.cell? ⟨b,off+k * 4+3,none⟩=some (.slice A2 n2 c2))∧
  FracM wr (.agg #[.bool f.num.neg,.slice A1 n1 c1,.bool f.den.neg,.slice A2 n2 c2]) f:=by
 obtain ⟨b,off,x,y,z,u,hA,hlt,c1,c2,c3,c4,hm⟩:=h.at_ hf
 obtain ⟨A1,n1,k1,A2,n2,k2,hv,d1,d2⟩:=id hm
 simp at hv
 obtain ⟨rfl,rfl,rfl,rfl⟩:=hv
 exact ⟨b,off,A1,n1,k1,A2,n2,k2,hA,hlt,cell4_later hb ⟨c1,c2,c3,c4⟩,hm.below hb⟩
theorem KeepBut.then {e:TypeId} {w W w':World} (h:KeepBut e w W) (hb:Below w.heap.size W w'):KeepBut e w w':=fun b cs t fz ht hc=>(hb.block b (lt_heap hc)).trans (h b cs t fz ht hc)
theorem KeepBut.refl (e:TypeId) (w:World):KeepBut e w w:=fun _ _ _ _ _ h=>h
def Others (g:Option Nat) (w w':World):Prop:=w.heap.size≤w'.heap.size∧∀b,b < w.heap.size→some b≠g→w'.heap[b]? =w.heap[b]?
theorem Others.bk {g:Option Nat} {w w':World} {b:Nat} {t:TypeId} {cs:List Value} (h:Others g w w') (hb:Bk w b t cs) (hne:some b≠g):Bk w' b t cs:=(h.2 b hb.lt hne).trans hb
theorem Others.of_set {g i:Nat} {w:World} {v:Value}:Others (some g) w (w.setCell ⟨g,i,none⟩ v):=⟨by simp,fun b _ hne=>heap_setCell_other w _ _ _ (fun e=>hne (by rw [e]))⟩
theorem Others.trans {g:Option Nat} {a b c:World} (h:Others g a b) (k:Others g b c):Others g a c:=⟨Nat.le_trans h.1 k.1,fun x hx hne=>(k.2 x (Nat.lt_of_lt_of_le hx h.1) hne).trans (h.2 x hx hne)⟩
theorem run_append_oneG (ty t e:TypeId) (i:TypeInfo) (z:Value) (size bytes:Nat) (ht:Tryz.prog.underlying t=some (.slice e)) (hi:Tryz.prog.info? e=some i) (hz:i.zero=some z)
 (hsize:i.size=size) (hby:i.bytes=bytes) (hzs:z.cells.size=size) (hsz:0 < size) (W:World) (base:Nat) (v:Value) (n:Nat) (xs news:List Value) (hown:W.ownsRow base e size v n xs)
 (hl:news.length=size) (h1:∀u∈news,u.oneCell'=true) (hn:n+1≤maxLen) (hb:(n+1) * bytes≤140737488355328) (hbase:base≤W.heap.size):
 ∃v' w',(Builtin.append_ #[t,t] ty #[v,.slice (some ⟨W.heap.size,0,none⟩) 1 1]).run Tryz.prog (W.alloc (.cells news.toArray e))= .ok v' w'∧w'.ownsRow base e size v' (n+1) (xs++news)∧KeepBut e W w'∧Below base W w'∧Others v.ownBlock W w'∧(v'.ownBlock=v.ownBlock∨∀g,v'.ownBlock=some g→W.heap.size≤g):=by
 have hnew:Bk (W.alloc (.cells news.toArray e)) W.heap.size e news:=Bk.new W e news
 obtain ⟨v',w',hrun,h2,h3,_,h5⟩:=run_append_own_at (P:=Tryz.prog) (W.alloc (.cells news.toArray e)) base t ty e i z size bytes ht hi hz hsize hby hzs hsz v n xs (hown.alloc _) ⟨W.heap.size,0,none⟩ 1 1 news (by omega) (fun j u hj=>by rw [addr_add,Nat.zero_add,hnew.cell];exact hj) h1 hn hb (by simp;omega)
 refine ⟨v',w',hrun,h2,?_,?_,⟨?_,?_⟩,?_⟩
 ·intro b cs t' fz hne hc
  have hlt:=lt_heap hc
  refine (h3.block b (by simp;omega) ?_).trans ((Below.heap_alloc W _ b hlt).trans hc)
  intro e1
  rcases hown.2 with ⟨rfl,_⟩ | ⟨g,cap,cur,rfl,_,hg,_⟩
  ·simp [Value.ownBlock] at e1
  ·simp [Value.ownBlock] at e1
   subst e1
   rw [hg] at hc
   injection hc with hc
   injection hc with _ h2 _
   exact hne h2.symm
 ·refine ((Below.refl _ _).alloc hbase _).grown h3 (by simp;omega) (fun k hk=>?_)
  exact (hown.lt k hk).1
 ·have:=h3.size;simp at this;omega
 ·intro b hb hne
  exact (h3.block b (by simp;omega) hne).trans (Below.heap_alloc W _ b hb)
 ·rcases h5 with h5 | h5
  ·exact .inl h5
  ·right;intro g hg;rw [h5] at hg;injection hg with hg;simp at hg;omega
 where
  addr_add (g j:Nat):(⟨g,0,none⟩:Addr).add j=⟨g,0+j,none⟩:=by
   unfold Addr.add
   split
   ·rename_i h;subst h;rfl
   ·rfl
end Go.Proofs.YtgdcbjligbnpgaaGreat
