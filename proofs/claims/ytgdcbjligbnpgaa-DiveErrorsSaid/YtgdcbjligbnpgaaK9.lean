/- Lemmas of the claim; no condition. -/
import Derived.Maps.Own
import Derived.Test.YtgdcbjligbnpgaaK10
set_option linter.all false
set_option maxRecDepth 100000
set_option maxHeartbeats 40000000
namespace Go.Proofs.Ytgdcbjligbnpgaa
open Go.RowKit
open Pl
attribute [local go_sem ↓] Go.wp_at_zero Go.wp_at_succ
section
section
variable {w:World} {g:Nat} {t:TypeId} {a b c:Value}
theorem Bk.three (h:Bk w g t [a,b,c]):w.cell? ⟨g,0,none⟩=some a∧w.cell? ⟨g,1,none⟩=some b∧w.cell? ⟨g,2,none⟩=some c:=⟨h.cellAt 0 rfl,h.cellAt 1 rfl,h.cellAt 2 rfl⟩
theorem Bk.five {d e:Value} (h:Bk w g t [a,b,c,d,e]):w.cell? ⟨g,0,none⟩=some a∧w.cell? ⟨g,1,none⟩=some b∧w.cell? ⟨g,2,none⟩=some c∧w.cell? ⟨g,3,none⟩=some d∧w.cell? ⟨g,4,none⟩=some e:=⟨h.cellAt 0 rfl,h.cellAt 1 rfl,h.cellAt 2 rfl,h.cellAt 3 rfl,h.cellAt 4 rfl⟩
end
end
theorem row_mono {w:World} {base base':Nat} {t:TypeId} {s n:Nat} {v:Value} {xs:List Value} (h:w.ownsRow base t s v n xs) (hb:base'≤base):w.ownsRow base' t s v n xs:=by
 refine ⟨h.1,?_⟩
 rcases h.2 with hn | ⟨g,cap,cur,rfl,hb',rest⟩
 ·exact .inl hn
 ·exact .inr ⟨g,cap,cur,rfl,Nat.le_trans hb hb',rest⟩
theorem addr_add0 (b off j:Nat):(⟨b,off,none⟩:Addr).add j=⟨b,off+j,none⟩:=by
 unfold Addr.add
 split
 ·rename_i h;subst h;rfl
 ·rfl
def IntsO (base:Nat) (w:World) (v:Value) (zs:List Int):Prop:=w.ownsRow base 3 1 v zs.length (zs.map fun z=>Value.int .i64 z)∧∀z∈zs,-9223372036854775808≤z∧z≤9223372036854775807
theorem IntsO.below {base:Nat} {w w':World} {v:Value} {zs:List Int} (h:IntsO base w v zs) (hb:Below w.heap.size w w'):IntsO base w' v zs:=⟨own_below h.1 hb,h.2⟩
theorem IntsO.nil (base:Nat) (w:World):IntsO base w (.slice none 0 0) []:=⟨World.ownsRow_nil _ _ _ _,fun z hz=>by simp at hz⟩
theorem IntsO.monoB {base base':Nat} {w:World} {v:Value} {zs:List Int} (h:IntsO base w v zs) (hb:base'≤base):IntsO base' w v zs:=⟨row_mono h.1 hb,h.2⟩
theorem IntsO.but {base:Nat} {w w':World} {e:TypeId} {v:Value} {zs:List Int} (h:IntsO base w v zs) (hk:KeepBut e w w') (h1:3≠e):IntsO base w' v zs:=⟨hk.own h.1 h1,h.2⟩
theorem IntsO.ints {base:Nat} {w:World} {v:Value} {zs:List Int} (h:IntsO base w v zs):IntsM w v zs:=by
 obtain ⟨A,c,hv,hl,hc,hm,hrow⟩:=RowM.of_own h.1
 refine ⟨A,c,hv,hc,hm,fun hp=>?_,h.2⟩
 obtain ⟨b,off,cs,fz,hA,hb,hx⟩:=hrow hp
 refine ⟨b,off,hA,fun i hi=>?_⟩
 rw [cell_of_row w b (off+i) cs _ fz hb,hx i (.int .i64 (zs.getD i 0)) (by simp [List.getD,List.getElem?_eq_getElem hi])]
theorem IntsO.sliceN {base:Nat} {w:World} {v:Value} {zs:List Int} (h:IntsO base w v zs):∃A n c,v= .slice A n c:=by
 obtain ⟨A,c,hv,_⟩:=RowM.of_own h.1
 exact ⟨A,_,c,hv⟩
theorem info_intT:(Try.prog.info? 3).map (fun i=>(i.zero,i.size,i.bytes))=some (some (.int .i64 0),1,8):=by kernel_rfl
theorem op_append_run {o:Oper} {a:Act} {w w':World} {v x y:Value} {K:Act→World→Prop} {Q:Exit→Act→World→Prop} {ops:Array Oper} {t:TypeId} (s1 s2:Operand) (hgd:o.guard=none) (ho:o.op= .call { callee:= .builtin .append,args:=#[s1,s2],argTypes:=#[t,t] }) (h1:a.eval s1=x) (h2:a.eval s2=y)
 (hrun:(Builtin.append_ #[t,t] o.type #[x,y]).run Try.prog w= .ok v w') (h:K (a.put o.dst v) w'):if Region.wanted o (yielded ops a.tmps)=true then Oper.wp Try.prog o a w K Q else K (a.put o.dst undef) w:=by
 rw [if_pos (by simp [Region.wanted,hgd])]
 unfold Oper.wp execOp
 simp only [ho,resolve,invoke,builtin,Sem.run_bind,Sem.run_pure,Result.andThen_ok,List.map_toArray,List.map_cons,List.map_nil,h1,h2,hrun]
 exact h
theorem IntsO.shape {base:Nat} {w:World} {v:Value} {zs:List Int} (h:IntsO base w v zs) (hp:0 < zs.length):∃g c,v= .slice (some ⟨g,0,none⟩) zs.length c∧base≤g∧g < w.heap.size∧zs.length≤c∧c≤9223372036854775807:=by
 rcases h.1.2 with ⟨rfl,e⟩ | ⟨g,cap,cur,rfl,hb,hg,hnc,hcm,hcs,htake⟩
 ·omega
 ·unfold maxLen at hcm
  exact ⟨g,cap,rfl,hb,lt_heap hg,hnc,by omega⟩
theorem IntsO.len {base:Nat} {w:World} {A:Option Addr} {n c:Nat} {zs:List Int} (h:IntsO base w (.slice A n c) zs):n=zs.length:=(RowM.of_own h.1).len
theorem IntsO.at_ {base:Nat} {w:World} {g n c:Nat} {zs:List Int} (h:IntsO base w (.slice (some ⟨g,0,none⟩) n c) zs) {k:Nat} {z:Int} (hz:zs[k]? =some z):
 w.cell? ⟨g,k,none⟩=some (.int .i64 z)∧w.frozen? ⟨g,k,none⟩=false∧ -9223372036854775808≤z∧z≤9223372036854775807:=by
 have hn:=h.len
 obtain ⟨h1,h2⟩:=h
 subst hn
 obtain ⟨c1,c2⟩:=row_cell h1 (j:=k) (u:= .int .i64 z) (by simp [hz])
 exact ⟨c1,c2,h2 z (List.mem_of_getElem? hz)⟩
theorem IntsO.set_ {base:Nat} {w:World} {g n c:Nat} {zs:List Int} (h:IntsO base w (.slice (some ⟨g,0,none⟩) n c) zs) {k:Nat} (hk:k < zs.length) {z:Int} (h0: -9223372036854775808≤z) (h1:z≤9223372036854775807):
 IntsO base (w.setCell ⟨g,k,none⟩ (.int .i64 z)) (.slice (some ⟨g,0,none⟩) n c) (zs.set k z)∧KeepBut 3 w (w.setCell ⟨g,k,none⟩ (.int .i64 z)):=by
 have hn:=h.len
 obtain ⟨g1,g2⟩:=h
 subst hn
 have o1:=row_set g1 k (.int .i64 z) (by simpa using hk)
 obtain ⟨_,b0,_⟩:=row_block g1
 refine ⟨⟨by rw [List.length_set,List.map_set];exact o1,fun y hy=>?_⟩,KeepBut.setCell b0 k _⟩
 rcases List.mem_or_eq_of_mem_set hy with hy | rfl
 ·exact g2 y hy
 ·exact ⟨h0,h1⟩
theorem IntsO.others {base:Nat} {w w':World} {g:Option Nat} {v:Value} {zs:List Int} (h:IntsO base w v zs) (ho:Others g w w') (hne:∀b,v.ownBlock=some b→some b≠g):IntsO base w' v zs:=by
 refine ⟨⟨h.1.1,?_⟩,h.2⟩
 rcases h.1.2 with hn | ⟨b,cap,cur,rfl,hb',hgg,rest⟩
 ·exact .inl hn
 ·exact .inr ⟨b,cap,cur,rfl,hb',(ho.2 b (lt_heap hgg) (hne b rfl)).trans hgg,rest⟩
def zic (n:Nat):Array Value:=madeCells (Value.cells (.int .i64 0)) (n * 1)
theorem zic_at {n k:Nat} (hk:k < n):(zic n)[k]? =some (.int .i64 0):=by
 unfold zic madeCells
 simp [hk,Value.cells,Nat.mod_one]
theorem IntsO.zeros (w:World) (n:Nat) (hn:n≤maxLen):IntsO w.heap.size (w.alloc (.cells (zic n) 3)) (.slice (some ⟨w.heap.size,0,none⟩) n n) (List.replicate n 0):=by
 have hsz:(zic n).size=n * 1:=size_madeCells _ _
 refine ⟨⟨by simp,.inr ⟨w.heap.size,n,zic n,by simp,Nat.le_refl _,heap_alloc_new w _,by simp,hn,by simpa using hsz,?_⟩⟩,fun z hz=>?_⟩
 ·refine List.ext_getElem? fun i=>?_
  rcases Nat.lt_or_ge i n with e | e
  ·have:=zic_at e
   simp [List.getElem?_take,e,this]
  ·rw [List.getElem?_eq_none (by simp [hsz];omega),List.getElem?_eq_none (by simp;omega)]
 ·have:=List.eq_of_mem_replicate hz
  omega
theorem make_ints (n:Nat) (hn:n≤1099511627776) (w:World):
 (Instr.makeSlice 22 (.int .i64 (n:Int)) (.int .i64 (n:Int))).run Try.prog w= .ok (.slice (some ⟨w.heap.size,0,none⟩) n n) (w.alloc (.cells (zic n) 3)):=by
 obtain ⟨i0,hi,hz0,hz1,hz2⟩:=info_parts info_intT
 have hb:(i0.bytes:Int) * (n:Int)≤281474976710656:=by rw [hz2];omega
 have hr:=run_make (P:=Try.prog) w 22 3 i0 _ Try.underlying22 hi hz0 .i64 .i64 n n (by omega) (by omega) hb (by omega)
 simp only [Int.toNat_natCast,hz1] at hr
 exact hr
theorem seq_skipc {P:Program} {ops:Array Oper} {Q:Exit→Act→World→Prop} {S:World→Prop} {n:Nat} {o:Oper} {i:Nat} {is:List Nat} {a:Act} {w:World} (ho:ops[i]? =some o) (hf:floatI ops n i=false) (hw:Region.wanted o (yielded ops a.tmps)=false) (hS:S w) (h:wpSeq P ops Q S n is (a.put o.dst undef) w):wpSeq P ops Q S n (i::is) a w:=by
 refine seq_step ho hf fun K hK=>?_
 rw [if_neg (by rw [hw];simp)]
 exact hK _ _ (.inr hS) h
theorem wp_append_run {P:Program} {o:Oper} {a:Act} {w w':World} {K:Act→World→Prop} {Q:Exit→Act→World→Prop} {y:Nat→Option Bool} {s x:Operand} {t ty:TypeId} {v u v':Value} (hr:(Builtin.append_ #[t,t] ty #[v,u]).run P w= .ok v' w') (hty:o.type=ty) (hgd:o.guard=none) (ho:o.op= .call { callee:= .builtin .append,args:=#[s,x],argTypes:=#[t,t] })
 (hs:a.eval s=v) (hx:a.eval x=u) (h:K (a.put o.dst v') w'):if Region.wanted o y=true then Oper.wp P o a w K Q else K (a.put o.dst undef) w:=by
 subst hty
 rw [if_pos (by simp [Region.wanted,hgd])]
 unfold Oper.wp execOp
 simp only [ho,resolve,invoke,builtin,Sem.run_bind,Sem.run_pure,Result.andThen_ok,List.map_toArray,List.map_cons,List.map_nil,hs,hx,hr]
 exact h
theorem wpList_append_run {ops:Array Oper} {rest:List Oper} {o:Oper} {a:Act} {Q:Exit→Act→World→Prop} {w w':World} {s x:Operand} {t ty:TypeId} {v u v':Value} (hr:(Builtin.append_ #[t,t] ty #[v,u]).run Try.prog w= .ok v' w') (hty:o.type=ty) (hgd:o.guard=none) (ho:o.op= .call { callee:= .builtin .append,args:=#[s,x],argTypes:=#[t,t] })
 (hs:a.eval s=v) (hx:a.eval x=u) (h:wpList Try.prog ops Q rest (a.put o.dst v') w'):wpList Try.prog ops Q (o::rest) a w:=
 wpList_step fun _ hK=>wp_append_run hr hty hgd ho hs hx (hK _ _ h)
section
section
variable {α:Type} {R:World→α→List Value→Prop}
def RdM (R:World→α→List Value→Prop) (t:TypeId) (s:Nat) (w:World) (v:Value) (l:List α):Prop:=
 ∃cs,RowM w t s v l.length cs∧∀(k:Nat) (x:α),l[k]? =some x→∃u,R w x u∧u.length=s∧∀(j:Nat) (y:Value),u[j]? =some y→cs[k * s+j]? =some y
def RdO (R:World→α→List Value→Prop) (t:TypeId) (s base:Nat) (w:World) (v:Value) (l:List α):Prop:=
 ∃cs,w.ownsRow base t s v l.length cs∧∀(k:Nat) (x:α),l[k]? =some x→∃u,R w x u∧u.length=s∧∀(j:Nat) (y:Value),u[j]? =some y→cs[k * s+j]? =some y
theorem RdO.rd {t:TypeId} {s base:Nat} {w:World} {v:Value} {l:List α} (h:RdO R t s base w v l):RdM R t s w v l:=by
 obtain ⟨cs,h1,h2⟩:=h
 exact ⟨cs,RowM.of_own h1,h2⟩
theorem RdM.keep {e t:TypeId} {s:Nat} {w w':World} {v:Value} {l:List α} (h:RdM R t s w v l) (hk:KeepBut e w w') (ht:t≠e) (hR:∀x u,R w x u→R w' x u):RdM R t s w' v l:=by
 obtain ⟨cs,h1,h2⟩:=h
 exact ⟨cs,hk.row h1 ht,fun k x hx=>by obtain ⟨u,g1,g2⟩:=h2 k x hx;exact ⟨u,hR _ _ g1,g2⟩⟩
theorem RdO.keep {e t:TypeId} {s base:Nat} {w w':World} {v:Value} {l:List α} (h:RdO R t s base w v l) (hk:KeepBut e w w') (ht:t≠e) (hR:∀x u,R w x u→R w' x u):RdO R t s base w' v l:=by
 obtain ⟨cs,h1,h2⟩:=h
 exact ⟨cs,hk.own h1 ht,fun k x hx=>by obtain ⟨u,g1,g2⟩:=h2 k x hx;exact ⟨u,hR _ _ g1,g2⟩⟩
theorem RdM.below {t:TypeId} {s:Nat} {w w':World} {v:Value} {l:List α} (h:RdM R t s w v l) (hb:Below w.heap.size w w') (hR:∀x u,R w x u→R w' x u):RdM R t s w' v l:=by
 obtain ⟨cs,h1,h2⟩:=h
 exact ⟨cs,h1.below hb,fun k x hx=>by obtain ⟨u,g1,g2⟩:=h2 k x hx;exact ⟨u,hR _ _ g1,g2⟩⟩
theorem RdO.below {t:TypeId} {s base:Nat} {w w':World} {v:Value} {l:List α} (h:RdO R t s base w v l) (hb:Below w.heap.size w w') (hR:∀x u,R w x u→R w' x u):RdO R t s base w' v l:=by
 obtain ⟨cs,h1,h2⟩:=h
 exact ⟨cs,own_below h1 hb,fun k x hx=>by obtain ⟨u,g1,g2⟩:=h2 k x hx;exact ⟨u,hR _ _ g1,g2⟩⟩
theorem RdM.shape {t:TypeId} {s:Nat} {w:World} {v:Value} {l:List α} (h:RdM R t s w v l):∃A c,v= .slice A l.length c∧l.length≤c∧c≤9223372036854775807:=by
 obtain ⟨cs,h1,h2⟩:=h
 exact h1.shape
theorem RdM.len {t:TypeId} {s n c:Nat} {A:Option Addr} {w:World} {l:List α} (h:RdM R t s w (.slice A n c) l):n=l.length∧n≤c∧c≤9223372036854775807:=by
 obtain ⟨A',c',e,h1,h2⟩:=h.shape
 injection e with _ e2 e3
 subst e2 e3
 exact ⟨rfl,h1,h2⟩
theorem RdO.nil (t:TypeId) (s base:Nat) (w:World):RdO R t s base w (.slice none 0 0) []:=⟨[],World.ownsRow_nil _ _ _ _,fun k x h=>by simp at h⟩
theorem RdM.nil (t:TypeId) (s:Nat) (w:World) (A:Option Addr) (c:Nat) (hm:c≤maxLen):RdM R t s w (.slice A 0 c) []:=⟨[],RowM.nil _ _ _ _ _ hm,fun k x h=>by simp at h⟩
theorem RdO.slice {t:TypeId} {s base:Nat} {w:World} {v:Value} {l:List α} (h:RdO R t s base w v l):∃A c,v= .slice A l.length c:=by
 obtain ⟨A,c,e,_,_⟩:=h.rd.shape;exact ⟨A,c,e⟩
theorem RdO.sliceN {t:TypeId} {s base:Nat} {w:World} {v:Value} {l:List α} (h:RdO R t s base w v l):∃A n c,v= .slice A n c:=by
 obtain ⟨A,c,e⟩:=h.slice;exact ⟨A,_,c,e⟩
theorem RdO.mono {t:TypeId} {s base base':Nat} {w:World} {v:Value} {l:List α} (h:RdO R t s base w v l) (hb:base'≤base):RdO R t s base' w v l:=by
 obtain ⟨cs,h1,h2⟩:=h
 exact ⟨cs,row_mono h1 hb,h2⟩
theorem RdM.elem {t:TypeId} {s n c:Nat} {A:Option Addr} {w:World} {l:List α} (h:RdM R t s w (.slice A n c) l) {k:Nat} {x:α} (hx:l[k]? =some x):
 ∃b off u,A=some ⟨b,off,none⟩∧b < w.heap.size∧R w x u∧u.length=s∧∀(j:Nat) (y:Value),u[j]? =some y→w.cell? ⟨b,off+k * s+j,none⟩=some y:=by
 obtain ⟨cs,h1,h2⟩:=h
 obtain ⟨u,g1,g2,g3⟩:=h2 k x hx
 have hk:k < l.length:=(List.getElem?_eq_some_iff.1 hx).1
 have hn:=h1.len
 subst hn
 obtain ⟨b,off,hA,hlt,hc⟩:=h1.at_ (by omega)
 exact ⟨b,off,u,hA,hlt,g1,g2,fun j y hj=>by rw [Nat.add_assoc];exact hc _ _ (g3 j y hj)⟩
theorem RdO.snoc {t:TypeId} {s base:Nat} {w w':World} {v':Value} {l:List α} {cs u:List Value} {x:α} (hl:cs.length=l.length * s) (h2:∀(k:Nat) (x:α),l[k]? =some x→∃u,R w x u∧u.length=s∧∀(j:Nat) (y:Value),u[j]? =some y→cs[k * s+j]? =some y)
 (hR:∀x u,R w x u→R w' x u) (hx:R w' x u) (hu:u.length=s) (g1:w'.ownsRow base t s v' (l.length+1) (cs++u)):RdO R t s base w' v' (l++[x]):=by
 refine ⟨cs++u,by simpa using g1,fun k y hy=>?_⟩
 rcases Nat.lt_or_ge k l.length with hk | hk
 ·rw [List.getElem?_append_left hk] at hy
  obtain ⟨u',a1,a2,a3⟩:=h2 k y hy
  refine ⟨u',hR _ _ a1,a2,fun j z hj=>?_⟩
  have:=a3 j z hj
  rw [List.getElem?_append_left (List.getElem?_eq_some_iff.1 this).1]
  exact this
 ·rw [List.getElem?_append_right hk] at hy
  have hk0:k=l.length:=by
   rcases Nat.eq_zero_or_pos (k - l.length) with e | e
   ·omega
   ·rw [List.getElem?_eq_none (by simp;omega)] at hy;cases hy
  subst hk0
  simp at hy
  subst hy
  refine ⟨u,hx,hu,fun j z hj=>?_⟩
  rw [List.getElem?_append_right (by omega),hl,show l.length * s+j - l.length * s=j by omega]
  exact hj
theorem run_append_rd (ty t e:TypeId) (i:TypeInfo) (z:Value) (size bytes:Nat) (ht:Try.prog.underlying t=some (.slice e)) (hi:Try.prog.info? e=some i) (hz:i.zero=some z)
 (hsize:i.size=size) (hby:i.bytes=bytes) (hzs:z.cells.size=size) (hsz:0 < size) (W:World) (base:Nat) (v:Value) (l:List α) (x:α) (news:List Value) (hown:RdO R e size base W v l)
 (hl:news.length=size) (h1:∀u∈news,u.oneCell'=true) (hn:l.length+1≤1099511627776) (hb:bytes≤128) (hbase:base≤W.heap.size) (hR:∀w',KeepBut e W w'→∀x u,R W x u→R w' x u) (hx:R W x news):
 ∃v' w',(Builtin.append_ #[t,t] ty #[v,.slice (some ⟨W.heap.size,0,none⟩) 1 1]).run Try.prog (W.alloc (.cells news.toArray e))= .ok v' w'∧RdO R e size base w' v' (l++[x])∧KeepBut e W w'∧Below base W w'∧Others v.ownBlock W w'∧(v'.ownBlock=v.ownBlock∨∀g,v'.ownBlock=some g→W.heap.size≤g):=by
 obtain ⟨cs,g1,g2⟩:=hown
 have hbb:(l.length+1) * bytes≤1099511627776 * 128:=Nat.mul_le_mul hn hb
 obtain ⟨v',w',hr,q1,q2,q3,q4,q5⟩:=run_append_oneG ty t e i z size bytes ht hi hz hsize hby hzs hsz W base v l.length cs news g1 hl h1 (by unfold maxLen;omega) (by omega) hbase
 exact ⟨v',w',hr,RdO.snoc g1.1 g2 (hR w' q2) (hR w' q2 _ _ hx) hl (by simpa using q1),q2,q3,q4,q5⟩
end
def IntsT (w:World) (v:Value) (zs:List Int):Prop:=RowM w 3 1 v zs.length (zs.map fun z=>Value.int .i64 z)∧∀z∈zs,-9223372036854775808≤z∧z≤9223372036854775807
theorem IntsO.typed {base:Nat} {w:World} {v:Value} {zs:List Int} (h:IntsO base w v zs):IntsT w v zs:=⟨RowM.of_own h.1,h.2⟩
theorem IntsT.below {w w':World} {v:Value} {zs:List Int} (h:IntsT w v zs) (hb:Below w.heap.size w w'):IntsT w' v zs:=⟨h.1.below hb,h.2⟩
theorem IntsT.but {e:TypeId} {w w':World} {v:Value} {zs:List Int} (h:IntsT w v zs) (hk:KeepBut e w w') (ht:3≠e):IntsT w' v zs:=⟨hk.row h.1 ht,h.2⟩
theorem IntsT.ints {w:World} {v:Value} {zs:List Int} (h:IntsT w v zs):IntsM w v zs:=by
 obtain ⟨A,c,hv,hl,hc,hm,hrow⟩:=h.1
 refine ⟨A,c,hv,hc,hm,fun hp=>?_,h.2⟩
 obtain ⟨b,off,cs,fz,hA,hb,hx⟩:=hrow hp
 refine ⟨b,off,hA,fun i hi=>?_⟩
 rw [cell_of_row w b (off+i) cs _ fz hb,hx i (.int .i64 (zs.getD i 0)) (by simp [List.getD,List.getElem?_eq_getElem hi])]
theorem IntsT.shape {w:World} {v:Value} {zs:List Int} (h:IntsT w v zs):∃A c,v= .slice A zs.length c∧zs.length≤c∧c≤9223372036854775807:=h.1.shape
theorem IntsT.nil (w:World) (A:Option Addr) (c:Nat) (hm:c≤maxLen):IntsT w (.slice A 0 c) []:=⟨RowM.nil _ _ _ _ _ hm,fun z h=>by simp at h⟩
def TkR (_:World) (t:Tk) (u:List Value):Prop:=u=[.int .i64 t.fl,.bool t.hd]∧ -9223372036854775808≤t.fl∧t.fl≤9223372036854775807
def DutM:World→Value→List Tk→Prop:=RdM TkR 63 2
def DuR (w:World) (d:List Tk) (u:List Value):Prop:=∃A n c,u=[.slice A n c]∧DutM w (.slice A n c) d
def DutsM:World→Value→List (List Tk)→Prop:=RdM DuR 65 1
def ClR (w:World) (c:Cl) (u:List Value):Prop:=∃b A n k,u=[.string b,.slice A n k,.int .i64 c.cost]∧DutsM w (.slice A n k) c.dut
def ClsM:World→Value→List Cl→Prop:=RdM ClR 40 3
def CtR (w:World) (x:Ct) (u:List Value):Prop:=∃A n c,u=[.slice A n c,.int .i64 x.dv]∧IntsT w (.slice A n c) x.rows
def CutsM:World→Value→List Ct→Prop:=RdM CtR 43 2
section
variable {w w':World} {e:TypeId} {v:Value}
theorem DutM.below {d:List Tk} (h:DutM w v d) (hb:Below w.heap.size w w'):DutM w' v d:=RdM.below h hb fun _ _ h=>h
theorem DutM.but {d:List Tk} (h:DutM w v d) (hk:KeepBut e w w') (h1:63≠e):DutM w' v d:=RdM.keep h hk h1 fun _ _ h=>h
theorem DuR.below {d:List Tk} {u:List Value} (h:DuR w d u) (hb:Below w.heap.size w w'):DuR w' d u:=by
 obtain ⟨A,n,c,h1,h2⟩:=h;exact ⟨A,n,c,h1,h2.below hb⟩
theorem DuR.but {d:List Tk} {u:List Value} (h:DuR w d u) (hk:KeepBut e w w') (h1:63≠e):DuR w' d u:=by
 obtain ⟨A,n,c,g1,g2⟩:=h;exact ⟨A,n,c,g1,g2.but hk h1⟩
theorem DutsM.below {p:List (List Tk)} (h:DutsM w v p) (hb:Below w.heap.size w w'):DutsM w' v p:=RdM.below h hb fun _ _ h=>h.below hb
theorem DutsM.but {p:List (List Tk)} (h:DutsM w v p) (hk:KeepBut e w w') (h1:63≠e) (h2:65≠e):DutsM w' v p:=RdM.keep h hk h2 fun _ _ h=>h.but hk h1
theorem ClR.below {c:Cl} {u:List Value} (h:ClR w c u) (hb:Below w.heap.size w w'):ClR w' c u:=by
 obtain ⟨b,A,n,k,h1,h2⟩:=h;exact ⟨b,A,n,k,h1,h2.below hb⟩
theorem ClR.but {c:Cl} {u:List Value} (h:ClR w c u) (hk:KeepBut e w w') (h1:63≠e) (h2:65≠e):ClR w' c u:=by
 obtain ⟨b,A,n,k,g1,g2⟩:=h;exact ⟨b,A,n,k,g1,g2.but hk h1 h2⟩
theorem ClsM.below {cs:List Cl} (h:ClsM w v cs) (hb:Below w.heap.size w w'):ClsM w' v cs:=RdM.below h hb fun _ _ h=>h.below hb
theorem ClsM.but {cs:List Cl} (h:ClsM w v cs) (hk:KeepBut e w w') (h1:63≠e) (h2:65≠e) (h3:40≠e):ClsM w' v cs:=RdM.keep h hk h3 fun _ _ h=>h.but hk h1 h2
theorem CtR.below {x:Ct} {u:List Value} (h:CtR w x u) (hb:Below w.heap.size w w'):CtR w' x u:=by
 obtain ⟨A,n,c,h1,h2⟩:=h;exact ⟨A,n,c,h1,h2.below hb⟩
theorem CtR.but {x:Ct} {u:List Value} (h:CtR w x u) (hk:KeepBut e w w') (h1:3≠e):CtR w' x u:=by
 obtain ⟨A,n,c,g1,g2⟩:=h;exact ⟨A,n,c,g1,g2.but hk h1⟩
theorem CutsM.below {xs:List Ct} (h:CutsM w v xs) (hb:Below w.heap.size w w'):CutsM w' v xs:=RdM.below h hb fun _ _ h=>h.below hb
theorem CutsM.but {xs:List Ct} (h:CutsM w v xs) (hk:KeepBut e w w') (h1:3≠e) (h2:43≠e):CutsM w' v xs:=RdM.keep h hk h2 fun _ _ h=>h.but hk h1
end
theorem DutM.elem {w wr:World} {A:Option Addr} {n c:Nat} {d:List Tk} (h:DutM w (.slice A n c) d) (hb:Below w.heap.size w wr) {k:Nat} {t:Tk} (ht:d[k]? =some t):
 ∃b off,A=some ⟨b,off,none⟩∧b < w.heap.size∧wr.cell? ⟨b,off+k * 2,none⟩=some (.int .i64 t.fl)∧wr.cell? ⟨b,off+k * 2+1,none⟩=some (.bool t.hd)∧ -9223372036854775808≤t.fl∧t.fl≤9223372036854775807:=by
 obtain ⟨b,off,u,hA,hlt,⟨rfl,r1,r2⟩,hl,hc⟩:=RdM.elem h ht
 exact ⟨b,off,hA,hlt,cell_keep hb (hc 0 _ rfl),cell_keep hb (hc 1 _ rfl),r1,r2⟩
theorem DutsM.elem {w wr:World} {A:Option Addr} {n c:Nat} {p:List (List Tk)} (h:DutsM w (.slice A n c) p) (hb:Below w.heap.size w wr) {k:Nat} {d:List Tk} (hd:p[k]? =some d):
 ∃b off A1 c1,A=some ⟨b,off,none⟩∧b < w.heap.size∧wr.cell? ⟨b,off+k,none⟩=some (.slice A1 d.length c1)∧DutM wr (.slice A1 d.length c1) d∧d.length≤c1∧c1≤9223372036854775807:=by
 obtain ⟨b,off,u,hA,hlt,⟨A1,n1,c1,rfl,hD⟩,hl,hc⟩:=RdM.elem h hd
 obtain ⟨e1,e2,e3⟩:=RdM.len hD
 subst e1
 have h0:=cell_keep hb (hc 0 _ rfl)
 rw [Nat.mul_one,Nat.add_zero] at h0
 exact ⟨b,off,A1,c1,hA,hlt,h0,hD.below hb,e2,e3⟩
theorem ClsM.elem {w wr:World} {A:Option Addr} {n c:Nat} {cs:List Cl} (h:ClsM w (.slice A n c) cs) (hb:Below w.heap.size w wr) {k:Nat} {x:Cl} (hx:cs[k]? =some x):
 ∃b off s A1 n1 c1,A=some ⟨b,off,none⟩∧b < w.heap.size∧wr.cell? ⟨b,off+k * 3,none⟩=some (.string s)∧wr.cell? ⟨b,off+k * 3+1,none⟩=some (.slice A1 n1 c1)∧wr.cell? ⟨b,off+k * 3+2,none⟩=some (.int .i64 x.cost)∧DutsM wr (.slice A1 n1 c1) x.dut:=by
 obtain ⟨b,off,u,hA,hlt,⟨s,A1,n1,c1,rfl,hD⟩,hl,hc⟩:=RdM.elem h hx
 exact ⟨b,off,s,A1,n1,c1,hA,hlt,cell_keep hb (hc 0 _ rfl),cell_keep hb (hc 1 _ rfl),cell_keep hb (hc 2 _ rfl),hD.below hb⟩
theorem CutsM.elem {w wr:World} {A:Option Addr} {n c:Nat} {xs:List Ct} (h:CutsM w (.slice A n c) xs) (hb:Below w.heap.size w wr) {k:Nat} {x:Ct} (hx:xs[k]? =some x):
 ∃b off A1 n1 c1,A=some ⟨b,off,none⟩∧b < w.heap.size∧wr.cell? ⟨b,off+k * 2,none⟩=some (.slice A1 n1 c1)∧wr.cell? ⟨b,off+k * 2+1,none⟩=some (.int .i64 x.dv)∧IntsT wr (.slice A1 n1 c1) x.rows:=by
 obtain ⟨b,off,u,hA,hlt,⟨A1,n1,c1,rfl,hD⟩,hl,hc⟩:=RdM.elem h hx
 exact ⟨b,off,A1,n1,c1,hA,hlt,cell_keep hb (hc 0 _ rfl),cell_keep hb (hc 1 _ rfl),hD.below hb⟩
def MsM (w:World) (v:Value) (m:Ms):Prop:=
 ∃A n c A' n' c' A'' n'' c'',v= .agg #[.int .i64 m.fl,.slice A n c,.int .i64 m.pen,.slice A' n' c',.slice A'' n'' c'']∧IntsT w (.slice A n c) m.rows∧ClsM w (.slice A' n' c') m.cols∧CutsM w (.slice A'' n'' c'') m.cuts
theorem MsM.below {w w':World} {v:Value} {m:Ms} (h:MsM w v m) (hb:Below w.heap.size w w'):MsM w' v m:=by
 obtain ⟨A,n,c,A',n',c',A'',n'',c'',h1,h2,h3,h4⟩:=h
 exact ⟨A,n,c,A',n',c',A'',n'',c'',h1,h2.below hb,h3.below hb,h4.below hb⟩
theorem box_ms (w:World) (a b c d e:Value):∃W,w.alloc (.cells #[a,b,c,d,e] 26)=W∧Bk W w.heap.size 26 [a,b,c,d,e]∧Below w.heap.size w W:=
 ⟨_,rfl,Bk.new w _ [a,b,c,d,e],(Below.refl _ _).alloc (Nat.le_refl _) _⟩
end
theorem IntsM.elem {w wr:World} {A:Option Addr} {n c:Nat} {zs:List Int} (h:IntsM w (.slice A n c) zs) (hb:Below w.heap.size w wr) {k:Nat} (hk:k < n):
 ∃b off z,A=some ⟨b,off,none⟩∧wr.cell? ⟨b,off+k,none⟩=some (.int .i64 z)∧zs[k]? =some z∧ -9223372036854775808≤z∧z≤9223372036854775807:=by
 obtain ⟨b,off,z,h1,h2,h3⟩:=h.at_ hk
 exact ⟨b,off,z,h1,cell_keep hb h2,h3⟩
theorem IntsM.lenE {w:World} {A:Option Addr} {n c:Nat} {zs:List Int} (h:IntsM w (.slice A n c) zs):n=zs.length:=by
 obtain ⟨A',c',e,_⟩:=h.shape
 injection e
namespace Pl
theorem mem_take_succ {α:Type} {l:List α} {k:Nat} {x y:α} (h:l[k]? =some y):x∈l.take (k+1)↔x∈l.take k∨x=y:=by
 rw [List.take_add_one,h];simp
theorem take_all {α:Type} {l:List α} {n:Nat} (h:n=l.length):l.take n=l:=by rw [h,List.take_length]
end Pl
theorem has_any (v:Value) (zs:List Int) (z:Int) (w:World) (h:IntsM w v zs):
 Calls Try.prog 11 #[v,.int .i64 z] w fun e w'=>e= .returned (.bool (decide (z∈zs)))∧Below w.heap.size w w':=by
 obtain ⟨A,c,rfl,hc,hc'⟩:=h.shape
 obtain ⟨n,hn⟩:∃n,n=zs.length:=⟨_,rfl⟩
 rw [← hn] at h hc ⊢
 have HN:=Lib.hid hn
 have HI:=Lib.hid h
 clear h hn
 go_enter Try.func11,Try.ntmps11
 go_wp2
 go_loopw [5] (fun x wr=>∃k:Nat,k≤n∧x= .int .i64 k∧Below w.heap.size w wr∧Hid (z ∉ zs.take k)) (fun x _=>n - (intOf x).toNat)
 case atStart=>exact ⟨0,by omega,rfl,Below.refl _ _,Lib.hid (by simp)⟩
 case round=>
  obtain ⟨k,hk,rfl,hb,HT⟩:=hrel
  rcases Nat.lt_or_ge k n with hkl | hkl
  ·obtain ⟨b,off,y,hA,hcell,hy,_,_⟩:=HI.out.elem hb hkl
   subst hA
   have HY:=Lib.hid hy
   clear hy
   by_cases hyz:y=z
   ·subst hyz
    go_wp2
    go_ret
    exact ⟨ret_bool (by rw [decide_eq_true_iff];exact List.mem_of_getElem? HY.out),hb⟩
   ·have hne:(y==z)=false:=by simpa using hyz
    have HT':Hid (z ∉ zs.take (k+1)):=Lib.hid (by rw [mem_take_succ HY.out];rintro (e | e);exact HT.out e;exact hyz e.symm)
    clear hyz
    go_wp2
    go_roundw
    case rel=>exact ⟨k+1,by omega,by go_num,hb,HT'⟩
    case measure=>simp [intOf];omega
  ·obtain rfl:n=k:=by omega
   go_wp2
   go_ret
   exact ⟨ret_bool (by have:=HT.out;rw [take_all HN.out] at this;simpa using this),hb⟩
theorem sameInts_any (v1 v2:Value) (xs ys:List Int) (w:World) (h:IntsM w v1 xs) (h2:IntsM w v2 ys):
 Calls Try.prog 23 #[v1,v2] w fun e w'=>e= .returned (.bool (decide (xs=ys)))∧Below w.heap.size w w':=by
 obtain ⟨A,c,rfl,hc,hc'⟩:=h.shape
 obtain ⟨B,d,rfl,hd,hd'⟩:=h2.shape
 obtain ⟨n,hn⟩:∃n,n=xs.length:=⟨_,rfl⟩
 obtain ⟨m,hm⟩:∃m,m=ys.length:=⟨_,rfl⟩
 rw [← hn] at h hc ⊢
 rw [← hm] at h2 hd ⊢
 have HN:=Lib.hid hn
 have HM:=Lib.hid hm
 have HI:=Lib.hid h
 have HJ:=Lib.hid h2
 clear h h2 hn hm
 by_cases hnm:n=m
 ·subst hnm
  go_enter Try.func23,Try.ntmps23
  go_wp2
  go_loopw [5] (fun x wr=>∃k:Nat,k≤n∧x= .int .i64 k∧Below w.heap.size w wr∧Hid (xs.take k=ys.take k)) (fun x _=>n - (intOf x).toNat)
  case atStart=>exact ⟨0,by omega,rfl,Below.refl _ _,Lib.hid (by simp)⟩
  case round=>
   obtain ⟨k,hk,rfl,hb,HT⟩:=hrel
   rcases Nat.lt_or_ge k n with hkl | hkl
   ·obtain ⟨b,off,y,hA,hcell,hy,_,_⟩:=HI.out.elem hb hkl
    obtain ⟨b',off',y',hA',hcell',hy',_,_⟩:=HJ.out.elem hb hkl
    subst hA hA'
    have HY:=Lib.hid hy
    have HY':=Lib.hid hy'
    clear hy hy'
    have hkI:(k:Int) < n:=by omega
    by_cases hyz:y=y'
    ·subst hyz
     have HT':Hid (xs.take (k+1)=ys.take (k+1)):=Lib.hid (by rw [List.take_add_one,List.take_add_one,HY.out,HY'.out,HT.out])
     go_upto_region 6 with (fail)
     have C0:=stab hcell
     have C1:=stab hcell'
     have hS0:=below_drew' wr
     clear hcell hcell'
     refine region_seq 9 [0,1,2,3,4,5,6,7,8] (by kernel_rfl) (by kernel_rfl) ?_
     repeat ((first | (refine seq_takeP (v:=?_) rfl rfl rfl ?_ ?_;rotate_left;(· (intro _ hSw;go_simp;(try go_bits);(try with_reducible rfl)))) | (refine seq_take (v:=?_) rfl rfl rfl ?_ ?_;rotate_left;(· (intro _ hSw;go_simp;(try go_bits);(try with_reducible rfl)))) | refine seq_skip rfl rfl rfl ?_);(try simp only [Act.put,pu1,pu2,pu3,pu4,pu5,pu6]))
     refine seq_done ?_
     have hb2:=below_then hb hS0 hb.size
     clear C0 C1 hb hS0
     go_wp2
     go_roundw
     case rel=>exact ⟨k+1,by omega,by go_num,hb2,HT'⟩
     case measure=>simp [intOf];omega
    ·have hne:(y !=y')=true:=by simpa using hyz
     have hne0:(y==y')=false:=by simpa using hyz
     have HF:Hid (xs≠ys):=Lib.hid (fun e=>hyz (by have h1:=HY.out;rw [e,HY'.out] at h1;exact (Option.some.inj h1).symm))
     clear hyz
     go_upto_region 6 with (fail)
     have C0:=stab hcell
     have C1:=stab hcell'
     have hS0:=below_drew' wr
     clear hcell hcell'
     refine region_seq 9 [0,1,2,3,4,5,6,7,8] (by kernel_rfl) (by kernel_rfl) ?_
     repeat ((first | (refine seq_takeP (v:=?_) rfl rfl rfl ?_ ?_;rotate_left;(· (intro _ hSw;go_simp;(try go_bits);(try with_reducible rfl)))) | (refine seq_take (v:=?_) rfl rfl rfl ?_ ?_;rotate_left;(· (intro _ hSw;go_simp;(try go_bits);(try with_reducible rfl)))) | refine seq_skip rfl rfl rfl ?_);(try simp only [Act.put,pu1,pu2,pu3,pu4,pu5,pu6]))
     refine seq_done ?_
     have hb2:=below_then hb hS0 hb.size
     clear C0 C1 hb hS0
     go_wp2
     go_ret
     exact ⟨ret_bool (by simpa using HF.out),hb2⟩
   ·obtain rfl:n=k:=by omega
    go_wp2
    go_ret
    exact ⟨ret_bool (by have:=HT.out;rw [take_all HN.out,take_all HM.out] at this;simpa using this),hb⟩
 ·have hne:((n:Int) !=m)=true:=by simp;omega
  have HF:Hid (xs≠ys):=Lib.hid (fun e=>hnm (by rw [HN.out,HM.out,e]))
  go_enter Try.func23,Try.ntmps23
  go_wp2
  go_ret
  exact ⟨ret_bool (by simpa using HF.out),Below.refl _ _⟩
theorem validateMaster_norows (F P:Int) (A A' A'':Option Addr) (c n' c' n'' c'':Nat) (w:World) (f0:0≤F) (f1:F≤200) (p0:0≤P) (p1:P≤30):
 Calls Try.prog 12 #[.agg #[.int .i64 F,.slice A 0 c,.int .i64 P,.slice A' n' c',.slice A'' n'' c'']] w fun e w'=>e= .returned (.int .i64 10)∧Below w.heap.size w w':=by
 obtain ⟨W,hW,hX,hbe⟩:=box_ms w (.int .i64 F) (.slice A 0 c) (.int .i64 P) (.slice A' n' c') (.slice A'' n'' c'')
 obtain ⟨x0,x1,x2,x3,x4⟩:=hX.five
 go_enter Try.func12,Try.ntmps12
 go_wp2
 go_ret
 exact ⟨rfl,hbe⟩
end Go.Proofs.Ytgdcbjligbnpgaa
