/- Lemmas of the claim; no condition. -/
import Derived.Test.YtidgdpkcloaheaaGreatQs1
set_option linter.all false
set_option maxRecDepth 100000
set_option maxHeartbeats 40000000
namespace Go.Proofs.YtidgdpkcloaheaaGreat
open Go.RowKit
open Pl
attribute [local go_sem ↓] Go.wp_at_zero Go.wp_at_succ
theorem run_append_oneG [Old] (ty t e:TypeId) (i:TypeInfo) (z:Value) (size bytes:Nat) (ht:Tryz.prog.underlying t=some (.slice e)) (hi:Tryz.prog.info? e=some i) (hz:i.zero=some z)
 (hsize:i.size=size) (hby:i.bytes=bytes) (hzs:z.cells.size=size) (hsz:0 < size) (W:World) (base:Nat) (v:Value) (n:Nat) (xs news:List Value) (hown:W.ownsRow base e size v n xs)
 (hl:news.length=size) (h1:∀u∈news,u.oneCell'=true) (hn:n+1≤maxLen) (hb:(n+1) * bytes≤140737488355328) (hbase:base≤W.heap.size) (hO:Old.n≤base:=by first | assumption | exact Nat.zero_le _ | omega | ((first | with_reducible refine Zb.le ?_ | with_reducible refine Zb.le1 ?_ | with_reducible refine Zb.le2 ?_ | with_reducible refine Zb.le3 ?_);repeat (first | assumption | exact Zb.up (by assumption) hOl | exact Zb.up (Hid.out (by assumption)) hOl | with_reducible refine Zb.set ?_ _ _ | with_reducible refine Zb.mk_ ?_ _ | with_reducible refine Zb.dr ?_ | with_reducible refine Zb.drN ?_ | refine Zb.up (by assumption) ?_ | refine Zb.up (Hid.out (by assumption)) ?_))):
 ∃v' w',(Builtin.append_ #[t,t] ty #[v,.slice (some ⟨W.heap.size,0,none⟩) 1 1]).run Tryz.prog (W.alloc (.cells news.toArray e))= .ok v' w'∧w'.ownsRow base e size v' (n+1) (xs++news)∧Zk e W w'∧Below base W w'∧ZN v.ownBlock W w'∧(v'.ownBlock=v.ownBlock∨∀g,v'.ownBlock=some g→W.heap.size≤g):=by
 have c:Bk (W.alloc (.cells news.toArray e)) W.heap.size e news:=Bk.new W e news;obtain ⟨v',w',d,h2,h3,_,h5⟩:=run_append_own_at (P:=Tryz.prog) (W.alloc (.cells news.toArray e)) base t ty e i z size bytes ht hi hz hsize hby hzs hsz v n xs (hown.alloc _) ⟨W.heap.size,0,none⟩ 1 1 news (by omega) (fun j u hj=>by rw [addr_add,Nat.zero_add,c.cell];exact hj) h1 hn hb (by simp;omega);refine ⟨v',w',d,h2,?_,?_,⟨?_,?_⟩,?_⟩
 ·intro b cs t' fz a hc;have f:=Ye hc;refine (h3.block b (by simp;omega) ?_).trans ((Below.heap_alloc W _ b f).trans hc);intro e1;rcases hown.2 with ⟨rfl,_⟩ | ⟨g,cap,cur,rfl,hbg,hg,_⟩
  ·simp [Value.ownBlock] at e1
  ·simp [Value.ownBlock] at e1;subst e1;rw [hg] at hc;injection hc with hc;injection hc with _ h2 _;rcases a with e2 | e2
   ·exact e2 h2.symm
   ·omega
 ·refine ((JR _ _).alloc hbase _).grown h3 (by simp;omega) (fun k hk=>?_);exact (hown.lt k hk).1
 ·have:=h3.size;simp at this;omega
 ·intro b hb a;exact (h3.block b (by simp;omega) a).trans (Below.heap_alloc W _ b hb)
 ·rcases h5 with h5 | h5
  ·exact .inl h5
  ·right;intro g hg;rw [h5] at hg;injection hg with hg;simp at hg;omega
 where
  addr_add (g j:Nat):(⟨g,0,none⟩:Addr).add j=⟨g,0+j,none⟩:=by
   unfold Addr.add;split
   ·rename_i h;subst h;rfl
   ·rfl
namespace Pl
theorem gj_fail {M:Mx} {m k:Nat} (h:gj M m k=none):∀d,gj M m (k+d)=none
 | 0=>h
 | d+1=>by rw [← Nat.add_assoc];unfold gj;rw [gj_fail h d]
theorem solveQ_fail {m k:Nat} {cols:Mx} {b:Nat→Rat} {M:Mx} (hk:k < m) (h:gj (Zbi m cols b) m k=some M) (hf:X6 M k m=none):Xt m cols b=none:=by
 have h1:gj (Zbi m cols b) m (k+1)=none:=by unfold gj;rw [h];show Wv M k m=none;unfold Wv;rw [hf]
 have h2:=gj_fail h1 (m - (k+1));rw [show k+1+(m - (k+1))=m by omega] at h2;unfold Xt;rw [h2];rfl
theorem solveQ_done {m:Nat} {cols:Mx} {b:Nat→Rat} {M:Mx} (h:gj (Zbi m cols b) m m=some M):Xt m cols b=some fun k=>M k m:=by unfold Xt;rw [h];rfl
theorem gj_next {m k t:Nat} {A M:Mx} (h:gj A m k=some M) (hf:X6 M k m=some t):gj A m (k+1)=some (ZL (scaleTo (swapM M k t) k (m+1) (swapM M k t k k)) k m m):=by
 unfold gj;rw [h];show Wv M k m=_;unfold Wv;rw [hf]
end Pl
theorem wp_append_run {P:Program} {o:Oper} {a:Act} {w w':World} {K:Act→World→Prop} {Q:Exit→Act→World→Prop} {y:Nat→Option Bool} {s x:Operand} {t ty:TypeId} {v u v':Value} (hr:(Builtin.append_ #[t,t] ty #[v,u]).run P w= .ok v' w') (hty:o.type=ty) (hgd:o.guard=none) (ho:o.op= .call { callee:= .builtin .append,args:=#[s,x],argTypes:=#[t,t] })
 (hs:a.eval s=v) (hx:a.eval x=u) (h:K (a.put o.dst v') w'):if Region.wanted o y=true then Oper.wp P o a w K Q else K (a.put o.dst undef) w:=by
 subst hty;rw [if_pos (by simp [Region.wanted,hgd])];unfold Oper.wp execOp;simp only [ho,resolve,invoke,builtin,Sem.run_bind,Sem.run_pure,Result.andThen_ok,List.map_toArray,List.map_cons,List.map_nil,hs,hx,hr];exact h
theorem addr_add0 (b off j:Nat):(⟨b,off,none⟩:Addr).add j=⟨b,off+j,none⟩:=by
 unfold Addr.add;split
 ·rename_i h;subst h;rfl
 ·rfl
theorem op_append_run {o:Oper} {a:Act} {w w':World} {v x y:Value} {K:Act→World→Prop} {Q:Exit→Act→World→Prop} {ops:Array Oper} {t:TypeId} (s1 s2:Operand) (hgd:o.guard=none) (ho:o.op= .call { callee:= .builtin .append,args:=#[s1,s2],argTypes:=#[t,t] }) (h1:a.eval s1=x) (h2:a.eval s2=y)
 (hrun:(Builtin.append_ #[t,t] o.type #[x,y]).run Tryz.prog w= .ok v w') (h:K (a.put o.dst v) w'):if Region.wanted o (yielded ops a.tmps)=true then Oper.wp Tryz.prog o a w K Q else K (a.put o.dst undef) w:=by
 rw [if_pos (by simp [Region.wanted,hgd])];unfold Oper.wp execOp;simp only [ho,resolve,invoke,builtin,Sem.run_bind,Sem.run_pure,Result.andThen_ok,List.map_toArray,List.map_cons,List.map_nil,h1,h2,hrun];exact h
theorem toDense_err [Old] (v:Value) (es:List En) (n:Int) (w:World) (h:Wy w v es) (hi:EnI es) (h0: -9223372036854775808≤n) (h1:n≤9223372036854775807) (he:vecErr es n≠0) (hOl:Zb w:=by (repeat (first | assumption | exact Zb.up (by assumption) hOl | exact Zb.up (Hid.out (by assumption)) hOl | with_reducible refine Zb.set ?_ _ _ | with_reducible refine Zb.mk_ ?_ _ | with_reducible refine Zb.dr ?_ | with_reducible refine Zb.drN ?_ | refine Zb.up (by assumption) ?_ | refine Zb.up (Hid.out (by assumption)) ?_))):
 Calls Tryz.prog 41 #[v,.int .i64 n] w fun e w'=>e= .returned (.tuple #[.slice none 0 0,.int .i64 (vecErr es n)])∧Below w.heap.size w w':=by
 have b:=hOl.le;obtain ⟨A,c,rfl,f,g⟩:=h.shape;obtain ⟨q,hq⟩:∃q,vecErr es n=q:=⟨_,rfl⟩;rw [hq] at he ⊢;have HQ:=JZ hq;have d:(q !=0)=true:=by simpa using he
 generalize hl:es.length=l at *;clear hq he hl;go_enter Tryz.func41,Tryz.ntmps41;go_wp2_with fail;refine (XP _ es n _ h hi h0 h1).mono ?_;rw [HQ.out];rintro _ w1 ⟨rfl,a⟩;go_wp2;go_ret2;exact ⟨rfl,a⟩
theorem fromDense1_own [Old] (v:Value) (fs:List RF) (K:Nat) (w:World) (h:Zbn w v fs) (hl:fs.length≤4096) (hk:RsL K fs) (hK:K≤34359738368) (hOl:Zb w:=by (repeat (first | assumption | exact Zb.up (by assumption) hOl | exact Zb.up (Hid.out (by assumption)) hOl | with_reducible refine Zb.set ?_ _ _ | with_reducible refine Zb.mk_ ?_ _ | with_reducible refine Zb.dr ?_ | with_reducible refine Zb.drN ?_ | refine Zb.up (by assumption) ?_ | refine Zb.up (Hid.out (by assumption)) ?_))):
 Calls Tryz.prog 61 #[v] w fun e w'=>∃v',e= .returned (.tuple #[v',.int .i64 0])∧Wz w.heap.size w' v' (spV (qAt fs) fs.length)∧Below w.heap.size w w':=by
 have L:=hOl.le;obtain ⟨A,c,rfl,O,P⟩:=h.shape;have H:=JZ h;have HK:=JZ hk;generalize hn:fs.length=n at *;have HN:=JZ hn;have M:(n:Int)≤4096:=by omega
 clear h hk hn;go_enter Tryz.func61,Tryz.ntmps61;go_wp2
 go_loopw [4,5] (fun u i wr=>∃k:Nat,k≤n∧i= .int .i64 k∧Wz w.heap.size wr u (spV (qAt fs) k)∧Below w.heap.size w wr) (fun _ i _=>n - (intOf i).toNat)
 case atStart=>exact ⟨0,by omega,rfl,Wz.nil _ _,JR _ _⟩
 case round=>
  obtain ⟨k,hk,rfl,hO,j⟩:=hrel;rcases JX k n with hkl | hkl
  ·obtain ⟨f,hf⟩:=Zcs (fs:=fs) (i:=k) (by rw [HN.out];exact hkl);obtain ⟨b,R,A1,n1,k1,A2,n2,k2,rfl,S,⟨q0,q1,q2,q3⟩,p⟩:=H.out.elem j hf;have HQ:=JZ (UW hf);have s:f.Sh:=(HK.out k f hf).sh hK;have N:(k:Int) < n:=(by omega);clear hf;go_wp2_with fail;refine (Xl _ f _ p s).mono ?_;rintro _ w2 ⟨rfl,a⟩;have o:=hO.below a;have g:=Za j a j.size;have t:=p.below a;by_cases hq:f.q=0
   ·have z:(qs f.q !=0)=false:=(by rw [hq];decide);have HS:Hid (spV (qAt fs) (k+1)=spV (qAt fs) k):=JZ (Y8 (by rw [HQ.out];exact hq));clear hq;go_wp2;go_roundw
    case rel=>exact ⟨k+1,by omega,by go_num,by rw [HS.out];exact o,g⟩
    case measure=>simp [intOf];omega
   ·have z:(qs f.q !=0)=true:=(by simpa using fun e=>hq (Yz.1 e));have HS:Hid (spV (qAt fs) (k+1)=spV (qAt fs) k++[⟨(k:Int),canF f.q⟩]):=JZ (by rw [← HQ.out];exact Xo (by rw [HQ.out];exact hq));have C:=cell_later a q0;have D:=cell_later a q1;have E:=cell_later a q2;have F:=cell_later a q3;clear hq q0 q1 q2 q3;go_wp2_with fail;refine (YY _ f _ t s).mono ?_;rintro _ w3 ⟨v3,rfl,e3,r⟩;have x:=o.below r;have m:=Za g r g.size;obtain ⟨B,l,d,B',l',d',rfl,_,_⟩:=id e3;have HF:=JZ e3;have HO:=JZ x;have y:(spV (qAt fs) k).length+1≤1099511627776:=(by have:=Ve (f:=qAt fs) k;omega);have G:=m.size;clear hO o x j g r e3 C D E F t p;generalize hQ:canF f.q=Q at *;go_wp2_with (at_builtin;refine Vy rfl (.tmp 21) (.tmp 29) rfl w3 w.heap.size u4 (spV (qAt fs) k) rfl HO.out _ _ B B' l d l' d' (k:Int) Q HF.out rfl y G ?_);intro v' w4 I T J;go_wp2;go_roundw
    case rel=>exact ⟨k+1,by omega,by go_num,by rw [HS.out];exact I,m.trans J⟩
    case measure=>simp [intOf];omega
  ·obtain rfl:k=n:=by omega
   go_wp2;go_ret2;exact ⟨_,rfl,hO,j⟩
theorem solveB_err [Old] (base bi g n K:Nat) (Cs:Mx) (v:Value) (es:List En) (w:World) (hB:Zse base bi w g n K Cs) (h:Wy w v es) (hi:EnI es) (he:vecErr es (n:Int)≠0) (hOl:Zb w:=by (repeat (first | assumption | exact Zb.up (by assumption) hOl | exact Zb.up (Hid.out (by assumption)) hOl | with_reducible refine Zb.set ?_ _ _ | with_reducible refine Zb.mk_ ?_ _ | with_reducible refine Zb.dr ?_ | with_reducible refine Zb.drN ?_ | refine Zb.up (by assumption) ?_ | refine Zb.up (Hid.out (by assumption)) ?_))) (hO:Old.n≤base:=by first | assumption | exact Nat.zero_le _ | omega | ((first | with_reducible refine Zb.le ?_ | with_reducible refine Zb.le1 ?_ | with_reducible refine Zb.le2 ?_ | with_reducible refine Zb.le3 ?_);repeat (first | assumption | exact Zb.up (by assumption) hOl | exact Zb.up (Hid.out (by assumption)) hOl | with_reducible refine Zb.set ?_ _ _ | with_reducible refine Zb.mk_ ?_ _ | with_reducible refine Zb.dr ?_ | with_reducible refine Zb.drN ?_ | refine Zb.up (by assumption) ?_ | refine Zb.up (Hid.out (by assumption)) ?_))):
 Calls Tryz.prog 16 #[.pointer (some ⟨g,0,none⟩),v] w fun o w'=>o= .returned (.tuple #[.slice none 0 0,.int .i64 (vecErr es (n:Int))])∧Below w.heap.size w w':=by
 have d:=hOl.le;obtain ⟨T,gc,cc,k,R,C,im,V,L,Um,CC,s0,s1,s2,s3,vu,hX,⟨a,hT,hE,b⟩,hU,hF,-⟩:=hB;have y1:w.cell? ⟨g,0,none⟩=some (.int .i64 (n:Int)):=hX.cellAt 0 rfl;have e:=hF.n7;obtain ⟨q,hq⟩:∃q,vecErr es (n:Int)=q:=⟨_,rfl⟩;have HQ:=JZ hq;have HE:=JZ he;rw [hq] at he ⊢;have f:(q !=0)=true:=by simpa using he
 clear hX hU hF b hE hT a hq he;go_enter Tryz.func16,Tryz.ntmps16;go_wp2_with fail;refine (toDense_err v es (n:Int) _ h hi (by omega) (by omega) HE.out).mono ?_;rw [HQ.out];rintro _ w1 ⟨rfl,c⟩;clear y1 h;go_wp2;go_ret2;exact ⟨rfl,c⟩
theorem solveTB_err [Old] (base bi g n K:Nat) (Cs:Mx) (v:Value) (es:List En) (w:World) (hB:Zse base bi w g n K Cs) (h:Wy w v es) (hi:EnI es) (he:vecErr es (n:Int)≠0) (hOl:Zb w:=by (repeat (first | assumption | exact Zb.up (by assumption) hOl | exact Zb.up (Hid.out (by assumption)) hOl | with_reducible refine Zb.set ?_ _ _ | with_reducible refine Zb.mk_ ?_ _ | with_reducible refine Zb.dr ?_ | with_reducible refine Zb.drN ?_ | refine Zb.up (by assumption) ?_ | refine Zb.up (Hid.out (by assumption)) ?_))) (hO:Old.n≤base:=by first | assumption | exact Nat.zero_le _ | omega | ((first | with_reducible refine Zb.le ?_ | with_reducible refine Zb.le1 ?_ | with_reducible refine Zb.le2 ?_ | with_reducible refine Zb.le3 ?_);repeat (first | assumption | exact Zb.up (by assumption) hOl | exact Zb.up (Hid.out (by assumption)) hOl | with_reducible refine Zb.set ?_ _ _ | with_reducible refine Zb.mk_ ?_ _ | with_reducible refine Zb.dr ?_ | with_reducible refine Zb.drN ?_ | refine Zb.up (by assumption) ?_ | refine Zb.up (Hid.out (by assumption)) ?_))):
 Calls Tryz.prog 27 #[.pointer (some ⟨g,0,none⟩),v] w fun o w'=>o= .returned (.tuple #[.slice none 0 0,.int .i64 (vecErr es (n:Int))])∧Below w.heap.size w w':=by
 have d:=hOl.le;obtain ⟨T,gc,cc,k,R,C,im,V,L,Um,CC,s0,s1,s2,s3,vu,hX,⟨a,hT,hE,b⟩,hU,hF,-⟩:=hB;have y1:w.cell? ⟨g,0,none⟩=some (.int .i64 (n:Int)):=hX.cellAt 0 rfl;have e:=hF.n7;obtain ⟨q,hq⟩:∃q,vecErr es (n:Int)=q:=⟨_,rfl⟩;have HQ:=JZ hq;have HE:=JZ he;rw [hq] at he ⊢;have f:(q !=0)=true:=by simpa using he
 clear hX hU hF b hE hT a hq he;go_enter Tryz.func27,Tryz.ntmps27;go_wp2_with fail;refine (toDense_err v es (n:Int) _ h hi (by omega) (by omega) HE.out).mono ?_;rw [HQ.out];rintro _ w1 ⟨rfl,c⟩;clear y1 h;go_wp2;go_ret2;exact ⟨rfl,c⟩
section
namespace Pl
def scaleDn (M:Mx) (k n i:Nat) (f:Rat):Mx:=fun r c=>if r=k∧i≤c∧c < n+1 then M r c / f else M r c
theorem scaleDn_start (M:Mx) (k n:Nat) (f:Rat):scaleDn M k n (n+1) f=M:=by
 funext r c;unfold scaleDn;rw [if_neg (by omega)]
theorem scaleDn_at {M:Mx} {k n i c:Nat} {f:Rat} (h:c < i):scaleDn M k n i f k c=M k c:=by
 unfold scaleDn;rw [if_neg (by omega)]
theorem scaleDn_next {M:Mx} {k n i:Nat} {f:Rat} (h:i≤n):Ztn (scaleDn M k n (i+1) f) k i (M k i / f)=scaleDn M k n i f:=by
 funext r c;unfold Ztn scaleDn
 by_cases h1:r=k∧c=i
 ·obtain ⟨rfl,rfl⟩:=h1;rw [if_pos ⟨rfl,rfl⟩,if_pos ⟨rfl,by omega,by omega⟩]
 ·rw [if_neg h1];by_cases h2:r=k∧i+1≤c∧c < n+1
  ·rw [if_pos h2,if_pos ⟨h2.1,by omega,h2.2.2⟩]
  ·rw [if_neg h2,if_neg (by omega)]
theorem scaleDn_end (M:Mx) (k n:Nat) (f:Rat):scaleDn M k n k f=scaleTo M k (n+1) f:=rfl
theorem colsM_snoc (cols:List (List En)) (c:List En) (r j:Nat) (h:j < cols.length+1):trM (Yu (cols++[c])) r j=Zbi cols.length (Yu cols) (XZ c) r j:=by
 show Yu (cols++[c]) j r=_;unfold Zbi;rcases JX j cols.length with e | e
 ·rw [if_pos e];unfold Yu;simp [List.getD,List.getElem?_append_left e]
 ·obtain rfl:j=cols.length:=by omega
  rw [if_neg (by omega)];unfold Yu;simp [List.getD]
def solV (n:Nat) (cols:Mx) (b:Nat→Rat):List En:=match Xt n cols b with | some x=>spV x n | none=>[]
theorem solV_some {n:Nat} {cols:Mx} {b x:Nat→Rat} (h:Xt n cols b=some x):solV n cols b=spV x n:=by unfold solV;rw [h]
theorem solV_none {n:Nat} {cols:Mx} {b:Nat→Rat} (h:Xt n cols b=none):solV n cols b=[]:=by unfold solV;rw [h]
end Pl
theorem wpList_app_run {ops:Array Oper} {rest:List Oper} {o:Oper} {a:Act} {Q:Exit→Act→World→Prop} {w w':World} {s x:Operand} {t ty:TypeId} {v u v':Value} (hr:(Builtin.append_ #[t,t] ty #[v,u]).run Tryz.prog w= .ok v' w') (hty:o.type=ty) (hgd:o.guard=none) (ho:o.op= .call { callee:= .builtin .append,args:=#[s,x],argTypes:=#[t,t] })
 (hs:a.eval s=v) (hx:a.eval x=u) (h:wpList Tryz.prog ops Q rest (a.put o.dst v') w'):wpList Tryz.prog ops Q (o::rest) a w:=
 wpList_step fun _ hK=>wp_append_run hr hty hgd ho hs hx (hK _ _ h)
theorem run_append_copyV [Old] (ty:TypeId) (W:World) (v:Value) (cols:List (List En)) (h:Xf W v cols) (hn:cols.length≤1099511627776):
 ∃v' w',(Builtin.append_ #[22,22] ty #[.slice none 0 0,v]).run Tryz.prog W= .ok v' w'∧Yl W.heap.size w' v' cols∧Below W.heap.size W w':=by
 obtain ⟨cs,h1,h2⟩:=h;obtain ⟨A,c,rfl,hl,hc,hm,a⟩:=h1;obtain ⟨i0,hi,f,m,n⟩:=info_parts info_vector
 cases A with
 | none=>
  have h0:cols.length=0:=by
   rcases JV cols.length with e | e
   ·exact e
   ·obtain ⟨b,g,_,_,_,e1,_⟩:=a e;cases e1
  have l:cols=[]:=List.eq_nil_of_length_eq_zero h0;subst l;refine ⟨_,_,?_,Yl.nil _ _,JR _ _⟩;simp [Builtin.append_,run_underlying Tryz.underlying22,sizeOf,typeInfo,zeroValue,hi,f,Builtin.lenOf,run_firstCells_none]
 | some ad=>
  obtain ⟨v',w',hr,g1,g2,_,_⟩:=run_append_own_at (P:=Tryz.prog) W W.heap.size 22 ty 28 i0 _ 1 24 Tryz.underlying22 hi f m n rfl (by decide) (.slice none 0 0) 0 [] (World.ownsRow_nil _ _ _ _) ad cols.length c cs hl (fun j u hj=>by
   have hp:0 < cols.length:=by
    have h9:=(List.getElem?_eq_some_iff.1 hj).1;omega
   obtain ⟨b,g,o,_,fz,e,_,hb,hx⟩:=a hp;have e:=Option.some.inj e;rw [e,addr_add0,cell_of_row W b (g+j) o _ fz hb,hx j u hj]) (fun u hu=>by
    obtain ⟨j,hj,e⟩:=List.getElem_of_mem hu;obtain ⟨cc,p⟩:=XI (cs:=cols) (i:=j) (by omega);obtain ⟨u',e1,e2⟩:=h2 j cc p;rw [JQ hj] at e1;have e1:=Option.some.inj e1;obtain ⟨_,_,e3,_⟩:=e2.shape;rw [← e,e1,e3];rfl) (by unfold maxLen;omega) (by omega) (JY _)
  have hb:=(JR W.heap.size W).grown g2 (JY _) (fun k hk=>by simp [Value.ownBlock] at hk);exact ⟨v',w',hr,⟨cs,by simpa using g1,fun k d hd=>by
   obtain ⟨u,e1,e2⟩:=h2 k d hd;exact ⟨u,e1,e2.below hb⟩⟩,hb⟩
theorem run_append_vecR [Old] (ty:TypeId) (W:World) (base:Nat) (v:Value) (cols:List (List En)) (h:Yl base W v cols) (A:Option Addr) (n c:Nat) (es:List En) (hf:Wy W (.slice A n c) es) (hn:cols.length+1≤1099511627776) (hbase:base≤W.heap.size) (hO:Old.n≤base:=by first | assumption | exact Nat.zero_le _ | omega | ((first | with_reducible refine Zb.le ?_ | with_reducible refine Zb.le1 ?_ | with_reducible refine Zb.le2 ?_ | with_reducible refine Zb.le3 ?_);repeat (first | assumption | exact Zb.up (by assumption) hOl | exact Zb.up (Hid.out (by assumption)) hOl | with_reducible refine Zb.set ?_ _ _ | with_reducible refine Zb.mk_ ?_ _ | with_reducible refine Zb.dr ?_ | with_reducible refine Zb.drN ?_ | refine Zb.up (by assumption) ?_ | refine Zb.up (Hid.out (by assumption)) ?_))):
 ∃v' w',(Builtin.append_ #[22,22] ty #[v,.slice (some ⟨W.heap.size,0,none⟩) 1 1]).run Tryz.prog (W.alloc (.cells #[.slice A n c] 28))= .ok v' w'∧Yl base w' v' (cols++[es])∧Below base W w':=by
 obtain ⟨cs,h1,h2⟩:=h;obtain ⟨i0,hi,f,g,i⟩:=info_parts info_vector;obtain ⟨v',w',hr,g1,g2,g3⟩:=Zbo ty 22 28 i0 _ 1 24 Tryz.underlying22 hi f g i rfl (by decide) W base v cols.length cs [.slice A n c] h1 rfl (fun u hu=>by simp at hu;subst hu;rfl) (by unfold maxLen;omega) (by omega) hbase;refine ⟨v',w',hr,⟨_,by simpa using g1,fun k d hd=>?_⟩,g3⟩;have a:cs.length=cols.length:=by simpa using h1.1
 rcases JX k cols.length with hk | hk
 ·rw [List.getElem?_append_left hk] at hd;obtain ⟨u,q1,q2⟩:=h2 k d hd;exact ⟨u,by rw [List.getElem?_append_left (by omega)];exact q1,q2.but g2 (by decide) (by decide)⟩
 ·rw [List.getElem?_append_right hk] at hd;have b:k - cols.length=0:=by
   rcases JV (k - cols.length) with e | e
   ·exact e
   ·rw [JU (by simp;omega)] at hd;cases hd
  rw [b] at hd;simp at hd;subst hd;exact ⟨.slice A n c,by rw [List.getElem?_append_right (by omega),a,b];rfl,hf.but g2 (by decide) (by decide)⟩
attribute [local irreducible] Yi
theorem solve4_any [Old] (v1 v2:Value) (cols:List (List En)) (c0:List En) (n K:Nat) (w:World) (h:Xf w v1 cols) (h2:Wy w v2 c0) (hl:cols.length=n) (hn:n≤7) (hK:1≤K) (hE:5^n * K≤4000000) (hg:∀(k:Nat) (c:List En),cols[k]? =some c→Inc none c∧∀(j:Nat) (e:En),c[j]? =some e→e.f.Rs K) (hv:Inc none c0∧∀(j:Nat) (e:En),c0[j]? =some e→e.f.Rs K) (hOl:Zb w:=by (repeat (first | assumption | exact Zb.up (by assumption) hOl | exact Zb.up (Hid.out (by assumption)) hOl | with_reducible refine Zb.set ?_ _ _ | with_reducible refine Zb.mk_ ?_ _ | with_reducible refine Zb.dr ?_ | with_reducible refine Zb.drN ?_ | refine Zb.up (by assumption) ?_ | refine Zb.up (Hid.out (by assumption)) ?_))):
 Calls Tryz.prog 29 #[.int .i64 (n:Int),v1,v2] w fun o w'=>∃v',o= .returned v'∧Wy w' v' (solV n (Yu cols) (XZ c0))∧Below w.heap.size w w':=by
 have ed:=hOl.le;have ee:K≤4000000:=by have:=JS K (Nat.pow_le_pow_right (show 0 < 5 by decide) (Nat.zero_le n));simp at this;omega
 have a5:Hid (MB n (n+1) K (Zbi n (Yu cols) (XZ c0))):=JZ (Zwk (fun r c hr hc=>by
  obtain ⟨cc,ab⟩:=XI (cs:=cols) (i:=c) (by omega);rw [Wu ab];exact Sz_col (hg c cc ab).2 hK r) fun r _=>Sz_col hv.2 hK r)
 have bi:Hid (∀k,k < n→5 * (5^k * K)≤4000000):=JZ fun k hk=>JW (Zto hk) hE
 have b5:Hid (∀k,k≤n→5^k * K≤4000000):=JZ fun k hk=>JW (JS K (Nat.pow_le_pow_right (by decide) hk)) hE
 have HG:Hid (∀(k:Nat) (c:List En),(cols++[c0])[k]? =some c→Inc none c∧∀(j:Nat) (e:En),c[j]? =some e→e.f.Sh):=JZ fun k c hc=>by
  have bj:Inc none c∧∀(j:Nat) (e:En),c[j]? =some e→e.f.Rs K:=by
   rcases JX k cols.length with e | e
   ·rw [List.getElem?_append_left e] at hc;exact hg k c hc
   ·rw [List.getElem?_append_right e] at hc;rcases JV (k - cols.length) with e1 | e1
    ·rw [e1] at hc;simp at hc;subst hc;exact hv
    ·rw [JU (by simp;omega)] at hc;cases hc
  exact ⟨bj.1,fun j e he=>(bj.2 j e he).sh (by omega)⟩
 have bk:Hid (∀r c,r < n→c < n+1→trM (Yu (cols++[c0])) r c=Zbi n (Yu cols) (XZ c0) r c):=JZ fun r c _ hc=>by rw [← hl];exact colsM_snoc cols c0 r c (by omega)
 obtain ⟨sv,aj⟩:∃x,solV n (Yu cols) (XZ c0)=x:=⟨_,rfl⟩;have bl:Hid (Xt n (Yu cols) (XZ c0)=none→sv=[]):=JZ fun e=>by rw [← aj];exact solV_none e
 have bm:Hid (∀x,Xt n (Yu cols) (XZ c0)=some x→sv=spV x n):=JZ fun x e=>by rw [← aj];exact solV_some e
 rw [aj];obtain ⟨M0,ak⟩:∃M,Zbi n (Yu cols) (XZ c0)=M:=⟨_,rfl⟩;rw [ak] at a5 bk;have d0:Hid (∀k M,k < n→gj M0 n k=some M→X6 M k n=none→sv=[]):=JZ fun k M hk a3 hf=>bl.out (solveQ_fail hk (by rw [ak];exact a3) hf)
 have d1:Hid (∀M,gj M0 n n=some M→sv=spV (fun k=>M k n) n):=JZ fun M a3=>bm.out _ (solveQ_done (by rw [ak];exact a3))
 have bn:(cols++[c0]).length=n+1:=by simp;omega
 have d2:=JZ bn;obtain ⟨A,ca,rfl,cg,e7⟩:=h.shape;rw [hl] at h cg ⊢;obtain ⟨Ab,cb,rfl,eb,ec⟩:=h2.shape;obtain ⟨vc,wc,b3,ch,al⟩:=run_append_copyV 22 w _ cols h (by omega);obtain ⟨vd,wd,ac,ci,cj⟩:=run_append_vecR 22 wc w.heap.size vc cols ch Ab c0.length cb c0 (h2.below al) (by omega) al.size;have a:=al.trans cj;clear aj hE hg hv ak bl bm h2 h bn ch al cj;generalize c0.length=l0 at *;clear hl;go_enter Tryz.func29,Tryz.ntmps29;go_wp2_with (at_builtin;first | (refine wpList_app_run b3 rfl rfl rfl rfl rfl ?_) | (refine wpList_app_run ac rfl rfl rfl rfl rfl ?_));clear b3 ac;refine (Zku _ (cols++[c0]) n (n+1) _ ci.vecs d2.out (by omega) (by omega) (fun _=>by omega) HG.out).mono ?_;rintro _ w1 ⟨va,G0,D0,rfl,S,cv⟩;have ap:=Za a cv a.size;have bo:=S.congr bk.out;have ef:=a.size;clear a cv S ci;generalize wd=W at *;go_wp2
 go_loopw [8] (fun x wr=>∃(k:Nat) (M:Mx) (G D:Nat→Nat),k≤n∧x= .int .i64 k∧Below w.heap.size w wr∧gj M0 n k=some M∧WJ W.heap.size wr va n (n+1) M G D) (fun x _=>n - (intOf x).toNat)
 case atStart=>exact ⟨0,M0,G0,D0,by omega,rfl,ap,rfl,bo⟩
 case round=>
  clear ap bo;obtain ⟨k,M,G,D,hk,rfl,a,a3,hM⟩:=hrel;have Z:=JZ a3;clear a3;rcases JX k n with hkn | hkn
  ·obtain ⟨go,ca,rfl,ck,cl,cm,cn,U⟩:=hM.outer (by omega);have b6:=JZ (Zwx a5.out hk Z.out);have eg:=bi.out k hkn;generalize dz:5^k * K=κ at *;obtain ⟨wP,rfl⟩:∃x,x=wr:=⟨_,rfl⟩;have d3:(k:Int) < n:=(by omega);have bp:(k:Int) < ((n+1:Nat):Int):=(by omega);have e2:(k:Int) < (n:Int)+1:=(by omega);clear dz U;go_wp2
   go_loopw [9] (fun x wx=>∃t:Nat,k≤t∧t≤n∧x= .int .i64 t∧Below wP.heap.size wP wx∧∀s,k≤s→s < t→M s k=0) (fun x _=>n - (intOf x).toNat)
   case atStart=>exact ⟨k,by omega,by omega,rfl,JR _ _,fun s h1 h2=>by omega⟩
   case round=>
    obtain ⟨t,ds,er,rfl,ad,hz⟩:=hrel;have HZ:=JZ hz;clear hz;rcases JX t n with htl | htl
    ·have b7:=hM.below ad;have y0:=(b7.cellAt htl).1;obtain ⟨B1,Bn,Bc,B2,Bm,Bd,⟨x0,x1,x2,x3⟩,hQ⟩:=b7.at_ htl (show k < n+1 by omega);have bq:(canF (M t k)).Sh:=(b6.out t k htl (by omega)).sh (by omega);simp only [YP] at y0;generalize cx:M t k=qt at *;have af:=JZ cx;clear cx;have eh:(t:Int) < n:=(by omega);go_wp2_with fail;refine (Xl _ (canF qt) _ hQ bq).mono ?_;rw [ZG];rintro _ w5 ⟨rfl,B⟩;clear y0 x0 x1 x2 x3 hQ b7;have Y:=Za ad B ad.size;by_cases q:qt=0
     ·have ag:(qs qt==0)=true:=(by rw [q];decide);have d4:Hid (∀s,k≤s→s < t+1→M s k=0):=JZ fun s h1 h2=>by
       rcases JX s t with h | h
       ·exact HZ.out s h1 h
       ·obtain rfl:s=t:=by omega
        rw [af.out,q]
      clear q;go_wp2;go_roundw
      case rel=>exact ⟨t+1,by omega,by omega,by go_num,Y,d4.out⟩
      case measure=>simp [intOf];omega
     ·have ag:(qs qt==0)=false:=(by simpa using fun e=>q (Yz.1 e));have br:Hid (X6 M k n=some t):=JZ (Zjv ds htl (by rw [af.out];exact q) HZ.out);have d5:Hid (qt≠0):=JZ q;have J:=hM.below Y;have C:=Za a Y a.size;have d6:((t:Int)==(n:Int))=false:=(by simp;omega);have a6:=J.below (Zj w5);obtain ⟨b,co⟩:=a6.swap htl hkn;obtain ⟨y1,cp,b4⟩:=a6.swap1 (u:=YP (n+1) G D k) hkn (k:=t);obtain ⟨a1,dt⟩:=a6.cellAt hkn;obtain ⟨a2,du⟩:=a6.cellAt htl;have b1:=(J.cellAt hkn).1;have b2:=(J.cellAt htl).1;obtain ⟨M1,S⟩:∃x:Mx,swapM M k t=x:=⟨_,rfl⟩;have bs:=JZ S;have O:Hid (MB n (n+1) κ M1):=JZ (by rw [← S];exact b6.out.swap hkn htl);have ah:Hid (M1 k k=qt):=JZ (by rw [← S,Zre];exact af.out);rw [Zke,S] at b;simp only [YP] at b co cp b4 a1 a2 b1 b2;obtain ⟨G1,cq⟩:∃x,Uf G t k=x:=⟨_,rfl⟩;obtain ⟨D1,cr⟩:∃x,Uf D t k=x:=⟨_,rfl⟩;rw [cq,cr] at b;have a7:=C.drew;have aq:w.heap.size≤go:=(by omega);clear a6 J hM cq cr S C a ad B Y HZ q bq co
      go_upto_region 10 with (fail)
      have C0:=Zr b1;have d7:=Zr b2;clear b1 b2 ag d6;refine Zt 13 [0,1,2,3,4,5,6,7,8,9,10,11,12,13,14,15] (by kernel_rfl) (by kernel_rfl) ?_;generalize e0:w5.drew=wD at *;clear e0;repeat ((first | (refine Zc (v:=?_) rfl rfl rfl ?_ ?_;rotate_left;(· (intro _ b;go_simp;(try go_bits);(try with_reducible rfl)))) | (refine Ze (v:=?_) rfl rfl rfl ?_ ?_;rotate_left;(· (intro _ b;go_simp;(try go_bits);(try with_reducible rfl)))) | refine Zf rfl rfl rfl ?_);(try simp only [Act.put,pu1,pu2,pu3,pu4,pu5,pu6]))
      refine Zg rfl rfl (fun KR hKR=>?_);go_simp;refine hKR.out _ _ (Or.inl (by decide)) ?_;clear hKR KR;(try simp only [Act.put,pu1,pu2,pu3,pu4,pu5,pu6]);generalize cy:wD.setCell ⟨go,t,none⟩ (.slice (some ⟨G k,0,none⟩) (n+1) (D k))=W1 at *;refine Zg rfl rfl (fun KR hKR=>?_);go_simp;refine hKR.out _ _ (Or.inl (by decide)) ?_;clear hKR KR;(try simp only [Act.put,pu1,pu2,pu3,pu4,pu5,pu6]);refine Zg rfl rfl (fun KR hKR=>?_);go_simp;refine hKR.out _ _ (Or.inl (by decide)) ?_;clear hKR KR;(try simp only [Act.put,pu1,pu2,pu3,pu4,pu5,pu6]);refine Zv ?_;have a8:=(a7.setCell (p:=⟨go,t,none⟩) aq (.slice (some ⟨G k,0,none⟩) (n+1) (D k)));rw [cy] at a8;have P:=a8.setCell (p:=⟨go,k,none⟩) aq (.slice (some ⟨G t,0,none⟩) (n+1) (D t));clear C0 d7 a8 a7 cp b4 a1 a2 dt du cy;generalize W1.setCell ⟨go,k,none⟩ (.slice (some ⟨G t,0,none⟩) (n+1) (D t))=W2 at *;have a9:Hid (Sz κ qt):=JZ (by rw [← ah.out];exact O.out k k hkn (by omega));rw [← scaleDn_start M1 k n qt] at b;go_wp2
      go_loopw [10] (fun x wx=>∃(i:Nat) (z:Int),k≤i∧i≤n+1∧z=(i:Int) - 1∧x= .int .i64 z∧Below w.heap.size w wx∧WJ W.heap.size wx (.slice (some ⟨go,0,none⟩) n ca) n (n+1) (scaleDn M1 k n i qt) G1 D1) (fun x _=>(intOf x+1).toNat)
      case atStart=>exact ⟨n+1,n,by omega,by omega,by omega,rfl,P,b⟩
      case round=>
       clear P b;obtain ⟨i,z,dv,dw,hz,rfl,a,hM⟩:=hrel;rcases JX k i with hlt | hge
       ·obtain ⟨j,rfl⟩:∃j,i=j+1:=⟨i - 1,by omega⟩;obtain rfl:z=(j:Int):=by omega
        have d:j < n+1:=(by omega);have y0:=(hM.cellAt hkn).1;obtain ⟨A3,n3,c3,A4,n4,c4,⟨q0,q1,q2,q3⟩,T⟩:=hM.at_ hkn d;obtain ⟨A5,n5,c5,A6,n6,c6,⟨p0,p1,p2,p3⟩,bg⟩:=hM.at_ hkn (show k < n+1 by omega);rw [scaleDn_at (show j < j+1 by omega)] at q0 q2 T;rw [scaleDn_at (show k < j+1 by omega),ah.out] at p0 p2 bg;have b8:=scaleDn_next (M:=M1) (k:=k) (n:=n) (i:=j) (f:=qt) (by omega);have a0:=O.out k j hkn d;obtain ⟨qa,ct⟩:∃x,M1 k j=x:=⟨_,rfl⟩;rw [ct] at q0 q2 T a0 b8;have R:=JZ b8;have b9:(canF qa).Sh:=a0.sh (by omega);have d8:(canF qt).Sh:=a9.out.sh (by omega);simp only [YP] at y0;have ei:(j:Int) < ((n+1:Nat):Int):=(by omega);have e3:(j:Int) < (n:Int)+1:=(by omega);have ej:(k:Int)≤j:=(by omega);clear a0 ct b8 hz;go_wp2_with fail;have Y0:=Zr y0;have Q0:=Zr q0;have Q1:=Zr q1;have Q2:=Zr q2;have Q3:=Zr q3;have P0:=Zr p0;have P1:=Zr p1;have P2:=Zr p2;have P3:=Zr p3;have F:=Zj wr;clear y0 q0 q1 q2 q3 p0 p1 p2 p3;refine Zt 24 [0,1,2,3,4,5,6,7,8,9,10,11,12,13,14,15,16,17,18,19,20,21,22,23,24] (by kernel_rfl) (by kernel_rfl) ?_;repeat ((first | (refine Zc (v:=?_) rfl rfl rfl ?_ ?_;rotate_left;(· (intro _ b;go_simp;(try go_bits);(try with_reducible rfl)))) | (refine Ze (v:=?_) rfl rfl rfl ?_ ?_;rotate_left;(· (intro _ b;go_simp;(try go_bits);(try with_reducible rfl)))) | refine Zf rfl rfl rfl ?_);(try simp only [Act.put,pu1,pu2,pu3,pu4,pu5,pu6]))
        refine Zg rfl rfl (fun KR hKR=>?_);go_simp;(with_reducible refine (Zfr _ _ (canF qa) (canF qt) _ (T.below F) (bg.below F) b9 d8 (by rw [ZG];exact d5.out)).mono ?_);rw [ZG,ZG];rintro _ w9 ⟨v9,rfl,e9,X⟩;have H:=Za F X F.size;have L:=hM.below H;obtain ⟨E,l9,k9,E',am,an,rfl,_,_⟩:=id e9;obtain ⟨f0,f1,f2,f3⟩:=L.frozen hkn d;obtain ⟨_,_,_,_,_,_,⟨t0,t1,t2,t3⟩,_⟩:=L.at_ hkn d;refine hKR.out _ _ (Or.inr H) ?_;clear hKR KR;(try simp only [Act.put,pu1,pu2,pu3,pu4,pu5,pu6]);repeat ((first | (refine Zc (v:=?_) rfl rfl rfl ?_ ?_;rotate_left;(· (intro _ b;go_simp;(try go_bits);(try with_reducible rfl)))) | (refine Ze (v:=?_) rfl rfl rfl ?_ ?_;rotate_left;(· (intro _ b;go_simp;(try go_bits);(try with_reducible rfl)))) | refine Zf rfl rfl rfl ?_);(try simp only [Act.put,pu1,pu2,pu3,pu4,pu5,pu6]))
        refine Zg rfl rfl (fun KR hKR=>?_);go_simp;refine hKR.out _ _ (Or.inl (by decide)) ?_;clear hKR KR;(try simp only [Act.put,pu1,pu2,pu3,pu4,pu5,pu6]);refine Zv ?_;obtain ⟨y,I⟩:=L.set_ hkn d e9;rw [R.out] at y;have l:=ZB (Za a H a.size) (show w.heap.size≤G1 k from by have:=(hM.lt hkn (by omega)).1;omega) (j * 4) (j * 4+1) (j * 4+2) (j * 4+3) (.bool (canF (qa / qt)).num.neg) (.slice E l9 k9) (.bool (canF (qa / qt)).den.neg) (.slice E' am an);clear Y0 Q0 Q1 Q2 Q3 P0 P1 P2 P3 hM L F H X e9 f0 f1 f2 f3 t0 t1 t2 t3 T bg a I;go_wp2;go_roundw
        case rel=>exact ⟨j,(j:Int) - 1,by omega,by omega,rfl,rfl,l,y⟩
        case measure=>simp [intOf] <;> omega
       ·have bt:i=k:=(by omega);have el:z < (k:Int):=(by omega);rw [bt,scaleDn_end] at hM;have ar:Hid (∀s c,s < n→c < n+1→s≠k→Sz κ (scaleTo M1 k (n+1) qt s c)):=JZ fun s c h1 h2 h3=>Zgs O.out h1 h2 h3
        have bu:Hid (∀c,c < n+1→Sz (2 * κ) (scaleTo M1 k (n+1) qt k c)):=JZ fun c h2=>Zmu O.out a9.out hkn h2
        have d9:Hid (gj M0 n (k+1)=some (ZL (scaleTo M1 k (n+1) qt) k n n)):=JZ (by rw [gj_next Z.out br.out,bs.out,ah.out]);generalize scaleTo M1 k (n+1) qt=M2 at *;have bv:WJ W.heap.size wr (.slice (some ⟨go,0,none⟩) n ca) n (n+1) (ZL M2 k 0 n) G1 D1:=(by rw [Zcu];exact hM);clear hM b6 O ah a9 Z br bs af bt hz dv dw hge;go_wp2
        go_loopw [11] (fun i wx=>∃s:Nat,s≤n∧i= .int .i64 s∧Below w.heap.size w wx∧WJ W.heap.size wx (.slice (some ⟨go,0,none⟩) n ca) n (n+1) (ZL M2 k s n) G1 D1) (fun i _=>n - (intOf i).toNat)
        case atStart=>exact ⟨0,by omega,rfl,a,bv⟩
        case round=>
         clear a bv;obtain ⟨s,hs,rfl,a,hM⟩:=hrel;rcases JX s n with hsn | hsn
         ·by_cases a4:s=k
          ·have ba:=JZ (Zer (M:=M2) (m:=n) (Or.inl a4:s=k∨M2 s k=0));have bw:=hM;rw [ba.out] at bw;have bx:((s:Int)==(k:Int))=true:=(by simp;omega);go_wp2;go_roundw
           case rel=>exact ⟨s+1,by omega,by go_num,a,bw⟩
           case measure=>simp [intOf];omega
          ·have bx:((s:Int)==(k:Int))=false:=(by simp;omega);have y0:=(hM.cellAt hsn).1;obtain ⟨A3,n3,c3,A4,n4,c4,⟨q0,q1,q2,q3⟩,N⟩:=hM.at_ hsn (show k < n+1 by omega);have bb:=ar.out s k hsn (by omega) a4;rw [Zjx] at q0 q2 N;simp only [YP] at y0;have au:=JZ (Zes (M:=M2) (m:=n) a4);rw [Zjx] at au;generalize cz:M2 s k=qg at *;have da:=JZ cz;clear cz;have bz:(canF qg).Sh:=bb.sh (by omega);have av:=JZ bb;clear bb;have d3:(k:Int) < ((n+1:Nat):Int):=(by omega);have bp:(k:Int) < (n:Int)+1:=(by omega);have em:(s:Int) < n:=(by omega);go_wp2_with fail;refine (Xl _ (canF qg) _ N bz).mono ?_;rw [ZG];rintro _ w5 ⟨rfl,B⟩;have J:=hM.below B;have C:=Za a B a.size;by_cases q:qg=0
           ·have ag:(qs qg==0)=true:=(by rw [q];decide);have ba:=JZ (Zer (M:=M2) (m:=n) (Or.inr (by rw [da.out,q]):s=k∨M2 s k=0));rw [ba.out] at J;clear q;go_wp2;go_roundw
            case rel=>exact ⟨s+1,by omega,by go_num,C,J⟩
            case measure=>simp [intOf];omega
           ·have ag:(qs qg==0)=false:=(by simpa using fun e=>q (Yz.1 e));clear q;have aw:=N.below B;have db:=cell_later B y0;have dc:=cell_later B q0;have dd:=cell_later B q1;have de:=cell_later B q2;have df:=cell_later B q3;have c1:Hid (∀s,s < n→G1 s < w5.heap.size):=JZ fun s hs=>(J.lt hs (by omega)).2.1
            clear y0 q0 q1 q2 q3 N hM a B;obtain ⟨W6,dx,V,ao⟩:=Zah w5 (.bool (canF qg).num.neg) (.slice A3 n3 c3) (.bool (canF qg).den.neg) (.slice A4 n4 c4);have c2:=J.below ao;have c9:=aw.below ao;have P:=Za C ao C.size;have ax:WJ W.heap.size W6 (.slice (some ⟨go,0,none⟩) n ca) n (n+1) (Xb (ZL M2 k s n) k s k qg) G1 D1:=(by rw [Zeq];exact c2);go_wp2;clear dx db dc dd de df aw J c2 ao C
            go_loopw [13] (fun i wx=>∃c':Nat,k≤c'∧c'≤n+1∧i= .int .i64 c'∧Below w.heap.size w wx∧WJ W.heap.size wx (.slice (some ⟨go,0,none⟩) n ca) n (n+1) (Xb (ZL M2 k s n) k s c' qg) G1 D1∧Bk wx w5.heap.size 36 [.bool (canF qg).num.neg,.slice A3 n3 c3,.bool (canF qg).den.neg,.slice A4 n4 c4]∧Zm wx (.agg #[.bool (canF qg).num.neg,.slice A3 n3 c3,.bool (canF qg).den.neg,.slice A4 n4 c4]) (canF qg)) (fun i _=>n+1 - (intOf i).toNat)
            case atStart=>exact ⟨k,by omega,by omega,rfl,P,ax,V,c9⟩
            case round=>
             clear P ax V c9;obtain ⟨c',dy,es,rfl,a,hM,V,N⟩:=hrel;rcases JX c' (n+1) with d | d
             ·have y0:=(hM.cellAt hsn).1;have x0:=(hM.cellAt hkn).1;obtain ⟨A5,n5,c5,A6,n6,c6,⟨q0,q1,q2,q3⟩,T⟩:=hM.at_ hsn d;obtain ⟨A7,n7,c7,A8,n8,c8,⟨p0,p1,p2,p3⟩,bh⟩:=hM.at_ hkn d;obtain ⟨z0,z1,z2,z3⟩:=V.four;have R:=JZ (Zgr (M:=ZL M2 k s n) (g:=qg) dy a4);have ea:Xb (ZL M2 k s n) k s c' qg s c'=M2 s c':=(by unfold Xb;rw [if_neg (by omega),Zjx]);have ek:Xb (ZL M2 k s n) k s c' qg k c'=M2 k c':=(by rw [Zbz a4,Wo]);rw [ea] at q0 q2 T R;rw [ek] at p0 p2 bh R;have a0:=ar.out s c' hsn d a4;have ai:=bu.out c' d;have cd:=V5 av.out ai;simp only [YP] at y0 x0;generalize M2 s c'=qa at *;generalize M2 k c'=qk at *;have b9:(canF qa).Sh:=a0.sh (by omega);have dg:(canF qk).Sh:=ai.sh (by omega);have dh:(canF qk).Rw:=ai.rw (by omega);have di:(canF qg).Rw:=av.out.rw (by omega);have dj:(canF (qg * qk)).Sh:=cd.sh (by omega);have en:(c':Int) < ((n+1:Nat):Int):=(by omega);have e4:(c':Int) < (n:Int)+1:=(by omega);have e5:(c':Int)≤n:=(by omega);clear a0 ai cd ea ek;go_wp2_with fail;have Y0:=Zr y0;have X0:=Zr x0;have Q0:=Zr q0;have Q1:=Zr q1;have Q2:=Zr q2;have Q3:=Zr q3;have P0:=Zr p0;have P1:=Zr p1;have P2:=Zr p2;have P3:=Zr p3;have Z0:=Zr z0;have Z1:=Zr z1;have Z2:=Zr z2;have Z3:=Zr z3;have F:=Zj wr;clear y0 x0 q0 q1 q2 q3 p0 p1 p2 p3 z0 z1 z2 z3;refine Zt 23 [0,1,2,3,4,5,6,7,8,9,10,11,12,13,14,15,16,17,18,19,20,21,22,23] (by kernel_rfl) (by kernel_rfl) ?_;repeat ((first | (refine Zc (v:=?_) rfl rfl rfl ?_ ?_;rotate_left;(· (intro _ b;go_simp;(try go_bits);(try with_reducible rfl)))) | (refine Ze (v:=?_) rfl rfl rfl ?_ ?_;rotate_left;(· (intro _ b;go_simp;(try go_bits);(try with_reducible rfl)))) | refine Zf rfl rfl rfl ?_);(try simp only [Act.put,pu1,pu2,pu3,pu4,pu5,pu6]))
              refine Zg rfl rfl (fun KR hKR=>?_);go_simp;(with_reducible refine (Zfq _ _ (canF qg) (canF qk) _ (N.below F) (bh.below F) bz dg di dh).mono ?_);rw [ZG,ZG];rintro _ w8 ⟨v8,rfl,e8,cw⟩;have aa:=Za F cw F.size;refine hKR.out _ _ (Or.inr aa) ?_;clear hKR KR;(try simp only [Act.put,pu1,pu2,pu3,pu4,pu5,pu6]);repeat ((first | (refine Zc (v:=?_) rfl rfl rfl ?_ ?_;rotate_left;(· (intro _ b;go_simp;(try go_bits);(try with_reducible rfl)))) | (refine Ze (v:=?_) rfl rfl rfl ?_ ?_;rotate_left;(· (intro _ b;go_simp;(try go_bits);(try with_reducible rfl)))) | refine Zf rfl rfl rfl ?_);(try simp only [Act.put,pu1,pu2,pu3,pu4,pu5,pu6]))
              refine Zg rfl rfl (fun KR hKR=>?_);go_simp;(with_reducible refine (Zoh _ _ (canF qa) (canF (qg * qk)) _ (T.below aa) e8 b9 dj).mono ?_);rw [ZG,ZG];rintro _ w9 ⟨v9,rfl,e9,X⟩;have H:=Za aa X aa.size;have L:=hM.below H;obtain ⟨E,l9,k9,E',am,an,rfl,_,_⟩:=id e9;obtain ⟨f0,f1,f2,f3⟩:=L.frozen hsn d;obtain ⟨_,_,_,_,_,_,⟨t0,t1,t2,t3⟩,_⟩:=L.at_ hsn d;refine hKR.out _ _ (Or.inr H) ?_;clear hKR KR;(try simp only [Act.put,pu1,pu2,pu3,pu4,pu5,pu6]);repeat ((first | (refine Zc (v:=?_) rfl rfl rfl ?_ ?_;rotate_left;(· (intro _ b;go_simp;(try go_bits);(try with_reducible rfl)))) | (refine Ze (v:=?_) rfl rfl rfl ?_ ?_;rotate_left;(· (intro _ b;go_simp;(try go_bits);(try with_reducible rfl)))) | refine Zf rfl rfl rfl ?_);(try simp only [Act.put,pu1,pu2,pu3,pu4,pu5,pu6]))
              refine Zg rfl rfl (fun KR hKR=>?_);go_simp;refine hKR.out _ _ (Or.inl (by decide)) ?_;clear hKR KR;(try simp only [Act.put,pu1,pu2,pu3,pu4,pu5,pu6]);refine Zv ?_;obtain ⟨y,I⟩:=L.set_ hsn d e9;rw [R.out] at y;have ay:=Za a H a.size;have l:=ZB ay (show w.heap.size≤G1 s from by have:=(hM.lt hsn (by omega)).1;omega) (c' * 4) (c' * 4+1) (c' * 4+2) (c' * 4+3) (.bool (canF (qa - qg * qk)).num.neg) (.slice E l9 k9) (.bool (canF (qa - qg * qk)).den.neg) (.slice E' am an);have bc:=(V.later H).far4' (show w5.heap.size≠G1 s by have:=c1.out s hsn;omega) (c' * 4) (c' * 4+1) (c' * 4+2) (c' * 4+3) (.bool (canF (qa - qg * qk)).num.neg) (.slice E l9 k9) (.bool (canF (qa - qg * qk)).den.neg) (.slice E' am an);have bd:=(N.below H).keep (I.keep (by decide));clear Y0 X0 Q0 Q1 Q2 Q3 P0 P1 P2 P3 Z0 Z1 Z2 Z3 hM V N L F aa H cw X e8 e9 f0 f1 f2 f3 t0 t1 t2 t3 T bh a ay I;go_wp2;go_roundw
              case rel=>exact ⟨c'+1,by omega,by omega,by go_num,l,y,bc,bd⟩
              case measure=>simp [intOf];omega
             ·have ab:c'=n+1:=(by omega);rw [ab,au.out] at hM;clear V N ab;go_wp2;go_roundw
              case rel=>exact ⟨s+1,by omega,by go_num,a,hM⟩
              case measure=>simp [intOf];omega
         ·obtain rfl:n=s:=by omega
          go_wp2;go_roundw
          case rel=>exact ⟨k+1,_,G1,D1,by omega,by go_num,a,d9.out,hM⟩
          case measure=>simp [intOf];omega
    ·obtain rfl:n=t:=by omega
     have HN:Hid (sv=[]):=JZ (d0.out k M hkn Z.out (Zju HZ.out));go_wp2;go_ret;exact ⟨_,rfl,by rw [HN.out];exact (Wz.nil 0 _).vec,Za a ad a.size⟩
  ·obtain rfl:n=k:=by omega
   have dk:=JZ (d1.out M Z.out);have dl:=JZ (Zwx a5.out (JY n) Z.out);have dm:=JZ (b5.out n (JY n));have dn:=X5 n (by omega);have be:=YL.zeros wr n (by unfold maxLen;omega);have bf:=Zd wr (.cells (zfc n) 36);rw [← Zaz (w:=fun i=>M i n)] at be;have az:=Za a bf a.size;have ce:=hM.below bf;have dp:Hid (∀r,r < n→G r≠wr.heap.size):=JZ fun r hr=>by have:=(hM.lt hr (by omega)).2.1;omega
   have dq:w.heap.size≤wr.heap.size:=a.size;clear a hM bf;go_wp2;clear dn;generalize wr.heap.size=gx at *;generalize wr.alloc (.cells (zfc n) 36)=W7 at *
   go_loopw [15] (fun x wx=>∃i:Nat,i≤n∧x= .int .i64 i∧Below w.heap.size w wx∧WJ W.heap.size wx va n (n+1) M G D∧YL gx wx (.slice (some ⟨gx,0,none⟩) n n) (XQ n i fun r=>M r n)) (fun x _=>n - (intOf x).toNat)
   case atStart=>exact ⟨0,by omega,rfl,az,ce,be⟩
   case round=>
    clear az ce be;obtain ⟨i,hi,rfl,a,hM,hO⟩:=hrel;rcases JX i n with hil | hil
    ·obtain ⟨go,ca,rfl,ck,cl,cm,cn,U⟩:=hM.outer (by omega);have y0:=(hM.cellAt hil).1;obtain ⟨A3,n3,c3,A4,n4,c4,⟨q0,q1,q2,q3⟩,hQ⟩:=hM.at_ hil (show n < n+1 by omega);simp only [YP] at y0;have b0:=Yt (n:=n) (i:=i) (f:=fun j=>if j < i then canF (M j n) else zeroF) hil;obtain ⟨_,_,_,_,⟨t0,t1,t2,t3⟩,⟨f0,f1,f2,f3⟩,_⟩:=hO.at_ b0;obtain ⟨ae,I⟩:=hO.set_ (k:=i) (by rw [Un];exact hil) hQ;have R:Hid ((XQ n i fun r=>M r n).set i (canF (M i n))=XQ n (i+1) fun r=>M r n):=JZ (VH (w:=fun r=>M r n) hil);rw [R.out] at ae;have y:=hM.far Yb I dp.out;have l:=ZB a dq (i * 4) (i * 4+1) (i * 4+2) (i * 4+3) (.bool (canF (M i n)).num.neg) (.slice A3 n3 c3) (.bool (canF (M i n)).den.neg) (.slice A4 n4 c4);have eo:(i:Int) < n:=(by omega);have ep:(n:Int) < ((n+1:Nat):Int):=(by omega);have e6:(n:Int) < (n:Int)+1:=(by omega);obtain ⟨qz,cu⟩:∃x,M i n=x:=⟨_,rfl⟩;rw [cu] at q0 q2 ae y l;clear cu hM hO a hQ I b0 U R;go_wp2;go_roundw
     case rel=>exact ⟨i+1,by omega,by go_num,l,y,ae⟩
     case measure=>simp [intOf];omega
    ·obtain rfl:n=i:=by omega
     rw [Zcc] at hO;go_wp2_with fail;refine (fromDense1_own _ (YT n fun r=>M r n) (5^n * K) _ hO.frs (by rw [Zu];omega) (Ztl fun i hi=>dl.out i n hi (by omega)) (by have:=dm.out;omega)).mono ?_;rw [Zu];rintro _ w9 ⟨v9,rfl,e9,X⟩;go_wp2;go_ret;have cf:=e9.vec;rw [WM fun i hi=>Zpu hi] at cf;exact ⟨_,rfl,by rw [dk.out];exact cf,Za a X a.size⟩
end
section
theorem run_append_entryG [Old] (ty:TypeId) (W:World) (base:Nat) (v:Value) (es:List En) (hown:Wz base W v es) (b b':Bool) (A A':Option Addr) (n c n' c':Nat) (k:Int) (f:RF) (hf:Zm W (.agg #[.bool b,.slice A n c,.bool b',.slice A' n' c']) f) (hn:es.length+1≤1099511627776) (hbase:base≤W.heap.size) (hO:Old.n≤base:=by first | assumption | exact Nat.zero_le _ | omega | ((first | with_reducible refine Zb.le ?_ | with_reducible refine Zb.le1 ?_ | with_reducible refine Zb.le2 ?_ | with_reducible refine Zb.le3 ?_);repeat (first | assumption | exact Zb.up (by assumption) hOl | exact Zb.up (Hid.out (by assumption)) hOl | with_reducible refine Zb.set ?_ _ _ | with_reducible refine Zb.mk_ ?_ _ | with_reducible refine Zb.dr ?_ | with_reducible refine Zb.drN ?_ | refine Zb.up (by assumption) ?_ | refine Zb.up (Hid.out (by assumption)) ?_))):
 ∃v' w',(Builtin.append_ #[28,28] ty #[v,.slice (some ⟨W.heap.size,0,none⟩) 1 1]).run Tryz.prog (W.alloc (.cells #[.int .i64 k,.bool b,.slice A n c,.bool b',.slice A' n' c'] 39))= .ok v' w'∧Wz base w' v' (es++[⟨k,f⟩])∧Zk 39 W w'∧Below base W w'∧ZN v.ownBlock W w'∧(v'.ownBlock=v.ownBlock∨∀g,v'.ownBlock=some g→W.heap.size≤g):=by
 obtain ⟨cs,h1,h2⟩:=hown;obtain ⟨i0,hi,a,d,h⟩:=info_parts info_entry;obtain ⟨v',w',hr,g1,g2,g3,g4,g5⟩:=run_append_oneG ty 28 39 i0 _ 5 72 Tryz.underlying28 hi a d h rfl (by decide) W base v es.length cs [.int .i64 k,.bool b,.slice A n c,.bool b',.slice A' n' c'] h1 rfl Zct (by unfold maxLen;omega) (by omega) hbase;have hk:=g2.keep (by decide);exact ⟨v',w',hr,⟨_,by simpa using g1,(h2.keep hk).snoc (e:=⟨k,f⟩) (hf.keep hk)⟩,g2,g3,g4,g5⟩
section
variable {base gx n j b:Nat} {M:Mx} {us:Nat→Value} {w w':World}
theorem TrO.below [Old] (h:TrO base gx n j b M us w) (hb:Below w.heap.size w w'):TrO base gx n j b M us w':=⟨own_below h.1 hb,fun r hr=>(h.2.1 r hr).below hb,h.2.2⟩
theorem TrO.skip [Old] {i:Nat} (h:TrO base gx n j b M us w) (hz:∀r,b≤r→r < i→M j r=0) (hbi:b≤i):TrO base gx n j i M us w:=⟨h.1,fun r hr=>by
 have h1:=h.2.1 r hr
 by_cases e:r < b
 ·rw [if_pos e] at h1;rw [if_pos (by omega)];exact h1
 ·rw [if_neg e] at h1
  by_cases e2:r < i
  ·rw [if_pos e2,Y8 (f:=fun c=>M c r) (hz r (by omega) e2)];exact h1
  ·rw [if_neg e2];exact h1,h.2.2⟩
theorem TrO.full [Old] (h:TrO base gx n j n M us w):TrO base gx n (j+1) 0 M us w:=⟨h.1,fun r hr=>by
 have h1:=h.2.1 r hr
 rw [if_pos hr] at h1
 rw [if_neg (by omega)];exact h1,h.2.2⟩
theorem TrO.row [Old] (h:TrO base gx n j b M us w) (hr:b < n):Wz base w (us b) (spV (fun c=>M c b) j):=by
 have h1:=h.2.1 b hr;rw [if_neg (by omega)] at h1;exact h1
theorem TrO.vecs [Old] (h:TrO base gx n n 0 M us w):Xf w (.slice (some ⟨gx,0,none⟩) n n) (vcL n (trM M)):=by
 refine ⟨(List.range n).map us,by rw [UI];exact X9.of_own h.1,fun k c hc=>?_⟩;have hk:k < n:=by have:=(List.getElem?_eq_some_iff.1 hc).1;rw [UI] at this;exact this
 rw [Zbb hk] at hc;injection hc with hc;subst hc;have h1:=h.2.1 k hk;rw [if_neg (by omega)] at h1;exact ⟨us k,by simp [hk],h1.vec⟩
end
theorem boxE (w:World) (x y z u v:Value):∃W,w.alloc (.cells #[x,y,z,u,v] 39)=W∧Bk W w.heap.size 39 [x,y,z,u,v]∧Below w.heap.size w W:=⟨_,rfl,Bk.new w _ [x,y,z,u,v],Zd w _⟩
def TrS (ge gx i:Nat) (ui:Value) (L:List Value) (w:World):Prop:=Bk w ge 39 L∧w.cell? ⟨gx,i,none⟩=some ui
theorem TrS.below {ge gx i:Nat} {ui:Value} {L:List Value} {w w':World} (h:TrS ge gx i ui L w) (hb:Below w.heap.size w w'):TrS ge gx i ui L w':=⟨h.1.later hb,cell_later hb h.2⟩
attribute [local irreducible] Yi
theorem transpose1_any [Old] (v:Value) (cols:List (List En)) (n K:Nat) (w:World) (h:Xf w v cols) (hl:cols.length=n) (hn:n≤60) (hK:K≤34359738368) (hg:∀(k:Nat) (c:List En),cols[k]? =some c→Pl.Good n c∧∀(j:Nat) (e:En),c[j]? =some e→e.f.Rs K) (hOl:Zb w:=by (repeat (first | assumption | exact Zb.up (by assumption) hOl | exact Zb.up (Hid.out (by assumption)) hOl | with_reducible refine Zb.set ?_ _ _ | with_reducible refine Zb.mk_ ?_ _ | with_reducible refine Zb.dr ?_ | with_reducible refine Zb.drN ?_ | refine Zb.up (by assumption) ?_ | refine Zb.up (Hid.out (by assumption)) ?_))):
 Calls Tryz.prog 62 #[v,.int .i64 (n:Int)] w fun o w'=>∃v',o= .returned (.tuple #[v',.int .i64 0])∧Xf w' v' (vcL n (trM (Yu cols)))∧Below w.heap.size w w':=by
 have b1:=hOl.le;obtain ⟨A,ca,rfl,ax,b7⟩:=h.shape;rw [hl] at h ax ⊢;have HV:=JZ h;have HL:=JZ hl;have HG:Hid (∀(k:Nat) (c:List En),cols[k]? =some c→Pl.Good n c∧vecErr c (n:Int)=0∧EnI c∧∀(j:Nat) (e:En),c[j]? =some e→e.f.Sh):=JZ fun k c hc=>⟨(hg k c hc).1,(hg k c hc).1.err (by omega),(hg k c hc).1.enI (by omega),fun j e he=>((hg k c hc).2 j e he).sh hK⟩
 obtain ⟨M,hM⟩:∃M,Yu cols=M:=⟨_,rfl⟩;rw [hM];have am:Hid (∀(k:Nat) (c:List En),cols[k]? =some c→M k=XZ c):=JZ fun k c hc=>by rw [← hM];exact Wu hc
 have an:=Zey n (by omega);clear hM hg h hl;go_enter Tryz.func62,Tryz.ntmps62;go_wp2
 go_loopw [6] (fun x wr=>∃k:Nat,k≤n∧x= .int .i64 k∧Below w.heap.size w wr) (fun x _=>n - (intOf x).toNat)
 case atStart=>exact ⟨0,by omega,rfl,JR _ _⟩
 case round=>
  obtain ⟨k,hk,rfl,a⟩:=hrel;rcases JX k n with hkl | hkl
  ·obtain ⟨es,he⟩:=XI (cs:=cols) (i:=k) (by rw [HL.out];exact hkl);obtain ⟨b,ay,A1,c1,rfl,b8,l,hm⟩:=HV.out.elem a he;obtain ⟨_,g2,g3,g4⟩:=HG.out k es he;have ao:(k:Int) < n:=(by omega);obtain ⟨ls,E⟩:∃x,es.length=x:=⟨_,rfl⟩;rw [E] at hm l;clear he E;go_wp2_with fail;refine (Zdo _ es (n:Int) _ hm g4 g3 (by omega) (by omega)).mono ?_;rw [g2];rintro _ w2 ⟨rfl,S⟩;have ap:=Za a S a.size;clear g2 g3 g4 l hm;go_wp2;go_roundw
   case rel=>exact ⟨k+1,by omega,by go_num,ap⟩
   case measure=>simp [intOf];omega
  ·obtain rfl:n=k:=by omega
   have hT:=TrO.start wr w.heap.size n M (by unfold maxLen;omega);have a8:=Zd wr (.cells (zvc n) 28);have U:=Za a a8 a.size;have aq:w.heap.size≤wr.heap.size:=a.size;clear a a8;go_wp2;clear an;generalize wr.heap.size=gx at *;generalize wr.alloc (.cells (zvc n) 28)=W2 at *
   go_loopw [9] (fun x wx=>∃(j:Nat) (us:Nat→Value),j≤n∧x= .int .i64 j∧Below w.heap.size w wx∧TrO w.heap.size gx n j 0 M us wx) (fun x _=>n - (intOf x).toNat)
   case atStart=>exact ⟨0,_,by omega,rfl,U,hT⟩
   case round=>
    clear U hT;obtain ⟨j,us,hj,rfl,a,hT⟩:=hrel;rcases JX j n with hjl | hjl
    ·obtain ⟨es,he⟩:=XI (cs:=cols) (i:=j) (by rw [HL.out];exact hjl);obtain ⟨ag,_,_,ah⟩:=HG.out j es he;have HE:=JZ he;have z:=JZ ag;have ar:=JZ ah;have a0:=JZ (am.out j es he);have b2:(j:Int) < n:=(by omega);have F:=hT;clear he ag ah hT;go_wp2
     go_loopw [10] (fun x wx=>∃(k b:Nat) (us:Nat→Value),k≤es.length∧x= .int .i64 k∧Below w.heap.size w wx∧TrO w.heap.size gx n j b M us wx∧b≤n∧(∀(m:Nat) (e:En),m < k→es[m]? =some e→e.idx < (b:Int))∧∀(m:Nat) (e:En),k≤m→es[m]? =some e→(b:Int)≤e.idx) (fun x _=>es.length - (intOf x).toNat)
     case atStart=>exact ⟨0,0,us,by omega,rfl,a,F,by omega,fun m e hm=>absurd hm (by omega),fun m e _ he=>(z.out.1 m e he).1⟩
     case round=>
      clear a F;obtain ⟨k,b,us,hk,rfl,a,hT,az,ai,S⟩:=hrel;obtain ⟨bb,ay,A1,c1,rfl,_,l,N⟩:=HV.out.elem a HE.out;have G:=JZ ai;have a1:=JZ S;clear ai S;obtain ⟨ls,E⟩:∃x,es.length=x:=⟨_,rfl⟩;rw [E] at hk l N ⊢;have H:=JZ E;clear E;rcases JX k ls with hkl | hkl
      ·obtain ⟨e,he⟩:∃e,es[k]? =some e:=⟨es[k]'(by rw [H.out];exact hkl),JQ (by rw [H.out];exact hkl)⟩;obtain ⟨b5,o5,A5,n5,c5,A6,n6,c6,rfl,_,⟨x0,x1,x2,x3,x4⟩,B⟩:=N.elem (JR _ _) he;have b3:=N.len.2.1;have b4:=N.len.2.2;have a9:=z.out.1 k e he;have au:=a1.out k e (JY _) he;obtain ⟨i,hi⟩:∃i:Nat,e.idx=(i:Int):=⟨e.idx.toNat,by omega⟩;have I:i < n:=(by omega);have V:b≤i:=(by omega);have J:M j i=e.f.q:=(by rw [a0.out];exact Zas z.out.2.1 he hi);have aa:Hid (spV (fun c=>M c i) j++[⟨(j:Int),canF e.f.q⟩]=spV (fun c=>M c i) (j+1)):=JZ (by
        have e1:=Xo (f:=fun c=>M c i) (n:=j) (by show M j i≠0;rw [J];exact z.out.2.2 k e he);rw [e1,← J])
       have O:=hT.skip (i:=i) (fun r h1 h2=>by
        rw [a0.out];exact Zqy (fun m d hd e3=>by
         rcases JX m k with q | q
         ·have:=G.out m d q hd;omega
         ·rcases JX k m with q2 | q2
          ·have:=Zms z.out.2.1 k m e d q2 he hd;omega
          ·obtain rfl:m=k:=by omega
           rw [he] at hd;injection hd with hd;subst hd;omega)) V
       have ab:Hid (∀(m:Nat) (d:En),m < k+1→es[m]? =some d→d.idx < ((i+1:Nat):Int)):=JZ fun m d hm hd=>by
        rcases JX m k with q | q
        ·have:=G.out m d q hd;omega
        ·obtain rfl:m=k:=by omega
         rw [he] at hd;injection hd with hd;subst hd;omega
       have ac:Hid (∀(m:Nat) (d:En),k+1≤m→es[m]? =some d→((i+1:Nat):Int)≤d.idx):=JZ fun m d hm hd=>by
        have:=Zms z.out.2.1 k m e d (by omega) he hd;omega
       have ad:=ar.out k e he;obtain ⟨f,hf⟩:∃f,e.f=f:=⟨_,rfl⟩;rw [hf] at x1 x3 B aa ad;rw [hi] at x0;obtain ⟨ui,a4⟩:∃u,us i=u:=⟨_,rfl⟩;have L:=JZ a4;have b6:(i:Int) < n:=(by omega);have ao:(k:Int) < ls:=(by omega);have av:Hid (∀g,ui.ownBlock=some g→g < wr.heap.size):=JZ (by rw [← a4];exact (hT.2.1 i I).ltB);obtain ⟨W6,b0,s,y⟩:=boxE wr (.int .i64 (i:Int)) (.bool f.num.neg) (.slice A5 n5 c5) (.bool f.den.neg) (.slice A6 n6 c6);obtain ⟨Y,F⟩:=And.intro B O;clear hT a9 au V J hi hf a4 B O he G a1;have B:=Y.below y;have hT:=F.below y;have t:=Za a y a.size;obtain ⟨y0,_⟩:=Zw hT.1 (j:=i) (u:=ui) (by rw [List.getElem?_map,List.getElem?_range I];show some (us i)=_;rw [L.out]);have z0:=s.cellAt 0 rfl;have z1:=s.cellAt 1 rfl;have z2:=s.cellAt 2 rfl;have z3:=s.cellAt 3 rfl;have z4:=s.cellAt 4 rfl;clear Y F
       go_upto_region 17 with (fail)
       clear b0 x0 x1 x2 x3 x4 l;have Y0:∀w',TrS wr.heap.size gx i ui [.int .i64 (i:Int),.bool f.num.neg,.slice A5 n5 c5,.bool f.den.neg,.slice A6 n6 c6] w'→w'.cell? ⟨gx,i,none⟩=some ui:=fun w' h=>h.2
       have Z0:∀w',TrS wr.heap.size gx i ui [.int .i64 (i:Int),.bool f.num.neg,.slice A5 n5 c5,.bool f.den.neg,.slice A6 n6 c6] w'→w'.cell? ⟨wr.heap.size,0,none⟩=some (.int .i64 (i:Int)):=fun w' h=>h.1.cellAt 0 rfl
       have Z1:∀w',TrS wr.heap.size gx i ui [.int .i64 (i:Int),.bool f.num.neg,.slice A5 n5 c5,.bool f.den.neg,.slice A6 n6 c6] w'→w'.cell? ⟨wr.heap.size,1,none⟩=some (.bool f.num.neg):=fun w' h=>h.1.cellAt 1 rfl
       have Z2:∀w',TrS wr.heap.size gx i ui [.int .i64 (i:Int),.bool f.num.neg,.slice A5 n5 c5,.bool f.den.neg,.slice A6 n6 c6] w'→w'.cell? ⟨wr.heap.size,2,none⟩=some (.slice A5 n5 c5):=fun w' h=>h.1.cellAt 2 rfl
       have Z3:∀w',TrS wr.heap.size gx i ui [.int .i64 (i:Int),.bool f.num.neg,.slice A5 n5 c5,.bool f.den.neg,.slice A6 n6 c6] w'→w'.cell? ⟨wr.heap.size,3,none⟩=some (.bool f.den.neg):=fun w' h=>h.1.cellAt 3 rfl
       have Z4:∀w',TrS wr.heap.size gx i ui [.int .i64 (i:Int),.bool f.num.neg,.slice A5 n5 c5,.bool f.den.neg,.slice A6 n6 c6] w'→w'.cell? ⟨wr.heap.size,4,none⟩=some (.slice A6 n6 c6):=fun w' h=>h.1.cellAt 4 rfl
       have C:=Zj W6;clear z0 z1 z2 z3 z4 a;refine Zhe (TrS wr.heap.size gx i ui [.int .i64 (i:Int),.bool f.num.neg,.slice A5 n5 c5,.bool f.den.neg,.slice A6 n6 c6]) ⟨s.later C,cell_later C y0⟩ 15 [0,1,2,3,4,5,6,7,8,9,10,11,12,13,14,15,16] (by kernel_rfl) (by kernel_rfl) ?_;repeat ((first | (refine Zc (v:=?_) rfl rfl rfl ?_ ?_;rotate_left;(· (intro _ a7;go_simp;(try go_bits);(try with_reducible rfl)))) | (refine Ze (v:=?_) rfl rfl rfl ?_ ?_;rotate_left;(· (intro _ a7;go_simp;(try go_bits);(try with_reducible rfl)))) | refine Zf rfl rfl rfl ?_);(try simp only [Act.put,pu1,pu2,pu3,pu4,pu5,pu6]))
       refine Zg rfl rfl (fun KR hKR=>?_);go_simp;(with_reducible refine (YY _ f _ (B.below C) ad).mono ?_);rintro _ w8 ⟨v8,rfl,e8,al⟩;have D:=Za C al C.size;have P:TrS wr.heap.size gx i ui [.int .i64 (i:Int),.bool f.num.neg,.slice A5 n5 c5,.bool f.den.neg,.slice A6 n6 c6] w8:=⟨s.later D,cell_later D y0⟩;obtain ⟨B1,l1,d1,B2,l2,d2,rfl,_,_⟩:=id e8;refine hKR.out _ _ (Or.inr P) ?_;clear hKR KR;(try simp only [Act.put,pu1,pu2,pu3,pu4,pu5,pu6]);repeat ((first | (refine Zc (v:=?_) rfl rfl rfl ?_ ?_;rotate_left;(· (intro _ a7;go_simp;(try go_bits);(try with_reducible rfl)))) | (refine Ze (v:=?_) rfl rfl rfl ?_ ?_;rotate_left;(· (intro _ a7;go_simp;(try go_bits);(try with_reducible rfl)))) | refine Zf rfl rfl rfl ?_);(try simp only [Act.put,pu1,pu2,pu3,pu4,pu5,pu6]))
       refine Zg rfl rfl (fun KR hKR=>?_);go_simp;refine hKR.out _ _ (Or.inr (P.below (Zd w8 _))) ?_;clear hKR KR;(try simp only [Act.put,pu1,pu2,pu3,pu4,pu5,pu6]);have R:=hT.below D;have a2:=R.row I;rw [L.out] at a2;obtain ⟨v9,w9,Z,T,a5,aj,a6,ak⟩:=run_append_entryG 28 w8 w.heap.size ui _ a2 _ _ B1 B2 l1 d1 l2 d2 (j:Int) _ e8 (by have:=Ve (f:=fun c=>M c i) j;omega) (by have:=t.size;have:=D.size;omega);obtain ⟨A9,n9,c9,rfl⟩:∃A n c,v9= .slice A n c:=by obtain ⟨A,c,e,_⟩:=T.vec.shape;exact ⟨A,_,c,e⟩
       have ae:=a5.own R.1 (by decide);obtain ⟨m5,m6⟩:=Zw ae (j:=i) (u:=ui) (by rw [List.getElem?_map,List.getElem?_range I];show some (us i)=_;rw [L.out]);have af:TrS wr.heap.size gx i ui [.int .i64 (i:Int),.bool f.num.neg,.slice A5 n5 c5,.bool f.den.neg,.slice A6 n6 c6] w9:=⟨a6.bk P.1 (fun e=>by have:=av.out _ e.symm;omega),m5⟩;refine Zg rfl rfl (fun KR hKR=>?_);refine op_append_run _ _ rfl rfl rfl rfl Z ?_;refine hKR.out _ _ (Or.inr af) ?_;clear hKR KR Z;(try simp only [Act.put,pu1,pu2,pu3,pu4,pu5,pu6]);refine Zg rfl rfl (fun KR hKR=>?_);go_simp;refine hKR.out _ _ (Or.inl (by decide)) ?_;clear hKR KR;(try simp only [Act.put,pu1,pu2,pu3,pu4,pu5,pu6]);refine Zg rfl rfl (fun KR hKR=>?_);go_simp;refine hKR.out _ _ (Or.inl (by decide)) ?_;clear hKR KR;(try simp only [Act.put,pu1,pu2,pu3,pu4,pu5,pu6]);refine Zv ?_;rw [aa.out] at T;have aw:=R.put I T a5 (by rw [L.out];exact a6) (by rw [L.out];exact ak);have X:=(Za t D t.size).trans aj;have a3:=X.setCell (p:=⟨gx,i,none⟩) aq (.slice A9 n9 c9);clear y0 m5 m6 P af Y0 Z0 Z1 Z2 Z3 Z4 hT R a2 T a5 a6 ak aj ae X D C al e8 B s y t;go_wp2;go_roundw
       case rel=>exact ⟨k+1,i+1,_,by have:=H.out;omega,by go_num,a3,aw,by omega,ab.out,ac.out⟩
       case measure=>have:=H.out;simp [intOf];omega
      ·obtain rfl:k=ls:=by omega
       have O:=(hT.skip (i:=n) (fun r h1 h2=>by
        rw [a0.out];exact Zqy (fun m d hd e3=>by
         rcases JX m k with q | q
         ·have:=G.out m d q hd;omega
         ·have:=(List.getElem?_eq_some_iff.1 hd).1;rw [H.out] at this;omega)) az).full
       go_wp2;clear hT l N G a1;go_roundw
       case rel=>exact ⟨j+1,us,by omega,by go_num,a,O⟩
       case measure=>simp [intOf];omega
    ·obtain rfl:n=j:=by omega
     go_wp2;go_ret2;exact ⟨_,rfl,hT.vecs,a⟩
end
theorem solveT4_any [Old] (v1 v2:Value) (cols:List (List En)) (c0:List En) (n K:Nat) (w:World) (h:Xf w v1 cols) (h2:Wy w v2 c0) (hl:cols.length=n) (hn:n≤7) (hK:1≤K) (hE:5^n * K≤4000000) (hg:∀(k:Nat) (c:List En),cols[k]? =some c→Pl.Good n c∧∀(j:Nat) (e:En),c[j]? =some e→e.f.Rs K) (hv:Inc none c0∧∀(j:Nat) (e:En),c0[j]? =some e→e.f.Rs K) (hOl:Zb w:=by (repeat (first | assumption | exact Zb.up (by assumption) hOl | exact Zb.up (Hid.out (by assumption)) hOl | with_reducible refine Zb.set ?_ _ _ | with_reducible refine Zb.mk_ ?_ _ | with_reducible refine Zb.dr ?_ | with_reducible refine Zb.drN ?_ | refine Zb.up (by assumption) ?_ | refine Zb.up (Hid.out (by assumption)) ?_))):
 Calls Tryz.prog 30 #[.int .i64 (n:Int),v1,v2] w fun o w'=>∃v',o= .returned v'∧Wy w' v' (solV n (Yu (vcL n (trM (Yu cols)))) (XZ c0))∧Below w.heap.size w w':=by
 have t:=hOl.le;have u:K≤4000000:=by have:=JS K (Nat.pow_le_pow_right (show 0 < 5 by decide) (Nat.zero_le n));simp at this;omega
 obtain ⟨A,ca,rfl,r,v⟩:=h.shape;obtain ⟨Ab,cb,rfl,y,z⟩:=h2.shape;rw [hl] at h r ⊢;have HV:=JZ h;have HL:=JZ hl;have HG:=JZ hg;have HI:=JZ hv;have HC:=JZ h2;have HE:=JZ hE;have HT:Hid (∀(k:Nat) (c:List En),(vcL n (trM (Yu cols)))[k]? =some c→Inc none c∧∀(j:Nat) (e:En),c[j]? =some e→e.f.Rs K):=JZ fun k c hc=>by
  have hk:k < n:=by have:=(List.getElem?_eq_some_iff.1 hc).1;rw [UI] at this;exact this
  rw [Zbb hk] at hc;injection hc with hc;subst hc;have p:∀i,i < n→Sz K (trM (Yu cols) k i):=fun i hi=>by
   obtain ⟨cc,l⟩:=XI (cs:=cols) (i:=i) (by omega);show Sz K (Yu cols i k);rw [Wu l];exact Sz_col (hg i cc l).2 hK k
  exact ⟨(Zqi _ n).2.1,Zsc p⟩
 have a:=JZ (UI n (trM (Yu cols)));generalize c0.length=l0 at *;obtain ⟨ct,b⟩:∃x,vcL n (trM (Yu cols))=x:=⟨_,rfl⟩;rw [b] at HT a ⊢;have q:=JZ b;clear h h2 hg hv hl hE b;go_enter Tryz.func30,Tryz.ntmps30;go_wp2_with fail;refine (transpose1_any _ cols n K _ HV.out HL.out (by omega) (by omega) HG.out).mono ?_;rw [q.out];rintro _ w1 ⟨v3,rfl,d,g⟩;obtain ⟨A3,c3,rfl,_,_⟩:=d.shape;rw [a.out] at d ⊢;go_wp2_with fail;refine (solve4_any _ _ ct c0 n K _ d (HC.out.below g) a.out hn hK HE.out HT.out HI.out).mono ?_;rintro _ w2 ⟨v4,rfl,m,s⟩;obtain ⟨A4,c4,rfl,_,_⟩:=m.shape;generalize (solV n (Yu ct) (XZ c0)).length=n4 at *;go_wp2;go_ret;exact ⟨_,rfl,m,Za g s g.size⟩
namespace Pl
theorem mulC_cong {m:Nat} {A B:Mx} {x y:Nat→Rat} (h:∀c r,c < m→r < m→A c r=B c r) (hx:∀c,c < m→x c=y c) {r:Nat} (hr:r < m):XV m A x r=XV m B y r:=Zp fun c hc=>by rw [h c r hc hr,hx c hc]
theorem XA.cong {m:Nat} {A B:Mx} (h:∀c r,c < m→r < m→A c r=B c r) (hi:XA m A):XA m B:=fun y hy k hk=>hi y (fun r hr=>by rw [mulC_cong h (fun _ _=>rfl) hr];exact hy r hr) k hk
theorem solV_eq {n:Nat} {cols:Mx} {b x:Nat→Rat} (hi:XA n cols) (hx:∀r,r < n→XV n cols x r=b r):solV n cols b=spV x n:=by
 obtain ⟨z,hz,h⟩:=Znd hi hx;rw [solV_some hz];exact WM h
theorem colsM_vcL {n:Nat} {L:Mx} {c r:Nat} (hc:c < n) (hr:r < n):Yu (vcL n L) c r=L c r:=by
 rw [Wu (Zbb hc),Zsb,if_pos hr]
theorem solV_tr {n:Nat} {cols:List (List En)} {b y:Nat→Rat} (hi:XA n (Yu cols)) (hy:∀r,r < n→XV n (trM (Yu cols)) y r=b r):solV n (Yu (vcL n (trM (Yu cols)))) b=spV y n:=
 solV_eq ((XA.trQ hi).cong fun c r hc hr=>(colsM_vcL hc hr).symm) fun r hr=>by
  rw [← hy r hr];exact mulC_cong (fun c r hc hr=>colsM_vcL hc hr) (fun _ _=>rfl) hr
end Pl
theorem Zcg.one {c:List En} (h:Zcg [c]):EnW c∧∀(j:Nat) (e:En),c[j]? =some e→e.f.Rs 12:=⟨fun j e he=>(h 0 c rfl j e he).2,fun j e he=>(h 0 c rfl j e he).1⟩
theorem basisSolves_any [Old] (n:Int) (v v2:Value) (cols:List (List En)) (es:List En) (w:World) (h0: -9223372036854775808≤n) (h1:n≤9223372036854775807) (h:Xf w v cols) (hi:∀(j:Nat) (es:List En),cols[j]? =some es→EnI es) (h2:Wy w v2 es) (hi2:EnI es) (hOl:Zb w:=by (repeat (first | assumption | exact Zb.up (by assumption) hOl | exact Zb.up (Hid.out (by assumption)) hOl | with_reducible refine Zb.set ?_ _ _ | with_reducible refine Zb.mk_ ?_ _ | with_reducible refine Zb.dr ?_ | with_reducible refine Zb.drN ?_ | refine Zb.up (by assumption) ?_ | refine Zb.up (Hid.out (by assumption)) ?_))):
 Calls Tryz.prog 6 #[.int .i64 n,v,v2] w fun e w'=>e= .returned (.bool true)∧Below w.heap.size w w':=by
 have X:=hOl.le;obtain ⟨A2,c2,rfl,_,_⟩:=h2.shape;have HW:=JZ h2;have F:=JZ hi2;clear h2 hi2;have HV:=JZ h;have HI:=JZ hi;clear h hi;go_enter Tryz.func6,Tryz.ntmps6;go_wp2_with fail;refine (Zup _ cols n _ HV.out h0 h1).mono ?_;rintro _ w1 ⟨b1,rfl,P,u⟩
 cases b1
 case false=>
  go_wp2_with fail;refine (Zuo _).mono ?_;rintro _ wz ⟨rfl,d⟩;go_wp2;go_ret;exact ⟨rfl,Za u d u.size⟩
 case true=>
  obtain ⟨O,h7⟩:=P rfl;have HL:=JZ (O.c HI.out);clear P O;have G:=Zd w1 (.cells #[.slice A2 es.length c2] 28);have M:=Xf.one (Bk.new w1 28 [.slice A2 es.length c2]) ((HW.out.below u).below G);go_wp2_with fail;refine (Zky _ [es] _ M).mono ?_;rintro _ w2 ⟨b2,rfl,R,S⟩;have f:=Za u (Za G S G.size) u.size;clear G M u S
  cases b2
  case false=>
   go_wp2_with fail;refine (Zuo _).mono ?_;rintro _ wz ⟨rfl,d⟩;go_wp2;go_ret;exact ⟨rfl,Za f d f.size⟩
  case true=>
   have s:=JZ (R rfl).one;clear R;go_wp2_with fail;refine (Zun _ cols n _ (HV.out.below f) HL.out h7 h0 h1).mono ?_;rintro _ w3 ⟨rfl,hb⟩;have i:=Za f hb f.size;clear hb;by_cases hz:Wx n cols=0
   case neg=>
    generalize Wx n cols=ce at *;have Y:(ce==0)=false:=(by simpa using hz);go_wp2_with fail;refine (Zuo _).mono ?_;rintro _ wz ⟨rfl,d⟩;go_wp2;go_ret;exact ⟨rfl,Za i d i.size⟩
   case pos=>
    obtain ⟨m,rfl,hR⟩:=Zvw hz HL.out h7;have HR:=JZ hR;rw [hz];clear hz h7 hR;go_wp2_with fail;refine (Zqz _ m 12 cols (Yu cols) _ (HV.out.below i) HR.out.len HR.out.n7 (by omega) (JW HR.out.fit (by decide)) HR.out.gK (fun k c hc=>Wu hc)).mono ?_;rintro _ w4 ⟨hb,⟨g,rfl,-,L⟩ | ⟨rfl,V⟩⟩
    case inr=>exact absurd HR.out.ind V
    case inl=>
     have HB:=JZ (L 0);have t:=Za i hb i.size;clear L hb;rcases Decidable.em (vecErr es (m:Int)=0) with hv | hv
     ·have H:=JZ (Zbh hv);have U:=JZ hv;clear hv;go_wp2_with fail;refine (Zks _ 0 g m 12 _ _ es _ HB.out (HW.out.below t) H.out s.out.2).mono ?_;rintro _ w5 ⟨v5,x,rfl,hx,-,ex,hb⟩;have l:=JZ (HB.out.below hb);clear HB;have HB:=l;clear l;have HX:=JZ (solV_eq HR.out.ind hx);have b:=JZ (ex.vec);have o:=Za t hb t.size;clear hb;clear hx ex;go_wp2_with fail;refine (solveTB_own _ 0 g m 12 _ _ es _ HB.out (HW.out.below o) H.out s.out.2).mono ?_;rintro _ w6 ⟨v6,y,rfl,hy,-,ey,hb⟩;have z:=JZ (b.out.below hb);clear b;have b:=z;clear z;have HY:=JZ (solV_tr HR.out.ind hy);have a:=JZ (ey.vec);have p:=Za o hb o.size;clear hb;clear hy ey;go_wp2_with fail;refine (Zdo _ es (m:Int) _ (HW.out.below p) (fun k e he=>(s.out.2 k e he).sh (by decide)) F.out h0 h1).mono ?_;rw [U.out];rintro _ w7 ⟨rfl,hb⟩;have A:=JZ (b.out.below hb);have B:=JZ (a.out.below hb);clear b;have b:=A;clear A;clear a;have a:=B;clear B;have q:=Za p hb p.size;clear hb;go_wp2_with fail;refine (solve4_any _ _ cols es m 12 _ (HV.out.below q) (HW.out.below q) HR.out.len HR.out.n7 (by omega) (JW HR.out.fit (by decide)) (fun k c hc=>⟨(HR.out.good k c hc).2.1,(HR.out.gK k c hc).2⟩) ⟨H.out.2.1,s.out.2⟩).mono ?_;rw [HX.out];rintro _ w8 ⟨v8,rfl,e8,hb⟩;have C:=JZ (b.out.below hb);have D:=JZ (a.out.below hb);clear b;have b:=C;clear C;clear a;have a:=D;clear D;have N:=Za q hb q.size;clear hb;go_wp2_with fail;refine (sameVec1_any _ _ _ _ b.out e8).mono ?_;rintro _ w9 ⟨rfl,hb⟩;have E:=JZ (a.out.below hb);clear a;have a:=E;clear E;have I:=Za N hb N.size;clear hb;clear e8;go_wp2_with fail;refine (solveT4_any _ _ cols es m 12 _ (HV.out.below I) (HW.out.below I) HR.out.len HR.out.n7 (by omega) (JW HR.out.fit (by decide)) HR.out.gK ⟨H.out.2.1,s.out.2⟩).mono ?_;rw [HY.out];rintro _ a0 ⟨a1,rfl,T,hb⟩;have r:=JZ (a.out.below hb);clear a;have a:=r;clear r;have J:=Za I hb I.size;clear hb;go_wp2_with fail;refine (sameVec1_any _ _ _ _ a.out T).mono ?_;rintro _ a2 ⟨rfl,hb⟩;have K:=Za J hb J.size;clear hb;clear T;go_wp2_with fail;refine (Zuo _).mono ?_;rintro _ wz ⟨rfl,d⟩;go_wp2;go_ret;exact ⟨rfl,Za K d K.size⟩
     ·go_wp2_with fail;refine (solveB_err _ 0 g m 12 _ _ es _ HB.out (HW.out.below t) F.out hv).mono ?_;rintro _ w5 ⟨rfl,hb⟩;have l:=JZ (HB.out.below hb);clear HB;have HB:=l;clear l;have o:=Za t hb t.size;clear hb;go_wp2_with fail;refine (solveTB_err _ 0 g m 12 _ _ es _ HB.out (HW.out.below o) F.out hv).mono ?_;rintro _ w6 ⟨rfl,hb⟩;have p:=Za o hb o.size;clear hb;go_wp2_with fail;refine (Zdo _ es (m:Int) _ (HW.out.below p) (fun k e he=>(s.out.2 k e he).sh (by decide)) F.out h0 h1).mono ?_;rintro _ w7 ⟨rfl,hb⟩;have q:=Za p hb p.size;clear hb;generalize vecErr es (m:Int)=ve at *;have Z:(ve==0)=false:=(by simpa using hv);go_wp2_with fail;refine (Zuo _).mono ?_;rintro _ wz ⟨rfl,d⟩;go_wp2;go_ret;exact ⟨rfl,Za q d q.size⟩
end Go.Proofs.YtidgdpkcloaheaaGreat
