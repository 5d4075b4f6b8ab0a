/- Lemmas of the claim; no condition. -/
import Derived.Test.YtidgdpkcloaheaaGreatQr2
set_option linter.all false
set_option maxRecDepth 100000
set_option maxHeartbeats 40000000
namespace Go.Proofs.YtidgdpkcloaheaaGreat
open Go.RowKit
namespace Pl
end Pl
open Pl
attribute [local go_sem ↓] Go.wp_at_zero Go.wp_at_succ
theorem Xf.but [Old] {w w':World} {e:TypeId} {v:Value} {cols:List (List En)} (h:Xf w v cols) (hk:Zk e w w') (h0:28≠e) (h1:39≠e) (h2:106≠e):Xf w' v cols:=by
 obtain ⟨cs,g1,g2⟩:=h;exact ⟨cs,hk.row g1 h0,fun k c hc=>by obtain ⟨u,q1,q2⟩:=g2 k c hc;exact ⟨u,q1,q2.but hk h1 h2⟩⟩
namespace Pl
theorem gj_fail {M:Mx} {m k:Nat} (h:gj M m k=none):∀d,gj M m (k+d)=none
 | 0=>h
 | d+1=>by rw [← Nat.add_assoc];unfold gj;rw [gj_fail h d]
theorem solveQ_fail {m k:Nat} {cols:Mx} {b:Nat→Rat} {M:Mx} (hk:k < m) (h:gj (Zbi m cols b) m k=some M) (hf:X6 M k m=none):Xt m cols b=none:=by
 have h1:gj (Zbi m cols b) m (k+1)=none:=by unfold gj;rw [h];show Wv M k m=none;unfold Wv;rw [hf]
 have h2:=gj_fail h1 (m - (k+1));rw [show k+1+(m - (k+1))=m by omega] at h2;unfold Xt;rw [h2];rfl
theorem solveQ_done {m:Nat} {cols:Mx} {b:Nat→Rat} {M:Mx} (h:gj (Zbi m cols b) m m=some M):Xt m cols b=some fun k=>M k m:=by unfold Xt;rw [h];rfl
theorem gj_next {m k t:Nat} {A M:Mx} (h:gj A m k=some M) (hf:X6 M k m=some t):gj A m (k+1)=some (ZL (scaleTo (swapM M k t) k (m+1) (swapM M k t k k)) k m m):=by
 unfold gj;rw [h];show Wv M k m=_;unfold Wv;rw [hf]
end Pl
theorem wp_append_run {P:Program} {o:Oper} {a:Act} {w w':World} {K:Act→World→Prop} {Q:Exit→Act→World→Prop} {y:Nat→Option Bool} {s x:Operand} {t ty:TypeId} {v u v':Value} (hr:(Builtin.append_ #[t,t] ty #[v,u]).run P w= .ok v' w') (hty:o.type=ty) (hgd:o.guard=none) (ho:o.op= .call { callee:= .builtin .append,args:=#[s,x],argTypes:=#[t,t] })
 (hs:a.eval s=v) (hx:a.eval x=u) (h:K (a.put o.dst v') w'):if Region.wanted o y=true then Oper.wp P o a w K Q else K (a.put o.dst undef) w:=by
 subst hty;rw [if_pos (by simp [Region.wanted,hgd])];unfold Oper.wp execOp;simp only [ho,resolve,invoke,builtin,Sem.run_bind,Sem.run_pure,Result.andThen_ok,List.map_toArray,List.map_cons,List.map_nil,hs,hx,hr];exact h
namespace Pl
theorem dep_rep {n k:Nat} {cols:Mx} {v im:Nat→Rat} (hk:k < n) (him:∀r,r < n→XV n cols im r=v r) (h0:im k=0):¬XA n (Zgu cols k v):=by
 intro hi;have h1:∀r,r < n→XV n (Zgu cols k v) (fun i=>if i=k then -1 else im i) r=0:=fun r hr=>by
  have e:XV n (Zgu cols k v) (fun i=>if i=k then -1 else im i) r=Z6 (fun i=>cols i r * im i+(if i=k then -(v r) else 0)) n:=Zp fun i _=>by
   unfold Zgu;by_cases e:i=k
   ·subst e;simp only [if_pos,h0];grind
   ·simp only [if_neg e];grind
  rw [e,WY,WZ hk];have h3:Z6 (fun i=>cols i r * im i) n=v r:=him r hr;rw [h3];grind
 have:=hi _ h1 k hk;simp only [if_pos] at this;exact absurd this (by decide)
end Pl
namespace Pl
theorem Ups.snoc {n K T:Nat} {k:Nat→Nat} {im V:Mx} {Cs:Nat→Mx} (h:Ups n K T k im V Cs) {q:Nat} {v x:Nat→Rat} (hq:q < n) (hx:∀r,r < n→XV n (Cs T) x r=v r) (h0:x q≠0) (hv:∀r,r < n→Sz K (v r)):
 Ups n K (T+1) (putN k T q) (putN im T x) (putN V T v) (putN Cs (T+1) (Zgu (Cs T) q v)) where
 kn:=fun t ht=>by
  by_cases e:t=T
  ·subst e;rw [ZP];exact hq
  ·rw [ZM (by omega)];exact h.kn t (by omega)
 step:=fun t ht=>by
  by_cases e:t=T
  ·subst e;rw [ZP,ZP,ZP,ZM (by omega)]
  ·rw [ZM (by omega),ZM (by omega),ZM (by omega),ZM (by omega)];exact h.step t (by omega)
 img:=fun t ht=>by
  by_cases e:t=T
  ·subst e;rw [ZP,ZP,ZM (by omega)];exact hx
  ·rw [ZM (by omega),ZM (by omega),ZM (by omega)];exact h.img t (by omega)
 nz:=fun t ht=>by
  by_cases e:t=T
  ·subst e;rw [ZP,ZP];exact h0
  ·rw [ZM (by omega),ZM (by omega)];exact h.nz t (by omega)
 szV:=fun t ht=>by
  by_cases e:t=T
  ·subst e;rw [ZP];exact hv
  ·rw [ZM (by omega)];exact h.szV t (by omega)
 szC:=fun r c hr hc=>by rw [ZM (by omega)];exact h.szC r c hr hc
 ind:=by rw [ZM (by omega)];exact h.ind
end Pl
section
section
variable {base bi:Nat} {w w':World} {v:Value} {T n:Nat} {k:Nat→Nat} {im:Mx}
theorem Zlc.but [Old] {e:TypeId} (h:Zlc base bi w v T n k im) (hk:Zk e w w') (h1:87≠e) (h2:36≠e) (h3:106≠e):Zlc base bi w' v T n k im:=by
 obtain ⟨cs,g1,g2⟩:=h;exact ⟨cs,hk.own g1 h1,fun t ht=>by
  obtain ⟨u,e1,e2,e3⟩:=g2 t ht;exact ⟨u,e1,e2,e3.but hk h2 h3⟩⟩
end
end
theorem Yl.ge [Old] {base:Nat} {w:World} {v:Value} {cols:List (List En)} (h:Yl base w v cols):∀b,v.ownBlock=some b→base≤b:=by
 intro b hb;obtain ⟨cs,h1,_⟩:=h;rcases h1.2 with ⟨rfl,_⟩ | ⟨g',cap,cur,rfl,hb',_⟩
 ·simp [Value.ownBlock] at hb
 ·simp [Value.ownBlock] at hb;omega
namespace Pl
theorem vcL_rep {n k:Nat} {Cs:Mx} {f:Nat→Rat} (hk:k < n):(vcL n Cs).set k (spV f n)=vcL n (Zgu Cs k f):=by
 refine List.ext_getElem? fun i=>?_
 rcases JX i n with e | e
 ·rw [Zbb e,List.getElem?_set];by_cases g:k=i
  ·subst g;rw [if_pos rfl,UI,if_pos hk]
   congr 1
   exact WM fun r _=>by unfold Zgu;rw [if_pos rfl]
  ·rw [if_neg g,Zbb e]
   congr 1
   exact WM fun r _=>by unfold Zgu;rw [if_neg fun h=>g h.symm]
 ·rw [JU (by rw [List.length_set,UI];exact e),JU (by rw [UI];exact e)]
end Pl
theorem info_upd:(Tryz.prog.info? 87).map (fun i=>(i.zero,i.size,i.bytes))=some (some (.agg #[.int .i64 0,.slice none 0 0]),2,32):=by kernel_rfl
theorem wpList_append_upd [Old] {ops:Array Oper} {rest:List Oper} {o:Oper} {a:Act} {Q:Exit→Act→World→Prop} (hgd:o.guard=none) (s x:Operand)
 (ho:o.op= .call { callee:= .builtin .append,args:=#[s,x],argTypes:=#[72,72] })
 (W:World) (base bi:Nat) (v:Value) (T n q:Nat) (k:Nat→Nat) (im:Mx) (y:Nat→Rat) (hs:a.eval s=v) (hown:Zlc base bi W v T n k im) (A:Option Addr) (l c:Nat) (hf:YL bi W (.slice A l c) (YT n y))
 (hx:a.eval x= .slice (some ⟨W.heap.size,0,none⟩) 1 1) (hn:T+1≤1099511627776) (hbase:base≤W.heap.size)
 (h:∀v' w',Zlc base bi w' v' (T+1) n (putN k T q) (putN im T y)→Zk 87 W w'→Below base W w'→wpList Tryz.prog ops Q rest (a.put o.dst v') w') (hO:Old.n≤base:=by first | assumption | exact Nat.zero_le _ | omega | ((first | with_reducible refine Zb.le ?_ | with_reducible refine Zb.le1 ?_ | with_reducible refine Zb.le2 ?_ | with_reducible refine Zb.le3 ?_);repeat (first | assumption | exact Zb.up (by assumption) hOl | exact Zb.up (Hid.out (by assumption)) hOl | with_reducible refine Zb.set ?_ _ _ | with_reducible refine Zb.mk_ ?_ _ | with_reducible refine Zb.dr ?_ | with_reducible refine Zb.drN ?_ | refine Zb.up (by assumption) ?_ | refine Zb.up (Hid.out (by assumption)) ?_))):
 wpList Tryz.prog ops Q (o::rest) a (W.alloc (.cells #[.int .i64 (q:Int),.slice A l c] 87)):=by
 obtain ⟨cs,h1,h2⟩:=hown;obtain ⟨i0,hi,b,d,f⟩:=info_parts info_upd;have hl:cs.length=T * 2:=h1.1;refine UC hgd s x 72 ho 87 i0 _ 2 32 Tryz.underlying72 hi b d f rfl (by decide) W base v T cs [.int .i64 (q:Int),.slice A l c] hs h1 hx rfl (by intro u hu;simp at hu;rcases hu with rfl | rfl <;> rfl) (by unfold maxLen;omega) (by omega) hbase fun v' w' g1 g2 g3=>h v' w' ⟨_,g1,fun t ht=>?_⟩ g2 g3
 by_cases e:t=T
 ·subst e;refine ⟨.slice A l c,?_,?_,?_⟩
  ·rw [ZP,List.getElem?_append_right (by omega),hl,Nat.sub_self];rfl
  ·rw [List.getElem?_append_right (by omega),hl,show t * 2+1 - t * 2=1 by omega];rfl
  ·rw [ZP];exact hf.but g2 (by decide) (by decide)
 ·obtain ⟨u,e1,e2,e3⟩:=h2 t (by omega);refine ⟨u,?_,?_,?_⟩
  ·rw [ZM (by omega),List.getElem?_append_left (by omega)];exact e1
  ·rw [List.getElem?_append_left (by omega)];exact e2
  ·rw [ZM (by omega)];exact e3.but g2 (by decide) (by decide)
namespace Pl
def dotS:List En→(Nat→Rat)→Rat
 | [],_=>0
 | e::es,g=>e.f.q * g e.idx.toNat+dotS es g
theorem dotS_append (g:Nat→Rat):∀(xs ys:List En),dotS (xs++ys) g=dotS xs g+dotS ys g
 | [],ys=>by simp only [List.nil_append,dotS];grind
 | e::xs,ys=>by simp only [List.cons_append,dotS,dotS_append g xs ys];grind
theorem dotS_take {es:List En} {k:Nat} {e:En} (h:es[k]? =some e) (g:Nat→Rat):dotS (es.take (k+1)) g=dotS (es.take k) g+e.f.q * g e.idx.toNat:=by
 rw [List.take_add_one,h,dotS_append];simp only [Option.toList,dotS];grind
theorem dotS_spV (f g:Nat→Rat):∀n,dotS (spV f n) g=Z6 (fun i=>f i * g i) n
 | 0=>rfl
 | n+1=>by
  rw [ZF,← dotS_spV f g n]
  by_cases h:f n=0
  ·rw [Y8 h,h];grind
  ·rw [Xo h,dotS_append]
   simp only [dotS,ZG,JP];grind
end Pl
namespace Pl
theorem spV_rw {f:Nat→Rat} {n K:Nat} (h:∀i,i < n→Sz K (f i)) (hK:K≤34359738368):EnW (spV f n):=fun k e he=>by
 obtain ⟨i,h1,_,h3,_⟩:=VB he
 rw [h3];exact (h i h1).rw hK
theorem Sz_dotS {es:List En} {g:Nat→Rat} {K J:Nat} (h:∀(k:Nat) (e:En),es[k]? =some e→e.f.Rs K) (hK:1≤K) (hg:∀(k:Nat) (e:En),es[k]? =some e→Sz J (g e.idx.toNat)):∀k,k≤es.length→Sz (1+k * (K+J+1)) (dotS (es.take k) g)
 | 0,_=>by simpa [dotS] using Sz_zero
 | k+1,hk=>by
  have he:=JQ (show k < es.length by omega)
  rw [dotS_take he]
  exact (Zrw (Sz_dotS h hK hg k (by omega)) (V5 ((h k _ he).sz hK) (hg k _ he))).mono (by rw [Nat.add_mul k 1];omega)
end Pl
theorem fromDense1_own [Old] (v:Value) (fs:List RF) (K:Nat) (w:World) (h:Zbn w v fs) (hl:fs.length≤4096) (hk:RsL K fs) (hK:K≤34359738368) (hOl:Zb w:=by (repeat (first | assumption | exact Zb.up (by assumption) hOl | exact Zb.up (Hid.out (by assumption)) hOl | with_reducible refine Zb.set ?_ _ _ | with_reducible refine Zb.mk_ ?_ _ | with_reducible refine Zb.dr ?_ | with_reducible refine Zb.drN ?_ | refine Zb.up (by assumption) ?_ | refine Zb.up (Hid.out (by assumption)) ?_))):
 Calls Tryz.prog 61 #[v] w fun e w'=>∃v',e= .returned (.tuple #[v',.int .i64 0])∧Wz w.heap.size w' v' (spV (qAt fs) fs.length)∧Below w.heap.size w w':=by
 have L:=hOl.le;obtain ⟨A,c,rfl,O,P⟩:=h.shape;have H:=JZ h;have HK:=JZ hk;generalize hn:fs.length=n at *;have HN:=JZ hn;have M:(n:Int)≤4096:=by omega
 clear h hk hn;go_enter Tryz.func61,Tryz.ntmps61;go_wp2
 go_loopw [4,5] (fun u i wr=>∃k:Nat,k≤n∧i= .int .i64 k∧Wz w.heap.size wr u (spV (qAt fs) k)∧Below w.heap.size w wr) (fun _ i _=>n - (intOf i).toNat)
 case atStart=>exact ⟨0,by omega,rfl,Wz.nil _ _,JR _ _⟩
 case round=>
  obtain ⟨k,hk,rfl,hO,j⟩:=hrel;rcases JX k n with hkl | hkl
  ·obtain ⟨f,hf⟩:=Zcs (fs:=fs) (i:=k) (by rw [HN.out];exact hkl);obtain ⟨b,R,A1,n1,k1,A2,n2,k2,rfl,S,⟨q0,q1,q2,q3⟩,p⟩:=H.out.elem j hf;have HQ:=JZ (UW hf);have s:f.Sh:=(HK.out k f hf).sh hK;have N:(k:Int) < n:=(by omega);clear hf;go_wp2_with fail;refine (Xl _ f _ p s).mono ?_;rintro _ w2 ⟨rfl,a⟩;have o:=hO.below a;have g:=Za j a j.size;have t:=p.below a;by_cases hq:f.q=0
   ·have z:(qs f.q !=0)=false:=(by rw [hq];decide);have HS:Hid (spV (qAt fs) (k+1)=spV (qAt fs) k):=JZ (Y8 (by rw [HQ.out];exact hq));clear hq;go_wp2;go_roundw
    case rel=>exact ⟨k+1,by omega,by go_num,by rw [HS.out];exact o,g⟩
    case measure=>simp [intOf];omega
   ·have z:(qs f.q !=0)=true:=(by simpa using fun e=>hq (Yz.1 e));have HS:Hid (spV (qAt fs) (k+1)=spV (qAt fs) k++[⟨(k:Int),canF f.q⟩]):=JZ (by rw [← HQ.out];exact Xo (by rw [HQ.out];exact hq));have C:=cell_later a q0;have D:=cell_later a q1;have E:=cell_later a q2;have F:=cell_later a q3;clear hq q0 q1 q2 q3;go_wp2_with fail;refine (YY _ f _ t s).mono ?_;rintro _ w3 ⟨v3,rfl,e3,r⟩;have x:=o.below r;have m:=Za g r g.size;obtain ⟨B,l,d,B',l',d',rfl,_,_⟩:=id e3;have HF:=JZ e3;have HO:=JZ x;have y:(spV (qAt fs) k).length+1≤1099511627776:=(by have:=Ve (f:=qAt fs) k;omega);have G:=m.size;clear hO o x j g r e3 C D E F t p;generalize hQ:canF f.q=Q at *;go_wp2_with (at_builtin;refine Vy rfl (.tmp 21) (.tmp 29) rfl w3 w.heap.size u4 (spV (qAt fs) k) rfl HO.out _ _ B B' l d l' d' (k:Int) Q HF.out rfl y G ?_);intro v' w4 I T J;go_wp2;go_roundw
    case rel=>exact ⟨k+1,by omega,by go_num,by rw [HS.out];exact I,m.trans J⟩
    case measure=>simp [intOf];omega
  ·obtain rfl:k=n:=by omega
   go_wp2;go_ret2;exact ⟨_,rfl,hO,j⟩
theorem toDense1_own [Old] (v:Value) (es:List En) (n K:Nat) (w:World) (h:Wy w v es) (hn:n≤4096) (hk:∀(k:Nat) (e:En),es[k]? =some e→e.f.Rs K) (hK:K≤34359738368) (hg:Pl.Good n es) (hOl:Zb w:=by (repeat (first | assumption | exact Zb.up (by assumption) hOl | exact Zb.up (Hid.out (by assumption)) hOl | with_reducible refine Zb.set ?_ _ _ | with_reducible refine Zb.mk_ ?_ _ | with_reducible refine Zb.dr ?_ | with_reducible refine Zb.drN ?_ | refine Zb.up (by assumption) ?_ | refine Zb.up (Hid.out (by assumption)) ?_))):
 Calls Tryz.prog 91 #[v,.int .i64 (n:Int)] w fun e w'=>∃v',e= .returned (.tuple #[v',.int .i64 0])∧YL w.heap.size w' v' (YT n (XZ es))∧Below w.heap.size w w':=by
 have y:=hOl.le;obtain ⟨A,c,rfl,D,E⟩:=h.shape;have H:=JZ h;have HK:=JZ fun k e he=>(hk k e he).sh hK
 have HG:=JZ hg;have HE:=JZ (hg.err hn);generalize hl:es.length=l at *;have x:Hid (EnI es):=JZ fun k e he=>by have:=hg.1 k e he;omega
 have z:=X5 n (by omega);clear hk hg hl;go_enter Tryz.func91,Tryz.ntmps91;go_wp2_with fail;refine (Zdo _ es (n:Int) _ h HK.out x.out (by omega) (by omega)).mono ?_;rw [HE.out];rintro _ w1 ⟨rfl,m⟩;have g:=YL.zeros w1 n (by unfold maxLen;omega);have j:=Zd w1 (.cells (zfc n) 36);rw [← Zni n es] at g;clear h;go_wp2;have o:=Za m j m.size;have p:=m.size;generalize w1.alloc (.cells (zfc n) 36)=W2 at *
 go_loopw [8] (fun i wr=>∃k:Nat,k≤n∧i= .int .i64 k∧Below w.heap.size w wr∧Below w1.heap.size w1 wr∧YL w1.heap.size wr (.slice (some ⟨w1.heap.size,0,none⟩) n n) (Znh n k es)) (fun i _=>n - (intOf i).toNat)
 case atStart=>exact ⟨0,by omega,rfl,o,j,g⟩
 case round=>
  clear o j g;obtain ⟨k,hk,rfl,a,b,hO⟩:=hrel;rcases JX k n with hkl | hkl
  ·have C:(k:Int) < n:=(by omega);have q:=Zqk (n:=n) (i:=k) (es:=es) hkl;go_wp2_with fail;refine (Zug _ es k _ (H.out.below a) HK.out HG.out.2.1).mono ?_;rintro _ w3 ⟨v3,rfl,e3,d⟩;obtain ⟨B,l9,d9,B',F,G,rfl,_,_⟩:=id e3;have r:=hO.below d;obtain ⟨_,_,_,_,⟨t0,t1,t2,t3⟩,⟨f0,f1,f2,f3⟩,_⟩:=r.at_ q;obtain ⟨u,I⟩:=r.set_ (k:=k) (by rw [VD];exact hkl) e3;rw [Zat hkl] at u;have s:=ZB (Za a d a.size) p (k * 4) (k * 4+1) (k * 4+2) (k * 4+3);have t:=ZB (Za b d b.size) (JY _) (k * 4) (k * 4+1) (k * 4+2) (k * 4+3);clear hO a b d;go_wp2;go_roundw
   case rel=>exact ⟨k+1,by omega,by go_num,s _ _ _ _,t _ _ _ _,u⟩
   case measure=>simp [intOf];omega
  ·obtain rfl:n=k:=by omega
   rw [Zqj] at hO;go_wp2;go_ret2;exact ⟨_,rfl,hO.monoB p,a⟩
namespace Pl
theorem subQ_cpy (es:List En) (k:Int) (z:Rat) (g:Nat→Rat) (i:Nat):∀t,VE es k z g t i=VE (Zla es) k z g t i
 | 0=>rfl
 | t+1=>by
  have ih:=subQ_cpy es k z g i t
  unfold VE
  have hc:(Zla es)[t]? =(es[t]?).map fun e=>⟨e.idx,canF e.f.q⟩:=by unfold Zla;rw [List.getElem?_map]
  rw [hc]
  cases es[t]? with
  | none=>exact ih
  | some e=>simp only [Option.map,ZG,ih]
theorem cpyV_length (es:List En):(Zla es).length=es.length:=by unfold Zla;rw [List.length_map]
theorem subQ_all {n:Nat} {es:List En} (h:Good n es) (z:Rat) (g:Nat→Rat) {i:Nat} (hi:i < n):VE es (n:Int) z g es.length i=g i - XZ es i * z:=by
 rw [subQ_cpy,← cpyV_length es,cpyV_spV h,Zde,if_pos ⟨hi,by omega⟩]
theorem spV0:∀n:Nat,spV (fun _=>(0:Rat)) n=[]
 | 0=>rfl
 | n+1=>by rw [Y8 rfl];exact spV0 n
theorem subQ_some {n:Nat} {es:List En} (h:Good n es) (z:Rat) (g:Nat→Rat) {i t:Nat} (ht:t≤es.length):VE es (n:Int) z g t i=g i∨(i < n∧VE es (n:Int) z g t i=g i - XZ es i * z):=by
 rw [← cpyV_length es,cpyV_spV h] at ht;rw [subQ_cpy,cpyV_spV h];rcases Zin (XZ es) n z g i n t ht with e | ⟨e1,_,e2⟩
 ·exact Or.inl e
 ·exact Or.inr ⟨e1,e2⟩
end Pl
theorem Wz.monoB [Old] {base base':Nat} {w:World} {v:Value} {es:List En} (h:Wz base w v es) (hb:base'≤base):Wz base' w v es:=by
 obtain ⟨cs,h1,h2⟩:=h;exact ⟨cs,WX h1 hb,h2⟩
theorem addScaled1_own [Old] (va vb vk:Value) (a b:List En) (kf:RF) (n K J:Nat) (w:World) (h1:Wy w va a) (h2:Wy w vb b) (h3:Zm w vk kf) (hn:n≤60) (hka:∀(k:Nat) (e:En),a[k]? =some e→e.f.Rs J) (hkb:∀(k:Nat) (e:En),b[k]? =some e→e.f.Rs K) (hw:EnW b) (hkw:kf.Rw) (hks:kf.Rs K) (hg:Pl.Good n a) (hg2:Pl.Good n b) (hz:∀t i,t≤b.length→i < n→Sz J (VE b n (-kf.q) (XZ a) t i)) (hK1:1≤K) (hK:K≤17179869184) (hJ:J≤34359738368) (hOl:Zb w:=by (repeat (first | assumption | exact Zb.up (by assumption) hOl | exact Zb.up (Hid.out (by assumption)) hOl | with_reducible refine Zb.set ?_ _ _ | with_reducible refine Zb.mk_ ?_ _ | with_reducible refine Zb.dr ?_ | with_reducible refine Zb.drN ?_ | refine Zb.up (by assumption) ?_ | refine Zb.up (Hid.out (by assumption)) ?_))):
 Calls Tryz.prog 63 #[va,vb,vk,.int .i64 (n:Int)] w fun o w'=>∃v',o= .returned (.tuple #[v',.int .i64 0])∧Wz w.heap.size w' v' (spV (VE b n (-kf.q) (XZ a) b.length) n)∧Below w.heap.size w w':=by
 have au:=hOl.le;obtain ⟨Ab,cb,rfl,b2,b3⟩:=h2.shape;obtain ⟨Ak,nk,ck,O,P,R,rfl,_,_⟩:=id h3;have H2:=JZ h2;have ac:=JZ hkb;have ad:=JZ hw;have ae:=JZ hkw;have U:=JZ hks;have V:Hid (∀(k:Nat) (e:En),b[k]? =some e→e.f.Sh):=JZ fun k e he=>(hkb k e he).sh (by omega)
 have af:=JZ (hg2.err (show n≤4096 by omega));have ag:Hid (EnI b):=JZ fun k e he=>by have:=hg2.1 k e he;omega
 have HR:=JZ hg2.1;have av:=hK;obtain ⟨TQ,A⟩:∃TQ:Nat→Nat→Rat,TQ=VE b n (-kf.q) (XZ a):=⟨_,rfl⟩;rw [← A] at hz ⊢;have ah:=JZ A;have HZ:=JZ hz;have ai:Hid (YT n (XZ a)=YT n (TQ 0)):=JZ (by rw [A];rfl);have aw:=hg2.len;generalize hl:b.length=l at *;have HL:=JZ hl;obtain ⟨W,hW,hX,m⟩:=Zah w (.bool kf.num.neg) (.slice Ak nk ck) (.bool kf.den.neg) (.slice O P R);have ax:=hX.lt;have X:=h3.below m;clear h2 h3 hkb hw hkw hks hg2 A hz hl;go_enter Tryz.func63,Tryz.ntmps63;go_wp2_with fail;clear hW;refine (toDense1_own _ a n J _ (h1.below m) (by omega) hka hJ hg).mono ?_;rw [ai.out];rintro _ w1 ⟨v1,rfl,C,D⟩;obtain ⟨A1,c1,rfl,ao,b4⟩:=C.frs.shape;rw [Zu] at C ao ⊢;have d:=Za m D m.size;have Y:=hX.later D;have Z:=X.below D;have ay:=m.size;clear h1 hka hg hX X m D;go_wp2_with fail;refine (Zdo _ b (n:Int) _ (H2.out.below d) V.out ag.out (by omega) (by omega)).mono ?_;rw [af.out];rintro _ w2 ⟨rfl,y⟩;have E:=Za d y d.size;have a0:=Y.later y;have a1:=Z.below y;have a2:=C.below y;clear d Y Z C y;go_wp2
 go_loopw [13] (fun x wr=>∃k:Nat,k≤l∧x= .int .i64 k∧Below w.heap.size w wr∧Bk wr w.heap.size 36 [.bool kf.num.neg,.slice Ak nk ck,.bool kf.den.neg,.slice O P R]∧Zm wr (.agg #[.bool kf.num.neg,.slice Ak nk ck,.bool kf.den.neg,.slice O P R]) kf∧YL W.heap.size wr (.slice A1 n c1) (YT n (TQ k))) (fun x _=>l - (intOf x).toNat)
 case atStart=>exact ⟨0,by omega,rfl,E,a0,a1,a2⟩
 case round=>
  clear E a0 a1 a2;obtain ⟨k,hk,rfl,hb,hX,S,hO⟩:=hrel;rcases JX k l with hkl | hkl
  ·have az:(k:Int) < l:=(by omega);obtain ⟨e,he⟩:=YS (es:=b) (i:=k) (by rw [HL.out];exact hkl);obtain ⟨b5,o5,A5,n5,c5,A6,n6,c6,ap,_,⟨x0,x1,x2,x3,x4⟩,a9⟩:=H2.out.elem hb he;subst ap;have aj:=V.out k e he;have HW:=JZ (ad.out k e he);have a3:=ac.out k e he;obtain ⟨i0,i1⟩:=HR.out k e he;obtain ⟨j,hj⟩:=JT i0;have p:j < n:=(by omega);obtain ⟨g,c9,aq,b6,hg2,_,_⟩:=hO.shape (by rw [Zu];omega);injection aq with hv1 hv2 hv3;subst hv1 hv3;clear hv2;have a4:YT n (fun i=>if i=j then TQ k j+kf.q * e.f.q else TQ k i)=YT n (TQ (k+1)):=Yf fun i hi=>by
    rw [ah.out,Ztv he (by omega) hj];by_cases c:i=j
    ·rw [if_pos c,if_pos c];grind
    ·rw [if_neg c,if_neg c]
   have a5:=JZ a4;have L:=HZ.out k j (by omega) p;have a6:=a3.sz hK1;have F:=Z7 (f:=TQ k) p;obtain ⟨ei,ef⟩:=e;simp only at *;subst hj;obtain ⟨xq,B⟩:∃q,TQ k j=q:=⟨_,rfl⟩;rw [B] at a5 L F;have b0:=JZ B;obtain ⟨b7,o7,A7,n7,c7,A8,n8,c8,u,_,⟨y0,y1,y2,y3⟩,T⟩:=hO.frs.elem (JR _ _) (Z7 (f:=TQ k) p);injection u with u;injection u with u hA8;subst u hA8;rw [B] at y0 y2 T;simp only [Nat.zero_add] at y0 y1 y2 y3;have ak:kf.Sh:=U.out.sh (by omega);have shX:(canF xq).Sh:=L.sh (by omega);have al:(canF (kf.q * ef.q)).Sh:=by
    exact (V5 (U.out.sz hK1) a6).sh (by omega)
   have b1:(j:Int) < n:=(by omega);clear he B a3 L a4 a6;obtain ⟨z0,z1,z2,z3⟩:=hX.four;go_wp2_with fail;have C0:=Zr x0;have C1:=Zr x1;have C2:=Zr x2;have C3:=Zr x3;have C4:=Zr x4;have D0:=Zr z0;have D1:=Zr z1;have D2:=Zr z2;have D3:=Zr z3;have E0:=Zr y0;have E1:=Zr y1;have E2:=Zr y2;have E3:=Zr y3;have r:=Zj wr;clear x0 x1 x2 x3 x4 z0 z1 z2 z3 y0 y1 y2 y3;refine Zt 23 [0,1,2,3,4,5,6,7,8,9,10,11,12,13,14,15,16,17,18,19,20,21,22,23] (by kernel_rfl) (by kernel_rfl) ?_;repeat ((first | (refine Zc (v:=?_) rfl rfl rfl ?_ ?_;rotate_left;(· (intro _ z;go_simp;(try go_bits);(try with_reducible rfl)))) | (refine Ze (v:=?_) rfl rfl rfl ?_ ?_;rotate_left;(· (intro _ z;go_simp;(try go_bits);(try with_reducible rfl)))) | refine Zf rfl rfl rfl ?_);(try simp only [Act.put,pu1,pu2,pu3,pu4,pu5,pu6]))
   refine Zg rfl rfl (fun KR hKR=>?_);go_simp;(with_reducible refine (Zfq _ _ kf ef _ (S.below r) (a9.below r) ak aj ae.out HW.out).mono ?_);rintro _ w8 ⟨v8,rfl,e8,aa⟩;have s:=Za r aa r.size;obtain ⟨G1,l3,k3,G2,l4,k4,rfl,_,_⟩:=id e8;refine hKR.out _ _ (Or.inr s) ?_;clear hKR KR;(try simp only [Act.put,pu1,pu2,pu3,pu4,pu5,pu6]);repeat ((first | (refine Zc (v:=?_) rfl rfl rfl ?_ ?_;rotate_left;(· (intro _ z;go_simp;(try go_bits);(try with_reducible rfl)))) | (refine Ze (v:=?_) rfl rfl rfl ?_ ?_;rotate_left;(· (intro _ z;go_simp;(try go_bits);(try with_reducible rfl)))) | refine Zf rfl rfl rfl ?_);(try simp only [Act.put,pu1,pu2,pu3,pu4,pu5,pu6]))
   refine Zg rfl rfl (fun KR hKR=>?_);go_simp;(with_reducible refine (Zog _ _ (canF xq) (canF (kf.q * ef.q)) _ (T.below s) e8 shX al).mono ?_);rw [ZG,ZG];rintro _ w9 ⟨v9,rfl,e9,ab⟩;have h:=Za s ab s.size;obtain ⟨C1,l5,k5,C2,l6,k6,rfl,_,_⟩:=id e9;have M:=hO.below h;obtain ⟨_,_,_,_,⟨t0,t1,t2,t3⟩,⟨f0,f1,f2,f3⟩,_⟩:=M.at_ F;refine hKR.out _ _ (Or.inr h) ?_;clear hKR KR;(try simp only [Act.put,pu1,pu2,pu3,pu4,pu5,pu6]);repeat ((first | (refine Zc (v:=?_) rfl rfl rfl ?_ ?_;rotate_left;(· (intro _ z;go_simp;(try go_bits);(try with_reducible rfl)))) | (refine Ze (v:=?_) rfl rfl rfl ?_ ?_;rotate_left;(· (intro _ z;go_simp;(try go_bits);(try with_reducible rfl)))) | refine Zf rfl rfl rfl ?_);(try simp only [Act.put,pu1,pu2,pu3,pu4,pu5,pu6]))
   refine Zg rfl rfl (fun KR hKR=>?_);go_simp;refine hKR.out _ _ (Or.inl (by decide)) ?_;clear hKR KR;(try simp only [Act.put,pu1,pu2,pu3,pu4,pu5,pu6]);refine Zv ?_;have G:=Za hb h hb.size;obtain ⟨H,I⟩:=M.set_ (k:=j) (by rw [Zu];exact p) e9;rw [V9 p,a5.out] at H;have a7:=(hX.later h).far4' (show w.heap.size≠g by omega) (j * 4) (j * 4+1) (j * 4+2) (j * 4+3) (.bool (canF (xq+kf.q * ef.q)).num.neg) (.slice C1 l5 k5) (.bool (canF (xq+kf.q * ef.q)).den.neg) (.slice C2 l6 k6);have N:=(S.below h).keep (I.keep (by decide));have a8:=ZB G (show w.heap.size≤g by omega) (j * 4) (j * 4+1) (j * 4+2) (j * 4+3) (.bool (canF (xq+kf.q * ef.q)).num.neg) (.slice C1 l5 k5) (.bool (canF (xq+kf.q * ef.q)).den.neg) (.slice C2 l6 k6);clear hb G hO M h s r aa ab e8 e9 hX S a9 T t0 t1 t2 t3 f0 f1 f2 f3 C0 C3 C4 D0 D1 D2 D3 E0 E1 E2 E3 I;go_wp2;go_roundw
   case rel=>exact ⟨k+1,by omega,by go_num,a8,a7,N,H⟩
   case measure=>simp [intOf];omega
  ·obtain rfl:l=k:=by omega
   have am:Hid (RsL J (YT n (TQ l))):=JZ fun i f hf=>by
    have hi:i < n:=(by have:=(List.getElem?_eq_some_iff.1 hf).1;rwa [Zu] at this);rw [Z7 hi] at hf;injection hf with hf;rw [← hf];exact (HZ.out l i (JY _) hi).rs
   have an:Hid (spV (qAt (YT n (TQ l))) n=spV (TQ l) n):=JZ (WM fun i hi=>Zpu hi);go_wp2_with fail;refine (fromDense1_own _ (YT n (TQ l)) J _ hO.frs (by rw [Zu];omega) am.out hJ).mono ?_;rw [Zu,an.out];rintro _ w5 ⟨v5,rfl,e5,ar⟩;go_wp2;go_ret2;exact ⟨_,rfl,e5.monoB hb.size,Za hb ar hb.size⟩
theorem multiply1_own [Old] (vc vx:Value) (cols:List (List En)) (xs:List En) (n m K J:Nat) (w:World) (h1:Xf w vc cols) (h2:Wy w vx xs) (hl:cols.length=m) (hm:m≤60) (hn:n≤60) (hg:∀(k:Nat) (c:List En),cols[k]? =some c→Pl.Good n c∧EnW c∧∀(j:Nat) (e:En),c[j]? =some e→e.f.Rs K) (hgx:Pl.Good m xs) (hwx:EnW xs) (hkx:∀(j:Nat) (e:En),xs[j]? =some e→e.f.Rs K) (hS:∀k r,k≤xs.length→r < n→Sz J (dotS (xs.take k) fun j=>Yu cols j r)) (hK1:1≤K) (hK:K≤17179869184) (hJ:J≤34359738368) (hOl:Zb w:=by (repeat (first | assumption | exact Zb.up (by assumption) hOl | exact Zb.up (Hid.out (by assumption)) hOl | with_reducible refine Zb.set ?_ _ _ | with_reducible refine Zb.mk_ ?_ _ | with_reducible refine Zb.dr ?_ | with_reducible refine Zb.drN ?_ | refine Zb.up (by assumption) ?_ | refine Zb.up (Hid.out (by assumption)) ?_))):
 Calls Tryz.prog 31 #[vc,vx,.int .i64 (n:Int)] w fun o w'=>∃v',o= .returned (.tuple #[v',.int .i64 0])∧Wy w' v' (spV (fun r=>dotS xs fun j=>Yu cols j r) n)∧Below w.heap.size w w':=by
 have ae:=hOl.le;obtain ⟨Ac,cc,rfl,aa,ah⟩:=h1.shape;obtain ⟨Ax,cx,rfl,ai,aj⟩:=h2.shape;have H1:=JZ h1;have H2:=JZ h2;have HG:=JZ hg;have N:=JZ hwx;have O:=JZ hkx;have P:=JZ hgx;have HS:=JZ hS;have B:=JZ hl;have R:=JZ (hgx.err (show m≤4096 by omega));have T:Hid (∀(k:Nat) (e:En),xs[k]? =some e→e.f.Sh):=JZ fun k e he=>(hkx k e he).sh (by omega)
 have U:Hid (EnI xs):=JZ fun k e he=>by have:=hgx.1 k e he;omega
 rw [hl] at aa ⊢;have af:=hgx.len;generalize hlx':xs.length=lx at *;have V:=JZ hlx';obtain ⟨S,l⟩:∃S:Nat→Nat→Rat,S=fun k r=>dotS (xs.take k) fun j=>Yu cols j r:=⟨_,rfl⟩
 have g:=JZ l;have C:Hid (spV (S lx) n=spV (fun r=>dotS xs fun j=>Yu cols j r) n):=JZ (by rw [l,← hlx'];simp only [List.take_length]);rw [← C.out];have X:Hid (([]:List En)=spV (S 0) n):=JZ (by
  rw [l];exact (spV0 n).symm)
 clear h1 h2 hg hwx hkx hgx hS hl hlx' l;go_enter Tryz.func31,Tryz.ntmps31;go_wp2
 go_loopw [8] (fun x wr=>∃k:Nat,k≤m∧x= .int .i64 k∧Below w.heap.size w wr) (fun x _=>m - (intOf x).toNat)
 case atStart=>exact ⟨0,by omega,rfl,JR _ _⟩
 case round=>
  obtain ⟨k,hk,rfl,hb⟩:=hrel;rcases JX k m with hkl | hkl
  ·have Y:(k:Int) < m:=(by omega);obtain ⟨c,hc⟩:=XI (cs:=cols) (i:=k) (by rw [B.out];exact hkl);obtain ⟨b5,o5,A5,c5,z,_,x0,d⟩:=H1.out.elem hb hc;subst z;obtain ⟨g1,g2,g3⟩:=HG.out k c hc;have he:=g1.err (show n≤4096 by omega);have D:EnI c:=fun k e he=>by have:=g1.1 k e he;omega
   clear hc;go_wp2_with fail;refine (Zdo _ c (n:Int) _ d (fun k e he=>(g3 k e he).sh (by omega)) D (by omega) (by omega)).mono ?_;rw [he];rintro _ w2 ⟨rfl,p⟩;clear g1 g2 g3 he D x0 d;go_wp2;go_roundw
   case rel=>exact ⟨k+1,by omega,by go_num,Za hb p hb.size⟩
   case measure=>simp [intOf];omega
  ·obtain rfl:m=k:=by omega
   go_wp2_with fail;refine (Zdo _ xs (m:Int) _ (H2.out.below hb) T.out U.out (by omega) (by omega)).mono ?_;rw [R.out];rintro _ w2 ⟨rfl,p⟩;have E:=Za hb p hb.size;clear hb p;go_wp2
   go_loopw [11,12] (fun u x wr=>∃k:Nat,k≤lx∧x= .int .i64 k∧Below w.heap.size w wr∧Wy wr u (spV (S k) n)) (fun _ x _=>lx - (intOf x).toNat)
   case atStart=>exact ⟨0,by omega,rfl,E,by rw [← X.out];exact (Wz.nil 0 _).vec⟩
   case round=>
    clear E;obtain ⟨k,hk,rfl,hb,hs⟩:=hrel;rcases JX k lx with hkl | hkl
    ·have Y:(k:Int) < lx:=(by omega);obtain ⟨e,he⟩:=YS (es:=xs) (i:=k) (by rw [V.out];exact hkl);obtain ⟨b5,o5,A5,n5,c5,A6,n6,c6,z,_,⟨x0,x1,x2,x3,x4⟩,G⟩:=H2.out.elem hb he;subst z;obtain ⟨i0,i1⟩:=P.out.1 k e he;obtain ⟨j,hj⟩:=JT i0;have Z:j < m:=(by omega);obtain ⟨c,hc⟩:=XI (cs:=cols) (i:=j) (by rw [B.out];exact Z);obtain ⟨b7,o7,A7,c7,ab,_,y0,d⟩:=H1.out.elem hb hc;subst ab;obtain ⟨g1,g2,g3⟩:=HG.out j c hc;have s:=JZ g1;have a0:=JZ g2;have a1:=JZ g3;have a2:=JZ (N.out k e he);have a3:=JZ (O.out k e he);have F:=Wu hc;have a:∀r,S (k+1) r=S k r+e.f.q * XZ c r:=fun r=>by
      rw [g.out];show dotS (xs.take (k+1)) _=dotS (xs.take k) _+_;rw [dotS_take he,hj];show _+_ * Yu cols j r=_;rw [F]
     have h:∀r,r < n→XZ (spV (S k) n) r=S k r:=fun r hr=>by rw [Zsb,if_pos hr]
     have a4:Hid (∀t r,t≤c.length→r < n→Sz J (VE c n (-e.f.q) (XZ (spV (S k) n)) t r)):=JZ fun t r ht hr=>by
      have e1:Sz J (S k r):=(by have:=HS.out k r hk hr;rw [g.out];exact this);have e2:Sz J (S (k+1) r):=(by have:=HS.out (k+1) r hkl hr;rw [g.out];exact this);rcases subQ_some s.out (-e.f.q) (XZ (spV (S k) n)) (i:=r) ht with q | ⟨_,q⟩
      ·rw [q,h r hr];exact e1
      ·rw [q,h r hr,show S k r - XZ c r * -e.f.q=S (k+1) r by rw [a];grind];exact e2
     have a5:Hid (spV (VE c n (-e.f.q) (XZ (spV (S k) n)) c.length) n=spV (S (k+1)) n):=JZ (WM fun r hr=>by
      rw [subQ_all s.out _ _ hr,h r hr,a];grind)
     have a6:=JZ (Zqi (S k) n);have a7:Hid (∀(i:Nat) (e:En),(spV (S k) n)[i]? =some e→e.f.Rs J):=JZ (Zsc fun r hr=>by have:=HS.out k r hk hr;rw [g.out];exact this);obtain ⟨Au,cu,H,ac,ak⟩:=hs.shape;obtain ⟨lu,I⟩:∃x,(spV (S k) n).length=x:=⟨_,rfl⟩;obtain ⟨lc,L⟩:∃x,c.length=x:=⟨_,rfl⟩;rw [I] at H ac;subst H;rw [L] at d y0;have ag:(j:Int) < m:=(by omega);clear he hc F a h g1 g2 g3 I L;obtain ⟨ei,ef⟩:=e;simp only at *;subst hj;generalize ad:S k=Sk at *;clear ad;go_wp2_with fail;have C0:=Zr x0;have C1:=Zr x1;have C2:=Zr x2;have C3:=Zr x3;have C4:=Zr x4;have E0:=Zr y0;have b:=Zj wr;clear x0 x1 x2 x3 x4 y0;refine Zt 20 [0,1,2,3,4,5,6,7,8,9,10,11,12,13,14,15,16,17,18,19] (by kernel_rfl) (by kernel_rfl) ?_;repeat ((first | (refine Zc (v:=?_) rfl rfl rfl ?_ ?_;rotate_left;(· (intro _ A;go_simp;(try go_bits);(try with_reducible rfl)))) | (refine Ze (v:=?_) rfl rfl rfl ?_ ?_;rotate_left;(· (intro _ A;go_simp;(try go_bits);(try with_reducible rfl)))) | refine Zf rfl rfl rfl ?_);(try simp only [Act.put,pu1,pu2,pu3,pu4,pu5,pu6]))
     refine Zg rfl rfl (fun KR hKR=>?_);go_simp;(with_reducible refine (addScaled1_own _ _ _ (spV Sk n) c ef n K J _ (hs.below b) (d.below b) (G.below b) hn a7.out a1.out a0.out a2.out a3.out a6.out s.out a4.out hK1 (by omega) (by omega)).mono ?_);rw [a5.out];rintro _ w8 ⟨v8,rfl,e8,M⟩;have y:=Za b M b.size;refine hKR.out _ _ (Or.inr y) ?_;clear hKR KR;(try simp only [Act.put,pu1,pu2,pu3,pu4,pu5,pu6]);repeat ((first | (refine Zc (v:=?_) rfl rfl rfl ?_ ?_;rotate_left;(· (intro _ A;go_simp;(try go_bits);(try with_reducible rfl)))) | (refine Ze (v:=?_) rfl rfl rfl ?_ ?_;rotate_left;(· (intro _ A;go_simp;(try go_bits);(try with_reducible rfl)))) | refine Zf rfl rfl rfl ?_);(try simp only [Act.put,pu1,pu2,pu3,pu4,pu5,pu6]))
     refine Zv ?_;have a8:=Za hb y hb.size;have a9:=e8.vec;clear hb hs b y M e8 G d C0 C1 C2 C3 C4 E0;go_wp2;go_roundw
     case rel=>exact ⟨k+1,by omega,by go_num,a8,a9⟩
     case measure=>simp [intOf];omega
    ·obtain rfl:lx=k:=by omega
     go_wp2;go_ret2;exact ⟨_,rfl,hs,hb⟩
namespace Pl
theorem Zrg.err {n:Nat} {cols:List (List En)} (h:Zrg n cols):Wx n cols=0:=by
 have h1:=h.len;have h2:=h.n7;unfold Wx;have h3:YH (n:Int) cols=0:=by
  have:∀cs:List (List En),(∀(k:Nat) (c:List En),cs[k]? =some c→Good n c)→YH (n:Int) cs=0:=fun cs=>by
   induction cs with
   | nil=>exact fun _=>rfl
   | cons c cs ih=>intro hg;rw [YH,if_pos ((hg 0 c rfl).err (by omega))];exact ih fun k d hd=>hg (k+1) d (by simpa using hd)
  exact this cols h.good
 rw [if_neg (by omega),if_neg (by omega),if_neg (by simp [h3]),if_neg];exact (Zij (M:=trM (Yu cols)) (cols:=Yu cols) fun _ _ _ _=>rfl).2 h.ind
end Pl
theorem Zkv.refl [Old] (gc:Nat) (w:World):Zkv gc w w:=fun _ _ _ _ _ h=>h
theorem Zkv.of_below [Old] {gc:Nat} {w w':World} (hb:Below w.heap.size w w'):Zkv gc w w':=fun b _ _ _ _ h=>(hb.block b (Ye h)).trans h
theorem Zkv.of_but [Old] {gc:Nat} {e:TypeId} {w w':World} (hk:Zk e w w') (he:e=74∨e=87):Zkv gc w w':=fun b cs t fz ht h=>hk b cs t fz (ht.imp (fun hq=>by obtain ⟨h1,_,h3⟩:=hq;rcases he with rfl | rfl <;> assumption) id) h
theorem Zkv.bk [Old] {gc:Nat} {w w':World} {g:Nat} {t:TypeId} {cs:List Value} (h:Zkv gc w w') (hb:Bk w g t cs) (h1:t≠74) (h2:t≠28) (h3:t≠87):Bk w' g t cs:=h g _ t _ (.inl ⟨h1,.inl h2,h3⟩) hb
theorem Zkv.keep3 [Old] {gc:Nat} {w w':World} (h:Zkv gc w w'):Zfo w w':=fun b cs t fz ht hb=>h b cs t fz (ht.imp (fun q=>⟨q.1,.inl q.2.1,q.2.2⟩) id) hb
theorem Zxc.bas [Old] {gc base bi g n K:Nat} {w:World} {Cs:Mx} (h:Zxc gc base bi w g n K Cs):Zse base bi w g n K Cs:=by
 obtain ⟨T,cc,h⟩:=h;exact ⟨T,gc,cc,h⟩
theorem Zxc.below [Old] {gc base bi g n K:Nat} {w w':World} {Cs:Mx} (h:Zxc gc base bi w g n K Cs) (hb:Below w.heap.size w w'):Zxc gc base bi w' g n K Cs:=by
 obtain ⟨T,cc,k,R,C,im,V,L,Um,CC,s0,s1,s2,s3,vu,h1,h2,h3,h4,h5,h6,h7,h8,h9,a⟩:=h;exact ⟨T,cc,k,R,C,im,V,L,Um,CC,s0,s1,s2,s3,vu,h1.later hb,h2,h3,h4,h5.below hb,h6.below hb,h7.below hb,h8.below hb,h9.below hb,a.below hb⟩
theorem Zxc.but [Old] {gc base bi g n K:Nat} {w w':World} {Cs:Mx} {e:TypeId} (h:Zxc gc base bi w g n K Cs) (hk:Zk e w w') (e1:74≠e) (e2:28≠e) (e3:39≠e) (e4:106≠e) (e5:3≠e) (e6:87≠e) (e7:36≠e):Zxc gc base bi w' g n K Cs:=by
 obtain ⟨T,cc,k,R,C,im,V,L,Um,CC,s0,s1,s2,s3,vu,h1,h2,h3,h4,h5,h6,h7,h8,h9,a⟩:=h;exact ⟨T,cc,k,R,C,im,V,L,Um,CC,s0,s1,s2,s3,vu,hk.bk h1 e1,h2,h3,h4,h5.but hk e2 e3 e4,h6.but hk e5,h7.but hk e5,h8.but hk e2 e3 e4,h9.but hk e2 e3 e4,a.but hk e6 e7 e4⟩
theorem Zxc.lt [Old] {gc base bi g n K:Nat} {w:World} {Cs:Mx} (h:Zxc gc base bi w g n K Cs):gc < w.heap.size:=by
 obtain ⟨T,cc,k,R,C,im,V,L,Um,CC,s0,s1,s2,s3,vu,h1,h2,h3,h4,h5,h6⟩:=h;obtain ⟨cs,h1,_⟩:=h5;exact Vz h1 gc rfl
theorem refreshC_own [Old] (base bi g n K T gc cc:Nat) (Cs:Mx) (s0 s1 s2 s3:Value) (Au:Option Addr) (cu:Nat) (w:World) (hX:Bk w g 74 [.int .i64 (n:Int),.slice (some ⟨gc,0,none⟩) n cc,s0,s1,s2,s3,.slice Au T cu]) (hge:base≤g) (hO:Yl base w (.slice (some ⟨gc,0,none⟩) n cc) (vcL n Cs)) (hT:1≤T) (hT2:T≤17) (hn:n≤7) (hK:1≤K) (hE:5^n * K≤4000000)
 (hs:∀r c,r < n→c < n→Sz K (Cs c r)) (hi:XA n Cs) (hbase:base≤w.heap.size) (hOl:Zb w:=by (repeat (first | assumption | exact Zb.up (by assumption) hOl | exact Zb.up (Hid.out (by assumption)) hOl | with_reducible refine Zb.set ?_ _ _ | with_reducible refine Zb.mk_ ?_ _ | with_reducible refine Zb.dr ?_ | with_reducible refine Zb.drN ?_ | refine Zb.up (by assumption) ?_ | refine Zb.up (Hid.out (by assumption)) ?_))) (hOb:Old.n≤base:=by first | assumption | exact Nat.zero_le _ | omega | ((first | with_reducible refine Zb.le ?_ | with_reducible refine Zb.le1 ?_ | with_reducible refine Zb.le2 ?_ | with_reducible refine Zb.le3 ?_);repeat (first | assumption | exact Zb.up (by assumption) hOl | exact Zb.up (Hid.out (by assumption)) hOl | with_reducible refine Zb.set ?_ _ _ | with_reducible refine Zb.mk_ ?_ _ | with_reducible refine Zb.dr ?_ | with_reducible refine Zb.drN ?_ | refine Zb.up (by assumption) ?_ | refine Zb.up (Hid.out (by assumption)) ?_))):
 Calls Tryz.prog 47 #[.pointer (some ⟨g,0,none⟩)] w fun o w'=>o= .returned (.tuple #[])∧Zxc gc base bi w' g n K Cs∧Below base w w'∧Zkv gc w w':=by
 have l:=hOl.le;have y1:=hX.cellAt 1 rfl;have y6:=hX.cellAt 6 rfl;have HX:=JZ hX;have HO:=JZ hO;have HS:=JZ hs;have HI:=JZ hi;have HK:=JZ hK;have HE:=JZ hE;have f:gc < w.heap.size:=by
  obtain ⟨cs,h1,_⟩:=hO;exact Vz h1 gc rfl
 clear hX hO hs hi hK hE;go_enter Tryz.func47,Tryz.ntmps47;go_wp2_with fail;clear y1 y6;refine (Zdm _ n K Cs _ HO.out.vecs hn HK.out HE.out HS.out).mono ?_;rintro _ w1 ⟨e,⟨R,C,L,Um,z0,z1,z2,z3,rfl,hF,h0,h1,h2,h3⟩ | ⟨rfl,k⟩⟩
 ·have HF:=JZ hF;obtain ⟨A0,c0,rfl⟩:=h0.nshape;obtain ⟨A1,c1,rfl⟩:=h1.nshape;obtain ⟨A2,c2,rfl⟩:=h2.nshape;obtain ⟨A3,c3,rfl⟩:=h3.nshape;obtain ⟨W2,j,hY,b⟩:∃W2,w1.alloc (.cells #[.slice A0 n c0,.slice A1 n c1,.slice A2 n c2,.slice A3 n c3] 69)=W2∧Bk W2 w1.heap.size 69 [.slice A0 n c0,.slice A1 n c1,.slice A2 n c2,.slice A3 n c3]∧Below w1.heap.size w1 W2:=⟨_,rfl,Bk.new w1 _ _,Zd w1 _⟩;obtain ⟨x0,x1,x2,x3⟩:=hY.four;have d:=Za e b e.size;have a:=HX.out.later d;have e0:=h0.below b;have e1:=h1.below b;have e2:=h2.below b;have e3:=h3.below b;have h:=HO.out.below d;have q2:=a.cellAt 2 rfl;have q3:=a.cellAt 3 rfl;have q4:=a.cellAt 4 rfl;have q5:=a.cellAt 5 rfl;have q6:=a.cellAt 6 rfl;have r2:=a.frozen 2;have r3:=a.frozen 3;have r4:=a.frozen 4;have r5:=a.frozen 5;have r6:=a.frozen 6;clear hF h0 h1 h2 h3 hY e b;go_wp2;clear j x0 x1 x2 x3 q2 q3 q4 q5 q6 r2 r3 r4 r5 r6;have b2:=a.set_ 2 (.slice A0 n c0);have b3:=b2.set_ 3 (.slice A1 n c1);have b4:=b3.set_ 4 (.slice A2 n c2);have b5:=b4.set_ 5 (.slice A3 n c3);have b6:=b5.set_ 6 (.slice none 0 0);have kk:=(((Zk.setCell a 2 (.slice A0 n c0)).trans (Zk.setCell b2 3 (.slice A1 n c1))).trans (Zk.setCell b3 4 (.slice A2 n c2))).trans ((Zk.setCell b4 5 (.slice A3 n c3)).trans (Zk.setCell b5 6 (.slice none 0 0)));have i:=(((((d.mono hbase).setCell (p:=⟨g,2,none⟩) hge (.slice A0 n c0)).setCell (p:=⟨g,3,none⟩) hge (.slice A1 n c1)).setCell (p:=⟨g,4,none⟩) hge (.slice A2 n c2)).setCell (p:=⟨g,5,none⟩) hge (.slice A3 n c3)).setCell (p:=⟨g,6,none⟩) hge (.slice none 0 0)
  go_end0
  exact ⟨rfl,⟨0,cc,fun _=>0,R,C,fun _ _=>0,fun _ _=>0,L,Um,fun _=>Cs,_,_,_,_,_,b6,⟨hge,by omega,HE.out,rfl⟩,Ups.zero HS.out HI.out _ _ _,HF.out,h.but kk (by decide) (by decide) (by decide),(e0.but kk (by decide)).monoB hbase,(e1.but kk (by decide)).monoB hbase,(e2.but kk (by decide) (by decide) (by decide)).monoB f,(e3.but kk (by decide) (by decide) (by decide)).monoB f,Zlc.nil _ _ _ _ _ _⟩,i,(Zkv.of_below d).trans (Zkv.of_but kk (.inl rfl))⟩
 ·exact absurd HI.out k
theorem replaceC_own [Old] (base bi g gc n K:Nat) (Cs:Mx) (v:Value) (es:List En) (k:Nat) (x:Nat→Rat) (w:World) (hB:Zxc gc base bi w g n K Cs) (h:Wy w v es) (hgo:Pl.Good n es) (hrs:∀(k:Nat) (e:En),es[k]? =some e→e.f.Rs K) (hk:k < n)
 (hx:∀r,r < n→XV n Cs x r=XZ es r) (hx0:x k≠0) (hbase:base≤w.heap.size) (hbi:bi≤w.heap.size) (hOl:Zb w:=by (repeat (first | assumption | exact Zb.up (by assumption) hOl | exact Zb.up (Hid.out (by assumption)) hOl | with_reducible refine Zb.set ?_ _ _ | with_reducible refine Zb.mk_ ?_ _ | with_reducible refine Zb.dr ?_ | with_reducible refine Zb.drN ?_ | refine Zb.up (by assumption) ?_ | refine Zb.up (Hid.out (by assumption)) ?_))) (hO:Old.n≤base:=by first | assumption | exact Nat.zero_le _ | omega | ((first | with_reducible refine Zb.le ?_ | with_reducible refine Zb.le1 ?_ | with_reducible refine Zb.le2 ?_ | with_reducible refine Zb.le3 ?_);repeat (first | assumption | exact Zb.up (by assumption) hOl | exact Zb.up (Hid.out (by assumption)) hOl | with_reducible refine Zb.set ?_ _ _ | with_reducible refine Zb.mk_ ?_ _ | with_reducible refine Zb.dr ?_ | with_reducible refine Zb.drN ?_ | refine Zb.up (by assumption) ?_ | refine Zb.up (Hid.out (by assumption)) ?_))):
 Calls Tryz.prog 34 #[.pointer (some ⟨g,0,none⟩),.int .i64 (k:Int),v] w fun o w'=>o= .returned (.int .i64 0)∧Zxc gc base bi w' g n K (Zgu Cs k (XZ es))∧Below base w w'∧Zkv gc w w':=by
 have ce:=hOl.le;have HB:=JZ hB.bas;obtain ⟨T,cc,ks,R,C,im,V,L,Um,CC,s0,s1,s2,s3,vu,hX,⟨a6,hT,hE,a7⟩,hU,hF,hO,i0,i1,v2,v3,a8⟩:=hB;obtain ⟨Au,cu,rfl,c0,c3⟩:=a8.shape;have b9:=hF.n7;have y0:=hX.cellAt 0 rfl;have Y:Hid (1≤K):=JZ (Nat.pos_of_ne_zero fun e=>by have:=hF.e1;subst e;simp at this);have HE:Hid (5^n * K≤4000000):=JZ hE;have ad:Hid (K≤4000000):=JZ (JW (Nat.le_mul_of_pos_left K (Nat.pow_pos (by decide))) hE);have ae:Hid (XA n Cs):=JZ (by rw [← a7];exact hU.indep T (JY _));have ba:Hid (Zla es=spV (XZ es) n):=JZ (cpyV_spV hgo);have bb:Hid (es.length≤1099511627776):=JZ (by
  have e1:(Zla es).length=es.length:=by simp [Zla]
  rw [cpyV_spV hgo] at e1;have:=Ve (f:=XZ es) n;omega)
 have HU:=JZ hU;have HF:=JZ hF;have af:=JZ a7;have G:=JZ hrs;have bc:=JZ hgo;have bd:=JZ hx;have be:=JZ hx0;have HO:=JZ hO;have HX:=JZ hX;have bf:=JZ i0;have bg:=JZ i1;have ag:=JZ v2;have ah:=JZ v3;have bh:=JZ a8;have cf:(k:Int) < n:=by omega
 obtain ⟨Av,nv,cv,rfl⟩:∃A n c,v= .slice A n c:=by obtain ⟨A,c,e,_⟩:=h.shape;exact ⟨A,_,c,e⟩
 have hv:=h;clear hX hU hF a7 hE hO i0 i1 v2 v3 a8 hrs hgo hx hx0 h;go_enter Tryz.func34,Tryz.ntmps34;go_wp2_with fail;refine (Zgx _ es n K _ hv (by omega) G.out (by have:=ad.out;omega) bc.out).mono ?_;rintro _ w1 ⟨v1,rfl,e1,m⟩;obtain ⟨A1,c1,rfl⟩:=e1.slice;clear y0;have ai:=hv.below m;clear hv;go_wp2_with fail;refine (Zkr base bi g n K Cs _ (XZ es) _ (HB.out.below m) e1.frs (fun i _=>Sz_col G.out Y.out i)).mono ?_;rintro _ w2 ⟨v2,x',rfl,aa,bw,e2,ab⟩;have aj:Hid (x' k≠0):=JZ (by rw [ae.out.uniq aa bd.out k hk];exact be.out);have bj:=JZ aa;have s:=Za m ab m.size;have hv:=ai.below ab;obtain ⟨g2,c2,b3,c4,c5,b4,c9⟩:=e2.shape (by rw [Zu];omega);rw [Zu] at b3 b4;subst b3;obtain ⟨bz,oz,A6,n6,c6,A7,n7,c7,hA,_,⟨t0,t1,t2,t3⟩,b5⟩:=e2.frs.elem (JR _ _) (Z7 hk);injection hA with hA;injection hA with hA1 hA2;subst hA1;subst hA2;simp only [Nat.zero_add] at t0 t1 t2 t3;have bl:(qs (x' k)==0)=false:=by
  have:=aj.out;simpa using fun e=>this (Yz.1 e)
 have bx:=m.size;clear e1 ai aa bw m;have bm:=JZ e2;clear e2;go_wp2_with fail;refine (Yd _ (canF (x' k)) _ b5).mono ?_;rw [ZG];rintro _ w3 ⟨rfl,N⟩;have d:=Za s N s.size;have bn:=JZ (bm.out.below N);have ak:=hv.below N;have Z:=HX.out.later d;have al:=HO.out.below d;have y1:=Z.cellAt 1 rfl;clear t0 t1 t2 t3 b5 hv s ab N;have hv:=ak;have hO:=al
 go_upto_region 9 with (fail)
 clear bl;have Y1:=Zr y1;have H:=Zj w3;clear y1;refine Zt 8 [0,1,2,3,4,5,6,7,8] (by kernel_rfl) (by kernel_rfl) ?_;repeat ((first | (refine Zc (v:=?_) rfl rfl rfl ?_ ?_;rotate_left;(· (intro _ ac;go_simp;(try go_bits);(try with_reducible rfl)))) | (refine Ze (v:=?_) rfl rfl rfl ?_ ?_;rotate_left;(· (intro _ ac;go_simp;(try go_bits);(try with_reducible rfl)))) | refine Zf rfl rfl rfl ?_);(try simp only [Act.put,pu1,pu2,pu3,pu4,pu5,pu6]))
 refine Zg rfl rfl (fun KR hKR=>?_);go_simp;with_reducible refine (Zbp _ es K _ (hv.below H) G.out (by have:=ad.out;omega) bb.out).mono ?_
 rw [ba.out];rintro _ w6 ⟨v6,rfl,e6,b6⟩;have l:=Za H b6 H.size;obtain ⟨A6,n6,c6,rfl⟩:∃A n c,v6= .slice A n c:=by obtain ⟨A,c,e,_⟩:=e6.vec.shape;exact ⟨A,_,c,e⟩
 have I:=hO.below l;obtain ⟨_,m0,m1,-⟩:=I.at_ (Zbb (L:=Cs) hk);refine hKR.out _ _ (Or.inr l) ?_;clear hKR KR;(try simp only [Act.put,pu1,pu2,pu3,pu4,pu5,pu6]);repeat ((first | (refine Zc (v:=?_) rfl rfl rfl ?_ ?_;rotate_left;(· (intro _ ac;go_simp;(try go_bits);(try with_reducible rfl)))) | (refine Ze (v:=?_) rfl rfl rfl ?_ ?_;rotate_left;(· (intro _ ac;go_simp;(try go_bits);(try with_reducible rfl)))) | refine Zf rfl rfl rfl ?_);(try simp only [Act.put,pu1,pu2,pu3,pu4,pu5,pu6]))
 refine Zg rfl rfl (fun KR hKR=>?_);go_simp;refine hKR.out _ _ (Or.inl (by decide)) ?_;clear hKR KR;(try simp only [Act.put,pu1,pu2,pu3,pu4,pu5,pu6]);refine Zv ?_;clear Y1;obtain ⟨a9,k7⟩:=I.set_ (k:=k) (by rw [UI];exact hk) e6.vec;rw [vcL_rep hk] at a9;have a:=Za d l d.size;have a0:=ZN.of_set (g:=gc) (i:=k) (v:= .slice A6 n6 c6) (w:=w6);have J:=k7.bk (Z.later l) (by decide);have am:=(bf.out.below a).but k7 (by decide);have an:=(bg.out.below a).but k7 (by decide);have ao:=(ag.out.below a).others a0 k7 (fun b hb e=>by have:=ag.out.ge b hb;injection e with e;omega);have ap:=(ah.out.below a).others a0 k7 (fun b hb e=>by have:=ah.out.ge b hb;injection e with e;omega);have O:=(bh.out.below a).but k7 (by decide) (by decide) (by decide);have e7:=((bn.out.below l).but k7 (by decide) (by decide)).monoB (show bi≤w1.heap.size by omega);have t:=(a.mono hbase).setCell (p:=⟨gc,k,none⟩) HO.out.base (.slice A6 n6 c6);have aq:=(Zkv.of_below a).trans (Zkv.set I k (.slice A6 n6 c6));generalize w6.setCell ⟨gc,k,none⟩ (.slice A6 n6 c6)=W7 at *;have ar:=t.size;clear hv ak hO al I Z d H l b6 e6 a a0 k7 m0 m1;obtain ⟨y6,bv⟩:W7.cell? ⟨g,6,none⟩=some (.slice Au T cu)∧W7.frozen? ⟨g,6,none⟩=false:=⟨J.cellAt 6 rfl,J.frozen 6⟩;have au:=JW hbase ar;go_wp2_with (at_builtin;refine wpList_append_upd rfl (.tmp 53) (.tmp 57) rfl W7 base bi (.slice Au T cu) T n k ks im x' rfl O _ _ _ e7 rfl (by omega) au ?_);intro v8 W8 F k8 b8;obtain ⟨A8,c8,rfl,ca,cb⟩:=F.shape;have u:=k8.bk J (by decide);have av:=a9.but k8 (by decide) (by decide) (by decide);have aw:=am.but k8 (by decide);have ax:=an.but k8 (by decide);have ay:=ao.but k8 (by decide) (by decide) (by decide);have az:=ap.but k8 (by decide) (by decide) (by decide);have b0:=aq.trans (Zkv.of_but k8 (.inr rfl));have P:=t.trans b8;have k9:=Zk.setCell u 6 (.slice A8 (T+1) c8);have y:=u.set_ 6 (.slice A8 (T+1) c8);have M:=av.but k9 (by decide) (by decide) (by decide);have a1:=aw.but k9 (by decide);have a2:=ax.but k9 (by decide);have a3:=ay.but k9 (by decide) (by decide) (by decide);have a4:=az.but k9 (by decide) (by decide) (by decide);have z:=F.but k9 (by decide) (by decide) (by decide);have a5:=b0.trans (Zkv.of_but k9 (.inl rfl));have j:=P.setCell (p:=⟨g,6,none⟩) a6 (.slice A8 (T+1) c8);have q6:=u.cellAt 6 rfl;have bo:=u.frozen 6;clear y6 bv J a9 am an ao ap O e7 t aq k8 b8 u av aw ax ay az F b0 P k9
 go_upto_region 11 with (fail)
 clear q6 bo;generalize W8.setCell ⟨g,6,none⟩ (.slice A8 (T+1) c8)=W9 at *;have B:=HU.out.snoc (q:=k) (v:=XZ es) (x:=x') hk (fun r hr=>by rw [af.out];exact bj.out r hr) aj.out (fun r _=>Sz_col G.out Y.out r);have D:putN CC (T+1) (Zgu (CC T) k (XZ es)) (T+1)=Zgu Cs k (XZ es):=by rw [ZP,af.out]
 have b1:base≤W9.heap.size:=JW hbase j.size;have p6:=y.cellAt 6 rfl;by_cases cd:T=16
 ·have S:XA n (Zgu Cs k (XZ es)):=by rw [← D];exact B.indep (T+1) (JY _)
  have U:∀r c,r < n→c < n→Sz K (Zgu Cs k (XZ es) c r):=by rw [← D];exact B.sz (T+1) (JY _)
  have bp:=JZ y;have bq:=JZ S;have br:=JZ U;have bs:=JZ M;have b2:16 < (T:Int)+1:=by omega
  clear y S U M a1 a2 a3 a4 z B D;go_wp2_with fail;clear p6;refine (refreshC_own base bi g n K (T+1) gc cc (Zgu Cs k (XZ es)) s0 s1 s2 s3 A8 c8 _ bp.out a6 bs.out (by omega) (by omega) b9 Y.out HE.out br.out bq.out b1).mono ?_;rintro _ cg ⟨rfl,b7,E,X⟩;have a:=j.trans E;have bt:=a5.trans X;clear j E a5 X;go_wp2;go_ret;exact ⟨rfl,b7,a,bt⟩
 ·have b2:¬16 < (T:Int)+1:=by omega
  have bu:Zxc gc base bi W9 g n K (Zgu Cs k (XZ es)):=⟨T+1,cc,_,R,C,_,_,L,Um,_,_,_,_,_,_,y,⟨a6,by omega,HE.out,D⟩,B,by rw [ZM (by omega)];exact HF.out,M,a1,a2,a3,a4,z⟩;clear y M a1 a2 a3 a4 z B D;go_wp2;go_ret;exact ⟨rfl,bu,j,a5⟩
section
def BasZ [Old] (gc base bi:Nat) (w:World) (g n K:Nat) (Cs:Mx) (R C:Nat→Nat) (L Um:Mx):Prop:=
 ∃(cc:Nat) (s0 s1 s2 s3 vu:Value),
  Bk w g 74 [.int .i64 (n:Int),.slice (some ⟨gc,0,none⟩) n cc,s0,s1,s2,s3,vu]∧(base≤g∧5^n * K≤4000000∧1≤K)∧(∀r c,r < n→c < n→Sz K (Cs c r))∧XA n Cs∧Znq n (5^n * K) (trM Cs) R C L Um∧
  Yl base w (.slice (some ⟨gc,0,none⟩) n cc) (vcL n Cs)∧ZJ base w s0 (Zdg n R)∧ZJ base w s1 (Zdg n C)∧Yl (gc+1) w s2 (vcL n L)∧Yl (gc+1) w s3 (vcL n Um)∧Zlc base bi w vu 0 n (fun _=>0) (fun _ _=>0)
section
variable {gc base bi g n K:Nat} {w w':World} {Cs:Mx} {R C:Nat→Nat} {L Um:Mx}
theorem BasZ.bas [Old] (h:BasZ gc base bi w g n K Cs R C L Um):Zxc gc base bi w g n K Cs:=by
 obtain ⟨cc,s0,s1,s2,s3,vu,h1,⟨h2,h3,d⟩,h4,h5,h6,h7,h8,h9,a,b,c⟩:=h;exact ⟨0,cc,fun _=>0,R,C,fun _ _=>0,fun _ _=>0,L,Um,fun _=>Cs,s0,s1,s2,s3,vu,h1,⟨h2,by omega,h3,rfl⟩,Ups.zero h4 h5 _ _ _,h6,h7,h8,h9,a,b,c⟩
end
theorem refreshZ_own [Old] (base bi g n K T gc cc:Nat) (Cs:Mx) (s0 s1 s2 s3:Value) (Au:Option Addr) (cu:Nat) (w:World) (hX:Bk w g 74 [.int .i64 (n:Int),.slice (some ⟨gc,0,none⟩) n cc,s0,s1,s2,s3,.slice Au T cu]) (hge:base≤g) (hO:Yl base w (.slice (some ⟨gc,0,none⟩) n cc) (vcL n Cs)) (hT:1≤T) (hT2:T≤17) (hn:n≤7) (hK:1≤K) (hE:5^n * K≤4000000)
 (hs:∀r c,r < n→c < n→Sz K (Cs c r)) (hi:XA n Cs) (hbase:base≤w.heap.size) (hOl:Zb w:=by (repeat (first | assumption | exact Zb.up (by assumption) hOl | exact Zb.up (Hid.out (by assumption)) hOl | with_reducible refine Zb.set ?_ _ _ | with_reducible refine Zb.mk_ ?_ _ | with_reducible refine Zb.dr ?_ | with_reducible refine Zb.drN ?_ | refine Zb.up (by assumption) ?_ | refine Zb.up (Hid.out (by assumption)) ?_))) (hOb:Old.n≤base:=by first | assumption | exact Nat.zero_le _ | omega | ((first | with_reducible refine Zb.le ?_ | with_reducible refine Zb.le1 ?_ | with_reducible refine Zb.le2 ?_ | with_reducible refine Zb.le3 ?_);repeat (first | assumption | exact Zb.up (by assumption) hOl | exact Zb.up (Hid.out (by assumption)) hOl | with_reducible refine Zb.set ?_ _ _ | with_reducible refine Zb.mk_ ?_ _ | with_reducible refine Zb.dr ?_ | with_reducible refine Zb.drN ?_ | refine Zb.up (by assumption) ?_ | refine Zb.up (Hid.out (by assumption)) ?_))):
 Calls Tryz.prog 47 #[.pointer (some ⟨g,0,none⟩)] w fun o w'=>o= .returned (.tuple #[])∧(∃R C L Um,BasZ gc base bi w' g n K Cs R C L Um)∧Below base w w'∧Zkv gc w w':=by
 have l:=hOl.le;have y1:=hX.cellAt 1 rfl;have y6:=hX.cellAt 6 rfl;have HX:=JZ hX;have HO:=JZ hO;have HS:=JZ hs;have HI:=JZ hi;have HK:=JZ hK;have HE:=JZ hE;have f:gc < w.heap.size:=by
  obtain ⟨cs,h1,_⟩:=hO;exact Vz h1 gc rfl
 clear hX hO hs hi hK hE;go_enter Tryz.func47,Tryz.ntmps47;go_wp2_with fail;clear y1 y6;refine (Zdm _ n K Cs _ HO.out.vecs hn HK.out HE.out HS.out).mono ?_;rintro _ w1 ⟨e,⟨R,C,L,Um,z0,z1,z2,z3,rfl,hF,h0,h1,h2,h3⟩ | ⟨rfl,k⟩⟩
 ·have HF:=JZ hF;obtain ⟨A0,c0,rfl⟩:=h0.nshape;obtain ⟨A1,c1,rfl⟩:=h1.nshape;obtain ⟨A2,c2,rfl⟩:=h2.nshape;obtain ⟨A3,c3,rfl⟩:=h3.nshape;obtain ⟨W2,j,hY,b⟩:∃W2,w1.alloc (.cells #[.slice A0 n c0,.slice A1 n c1,.slice A2 n c2,.slice A3 n c3] 69)=W2∧Bk W2 w1.heap.size 69 [.slice A0 n c0,.slice A1 n c1,.slice A2 n c2,.slice A3 n c3]∧Below w1.heap.size w1 W2:=⟨_,rfl,Bk.new w1 _ _,Zd w1 _⟩;obtain ⟨x0,x1,x2,x3⟩:=hY.four;have d:=Za e b e.size;have a:=HX.out.later d;have e0:=h0.below b;have e1:=h1.below b;have e2:=h2.below b;have e3:=h3.below b;have h:=HO.out.below d;have q2:=a.cellAt 2 rfl;have q3:=a.cellAt 3 rfl;have q4:=a.cellAt 4 rfl;have q5:=a.cellAt 5 rfl;have q6:=a.cellAt 6 rfl;have r2:=a.frozen 2;have r3:=a.frozen 3;have r4:=a.frozen 4;have r5:=a.frozen 5;have r6:=a.frozen 6;clear hF h0 h1 h2 h3 hY e b;go_wp2;clear j x0 x1 x2 x3 q2 q3 q4 q5 q6 r2 r3 r4 r5 r6;have b2:=a.set_ 2 (.slice A0 n c0);have b3:=b2.set_ 3 (.slice A1 n c1);have b4:=b3.set_ 4 (.slice A2 n c2);have b5:=b4.set_ 5 (.slice A3 n c3);have b6:=b5.set_ 6 (.slice none 0 0);have kk:=(((Zk.setCell a 2 (.slice A0 n c0)).trans (Zk.setCell b2 3 (.slice A1 n c1))).trans (Zk.setCell b3 4 (.slice A2 n c2))).trans ((Zk.setCell b4 5 (.slice A3 n c3)).trans (Zk.setCell b5 6 (.slice none 0 0)));have i:=(((((d.mono hbase).setCell (p:=⟨g,2,none⟩) hge (.slice A0 n c0)).setCell (p:=⟨g,3,none⟩) hge (.slice A1 n c1)).setCell (p:=⟨g,4,none⟩) hge (.slice A2 n c2)).setCell (p:=⟨g,5,none⟩) hge (.slice A3 n c3)).setCell (p:=⟨g,6,none⟩) hge (.slice none 0 0)
  go_end0
  exact ⟨rfl,⟨R,C,L,Um,cc,_,_,_,_,_,b6,⟨hge,HE.out,HK.out⟩,HS.out,HI.out,HF.out,h.but kk (by decide) (by decide) (by decide),(e0.but kk (by decide)).monoB hbase,(e1.but kk (by decide)).monoB hbase,(e2.but kk (by decide) (by decide) (by decide)).monoB f,(e3.but kk (by decide) (by decide) (by decide)).monoB f,Zlc.nil _ _ _ _ _ _⟩,i,(Zkv.of_below d).trans (Zkv.of_but kk (.inl rfl))⟩
 ·exact absurd HI.out k
theorem refreshZ_any [Old] (gc base bi g n K:Nat) (Cs:Mx) (w:World) (hB:Zxc gc base bi w g n K Cs) (hbase:base≤w.heap.size) (hOl:Zb w:=by (repeat (first | assumption | exact Zb.up (by assumption) hOl | exact Zb.up (Hid.out (by assumption)) hOl | with_reducible refine Zb.set ?_ _ _ | with_reducible refine Zb.mk_ ?_ _ | with_reducible refine Zb.dr ?_ | with_reducible refine Zb.drN ?_ | refine Zb.up (by assumption) ?_ | refine Zb.up (Hid.out (by assumption)) ?_))) (hO:Old.n≤base:=by first | assumption | exact Nat.zero_le _ | omega | ((first | with_reducible refine Zb.le ?_ | with_reducible refine Zb.le1 ?_ | with_reducible refine Zb.le2 ?_ | with_reducible refine Zb.le3 ?_);repeat (first | assumption | exact Zb.up (by assumption) hOl | exact Zb.up (Hid.out (by assumption)) hOl | with_reducible refine Zb.set ?_ _ _ | with_reducible refine Zb.mk_ ?_ _ | with_reducible refine Zb.dr ?_ | with_reducible refine Zb.drN ?_ | refine Zb.up (by assumption) ?_ | refine Zb.up (Hid.out (by assumption)) ?_))):
 Calls Tryz.prog 47 #[.pointer (some ⟨g,0,none⟩)] w fun o w'=>o= .returned (.tuple #[])∧(∃R C L Um,BasZ gc base bi w' g n K Cs R C L Um)∧Below base w w'∧Zkv gc w w':=by
 have i:=hOl.le;obtain ⟨T,cc,k,R,C,im,V,L,Um,CC,s0,s1,s2,s3,vu,hX,⟨b,hT,hE,c⟩,hU,hF,hO,i0,i1,v2,v3,a⟩:=hB;obtain ⟨Au,cu,rfl,f,h⟩:=a.shape;have hK:1≤K:=Nat.pos_of_ne_zero fun e=>by have:=hF.e1;subst e;simp at this
 rcases JV T with hz | hp
 ·subst hz;subst c;have y6:=hX.cellAt 6 rfl;have hZ:BasZ gc base bi w g n K (CC 0) R C L Um:=by
   obtain ⟨cs,d,_⟩:=a;exact ⟨cc,s0,s1,s2,s3,_,hX,⟨b,hE,hK⟩,hU.szC,hU.ind,hF,hO,i0,i1,v2,v3,cs,d,fun t ht=>absurd ht (by omega)⟩
  have HZ:=JZ hZ;clear hX hE hU hF hO i0 i1 v2 v3 a hZ;go_enter Tryz.func47,Tryz.ntmps47;go_wp2;refine bodyPost_ret (results_none rfl _ _ _) rfl ?_;exact ⟨rfl,⟨_,_,_,_,HZ.out⟩,JR _ _,Zkv.refl _ _⟩
 ·have hs:=hU.sz T (JY _);have hi:=hU.indep T (JY _);rw [c] at hs hi;exact refreshZ_own base bi g n K T gc cc Cs s0 s1 s2 s3 Au cu w hX b hO hp (by omega) hF.n7 hK hE hs hi hbase
end
section
namespace Pl
def scaleDn (M:Mx) (k n i:Nat) (f:Rat):Mx:=fun r c=>if r=k∧i≤c∧c < n+1 then M r c / f else M r c
theorem scaleDn_start (M:Mx) (k n:Nat) (f:Rat):scaleDn M k n (n+1) f=M:=by
 funext r c;unfold scaleDn;rw [if_neg (by omega)]
theorem scaleDn_at {M:Mx} {k n i c:Nat} {f:Rat} (h:c < i):scaleDn M k n i f k c=M k c:=by
 unfold scaleDn;rw [if_neg (by omega)]
theorem scaleDn_next {M:Mx} {k n i:Nat} {f:Rat} (h:i≤n):Ztn (scaleDn M k n (i+1) f) k i (M k i / f)=scaleDn M k n i f:=by
 funext r c;unfold Ztn scaleDn
 by_cases h1:r=k∧c=i
 ·obtain ⟨rfl,rfl⟩:=h1;rw [if_pos ⟨rfl,rfl⟩,if_pos ⟨rfl,by omega,by omega⟩]
 ·rw [if_neg h1];by_cases h2:r=k∧i+1≤c∧c < n+1
  ·rw [if_pos h2,if_pos ⟨h2.1,by omega,h2.2.2⟩]
  ·rw [if_neg h2,if_neg (by omega)]
theorem scaleDn_end (M:Mx) (k n:Nat) (f:Rat):scaleDn M k n k f=scaleTo M k (n+1) f:=rfl
theorem colsM_snoc (cols:List (List En)) (c:List En) (r j:Nat) (h:j < cols.length+1):trM (Yu (cols++[c])) r j=Zbi cols.length (Yu cols) (XZ c) r j:=by
 show Yu (cols++[c]) j r=_;unfold Zbi;rcases JX j cols.length with e | e
 ·rw [if_pos e];unfold Yu;simp [List.getD,List.getElem?_append_left e]
 ·obtain rfl:j=cols.length:=by omega
  rw [if_neg (by omega)];unfold Yu;simp [List.getD]
def solV (n:Nat) (cols:Mx) (b:Nat→Rat):List En:=match Xt n cols b with | some x=>spV x n | none=>[]
theorem solV_some {n:Nat} {cols:Mx} {b x:Nat→Rat} (h:Xt n cols b=some x):solV n cols b=spV x n:=by unfold solV;rw [h]
theorem solV_none {n:Nat} {cols:Mx} {b:Nat→Rat} (h:Xt n cols b=none):solV n cols b=[]:=by unfold solV;rw [h]
end Pl
theorem wpList_app_run {ops:Array Oper} {rest:List Oper} {o:Oper} {a:Act} {Q:Exit→Act→World→Prop} {w w':World} {s x:Operand} {t ty:TypeId} {v u v':Value} (hr:(Builtin.append_ #[t,t] ty #[v,u]).run Tryz.prog w= .ok v' w') (hty:o.type=ty) (hgd:o.guard=none) (ho:o.op= .call { callee:= .builtin .append,args:=#[s,x],argTypes:=#[t,t] })
 (hs:a.eval s=v) (hx:a.eval x=u) (h:wpList Tryz.prog ops Q rest (a.put o.dst v') w'):wpList Tryz.prog ops Q (o::rest) a w:=
 wpList_step fun _ hK=>wp_append_run hr hty hgd ho hs hx (hK _ _ h)
theorem run_append_copyV [Old] (ty:TypeId) (W:World) (v:Value) (cols:List (List En)) (h:Xf W v cols) (hn:cols.length≤1099511627776):
 ∃v' w',(Builtin.append_ #[22,22] ty #[.slice none 0 0,v]).run Tryz.prog W= .ok v' w'∧Yl W.heap.size w' v' cols∧Below W.heap.size W w':=by
 obtain ⟨cs,h1,h2⟩:=h;obtain ⟨A,c,rfl,hl,hc,hm,a⟩:=h1;obtain ⟨i0,hi,f,m,n⟩:=info_parts info_vector
 cases A with
 | none=>
  have h0:cols.length=0:=by
   rcases JV cols.length with e | e
   ·exact e
   ·obtain ⟨b,g,_,_,_,e1,_⟩:=a e;cases e1
  have l:cols=[]:=List.eq_nil_of_length_eq_zero h0;subst l;refine ⟨_,_,?_,Yl.nil _ _,JR _ _⟩;simp [Builtin.append_,run_underlying Tryz.underlying22,sizeOf,typeInfo,zeroValue,hi,f,Builtin.lenOf,run_firstCells_none]
 | some ad=>
  obtain ⟨v',w',hr,g1,g2,_,_⟩:=run_append_own_at (P:=Tryz.prog) W W.heap.size 22 ty 28 i0 _ 1 24 Tryz.underlying22 hi f m n rfl (by decide) (.slice none 0 0) 0 [] (World.ownsRow_nil _ _ _ _) ad cols.length c cs hl (fun j u hj=>by
   have hp:0 < cols.length:=by
    have h9:=(List.getElem?_eq_some_iff.1 hj).1;omega
   obtain ⟨b,g,o,_,fz,e,_,hb,hx⟩:=a hp;have e:=Option.some.inj e;rw [e,addr_add0,cell_of_row W b (g+j) o _ fz hb,hx j u hj]) (fun u hu=>by
    obtain ⟨j,hj,e⟩:=List.getElem_of_mem hu;obtain ⟨cc,p⟩:=XI (cs:=cols) (i:=j) (by omega);obtain ⟨u',e1,e2⟩:=h2 j cc p;rw [JQ hj] at e1;have e1:=Option.some.inj e1;obtain ⟨_,_,e3,_⟩:=e2.shape;rw [← e,e1,e3];rfl) (by unfold maxLen;omega) (by omega) (JY _)
  have hb:=(JR W.heap.size W).grown g2 (JY _) (fun k hk=>by simp [Value.ownBlock] at hk);exact ⟨v',w',hr,⟨cs,by simpa using g1,fun k d hd=>by
   obtain ⟨u,e1,e2⟩:=h2 k d hd;exact ⟨u,e1,e2.below hb⟩⟩,hb⟩
theorem run_append_vecR [Old] (ty:TypeId) (W:World) (base:Nat) (v:Value) (cols:List (List En)) (h:Yl base W v cols) (A:Option Addr) (n c:Nat) (es:List En) (hf:Wy W (.slice A n c) es) (hn:cols.length+1≤1099511627776) (hbase:base≤W.heap.size) (hO:Old.n≤base:=by first | assumption | exact Nat.zero_le _ | omega | ((first | with_reducible refine Zb.le ?_ | with_reducible refine Zb.le1 ?_ | with_reducible refine Zb.le2 ?_ | with_reducible refine Zb.le3 ?_);repeat (first | assumption | exact Zb.up (by assumption) hOl | exact Zb.up (Hid.out (by assumption)) hOl | with_reducible refine Zb.set ?_ _ _ | with_reducible refine Zb.mk_ ?_ _ | with_reducible refine Zb.dr ?_ | with_reducible refine Zb.drN ?_ | refine Zb.up (by assumption) ?_ | refine Zb.up (Hid.out (by assumption)) ?_))):
 ∃v' w',(Builtin.append_ #[22,22] ty #[v,.slice (some ⟨W.heap.size,0,none⟩) 1 1]).run Tryz.prog (W.alloc (.cells #[.slice A n c] 28))= .ok v' w'∧Yl base w' v' (cols++[es])∧Below base W w':=by
 obtain ⟨cs,h1,h2⟩:=h;obtain ⟨i0,hi,f,g,i⟩:=info_parts info_vector;obtain ⟨v',w',hr,g1,g2,g3⟩:=Zbo ty 22 28 i0 _ 1 24 Tryz.underlying22 hi f g i rfl (by decide) W base v cols.length cs [.slice A n c] h1 rfl (fun u hu=>by simp at hu;subst hu;rfl) (by unfold maxLen;omega) (by omega) hbase;refine ⟨v',w',hr,⟨_,by simpa using g1,fun k d hd=>?_⟩,g3⟩;have a:cs.length=cols.length:=by simpa using h1.1
 rcases JX k cols.length with hk | hk
 ·rw [List.getElem?_append_left hk] at hd;obtain ⟨u,q1,q2⟩:=h2 k d hd;exact ⟨u,by rw [List.getElem?_append_left (by omega)];exact q1,q2.but g2 (by decide) (by decide)⟩
 ·rw [List.getElem?_append_right hk] at hd;have b:k - cols.length=0:=by
   rcases JV (k - cols.length) with e | e
   ·exact e
   ·rw [JU (by simp;omega)] at hd;cases hd
  rw [b] at hd;simp at hd;subst hd;exact ⟨.slice A n c,by rw [List.getElem?_append_right (by omega),a,b];rfl,hf.but g2 (by decide) (by decide)⟩
attribute [local irreducible] Yi
theorem solve4_any [Old] (v1 v2:Value) (cols:List (List En)) (c0:List En) (n K:Nat) (w:World) (h:Xf w v1 cols) (h2:Wy w v2 c0) (hl:cols.length=n) (hn:n≤7) (hK:1≤K) (hE:5^n * K≤4000000) (hg:∀(k:Nat) (c:List En),cols[k]? =some c→Inc none c∧∀(j:Nat) (e:En),c[j]? =some e→e.f.Rs K) (hv:Inc none c0∧∀(j:Nat) (e:En),c0[j]? =some e→e.f.Rs K) (hOl:Zb w:=by (repeat (first | assumption | exact Zb.up (by assumption) hOl | exact Zb.up (Hid.out (by assumption)) hOl | with_reducible refine Zb.set ?_ _ _ | with_reducible refine Zb.mk_ ?_ _ | with_reducible refine Zb.dr ?_ | with_reducible refine Zb.drN ?_ | refine Zb.up (by assumption) ?_ | refine Zb.up (Hid.out (by assumption)) ?_))):
 Calls Tryz.prog 29 #[.int .i64 (n:Int),v1,v2] w fun o w'=>∃v',o= .returned v'∧Wy w' v' (solV n (Yu cols) (XZ c0))∧Below w.heap.size w w':=by
 have ed:=hOl.le;have ee:K≤4000000:=by have:=JS K (Nat.pow_le_pow_right (show 0 < 5 by decide) (Nat.zero_le n));simp at this;omega
 have a5:Hid (MB n (n+1) K (Zbi n (Yu cols) (XZ c0))):=JZ (Zwk (fun r c hr hc=>by
  obtain ⟨cc,ab⟩:=XI (cs:=cols) (i:=c) (by omega);rw [Wu ab];exact Sz_col (hg c cc ab).2 hK r) fun r _=>Sz_col hv.2 hK r)
 have bi:Hid (∀k,k < n→5 * (5^k * K)≤4000000):=JZ fun k hk=>JW (Zto hk) hE
 have b5:Hid (∀k,k≤n→5^k * K≤4000000):=JZ fun k hk=>JW (JS K (Nat.pow_le_pow_right (by decide) hk)) hE
 have HG:Hid (∀(k:Nat) (c:List En),(cols++[c0])[k]? =some c→Inc none c∧∀(j:Nat) (e:En),c[j]? =some e→e.f.Sh):=JZ fun k c hc=>by
  have bj:Inc none c∧∀(j:Nat) (e:En),c[j]? =some e→e.f.Rs K:=by
   rcases JX k cols.length with e | e
   ·rw [List.getElem?_append_left e] at hc;exact hg k c hc
   ·rw [List.getElem?_append_right e] at hc;rcases JV (k - cols.length) with e1 | e1
    ·rw [e1] at hc;simp at hc;subst hc;exact hv
    ·rw [JU (by simp;omega)] at hc;cases hc
  exact ⟨bj.1,fun j e he=>(bj.2 j e he).sh (by omega)⟩
 have bk:Hid (∀r c,r < n→c < n+1→trM (Yu (cols++[c0])) r c=Zbi n (Yu cols) (XZ c0) r c):=JZ fun r c _ hc=>by rw [← hl];exact colsM_snoc cols c0 r c (by omega)
 obtain ⟨sv,aj⟩:∃x,solV n (Yu cols) (XZ c0)=x:=⟨_,rfl⟩;have bl:Hid (Xt n (Yu cols) (XZ c0)=none→sv=[]):=JZ fun e=>by rw [← aj];exact solV_none e
 have bm:Hid (∀x,Xt n (Yu cols) (XZ c0)=some x→sv=spV x n):=JZ fun x e=>by rw [← aj];exact solV_some e
 rw [aj];obtain ⟨M0,ak⟩:∃M,Zbi n (Yu cols) (XZ c0)=M:=⟨_,rfl⟩;rw [ak] at a5 bk;have d0:Hid (∀k M,k < n→gj M0 n k=some M→X6 M k n=none→sv=[]):=JZ fun k M hk a3 hf=>bl.out (solveQ_fail hk (by rw [ak];exact a3) hf)
 have d1:Hid (∀M,gj M0 n n=some M→sv=spV (fun k=>M k n) n):=JZ fun M a3=>bm.out _ (solveQ_done (by rw [ak];exact a3))
 have bn:(cols++[c0]).length=n+1:=by simp;omega
 have d2:=JZ bn;obtain ⟨A,ca,rfl,cg,e7⟩:=h.shape;rw [hl] at h cg ⊢;obtain ⟨Ab,cb,rfl,eb,ec⟩:=h2.shape;obtain ⟨vc,wc,b3,ch,al⟩:=run_append_copyV 22 w _ cols h (by omega);obtain ⟨vd,wd,ac,ci,cj⟩:=run_append_vecR 22 wc w.heap.size vc cols ch Ab c0.length cb c0 (h2.below al) (by omega) al.size;have a:=al.trans cj;clear aj hE hg hv ak bl bm h2 h bn ch al cj;generalize c0.length=l0 at *;clear hl;go_enter Tryz.func29,Tryz.ntmps29;go_wp2_with (at_builtin;first | (refine wpList_app_run b3 rfl rfl rfl rfl rfl ?_) | (refine wpList_app_run ac rfl rfl rfl rfl rfl ?_));clear b3 ac;refine (Zku _ (cols++[c0]) n (n+1) _ ci.vecs d2.out (by omega) (by omega) (fun _=>by omega) HG.out).mono ?_;rintro _ w1 ⟨va,G0,D0,rfl,S,cv⟩;have ap:=Za a cv a.size;have bo:=S.congr bk.out;have ef:=a.size;clear a cv S ci;generalize wd=W at *;go_wp2
 go_loopw [8] (fun x wr=>∃(k:Nat) (M:Mx) (G D:Nat→Nat),k≤n∧x= .int .i64 k∧Below w.heap.size w wr∧gj M0 n k=some M∧WJ W.heap.size wr va n (n+1) M G D) (fun x _=>n - (intOf x).toNat)
 case atStart=>exact ⟨0,M0,G0,D0,by omega,rfl,ap,rfl,bo⟩
 case round=>
  clear ap bo;obtain ⟨k,M,G,D,hk,rfl,a,a3,hM⟩:=hrel;have Z:=JZ a3;clear a3;rcases JX k n with hkn | hkn
  ·obtain ⟨go,ca,rfl,ck,cl,cm,cn,U⟩:=hM.outer (by omega);have b6:=JZ (Zwx a5.out hk Z.out);have eg:=bi.out k hkn;generalize dz:5^k * K=κ at *;obtain ⟨wP,rfl⟩:∃x,x=wr:=⟨_,rfl⟩;have d3:(k:Int) < n:=(by omega);have bp:(k:Int) < ((n+1:Nat):Int):=(by omega);have e2:(k:Int) < (n:Int)+1:=(by omega);clear dz U;go_wp2
   go_loopw [9] (fun x wx=>∃t:Nat,k≤t∧t≤n∧x= .int .i64 t∧Below wP.heap.size wP wx∧∀s,k≤s→s < t→M s k=0) (fun x _=>n - (intOf x).toNat)
   case atStart=>exact ⟨k,by omega,by omega,rfl,JR _ _,fun s h1 h2=>by omega⟩
   case round=>
    obtain ⟨t,ds,er,rfl,ad,hz⟩:=hrel;have HZ:=JZ hz;clear hz;rcases JX t n with htl | htl
    ·have b7:=hM.below ad;have y0:=(b7.cellAt htl).1;obtain ⟨B1,Bn,Bc,B2,Bm,Bd,⟨x0,x1,x2,x3⟩,hQ⟩:=b7.at_ htl (show k < n+1 by omega);have bq:(canF (M t k)).Sh:=(b6.out t k htl (by omega)).sh (by omega);simp only [YP] at y0;generalize cx:M t k=qt at *;have af:=JZ cx;clear cx;have eh:(t:Int) < n:=(by omega);go_wp2_with fail;refine (Xl _ (canF qt) _ hQ bq).mono ?_;rw [ZG];rintro _ w5 ⟨rfl,B⟩;clear y0 x0 x1 x2 x3 hQ b7;have Y:=Za ad B ad.size;by_cases q:qt=0
     ·have ag:(qs qt==0)=true:=(by rw [q];decide);have d4:Hid (∀s,k≤s→s < t+1→M s k=0):=JZ fun s h1 h2=>by
       rcases JX s t with h | h
       ·exact HZ.out s h1 h
       ·obtain rfl:s=t:=by omega
        rw [af.out,q]
      clear q;go_wp2;go_roundw
      case rel=>exact ⟨t+1,by omega,by omega,by go_num,Y,d4.out⟩
      case measure=>simp [intOf];omega
     ·have ag:(qs qt==0)=false:=(by simpa using fun e=>q (Yz.1 e));have br:Hid (X6 M k n=some t):=JZ (Zjv ds htl (by rw [af.out];exact q) HZ.out);have d5:Hid (qt≠0):=JZ q;have J:=hM.below Y;have C:=Za a Y a.size;have d6:((t:Int)==(n:Int))=false:=(by simp;omega);have a6:=J.below (Zj w5);obtain ⟨b,co⟩:=a6.swap htl hkn;obtain ⟨y1,cp,b4⟩:=a6.swap1 (u:=YP (n+1) G D k) hkn (k:=t);obtain ⟨a1,dt⟩:=a6.cellAt hkn;obtain ⟨a2,du⟩:=a6.cellAt htl;have b1:=(J.cellAt hkn).1;have b2:=(J.cellAt htl).1;obtain ⟨M1,S⟩:∃x:Mx,swapM M k t=x:=⟨_,rfl⟩;have bs:=JZ S;have O:Hid (MB n (n+1) κ M1):=JZ (by rw [← S];exact b6.out.swap hkn htl);have ah:Hid (M1 k k=qt):=JZ (by rw [← S,Zre];exact af.out);rw [Zke,S] at b;simp only [YP] at b co cp b4 a1 a2 b1 b2;obtain ⟨G1,cq⟩:∃x,Uf G t k=x:=⟨_,rfl⟩;obtain ⟨D1,cr⟩:∃x,Uf D t k=x:=⟨_,rfl⟩;rw [cq,cr] at b;have a7:=C.drew;have aq:w.heap.size≤go:=(by omega);clear a6 J hM cq cr S C a ad B Y HZ q bq co
      go_upto_region 10 with (fail)
      have C0:=Zr b1;have d7:=Zr b2;clear b1 b2 ag d6;refine Zt 13 [0,1,2,3,4,5,6,7,8,9,10,11,12,13,14,15] (by kernel_rfl) (by kernel_rfl) ?_;generalize e0:w5.drew=wD at *;clear e0;repeat ((first | (refine Zc (v:=?_) rfl rfl rfl ?_ ?_;rotate_left;(· (intro _ b;go_simp;(try go_bits);(try with_reducible rfl)))) | (refine Ze (v:=?_) rfl rfl rfl ?_ ?_;rotate_left;(· (intro _ b;go_simp;(try go_bits);(try with_reducible rfl)))) | refine Zf rfl rfl rfl ?_);(try simp only [Act.put,pu1,pu2,pu3,pu4,pu5,pu6]))
      refine Zg rfl rfl (fun KR hKR=>?_);go_simp;refine hKR.out _ _ (Or.inl (by decide)) ?_;clear hKR KR;(try simp only [Act.put,pu1,pu2,pu3,pu4,pu5,pu6]);generalize cy:wD.setCell ⟨go,t,none⟩ (.slice (some ⟨G k,0,none⟩) (n+1) (D k))=W1 at *;refine Zg rfl rfl (fun KR hKR=>?_);go_simp;refine hKR.out _ _ (Or.inl (by decide)) ?_;clear hKR KR;(try simp only [Act.put,pu1,pu2,pu3,pu4,pu5,pu6]);refine Zg rfl rfl (fun KR hKR=>?_);go_simp;refine hKR.out _ _ (Or.inl (by decide)) ?_;clear hKR KR;(try simp only [Act.put,pu1,pu2,pu3,pu4,pu5,pu6]);refine Zv ?_;have a8:=(a7.setCell (p:=⟨go,t,none⟩) aq (.slice (some ⟨G k,0,none⟩) (n+1) (D k)));rw [cy] at a8;have P:=a8.setCell (p:=⟨go,k,none⟩) aq (.slice (some ⟨G t,0,none⟩) (n+1) (D t));clear C0 d7 a8 a7 cp b4 a1 a2 dt du cy;generalize W1.setCell ⟨go,k,none⟩ (.slice (some ⟨G t,0,none⟩) (n+1) (D t))=W2 at *;have a9:Hid (Sz κ qt):=JZ (by rw [← ah.out];exact O.out k k hkn (by omega));rw [← scaleDn_start M1 k n qt] at b;go_wp2
      go_loopw [10] (fun x wx=>∃(i:Nat) (z:Int),k≤i∧i≤n+1∧z=(i:Int) - 1∧x= .int .i64 z∧Below w.heap.size w wx∧WJ W.heap.size wx (.slice (some ⟨go,0,none⟩) n ca) n (n+1) (scaleDn M1 k n i qt) G1 D1) (fun x _=>(intOf x+1).toNat)
      case atStart=>exact ⟨n+1,n,by omega,by omega,by omega,rfl,P,b⟩
      case round=>
       clear P b;obtain ⟨i,z,dv,dw,hz,rfl,a,hM⟩:=hrel;rcases JX k i with hlt | hge
       ·obtain ⟨j,rfl⟩:∃j,i=j+1:=⟨i - 1,by omega⟩;obtain rfl:z=(j:Int):=by omega
        have d:j < n+1:=(by omega);have y0:=(hM.cellAt hkn).1;obtain ⟨A3,n3,c3,A4,n4,c4,⟨q0,q1,q2,q3⟩,T⟩:=hM.at_ hkn d;obtain ⟨A5,n5,c5,A6,n6,c6,⟨p0,p1,p2,p3⟩,bg⟩:=hM.at_ hkn (show k < n+1 by omega);rw [scaleDn_at (show j < j+1 by omega)] at q0 q2 T;rw [scaleDn_at (show k < j+1 by omega),ah.out] at p0 p2 bg;have b8:=scaleDn_next (M:=M1) (k:=k) (n:=n) (i:=j) (f:=qt) (by omega);have a0:=O.out k j hkn d;obtain ⟨qa,ct⟩:∃x,M1 k j=x:=⟨_,rfl⟩;rw [ct] at q0 q2 T a0 b8;have R:=JZ b8;have b9:(canF qa).Sh:=a0.sh (by omega);have d8:(canF qt).Sh:=a9.out.sh (by omega);simp only [YP] at y0;have ei:(j:Int) < ((n+1:Nat):Int):=(by omega);have e3:(j:Int) < (n:Int)+1:=(by omega);have ej:(k:Int)≤j:=(by omega);clear a0 ct b8 hz;go_wp2_with fail;have Y0:=Zr y0;have Q0:=Zr q0;have Q1:=Zr q1;have Q2:=Zr q2;have Q3:=Zr q3;have P0:=Zr p0;have P1:=Zr p1;have P2:=Zr p2;have P3:=Zr p3;have F:=Zj wr;clear y0 q0 q1 q2 q3 p0 p1 p2 p3;refine Zt 24 [0,1,2,3,4,5,6,7,8,9,10,11,12,13,14,15,16,17,18,19,20,21,22,23,24] (by kernel_rfl) (by kernel_rfl) ?_;repeat ((first | (refine Zc (v:=?_) rfl rfl rfl ?_ ?_;rotate_left;(· (intro _ b;go_simp;(try go_bits);(try with_reducible rfl)))) | (refine Ze (v:=?_) rfl rfl rfl ?_ ?_;rotate_left;(· (intro _ b;go_simp;(try go_bits);(try with_reducible rfl)))) | refine Zf rfl rfl rfl ?_);(try simp only [Act.put,pu1,pu2,pu3,pu4,pu5,pu6]))
        refine Zg rfl rfl (fun KR hKR=>?_);go_simp;(with_reducible refine (Zfr _ _ (canF qa) (canF qt) _ (T.below F) (bg.below F) b9 d8 (by rw [ZG];exact d5.out)).mono ?_);rw [ZG,ZG];rintro _ w9 ⟨v9,rfl,e9,X⟩;have H:=Za F X F.size;have L:=hM.below H;obtain ⟨E,l9,k9,E',am,an,rfl,_,_⟩:=id e9;obtain ⟨f0,f1,f2,f3⟩:=L.frozen hkn d;obtain ⟨_,_,_,_,_,_,⟨t0,t1,t2,t3⟩,_⟩:=L.at_ hkn d;refine hKR.out _ _ (Or.inr H) ?_;clear hKR KR;(try simp only [Act.put,pu1,pu2,pu3,pu4,pu5,pu6]);repeat ((first | (refine Zc (v:=?_) rfl rfl rfl ?_ ?_;rotate_left;(· (intro _ b;go_simp;(try go_bits);(try with_reducible rfl)))) | (refine Ze (v:=?_) rfl rfl rfl ?_ ?_;rotate_left;(· (intro _ b;go_simp;(try go_bits);(try with_reducible rfl)))) | refine Zf rfl rfl rfl ?_);(try simp only [Act.put,pu1,pu2,pu3,pu4,pu5,pu6]))
        refine Zg rfl rfl (fun KR hKR=>?_);go_simp;refine hKR.out _ _ (Or.inl (by decide)) ?_;clear hKR KR;(try simp only [Act.put,pu1,pu2,pu3,pu4,pu5,pu6]);refine Zv ?_;obtain ⟨y,I⟩:=L.set_ hkn d e9;rw [R.out] at y;have l:=ZB (Za a H a.size) (show w.heap.size≤G1 k from by have:=(hM.lt hkn (by omega)).1;omega) (j * 4) (j * 4+1) (j * 4+2) (j * 4+3) (.bool (canF (qa / qt)).num.neg) (.slice E l9 k9) (.bool (canF (qa / qt)).den.neg) (.slice E' am an);clear Y0 Q0 Q1 Q2 Q3 P0 P1 P2 P3 hM L F H X e9 f0 f1 f2 f3 t0 t1 t2 t3 T bg a I;go_wp2;go_roundw
        case rel=>exact ⟨j,(j:Int) - 1,by omega,by omega,rfl,rfl,l,y⟩
        case measure=>simp [intOf] <;> omega
       ·have bt:i=k:=(by omega);have el:z < (k:Int):=(by omega);rw [bt,scaleDn_end] at hM;have ar:Hid (∀s c,s < n→c < n+1→s≠k→Sz κ (scaleTo M1 k (n+1) qt s c)):=JZ fun s c h1 h2 h3=>Zgs O.out h1 h2 h3
        have bu:Hid (∀c,c < n+1→Sz (2 * κ) (scaleTo M1 k (n+1) qt k c)):=JZ fun c h2=>Zmu O.out a9.out hkn h2
        have d9:Hid (gj M0 n (k+1)=some (ZL (scaleTo M1 k (n+1) qt) k n n)):=JZ (by rw [gj_next Z.out br.out,bs.out,ah.out]);generalize scaleTo M1 k (n+1) qt=M2 at *;have bv:WJ W.heap.size wr (.slice (some ⟨go,0,none⟩) n ca) n (n+1) (ZL M2 k 0 n) G1 D1:=(by rw [Zcu];exact hM);clear hM b6 O ah a9 Z br bs af bt hz dv dw hge;go_wp2
        go_loopw [11] (fun i wx=>∃s:Nat,s≤n∧i= .int .i64 s∧Below w.heap.size w wx∧WJ W.heap.size wx (.slice (some ⟨go,0,none⟩) n ca) n (n+1) (ZL M2 k s n) G1 D1) (fun i _=>n - (intOf i).toNat)
        case atStart=>exact ⟨0,by omega,rfl,a,bv⟩
        case round=>
         clear a bv;obtain ⟨s,hs,rfl,a,hM⟩:=hrel;rcases JX s n with hsn | hsn
         ·by_cases a4:s=k
          ·have ba:=JZ (Zer (M:=M2) (m:=n) (Or.inl a4:s=k∨M2 s k=0));have bw:=hM;rw [ba.out] at bw;have bx:((s:Int)==(k:Int))=true:=(by simp;omega);go_wp2;go_roundw
           case rel=>exact ⟨s+1,by omega,by go_num,a,bw⟩
           case measure=>simp [intOf];omega
          ·have bx:((s:Int)==(k:Int))=false:=(by simp;omega);have y0:=(hM.cellAt hsn).1;obtain ⟨A3,n3,c3,A4,n4,c4,⟨q0,q1,q2,q3⟩,N⟩:=hM.at_ hsn (show k < n+1 by omega);have bb:=ar.out s k hsn (by omega) a4;rw [Zjx] at q0 q2 N;simp only [YP] at y0;have au:=JZ (Zes (M:=M2) (m:=n) a4);rw [Zjx] at au;generalize cz:M2 s k=qg at *;have da:=JZ cz;clear cz;have bz:(canF qg).Sh:=bb.sh (by omega);have av:=JZ bb;clear bb;have d3:(k:Int) < ((n+1:Nat):Int):=(by omega);have bp:(k:Int) < (n:Int)+1:=(by omega);have em:(s:Int) < n:=(by omega);go_wp2_with fail;refine (Xl _ (canF qg) _ N bz).mono ?_;rw [ZG];rintro _ w5 ⟨rfl,B⟩;have J:=hM.below B;have C:=Za a B a.size;by_cases q:qg=0
           ·have ag:(qs qg==0)=true:=(by rw [q];decide);have ba:=JZ (Zer (M:=M2) (m:=n) (Or.inr (by rw [da.out,q]):s=k∨M2 s k=0));rw [ba.out] at J;clear q;go_wp2;go_roundw
            case rel=>exact ⟨s+1,by omega,by go_num,C,J⟩
            case measure=>simp [intOf];omega
           ·have ag:(qs qg==0)=false:=(by simpa using fun e=>q (Yz.1 e));clear q;have aw:=N.below B;have db:=cell_later B y0;have dc:=cell_later B q0;have dd:=cell_later B q1;have de:=cell_later B q2;have df:=cell_later B q3;have c1:Hid (∀s,s < n→G1 s < w5.heap.size):=JZ fun s hs=>(J.lt hs (by omega)).2.1
            clear y0 q0 q1 q2 q3 N hM a B;obtain ⟨W6,dx,V,ao⟩:=Zah w5 (.bool (canF qg).num.neg) (.slice A3 n3 c3) (.bool (canF qg).den.neg) (.slice A4 n4 c4);have c2:=J.below ao;have c9:=aw.below ao;have P:=Za C ao C.size;have ax:WJ W.heap.size W6 (.slice (some ⟨go,0,none⟩) n ca) n (n+1) (Xb (ZL M2 k s n) k s k qg) G1 D1:=(by rw [Zeq];exact c2);go_wp2;clear dx db dc dd de df aw J c2 ao C
            go_loopw [13] (fun i wx=>∃c':Nat,k≤c'∧c'≤n+1∧i= .int .i64 c'∧Below w.heap.size w wx∧WJ W.heap.size wx (.slice (some ⟨go,0,none⟩) n ca) n (n+1) (Xb (ZL M2 k s n) k s c' qg) G1 D1∧Bk wx w5.heap.size 36 [.bool (canF qg).num.neg,.slice A3 n3 c3,.bool (canF qg).den.neg,.slice A4 n4 c4]∧Zm wx (.agg #[.bool (canF qg).num.neg,.slice A3 n3 c3,.bool (canF qg).den.neg,.slice A4 n4 c4]) (canF qg)) (fun i _=>n+1 - (intOf i).toNat)
            case atStart=>exact ⟨k,by omega,by omega,rfl,P,ax,V,c9⟩
            case round=>
             clear P ax V c9;obtain ⟨c',dy,es,rfl,a,hM,V,N⟩:=hrel;rcases JX c' (n+1) with d | d
             ·have y0:=(hM.cellAt hsn).1;have x0:=(hM.cellAt hkn).1;obtain ⟨A5,n5,c5,A6,n6,c6,⟨q0,q1,q2,q3⟩,T⟩:=hM.at_ hsn d;obtain ⟨A7,n7,c7,A8,n8,c8,⟨p0,p1,p2,p3⟩,bh⟩:=hM.at_ hkn d;obtain ⟨z0,z1,z2,z3⟩:=V.four;have R:=JZ (Zgr (M:=ZL M2 k s n) (g:=qg) dy a4);have ea:Xb (ZL M2 k s n) k s c' qg s c'=M2 s c':=(by unfold Xb;rw [if_neg (by omega),Zjx]);have ek:Xb (ZL M2 k s n) k s c' qg k c'=M2 k c':=(by rw [Zbz a4,Wo]);rw [ea] at q0 q2 T R;rw [ek] at p0 p2 bh R;have a0:=ar.out s c' hsn d a4;have ai:=bu.out c' d;have cd:=V5 av.out ai;simp only [YP] at y0 x0;generalize M2 s c'=qa at *;generalize M2 k c'=qk at *;have b9:(canF qa).Sh:=a0.sh (by omega);have dg:(canF qk).Sh:=ai.sh (by omega);have dh:(canF qk).Rw:=ai.rw (by omega);have di:(canF qg).Rw:=av.out.rw (by omega);have dj:(canF (qg * qk)).Sh:=cd.sh (by omega);have en:(c':Int) < ((n+1:Nat):Int):=(by omega);have e4:(c':Int) < (n:Int)+1:=(by omega);have e5:(c':Int)≤n:=(by omega);clear a0 ai cd ea ek;go_wp2_with fail;have Y0:=Zr y0;have X0:=Zr x0;have Q0:=Zr q0;have Q1:=Zr q1;have Q2:=Zr q2;have Q3:=Zr q3;have P0:=Zr p0;have P1:=Zr p1;have P2:=Zr p2;have P3:=Zr p3;have Z0:=Zr z0;have Z1:=Zr z1;have Z2:=Zr z2;have Z3:=Zr z3;have F:=Zj wr;clear y0 x0 q0 q1 q2 q3 p0 p1 p2 p3 z0 z1 z2 z3;refine Zt 23 [0,1,2,3,4,5,6,7,8,9,10,11,12,13,14,15,16,17,18,19,20,21,22,23] (by kernel_rfl) (by kernel_rfl) ?_;repeat ((first | (refine Zc (v:=?_) rfl rfl rfl ?_ ?_;rotate_left;(· (intro _ b;go_simp;(try go_bits);(try with_reducible rfl)))) | (refine Ze (v:=?_) rfl rfl rfl ?_ ?_;rotate_left;(· (intro _ b;go_simp;(try go_bits);(try with_reducible rfl)))) | refine Zf rfl rfl rfl ?_);(try simp only [Act.put,pu1,pu2,pu3,pu4,pu5,pu6]))
              refine Zg rfl rfl (fun KR hKR=>?_);go_simp;(with_reducible refine (Zfq _ _ (canF qg) (canF qk) _ (N.below F) (bh.below F) bz dg di dh).mono ?_);rw [ZG,ZG];rintro _ w8 ⟨v8,rfl,e8,cw⟩;have aa:=Za F cw F.size;refine hKR.out _ _ (Or.inr aa) ?_;clear hKR KR;(try simp only [Act.put,pu1,pu2,pu3,pu4,pu5,pu6]);repeat ((first | (refine Zc (v:=?_) rfl rfl rfl ?_ ?_;rotate_left;(· (intro _ b;go_simp;(try go_bits);(try with_reducible rfl)))) | (refine Ze (v:=?_) rfl rfl rfl ?_ ?_;rotate_left;(· (intro _ b;go_simp;(try go_bits);(try with_reducible rfl)))) | refine Zf rfl rfl rfl ?_);(try simp only [Act.put,pu1,pu2,pu3,pu4,pu5,pu6]))
              refine Zg rfl rfl (fun KR hKR=>?_);go_simp;(with_reducible refine (Zoh _ _ (canF qa) (canF (qg * qk)) _ (T.below aa) e8 b9 dj).mono ?_);rw [ZG,ZG];rintro _ w9 ⟨v9,rfl,e9,X⟩;have H:=Za aa X aa.size;have L:=hM.below H;obtain ⟨E,l9,k9,E',am,an,rfl,_,_⟩:=id e9;obtain ⟨f0,f1,f2,f3⟩:=L.frozen hsn d;obtain ⟨_,_,_,_,_,_,⟨t0,t1,t2,t3⟩,_⟩:=L.at_ hsn d;refine hKR.out _ _ (Or.inr H) ?_;clear hKR KR;(try simp only [Act.put,pu1,pu2,pu3,pu4,pu5,pu6]);repeat ((first | (refine Zc (v:=?_) rfl rfl rfl ?_ ?_;rotate_left;(· (intro _ b;go_simp;(try go_bits);(try with_reducible rfl)))) | (refine Ze (v:=?_) rfl rfl rfl ?_ ?_;rotate_left;(· (intro _ b;go_simp;(try go_bits);(try with_reducible rfl)))) | refine Zf rfl rfl rfl ?_);(try simp only [Act.put,pu1,pu2,pu3,pu4,pu5,pu6]))
              refine Zg rfl rfl (fun KR hKR=>?_);go_simp;refine hKR.out _ _ (Or.inl (by decide)) ?_;clear hKR KR;(try simp only [Act.put,pu1,pu2,pu3,pu4,pu5,pu6]);refine Zv ?_;obtain ⟨y,I⟩:=L.set_ hsn d e9;rw [R.out] at y;have ay:=Za a H a.size;have l:=ZB ay (show w.heap.size≤G1 s from by have:=(hM.lt hsn (by omega)).1;omega) (c' * 4) (c' * 4+1) (c' * 4+2) (c' * 4+3) (.bool (canF (qa - qg * qk)).num.neg) (.slice E l9 k9) (.bool (canF (qa - qg * qk)).den.neg) (.slice E' am an);have bc:=(V.later H).far4' (show w5.heap.size≠G1 s by have:=c1.out s hsn;omega) (c' * 4) (c' * 4+1) (c' * 4+2) (c' * 4+3) (.bool (canF (qa - qg * qk)).num.neg) (.slice E l9 k9) (.bool (canF (qa - qg * qk)).den.neg) (.slice E' am an);have bd:=(N.below H).keep (I.keep (by decide));clear Y0 X0 Q0 Q1 Q2 Q3 P0 P1 P2 P3 Z0 Z1 Z2 Z3 hM V N L F aa H cw X e8 e9 f0 f1 f2 f3 t0 t1 t2 t3 T bh a ay I;go_wp2;go_roundw
              case rel=>exact ⟨c'+1,by omega,by omega,by go_num,l,y,bc,bd⟩
              case measure=>simp [intOf];omega
             ·have ab:c'=n+1:=(by omega);rw [ab,au.out] at hM;clear V N ab;go_wp2;go_roundw
              case rel=>exact ⟨s+1,by omega,by go_num,a,hM⟩
              case measure=>simp [intOf];omega
         ·obtain rfl:n=s:=by omega
          go_wp2;go_roundw
          case rel=>exact ⟨k+1,_,G1,D1,by omega,by go_num,a,d9.out,hM⟩
          case measure=>simp [intOf];omega
    ·obtain rfl:n=t:=by omega
     have HN:Hid (sv=[]):=JZ (d0.out k M hkn Z.out (Zju HZ.out));go_wp2;go_ret;exact ⟨_,rfl,by rw [HN.out];exact (Wz.nil 0 _).vec,Za a ad a.size⟩
  ·obtain rfl:n=k:=by omega
   have dk:=JZ (d1.out M Z.out);have dl:=JZ (Zwx a5.out (JY n) Z.out);have dm:=JZ (b5.out n (JY n));have dn:=X5 n (by omega);have be:=YL.zeros wr n (by unfold maxLen;omega);have bf:=Zd wr (.cells (zfc n) 36);rw [← Zaz (w:=fun i=>M i n)] at be;have az:=Za a bf a.size;have ce:=hM.below bf;have dp:Hid (∀r,r < n→G r≠wr.heap.size):=JZ fun r hr=>by have:=(hM.lt hr (by omega)).2.1;omega
   have dq:w.heap.size≤wr.heap.size:=a.size;clear a hM bf;go_wp2;clear dn;generalize wr.heap.size=gx at *;generalize wr.alloc (.cells (zfc n) 36)=W7 at *
   go_loopw [15] (fun x wx=>∃i:Nat,i≤n∧x= .int .i64 i∧Below w.heap.size w wx∧WJ W.heap.size wx va n (n+1) M G D∧YL gx wx (.slice (some ⟨gx,0,none⟩) n n) (XQ n i fun r=>M r n)) (fun x _=>n - (intOf x).toNat)
   case atStart=>exact ⟨0,by omega,rfl,az,ce,be⟩
   case round=>
    clear az ce be;obtain ⟨i,hi,rfl,a,hM,hO⟩:=hrel;rcases JX i n with hil | hil
    ·obtain ⟨go,ca,rfl,ck,cl,cm,cn,U⟩:=hM.outer (by omega);have y0:=(hM.cellAt hil).1;obtain ⟨A3,n3,c3,A4,n4,c4,⟨q0,q1,q2,q3⟩,hQ⟩:=hM.at_ hil (show n < n+1 by omega);simp only [YP] at y0;have b0:=Yt (n:=n) (i:=i) (f:=fun j=>if j < i then canF (M j n) else zeroF) hil;obtain ⟨_,_,_,_,⟨t0,t1,t2,t3⟩,⟨f0,f1,f2,f3⟩,_⟩:=hO.at_ b0;obtain ⟨ae,I⟩:=hO.set_ (k:=i) (by rw [Un];exact hil) hQ;have R:Hid ((XQ n i fun r=>M r n).set i (canF (M i n))=XQ n (i+1) fun r=>M r n):=JZ (VH (w:=fun r=>M r n) hil);rw [R.out] at ae;have y:=hM.far Yb I dp.out;have l:=ZB a dq (i * 4) (i * 4+1) (i * 4+2) (i * 4+3) (.bool (canF (M i n)).num.neg) (.slice A3 n3 c3) (.bool (canF (M i n)).den.neg) (.slice A4 n4 c4);have eo:(i:Int) < n:=(by omega);have ep:(n:Int) < ((n+1:Nat):Int):=(by omega);have e6:(n:Int) < (n:Int)+1:=(by omega);obtain ⟨qz,cu⟩:∃x,M i n=x:=⟨_,rfl⟩;rw [cu] at q0 q2 ae y l;clear cu hM hO a hQ I b0 U R;go_wp2;go_roundw
     case rel=>exact ⟨i+1,by omega,by go_num,l,y,ae⟩
     case measure=>simp [intOf];omega
    ·obtain rfl:n=i:=by omega
     rw [Zcc] at hO;go_wp2_with fail;refine (fromDense1_own _ (YT n fun r=>M r n) (5^n * K) _ hO.frs (by rw [Zu];omega) (Ztl fun i hi=>dl.out i n hi (by omega)) (by have:=dm.out;omega)).mono ?_;rw [Zu];rintro _ w9 ⟨v9,rfl,e9,X⟩;go_wp2;go_ret;have cf:=e9.vec;rw [WM fun i hi=>Zpu hi] at cf;exact ⟨_,rfl,by rw [dk.out];exact cf,Za a X a.size⟩
end
namespace Pl
theorem solV_eq {n:Nat} {cols:Mx} {b x:Nat→Rat} (hi:XA n cols) (hx:∀r,r < n→XV n cols x r=b r):solV n cols b=spV x n:=by
 obtain ⟨z,hz,h⟩:=Znd hi hx;rw [solV_some hz];exact WM h
end Pl
section
namespace Pl
theorem colsM_set {cols:List (List En)} {k:Nat} {c:List En} (hk:k < cols.length):Yu (cols.set k c)=Zgu (Yu cols) k (XZ c):=by
 funext j
 unfold Yu Zgu;by_cases e:j=k
 ·subst e;rw [if_pos rfl,List.getD_eq_getElem?_getD,List.getElem?_set_self hk];rfl
 ·rw [if_neg e];show XZ ((cols.set k c).getD j [])=XZ (cols.getD j []);rw [List.getD_eq_getElem?_getD,List.getD_eq_getElem?_getD,List.getElem?_set_ne (fun h=>e h.symm)]
theorem set_all {P:List En→Prop} {cols:List (List En)} {k:Nat} {c:List En} (h:∀(j:Nat) (d:List En),cols[j]? =some d→P d) (hc:P c):∀(j:Nat) (d:List En),(cols.set k c)[j]? =some d→P d:=by
 intro j d hd;rw [List.getElem?_set] at hd;by_cases e:k=j
 ·rw [if_pos e] at hd;by_cases g:k < cols.length
  ·rw [if_pos g] at hd;injection hd with hd;rw [← hd];exact hc
  ·rw [if_neg g] at hd;cases hd
 ·rw [if_neg e] at hd;exact h j d hd
theorem colsErr_all0 {n:Int}:∀{cs:List (List En)},(∀(j:Nat) (d:List En),cs[j]? =some d→vecErr d n=0)→YH n cs=0
 | [],_=>rfl
 | c::cs,h=>by
  rw [YH,if_pos (h 0 c rfl)]
  exact colsErr_all0 fun j d hd=>h (j+1) d (by simpa using hd)
theorem colsErr_set {n:Int} {c:List En} (hc:vecErr c n≠0):∀{cs:List (List En)} {k:Nat},(∀(j:Nat) (d:List En),cs[j]? =some d→vecErr d n=0)→k < cs.length→YH n (cs.set k c)=vecErr c n
 | [],k,_,hk=>by simp at hk
 | d::cs,0,h,_=>by
  rw [List.set_cons_zero,YH,if_neg hc]
 | d::cs,k+1,h,hk=>by
  rw [List.set_cons_succ,YH,if_pos (h 0 d rfl)]
  exact colsErr_set hc (fun j e he=>h (j+1) e (by simpa using he)) (by simpa using hk)
section
variable {m k:Nat} {cur:List (List En)} {wi:List En}
theorem Zrg.set_err (hR:Zrg m cur) (hk:k < m) (hv:vecErr wi (m:Int)≠0):Wx (m:Int) (cur.set k wi)=vecErr wi (m:Int):=by
 have hl:=hR.len;have h7:=hR.n7;have e:=colsErr_set hv (fun j d hd=>(hR.good j d hd).err (by omega)) (show k < cur.length by omega);unfold Wx;rw [if_neg (by omega),if_neg (by rw [List.length_set];omega),if_pos (by rw [e];exact hv),e]
theorem Zrg.set_sing (hR:Zrg m cur) (hk:k < m) (hv:vecErr wi (m:Int)=0) {x:Nat→Rat} (hx:∀r,r < m→XV m (Yu cur) x r=XZ wi r) (h0:x k=0):Wx (m:Int) (cur.set k wi)=13:=by
 have hl:=hR.len;have h7:=hR.n7;have e:YH (m:Int) (cur.set k wi)=0:=colsErr_all0 (set_all (P:=fun d=>vecErr d (m:Int)=0) (fun j d hd=>(hR.good j d hd).err (by omega)) hv);unfold Wx;rw [if_neg (by omega),if_neg (by rw [List.length_set];omega),if_neg (by rw [e];simp)];have hn:=dep_rep hk hx h0;rw [← colsM_set (show k < cur.length by omega)] at hn;rw [if_pos];rw [JP];exact Decidable.byContradiction fun h=>hn ((Zij (M:=trM (Yu (cur.set k wi))) (cols:=Yu (cur.set k wi)) fun _ _ _ _=>rfl).1 h)
theorem Zrg.set_ok (hR:Zrg m cur) (hk:k < m) (hv:vecErr wi (m:Int)=0) (hL:EnI wi∧EnW wi∧∀(j:Nat) (e:En),wi[j]? =some e→e.f.Rs 12) {x:Nat→Rat} (hx:∀r,r < m→XV m (Yu cur) x r=XZ wi r) (h0:x k≠0):Zrg m (cur.set k wi) where
 len:=by rw [List.length_set];exact hR.len
 n7:=hR.n7
 good:=set_all (P:=fun d=>Good m d) hR.good (Zbh hv)
 light:=set_all (P:=fun d=>EnI d∧EnW d∧∀(j:Nat) (e:En),d[j]? =some e→e.f.Rs 12) hR.light hL
 ind:=by
  have hl:=hR.len;rw [colsM_set (show k < cur.length by omega)];exact Zne hk hR.ind hx h0
theorem Zrg.lightS (hR:Zrg m cur) (hL:EnI wi∧EnW wi∧∀(j:Nat) (e:En),wi[j]? =some e→e.f.Rs 12):Zix (cur.set k wi):=set_all (P:=fun d=>EnI d∧EnW d∧∀(j:Nat) (e:En),d[j]? =some e→e.f.Rs 12) hR.light hL
theorem Zrg.sol (hR:Zrg m cur) (b:Nat→Rat):∃x:Nat→Rat,∀r,r < m→XV m (Yu cur) x r=b r:=by
 obtain ⟨x,hx⟩:=Uh hR.ind b;exact ⟨x,(Vd hx x).2 fun _ _=>rfl⟩
end
theorem Good_unit {m j:Nat} (hj:j < m):Good m [⟨(j:Int),canF 1⟩]:=by
 have e:spV (fun r=>if r=j then 1 else 0) m=[⟨(j:Int),canF 1⟩]:=by
  have h1:∀d,spV (fun r=>if r=j then (1:Rat) else 0) (j+1+d)=[⟨(j:Int),canF 1⟩]:=by
   intro d;rw [Zfe fun s h1 h2=>by rw [if_neg (by omega)]];rw [Xo (by simp),show spV (fun r=>if r=j then (1:Rat) else 0) j=[] from by
    have:=Zfe (f:=fun r=>if r=j then (1:Rat) else 0) (m:=0) (d:=j) fun s h1 h2=>by rw [if_neg (by omega)]
    rw [Nat.zero_add] at this;rw [this];rfl]
   simp
  have:=h1 (m - (j+1))
  rwa [show j+1+(m - (j+1))=m by omega] at this
 rw [← e];exact Zqi _ m
end Pl
section
variable {gc:Nat} {w w':World}
theorem Zkv.keep [Old] (h:Zkv gc w w'):ZE w w':=h.keep3.keep
theorem Wy.keep4 [Old] {v:Value} {es:List En} (h:Wy w v es) (hk:Zkv gc w w'):Wy w' v es:=by
 obtain ⟨cs,h1,h2⟩:=h;refine ⟨cs,?_,h2.keep hk.keep⟩;obtain ⟨A,c,e,hl,hc,hm,a⟩:=h1;exact ⟨A,c,e,hl,hc,hm,fun hp=>by
  obtain ⟨b,g,d,t',fz,e1,f,hb,hx⟩:=a hp;exact ⟨b,g,d,t',fz,e1,f,hk b d _ fz (f.imp (fun q=>by subst q;exact ⟨by decide,.inl (by decide),by decide⟩) id) hb,hx⟩⟩
theorem Yl.keep4 [Old] {base:Nat} {v:Value} {cols:List (List En)} (h:Yl base w v cols) (hk:Zkv gc w w') (hne:∀b,v.ownBlock=some b→b≠gc):Yl base w' v cols:=by
 obtain ⟨cs,h1,h2⟩:=h;refine ⟨cs,⟨h1.1,?_⟩,fun k c hc=>?_⟩
 ·rcases h1.2 with hn | ⟨b,cap,cur,rfl,hb,hg,rest⟩
  ·exact .inl hn
  ·exact .inr ⟨b,cap,cur,rfl,hb,hk b _ _ _ (.inl ⟨by decide,.inr (hne b rfl),by decide⟩) hg,rest⟩
 ·obtain ⟨u,e1,e2⟩:=h2 k c hc;exact ⟨u,e1,e2.keep4 hk⟩
theorem Yl.openB [Old] {base n c:Nat} {A:Option Addr} {cols:List (List En)} (h:Yl base w (.slice A n c) cols) (hp:0 < n):∃g,A=some ⟨g,0,none⟩∧base≤g∧g < w.heap.size:=by
 obtain ⟨cs,h1,h2⟩:=h;rcases h1.2 with ⟨e,_⟩ | ⟨g,cap,cur,e,hb,hg,_⟩
 ·cases e;omega
 ·cases e;exact ⟨g,rfl,hb,Ye hg⟩
end
end
end Go.Proofs.YtidgdpkcloaheaaGreat
