/- Lemmas of the claim; no condition. -/
import Derived.Test.YtidgdpkcloaheaaGreatQ25
import Derived.Test.YtidgdpkcloaheaaGreatOLbZJ
set_option linter.all false
set_option maxRecDepth 100000
set_option maxHeartbeats 40000000
namespace Go.Proofs.YtidgdpkcloaheaaGreat
open Go.RowKit
open Pl
attribute [local go_sem ↓] Go.wp_at_zero Go.wp_at_succ
theorem addr_add0 (b off j:Nat):(⟨b,off,none⟩:Addr).add j=⟨b,off+j,none⟩:=by
 unfold Addr.add;split
 ·rename_i h;subst h;rfl
 ·rfl
namespace Pl
structure Prf where
 st:Int
 x:List RF
 y:List RF
 ray:List RF
def shX (p:LPd) (x:Prf):Prop:=x.x.length=if x.st=2 then 0 else p.cols.length
instance (p:LPd) (x:Prf):Decidable (shX p x):=by unfold shX;infer_instance
end Pl
theorem run_append_copyI (ty:TypeId) (W:World) (v:Value) (zs:List Int) (h:Vi W v zs) (hn:zs.length≤1099511627776):
 ∃v' w',(Builtin.append_ #[46,46] ty #[.slice none 0 0,v]).run Tryz.prog W= .ok v' w'∧ZJ W.heap.size w' v' zs∧Below W.heap.size W w':=by
 obtain ⟨A,c,rfl,hc,hm,a,i⟩:=h;obtain ⟨i0,hi,f,l,m⟩:=info_parts info_intT
 cases A with
 | none=>
  have h0:zs.length=0:=by
   rcases JV zs.length with e | e
   ·exact e
   ·obtain ⟨b,n,e1,_⟩:=a e;cases e1
  have g:zs=[]:=List.eq_nil_of_length_eq_zero h0;subst g;refine ⟨_,_,?_,ZJ.nil _ _,JR _ _⟩;simp [Builtin.append_,run_underlying Tryz.underlying46,sizeOf,typeInfo,zeroValue,hi,f,Builtin.lenOf,run_firstCells_none]
 | some ad=>
  obtain ⟨v',w',hr,g1,g2,_,_⟩:=run_append_own_at (P:=Tryz.prog) W W.heap.size 46 ty 3 i0 _ 1 8 Tryz.underlying46 hi f l m rfl (by decide) (.slice none 0 0) 0 [] (World.ownsRow_nil _ _ _ _) ad zs.length c (zs.map fun z=>Value.int .i64 z) (by simp) (fun j u hj=>by
   have d:j < zs.length:=(by have h9:=(List.getElem?_eq_some_iff.1 hj).1;simpa using h9);obtain ⟨b,n,e,hx⟩:=a (by omega);have e:=Option.some.inj e;rw [e,addr_add0,hx j d];simp [JQ d] at hj;rw [← hj];simp [List.getD,JQ d]) (fun u hu=>by simp at hu;obtain ⟨z,_,rfl⟩:=hu;rfl) (by unfold maxLen;omega) (by omega) (JY _)
  refine ⟨v',w',hr,⟨by simpa using g1,i⟩,?_⟩;exact (JR _ _).grown g2 (JY _) (fun k hk=>by simp [Value.ownBlock] at hk)
theorem op_append_run {o:Oper} {a:Act} {w w':World} {v x y:Value} {K:Act→World→Prop} {Q:Exit→Act→World→Prop} {ops:Array Oper} {t:TypeId} (s1 s2:Operand) (hgd:o.guard=none) (ho:o.op= .call { callee:= .builtin .append,args:=#[s1,s2],argTypes:=#[t,t] }) (h1:a.eval s1=x) (h2:a.eval s2=y)
 (hrun:(Builtin.append_ #[t,t] o.type #[x,y]).run Tryz.prog w= .ok v w') (h:K (a.put o.dst v) w'):if Region.wanted o (yielded ops a.tmps)=true then Oper.wp Tryz.prog o a w K Q else K (a.put o.dst undef) w:=by
 rw [if_pos (by simp [Region.wanted,hgd])];unfold Oper.wp execOp;simp only [ho,resolve,invoke,builtin,Sem.run_bind,Sem.run_pure,Result.andThen_ok,List.map_toArray,List.map_cons,List.map_nil,h1,h2,hrun];exact h
theorem toDense_err [Old] (v:Value) (es:List En) (n:Int) (w:World) (h:Wy w v es) (hi:EnI es) (h0: -9223372036854775808≤n) (h1:n≤9223372036854775807) (he:vecErr es n≠0) (hOl:Zb w:=by (repeat (first | assumption | exact Zb.up (by assumption) hOl | exact Zb.up (Hid.out (by assumption)) hOl | with_reducible refine Zb.set ?_ _ _ | with_reducible refine Zb.mk_ ?_ _ | with_reducible refine Zb.dr ?_ | with_reducible refine Zb.drN ?_ | refine Zb.up (by assumption) ?_ | refine Zb.up (Hid.out (by assumption)) ?_))):
 Calls Tryz.prog 41 #[v,.int .i64 n] w fun e w'=>e= .returned (.tuple #[.slice none 0 0,.int .i64 (vecErr es n)])∧Below w.heap.size w w':=by
 have b:=hOl.le;obtain ⟨A,c,rfl,f,g⟩:=h.shape;obtain ⟨q,hq⟩:∃q,vecErr es n=q:=⟨_,rfl⟩;rw [hq] at he ⊢;have HQ:=JZ hq;have d:(q !=0)=true:=by simpa using he
 generalize hl:es.length=l at *;clear hq he hl;go_enter Tryz.func41,Tryz.ntmps41;go_wp2_with fail;refine (XP _ es n _ h hi h0 h1).mono ?_;rw [HQ.out];rintro _ w1 ⟨rfl,a⟩;go_wp2;go_ret2;exact ⟨rfl,a⟩
namespace Pl
def idM:Mx:=fun r c=>if r=c then 1 else 0
theorem Ztw.gj {n:Nat} {F:Mx→Rat} (h:Ztw n F) {M N0:Mx} (h0:∀r c,r < n→c < n→M r c=N0 r c):∀k,k≤n→∀p N,dN M n k=some p→gj N0 n k=some N→Zao n k N∧F M=p.2 * F N
 | 0,_,p,N,e1,e2=>by
  injection e1 with e1;injection e2 with e2
  subst e1 e2
  exact ⟨fun r c _ hc=>absurd hc (by omega),by rw [h.congr h0];exact (Rat.one_mul _).symm⟩
 | k+1,hk,p,N,e1,e2=>by
  have hg:=Zmy hk e2
  refine ⟨hg.1,?_⟩
  unfold dN at e1
  unfold Pl.gj at e2
  cases hd:dN M n k with
  | none=>rw [hd] at e1;cases e1
  | some p0=>
   cases hj:Pl.gj N0 n k with
   | none=>rw [hj] at e2;cases e2
   | some N1=>
    rw [hd] at e1;rw [hj] at e2
    obtain ⟨hu,hF⟩:=Ztw.gj h h0 k (by omega) p0 N1 hd hj
    have hdn:=Zvk h0 k (by omega)
    rw [hd,hj] at hdn
    obtain ⟨_,ha⟩:=hdn
    simp only [Znn] at e1
    simp only [Wv] at e2
    rw [Zfb (A:=p0.1) (B:=N1) fun s h1 h2=>ha s k h1 h2 (by omega)] at e1
    cases hp:X6 N1 k n with
    | none=>rw [hp] at e1;cases e1
    | some t=>
     rw [hp] at e1 e2
     injection e1 with e1;injection e2 with e2
     subst e1 e2
     obtain ⟨t1,t2,t3⟩:=Va hp
     have hf:swapM N1 k t k k=N1 t k:=by unfold swapM;rw [if_pos rfl]
     have a:swapM p0.1 k t k k=N1 t k:=by unfold swapM;rw [if_pos rfl];exact ha t k t1 t2 (by omega)
     rw [hF,h.step (show k < n by omega) hu hp,hf,a]
     by_cases g:t=k
     ·simp only [if_pos g];grind
     ·simp only [if_neg g];grind
theorem indep_dN {n:Nat} {M:Mx} (hi:XA n (trM M)):∃p,dN M n n=some p:=by
 have:=(Zij (M:=M) (cols:=trM M) fun _ _ _ _=>rfl).2 hi;unfold Zfa at this
 cases e:dN M n n with
 | none=>rw [e] at this;exact absurd rfl this
 | some p=>exact ⟨p,rfl⟩
theorem Ztw.eq {n:Nat} {F:Mx→Rat} (h:Ztw n F) {M:Mx} (hi:XA n (trM M)):F M=Zfa n M * F idM:=by
 obtain ⟨p,hp⟩:=indep_dN hi;obtain ⟨x,hx⟩:=Uh hi fun _=>0
 unfold Xt at hx
 cases hg:Pl.gj (Zbi n (trM M) fun _=>0) n n with
 | none=>rw [hg] at hx;cases hx
 | some N=>
  obtain ⟨hu,hF⟩:=h.gj (N0:=Zbi n (trM M) fun _=>0) (fun r c _ hc=>by unfold Zbi;rw [if_pos hc];rfl) n (JY _) p N hp hg;rw [hF,h.congr (A:=N) (B:=idM) fun r c hr hc=>hu r c hr hc];unfold Zfa;rw [hp]
def skipN (j i:Nat):Nat:=if i < j then i else i+1
def unskN (j m:Nat):Nat:=if m < j then m else m - 1
theorem skip_unsk {j m:Nat} (h:m≠j):skipN j (unskN j m)=m:=by
 unfold unskN skipN;by_cases g:m < j
 ·rw [if_pos g,if_pos g]
 ·rw [if_neg g,if_neg (by omega)];omega
theorem skip_comm {j m:Nat} (h:m≠j) (i:Nat):skipN j (skipN (unskN j m) i)=skipN m (skipN (unskN m j) i):=by
 unfold unskN skipN;(repeat' split);all_goals omega
theorem skip_lt {n j i:Nat} (hi:i < n):skipN j i < n+1:=by
 unfold skipN;split <;> omega
theorem sg_anti {j m:Nat} (h:m≠j):sgN j * sgN (unskN j m)= -(sgN m * sgN (unskN m j)):=by
 unfold unskN;rcases Nat.lt_or_gt_of_ne h with g | g
 ·obtain ⟨k,rfl⟩:∃k,j=k+1:=⟨j - 1,by omega⟩;rw [if_pos g,if_neg (by omega),show k+1 - 1=k from rfl,Zqm];grind
 ·obtain ⟨k,rfl⟩:∃k,m=k+1:=⟨m - 1,by omega⟩;rw [if_neg (by omega),if_pos g,show k+1 - 1=k from rfl,Zqm];grind
theorem sumN_skip (h:Nat→Rat) (j:Nat):∀n,j < n+1→Z6 h n=Z6 (fun m=>if m=j then 0 else h (unskN j m)) (n+1)
 | 0,hj=>by
  obtain rfl:j=0:=by omega
  rw [Y4,ZF,Y4,if_pos rfl];grind
 | n+1,hj=>by
  rcases JX j (n+1) with g | g
  ·rw [ZF,sumN_skip h j n g,ZF _ (n+1),if_neg (by omega)]
   unfold unskN;rw [if_neg (by omega)];rfl
  ·obtain rfl:j=n+1:=by omega
   rw [ZF _ (n+1),if_pos rfl,Rat.add_zero]
   exact Zp fun i hi=>by rw [if_neg (by omega)];unfold unskN;rw [if_pos hi]
def detR:Nat→Mx→(Nat→Nat)→Rat
 | 0,_,_=>1
 | n+1,R,C=>Z6 (fun j=>sgN j * R 0 (C j) * detR n (fun i=>R (i+1)) (fun i=>C (skipN j i))) (n+1)
theorem detR_congr:∀(n:Nat) {R S:Mx} {C D:Nat→Nat},(∀r c,r < n→c < n→R r (C c)=S r (D c))→detR n R C=detR n S D
 | 0,_,_,_,_,_=>rfl
 | n+1,R,S,C,D,h=>by
  unfold detR
  exact Zp fun j hj=>by rw [h 0 j (by omega) hj,detR_congr n fun r c hr hc=>h (r+1) (skipN j c) (by omega) (skip_lt hc)]
theorem detR_lin:∀(n:Nat) {R S T:Mx} {C:Nat→Nat} {a:Nat} (k:Rat),a < n→(∀r c,r < n→r≠a→R r c=S r c∧T r c=S r c)→(∀c,R a c=S a c+k * T a c)→detR n R C=detR n S C+k * detR n T C
 | 0,_,_,_,_,_,_,ha,_,_=>absurd ha (by omega)
 | n+1,R,S,T,C,0,k,ha,h1,h2=>by
  unfold detR
  rw [← Xn,← WY]
  exact Zp fun j hj=>by
   rw [h2,detR_congr n (R:=fun i=>R (i+1)) (S:=fun i=>S (i+1)) (D:=fun i=>C (skipN j i)) fun r c hr hc=>(h1 (r+1) _ (by omega) (by omega)).1,
    detR_congr n (R:=fun i=>T (i+1)) (S:=fun i=>S (i+1)) (D:=fun i=>C (skipN j i)) fun r c hr hc=>(h1 (r+1) _ (by omega) (by omega)).2]
   grind
 | n+1,R,S,T,C,a+1,k,ha,h1,h2=>by
  unfold detR
  rw [← Xn,← WY]
  exact Zp fun j hj=>by
   rw [(h1 0 (C j) (by omega) (by omega)).1,(h1 0 (C j) (by omega) (by omega)).2,
    detR_lin n (R:=fun i=>R (i+1)) (S:=fun i=>S (i+1)) (T:=fun i=>T (i+1)) (a:=a) k (by omega) (fun r c hr hne=>h1 (r+1) c (by omega) (by omega)) (fun c=>h2 c)]
   grind
theorem detR_swap0 (n:Nat) (R:Mx) (C:Nat→Nat):detR (n+2) (swapM R 0 1) C= -detR (n+2) R C:=by
 have d:∀(a b:Nat→Rat) (S:Mx),detR (n+2) (fun r=>if r=0 then a else if r=1 then b else S (r - 2)) C=Z6 (fun j=>Z6 (fun m=>if m=j then 0 else sgN j * sgN (unskN j m) * a (C j) * b (C m) * detR n S (fun i=>C (skipN j (skipN (unskN j m) i)))) (n+2)) (n+2):=fun a b S=>by
  show Z6 _ (n+2)=_;refine Zp fun j hj=>?_
  show _ * _ * Z6 _ (n+1)=_;rw [← Xn,sumN_skip _ j (n+1) hj];refine Zp fun m hm=>?_
  by_cases e:m=j
  ·rw [if_pos e,if_pos e]
  ·rw [if_neg e,if_neg e];simp only [skip_unsk e];rw [detR_congr n (S:=S) (D:=fun i=>C (skipN j (skipN (unskN j m) i))) fun r c hr hc=>by
    show (if r+1+1=0 then a else if r+1+1=1 then b else S (r+1+1 - 2)) _=_;rw [if_neg (by omega),if_neg (by omega)];rfl]
   show sgN j * a (C j) * (sgN (unskN j m) * b (C m) * _)=_;grind
 have e1:detR (n+2) (swapM R 0 1) C=detR (n+2) (fun r=>if r=0 then R 1 else if r=1 then R 0 else (fun i=>R (i+2)) (r - 2)) C:=detR_congr _ fun r c hr hc=>by
  unfold swapM;by_cases g:r=0
  ·rw [if_pos g,if_pos g]
  ·by_cases g2:r=1
   ·rw [if_neg g,if_pos g2,if_neg g,if_pos g2]
   ·rw [if_neg g,if_neg g2,if_neg g,if_neg g2];show R r _=R (r - 2+2) _;rw [show r - 2+2=r by omega]
 have e2:detR (n+2) R C=detR (n+2) (fun r=>if r=0 then R 0 else if r=1 then R 1 else (fun i=>R (i+2)) (r - 2)) C:=detR_congr _ fun r c hr hc=>by
  by_cases g:r=0
  ·rw [if_pos g,g]
  ·by_cases g2:r=1
   ·rw [if_neg g,if_pos g2,g2]
   ·rw [if_neg g,if_neg g2];show R r _=R (r - 2+2) _;rw [show r - 2+2=r by omega]
 rw [e1,e2,d (R 1) (R 0) (fun i=>R (i+2)),d (R 0) (R 1) (fun i=>R (i+2)),Ub];rw [show ∀x:Rat,-x=(-1) * x from fun x=>by grind,← Xn];refine Zp fun j hj=>?_
 rw [← Xn];refine Zp fun m hm=>?_
 by_cases e:j=m
 ·rw [if_pos e,if_pos e.symm];grind
 ·rw [if_neg e,if_neg (fun g=>e g.symm),sg_anti (j:=m) (m:=j) e,show (fun i=>C (skipN m (skipN (unskN m j) i)))=(fun i=>C (skipN j (skipN (unskN j m) i))) from funext fun i=>by rw [skip_comm e]];grind
theorem swapM_tail (R:Mx) (a b:Nat):(fun i=>swapM R (a+1) (b+1) (i+1))=swapM (fun i=>R (i+1)) a b:=by
 funext i
 unfold swapM;by_cases g:i=a
 ·rw [if_pos g,if_pos (by omega)]
 ·by_cases g2:i=b
  ·rw [if_neg g,if_pos g2,if_neg (by omega),if_pos (by omega)]
  ·rw [if_neg g,if_neg g2,if_neg (by omega),if_neg (by omega)]
theorem detR_swap1:∀(n:Nat) (R:Mx) (C:Nat→Nat) (a:Nat),a+1 < n→detR n (swapM R a (a+1)) C= -detR n R C
 | 0,_,_,_,h=>absurd h (by omega)
 | 1,_,_,_,h=>absurd h (by omega)
 | n+2,R,C,0,_=>detR_swap0 n R C
 | n+2,R,C,a+1,h=>by
  show Z6 _ (n+2)= -Z6 _ (n+2)
  rw [show ∀x:Rat,-x=(-1) * x from fun x=>by grind,← Xn]
  refine Zp fun j hj=>?_
  rw [swapM_tail,detR_swap1 (n+1) (fun i=>R (i+1)) (fun i=>C (skipN j i)) a (by omega),show swapM R (a+1) (a+1+1) 0=R 0 by unfold swapM;rw [if_neg (by omega),if_neg (by omega)]]
  grind
theorem swapM_three (R:Mx) {a b:Nat} (h:a < b):swapM R a (b+1)=swapM (swapM (swapM R b (b+1)) a b) b (b+1):=by
 funext r
 unfold swapM
 repeat' split
 all_goals first | rfl | (exfalso;omega) | (congr 1 <;> omega)
theorem detR_swap (n:Nat) (C:Nat→Nat):∀(d:Nat) (R:Mx) (a:Nat),a+d+1 < n→detR n (swapM R a (a+d+1)) C= -detR n R C
 | 0,R,a,h=>detR_swap1 n R C a h
 | d+1,R,a,h=>by
  rw [show a+(d+1)+1=(a+d+1)+1 by omega,swapM_three R (by omega),detR_swap1 n _ C _ (by omega),detR_swap n C d _ a (by omega),detR_swap1 n _ C _ (by omega)]
  grind
theorem detR_anti {n a b:Nat} (R:Mx) (C:Nat→Nat) (ha:a < n) (hb:b < n) (h:a≠b):detR n (swapM R a b) C= -detR n R C:=by
 rcases Nat.lt_or_gt_of_ne h with g | g
 ·obtain ⟨d,rfl⟩:∃d,b=a+d+1:=⟨b - a - 1,by omega⟩;exact detR_swap n C d R a hb
 ·obtain ⟨d,rfl⟩:∃d,a=b+d+1:=⟨a - b - 1,by omega⟩;rw [Zke];exact detR_swap n C d R b ha
theorem detR_same {n a b:Nat} {R:Mx} {C:Nat→Nat} (ha:a < n) (hb:b < n) (h:a≠b) (e:∀c,R a c=R b c):detR n R C=0:=by
 have h1:=detR_anti R C ha hb h;have h2:swapM R a b=R:=by
  funext r c;unfold swapM
  by_cases g:r=a
  ·rw [if_pos g,g,e]
  ·by_cases g2:r=b
   ·rw [if_neg g,if_pos g2,g2,e]
   ·rw [if_neg g,if_neg g2]
 rw [h2] at h1;grind
theorem detR_rowF (n:Nat):Ztw n (fun M=>detR n M fun i=>i) where
 congr:=fun h=>detR_congr n h
 swap:=fun A _ _ ha hb h=>detR_anti A _ ha hb h
 add:=fun A a b k ha hb h=>by
  show detR n _ _=detR n A _
  rw [detR_lin n (R:=fun r c=>if r=a then A r c+k * A b c else A r c) (S:=A) (T:=fun r=>if r=a then A b else A r) (a:=a) k ha (fun r c _ hne=>⟨if_neg hne,by rw [if_neg hne]⟩) (fun c=>by rw [if_pos rfl,if_pos rfl]),
   detR_same (R:=fun r=>if r=a then A b else A r) (a:=a) (b:=b) ha hb h fun c=>by simp only [if_pos rfl,if_neg (fun g:b=a=>h g.symm)];rfl]
  grind
 scale:=fun A a k ha=>by
  show detR n _ _=k * detR n A _
  rw [detR_lin n (R:=fun r c=>if r=a then k * A r c else A r c) (S:=fun r c=>if r=a then 0 else A r c) (T:=A) (a:=a) k ha (fun r c _ hne=>⟨by rw [if_neg hne,if_neg hne],by rw [if_neg hne]⟩) (fun c=>by rw [if_pos rfl,if_pos rfl];grind)]
  have:detR n (fun r c=>if r=a then 0 else A r c) (fun i=>i)=0:=by
   have h1:=detR_lin n (R:=fun r c=>if r=a then 0 else A r c) (S:=fun r c=>if r=a then 0 else A r c) (T:=fun r c=>if r=a then 0 else A r c) (C:=fun i=>i) (a:=a) 1 ha (fun r c _ _=>⟨rfl,rfl⟩) (fun c=>by rw [if_pos rfl];grind);grind
  rw [this];grind
def prodN (f:Nat→Rat):Nat→Rat
 | 0=>1
 | n+1=>prodN f n * f n
theorem prodN_congr {f g:Nat→Rat}:∀{n:Nat},(∀i,i < n→f i=g i)→prodN f n=prodN g n
 | 0,_=>rfl
 | n+1,h=>by unfold prodN;rw [prodN_congr fun i hi=>h i (by omega),h n (by omega)]
theorem prodN_head (f:Nat→Rat):∀n,prodN f (n+1)=f 0 * prodN (fun i=>f (i+1)) n
 | 0=>by simp only [prodN];grind
 | n+1=>by
  rw [show prodN f (n+1+1)=prodN f (n+1) * f (n+1) from rfl,prodN_head f n,show prodN (fun i=>f (i+1)) (n+1)=prodN (fun i=>f (i+1)) n * f (n+1) from rfl];grind
theorem detR_lower:∀(n:Nat) {R:Mx} {C:Nat→Nat},(∀r c,r < n→c < n→r < c→R r (C c)=0)→detR n R C=prodN (fun r=>R r (C r)) n
 | 0,_,_,_=>rfl
 | n+1,R,C,h=>by
  unfold detR
  rw [Xh (k:=0) (by omega) fun i hi hne=>by rw [h 0 i (by omega) hi (by omega)];grind,prodN_head,
   detR_lower n fun r c hr hc hlt=>h (r+1) (skipN 0 c) (by omega) (skip_lt hc) (by unfold skipN;rw [if_neg (by omega)];omega)]
  have:∀i,skipN 0 i=i+1:=fun i=>by unfold skipN;rw [if_neg (by omega)]
  simp only [this]
  rw [show sgN 0=1 from rfl];grind
theorem prodN_one:∀n,prodN (fun _=>1) n=1
 | 0=>rfl
 | n+1=>by unfold prodN;rw [prodN_one n];grind
theorem detR_id (n:Nat):detR n idM (fun i=>i)=1:=by
 rw [detR_lower n fun r c _ _ h=>by unfold idM;rw [if_neg (by omega)],prodN_congr (g:=fun _=>1) fun i _=>by unfold idM;rw [if_pos rfl],prodN_one]
theorem detR_eq {n:Nat} {M:Mx} (hi:XA n (trM M)):detR n M (fun i=>i)=Zfa n M:=by
 rw [(detR_rowF n).eq hi,detR_id];grind
def mulX (n:Nat) (A E:Mx):Mx:=fun r c=>Z6 (fun s=>A r s * E s c) n
theorem mulX_rowF (n:Nat) (E:Mx) {F:Mx→Rat} (h:Ztw n F):Ztw n (fun A=>F (mulX n A E)) where
 congr:=fun e=>h.congr fun r c hr _=>Zp fun s hs=>by rw [e r s hr hs]
 swap:=fun A a b ha hb hne=>by
  refine Eq.trans (h.congr fun r c _ _=>?_) (h.swap (mulX n A E) ha hb hne)
  unfold mulX swapM
  by_cases g:r=a
  ·simp only [if_pos g]
  ·by_cases g2:r=b
   ·simp only [if_neg g,if_pos g2]
   ·simp only [if_neg g,if_neg g2]
 add:=fun A a b k ha hb hne=>by
  refine Eq.trans (h.congr fun r c _ _=>?_) (h.add (mulX n A E) k ha hb hne)
  unfold mulX
  by_cases g:r=a
  ·simp only [if_pos g]
   rw [← Xn,← WY]
   exact Zp fun s _=>by grind
  ·simp only [if_neg g]
 scale:=fun A a k ha=>by
  refine Eq.trans (h.congr fun r c _ _=>?_) (h.scale (mulX n A E) k ha)
  unfold mulX
  by_cases g:r=a
  ·simp only [if_pos g]
   rw [← Xn]
   exact Zp fun s _=>by grind
  ·simp only [if_neg g]
theorem Ztw.mul {n:Nat} {F:Mx→Rat} (h:Ztw n F) {A:Mx} (hi:XA n (trM A)) (E:Mx):F (mulX n A E)=Zfa n A * F E:=by
 rw [(mulX_rowF n E h).eq hi,h.congr (A:=mulX n idM E) (B:=E) fun r c hr _=>by
  unfold mulX idM;rw [Xh hr fun i _ hne=>by rw [if_neg (fun g=>hne g.symm)];grind,if_pos rfl];grind]
def SgnP (n:Nat) (P:Nat→Nat) (s:Rat):Prop:=(s=1∨s= -1)∧∀F:Mx→Rat,Ztw n F→∀A:Mx,F (fun r=>A (P r))=s * F A
theorem upper_dN {n:Nat} {U:Mx} (h0:∀r c,r < n→c < n→c < r→U r c=0) (h1:∀r,r < n→U r r≠0):∀k,k≤n→∃N:Mx,dN U n k=some (N,prodN (fun r=>U r r) k)∧∀r c,r < n→c < n→N r c=U r c
 | 0,_=>⟨U,rfl,fun _ _ _ _=>rfl⟩
 | k+1,hk=>by
  obtain ⟨N,e,hN⟩:=upper_dN h0 h1 k (by omega)
  have hp:X6 N k n=some k:=Zjv (JY _) (by omega) (by rw [hN k k (by omega) (by omega)];exact h1 k (by omega)) fun s h1 h2=>absurd h2 (by omega)
  refine ⟨lowE N k n n,?_,fun r c hr hc=>?_⟩
  ·simp only [dN,e,Znn,hp]
   rw [Zcb,hN k k (by omega) (by omega)];simp only [if_true];rfl
  ·unfold lowE
   by_cases g:k < r∧r < n∧k≤c∧c < n
   ·rw [if_pos g,hN r c hr hc,hN r k hr (by omega),h0 r k hr (by omega) g.1];grind
   ·rw [if_neg g,hN r c hr hc]
theorem upper_detQ {n:Nat} {U:Mx} (h0:∀r c,r < n→c < n→c < r→U r c=0) (h1:∀r,r < n→U r r≠0):Zfa n U=prodN (fun r=>U r r) n:=by
 obtain ⟨N,e,_⟩:=upper_dN h0 h1 n (JY _);unfold Zfa;rw [e]
def ordM (C:Nat→Nat):Mx:=fun r k=>if r=C k then 1 else 0
theorem Zeu.det {n:Nat} {A:Mx} {R C:Nat→Nat} {L U:Mx} (h:Zeu n A R C L U) {sR sC:Rat} (hR:SgnP n R sR) (hC:SgnP n C sC):Zfa n A=sR * sC * prodN (fun k=>U k k) n:=by
 have hD:=detR_rowF n;have hA:XA n (trM A):=h.indep
 -- L by rows
 have hL:XA n (trM fun p s=>L s p):=fun z hz=>Zjz h.l0 h.l1 fun p hp=>by have:=hz p hp;exact this
 have a:Zfa n (fun p s=>L s p)=1:=by
  rw [← detR_eq hL,detR_lower n fun r c hr hc hlt=>h.l0 c r hc hr hlt,prodN_congr (g:=fun _=>1) fun i hi=>h.l1 i hi,prodN_one]
 have hU:XA n (trM fun s k=>U k s):=fun z hz=>Zka h.u0 h.u1 fun s hs=>by have:=hz s hs;exact this
 have b:Zfa n (fun s k=>U k s)=prodN (fun k=>U k k) n:=upper_detQ (fun r c hr hc hlt=>h.u0 c r hc hr hlt) h.u1;have e1:detR n (fun p k=>A (R p) (C k)) (fun i=>i)=prodN (fun k=>U k k) n:=by
  rw [hD.congr (B:=mulX n (fun p s=>L s p) (fun s k=>U k s)) fun p k hp hk=>h.eq p k hp hk];refine (hD.mul hL _).trans ?_;rw [a];show 1 * detR n (fun s k=>U k s) (fun i=>i)=_;rw [detR_eq hU,b];grind
 have hQ:detR n (ordM C) (fun i=>i)=sC:=by
  have h1:=hC.2 _ hD (ordM C);have h2:detR n (fun r=>ordM C (C r)) (fun i=>i)=detR n idM (fun i=>i):=by
   refine detR_congr n fun r c hr hc=>?_
   unfold ordM idM;by_cases g:r=c
   ·rw [if_pos g,if_pos (by rw [g])]
   ·rw [if_neg g,if_neg fun e=>g (h.ci.eq hr hc e)]
  have h3:detR n (fun r=>ordM C (C r)) (fun i=>i)=sC * detR n (ordM C) (fun i=>i):=h1;rw [h2,detR_id] at h3;rcases hC.1 with e | e
  ·rw [e] at h3 ⊢;grind
  ·rw [e] at h3 ⊢;grind
 have e2:detR n (fun p k=>A (R p) (C k)) (fun i=>i)=sR * (Zfa n A * sC):=by
  have h1:detR n (fun p=>mulX n A (ordM C) (R p)) (fun i=>i)=sR * detR n (mulX n A (ordM C)) (fun i=>i):=hR.2 _ hD _;have h2:detR n (mulX n A (ordM C)) (fun i=>i)=Zfa n A * detR n (ordM C) (fun i=>i):=hD.mul hA _;rw [h2,hQ] at h1;rw [← h1];refine detR_congr n fun p k hp hk=>?_
  unfold mulX ordM;rw [Xh (h.ci.1 k hk) fun i _ hne=>by rw [if_neg hne];grind,if_pos rfl];grind
 rw [e1] at e2;rcases hR.1 with g1 | g1 <;> rcases hC.1 with g2 | g2 <;> rw [g1,g2] at e2 ⊢ <;> grind
theorem detQ_rep {n k:Nat} {cols:Mx} {v im:Nat→Rat} (hk:k < n) (hi:XA n cols) (him:∀r,r < n→XV n cols im r=v r) (h0:im k≠0):
 Zfa n (trM (Zgu cols k v))=Zfa n (trM cols) * im k:=by
 have hD:=detR_rowF n;have a:=Zne hk hi him h0;have eE:∀s,s≤n→detR n (fun r c=>if r≠k∧r < s∧c=k then im r else if r=k then im k * idM r c else idM r c) (fun i=>i)=im k:=by
  intro s
  induction s with
  | zero=>
   intro _;rw [detR_congr n (S:=fun r c=>if r=k then im k * idM r c else idM r c) (D:=fun i=>i) fun r c _ _=>if_neg (by omega)];refine (hD.scale idM (im k) hk).trans ?_;show im k * detR n idM (fun i=>i)=_;rw [detR_id];grind
  | succ s ih=>
   intro hs;by_cases g:s=k
   ·refine Eq.trans ?_ (ih (by omega));exact detR_congr n fun r c _ _=>by
     by_cases g2:r≠k∧r < s+1∧c=k
     ·rw [if_pos g2,if_pos ⟨g2.1,by omega,g2.2.2⟩]
     ·rw [if_neg g2,if_neg (c:=r≠k∧r < s∧c=k) (by omega)]
   ·refine Eq.trans ?_ (ih (by omega));refine Eq.trans (detR_congr n fun r c hr hc=>?_) (hD.add (fun r c=>if r≠k∧r < s∧c=k then im r else if r=k then im k * idM r c else idM r c) (im s / im k) (show s < n by omega) hk g);by_cases g1:r=s
    ·subst g1;rw [if_pos rfl];have x1:(if r≠k∧r < r∧c=k then im r else if r=k then im k * idM r c else idM r c)=idM r c:=(by rw [if_neg (by omega),if_neg g]);have x2:(if k≠k∧k < r∧c=k then im k else if k=k then im k * idM k c else idM k c)=im k * idM k c:=(by rw [if_neg (by omega),if_pos rfl]);rw [x1,x2];by_cases g3:c=k
     ·rw [if_pos ⟨g,by omega,g3⟩];subst g3;unfold idM;rw [if_neg g,if_pos rfl];grind
     ·rw [if_neg (by omega),if_neg g];unfold idM;rw [if_neg (c:=k=c) (fun x=>g3 x.symm)];grind
    ·rw [if_neg g1];by_cases g2:r≠k∧r < s+1∧c=k
     ·rw [if_pos g2,if_pos ⟨g2.1,by omega,g2.2.2⟩]
     ·rw [if_neg g2,if_neg (c:=r≠k∧r < s∧c=k) (by omega)]
 have e1:detR n (fun r c=>if c=k then im r else idM r c) (fun i=>i)=im k:=by
  rw [← eE n (JY _)];refine detR_congr n fun r c hr hc=>?_
  by_cases g:c=k
  ·rw [if_pos g];by_cases g2:r=k
   ·rw [if_neg (by omega),if_pos g2,g,g2];unfold idM;rw [if_pos rfl];grind
   ·rw [if_pos ⟨g2,hr,g⟩]
  ·rw [if_neg g,if_neg (by omega)];by_cases g2:r=k
   ·rw [if_pos g2];unfold idM;rw [if_neg (by omega)];grind
   ·rw [if_neg g2]
 rw [← detR_eq (M:=trM (Zgu cols k v)) a];rw [detR_congr n (S:=mulX n (trM cols) fun r c=>if c=k then im r else idM r c) (D:=fun i=>i) fun r c hr hc=>?_]
 ·refine (hD.mul (A:=trM cols) hi _).trans ?_;show _ * detR n _ _=_;rw [e1]
 ·unfold mulX trM Zgu;by_cases g:c=k
  ·rw [if_pos g];show v r=_;rw [← him r hr];exact Zp fun s _=>by
    show _=cols s r * (if c=k then im s else idM s c);rw [if_pos g]
  ·rw [if_neg g];refine Eq.symm (Eq.trans (Xh hc fun i _ hne=>?_) ?_)
   ·show cols i r * (if c=k then im i else idM i c)=0;rw [if_neg g];unfold idM;rw [if_neg hne];grind
   ·show cols c r * (if c=k then im c else idM c c)=cols c r;rw [if_neg g];unfold idM;rw [if_pos rfl];grind
theorem Zwn.zero (n:Nat) (P:Nat→Nat):Zwn n P (fun _=>false) 1 where
 pm:=Or.inl rfl
 pre:=fun _ _ h=>absurd h (by decide)
 sg:=fun F hF A=>by
  rw [Rat.one_mul];exact hF.congr fun r c _ _=>by rw [if_neg (by decide)]
theorem Zvl.done {n:Nat} {P:Nat→Nat} {sn:Nat→Bool} {i z l:Nat} {s:Rat} (h:Zvl n P sn i z l s) (hP:Inj n n P) (h0:sn (P z)=true):Zwn n P sn (s * sgN (l+1)):=by
 have a:=hP.1 z h.zl;have hi:P z=i:=Classical.byContradiction fun g=>by
  obtain ⟨q,h1,_,h3,h4⟩:=h.pre (P z) a h0 g;exact h3 (hP.eq h1 h.zl h4)
 refine ⟨?_,fun r hr hs=>?_,fun F hF A=>?_⟩
 ·unfold sgN;rcases h.pm with e | e <;> rw [e] <;> split <;> grind
 ·by_cases e:r=i
  ·exact ⟨z,h.zl,h.zs,by rw [e,hi]⟩
  ·obtain ⟨q,h1,h2,_,h4⟩:=h.pre r hr hs e;exact ⟨q,h1,h2,h4⟩
 ·rw [← h.sg F hF A];refine hF.congr fun r c _ _=>?_
  by_cases e:r=z
  ·rw [e,h.zs,if_pos rfl,if_pos rfl,if_pos rfl,hi]
  ·rw [if_neg e]
theorem Zwn.all {n:Nat} {P:Nat→Nat} {sn:Nat→Bool} {s:Rat} (h:Zwn n P sn s) (ha:∀r,r < n→sn r=true):SgnP n P s:=
 ⟨h.pm,fun F hF A=>by rw [← h.sg F hF A];exact hF.congr fun r c hr _=>by rw [ha r hr,if_pos rfl]⟩
end Pl
theorem bolL_length (n:Nat) (f:Nat→Bool):(Zwo n f).length=n:=by simp [Zwo]
theorem bolL_set {n k:Nat} {f:Nat→Bool} (h:k < n):(Zwo n f).set k (.bool true)=Zwo n (Zqn f k):=by
 refine List.ext_getElem? fun i=>?_
 rcases JX i n with e | e
 ·rw [List.getElem?_set,bolL_length];by_cases c:k=i
  ·subst c;rw [if_pos rfl,if_pos h,Zqo e,UF]
  ·rw [if_neg c,Zqo e,Zqo e,VF (Ne.symm c)]
 ·rw [JU (by rw [List.length_set,bolL_length];exact e),JU (by rw [bolL_length];exact e)]
theorem Zvm.set_ [Old] {base:Nat} {w:World} {g n c:Nat} {f:Nat→Bool} (h:Zvm base w (.slice (some ⟨g,0,none⟩) n c) n f) {k:Nat} (hk:k < n) (hO:Old.n≤base:=by first | assumption | exact Nat.zero_le _ | omega | ((first | with_reducible refine Zb.le ?_ | with_reducible refine Zb.le1 ?_ | with_reducible refine Zb.le2 ?_ | with_reducible refine Zb.le3 ?_);repeat (first | assumption | exact Zb.up (by assumption) hOl | exact Zb.up (Hid.out (by assumption)) hOl | with_reducible refine Zb.set ?_ _ _ | with_reducible refine Zb.mk_ ?_ _ | with_reducible refine Zb.dr ?_ | with_reducible refine Zb.drN ?_ | refine Zb.up (by assumption) ?_ | refine Zb.up (Hid.out (by assumption)) ?_))):Zvm base (w.setCell ⟨g,k,none⟩ (.bool true)) (.slice (some ⟨g,0,none⟩) n c) n (Zqn f k)∧Zk 4 w (w.setCell ⟨g,k,none⟩ (.bool true)):=by
 have o1:=YJ h k (.bool true) (by rw [bolL_length];exact hk);rw [bolL_set hk] at o1;obtain ⟨_,b0,_⟩:=ZI h;exact ⟨o1,Zk.setCell b0 k _⟩
def zbc (n:Nat):Array Value:=madeCells (Value.cells (.bool false)) (n * 1)
theorem zbc_at {n k:Nat} (hk:k < n):(zbc n)[k]? =some (.bool false):=by
 unfold zbc madeCells;simp [hk,Value.cells,Nat.mod_one]
theorem Zvm.zeros (w:World) (n:Nat) (hn:n≤maxLen):Zvm w.heap.size (w.alloc (.cells (zbc n) 4)) (.slice (some ⟨w.heap.size,0,none⟩) n n) n (fun _=>false):=by
 have a:(zbc n).size=n * 1:=size_madeCells _ _;refine ⟨by simp [bolL_length],.inr ⟨w.heap.size,n,zbc n,by simp,JY _,heap_alloc_new w _,by simp,hn,by simpa using a,?_⟩⟩;refine List.ext_getElem? fun i=>?_
 rcases JX i n with e | e
 ·have:=zbc_at e;rw [Zqo e];simp [List.getElem?_take,e,this]
 ·rw [JU (by simp [a];omega),JU (by rw [bolL_length];omega)]
theorem info_boolT:(Tryz.prog.info? 4).map (fun i=>(i.zero,i.size,i.bytes))=some (some (.bool false),1,1):=by kernel_rfl
theorem make_bools (n:Nat) (hn:n≤1099511627776) (w:World):
 (Instr.makeSlice 112 (.int .i64 (n:Int)) (.int .i64 (n:Int))).run Tryz.prog w= .ok (.slice (some ⟨w.heap.size,0,none⟩) n n) (w.alloc (.cells (zbc n) 4)):=by
 obtain ⟨i0,hi,a,b,c⟩:=info_parts info_boolT;have hb:(i0.bytes:Int) * (n:Int)≤281474976710656:=by rw [c];omega
 have hr:=run_make (P:=Tryz.prog) w 112 4 i0 _ Tryz.underlying112 hi a .i64 .i64 n n (by omega) (by omega) hb (by omega);simp only [JP,b] at hr;exact hr
namespace Pl
theorem cntF_le (f:Nat→Bool):∀n,cntF f n≤n
 | 0=>JY _
 | n+1=>by unfold cntF;have:=cntF_le f n;split <;> omega
end Pl
namespace Pl
theorem XA.uniq {n:Nat} {cols:Mx} {x y b:Nat→Rat} (hi:XA n cols) (hx:∀r,r < n→XV n cols x r=b r) (hy:∀r,r < n→XV n cols y r=b r):∀k,k < n→x k=y k:=by
 obtain ⟨z,hz,h1⟩:=Znd hi hx;obtain ⟨z',a,h2⟩:=Znd hi hy;rw [hz] at a;injection a with e;subst e;exact fun k hk=>by rw [← h1 k hk,h2 k hk]
end Pl
theorem Zwy.below [Old] {w w':World} {g off n:Nat} {R C:Nat→Nat} {L U:Mx} (h:Zwy w g off n R C L U) (hb:Below w.heap.size w w'):Zwy w' g off n R C L U:=by
 obtain ⟨A0,c0,A1,c1,A2,c2,A3,c3,⟨k0,k1,k2,k3⟩,i0,i1,i2,i3⟩:=h;exact ⟨A0,c0,A1,c1,A2,c2,A3,c3,⟨ZH hb k0,ZH hb k1,ZH hb k2,ZH hb k3⟩,i0.below hb,i1.below hb,i2.below hb,i3.below hb⟩
section
attribute [local irreducible] Yi
end
section
attribute [local irreducible] Yi
end
theorem sameVec1_any [Old] (v1 v2:Value) (es:List En) (w:World) (h:Wy w v1 es) (h2:Wy w v2 es) (hOl:Zb w:=by (repeat (first | assumption | exact Zb.up (by assumption) hOl | exact Zb.up (Hid.out (by assumption)) hOl | with_reducible refine Zb.set ?_ _ _ | with_reducible refine Zb.mk_ ?_ _ | with_reducible refine Zb.dr ?_ | with_reducible refine Zb.drN ?_ | refine Zb.up (by assumption) ?_ | refine Zb.up (Hid.out (by assumption)) ?_))):
 Calls Tryz.prog 18 #[v1,v2] w fun o w'=>o= .returned (.bool true)∧Below w.heap.size w w':=by
 have s:=hOl.le;obtain ⟨A,c,rfl,hc,u⟩:=h.shape;obtain ⟨B,d,rfl,hd,y⟩:=h2.shape;have HI:=JZ h;have HJ:=JZ h2;obtain ⟨n,hn⟩:∃n,n=es.length:=⟨_,rfl⟩;have HN:=JZ hn;rw [← hn] at hc hd ⊢;clear h h2 hn;go_enter Tryz.func18,Tryz.ntmps18;go_wp2
 go_loopw [5] (fun x wr=>∃k:Nat,k≤n∧x= .int .i64 k∧Below w.heap.size w wr) (fun x _=>n - (intOf x).toNat)
 case atStart=>exact ⟨0,by omega,rfl,JR _ _⟩
 case round=>
  obtain ⟨k,hk,rfl,hb⟩:=hrel;rcases JX k n with hkl | hkl
  ·have t:(k:Int) < n:=(by omega);obtain ⟨e,he⟩:=YS (es:=es) (i:=k) (by rw [← HN.out];exact hkl);obtain ⟨b5,o5,A5,n5,c5,A6,n6,c6,q,_,⟨x0,x1,x2,x3,x4⟩,j⟩:=HI.out.elem hb he;obtain ⟨b7,o7,A7,n7,c7,A8,n8,c8,r,_,⟨u0,u1,u2,u3,u4⟩,l⟩:=HJ.out.elem hb he;subst q r;clear he
   go_upto_region 6 with (fail)
   have C0:=Zr x0;have C1:=Zr x1;have C2:=Zr x2;have C3:=Zr x3;have C4:=Zr x4;have D0:=Zr u0;have D1:=Zr u1;have D2:=Zr u2;have D3:=Zr u3;have D4:=Zr u4;have a:=Zj wr;have hq:(e.idx !=e.idx)=false:=(by simp);clear x0 x1 x2 x3 x4 u0 u1 u2 u3 u4;refine Zt 25 [0,1,2,3,4,5,6,7,8,9,10,11,12,13,14,15,16,17,18,19,20,21,22,23,24] (by kernel_rfl) (by kernel_rfl) ?_;repeat ((first | (refine Zc (v:=?_) rfl rfl rfl ?_ ?_;rotate_left;(· (intro _ g;go_simp;(try go_bits);(try with_reducible rfl)))) | (refine Ze (v:=?_) rfl rfl rfl ?_ ?_;rotate_left;(· (intro _ g;go_simp;(try go_bits);(try with_reducible rfl)))) | refine Zf rfl rfl rfl ?_ | refine Ug rfl rfl rfl (by assumption) ?_);(try simp only [Act.put,pu1,pu2,pu3,pu4,pu5,pu6]))
   refine Zg rfl rfl (fun KR hKR=>?_);go_simp;(with_reducible refine (Zkt _ _ e.f e.f _ (j.below a) (l.below a)).mono ?_);rw [Zjr];rintro _ w6 ⟨rfl,m⟩;have b:=Za a m a.size;refine hKR.out _ _ (Or.inr b) ?_;clear hKR KR;(try simp only [Act.put,pu1,pu2,pu3,pu4,pu5,pu6]);repeat ((first | (refine Zc (v:=?_) rfl rfl rfl ?_ ?_;rotate_left;(· (intro _ g;go_simp;(try go_bits);(try with_reducible rfl)))) | (refine Ze (v:=?_) rfl rfl rfl ?_ ?_;rotate_left;(· (intro _ g;go_simp;(try go_bits);(try with_reducible rfl)))) | refine Zf rfl rfl rfl ?_ | refine Ug rfl rfl rfl (by assumption) ?_);(try simp only [Act.put,pu1,pu2,pu3,pu4,pu5,pu6]))
   refine Zv ?_;have p:=Za hb b hb.size;clear C0 C1 C2 C3 C4 D0 D1 D2 D3 D4 hb a b m j l;go_wp2;go_roundw
   case rel=>exact ⟨k+1,by omega,by go_num,p⟩
   case measure=>simp [intOf];omega
  ·obtain rfl:n=k:=by omega
   go_wp2;go_ret;exact ⟨rfl,hb⟩
section
attribute [local irreducible] Yi
end
theorem bcolumn_own [Old] (base bi g n K:Nat) (Cs:Mx) (j:Nat) (w:World) (hB:Zse base bi w g n K Cs) (hj:j < n) (hOl:Zb w:=by (repeat (first | assumption | exact Zb.up (by assumption) hOl | exact Zb.up (Hid.out (by assumption)) hOl | with_reducible refine Zb.set ?_ _ _ | with_reducible refine Zb.mk_ ?_ _ | with_reducible refine Zb.dr ?_ | with_reducible refine Zb.drN ?_ | refine Zb.up (by assumption) ?_ | refine Zb.up (Hid.out (by assumption)) ?_))) (hO:Old.n≤base:=by first | assumption | exact Nat.zero_le _ | omega | ((first | with_reducible refine Zb.le ?_ | with_reducible refine Zb.le1 ?_ | with_reducible refine Zb.le2 ?_ | with_reducible refine Zb.le3 ?_);repeat (first | assumption | exact Zb.up (by assumption) hOl | exact Zb.up (Hid.out (by assumption)) hOl | with_reducible refine Zb.set ?_ _ _ | with_reducible refine Zb.mk_ ?_ _ | with_reducible refine Zb.dr ?_ | with_reducible refine Zb.drN ?_ | refine Zb.up (by assumption) ?_ | refine Zb.up (Hid.out (by assumption)) ?_))):
 Calls Tryz.prog 15 #[.pointer (some ⟨g,0,none⟩),.int .i64 (j:Int)] w fun o w'=>∃v',o= .returned (.tuple #[v',.int .i64 0])∧Wz w.heap.size w' v' (spV (Cs j) n)∧Below w.heap.size w w':=by
 have u:=hOl.le;obtain ⟨T,gc,cc,k,R,C,im,V,L,Um,CC,s0,s1,s2,s3,vu,hX,⟨r,hT,hE,h⟩,hU,hF,hO,-⟩:=hB;have y0:w.cell? ⟨g,0,none⟩=some (.int .i64 (n:Int)):=hX.cellAt 0 rfl;have y1:=hX.cellAt 1 rfl;have v:=hF.n7;have p:Hid (∀i,i < n→Sz K (Cs j i)):=JZ fun i hi=>by rw [← h];exact hU.sz T (JY _) i j hi hj
 have q:Hid (K≤4000000):=JZ (JW (Nat.le_mul_of_pos_left K (Nat.pow_pos (by decide))) hE);obtain ⟨b5,o5,A5,c5,a,_,x0,hm⟩:=hO.vecs.elem (JR _ _) (Zbb (L:=Cs) hj);injection a with a;injection a with a hA6;subst a hA6;simp only [Nat.zero_add] at x0;have b:Hid (∀(k:Nat) (e:En),(spV (Cs j) n)[k]? =some e→e.f.Rs K):=JZ (Zsc p.out);have c:Hid ((spV (Cs j) n).length≤1099511627776):=JZ (by have:=Ve (f:=Cs j) n;omega);have d:Hid (Zla (spV (Cs j) n)=spV (Cs j) n):=JZ (by rw [cpyV_spV (Zqi (Cs j) n)];exact WM fun i hi=>by rw [Zsb,if_pos hi]);obtain ⟨es,l⟩:∃es,spV (Cs j) n=es:=⟨_,rfl⟩;rw [l] at b c d hm x0 ⊢;obtain ⟨ls,m⟩:∃x,es.length=x:=⟨_,rfl⟩;rw [m] at hm x0;have y:(j:Int) < n:=by omega
 have t:decide ((n:Int)≤j)=false:=by simp;omega
 clear hX hU hF h hE hT r hO l m;go_enter Tryz.func15,Tryz.ntmps15;go_wp2_with fail;refine (Zbp _ es K _ hm b.out (by have:=q.out;omega) c.out).mono ?_;rw [d.out];rintro _ w1 ⟨v1,rfl,e1,s⟩;clear y0 y1 x0 hm;go_wp2;go_ret2;exact ⟨_,rfl,e1,s⟩
theorem replace_range [Old] (base bi g n K:Nat) (Cs:Mx) (j:Int) (v:Value) (w:World) (hB:Zse base bi w g n K Cs) (hj:j < 0∨(n:Int)≤j) (h0: -9223372036854775808≤j) (h1:j≤9223372036854775807) (hOl:Zb w:=by (repeat (first | assumption | exact Zb.up (by assumption) hOl | exact Zb.up (Hid.out (by assumption)) hOl | with_reducible refine Zb.set ?_ _ _ | with_reducible refine Zb.mk_ ?_ _ | with_reducible refine Zb.dr ?_ | with_reducible refine Zb.drN ?_ | refine Zb.up (by assumption) ?_ | refine Zb.up (Hid.out (by assumption)) ?_))) (hO:Old.n≤base:=by first | assumption | exact Nat.zero_le _ | omega | ((first | with_reducible refine Zb.le ?_ | with_reducible refine Zb.le1 ?_ | with_reducible refine Zb.le2 ?_ | with_reducible refine Zb.le3 ?_);repeat (first | assumption | exact Zb.up (by assumption) hOl | exact Zb.up (Hid.out (by assumption)) hOl | with_reducible refine Zb.set ?_ _ _ | with_reducible refine Zb.mk_ ?_ _ | with_reducible refine Zb.dr ?_ | with_reducible refine Zb.drN ?_ | refine Zb.up (by assumption) ?_ | refine Zb.up (Hid.out (by assumption)) ?_))):
 Calls Tryz.prog 34 #[.pointer (some ⟨g,0,none⟩),.int .i64 j,v] w fun o w'=>o= .returned (.int .i64 5)∧Below w.heap.size w w':=by
 have b:=hOl.le;obtain ⟨T,gc,cc,k,R,C,im,V,L,Um,CC,s0,s1,s2,s3,vu,hX,-⟩:=hB;have y0:w.cell? ⟨g,0,none⟩=some (.int .i64 (n:Int)):=hX.cellAt 0 rfl;clear hX;by_cases a:j < 0
 ·go_enter Tryz.func34,Tryz.ntmps34;go_wp2;go_ret;exact ⟨rfl,JR _ _⟩
 ·have hd:decide (j < 0)=false:=by simpa using a
  have c:(n:Int)≤j:=by omega
  go_enter Tryz.func34,Tryz.ntmps34;go_wp2;go_ret;exact ⟨rfl,JR _ _⟩
theorem replace_bad [Old] (base bi g n K:Nat) (Cs:Mx) (j:Nat) (v:Value) (es:List En) (w:World) (hB:Zse base bi w g n K Cs) (h:Wy w v es) (hi:EnI es) (he:vecErr es (n:Int)≠0) (hj:j < n) (hOl:Zb w:=by (repeat (first | assumption | exact Zb.up (by assumption) hOl | exact Zb.up (Hid.out (by assumption)) hOl | with_reducible refine Zb.set ?_ _ _ | with_reducible refine Zb.mk_ ?_ _ | with_reducible refine Zb.dr ?_ | with_reducible refine Zb.drN ?_ | refine Zb.up (by assumption) ?_ | refine Zb.up (Hid.out (by assumption)) ?_))) (hO:Old.n≤base:=by first | assumption | exact Nat.zero_le _ | omega | ((first | with_reducible refine Zb.le ?_ | with_reducible refine Zb.le1 ?_ | with_reducible refine Zb.le2 ?_ | with_reducible refine Zb.le3 ?_);repeat (first | assumption | exact Zb.up (by assumption) hOl | exact Zb.up (Hid.out (by assumption)) hOl | with_reducible refine Zb.set ?_ _ _ | with_reducible refine Zb.mk_ ?_ _ | with_reducible refine Zb.dr ?_ | with_reducible refine Zb.drN ?_ | refine Zb.up (by assumption) ?_ | refine Zb.up (Hid.out (by assumption)) ?_))):
 Calls Tryz.prog 34 #[.pointer (some ⟨g,0,none⟩),.int .i64 (j:Int),v] w fun o w'=>o= .returned (.int .i64 (vecErr es (n:Int)))∧Below w.heap.size w w':=by
 have e:=hOl.le;obtain ⟨T,gc,cc,k,R,C,im,V,L,Um,CC,s0,s1,s2,s3,vu,hX,⟨a,hT,hE,b⟩,hU,hF,-⟩:=hB;have y0:w.cell? ⟨g,0,none⟩=some (.int .i64 (n:Int)):=hX.cellAt 0 rfl;have f:=hF.n7;have i:(j:Int) < n:=by omega
 have d:decide ((n:Int)≤j)=false:=by simp;omega
 obtain ⟨q,hq⟩:∃q,vecErr es (n:Int)=q:=⟨_,rfl⟩;have HQ:=JZ hq;have HE:=JZ he;rw [hq] at he ⊢;have l:(q !=0)=true:=by simpa using he
 clear hX hU hF b hE hT a hq he;go_enter Tryz.func34,Tryz.ntmps34;go_wp2_with fail;refine (toDense_err v es (n:Int) _ h hi (by omega) (by omega) HE.out).mono ?_;rw [HQ.out];rintro _ w1 ⟨rfl,c⟩;clear y0 h;go_wp2;go_ret;exact ⟨rfl,c⟩
theorem replace_sing [Old] (base bi g n K:Nat) (Cs:Mx) (v:Value) (es:List En) (k:Nat) (x:Nat→Rat) (w:World) (hB:Zse base bi w g n K Cs) (h:Wy w v es) (hgo:Pl.Good n es) (hrs:∀(k:Nat) (e:En),es[k]? =some e→e.f.Rs K) (hk:k < n)
 (hx:∀r,r < n→XV n Cs x r=XZ es r) (hx0:x k=0) (hOl:Zb w:=by (repeat (first | assumption | exact Zb.up (by assumption) hOl | exact Zb.up (Hid.out (by assumption)) hOl | with_reducible refine Zb.set ?_ _ _ | with_reducible refine Zb.mk_ ?_ _ | with_reducible refine Zb.dr ?_ | with_reducible refine Zb.drN ?_ | refine Zb.up (by assumption) ?_ | refine Zb.up (Hid.out (by assumption)) ?_))) (hO:Old.n≤base:=by first | assumption | exact Nat.zero_le _ | omega | ((first | with_reducible refine Zb.le ?_ | with_reducible refine Zb.le1 ?_ | with_reducible refine Zb.le2 ?_ | with_reducible refine Zb.le3 ?_);repeat (first | assumption | exact Zb.up (by assumption) hOl | exact Zb.up (Hid.out (by assumption)) hOl | with_reducible refine Zb.set ?_ _ _ | with_reducible refine Zb.mk_ ?_ _ | with_reducible refine Zb.dr ?_ | with_reducible refine Zb.drN ?_ | refine Zb.up (by assumption) ?_ | refine Zb.up (Hid.out (by assumption)) ?_))):
 Calls Tryz.prog 34 #[.pointer (some ⟨g,0,none⟩),.int .i64 (k:Int),v] w fun o w'=>o= .returned (.int .i64 13)∧Below w.heap.size w w':=by
 have J:=hOl.le;have HB:=JZ hB;obtain ⟨T,gc,cc,ks,R,C,im,V,L,Um,CC,s0,s1,s2,s3,vu,hX,⟨D,hT,hE,s⟩,hU,hF,-⟩:=hB;have y0:w.cell? ⟨g,0,none⟩=some (.int .i64 (n:Int)):=hX.cellAt 0 rfl;have M:=hF.n7;have d:XA n Cs:=by rw [← s];exact hU.indep T (JY _)
 have u:=JZ d;have z:Hid (1≤K):=JZ (Nat.pos_of_ne_zero fun e=>by have:=hF.e1;subst e;simp at this);have A:Hid (K≤4000000):=JZ (JW (Nat.le_mul_of_pos_left K (Nat.pow_pos (by decide))) hE);have HX:=JZ hx;have B:=JZ hx0;have N:(k:Int) < n:=by omega
 have I:decide ((n:Int)≤k)=false:=by simp;omega
 clear hX hU hF s hE hT D d hx hx0;go_enter Tryz.func34,Tryz.ntmps34;go_wp2_with fail;refine (Zgx v es n K _ h (by omega) hrs (by have:=A.out;omega) hgo).mono ?_;rintro _ w1 ⟨v1,rfl,e1,p⟩;obtain ⟨A1,c1,rfl⟩:=e1.slice;clear y0 h;go_wp2_with fail;refine (Zkr base bi g n K Cs _ (XZ es) _ (HB.out.below p) e1.frs (fun i _=>Sz_col hrs z.out i)).mono ?_;rintro _ w2 ⟨v2,y,rfl,hy,G,e2,t⟩;have l:y k=0:=(u.out.uniq hy HX.out k hk).trans B.out;have O:=JZ l;have j:=Za p t p.size;obtain ⟨b5,o5,B1,n1,k1,B2,n2,k2,E,_,⟨q0,q1,q2,q3⟩,m⟩:∃(b a:Nat) (A1:Option Addr) (n1 k1:Nat) (A2:Option Addr) (n2 k2:Nat),(∃c,v2= .slice (some ⟨b,a,none⟩) n c)∧b < w2.heap.size∧(w2.cell? ⟨b,a+k * 4,none⟩=some (.bool (canF (y k)).num.neg)∧w2.cell? ⟨b,a+k * 4+1,none⟩=some (.slice A1 n1 k1)∧w2.cell? ⟨b,a+k * 4+2,none⟩=some (.bool (canF (y k)).den.neg)∧w2.cell? ⟨b,a+k * 4+3,none⟩=some (.slice A2 n2 k2))∧Zm w2 (.agg #[.bool (canF (y k)).num.neg,.slice A1 n1 k1,.bool (canF (y k)).den.neg,.slice A2 n2 k2]) (canF (y k)):=by
  obtain ⟨A2,c2,e⟩:=e2.slice;rw [Zu] at e;subst e;obtain ⟨b,a,A1,n1,k1,F,n2,k2,hA,h1,h2,h3⟩:=e2.frs.elem (JR _ _) (Z7 (f:=y) hk);subst hA;exact ⟨b,a,A1,n1,k1,F,n2,k2,⟨_,rfl⟩,h1,h2,h3⟩
 obtain ⟨c2,rfl⟩:=E;rw [l] at q0 q2 m;have q:qs 0=0:=by decide
 clear e1 e2 hy G t l;go_wp2_with fail;refine (Yd _ (canF 0) _ m).mono ?_;rw [ZG,q];rintro _ w3 ⟨rfl,H⟩;clear q0 q1 q2 q3 m q;go_wp2;go_ret;exact ⟨rfl,Za j H j.size⟩
namespace Pl
theorem sgN_even {l:Nat} (h:l % 2=0):sgN (l+1)= -1:=by unfold sgN;rw [if_neg (by omega)]
theorem sgN_odd {l:Nat} (h:l % 2≠0):sgN (l+1)=1:=by unfold sgN;rw [if_pos (by omega)]
theorem Zul.room {n:Nat} {P:Nat→Nat} {sn sn2:Nat→Bool} {i l j:Nat} {sg:Int} (h:Zul n P sn sn2 i l j sg) (h0:sn2 j=false):l < n:=by
 obtain ⟨h1,h2,_⟩:=h;have hc:=Zil h0 h2;omega
end Pl
theorem parity_any [Old] (v:Value) (m:Nat) (P:Nat→Nat) (w:World) (h:Vi w v (Zdg m P)) (hP:Inj m m P) (hn:m≤64) (hOl:Zb w:=by (repeat (first | assumption | exact Zb.up (by assumption) hOl | exact Zb.up (Hid.out (by assumption)) hOl | with_reducible refine Zb.set ?_ _ _ | with_reducible refine Zb.mk_ ?_ _ | with_reducible refine Zb.dr ?_ | with_reducible refine Zb.drN ?_ | refine Zb.up (by assumption) ?_ | refine Zb.up (Hid.out (by assumption)) ?_))):
 Calls Tryz.prog 78 #[v] w fun o w'=>∃s:Int,o= .returned (.int .i64 s)∧(s=1∨s= -1)∧SgnP m P (s:Rat)∧Below w.heap.size w w':=by
 have T:=hOl.le;obtain ⟨A,c,rfl,M,a0⟩:=h.shape;rw [Zba] at h M ⊢;have HI:=JZ h;have HP:=JZ hP;have U:=make_bools m (by omega);have E:=Zvm.zeros w m (by unfold maxLen;omega);have F:=Zd w (.cells (zbc m) 4);clear h hP;go_enter Tryz.func78,Tryz.ntmps78;go_wp2;generalize w.alloc (.cells (zbc m) 4)=W at *
 go_loopw [4,13] (fun s x wr=>∃(i:Nat) (sg:Int) (sn:Nat→Bool),i≤m∧x= .int .i64 i∧s= .int .i64 sg∧(sg=1∨sg= -1)∧Below w.heap.size w wr∧Zvm w.heap.size wr (.slice (some ⟨w.heap.size,0,none⟩) m m) m sn∧Zwn m P sn (sg:Rat)∧∀r,r < i→sn r=true) (fun _ x _=>m - (intOf x).toNat)
 case atStart=>exact ⟨0,1,fun _=>false,by omega,rfl,rfl,Or.inl rfl,F,E,Zwn.zero m P,fun r hr=>by omega⟩
 case round=>
  clear E F;obtain ⟨i,sg,sn,hi,rfl,rfl,C,d,hO,hD,y⟩:=hrel;have HD:=JZ hD;have k:=JZ y;clear hD y;rcases JX i m with him | him
  ·have V:(i:Int) < m:=(by omega);have G:Zul m P sn sn i 0 i sg:=⟨by have:=cntF_le sn m;omega,him,fun r hr=>hr,Or.inl ⟨rfl,rfl,rfl⟩⟩;go_wp2
   go_loopw [6,7] (fun u x wx=>∃(l j:Nat) (a:Nat→Bool),u= .int .i64 l∧x= .int .i64 j∧Below w.heap.size w wx∧Zvm w.heap.size wx (.slice (some ⟨w.heap.size,0,none⟩) m m) m a∧Zul m P sn a i l j sg) (fun u _ _=>m - (intOf u).toNat)
   case atStart=>exact ⟨0,i,sn,rfl,rfl,d,hO,G⟩
   case round=>
    clear d hO G;obtain ⟨l,j,a,rfl,rfl,d,hO,hA⟩:=hrel;have HA:=JZ hA;obtain ⟨a1,n,-,-⟩:=hA;have X:(j:Int) < m:=(by omega);obtain ⟨x0,x1⟩:=hO.at_ n
    cases hsj:a j
    ·rw [hsj] at x0;have Y:=HA.out.room hsj;have HN:=JZ (HA.out.step HD.out HP.out hsj);obtain ⟨N,O⟩:=hO.set_ n;have t:=d.setCell (p:=⟨w.heap.size,j,none⟩) (JY _) (.bool true);obtain ⟨b5,o5,R,y0⟩:=HI.out.nat t n;subst R;have Z:=HP.out.1 j n;clear hsj O hO d
     go_upto_region 10 with (fail)
     go_upto_region 11 with (fail)
     clear x0 x1;generalize wr.setCell ⟨w.heap.size,j,none⟩ (.bool true)=W3 at *;go_wp2;go_roundw
     case rel=>exact ⟨l+1,P j,Zqn a j,by go_num,rfl,t,N,HN.out⟩
     case measure=>simp [intOf];omega
    ·rw [hsj] at x0;have H:=JZ hsj;clear hsj;obtain ⟨-,-,f,D⟩:=HA.out;rcases D with ⟨I,hs2,hj⟩ | ⟨hl,z,hz,hI⟩
     ·have b:Hid (∀r,r < i+1→a r=true):=JZ fun r hr=>by
       by_cases e:r=i
       ·rw [e,← hj];exact H.out
       ·exact f r (k.out r (by omega))
      have L:Hid (Zwn m P a (sg:Rat)):=JZ (by rw [hs2];exact HD.out);subst I;clear f hs2 hj;go_wp2;go_roundw
      case rel=>exact ⟨i+1,sg,a,by omega,by go_num,rfl,C,d,hO,L.out,b.out⟩
      case measure=>simp [intOf];omega
     ·have g:=hI.done HP.out (by rw [← hz];exact H.out);have b:Hid (∀r,r < i+1→a r=true):=JZ fun r hr=>by
       by_cases e:r=i
       ·rw [e];exact hI.is
       ·exact f r (k.out r (by omega))
      have I:(0:Int) < (l:Int):=(by omega);have S:0 < l:=(by omega);by_cases q:l % 2=0
      ·have B:Hid (Zwn m P a ((-sg:Int):Rat)):=JZ (by
        rw [sgN_even q] at g;rw [Rat.intCast_neg,show -(sg:Rat)=(sg:Rat) * -1 by grind];exact g)
       have J:(l:Int).tmod 2=0:=(by rw [Int.tmod_eq_emod_of_nonneg (by omega)];omega);have K: -sg=1∨ -sg= -1:=(by omega);clear f hz hI g q hl;go_wp2;go_roundw
       case rel=>exact ⟨i+1,-sg,a,by omega,by go_num,by go_num,K,d,hO,B.out,b.out⟩
       case measure=>simp [intOf];omega
      ·have B:Hid (Zwn m P a (sg:Rat)):=JZ (by
        rw [sgN_odd q] at g;rw [show (sg:Rat)=(sg:Rat) * 1 by grind];exact g)
       have J:(l:Int).tmod 2=1:=(by rw [Int.tmod_eq_emod_of_nonneg (by omega)];omega);clear f hz hI g q hl;go_wp2;go_roundw
       case rel=>exact ⟨i+1,sg,a,by omega,by go_num,rfl,C,d,hO,B.out,b.out⟩
       case measure=>simp [intOf];omega
  ·obtain rfl:m=i:=by omega
   go_wp2;go_ret;exact ⟨sg,rfl,C,HD.out.all k.out,d⟩
section
attribute [local irreducible] Yi
end
theorem unit_any [Old] (i:Int) (w:World) (hOl:Zb w:=by (repeat (first | assumption | exact Zb.up (by assumption) hOl | exact Zb.up (Hid.out (by assumption)) hOl | with_reducible refine Zb.set ?_ _ _ | with_reducible refine Zb.mk_ ?_ _ | with_reducible refine Zb.dr ?_ | with_reducible refine Zb.drN ?_ | refine Zb.up (by assumption) ?_ | refine Zb.up (Hid.out (by assumption)) ?_))):
 Calls Tryz.prog 19 #[.int .i64 i] w fun o w'=>∃v',o= .returned v'∧Wy w' v' [⟨i,canF 1⟩]∧Below w.heap.size w w':=by
 have d:=hOl.le;go_enter Tryz.func19,Tryz.ntmps19;go_wp2_with fail;refine (X8 1 _ (by omega) (by omega)).mono ?_;rw [show (((1:Int):Rat))=1 from rfl];rintro _ w1 ⟨v1,rfl,e1,b⟩;obtain ⟨A,n,c,A',n',c',rfl,_,_⟩:=id e1;have a:=Zd w1 (.cells #[.int .i64 i,.bool (canF 1).num.neg,.slice A n c,.bool (canF 1).den.neg,.slice A' n' c'] 39);have hB:=Bk.new w1 39 [.int .i64 i,.bool (canF 1).num.neg,.slice A n c,.bool (canF 1).den.neg,.slice A' n' c'];go_wp2;go_ret;exact ⟨_,rfl,Wy.one hB (e1.below a),Za b a b.size⟩
theorem cancopy_any [Old] (v1 v2:Value) (es:List En) (w:World) (h:Wy w v1 (Zla es)) (h2:Wy w v2 es) (hs:∀(k:Nat) (e:En),es[k]? =some e→e.f.Sh) (hOl:Zb w:=by (repeat (first | assumption | exact Zb.up (by assumption) hOl | exact Zb.up (Hid.out (by assumption)) hOl | with_reducible refine Zb.set ?_ _ _ | with_reducible refine Zb.mk_ ?_ _ | with_reducible refine Zb.dr ?_ | with_reducible refine Zb.drN ?_ | refine Zb.up (by assumption) ?_ | refine Zb.up (Hid.out (by assumption)) ?_))):
 Calls Tryz.prog 17 #[v1,v2] w fun o w'=>o= .returned (.bool true)∧Below w.heap.size w w':=by
 have E:=hOl.le;obtain ⟨A,c,rfl,t,G⟩:=h.shape;obtain ⟨B,d,rfl,y,H⟩:=h2.shape;have n:(Zla es).length=es.length:=by simp [Zla]
 rw [n] at h t ⊢;obtain ⟨l,hl⟩:∃l,es.length=l:=⟨_,rfl⟩;rw [hl] at h t h2 y ⊢;have H1:=JZ h;have H2:=JZ h2;have HL:=JZ hl;have HS:=JZ hs;clear h h2 hl hs n;go_enter Tryz.func17,Tryz.ntmps17;go_wp2
 go_loopw [5] (fun i wr=>∃k:Nat,k≤l∧i= .int .i64 k∧Below w.heap.size w wr) (fun i _=>l - (intOf i).toNat)
 case atStart=>exact ⟨0,by omega,rfl,JR _ _⟩
 case round=>
  obtain ⟨k,hk,rfl,a⟩:=hrel;rcases JX k l with hkl | hkl
  ·obtain ⟨e,he⟩:∃e,es[k]? =some e:=⟨es[k]'(by rw [HL.out];exact hkl),JQ (by rw [HL.out];exact hkl)⟩;have p:(Zla es)[k]? =some ⟨e.idx,canF e.f.q⟩:=(by simp [Zla,he]);obtain ⟨b1,o1,A1,n1,c1,A2,n2,c2,rfl,_,⟨x0,x1,x2,x3,x4⟩,m⟩:=H1.out.elem a p;obtain ⟨b2,o2,A3,n3,c3,A4,n4,c4,rfl,_,⟨y0,y1,y2,y3,y4⟩,u⟩:=H2.out.elem a he;have r:=HS.out k e he;have F:(k:Int) < l:=(by omega);clear he p
   dsimp only at x0 x1 x3 m
   obtain ⟨f,hf⟩:∃f,e.f=f:=⟨_,rfl⟩;obtain ⟨z,hz⟩:∃z,e.idx=z:=⟨_,rfl⟩;rw [hf] at x1 x3 m y1 y3 u r;rw [hz] at x0 y0;have x:Hid (Zgl (canF f.q) (canF f.q)=true):=JZ (Zjr _);clear hf hz;go_wp2_with fail;have X0:=Zr x0;have X1:=Zr x1;have X2:=Zr x2;have X3:=Zr x3;have X4:=Zr x4;have Y0:=Zr y0;have Y1:=Zr y1;have Y2:=Zr y2;have Y3:=Zr y3;have Y4:=Zr y4;have j:=Zj wr;clear x0 x1 x2 x3 x4 y0 y1 y2 y3 y4;refine Zt 26 [0,1,2,3,4,5,6,7,8,9,10,11,12,13,14,15,16,17,18,19,20,21,22,23,24,25] (by kernel_rfl) (by kernel_rfl) ?_;repeat ((first | (refine Zc (v:=?_) rfl rfl rfl ?_ ?_;rotate_left;(· (intro _ b;go_simp;(try go_bits);(try with_reducible rfl)))) | (refine Ze (v:=?_) rfl rfl rfl ?_ ?_;rotate_left;(· (intro _ b;go_simp;(try go_bits);(try with_reducible rfl)))) | refine Zf rfl rfl rfl ?_);(try simp only [Act.put,pu1,pu2,pu3,pu4,pu5,pu6]))
   refine Zg rfl rfl (fun KR hKR=>?_);go_simp;(with_reducible refine (YY _ f _ (u.below j) r).mono ?_);rintro _ w8 ⟨v8,rfl,e8,C⟩;have g:=Za j C j.size;refine hKR.out _ _ (Or.inr g) ?_;clear hKR KR;(try simp only [Act.put,pu1,pu2,pu3,pu4,pu5,pu6]);repeat ((first | (refine Zc (v:=?_) rfl rfl rfl ?_ ?_;rotate_left;(· (intro _ b;go_simp;(try go_bits);(try with_reducible rfl)))) | (refine Ze (v:=?_) rfl rfl rfl ?_ ?_;rotate_left;(· (intro _ b;go_simp;(try go_bits);(try with_reducible rfl)))) | refine Zf rfl rfl rfl ?_);(try simp only [Act.put,pu1,pu2,pu3,pu4,pu5,pu6]))
   refine Zg rfl rfl (fun KR hKR=>?_);go_simp;(with_reducible refine (Zkt _ _ (canF f.q) (canF f.q) _ (m.below g) e8).mono ?_);rw [x.out];rintro _ w9 ⟨rfl,D⟩;have s:=Za g D g.size;refine hKR.out _ _ (Or.inr s) ?_;clear hKR KR;(try simp only [Act.put,pu1,pu2,pu3,pu4,pu5,pu6]);repeat ((first | (refine Zc (v:=?_) rfl rfl rfl ?_ ?_;rotate_left;(· (intro _ b;go_simp;(try go_bits);(try with_reducible rfl)))) | (refine Ze (v:=?_) rfl rfl rfl ?_ ?_;rotate_left;(· (intro _ b;go_simp;(try go_bits);(try with_reducible rfl)))) | refine Zf rfl rfl rfl ?_);(try simp only [Act.put,pu1,pu2,pu3,pu4,pu5,pu6]))
   refine Zv ?_;clear X0 X1 X2 X3 X4 Y0 Y1 Y2 Y3 Y4;go_wp2;go_roundw
   case rel=>exact ⟨k+1,by omega,by go_num,Za a s a.size⟩
   case measure=>simp [intOf];omega
  ·obtain rfl:k=l:=by omega
   go_wp2;go_ret;exact ⟨rfl,a⟩
end Go.Proofs.YtidgdpkcloaheaaGreat
