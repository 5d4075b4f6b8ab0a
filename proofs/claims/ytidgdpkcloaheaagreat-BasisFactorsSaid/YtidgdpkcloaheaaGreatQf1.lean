/- Lemmas of the claim; no condition. -/
import Derived.Test.YtidgdpkcloaheaaGreatQ25
import Derived.Test.YtidgdpkcloaheaaGreatOLbZJ
set_option linter.all false
set_option maxRecDepth 100000
set_option maxHeartbeats 40000000
namespace Go.Proofs.YtidgdpkcloaheaaGreat
open Go.RowKit
namespace Pl
end Pl
open Pl
attribute [local go_sem ↓] Go.wp_at_zero Go.wp_at_succ
theorem addr_add0 (b off j:Nat):(⟨b,off,none⟩:Addr).add j=⟨b,off+j,none⟩:=by
 unfold Addr.add;split
 ·rename_i h;subst h;rfl
 ·rfl
namespace Pl
structure Prf where
 st:Int
 x:List RF
 y:List RF
 ray:List RF
def shX (p:LPd) (x:Prf):Prop:=x.x.length=if x.st=2 then 0 else p.cols.length
instance (p:LPd) (x:Prf):Decidable (shX p x):=by unfold shX;infer_instance
end Pl
theorem run_append_copyI (ty:TypeId) (W:World) (v:Value) (zs:List Int) (h:Vi W v zs) (hn:zs.length≤1099511627776):
 ∃v' w',(Builtin.append_ #[46,46] ty #[.slice none 0 0,v]).run Tryz.prog W= .ok v' w'∧ZJ W.heap.size w' v' zs∧Below W.heap.size W w':=by
 obtain ⟨A,c,rfl,hc,hm,a,i⟩:=h;obtain ⟨i0,hi,f,l,m⟩:=info_parts info_intT
 cases A with
 | none=>
  have h0:zs.length=0:=by
   rcases JV zs.length with e | e
   ·exact e
   ·obtain ⟨b,n,e1,_⟩:=a e;cases e1
  have g:zs=[]:=List.eq_nil_of_length_eq_zero h0;subst g;refine ⟨_,_,?_,ZJ.nil _ _,JR _ _⟩;simp [Builtin.append_,run_underlying Tryz.underlying46,sizeOf,typeInfo,zeroValue,hi,f,Builtin.lenOf,run_firstCells_none]
 | some ad=>
  obtain ⟨v',w',hr,g1,g2,_,_⟩:=run_append_own_at (P:=Tryz.prog) W W.heap.size 46 ty 3 i0 _ 1 8 Tryz.underlying46 hi f l m rfl (by decide) (.slice none 0 0) 0 [] (World.ownsRow_nil _ _ _ _) ad zs.length c (zs.map fun z=>Value.int .i64 z) (by simp) (fun j u hj=>by
   have d:j < zs.length:=(by have h9:=(List.getElem?_eq_some_iff.1 hj).1;simpa using h9);obtain ⟨b,n,e,hx⟩:=a (by omega);have e:=Option.some.inj e;rw [e,addr_add0,hx j d];simp [JQ d] at hj;rw [← hj];simp [List.getD,JQ d]) (fun u hu=>by simp at hu;obtain ⟨z,_,rfl⟩:=hu;rfl) (by unfold maxLen;omega) (by omega) (JY _)
  refine ⟨v',w',hr,⟨by simpa using g1,i⟩,?_⟩;exact (JR _ _).grown g2 (JY _) (fun k hk=>by simp [Value.ownBlock] at hk)
theorem op_append_run {o:Oper} {a:Act} {w w':World} {v x y:Value} {K:Act→World→Prop} {Q:Exit→Act→World→Prop} {ops:Array Oper} {t:TypeId} (s1 s2:Operand) (hgd:o.guard=none) (ho:o.op= .call { callee:= .builtin .append,args:=#[s1,s2],argTypes:=#[t,t] }) (h1:a.eval s1=x) (h2:a.eval s2=y)
 (hrun:(Builtin.append_ #[t,t] o.type #[x,y]).run Tryz.prog w= .ok v w') (h:K (a.put o.dst v) w'):if Region.wanted o (yielded ops a.tmps)=true then Oper.wp Tryz.prog o a w K Q else K (a.put o.dst undef) w:=by
 rw [if_pos (by simp [Region.wanted,hgd])];unfold Oper.wp execOp;simp only [ho,resolve,invoke,builtin,Sem.run_bind,Sem.run_pure,Result.andThen_ok,List.map_toArray,List.map_cons,List.map_nil,h1,h2,hrun];exact h
theorem bolL_length (n:Nat) (f:Nat→Bool):(Zwo n f).length=n:=by simp [Zwo]
theorem bolL_set {n k:Nat} {f:Nat→Bool} (h:k < n):(Zwo n f).set k (.bool true)=Zwo n (Zqn f k):=by
 refine List.ext_getElem? fun i=>?_
 rcases JX i n with e | e
 ·rw [List.getElem?_set,bolL_length];by_cases c:k=i
  ·subst c;rw [if_pos rfl,if_pos h,Zqo e,UF]
  ·rw [if_neg c,Zqo e,Zqo e,VF (Ne.symm c)]
 ·rw [JU (by rw [List.length_set,bolL_length];exact e),JU (by rw [bolL_length];exact e)]
theorem Zvm.set_ [Old] {base:Nat} {w:World} {g n c:Nat} {f:Nat→Bool} (h:Zvm base w (.slice (some ⟨g,0,none⟩) n c) n f) {k:Nat} (hk:k < n) (hO:Old.n≤base:=by first | assumption | exact Nat.zero_le _ | omega | ((first | with_reducible refine Zb.le ?_ | with_reducible refine Zb.le1 ?_ | with_reducible refine Zb.le2 ?_ | with_reducible refine Zb.le3 ?_);repeat (first | assumption | exact Zb.up (by assumption) hOl | exact Zb.up (Hid.out (by assumption)) hOl | with_reducible refine Zb.set ?_ _ _ | with_reducible refine Zb.mk_ ?_ _ | with_reducible refine Zb.dr ?_ | with_reducible refine Zb.drN ?_ | refine Zb.up (by assumption) ?_ | refine Zb.up (Hid.out (by assumption)) ?_))):Zvm base (w.setCell ⟨g,k,none⟩ (.bool true)) (.slice (some ⟨g,0,none⟩) n c) n (Zqn f k)∧Zk 4 w (w.setCell ⟨g,k,none⟩ (.bool true)):=by
 have o1:=YJ h k (.bool true) (by rw [bolL_length];exact hk);rw [bolL_set hk] at o1;obtain ⟨_,b0,_⟩:=ZI h;exact ⟨o1,Zk.setCell b0 k _⟩
def zbc (n:Nat):Array Value:=madeCells (Value.cells (.bool false)) (n * 1)
theorem zbc_at {n k:Nat} (hk:k < n):(zbc n)[k]? =some (.bool false):=by
 unfold zbc madeCells;simp [hk,Value.cells,Nat.mod_one]
theorem Zvm.zeros (w:World) (n:Nat) (hn:n≤maxLen):Zvm w.heap.size (w.alloc (.cells (zbc n) 4)) (.slice (some ⟨w.heap.size,0,none⟩) n n) n (fun _=>false):=by
 have a:(zbc n).size=n * 1:=size_madeCells _ _;refine ⟨by simp [bolL_length],.inr ⟨w.heap.size,n,zbc n,by simp,JY _,heap_alloc_new w _,by simp,hn,by simpa using a,?_⟩⟩;refine List.ext_getElem? fun i=>?_
 rcases JX i n with e | e
 ·have:=zbc_at e;rw [Zqo e];simp [List.getElem?_take,e,this]
 ·rw [JU (by simp [a];omega),JU (by rw [bolL_length];omega)]
theorem info_boolT:(Tryz.prog.info? 4).map (fun i=>(i.zero,i.size,i.bytes))=some (some (.bool false),1,1):=by kernel_rfl
theorem make_bools (n:Nat) (hn:n≤1099511627776) (w:World):
 (Instr.makeSlice 112 (.int .i64 (n:Int)) (.int .i64 (n:Int))).run Tryz.prog w= .ok (.slice (some ⟨w.heap.size,0,none⟩) n n) (w.alloc (.cells (zbc n) 4)):=by
 obtain ⟨i0,hi,a,b,c⟩:=info_parts info_boolT;have hb:(i0.bytes:Int) * (n:Int)≤281474976710656:=by rw [c];omega
 have hr:=run_make (P:=Tryz.prog) w 112 4 i0 _ Tryz.underlying112 hi a .i64 .i64 n n (by omega) (by omega) hb (by omega);simp only [JP,b] at hr;exact hr
section
attribute [local irreducible] Yi
end
section
section
variable {base bi:Nat} {w w':World} {v:Value} {T n:Nat} {k:Nat→Nat} {im:Mx}
theorem Zlc.but [Old] {e:TypeId} (h:Zlc base bi w v T n k im) (hk:Zk e w w') (h1:87≠e) (h2:36≠e) (h3:106≠e):Zlc base bi w' v T n k im:=by
 obtain ⟨cs,g1,g2⟩:=h;exact ⟨cs,hk.own g1 h1,fun t ht=>by
  obtain ⟨u,e1,e2,e3⟩:=g2 t ht;exact ⟨u,e1,e2,e3.but hk h2 h3⟩⟩
end
end
section
attribute [local irreducible] Yi
end
namespace Pl
def dotS:List En→(Nat→Rat)→Rat
 | [],_=>0
 | e::es,g=>e.f.q * g e.idx.toNat+dotS es g
theorem dotS_append (g:Nat→Rat):∀(xs ys:List En),dotS (xs++ys) g=dotS xs g+dotS ys g
 | [],ys=>by simp only [List.nil_append,dotS];grind
 | e::xs,ys=>by simp only [List.cons_append,dotS,dotS_append g xs ys];grind
theorem dotS_take {es:List En} {k:Nat} {e:En} (h:es[k]? =some e) (g:Nat→Rat):dotS (es.take (k+1)) g=dotS (es.take k) g+e.f.q * g e.idx.toNat:=by
 rw [List.take_add_one,h,dotS_append];simp only [Option.toList,dotS];grind
theorem dotS_spV (f g:Nat→Rat):∀n,dotS (spV f n) g=Z6 (fun i=>f i * g i) n
 | 0=>rfl
 | n+1=>by
  rw [ZF,← dotS_spV f g n]
  by_cases h:f n=0
  ·rw [Y8 h,h];grind
  ·rw [Xo h,dotS_append]
   simp only [dotS,ZG,JP];grind
end Pl
namespace Pl
theorem spV_rw {f:Nat→Rat} {n K:Nat} (h:∀i,i < n→Sz K (f i)) (hK:K≤34359738368):EnW (spV f n):=fun k e he=>by
 obtain ⟨i,h1,_,h3,_⟩:=VB he
 rw [h3];exact (h i h1).rw hK
theorem Sz_dotS {es:List En} {g:Nat→Rat} {K J:Nat} (h:∀(k:Nat) (e:En),es[k]? =some e→e.f.Rs K) (hK:1≤K) (hg:∀(k:Nat) (e:En),es[k]? =some e→Sz J (g e.idx.toNat)):∀k,k≤es.length→Sz (1+k * (K+J+1)) (dotS (es.take k) g)
 | 0,_=>by simpa [dotS] using Sz_zero
 | k+1,hk=>by
  have he:=JQ (show k < es.length by omega)
  rw [dotS_take he]
  exact (Zrw (Sz_dotS h hK hg k (by omega)) (V5 ((h k _ he).sz hK) (hg k _ he))).mono (by rw [Nat.add_mul k 1];omega)
end Pl
theorem fromDense1_own [Old] (v:Value) (fs:List RF) (K:Nat) (w:World) (h:Zbn w v fs) (hl:fs.length≤4096) (hk:RsL K fs) (hK:K≤34359738368) (hOl:Zb w:=by (repeat (first | assumption | exact Zb.up (by assumption) hOl | exact Zb.up (Hid.out (by assumption)) hOl | with_reducible refine Zb.set ?_ _ _ | with_reducible refine Zb.mk_ ?_ _ | with_reducible refine Zb.dr ?_ | with_reducible refine Zb.drN ?_ | refine Zb.up (by assumption) ?_ | refine Zb.up (Hid.out (by assumption)) ?_))):
 Calls Tryz.prog 61 #[v] w fun e w'=>∃v',e= .returned (.tuple #[v',.int .i64 0])∧Wz w.heap.size w' v' (spV (qAt fs) fs.length)∧Below w.heap.size w w':=by
 have L:=hOl.le;obtain ⟨A,c,rfl,O,P⟩:=h.shape;have H:=JZ h;have HK:=JZ hk;generalize hn:fs.length=n at *;have HN:=JZ hn;have M:(n:Int)≤4096:=by omega
 clear h hk hn;go_enter Tryz.func61,Tryz.ntmps61;go_wp2
 go_loopw [4,5] (fun u i wr=>∃k:Nat,k≤n∧i= .int .i64 k∧Wz w.heap.size wr u (spV (qAt fs) k)∧Below w.heap.size w wr) (fun _ i _=>n - (intOf i).toNat)
 case atStart=>exact ⟨0,by omega,rfl,Wz.nil _ _,JR _ _⟩
 case round=>
  obtain ⟨k,hk,rfl,hO,j⟩:=hrel;rcases JX k n with hkl | hkl
  ·obtain ⟨f,hf⟩:=Zcs (fs:=fs) (i:=k) (by rw [HN.out];exact hkl);obtain ⟨b,R,A1,n1,k1,A2,n2,k2,rfl,S,⟨q0,q1,q2,q3⟩,p⟩:=H.out.elem j hf;have HQ:=JZ (UW hf);have s:f.Sh:=(HK.out k f hf).sh hK;have N:(k:Int) < n:=(by omega);clear hf;go_wp2_with fail;refine (Xl _ f _ p s).mono ?_;rintro _ w2 ⟨rfl,a⟩;have o:=hO.below a;have g:=Za j a j.size;have t:=p.below a;by_cases hq:f.q=0
   ·have z:(qs f.q !=0)=false:=(by rw [hq];decide);have HS:Hid (spV (qAt fs) (k+1)=spV (qAt fs) k):=JZ (Y8 (by rw [HQ.out];exact hq));clear hq;go_wp2;go_roundw
    case rel=>exact ⟨k+1,by omega,by go_num,by rw [HS.out];exact o,g⟩
    case measure=>simp [intOf];omega
   ·have z:(qs f.q !=0)=true:=(by simpa using fun e=>hq (Yz.1 e));have HS:Hid (spV (qAt fs) (k+1)=spV (qAt fs) k++[⟨(k:Int),canF f.q⟩]):=JZ (by rw [← HQ.out];exact Xo (by rw [HQ.out];exact hq));have C:=cell_later a q0;have D:=cell_later a q1;have E:=cell_later a q2;have F:=cell_later a q3;clear hq q0 q1 q2 q3;go_wp2_with fail;refine (YY _ f _ t s).mono ?_;rintro _ w3 ⟨v3,rfl,e3,r⟩;have x:=o.below r;have m:=Za g r g.size;obtain ⟨B,l,d,B',l',d',rfl,_,_⟩:=id e3;have HF:=JZ e3;have HO:=JZ x;have y:(spV (qAt fs) k).length+1≤1099511627776:=(by have:=Ve (f:=qAt fs) k;omega);have G:=m.size;clear hO o x j g r e3 C D E F t p;generalize hQ:canF f.q=Q at *;go_wp2_with (at_builtin;refine Vy rfl (.tmp 21) (.tmp 29) rfl w3 w.heap.size u4 (spV (qAt fs) k) rfl HO.out _ _ B B' l d l' d' (k:Int) Q HF.out rfl y G ?_);intro v' w4 I T J;go_wp2;go_roundw
    case rel=>exact ⟨k+1,by omega,by go_num,by rw [HS.out];exact I,m.trans J⟩
    case measure=>simp [intOf];omega
  ·obtain rfl:k=n:=by omega
   go_wp2;go_ret2;exact ⟨_,rfl,hO,j⟩
theorem toDense1_own [Old] (v:Value) (es:List En) (n K:Nat) (w:World) (h:Wy w v es) (hn:n≤4096) (hk:∀(k:Nat) (e:En),es[k]? =some e→e.f.Rs K) (hK:K≤34359738368) (hg:Pl.Good n es) (hOl:Zb w:=by (repeat (first | assumption | exact Zb.up (by assumption) hOl | exact Zb.up (Hid.out (by assumption)) hOl | with_reducible refine Zb.set ?_ _ _ | with_reducible refine Zb.mk_ ?_ _ | with_reducible refine Zb.dr ?_ | with_reducible refine Zb.drN ?_ | refine Zb.up (by assumption) ?_ | refine Zb.up (Hid.out (by assumption)) ?_))):
 Calls Tryz.prog 91 #[v,.int .i64 (n:Int)] w fun e w'=>∃v',e= .returned (.tuple #[v',.int .i64 0])∧YL w.heap.size w' v' (YT n (XZ es))∧Below w.heap.size w w':=by
 have y:=hOl.le;obtain ⟨A,c,rfl,D,E⟩:=h.shape;have H:=JZ h;have HK:=JZ fun k e he=>(hk k e he).sh hK
 have HG:=JZ hg;have HE:=JZ (hg.err hn);generalize hl:es.length=l at *;have x:Hid (EnI es):=JZ fun k e he=>by have:=hg.1 k e he;omega
 have z:=X5 n (by omega);clear hk hg hl;go_enter Tryz.func91,Tryz.ntmps91;go_wp2_with fail;refine (Zdo _ es (n:Int) _ h HK.out x.out (by omega) (by omega)).mono ?_;rw [HE.out];rintro _ w1 ⟨rfl,m⟩;have g:=YL.zeros w1 n (by unfold maxLen;omega);have j:=Zd w1 (.cells (zfc n) 36);rw [← Zni n es] at g;clear h;go_wp2;have o:=Za m j m.size;have p:=m.size;generalize w1.alloc (.cells (zfc n) 36)=W2 at *
 go_loopw [8] (fun i wr=>∃k:Nat,k≤n∧i= .int .i64 k∧Below w.heap.size w wr∧Below w1.heap.size w1 wr∧YL w1.heap.size wr (.slice (some ⟨w1.heap.size,0,none⟩) n n) (Znh n k es)) (fun i _=>n - (intOf i).toNat)
 case atStart=>exact ⟨0,by omega,rfl,o,j,g⟩
 case round=>
  clear o j g;obtain ⟨k,hk,rfl,a,b,hO⟩:=hrel;rcases JX k n with hkl | hkl
  ·have C:(k:Int) < n:=(by omega);have q:=Zqk (n:=n) (i:=k) (es:=es) hkl;go_wp2_with fail;refine (Zug _ es k _ (H.out.below a) HK.out HG.out.2.1).mono ?_;rintro _ w3 ⟨v3,rfl,e3,d⟩;obtain ⟨B,l9,d9,B',F,G,rfl,_,_⟩:=id e3;have r:=hO.below d;obtain ⟨_,_,_,_,⟨t0,t1,t2,t3⟩,⟨f0,f1,f2,f3⟩,_⟩:=r.at_ q;obtain ⟨u,I⟩:=r.set_ (k:=k) (by rw [VD];exact hkl) e3;rw [Zat hkl] at u;have s:=ZB (Za a d a.size) p (k * 4) (k * 4+1) (k * 4+2) (k * 4+3);have t:=ZB (Za b d b.size) (JY _) (k * 4) (k * 4+1) (k * 4+2) (k * 4+3);clear hO a b d;go_wp2;go_roundw
   case rel=>exact ⟨k+1,by omega,by go_num,s _ _ _ _,t _ _ _ _,u⟩
   case measure=>simp [intOf];omega
  ·obtain rfl:n=k:=by omega
   rw [Zqj] at hO;go_wp2;go_ret2;exact ⟨_,rfl,hO.monoB p,a⟩
namespace Pl
theorem subQ_cpy (es:List En) (k:Int) (z:Rat) (g:Nat→Rat) (i:Nat):∀t,VE es k z g t i=VE (Zla es) k z g t i
 | 0=>rfl
 | t+1=>by
  have ih:=subQ_cpy es k z g i t
  unfold VE
  have hc:(Zla es)[t]? =(es[t]?).map fun e=>⟨e.idx,canF e.f.q⟩:=by unfold Zla;rw [List.getElem?_map]
  rw [hc]
  cases es[t]? with
  | none=>exact ih
  | some e=>simp only [Option.map,ZG,ih]
theorem cpyV_length (es:List En):(Zla es).length=es.length:=by unfold Zla;rw [List.length_map]
theorem subQ_all {n:Nat} {es:List En} (h:Good n es) (z:Rat) (g:Nat→Rat) {i:Nat} (hi:i < n):VE es (n:Int) z g es.length i=g i - XZ es i * z:=by
 rw [subQ_cpy,← cpyV_length es,cpyV_spV h,Zde,if_pos ⟨hi,by omega⟩]
theorem spV0:∀n:Nat,spV (fun _=>(0:Rat)) n=[]
 | 0=>rfl
 | n+1=>by rw [Y8 rfl];exact spV0 n
theorem subQ_some {n:Nat} {es:List En} (h:Good n es) (z:Rat) (g:Nat→Rat) {i t:Nat} (ht:t≤es.length):VE es (n:Int) z g t i=g i∨(i < n∧VE es (n:Int) z g t i=g i - XZ es i * z):=by
 rw [← cpyV_length es,cpyV_spV h] at ht;rw [subQ_cpy,cpyV_spV h];rcases Zin (XZ es) n z g i n t ht with e | ⟨e1,_,e2⟩
 ·exact Or.inl e
 ·exact Or.inr ⟨e1,e2⟩
end Pl
theorem Wz.monoB [Old] {base base':Nat} {w:World} {v:Value} {es:List En} (h:Wz base w v es) (hb:base'≤base):Wz base' w v es:=by
 obtain ⟨cs,h1,h2⟩:=h;exact ⟨cs,WX h1 hb,h2⟩
theorem addScaled1_own [Old] (va vb vk:Value) (a b:List En) (kf:RF) (n K J:Nat) (w:World) (h1:Wy w va a) (h2:Wy w vb b) (h3:Zm w vk kf) (hn:n≤60) (hka:∀(k:Nat) (e:En),a[k]? =some e→e.f.Rs J) (hkb:∀(k:Nat) (e:En),b[k]? =some e→e.f.Rs K) (hw:EnW b) (hkw:kf.Rw) (hks:kf.Rs K) (hg:Pl.Good n a) (hg2:Pl.Good n b) (hz:∀t i,t≤b.length→i < n→Sz J (VE b n (-kf.q) (XZ a) t i)) (hK1:1≤K) (hK:K≤17179869184) (hJ:J≤34359738368) (hOl:Zb w:=by (repeat (first | assumption | exact Zb.up (by assumption) hOl | exact Zb.up (Hid.out (by assumption)) hOl | with_reducible refine Zb.set ?_ _ _ | with_reducible refine Zb.mk_ ?_ _ | with_reducible refine Zb.dr ?_ | with_reducible refine Zb.drN ?_ | refine Zb.up (by assumption) ?_ | refine Zb.up (Hid.out (by assumption)) ?_))):
 Calls Tryz.prog 63 #[va,vb,vk,.int .i64 (n:Int)] w fun o w'=>∃v',o= .returned (.tuple #[v',.int .i64 0])∧Wz w.heap.size w' v' (spV (VE b n (-kf.q) (XZ a) b.length) n)∧Below w.heap.size w w':=by
 have au:=hOl.le;obtain ⟨Ab,cb,rfl,b2,b3⟩:=h2.shape;obtain ⟨Ak,nk,ck,O,P,R,rfl,_,_⟩:=id h3;have H2:=JZ h2;have ac:=JZ hkb;have ad:=JZ hw;have ae:=JZ hkw;have U:=JZ hks;have V:Hid (∀(k:Nat) (e:En),b[k]? =some e→e.f.Sh):=JZ fun k e he=>(hkb k e he).sh (by omega)
 have af:=JZ (hg2.err (show n≤4096 by omega));have ag:Hid (EnI b):=JZ fun k e he=>by have:=hg2.1 k e he;omega
 have HR:=JZ hg2.1;have av:=hK;obtain ⟨TQ,A⟩:∃TQ:Nat→Nat→Rat,TQ=VE b n (-kf.q) (XZ a):=⟨_,rfl⟩;rw [← A] at hz ⊢;have ah:=JZ A;have HZ:=JZ hz;have ai:Hid (YT n (XZ a)=YT n (TQ 0)):=JZ (by rw [A];rfl);have aw:=hg2.len;generalize hl:b.length=l at *;have HL:=JZ hl;obtain ⟨W,hW,hX,m⟩:=Zah w (.bool kf.num.neg) (.slice Ak nk ck) (.bool kf.den.neg) (.slice O P R);have ax:=hX.lt;have X:=h3.below m;clear h2 h3 hkb hw hkw hks hg2 A hz hl;go_enter Tryz.func63,Tryz.ntmps63;go_wp2_with fail;clear hW;refine (toDense1_own _ a n J _ (h1.below m) (by omega) hka hJ hg).mono ?_;rw [ai.out];rintro _ w1 ⟨v1,rfl,C,D⟩;obtain ⟨A1,c1,rfl,ao,b4⟩:=C.frs.shape;rw [Zu] at C ao ⊢;have d:=Za m D m.size;have Y:=hX.later D;have Z:=X.below D;have ay:=m.size;clear h1 hka hg hX X m D;go_wp2_with fail;refine (Zdo _ b (n:Int) _ (H2.out.below d) V.out ag.out (by omega) (by omega)).mono ?_;rw [af.out];rintro _ w2 ⟨rfl,y⟩;have E:=Za d y d.size;have a0:=Y.later y;have a1:=Z.below y;have a2:=C.below y;clear d Y Z C y;go_wp2
 go_loopw [13] (fun x wr=>∃k:Nat,k≤l∧x= .int .i64 k∧Below w.heap.size w wr∧Bk wr w.heap.size 36 [.bool kf.num.neg,.slice Ak nk ck,.bool kf.den.neg,.slice O P R]∧Zm wr (.agg #[.bool kf.num.neg,.slice Ak nk ck,.bool kf.den.neg,.slice O P R]) kf∧YL W.heap.size wr (.slice A1 n c1) (YT n (TQ k))) (fun x _=>l - (intOf x).toNat)
 case atStart=>exact ⟨0,by omega,rfl,E,a0,a1,a2⟩
 case round=>
  clear E a0 a1 a2;obtain ⟨k,hk,rfl,hb,hX,S,hO⟩:=hrel;rcases JX k l with hkl | hkl
  ·have az:(k:Int) < l:=(by omega);obtain ⟨e,he⟩:=YS (es:=b) (i:=k) (by rw [HL.out];exact hkl);obtain ⟨b5,o5,A5,n5,c5,A6,n6,c6,ap,_,⟨x0,x1,x2,x3,x4⟩,a9⟩:=H2.out.elem hb he;subst ap;have aj:=V.out k e he;have HW:=JZ (ad.out k e he);have a3:=ac.out k e he;obtain ⟨i0,i1⟩:=HR.out k e he;obtain ⟨j,hj⟩:=JT i0;have p:j < n:=(by omega);obtain ⟨g,c9,aq,b6,hg2,_,_⟩:=hO.shape (by rw [Zu];omega);injection aq with hv1 hv2 hv3;subst hv1 hv3;clear hv2;have a4:YT n (fun i=>if i=j then TQ k j+kf.q * e.f.q else TQ k i)=YT n (TQ (k+1)):=Yf fun i hi=>by
    rw [ah.out,Ztv he (by omega) hj];by_cases c:i=j
    ·rw [if_pos c,if_pos c];grind
    ·rw [if_neg c,if_neg c]
   have a5:=JZ a4;have L:=HZ.out k j (by omega) p;have a6:=a3.sz hK1;have F:=Z7 (f:=TQ k) p;obtain ⟨ei,ef⟩:=e;simp only at *;subst hj;obtain ⟨xq,B⟩:∃q,TQ k j=q:=⟨_,rfl⟩;rw [B] at a5 L F;have b0:=JZ B;obtain ⟨b7,o7,A7,n7,c7,A8,n8,c8,u,_,⟨y0,y1,y2,y3⟩,T⟩:=hO.frs.elem (JR _ _) (Z7 (f:=TQ k) p);injection u with u;injection u with u hA8;subst u hA8;rw [B] at y0 y2 T;simp only [Nat.zero_add] at y0 y1 y2 y3;have ak:kf.Sh:=U.out.sh (by omega);have shX:(canF xq).Sh:=L.sh (by omega);have al:(canF (kf.q * ef.q)).Sh:=by
    exact (V5 (U.out.sz hK1) a6).sh (by omega)
   have b1:(j:Int) < n:=(by omega);clear he B a3 L a4 a6;obtain ⟨z0,z1,z2,z3⟩:=hX.four;go_wp2_with fail;have C0:=Zr x0;have C1:=Zr x1;have C2:=Zr x2;have C3:=Zr x3;have C4:=Zr x4;have D0:=Zr z0;have D1:=Zr z1;have D2:=Zr z2;have D3:=Zr z3;have E0:=Zr y0;have E1:=Zr y1;have E2:=Zr y2;have E3:=Zr y3;have r:=Zj wr;clear x0 x1 x2 x3 x4 z0 z1 z2 z3 y0 y1 y2 y3;refine Zt 23 [0,1,2,3,4,5,6,7,8,9,10,11,12,13,14,15,16,17,18,19,20,21,22,23] (by kernel_rfl) (by kernel_rfl) ?_;repeat ((first | (refine Zc (v:=?_) rfl rfl rfl ?_ ?_;rotate_left;(· (intro _ z;go_simp;(try go_bits);(try with_reducible rfl)))) | (refine Ze (v:=?_) rfl rfl rfl ?_ ?_;rotate_left;(· (intro _ z;go_simp;(try go_bits);(try with_reducible rfl)))) | refine Zf rfl rfl rfl ?_);(try simp only [Act.put,pu1,pu2,pu3,pu4,pu5,pu6]))
   refine Zg rfl rfl (fun KR hKR=>?_);go_simp;(with_reducible refine (Zfq _ _ kf ef _ (S.below r) (a9.below r) ak aj ae.out HW.out).mono ?_);rintro _ w8 ⟨v8,rfl,e8,aa⟩;have s:=Za r aa r.size;obtain ⟨G1,l3,k3,G2,l4,k4,rfl,_,_⟩:=id e8;refine hKR.out _ _ (Or.inr s) ?_;clear hKR KR;(try simp only [Act.put,pu1,pu2,pu3,pu4,pu5,pu6]);repeat ((first | (refine Zc (v:=?_) rfl rfl rfl ?_ ?_;rotate_left;(· (intro _ z;go_simp;(try go_bits);(try with_reducible rfl)))) | (refine Ze (v:=?_) rfl rfl rfl ?_ ?_;rotate_left;(· (intro _ z;go_simp;(try go_bits);(try with_reducible rfl)))) | refine Zf rfl rfl rfl ?_);(try simp only [Act.put,pu1,pu2,pu3,pu4,pu5,pu6]))
   refine Zg rfl rfl (fun KR hKR=>?_);go_simp;(with_reducible refine (Zog _ _ (canF xq) (canF (kf.q * ef.q)) _ (T.below s) e8 shX al).mono ?_);rw [ZG,ZG];rintro _ w9 ⟨v9,rfl,e9,ab⟩;have h:=Za s ab s.size;obtain ⟨C1,l5,k5,C2,l6,k6,rfl,_,_⟩:=id e9;have M:=hO.below h;obtain ⟨_,_,_,_,⟨t0,t1,t2,t3⟩,⟨f0,f1,f2,f3⟩,_⟩:=M.at_ F;refine hKR.out _ _ (Or.inr h) ?_;clear hKR KR;(try simp only [Act.put,pu1,pu2,pu3,pu4,pu5,pu6]);repeat ((first | (refine Zc (v:=?_) rfl rfl rfl ?_ ?_;rotate_left;(· (intro _ z;go_simp;(try go_bits);(try with_reducible rfl)))) | (refine Ze (v:=?_) rfl rfl rfl ?_ ?_;rotate_left;(· (intro _ z;go_simp;(try go_bits);(try with_reducible rfl)))) | refine Zf rfl rfl rfl ?_);(try simp only [Act.put,pu1,pu2,pu3,pu4,pu5,pu6]))
   refine Zg rfl rfl (fun KR hKR=>?_);go_simp;refine hKR.out _ _ (Or.inl (by decide)) ?_;clear hKR KR;(try simp only [Act.put,pu1,pu2,pu3,pu4,pu5,pu6]);refine Zv ?_;have G:=Za hb h hb.size;obtain ⟨H,I⟩:=M.set_ (k:=j) (by rw [Zu];exact p) e9;rw [V9 p,a5.out] at H;have a7:=(hX.later h).far4' (show w.heap.size≠g by omega) (j * 4) (j * 4+1) (j * 4+2) (j * 4+3) (.bool (canF (xq+kf.q * ef.q)).num.neg) (.slice C1 l5 k5) (.bool (canF (xq+kf.q * ef.q)).den.neg) (.slice C2 l6 k6);have N:=(S.below h).keep (I.keep (by decide));have a8:=ZB G (show w.heap.size≤g by omega) (j * 4) (j * 4+1) (j * 4+2) (j * 4+3) (.bool (canF (xq+kf.q * ef.q)).num.neg) (.slice C1 l5 k5) (.bool (canF (xq+kf.q * ef.q)).den.neg) (.slice C2 l6 k6);clear hb G hO M h s r aa ab e8 e9 hX S a9 T t0 t1 t2 t3 f0 f1 f2 f3 C0 C3 C4 D0 D1 D2 D3 E0 E1 E2 E3 I;go_wp2;go_roundw
   case rel=>exact ⟨k+1,by omega,by go_num,a8,a7,N,H⟩
   case measure=>simp [intOf];omega
  ·obtain rfl:l=k:=by omega
   have am:Hid (RsL J (YT n (TQ l))):=JZ fun i f hf=>by
    have hi:i < n:=(by have:=(List.getElem?_eq_some_iff.1 hf).1;rwa [Zu] at this);rw [Z7 hi] at hf;injection hf with hf;rw [← hf];exact (HZ.out l i (JY _) hi).rs
   have an:Hid (spV (qAt (YT n (TQ l))) n=spV (TQ l) n):=JZ (WM fun i hi=>Zpu hi);go_wp2_with fail;refine (fromDense1_own _ (YT n (TQ l)) J _ hO.frs (by rw [Zu];omega) am.out hJ).mono ?_;rw [Zu,an.out];rintro _ w5 ⟨v5,rfl,e5,ar⟩;go_wp2;go_ret2;exact ⟨_,rfl,e5.monoB hb.size,Za hb ar hb.size⟩
theorem multiply1_own [Old] (vc vx:Value) (cols:List (List En)) (xs:List En) (n m K J:Nat) (w:World) (h1:Xf w vc cols) (h2:Wy w vx xs) (hl:cols.length=m) (hm:m≤60) (hn:n≤60) (hg:∀(k:Nat) (c:List En),cols[k]? =some c→Pl.Good n c∧EnW c∧∀(j:Nat) (e:En),c[j]? =some e→e.f.Rs K) (hgx:Pl.Good m xs) (hwx:EnW xs) (hkx:∀(j:Nat) (e:En),xs[j]? =some e→e.f.Rs K) (hS:∀k r,k≤xs.length→r < n→Sz J (dotS (xs.take k) fun j=>Yu cols j r)) (hK1:1≤K) (hK:K≤17179869184) (hJ:J≤34359738368) (hOl:Zb w:=by (repeat (first | assumption | exact Zb.up (by assumption) hOl | exact Zb.up (Hid.out (by assumption)) hOl | with_reducible refine Zb.set ?_ _ _ | with_reducible refine Zb.mk_ ?_ _ | with_reducible refine Zb.dr ?_ | with_reducible refine Zb.drN ?_ | refine Zb.up (by assumption) ?_ | refine Zb.up (Hid.out (by assumption)) ?_))):
 Calls Tryz.prog 31 #[vc,vx,.int .i64 (n:Int)] w fun o w'=>∃v',o= .returned (.tuple #[v',.int .i64 0])∧Wy w' v' (spV (fun r=>dotS xs fun j=>Yu cols j r) n)∧Below w.heap.size w w':=by
 have ae:=hOl.le;obtain ⟨Ac,cc,rfl,aa,ah⟩:=h1.shape;obtain ⟨Ax,cx,rfl,ai,aj⟩:=h2.shape;have H1:=JZ h1;have H2:=JZ h2;have HG:=JZ hg;have N:=JZ hwx;have O:=JZ hkx;have P:=JZ hgx;have HS:=JZ hS;have B:=JZ hl;have R:=JZ (hgx.err (show m≤4096 by omega));have T:Hid (∀(k:Nat) (e:En),xs[k]? =some e→e.f.Sh):=JZ fun k e he=>(hkx k e he).sh (by omega)
 have U:Hid (EnI xs):=JZ fun k e he=>by have:=hgx.1 k e he;omega
 rw [hl] at aa ⊢;have af:=hgx.len;generalize hlx':xs.length=lx at *;have V:=JZ hlx';obtain ⟨S,l⟩:∃S:Nat→Nat→Rat,S=fun k r=>dotS (xs.take k) fun j=>Yu cols j r:=⟨_,rfl⟩
 have g:=JZ l;have C:Hid (spV (S lx) n=spV (fun r=>dotS xs fun j=>Yu cols j r) n):=JZ (by rw [l,← hlx'];simp only [List.take_length]);rw [← C.out];have X:Hid (([]:List En)=spV (S 0) n):=JZ (by
  rw [l];exact (spV0 n).symm)
 clear h1 h2 hg hwx hkx hgx hS hl hlx' l;go_enter Tryz.func31,Tryz.ntmps31;go_wp2
 go_loopw [8] (fun x wr=>∃k:Nat,k≤m∧x= .int .i64 k∧Below w.heap.size w wr) (fun x _=>m - (intOf x).toNat)
 case atStart=>exact ⟨0,by omega,rfl,JR _ _⟩
 case round=>
  obtain ⟨k,hk,rfl,hb⟩:=hrel;rcases JX k m with hkl | hkl
  ·have Y:(k:Int) < m:=(by omega);obtain ⟨c,hc⟩:=XI (cs:=cols) (i:=k) (by rw [B.out];exact hkl);obtain ⟨b5,o5,A5,c5,z,_,x0,d⟩:=H1.out.elem hb hc;subst z;obtain ⟨g1,g2,g3⟩:=HG.out k c hc;have he:=g1.err (show n≤4096 by omega);have D:EnI c:=fun k e he=>by have:=g1.1 k e he;omega
   clear hc;go_wp2_with fail;refine (Zdo _ c (n:Int) _ d (fun k e he=>(g3 k e he).sh (by omega)) D (by omega) (by omega)).mono ?_;rw [he];rintro _ w2 ⟨rfl,p⟩;clear g1 g2 g3 he D x0 d;go_wp2;go_roundw
   case rel=>exact ⟨k+1,by omega,by go_num,Za hb p hb.size⟩
   case measure=>simp [intOf];omega
  ·obtain rfl:m=k:=by omega
   go_wp2_with fail;refine (Zdo _ xs (m:Int) _ (H2.out.below hb) T.out U.out (by omega) (by omega)).mono ?_;rw [R.out];rintro _ w2 ⟨rfl,p⟩;have E:=Za hb p hb.size;clear hb p;go_wp2
   go_loopw [11,12] (fun u x wr=>∃k:Nat,k≤lx∧x= .int .i64 k∧Below w.heap.size w wr∧Wy wr u (spV (S k) n)) (fun _ x _=>lx - (intOf x).toNat)
   case atStart=>exact ⟨0,by omega,rfl,E,by rw [← X.out];exact (Wz.nil 0 _).vec⟩
   case round=>
    clear E;obtain ⟨k,hk,rfl,hb,hs⟩:=hrel;rcases JX k lx with hkl | hkl
    ·have Y:(k:Int) < lx:=(by omega);obtain ⟨e,he⟩:=YS (es:=xs) (i:=k) (by rw [V.out];exact hkl);obtain ⟨b5,o5,A5,n5,c5,A6,n6,c6,z,_,⟨x0,x1,x2,x3,x4⟩,G⟩:=H2.out.elem hb he;subst z;obtain ⟨i0,i1⟩:=P.out.1 k e he;obtain ⟨j,hj⟩:=JT i0;have Z:j < m:=(by omega);obtain ⟨c,hc⟩:=XI (cs:=cols) (i:=j) (by rw [B.out];exact Z);obtain ⟨b7,o7,A7,c7,ab,_,y0,d⟩:=H1.out.elem hb hc;subst ab;obtain ⟨g1,g2,g3⟩:=HG.out j c hc;have s:=JZ g1;have a0:=JZ g2;have a1:=JZ g3;have a2:=JZ (N.out k e he);have a3:=JZ (O.out k e he);have F:=Wu hc;have a:∀r,S (k+1) r=S k r+e.f.q * XZ c r:=fun r=>by
      rw [g.out];show dotS (xs.take (k+1)) _=dotS (xs.take k) _+_;rw [dotS_take he,hj];show _+_ * Yu cols j r=_;rw [F]
     have h:∀r,r < n→XZ (spV (S k) n) r=S k r:=fun r hr=>by rw [Zsb,if_pos hr]
     have a4:Hid (∀t r,t≤c.length→r < n→Sz J (VE c n (-e.f.q) (XZ (spV (S k) n)) t r)):=JZ fun t r ht hr=>by
      have e1:Sz J (S k r):=(by have:=HS.out k r hk hr;rw [g.out];exact this);have e2:Sz J (S (k+1) r):=(by have:=HS.out (k+1) r hkl hr;rw [g.out];exact this);rcases subQ_some s.out (-e.f.q) (XZ (spV (S k) n)) (i:=r) ht with q | ⟨_,q⟩
      ·rw [q,h r hr];exact e1
      ·rw [q,h r hr,show S k r - XZ c r * -e.f.q=S (k+1) r by rw [a];grind];exact e2
     have a5:Hid (spV (VE c n (-e.f.q) (XZ (spV (S k) n)) c.length) n=spV (S (k+1)) n):=JZ (WM fun r hr=>by
      rw [subQ_all s.out _ _ hr,h r hr,a];grind)
     have a6:=JZ (Zqi (S k) n);have a7:Hid (∀(i:Nat) (e:En),(spV (S k) n)[i]? =some e→e.f.Rs J):=JZ (Zsc fun r hr=>by have:=HS.out k r hk hr;rw [g.out];exact this);obtain ⟨Au,cu,H,ac,ak⟩:=hs.shape;obtain ⟨lu,I⟩:∃x,(spV (S k) n).length=x:=⟨_,rfl⟩;obtain ⟨lc,L⟩:∃x,c.length=x:=⟨_,rfl⟩;rw [I] at H ac;subst H;rw [L] at d y0;have ag:(j:Int) < m:=(by omega);clear he hc F a h g1 g2 g3 I L;obtain ⟨ei,ef⟩:=e;simp only at *;subst hj;generalize ad:S k=Sk at *;clear ad;go_wp2_with fail;have C0:=Zr x0;have C1:=Zr x1;have C2:=Zr x2;have C3:=Zr x3;have C4:=Zr x4;have E0:=Zr y0;have b:=Zj wr;clear x0 x1 x2 x3 x4 y0;refine Zt 20 [0,1,2,3,4,5,6,7,8,9,10,11,12,13,14,15,16,17,18,19] (by kernel_rfl) (by kernel_rfl) ?_;repeat ((first | (refine Zc (v:=?_) rfl rfl rfl ?_ ?_;rotate_left;(· (intro _ A;go_simp;(try go_bits);(try with_reducible rfl)))) | (refine Ze (v:=?_) rfl rfl rfl ?_ ?_;rotate_left;(· (intro _ A;go_simp;(try go_bits);(try with_reducible rfl)))) | refine Zf rfl rfl rfl ?_);(try simp only [Act.put,pu1,pu2,pu3,pu4,pu5,pu6]))
     refine Zg rfl rfl (fun KR hKR=>?_);go_simp;(with_reducible refine (addScaled1_own _ _ _ (spV Sk n) c ef n K J _ (hs.below b) (d.below b) (G.below b) hn a7.out a1.out a0.out a2.out a3.out a6.out s.out a4.out hK1 (by omega) (by omega)).mono ?_);rw [a5.out];rintro _ w8 ⟨v8,rfl,e8,M⟩;have y:=Za b M b.size;refine hKR.out _ _ (Or.inr y) ?_;clear hKR KR;(try simp only [Act.put,pu1,pu2,pu3,pu4,pu5,pu6]);repeat ((first | (refine Zc (v:=?_) rfl rfl rfl ?_ ?_;rotate_left;(· (intro _ A;go_simp;(try go_bits);(try with_reducible rfl)))) | (refine Ze (v:=?_) rfl rfl rfl ?_ ?_;rotate_left;(· (intro _ A;go_simp;(try go_bits);(try with_reducible rfl)))) | refine Zf rfl rfl rfl ?_);(try simp only [Act.put,pu1,pu2,pu3,pu4,pu5,pu6]))
     refine Zv ?_;have a8:=Za hb y hb.size;have a9:=e8.vec;clear hb hs b y M e8 G d C0 C1 C2 C3 C4 E0;go_wp2;go_roundw
     case rel=>exact ⟨k+1,by omega,by go_num,a8,a9⟩
     case measure=>simp [intOf];omega
    ·obtain rfl:lx=k:=by omega
     go_wp2;go_ret2;exact ⟨_,rfl,hs,hb⟩
section
attribute [local irreducible] Yi
end
section
attribute [local irreducible] Yi
end
section
section
variable {P:Program} {ops:Array Oper} {Q:Exit→Act→World→Prop} {S:World→Prop} {n:Nat}
def putL (a:Act) (l:List (Nat × Nat)) (s:Nat→Value):Act:=l.foldl (fun a x=>a.put (some x.2) (s x.1)) a
def updL (s:Nat→Value) (i:Nat) (v:Value):Nat→Value:=fun k=>if k=i then v else s k
theorem updL_at (s:Nat→Value) (i:Nat) (v:Value):updL s i v i=v:=if_pos rfl
theorem updL_of {s:Nat→Value} {i k:Nat} {v:Value} (h:k≠i):updL s i v k=s k:=if_neg h
def StepL (P:Program) (ops:Array Oper) (Q:Exit→Act→World→Prop) (S:World→Prop) (n:Nat) (l:List (Nat × Nat)) (a:Act) (R:(Nat→Prop)→(Nat→Value)→World→Prop) (i:Nat):Prop:=
 ∀D s w,¬D i→(∀k∈l.map (·.1),Zwq ops i k=true→D k)→R D s w→Yi P ops Q S n i (fun a' w'=>∃v,a'=putL a l (updL s i v)∧R (fun k=>D k∨k=i) (updL s i v) w') (putL a l s) w
theorem plan_bagL {l:List (Nat × Nat)} {is:List Nat} {p:UD} {a:Act} {w:World} (R:(Nat→Prop)→(Nat→Value)→World→Prop) (s0:Nat→Value) (his:l.map (·.1)=is) (ha:a=putL a l s0) (hl:is.Nodup) (h0:R (fun _=>False) s0 w)
 (hs:∀i∈is,StepL P ops Q S n l a R i)
 (h1:∀D s w,(∀k∈is,D k)→R D s w→Z8 P ops Q S n p (putL a l s) w):Z8 P ops Q S n (.bag is p) a w:=by
 subst his;refine Zqd (fun D a' w=>∃s,a'=putL a l s∧R D s w) hl ⟨s0,ha,h0⟩ ?_ ?_
 ·rintro D a' w i oi hi hn ho hd ⟨s,rfl,hR⟩;refine (hs i hi D s w hn (fun k hk hb=>?_) hR).mono ?_
  ·unfold Zwq at hb;rw [ho] at hb;simp only [Array.any_eq_true,Bool.and_eq_true,beq_iff_eq] at hb;obtain ⟨j,hj,h1,h2⟩:=hb;subst h2;exact hd _ (Array.getElem_mem hj) h1 hk
  ·rintro a' w' ⟨v,rfl,hv⟩;exact ⟨_,rfl,hv⟩
 ·rintro D a' w hd ⟨s,rfl,hR⟩;exact h1 D s w hd hR
theorem StepL.mk {l:List (Nat × Nat)} {a:Act} {R:(Nat→Prop)→(Nat→Value)→World→Prop} {i:Nat} {o:Oper} (ho:ops[i]? =some o)
 (h:∀D s w b,b=putL a l s→¬D i→(∀k∈l.map (·.1),Zwq ops i k=true→D k)→R D s w→∀K':Act→World→Prop,Shut (∀a' w',(n≤i∨S w')→(∃v,a'=putL a l (updL s i v)∧R (fun k=>D k∨k=i) (updL s i v) w')→K' a' w')→if Region.wanted o (yielded ops b.tmps)=true then Oper.wp P o b w K' Q else K' (b.put o.dst undef) w):StepL P ops Q S n l a R i:=
 fun D s w hn hd hr=>Vb ho (h D s w _ rfl hn hd hr)
end
end
theorem Zkv.refl [Old] (gc:Nat) (w:World):Zkv gc w w:=fun _ _ _ _ _ h=>h
theorem Zkv.of_below [Old] {gc:Nat} {w w':World} (hb:Below w.heap.size w w'):Zkv gc w w':=fun b _ _ _ _ h=>(hb.block b (Ye h)).trans h
theorem Zkv.of_but [Old] {gc:Nat} {e:TypeId} {w w':World} (hk:Zk e w w') (he:e=74∨e=87):Zkv gc w w':=fun b cs t fz ht h=>hk b cs t fz (ht.imp (fun hq=>by obtain ⟨h1,_,h3⟩:=hq;rcases he with rfl | rfl <;> assumption) id) h
theorem Zkv.bk [Old] {gc:Nat} {w w':World} {g:Nat} {t:TypeId} {cs:List Value} (h:Zkv gc w w') (hb:Bk w g t cs) (h1:t≠74) (h2:t≠28) (h3:t≠87):Bk w' g t cs:=h g _ t _ (.inl ⟨h1,.inl h2,h3⟩) hb
theorem Zxc.below [Old] {gc base bi g n K:Nat} {w w':World} {Cs:Mx} (h:Zxc gc base bi w g n K Cs) (hb:Below w.heap.size w w'):Zxc gc base bi w' g n K Cs:=by
 obtain ⟨T,cc,k,R,C,im,V,L,Um,CC,s0,s1,s2,s3,vu,h1,h2,h3,h4,h5,h6,h7,h8,h9,a⟩:=h;exact ⟨T,cc,k,R,C,im,V,L,Um,CC,s0,s1,s2,s3,vu,h1.later hb,h2,h3,h4,h5.below hb,h6.below hb,h7.below hb,h8.below hb,h9.below hb,a.below hb⟩
theorem Zxc.but [Old] {gc base bi g n K:Nat} {w w':World} {Cs:Mx} {e:TypeId} (h:Zxc gc base bi w g n K Cs) (hk:Zk e w w') (e1:74≠e) (e2:28≠e) (e3:39≠e) (e4:106≠e) (e5:3≠e) (e6:87≠e) (e7:36≠e):Zxc gc base bi w' g n K Cs:=by
 obtain ⟨T,cc,k,R,C,im,V,L,Um,CC,s0,s1,s2,s3,vu,h1,h2,h3,h4,h5,h6,h7,h8,h9,a⟩:=h;exact ⟨T,cc,k,R,C,im,V,L,Um,CC,s0,s1,s2,s3,vu,hk.bk h1 e1,h2,h3,h4,h5.but hk e2 e3 e4,h6.but hk e5,h7.but hk e5,h8.but hk e2 e3 e4,h9.but hk e2 e3 e4,a.but hk e6 e7 e4⟩
section
def BasZ [Old] (gc base bi:Nat) (w:World) (g n K:Nat) (Cs:Mx) (R C:Nat→Nat) (L Um:Mx):Prop:=
 ∃(cc:Nat) (s0 s1 s2 s3 vu:Value),
  Bk w g 74 [.int .i64 (n:Int),.slice (some ⟨gc,0,none⟩) n cc,s0,s1,s2,s3,vu]∧(base≤g∧5^n * K≤4000000∧1≤K)∧(∀r c,r < n→c < n→Sz K (Cs c r))∧XA n Cs∧Znq n (5^n * K) (trM Cs) R C L Um∧
  Yl base w (.slice (some ⟨gc,0,none⟩) n cc) (vcL n Cs)∧ZJ base w s0 (Zdg n R)∧ZJ base w s1 (Zdg n C)∧Yl (gc+1) w s2 (vcL n L)∧Yl (gc+1) w s3 (vcL n Um)∧Zlc base bi w vu 0 n (fun _=>0) (fun _ _=>0)
section
variable {gc base bi g n K:Nat} {w w':World} {Cs:Mx} {R C:Nat→Nat} {L Um:Mx}
theorem BasZ.bas [Old] (h:BasZ gc base bi w g n K Cs R C L Um):Zxc gc base bi w g n K Cs:=by
 obtain ⟨cc,s0,s1,s2,s3,vu,h1,⟨h2,h3,d⟩,h4,h5,h6,h7,h8,h9,a,b,c⟩:=h;exact ⟨0,cc,fun _=>0,R,C,fun _ _=>0,fun _ _=>0,L,Um,fun _=>Cs,s0,s1,s2,s3,vu,h1,⟨h2,by omega,h3,rfl⟩,Ups.zero h4 h5 _ _ _,h6,h7,h8,h9,a,b,c⟩
end
theorem refreshZ_own [Old] (base bi g n K T gc cc:Nat) (Cs:Mx) (s0 s1 s2 s3:Value) (Au:Option Addr) (cu:Nat) (w:World) (hX:Bk w g 74 [.int .i64 (n:Int),.slice (some ⟨gc,0,none⟩) n cc,s0,s1,s2,s3,.slice Au T cu]) (hge:base≤g) (hO:Yl base w (.slice (some ⟨gc,0,none⟩) n cc) (vcL n Cs)) (hT:1≤T) (hT2:T≤17) (hn:n≤7) (hK:1≤K) (hE:5^n * K≤4000000)
 (hs:∀r c,r < n→c < n→Sz K (Cs c r)) (hi:XA n Cs) (hbase:base≤w.heap.size) (hOl:Zb w:=by (repeat (first | assumption | exact Zb.up (by assumption) hOl | exact Zb.up (Hid.out (by assumption)) hOl | with_reducible refine Zb.set ?_ _ _ | with_reducible refine Zb.mk_ ?_ _ | with_reducible refine Zb.dr ?_ | with_reducible refine Zb.drN ?_ | refine Zb.up (by assumption) ?_ | refine Zb.up (Hid.out (by assumption)) ?_))) (hOb:Old.n≤base:=by first | assumption | exact Nat.zero_le _ | omega | ((first | with_reducible refine Zb.le ?_ | with_reducible refine Zb.le1 ?_ | with_reducible refine Zb.le2 ?_ | with_reducible refine Zb.le3 ?_);repeat (first | assumption | exact Zb.up (by assumption) hOl | exact Zb.up (Hid.out (by assumption)) hOl | with_reducible refine Zb.set ?_ _ _ | with_reducible refine Zb.mk_ ?_ _ | with_reducible refine Zb.dr ?_ | with_reducible refine Zb.drN ?_ | refine Zb.up (by assumption) ?_ | refine Zb.up (Hid.out (by assumption)) ?_))):
 Calls Tryz.prog 47 #[.pointer (some ⟨g,0,none⟩)] w fun o w'=>o= .returned (.tuple #[])∧(∃R C L Um,BasZ gc base bi w' g n K Cs R C L Um)∧Below base w w'∧Zkv gc w w':=by
 have l:=hOl.le;have y1:=hX.cellAt 1 rfl;have y6:=hX.cellAt 6 rfl;have HX:=JZ hX;have HO:=JZ hO;have HS:=JZ hs;have HI:=JZ hi;have HK:=JZ hK;have HE:=JZ hE;have f:gc < w.heap.size:=by
  obtain ⟨cs,h1,_⟩:=hO;exact Vz h1 gc rfl
 clear hX hO hs hi hK hE;go_enter Tryz.func47,Tryz.ntmps47;go_wp2_with fail;clear y1 y6;refine (Zdm _ n K Cs _ HO.out.vecs hn HK.out HE.out HS.out).mono ?_;rintro _ w1 ⟨e,⟨R,C,L,Um,z0,z1,z2,z3,rfl,hF,h0,h1,h2,h3⟩ | ⟨rfl,k⟩⟩
 ·have HF:=JZ hF;obtain ⟨A0,c0,rfl⟩:=h0.nshape;obtain ⟨A1,c1,rfl⟩:=h1.nshape;obtain ⟨A2,c2,rfl⟩:=h2.nshape;obtain ⟨A3,c3,rfl⟩:=h3.nshape;obtain ⟨W2,j,hY,b⟩:∃W2,w1.alloc (.cells #[.slice A0 n c0,.slice A1 n c1,.slice A2 n c2,.slice A3 n c3] 69)=W2∧Bk W2 w1.heap.size 69 [.slice A0 n c0,.slice A1 n c1,.slice A2 n c2,.slice A3 n c3]∧Below w1.heap.size w1 W2:=⟨_,rfl,Bk.new w1 _ _,Zd w1 _⟩;obtain ⟨x0,x1,x2,x3⟩:=hY.four;have d:=Za e b e.size;have a:=HX.out.later d;have e0:=h0.below b;have e1:=h1.below b;have e2:=h2.below b;have e3:=h3.below b;have h:=HO.out.below d;have q2:=a.cellAt 2 rfl;have q3:=a.cellAt 3 rfl;have q4:=a.cellAt 4 rfl;have q5:=a.cellAt 5 rfl;have q6:=a.cellAt 6 rfl;have r2:=a.frozen 2;have r3:=a.frozen 3;have r4:=a.frozen 4;have r5:=a.frozen 5;have r6:=a.frozen 6;clear hF h0 h1 h2 h3 hY e b;go_wp2;clear j x0 x1 x2 x3 q2 q3 q4 q5 q6 r2 r3 r4 r5 r6;have b2:=a.set_ 2 (.slice A0 n c0);have b3:=b2.set_ 3 (.slice A1 n c1);have b4:=b3.set_ 4 (.slice A2 n c2);have b5:=b4.set_ 5 (.slice A3 n c3);have b6:=b5.set_ 6 (.slice none 0 0);have kk:=(((Zk.setCell a 2 (.slice A0 n c0)).trans (Zk.setCell b2 3 (.slice A1 n c1))).trans (Zk.setCell b3 4 (.slice A2 n c2))).trans ((Zk.setCell b4 5 (.slice A3 n c3)).trans (Zk.setCell b5 6 (.slice none 0 0)));have i:=(((((d.mono hbase).setCell (p:=⟨g,2,none⟩) hge (.slice A0 n c0)).setCell (p:=⟨g,3,none⟩) hge (.slice A1 n c1)).setCell (p:=⟨g,4,none⟩) hge (.slice A2 n c2)).setCell (p:=⟨g,5,none⟩) hge (.slice A3 n c3)).setCell (p:=⟨g,6,none⟩) hge (.slice none 0 0)
  go_end0
  exact ⟨rfl,⟨R,C,L,Um,cc,_,_,_,_,_,b6,⟨hge,HE.out,HK.out⟩,HS.out,HI.out,HF.out,h.but kk (by decide) (by decide) (by decide),(e0.but kk (by decide)).monoB hbase,(e1.but kk (by decide)).monoB hbase,(e2.but kk (by decide) (by decide) (by decide)).monoB f,(e3.but kk (by decide) (by decide) (by decide)).monoB f,Zlc.nil _ _ _ _ _ _⟩,i,(Zkv.of_below d).trans (Zkv.of_but kk (.inl rfl))⟩
 ·exact absurd HI.out k
theorem refreshZ_any [Old] (gc base bi g n K:Nat) (Cs:Mx) (w:World) (hB:Zxc gc base bi w g n K Cs) (hbase:base≤w.heap.size) (hOl:Zb w:=by (repeat (first | assumption | exact Zb.up (by assumption) hOl | exact Zb.up (Hid.out (by assumption)) hOl | with_reducible refine Zb.set ?_ _ _ | with_reducible refine Zb.mk_ ?_ _ | with_reducible refine Zb.dr ?_ | with_reducible refine Zb.drN ?_ | refine Zb.up (by assumption) ?_ | refine Zb.up (Hid.out (by assumption)) ?_))) (hO:Old.n≤base:=by first | assumption | exact Nat.zero_le _ | omega | ((first | with_reducible refine Zb.le ?_ | with_reducible refine Zb.le1 ?_ | with_reducible refine Zb.le2 ?_ | with_reducible refine Zb.le3 ?_);repeat (first | assumption | exact Zb.up (by assumption) hOl | exact Zb.up (Hid.out (by assumption)) hOl | with_reducible refine Zb.set ?_ _ _ | with_reducible refine Zb.mk_ ?_ _ | with_reducible refine Zb.dr ?_ | with_reducible refine Zb.drN ?_ | refine Zb.up (by assumption) ?_ | refine Zb.up (Hid.out (by assumption)) ?_))):
 Calls Tryz.prog 47 #[.pointer (some ⟨g,0,none⟩)] w fun o w'=>o= .returned (.tuple #[])∧(∃R C L Um,BasZ gc base bi w' g n K Cs R C L Um)∧Below base w w'∧Zkv gc w w':=by
 have i:=hOl.le;obtain ⟨T,cc,k,R,C,im,V,L,Um,CC,s0,s1,s2,s3,vu,hX,⟨b,hT,hE,c⟩,hU,hF,hO,i0,i1,v2,v3,a⟩:=hB;obtain ⟨Au,cu,rfl,f,h⟩:=a.shape;have hK:1≤K:=Nat.pos_of_ne_zero fun e=>by have:=hF.e1;subst e;simp at this
 rcases JV T with hz | hp
 ·subst hz;subst c;have y6:=hX.cellAt 6 rfl;have hZ:BasZ gc base bi w g n K (CC 0) R C L Um:=by
   obtain ⟨cs,d,_⟩:=a;exact ⟨cc,s0,s1,s2,s3,_,hX,⟨b,hE,hK⟩,hU.szC,hU.ind,hF,hO,i0,i1,v2,v3,cs,d,fun t ht=>absurd ht (by omega)⟩
  have HZ:=JZ hZ;clear hX hE hU hF hO i0 i1 v2 v3 a hZ;go_enter Tryz.func47,Tryz.ntmps47;go_wp2;refine bodyPost_ret (results_none rfl _ _ _) rfl ?_;exact ⟨rfl,⟨_,_,_,_,HZ.out⟩,JR _ _,Zkv.refl _ _⟩
 ·have hs:=hU.sz T (JY _);have hi:=hU.indep T (JY _);rw [c] at hs hi;exact refreshZ_own base bi g n K T gc cc Cs s0 s1 s2 s3 Au cu w hX b hO hp (by omega) hF.n7 hK hE hs hi hbase
end
section
def FaR [Old] (U:World) (n:Nat) (R C:Nat→Nat) (D:Nat→Prop) (s:Nat→Value) (w:World):Prop:=
 Below U.heap.size U w∧(D 5→ZJ U.heap.size w (s 5) (Zdg n R))∧(D 11→ZJ U.heap.size w (s 11) (Zdg n C))∧(D 16→∃g,s 16= .slice (some ⟨g,0,none⟩) n n∧g < w.heap.size∧Yl U.heap.size w (.slice (some ⟨g,0,none⟩) n n) (List.replicate n []))∧(D 21→∃g,s 21= .slice (some ⟨g,0,none⟩) n n∧g < w.heap.size∧Yl U.heap.size w (.slice (some ⟨g,0,none⟩) n n) (List.replicate n []))∧(D 22→(D 5∧D 11∧D 16∧D 21)∧s 22= .agg #[s 5,s 11,s 16,s 21])∧(D 23→∃g,s 23= .pointer (some ⟨g,0,none⟩)∧U.heap.size≤g∧Bk w g 48 [.slice none 0 0,.slice none 0 0,.slice none 0 0,.slice none 0 0])∧(D 16→D 21→s 16≠s 21)
theorem keep4_set4 [Old] {gc:Nat} {w wr:World} {g:Nat} (h:Zkv gc w wr) (hg:w.heap.size≤g) (x y z u:Value):Zkv gc w ((((wr.setCell ⟨g,0,none⟩ x).setCell ⟨g,1,none⟩ y).setCell ⟨g,2,none⟩ z).setCell ⟨g,3,none⟩ u):=fun b cs t fz ht hb=>by
 have hne:b≠g:=by have:=Ye hb;omega
 rw [heap_setCell_other _ _ _ _ hne,heap_setCell_other _ _ _ _ hne,heap_setCell_other _ _ _ _ hne,heap_setCell_other _ _ _ _ hne]
 exact h b cs t fz ht hb
section
variable {U w:World} {n:Nat} {R C:Nat→Nat} {D:Nat→Prop} {s:Nat→Value}
theorem FaR.later [Old] {w':World} (h:FaR U n R C D s w) (hb:Below w.heap.size w w'):FaR U n R C D s w':=by
 obtain ⟨h0,h5,a,b,c,f,i,j⟩:=h;have hs:=hb.size;refine ⟨Za h0 hb h0.size,fun d=>(h5 d).below hb,fun d=>(a d).below hb,fun d=>?_,fun d=>?_,f,fun d=>?_,j⟩
 ·obtain ⟨g,e,k,l⟩:=b d;exact ⟨g,e,by omega,l.below hb⟩
 ·obtain ⟨g,e,k,l⟩:=c d;exact ⟨g,e,by omega,l.below hb⟩
 ·obtain ⟨g,e,k,l⟩:=i d;exact ⟨g,e,k,l.later hb⟩
theorem FaR.set5 [Old] (h:FaR U n R C D s w) (hd:¬D 5) {v:Value} {w':World} (hb:Below w.heap.size w w') (hv:ZJ U.heap.size w' v (Zdg n R)):FaR U n R C (fun k=>D k∨k=5) (updL s 5 v) w':=by
 obtain ⟨h0,h5,a,b,c,f,g,i⟩:=h.later hb;exact ⟨h0,fun _=>by rw [updL_at];exact hv,fun d=>by rw [updL_of (by decide)];exact a (d.resolve_right (by decide)),fun d=>by rw [updL_of (by decide)];exact b (d.resolve_right (by decide)),fun d=>by rw [updL_of (by decide)];exact c (d.resolve_right (by decide)),fun d=>absurd (f (d.resolve_right (by decide))).1.1 hd,fun d=>by rw [updL_of (by decide)];exact g (d.resolve_right (by decide)),fun d e=>by rw [updL_of (by decide),updL_of (by decide)];exact i (d.resolve_right (by decide)) (e.resolve_right (by decide))⟩
theorem FaR.set11 [Old] (h:FaR U n R C D s w) (hd:¬D 11) {v:Value} {w':World} (hb:Below w.heap.size w w') (hv:ZJ U.heap.size w' v (Zdg n C)):FaR U n R C (fun k=>D k∨k=11) (updL s 11 v) w':=by
 obtain ⟨h0,h5,i,a,b,c,f,g⟩:=h.later hb;exact ⟨h0,fun d=>by rw [updL_of (by decide)];exact h5 (d.resolve_right (by decide)),fun _=>by rw [updL_at];exact hv,fun d=>by rw [updL_of (by decide)];exact a (d.resolve_right (by decide)),fun d=>by rw [updL_of (by decide)];exact b (d.resolve_right (by decide)),fun d=>absurd (c (d.resolve_right (by decide))).1.2.1 hd,fun d=>by rw [updL_of (by decide)];exact f (d.resolve_right (by decide)),fun d e=>by rw [updL_of (by decide),updL_of (by decide)];exact g (d.resolve_right (by decide)) (e.resolve_right (by decide))⟩
theorem FaR.set16 [Old] (h:FaR U n R C D s w) (hd:¬D 16) (hn:n≤maxLen):FaR U n R C (fun k=>D k∨k=16) (updL s 16 (.slice (some ⟨w.heap.size,0,none⟩) n n)) (w.alloc (.cells (zvc n) 28)):=by
 have hz:=Yl.zeros w n hn;obtain ⟨h0,h5,a,i,b,c,f,j⟩:=h.later (Zd w (.cells (zvc n) 28));exact ⟨h0,fun d=>by rw [updL_of (by decide)];exact h5 (d.resolve_right (by decide)),fun d=>by rw [updL_of (by decide)];exact a (d.resolve_right (by decide)),fun _=>by rw [updL_at];exact ⟨_,rfl,by simp,hz.monoB h.1.size⟩,fun d=>by rw [updL_of (by decide)];exact b (d.resolve_right (by decide)),fun d=>absurd (c (d.resolve_right (by decide))).1.2.2.1 hd,fun d=>by rw [updL_of (by decide)];exact f (d.resolve_right (by decide)),fun _ d e=>by
  rw [updL_at,updL_of (by decide)] at e;obtain ⟨g,e1,e2,_⟩:=h.2.2.2.2.1 (d.resolve_right (by decide));rw [e1] at e;injection e with e;injection e with e;injection e with e;omega⟩
theorem FaR.set21 [Old] (h:FaR U n R C D s w) (hd:¬D 21) (hn:n≤maxLen):FaR U n R C (fun k=>D k∨k=21) (updL s 21 (.slice (some ⟨w.heap.size,0,none⟩) n n)) (w.alloc (.cells (zvc n) 28)):=by
 have hz:=Yl.zeros w n hn;obtain ⟨h0,h5,a,b,i,c,f,j⟩:=h.later (Zd w (.cells (zvc n) 28));exact ⟨h0,fun d=>by rw [updL_of (by decide)];exact h5 (d.resolve_right (by decide)),fun d=>by rw [updL_of (by decide)];exact a (d.resolve_right (by decide)),fun d=>by rw [updL_of (by decide)];exact b (d.resolve_right (by decide)),fun _=>by rw [updL_at];exact ⟨_,rfl,by simp,hz.monoB h.1.size⟩,fun d=>absurd (c (d.resolve_right (by decide))).1.2.2.2 hd,fun d=>by rw [updL_of (by decide)];exact f (d.resolve_right (by decide)),fun d _ e=>by
  rw [updL_of (by decide),updL_at] at e;obtain ⟨g,e1,e2,_⟩:=h.2.2.2.1 (d.resolve_right (by decide));rw [e1] at e;injection e with e;injection e with e;injection e with e;omega⟩
theorem FaR.set22 [Old] (h:FaR U n R C D s w) (d5:D 5) (d11:D 11) (d16:D 16) (d21:D 21):FaR U n R C (fun k=>D k∨k=22) (updL s 22 (.agg #[s 5,s 11,s 16,s 21])) w:=by
 obtain ⟨h0,h5,a,b,c,i,f,g⟩:=h.later (JR _ _);exact ⟨h0,fun d=>by rw [updL_of (by decide)];exact h5 (d.resolve_right (by decide)),fun d=>by rw [updL_of (by decide)];exact a (d.resolve_right (by decide)),fun d=>by rw [updL_of (by decide)];exact b (d.resolve_right (by decide)),fun d=>by rw [updL_of (by decide)];exact c (d.resolve_right (by decide)),fun _=>⟨⟨Or.inl d5,Or.inl d11,Or.inl d16,Or.inl d21⟩,by rw [updL_at,updL_of (by decide),updL_of (by decide),updL_of (by decide),updL_of (by decide)]⟩,fun d=>by rw [updL_of (by decide)];exact f (d.resolve_right (by decide)),fun d e=>by rw [updL_of (by decide),updL_of (by decide)];exact g (d.resolve_right (by decide)) (e.resolve_right (by decide))⟩
theorem FaR.set23 [Old] (h:FaR U n R C D s w):FaR U n R C (fun k=>D k∨k=23) (updL s 23 (.pointer (some ⟨w.heap.size,0,none⟩))) (w.alloc (.cells #[.slice none 0 0,.slice none 0 0,.slice none 0 0,.slice none 0 0] 48)):=by
 have hz:=Bk.new w 48 [.slice none 0 0,.slice none 0 0,.slice none 0 0,.slice none 0 0];obtain ⟨h0,h5,b,c,f,a,i,g⟩:=h.later (Zd w (.cells #[.slice none 0 0,.slice none 0 0,.slice none 0 0,.slice none 0 0] 48));exact ⟨h0,fun d=>by rw [updL_of (by decide)];exact h5 (d.resolve_right (by decide)),fun d=>by rw [updL_of (by decide)];exact b (d.resolve_right (by decide)),fun d=>by rw [updL_of (by decide)];exact c (d.resolve_right (by decide)),fun d=>by rw [updL_of (by decide)];exact f (d.resolve_right (by decide)),fun d=>⟨⟨Or.inl (a (d.resolve_right (by decide))).1.1,Or.inl (a (d.resolve_right (by decide))).1.2.1,Or.inl (a (d.resolve_right (by decide))).1.2.2.1,Or.inl (a (d.resolve_right (by decide))).1.2.2.2⟩,by rw [updL_of (by decide),updL_of (by decide),updL_of (by decide),updL_of (by decide),updL_of (by decide)];exact (a (d.resolve_right (by decide))).2⟩,fun _=>by rw [updL_at];exact ⟨_,rfl,h.1.size,hz⟩,fun d e=>by rw [updL_of (by decide),updL_of (by decide)];exact g (d.resolve_right (by decide)) (e.resolve_right (by decide))⟩
end
attribute [local irreducible] Yi
theorem bfactors_own [Old] (gc base bi g n K:Nat) (Cs:Mx) (w:World) (hB:Zxc gc base bi w g n K Cs) (hbase:base≤w.heap.size) (hOl:Zb w:=by (repeat (first | assumption | exact Zb.up (by assumption) hOl | exact Zb.up (Hid.out (by assumption)) hOl | with_reducible refine Zb.set ?_ _ _ | with_reducible refine Zb.mk_ ?_ _ | with_reducible refine Zb.dr ?_ | with_reducible refine Zb.drN ?_ | refine Zb.up (by assumption) ?_ | refine Zb.up (Hid.out (by assumption)) ?_))) (hO:Old.n≤base:=by first | assumption | exact Nat.zero_le _ | omega | ((first | with_reducible refine Zb.le ?_ | with_reducible refine Zb.le1 ?_ | with_reducible refine Zb.le2 ?_ | with_reducible refine Zb.le3 ?_);repeat (first | assumption | exact Zb.up (by assumption) hOl | exact Zb.up (Hid.out (by assumption)) hOl | with_reducible refine Zb.set ?_ _ _ | with_reducible refine Zb.mk_ ?_ _ | with_reducible refine Zb.dr ?_ | with_reducible refine Zb.drN ?_ | refine Zb.up (by assumption) ?_ | refine Zb.up (Hid.out (by assumption)) ?_))):
 Calls Tryz.prog 21 #[.pointer (some ⟨g,0,none⟩)] w fun o w'=>∃v0 v1 v2 v3 R C L Um,o= .returned (.agg #[v0,v1,v2,v3])∧Vi w' v0 (Zdg n R)∧Vi w' v1 (Zdg n C)∧Xf w' v2 (vcL n L)∧Xf w' v3 (vcL n Um)∧Znq n (5^n * K) (trM Cs) R C L Um∧Zxc gc base bi w' g n K Cs∧Below base w w'∧Zkv gc w w':=by
 have bh:=hOl.le;have ab:=Bk.new w 48 [.slice none 0 0,.slice none 0 0,.slice none 0 0,.slice none 0 0];have J:=Zd w (.cells [.slice none 0 0,.slice none 0 0,.slice none 0 0,.slice none 0 0].toArray 48);have ac:=hB.below J;clear hB;go_enter Tryz.func21,Tryz.ntmps21;go_wp2_with fail;generalize w.alloc _=W at *;have bj:=J.size;refine (refreshZ_any gc base bi g n K Cs _ ac (by omega)).mono ?_;rintro _ w1 ⟨rfl,⟨R,C,L,Um,hZ⟩,b4,aa⟩;have Z:=(J.mono hbase).trans b4;have a0:=(Zkv.of_below J).trans aa;have ad:=aa.bk ab (by decide) (by decide) (by decide);have HZ:=JZ hZ;have M:=JZ Z;have ae:=JZ a0;obtain ⟨cc,s0,s1,s2,s3,vu,hB,⟨bf,hE,hK⟩,bg,ar,hF,hO,i0,i1,v2,v3,-⟩:=hZ;obtain ⟨A2,c2,rfl⟩:=v2.nshape;obtain ⟨A3,c3,rfl⟩:=v3.nshape;have af:=JZ i0.ints;have ag:=JZ i1.ints;have b6:=JZ v2.vecs;have b7:=JZ v3.vecs;have HF:=JZ hF;have bl:=hF.n7;obtain ⟨EE,a3⟩:∃E,2 * (5^n * K)=E:=⟨_,rfl⟩;have ah:Hid (EE≤8000000):=JZ (by omega);have b8:Hid (∀t p,t < n→p < n→Sz EE (L t p)):=JZ (by rw [← a3];exact hF.lB);have b9:Hid (∀t p,t < n→p < n→Sz EE (Um t p)):=JZ (by rw [← a3];exact hF.uB);have y0:=hB.cellAt 0 rfl;have y2:=hB.cellAt 2 rfl;have y3:=hB.cellAt 3 rfl;have HY:=JZ hB;have bm:=Zey n (by omega);clear ab J ac b4 aa Z a0 bf hE hK bg ar hF hO i0 i1 v2 v3 a3 hB;obtain ⟨A0,c0,e0⟩:∃A c,s0= .slice A n c:=by
  obtain ⟨A,c,e,_⟩:=af.out.shape;rw [Zba] at e;exact ⟨A,c,e⟩
 obtain ⟨A1,c1,e1⟩:∃A c,s1= .slice A n c:=by
  obtain ⟨A,c,e,_⟩:=ag.out.shape;rw [Zba] at e;exact ⟨A,c,e⟩
 subst e0;subst e1
 go_upto_region 2 with (fail)
 go_cut [3] (fun s3 wx=>∃gf gl gu u0 u1,s3= .pointer (some ⟨gf,0,none⟩)∧w1.heap.size≤gf∧gl≠gu∧Bk wx gf 48 [u0,u1,.slice (some ⟨gl,0,none⟩) n n,.slice (some ⟨gu,0,none⟩) n n]∧ZJ w1.heap.size wx u0 (Zdg n R)∧ZJ w1.heap.size wx u1 (Zdg n C)∧Yl w1.heap.size wx (.slice (some ⟨gl,0,none⟩) n n) (List.replicate n [])∧Yl w1.heap.size wx (.slice (some ⟨gu,0,none⟩) n n) (List.replicate n [])∧Below w1.heap.size w1 wx)
 case first=>
  have C0:=Zr y0;have C2:=Zr y2;have C3:=Zr y3;have r:=Zj w1;clear y0 y2 y3;refine Xg 24 (.go 0 (.go 1 (.go 2 (.go 3 (.go 4 (.go 6 (.go 7 (.go 8 (.go 9 (.go 10 (.go 12 (.go 13 (.go 14 (.go 15 (.go 17 (.go 18 (.go 19 (.go 20 (.bag [5,11,16,21,22,23] (.go 24 .done)))))))))))))))))))) (by kernel_rfl) (by kernel_rfl) ?_;repeat ((first | (refine Yg (v:=?_) rfl rfl rfl ?_ ?_;rotate_left;(· (intro _ u;go_simp;(try go_bits);(try with_reducible rfl)))) | (refine YA (v:=?_) rfl rfl rfl ?_ ?_;rotate_left;(· (intro _ u;go_simp;(try go_bits);(try with_reducible rfl)))) | refine YB rfl rfl rfl ?_ | refine Yh rfl rfl rfl (by assumption) ?_);(try simp only [Act.put,pu1,pu2,pu3,pu4,pu5,pu6]))
  refine plan_bagL (l:=[(5,12),(11,18),(16,23),(21,28),(22,29),(23,3)]) (FaR w1 n R C) (fun _=>undef) rfl ?_ (by decide) ⟨Zj w1,fun h=>h.elim,fun h=>h.elim,fun h=>h.elim,fun h=>h.elim,fun h=>h.elim,fun h=>h.elim,fun h=>h.elim⟩ (List.forall_mem_cons.2 ⟨?_,List.forall_mem_cons.2 ⟨?_,List.forall_mem_cons.2 ⟨?_,List.forall_mem_cons.2 ⟨?_,List.forall_mem_cons.2 ⟨?_,List.forall_mem_cons.2 ⟨?_,List.forall_mem_nil _⟩⟩⟩⟩⟩⟩) ?_
  ·simp only [putL,List.foldl_cons,List.foldl_nil,Act.put,List.setIfInBounds_toArray,List.set_cons_zero,List.set_cons_succ]
  ·refine StepL.mk rfl fun D s wx b hbb hn hd hR KR hKR=>?_
   obtain ⟨vc,wc,N,a4,O⟩:=run_append_copyI 46 wx (.slice A0 n c0) (Zdg n R) (af.out.below hR.1) (by rw [Zba];omega);simp only [putL,List.foldl_cons,List.foldl_nil,Act.put,List.setIfInBounds_toArray,List.set_cons_zero,List.set_cons_succ] at hbb;subst hbb;refine op_append_run _ _ rfl rfl rfl rfl N ?_;refine hKR.out _ _ (Or.inr (Za hR.1 O hR.1.size)) ?_;exact ⟨vc,by simp [putL,updL,Act.put],hR.set5 hn O (a4.monoB hR.1.size)⟩
  ·refine StepL.mk rfl fun D s wx b hbb hn hd hR KR hKR=>?_
   obtain ⟨vc,wc,N,a4,O⟩:=run_append_copyI 46 wx (.slice A1 n c1) (Zdg n C) (ag.out.below hR.1) (by rw [Zba];omega);simp only [putL,List.foldl_cons,List.foldl_nil,Act.put,List.setIfInBounds_toArray,List.set_cons_zero,List.set_cons_succ] at hbb;subst hbb;refine op_append_run _ _ rfl rfl rfl rfl N ?_;refine hKR.out _ _ (Or.inr (Za hR.1 O hR.1.size)) ?_;exact ⟨vc,by simp [putL,updL,Act.put],hR.set11 hn O (a4.monoB hR.1.size)⟩
  ·refine StepL.mk rfl fun D s wx b hbb hn hd hR KR hKR=>?_
   simp only [putL,List.foldl_cons,List.foldl_nil,Act.put,List.setIfInBounds_toArray,List.set_cons_zero,List.set_cons_succ] at hbb;subst hbb;go_simp;refine hKR.out _ _ (Or.inr (Za hR.1 (Zd wx _) hR.1.size)) ?_;exact ⟨_,by simp [putL,updL,Act.put],hR.set16 hn (by unfold maxLen;omega)⟩
  ·refine StepL.mk rfl fun D s wx b hbb hn hd hR KR hKR=>?_
   simp only [putL,List.foldl_cons,List.foldl_nil,Act.put,List.setIfInBounds_toArray,List.set_cons_zero,List.set_cons_succ] at hbb;subst hbb;go_simp;refine hKR.out _ _ (Or.inr (Za hR.1 (Zd wx _) hR.1.size)) ?_;exact ⟨_,by simp [putL,updL,Act.put],hR.set21 hn (by unfold maxLen;omega)⟩
  ·refine StepL.mk rfl fun D s wx b hbb hn hd hR KR hKR=>?_
   obtain ⟨A5,n5,c5,e5⟩:=(hR.2.1 (hd 5 (by decide) (by kernel_rfl))).sliceN;obtain ⟨A6,n6,c6,F⟩:=(hR.2.2.1 (hd 11 (by decide) (by kernel_rfl))).sliceN;obtain ⟨au,G,-⟩:=hR.2.2.2.1 (hd 16 (by decide) (by kernel_rfl));obtain ⟨av,H,-⟩:=hR.2.2.2.2.1 (hd 21 (by decide) (by kernel_rfl));simp only [putL,List.foldl_cons,List.foldl_nil,Act.put,List.setIfInBounds_toArray,List.set_cons_zero,List.set_cons_succ] at hbb;subst hbb;rw [e5,F,G,H];go_simp;refine hKR.out _ _ (Or.inr hR.1) ?_;exact ⟨.agg #[s 5,s 11,s 16,s 21],by simp [putL,updL,Act.put,e5,F,G,H],hR.set22 (hd 5 (by decide) (by kernel_rfl)) (hd 11 (by decide) (by kernel_rfl)) (hd 16 (by decide) (by kernel_rfl)) (hd 21 (by decide) (by kernel_rfl))⟩
  ·refine StepL.mk rfl fun D s wx b hbb hn hd hR KR hKR=>?_
   simp only [putL,List.foldl_cons,List.foldl_nil,Act.put,List.setIfInBounds_toArray,List.set_cons_zero,List.set_cons_succ] at hbb;subst hbb;go_simp;refine hKR.out _ _ (Or.inr (Za hR.1 (Zd wx _) hR.1.size)) ?_;exact ⟨_,by simp [putL,updL,Act.put],hR.set23⟩
  ·intro D s wx hD hR;obtain ⟨hS,h5,aw,ax,ay,az,b0,b1⟩:=hR;have g5:=h5 (hD 5 (by decide));have a2:=aw (hD 11 (by decide));obtain ⟨gl,G,-,au⟩:=ax (hD 16 (by decide));obtain ⟨gu,H,-,av⟩:=ay (hD 21 (by decide));obtain ⟨-,b2⟩:=az (hD 22 (by decide));obtain ⟨gf,b3,Y,hB⟩:=b0 (hD 23 (by decide));have ai:gl≠gu:=fun e=>b1 (hD 16 (by decide)) (hD 21 (by decide)) (by rw [G,H,e])
   clear h5 aw ax ay az b0 b1 hD C0 C2 C3;simp only [putL,List.foldl_cons,List.foldl_nil,Act.put,List.setIfInBounds_toArray,List.set_cons_zero,List.set_cons_succ];obtain ⟨A5,n5,c5,e5⟩:=g5.sliceN;obtain ⟨A6,n6,c6,F⟩:=a2.sliceN;rw [b2,b3,e5,F,G,H];rw [e5] at g5;rw [F] at a2;clear e5 F G H b2 b3 s;obtain ⟨t0,t1,t2,t3⟩:=hB.four;obtain ⟨f0,f1,f2,f3⟩:=hB.fourF;refine ZQ rfl rfl (fun KR hKR=>?_);go_simp;refine hKR.out _ _ (Or.inl (by decide)) ?_;clear hKR KR t0 t1 t2 t3 f0 f1 f2 f3;refine Y7 ?_;have bn:Old.n≤gf:=JW (Zb.up M.out hOl).le Y;have kk:=hB.but4 (.slice A5 n5 c5) (.slice A6 n6 c6) (.slice (some ⟨gl,0,none⟩) n n) (.slice (some ⟨gu,0,none⟩) n n);have ba:=hB.set4 (.slice A5 n5 c5) (.slice A6 n6 c6) (.slice (some ⟨gl,0,none⟩) n n) (.slice (some ⟨gu,0,none⟩) n n);have bb:=Z5 hS Y (.slice A5 n5 c5) (.slice A6 n6 c6) (.slice (some ⟨gl,0,none⟩) n n) (.slice (some ⟨gu,0,none⟩) n n);go_wp2_with fail
   go_meet
   exact ⟨gf,gl,gu,_,_,rfl,Y,ai,ba,g5.but kk (by decide),a2.but kk (by decide),au.but kk (by decide) (by decide) (by decide),av.but kk (by decide) (by decide) (by decide),bb⟩
 case rest=>
  obtain ⟨gf,gl,gu,u0,u1,rfl,Y,ai,q,j0,j1,a5,a6,hS⟩:=hcut;have a1:=ad.later hS;have bc:=cell_later hS y0;rw [Zbf (L:=L)] at a5;rw [Zbf (L:=Um)] at a6;clear y0 y2 y3 ad;go_wp2;clear bc
  go_loopw [34] (fun x wr=>∃j:Nat,j≤n∧x= .int .i64 j∧Below w1.heap.size w1 wr∧Bk wr gf 48 [u0,u1,.slice (some ⟨gl,0,none⟩) n n,.slice (some ⟨gu,0,none⟩) n n]∧ZJ w1.heap.size wr u0 (Zdg n R)∧ZJ w1.heap.size wr u1 (Zdg n C)∧Bk wr w.heap.size 48 [.slice none 0 0,.slice none 0 0,.slice none 0 0,.slice none 0 0]∧Yl w1.heap.size wr (.slice (some ⟨gl,0,none⟩) n n) (Zkq n j L)∧Yl w1.heap.size wr (.slice (some ⟨gu,0,none⟩) n n) (Zkq n j Um)) (fun x _=>n - (intOf x).toNat)
  case atStart=>exact ⟨0,by omega,rfl,hS,q,j0,j1,a1,a5,a6⟩
  case round=>
   clear hS q j0 j1 a1 a5 a6;obtain ⟨j,hj,rfl,d,q,j0,j1,hX,hL,hU⟩:=hrel;rcases JX j n with hjn | hjn
   ·have bo:(j:Int) < n:=(by omega);have aj:w1.heap.size≤gl:=hL.base;have ya:=cell_later d (HY.out.cellAt 4 rfl);obtain ⟨b5,o5,A5,c5,a7,x5,a8⟩:=b6.out.vc d hjn;subst a7;have ak:Hid (∀(k:Nat) (e:En),(spV (L j) n)[k]? =some e→e.f.Rs EE):=JZ (Zsc fun p hp=>b8.out j p hjn hp);have al:Hid ((spV (L j) n).length≤1099511627776):=JZ (by have:=Ve (f:=L j) n;omega);have am:Hid (Zla (spV (L j) n)=spV (L j) n):=JZ (by rw [cpyV_spV (Zqi (L j) n)];exact WM fun i hi=>by rw [Zsb,if_pos hi]);obtain ⟨ls,P⟩:∃x,(spV (L j) n).length=x:=⟨_,rfl⟩;rw [P] at a8 x5;obtain ⟨z0,z1,z2,z3⟩:=q.four;clear P
    go_upto_region 6 with (fail)
    have Z2:=Zr z2;have Y4:=Zr ya;have X5:=Zr x5;have r:=Zj wr;clear z0 z1 z2 z3 ya x5;refine Zt 13 [0,1,2,3,4,5,6,7,8,9,10,11,12,13] (by kernel_rfl) (by kernel_rfl) ?_;repeat ((first | (refine Zc (v:=?_) rfl rfl rfl ?_ ?_;rotate_left;(· (intro _ u;go_simp;(try go_bits);(try with_reducible rfl)))) | (refine Ze (v:=?_) rfl rfl rfl ?_ ?_;rotate_left;(· (intro _ u;go_simp;(try go_bits);(try with_reducible rfl)))) | refine Zf rfl rfl rfl ?_);(try simp only [Act.put,pu1,pu2,pu3,pu4,pu5,pu6]))
    refine Zg rfl rfl (fun KR hKR=>?_);go_simp;(with_reducible refine (Zbp _ (spV (L j) n) EE _ (a8.below r) ak.out (by have:=ah.out;omega) al.out).mono ?_);rw [am.out];rintro _ w8 ⟨v8,rfl,e8,S⟩;have a:=Za r S r.size;obtain ⟨C1,Cn,Cc,rfl⟩:∃A n c,v8= .slice A n c:=by obtain ⟨A,c,e,_⟩:=e8.vec.shape;exact ⟨A,_,c,e⟩
    have y:=hL.below a;obtain ⟨_,m0,m1,-⟩:=y.at_ (Uo (t:=j) (L:=L) hjn);refine hKR.out _ _ (Or.inr a) ?_;clear hKR KR;(try simp only [Act.put,pu1,pu2,pu3,pu4,pu5,pu6]);repeat ((first | (refine Zc (v:=?_) rfl rfl rfl ?_ ?_;rotate_left;(· (intro _ u;go_simp;(try go_bits);(try with_reducible rfl)))) | (refine Ze (v:=?_) rfl rfl rfl ?_ ?_;rotate_left;(· (intro _ u;go_simp;(try go_bits);(try with_reducible rfl)))) | refine Zf rfl rfl rfl ?_);(try simp only [Act.put,pu1,pu2,pu3,pu4,pu5,pu6]))
    refine Zg rfl rfl (fun KR hKR=>?_);go_simp;refine hKR.out _ _ (Or.inl (by decide)) ?_;clear hKR KR;(try simp only [Act.put,pu1,pu2,pu3,pu4,pu5,pu6]);refine Zv ?_;obtain ⟨I,m⟩:=y.set_ (k:=j) (by rw [XK];exact hjn) e8.vec;rw [Zdl hjn] at I;have z:=(Za d a d.size).setCell (p:=⟨gl,j,none⟩) aj (.slice C1 Cn Cc);have B:=m.bk (q.later a) (by decide);have T:=(j0.below a).but m (by decide);have U:=(j1.below a).but m (by decide);have V:=m.bk (hX.later a) (by decide);have X:=(hU.below a).others (g:=some gl) ZN.of_set m fun b hb e=>by
     simp [Value.ownBlock] at hb;injection e with e;omega
    clear Z2 Y4 X5 r a S e8 y a8 d q j0 j1 hX hL hU m0 m1 m ak al am;clear aj
    go_upto_region 7 with (fail)
    generalize w8.setCell ⟨gl,j,none⟩ (.slice C1 Cn Cc)=wr at *;have d:=z;have q:=B;have j0:=T;have j1:=U;have hX:=V;have hL:=I;have hU:=X;clear z B T U V I X;have an:w1.heap.size≤gu:=hU.base;have yb:=cell_later d (HY.out.cellAt 5 rfl);obtain ⟨b5,o5,A5,c5,a7,x5,a9⟩:=b7.out.vc d hjn;subst a7;have ao:Hid (∀(k:Nat) (e:En),(spV (Um j) n)[k]? =some e→e.f.Rs EE):=JZ (Zsc fun p hp=>b9.out j p hjn hp);have ap:Hid ((spV (Um j) n).length≤1099511627776):=JZ (by have:=Ve (f:=Um j) n;omega);have aq:Hid (Zla (spV (Um j) n)=spV (Um j) n):=JZ (by rw [cpyV_spV (Zqi (Um j) n)];exact WM fun i hi=>by rw [Zsb,if_pos hi]);obtain ⟨ls,P⟩:∃x,(spV (Um j) n).length=x:=⟨_,rfl⟩;rw [P] at a9 x5;obtain ⟨z0,z1,z2,z3⟩:=q.four;clear P
    go_upto_region 7 with (fail)
    have Z2:=Zr z3;have Y4:=Zr yb;have X5:=Zr x5;have r:=Zj wr;clear z0 z1 z2 z3 yb x5;refine Zt 13 [0,1,2,3,4,5,6,7,8,9,10,11,12,13] (by kernel_rfl) (by kernel_rfl) ?_;repeat ((first | (refine Zc (v:=?_) rfl rfl rfl ?_ ?_;rotate_left;(· (intro _ u;go_simp;(try go_bits);(try with_reducible rfl)))) | (refine Ze (v:=?_) rfl rfl rfl ?_ ?_;rotate_left;(· (intro _ u;go_simp;(try go_bits);(try with_reducible rfl)))) | refine Zf rfl rfl rfl ?_);(try simp only [Act.put,pu1,pu2,pu3,pu4,pu5,pu6]))
    refine Zg rfl rfl (fun KR hKR=>?_);go_simp;(with_reducible refine (Zbp _ (spV (Um j) n) EE _ (a9.below r) ao.out (by have:=ah.out;omega) ap.out).mono ?_);rw [aq.out];rintro _ w8 ⟨v8,rfl,e8,S⟩;have a:=Za r S r.size;obtain ⟨C1,Cn,Cc,rfl⟩:∃A n c,v8= .slice A n c:=by obtain ⟨A,c,e,_⟩:=e8.vec.shape;exact ⟨A,_,c,e⟩
    have y:=hU.below a;obtain ⟨_,m0,m1,-⟩:=y.at_ (Uo (t:=j) (L:=Um) hjn);refine hKR.out _ _ (Or.inr a) ?_;clear hKR KR;(try simp only [Act.put,pu1,pu2,pu3,pu4,pu5,pu6]);repeat ((first | (refine Zc (v:=?_) rfl rfl rfl ?_ ?_;rotate_left;(· (intro _ u;go_simp;(try go_bits);(try with_reducible rfl)))) | (refine Ze (v:=?_) rfl rfl rfl ?_ ?_;rotate_left;(· (intro _ u;go_simp;(try go_bits);(try with_reducible rfl)))) | refine Zf rfl rfl rfl ?_);(try simp only [Act.put,pu1,pu2,pu3,pu4,pu5,pu6]))
    refine Zg rfl rfl (fun KR hKR=>?_);go_simp;refine hKR.out _ _ (Or.inl (by decide)) ?_;clear hKR KR;(try simp only [Act.put,pu1,pu2,pu3,pu4,pu5,pu6]);refine Zv ?_;obtain ⟨I,m⟩:=y.set_ (k:=j) (by rw [XK];exact hjn) e8.vec;rw [Zdl hjn] at I;have z:=(Za d a d.size).setCell (p:=⟨gu,j,none⟩) an (.slice C1 Cn Cc);have B:=m.bk (q.later a) (by decide);have T:=(j0.below a).but m (by decide);have U:=(j1.below a).but m (by decide);have V:=m.bk (hX.later a) (by decide);have X:=(hL.below a).others (g:=some gu) ZN.of_set m fun b hb e=>by
     simp [Value.ownBlock] at hb;injection e with e;omega
    clear Z2 Y4 X5 r a S e8 y a9 d q j0 j1 hX hU m0 m1 m ao ap aq;clear hL an
    go_upto_region 8 with (fail)
    go_wp2;go_roundw
    case rel=>exact ⟨j+1,by omega,by go_num,z,B,T,U,V,X,I⟩
    case measure=>simp [intOf];omega
   ·obtain rfl:n=j:=by omega
    rw [Ziw] at hL hU;obtain ⟨A5,n5,c5,rfl⟩:=j0.sliceN;obtain ⟨A6,n6,c6,rfl⟩:=j1.sliceN;obtain ⟨z0,z1,z2,z3⟩:=q.four;obtain ⟨t0,t1,t2,t3⟩:=hX.four;obtain ⟨f0,f1,f2,f3⟩:=hX.fourF;have kk:=hX.but4 (.slice A5 n5 c5) (.slice A6 n6 c6) (.slice (some ⟨gl,0,none⟩) n n) (.slice (some ⟨gu,0,none⟩) n n);have bd:=HZ.out.bas.below d;have be:Below base w wr:=M.out.trans (d.mono (JW hbase M.out.size));go_wp2;refine Zn Tryz.results21 Tryz.underlying48 (by kernel_rfl) rfl (hX.set4 _ _ _ _) rfl ?_;exact ⟨_,_,_,_,R,C,L,Um,rfl,(j0.but kk (by decide)).ints,(j1.but kk (by decide)).ints,(hL.but kk (by decide) (by decide) (by decide)).vecs,(hU.but kk (by decide) (by decide) (by decide)).vecs,HF.out,bd.but kk (by decide) (by decide) (by decide) (by decide) (by decide) (by decide) (by decide),Z5 be hbase _ _ _ _,keep4_set4 (ae.out.trans (Zkv.of_below d)) (JY _) _ _ _ _⟩
end
section
attribute [local irreducible] Yi
end
section
attribute [local irreducible] Yi
end
namespace Pl
theorem spV_first {f:Nat→Rat} {k:Nat} (h:f k≠0) (h0:∀s,s < k→f s=0):∀{n:Nat},k < n→(spV f n)[0]? =some ⟨(k:Int),canF (f k)⟩
 | 0,hk=>absurd hk (by omega)
 | n+1,hk=>by
  rcases JX k n with e | e
  ·have ih:=spV_first h h0 e
   by_cases hz:f n=0
   ·rw [Y8 hz];exact ih
   ·rw [Xo hz]
    have hl:0 < (spV f n).length:=(List.getElem?_eq_some_iff.1 ih).1
    rw [List.getElem?_append_left hl];exact ih
  ·obtain rfl:k=n:=by omega
   rw [Xo h]
   have h1:spV f k=[]:=by
    have:=Zfe (f:=f) (m:=0) (d:=k) fun s _ h2=>h0 s (by omega)
    rwa [Nat.zero_add] at this
   rw [h1];rfl
theorem spV_can {f:Nat→Rat} {n:Nat} (k:Nat) (e:En) (h:(spV f n)[k]? =some e):e.f=canF e.f.q:=by
 obtain ⟨i,_,_,h3,_⟩:=VB h;rw [h3,ZG]
end Pl
theorem permutation_any [Old] (v:Value) (n:Nat) (R:Nat→Nat) (w:World) (h:Vi w v (Zdg n R)) (hP:Inj n n R) (hn:n≤64) (hOl:Zb w:=by (repeat (first | assumption | exact Zb.up (by assumption) hOl | exact Zb.up (Hid.out (by assumption)) hOl | with_reducible refine Zb.set ?_ _ _ | with_reducible refine Zb.mk_ ?_ _ | with_reducible refine Zb.dr ?_ | with_reducible refine Zb.drN ?_ | refine Zb.up (by assumption) ?_ | refine Zb.up (Hid.out (by assumption)) ?_))):
 Calls Tryz.prog 45 #[v,.int .i64 (n:Int)] w fun o w'=>o= .returned (.bool true)∧Below w.heap.size w w':=by
 have t:=hOl.le;obtain ⟨A,c,rfl,l,C⟩:=h.shape;rw [Zba] at h l ⊢;have HI:=JZ h;have HP:=JZ hP;have u:=make_bools n (by omega);have b:=Zvm.zeros w n (by unfold maxLen;omega);have d:=Zd w (.cells (zbc n) 4);clear h hP;go_enter Tryz.func45,Tryz.ntmps45;go_wp2;generalize w.alloc (.cells (zbc n) 4)=W at *
 go_loopw [6] (fun x wr=>∃(i:Nat) (sn:Nat→Bool),i≤n∧x= .int .i64 i∧Below w.heap.size w wr∧Zvm w.heap.size wr (.slice (some ⟨w.heap.size,0,none⟩) n n) n sn∧∀r,sn r=true→∃s,s < i∧R s=r) (fun x _=>n - (intOf x).toNat)
 case atStart=>exact ⟨0,fun _=>false,by omega,rfl,d,b,fun r hr=>by cases hr⟩
 case round=>
  clear b d;obtain ⟨i,sn,hi,rfl,a,hO,k⟩:=hrel;have f:=JZ k;clear k;rcases JX i n with hin | hin
  ·have y:(i:Int) < n:=(by omega);obtain ⟨b5,o5,m,y0⟩:=HI.out.nat a hin;subst m;have g:=HP.out.1 i hin;have hf:sn (R i)=false:=by
    cases hc:sn (R i)
    ·rfl
    ·obtain ⟨s,h1,h2⟩:=f.out _ hc;exact absurd (HP.out.eq (by omega) hin h2) (by omega)
   obtain ⟨x0,x1⟩:=hO.at_ g;rw [hf] at x0;obtain ⟨q,_⟩:=hO.set_ g;have j:=a.setCell (p:=⟨w.heap.size,R i,none⟩) (JY _) (.bool true);have HN:Hid (∀r,Zqn sn (R i) r=true→∃s,s < i+1∧R s=r):=JZ fun r hr=>by
    by_cases e:r=R i
    ·exact ⟨i,by omega,e.symm⟩
    ·rw [VF e] at hr;obtain ⟨s,h1,h2⟩:=f.out r hr;exact ⟨s,by omega,h2⟩
   have z:(R i:Int) < n:=(by omega);have hd:decide ((n:Int)≤(R i:Int))=false:=(by simp;omega);have B:decide ((R i:Int) < 0)=false:=(by simp);generalize R i=ri at *;clear hf hO a;go_wp2;go_roundw
   case rel=>exact ⟨i+1,Zqn sn ri,by omega,by go_num,j,q,HN.out⟩
   case measure=>simp [intOf];omega
  ·obtain rfl:n=i:=by omega
   go_wp2;go_ret;exact ⟨rfl,a⟩
theorem canon4_any [Old] (v:Value) (es:List En) (w:World) (h:Wy w v es) (hc:∀(k:Nat) (e:En),es[k]? =some e→e.f=canF e.f.q∧e.f.Sh) (hOl:Zb w:=by (repeat (first | assumption | exact Zb.up (by assumption) hOl | exact Zb.up (Hid.out (by assumption)) hOl | with_reducible refine Zb.set ?_ _ _ | with_reducible refine Zb.mk_ ?_ _ | with_reducible refine Zb.dr ?_ | with_reducible refine Zb.drN ?_ | refine Zb.up (by assumption) ?_ | refine Zb.up (Hid.out (by assumption)) ?_))):
 Calls Tryz.prog 46 #[v] w fun o w'=>o= .returned (.bool true)∧Below w.heap.size w w':=by
 have z:=hOl.le;obtain ⟨A,c,rfl,t,C⟩:=h.shape;have HI:=JZ h;have HC:=JZ hc;obtain ⟨n,hn⟩:∃n,n=es.length:=⟨_,rfl⟩;have HN:=JZ hn;rw [← hn] at t ⊢;clear h hc hn;go_enter Tryz.func46,Tryz.ntmps46;go_wp2
 go_loopw [3] (fun x wr=>∃k:Nat,k≤n∧x= .int .i64 k∧Below w.heap.size w wr) (fun x _=>n - (intOf x).toNat)
 case atStart=>exact ⟨0,by omega,rfl,JR _ _⟩
 case round=>
  obtain ⟨k,hk,rfl,hb⟩:=hrel;rcases JX k n with hkl | hkl
  ·have B:(k:Int) < n:=(by omega);obtain ⟨e,he⟩:=YS (es:=es) (i:=k) (by rw [← HN.out];exact hkl);obtain ⟨b5,o5,A5,n5,c5,A6,n6,c6,u,_,⟨x0,x1,x2,x3,x4⟩,j⟩:=HI.out.elem hb he;subst u;obtain ⟨l,y⟩:=HC.out k e he;have r:=JZ l;clear he l
   go_upto_region 4 with (fail)
   have C1:=Zr x1;have C2:=Zr x2;have C3:=Zr x3;have C4:=Zr x4;have d:=Zj wr;clear x0 x1 x2 x3 x4;refine Zt 13 [0,1,2,3,4,5,6,7,8,9,10,11,12] (by kernel_rfl) (by kernel_rfl) ?_;repeat ((first | (refine Zc (v:=?_) rfl rfl rfl ?_ ?_;rotate_left;(· (intro _ b;go_simp;(try go_bits);(try with_reducible rfl)))) | (refine Ze (v:=?_) rfl rfl rfl ?_ ?_;rotate_left;(· (intro _ b;go_simp;(try go_bits);(try with_reducible rfl)))) | refine Zf rfl rfl rfl ?_);(try simp only [Act.put,pu1,pu2,pu3,pu4,pu5,pu6]))
   refine Zg rfl rfl (fun KR hKR=>?_);go_simp;(with_reducible refine (YY _ e.f _ (j.below d) y).mono ?_);rw [← r.out];rintro _ w6 ⟨v6,rfl,e6,m⟩;have a:=Za d m d.size;refine hKR.out _ _ (Or.inr a) ?_;clear hKR KR;(try simp only [Act.put,pu1,pu2,pu3,pu4,pu5,pu6]);repeat ((first | (refine Zc (v:=?_) rfl rfl rfl ?_ ?_;rotate_left;(· (intro _ b;go_simp;(try go_bits);(try with_reducible rfl)))) | (refine Ze (v:=?_) rfl rfl rfl ?_ ?_;rotate_left;(· (intro _ b;go_simp;(try go_bits);(try with_reducible rfl)))) | refine Zf rfl rfl rfl ?_);(try simp only [Act.put,pu1,pu2,pu3,pu4,pu5,pu6]))
   refine Zg rfl rfl (fun KR hKR=>?_);go_simp;(with_reducible refine (Zkt _ _ e.f e.f _ (j.below a) e6).mono ?_);rw [Zjr];rintro _ w8 ⟨rfl,p⟩;have g:=Za a p a.size;refine hKR.out _ _ (Or.inr g) ?_;clear hKR KR;(try simp only [Act.put,pu1,pu2,pu3,pu4,pu5,pu6]);repeat ((first | (refine Zc (v:=?_) rfl rfl rfl ?_ ?_;rotate_left;(· (intro _ b;go_simp;(try go_bits);(try with_reducible rfl)))) | (refine Ze (v:=?_) rfl rfl rfl ?_ ?_;rotate_left;(· (intro _ b;go_simp;(try go_bits);(try with_reducible rfl)))) | refine Zf rfl rfl rfl ?_);(try simp only [Act.put,pu1,pu2,pu3,pu4,pu5,pu6]))
   refine Zv ?_;have s:=Za hb g hb.size;clear C1 C2 C3 C4 hb d a g m p j e6;go_wp2;go_roundw
   case rel=>exact ⟨k+1,by omega,by go_num,s⟩
   case measure=>simp [intOf];omega
  ·obtain rfl:n=k:=by omega
   go_wp2;go_ret;exact ⟨rfl,hb⟩
theorem factors4_any [Old] (vc v0 v1 v2 v3:Value) (cols:List (List En)) (n E:Nat) (R C:Nat→Nat) (L U:Mx) (w:World) (h:Xf w vc cols) (hg:Zrg n cols) (i0:Vi w v0 (Zdg n R)) (i1:Vi w v1 (Zdg n C)) (i2:Xf w v2 (vcL n L)) (i3:Xf w v3 (vcL n U)) (hF:Znq n E (trM (Yu cols)) R C L U) (hOl:Zb w:=by (repeat (first | assumption | exact Zb.up (by assumption) hOl | exact Zb.up (Hid.out (by assumption)) hOl | with_reducible refine Zb.set ?_ _ _ | with_reducible refine Zb.mk_ ?_ _ | with_reducible refine Zb.dr ?_ | with_reducible refine Zb.drN ?_ | refine Zb.up (by assumption) ?_ | refine Zb.up (Hid.out (by assumption)) ?_))):
 Calls Tryz.prog 20 #[.int .i64 (n:Int),vc,.agg #[v0,v1,v2,v3]] w fun o w'=>o= .returned (.bool true)∧Below w.heap.size w w':=by
 have co:=hOl.le;obtain ⟨A,c,rfl,c4,d0⟩:=h.shape;rw [hg.len] at h c4 ⊢;obtain ⟨A0,c0,rfl,b3,cj⟩:=i0.shape;obtain ⟨A1,c1,rfl,b4,ck⟩:=i1.shape;obtain ⟨A2,c2,rfl,b8,cl⟩:=i2.shape;obtain ⟨A3,c3,rfl,b9,cm⟩:=i3.shape;rw [Zba] at i0 i1 b3 b4;rw [UI] at i2 i3 b8 b9;simp only [Zba,UI];have HV:=JZ h;have ao:=JZ i0;have ap:=JZ i1;have ar:=JZ i2;have au:=JZ i3;have HF:=JZ hF;have HG:=JZ hg;have cq:=hF.n7;obtain ⟨EE,ae⟩:∃x,2 * E=x:=⟨_,rfl⟩;have av:Hid (1≤EE):=JZ (by have:=hF.e1;omega);have M:Hid (EE≤8000000):=JZ (by have:=hF.e2;omega);have X:Hid (∀t p,t < n→p < n→Sz EE (L t p)):=JZ (by rw [← ae];exact hF.lB);have Y:Hid (∀t p,t < n→p < n→Sz EE (U t p)):=JZ (by rw [← ae];exact hF.uB);obtain ⟨W,hW,hX,a3⟩:∃W,w.alloc (.cells #[.slice A0 n c0,.slice A1 n c1,.slice A2 n c2,.slice A3 n c3] 48)=W∧Bk W w.heap.size 48 [.slice A0 n c0,.slice A1 n c1,.slice A2 n c2,.slice A3 n c3]∧Below w.heap.size w W:=⟨_,rfl,Bk.new w _ _,Zd w _⟩;obtain ⟨x0,x1,x2,x3⟩:=hX.four;clear h hg i0 i1 i2 i3 hF ae;go_enter Tryz.func20,Tryz.ntmps20;go_wp2_with fail;clear hW;refine (permutation_any _ n R _ (ao.out.below a3) HF.out.fac.ri (by omega)).mono ?_;rintro _ w1 ⟨rfl,am⟩;have O:=Za a3 am a3.size;have a5:=hX.later am;clear x0 x1 x2 x3 a3 hX am;obtain ⟨x0,x1,x2,x3⟩:=a5.four;go_wp2_with fail;refine (permutation_any _ n C _ (ap.out.below O) HF.out.fac.ci (by omega)).mono ?_;rintro _ w2 ⟨rfl,an⟩;have a4:=Za O an O.size;have a6:=a5.later an;clear x0 x1 x2 x3 O a5 an;obtain ⟨x0,x1,x2,x3⟩:=a6.four;go_wp2;clear x0 x1 x2 x3
 go_loopw [7] (fun x wr=>∃j:Nat,j≤n∧x= .int .i64 j∧Below w.heap.size w wr∧Bk wr w.heap.size 48 [.slice A0 n c0,.slice A1 n c1,.slice A2 n c2,.slice A3 n c3]) (fun x _=>n - (intOf x).toNat)
 case atStart=>exact ⟨0,by omega,rfl,a4,a6⟩
 case round=>
  clear a4 a6;obtain ⟨j,hj,rfl,hb,hX⟩:=hrel;rcases JX j n with hjn | hjn
  ·have cr:(j:Int) < n:=(by omega);obtain ⟨bl,ol,AL,cL,c9,xl,b⟩:=ar.out.vc hb hjn;obtain ⟨bu,ou,AU,cU,af,xu,a⟩:=au.out.vc hb hjn;subst c9;subst af;have x2:=hX.cellAt 2 rfl;have x3:=hX.cellAt 3 rfl;have Z:=Zqi (L j) n;have K:=Zqi (U j) n;have a0:=JZ Z;have a1:=JZ K;have bf:=JZ (Z.err (show n≤4096 by omega));have bg:=JZ (K.err (show n≤4096 by omega));have bh:=JZ (Z.enI (show n≤4096 by omega));have bi:=JZ (K.enI (show n≤4096 by omega));have a7:Hid (∀(k:Nat) (e:En),(spV (L j) n)[k]? =some e→e.f.Sh):=JZ fun k e he=>(Zsc (fun p hp=>X.out j p hjn hp) k e he).sh (by have:=M.out;omega)
   have a8:Hid (∀(k:Nat) (e:En),(spV (U j) n)[k]? =some e→e.f.Sh):=JZ fun k e he=>(Zsc (fun p hp=>Y.out j p hjn hp) k e he).sh (by have:=M.out;omega)
   have bj:Hid (XZ (spV (L j) n) j=1):=JZ (by rw [Zsb,if_pos hjn];exact HF.out.fac.l1 j hjn);obtain ⟨uq,V⟩:∃q,U j j=q:=⟨_,rfl⟩;have bk:Hid (XZ (spV (U j) n) j=uq):=JZ (by rw [Zsb,if_pos hjn];exact V);have a9:uq≠0:=(by rw [← V];exact HF.out.fac.u1 j hjn);have ct:(qs uq==0)=false:=(by simpa using fun e=>a9 (Yz.1 e));have bm:Hid (canF uq).Sh:=JZ (by rw [← V];exact (Y.out j j hjn hjn).sh (by have:=M.out;omega));have aa:=spV_first (f:=L j) (by rw [HF.out.fac.l1 j hjn];decide) (fun s hs=>HF.out.fac.l0 j s hjn (by omega) hs) hjn;have P:=Zqq (f:=U j) hjn (by rw [V];exact a9) fun s h1 h2=>HF.out.fac.u0 j s hjn h2 h1
   obtain ⟨ll,ag⟩:∃x,(spV (L j) n).length=x:=⟨_,rfl⟩;obtain ⟨lu,N⟩:∃x,(spV (U j) n).length=x:=⟨_,rfl⟩;have ce:0 < ll:=(by rw [← ag];exact (List.getElem?_eq_some_iff.1 aa).1);have cf:0 < lu:=(by have:=(List.getElem?_eq_some_iff.1 P).1;omega);rw [N] at P;obtain ⟨m,hm⟩:∃m,lu - 1=m:=⟨_,rfl⟩;rw [hm] at P;have cu:(lu:Int) - 1=(m:Int):=(by omega);have cv:(m:Int) < (lu:Int):=(by omega);have cg:lu≤n:=(by rw [← N];exact Ve n);have bn:=JZ aa;have bo:=JZ P;rw [ag] at xl b;rw [N] at xu a;clear Z K V a9 aa P ag N hm;go_wp2_with fail;refine (Zdo _ _ (n:Int) _ b a7.out bh.out (by omega) (by omega)).mono ?_;rw [bf.out];rintro _ w3 ⟨rfl,G⟩;replace x2:=cell_later G x2;replace x3:=cell_later G x3;replace xl:=cell_later G xl;replace xu:=cell_later G xu;replace b:=b.below G;replace a:=a.below G;replace hb:=Za hb G hb.size;replace hX:=hX.later G;clear G;go_wp2_with fail;refine (Zdo _ _ (n:Int) _ a a8.out bi.out (by omega) (by omega)).mono ?_;rw [bg.out];rintro _ w4 ⟨rfl,H⟩;replace x2:=cell_later H x2;replace x3:=cell_later H x3;replace xl:=cell_later H xl;replace xu:=cell_later H xu;replace b:=b.below H;replace a:=a.below H;replace hb:=Za hb H hb.size;replace hX:=hX.later H;clear H;go_wp2_with fail;refine (canon4_any _ _ _ b (fun k e he=>⟨spV_can k e he,a7.out k e he⟩)).mono ?_;rintro _ w5 ⟨rfl,I⟩;replace x2:=cell_later I x2;replace x3:=cell_later I x3;replace xl:=cell_later I xl;replace xu:=cell_later I xu;replace b:=b.below I;replace a:=a.below I;replace hb:=Za hb I hb.size;replace hX:=hX.later I;clear I;go_wp2_with fail;refine (canon4_any _ _ _ a (fun k e he=>⟨spV_can k e he,a8.out k e he⟩)).mono ?_;rintro _ w6 ⟨rfl,g⟩;replace x2:=cell_later g x2;replace x3:=cell_later g x3;replace xl:=cell_later g xl;replace xu:=cell_later g xu;replace b:=b.below g;replace a:=a.below g;replace hb:=Za hb g hb.size;replace hX:=hX.later g;clear g;go_wp2_with fail;refine (Zug _ _ j _ b a7.out a0.out.2.1).mono ?_;rw [bj.out];rintro _ w7 ⟨v7,rfl,e7,y⟩;replace x2:=cell_later y x2;replace x3:=cell_later y x3;replace xl:=cell_later y xl;replace xu:=cell_later y xu;replace b:=b.below y;replace a:=a.below y;replace hb:=Za hb y hb.size;replace hX:=hX.later y;clear y;go_wp2_with fail;refine (X8 1 _ (by omega) (by omega)).mono ?_;rw [show (((1:Int):Rat))=1 from rfl];rintro _ w8 ⟨v8,rfl,e8,l⟩;replace x2:=cell_later l x2;replace x3:=cell_later l x3;replace xl:=cell_later l xl;replace xu:=cell_later l xu;replace b:=b.below l;replace a:=a.below l;replace hb:=Za hb l hb.size;replace hX:=hX.later l;replace e7:=e7.below l;clear l;go_wp2_with fail;refine (Zkt _ _ (canF 1) (canF 1) _ e7 e8).mono ?_;rw [Zjr];rintro _ w9 ⟨rfl,z⟩;replace x2:=cell_later z x2;replace x3:=cell_later z x3;replace xl:=cell_later z xl;replace xu:=cell_later z xu;replace b:=b.below z;replace a:=a.below z;replace hb:=Za hb z hb.size;replace hX:=hX.later z;clear e7 e8;clear z;go_wp2_with fail;refine (Zug _ _ j _ a a8.out a1.out.2.1).mono ?_;rw [bk.out];rintro _ d1 ⟨d2,rfl,be,d⟩;replace x2:=cell_later d x2;replace x3:=cell_later d x3;replace xl:=cell_later d xl;replace xu:=cell_later d xu;replace b:=b.below d;replace a:=a.below d;replace hb:=Za hb d hb.size;replace hX:=hX.later d;clear d;go_wp2_with fail;refine (Xl _ (canF uq) _ be bm.out).mono ?_;rw [ZG];rintro _ d3 ⟨rfl,u⟩;replace x2:=cell_later u x2;replace x3:=cell_later u x3;replace xl:=cell_later u xl;replace xu:=cell_later u xu;replace b:=b.below u;replace a:=a.below u;replace hb:=Za hb u hb.size;replace hX:=hX.later u;clear be;clear u;obtain ⟨b5,o5,A5,n5,c5,A6,n6,c6,ah,_,⟨y0,-,-,-,-⟩,-⟩:=b.elem (JR _ _) bn.out;obtain ⟨b7,o7,A7,n7,c7,A8,n8,c8,ai,_,⟨z0,-,-,-,-⟩,-⟩:=a.elem (JR _ _) bo.out;subst ah;subst ai;have cw:decide ((j:Int) < (j:Int))=false:=(by simp);simp only [Nat.zero_mul,Nat.add_zero] at y0
   go_upto_region 10 with (fail)
   go_quiet (fail)
   go_wp2;go_roundw
   case rel=>exact ⟨j+1,by omega,by go_num,below_drewN hb _,hX.drewN _⟩
   case measure=>simp [intOf];omega
  ·obtain rfl:n=j:=by omega
   go_wp2
   go_loopw [8] (fun x wr=>∃k:Nat,k≤n∧x= .int .i64 k∧Below w.heap.size w wr∧Bk wr w.heap.size 48 [.slice A0 n c0,.slice A1 n c1,.slice A2 n c2,.slice A3 n c3]) (fun x _=>n - (intOf x).toNat)
   case atStart=>exact ⟨0,by omega,rfl,hb,hX⟩
   case round=>
    clear hb hX;obtain ⟨k,hk,rfl,hb,hX⟩:=hrel;rcases JX k n with hkn | hkn
    ·have cx:(k:Int) < n:=(by omega);have x2:=hX.cellAt 2 rfl;have x3:=hX.cellAt 3 rfl;obtain ⟨bu,ou,AU,cU,af,xu,a⟩:=au.out.vc hb hkn;subst af;have K:=Zqi (U k) n;have a1:=JZ K;have aw:=JZ (spV_rw (fun p hp=>Y.out k p hkn hp) (by have:=M.out;omega));have ab:=JZ (Zsc fun p hp=>Y.out k p hkn hp);have ac:∀t r,t < n→r < n→Yu (vcL n L) t r=L t r:=fun t r ht hr=>by
      rw [Wu (Zbb ht),Zsb,if_pos hr]
     have a0:Hid (∀(t:Nat) (c:List En),(vcL n L)[t]? =some c→Pl.Good n c∧EnW c∧∀(i:Nat) (e:En),c[i]? =some e→e.f.Rs EE):=JZ fun t c hc=>by
      have ht:t < n:=(by have:=(List.getElem?_eq_some_iff.1 hc).1;rwa [UI] at this);rw [Zbb ht] at hc;injection hc with hc;subst hc;exact ⟨Zqi _ _,spV_rw (fun p hp=>X.out t p ht hp) (by have:=M.out;omega),Zsc fun p hp=>X.out t p ht hp⟩
     obtain ⟨JJ,ca⟩:∃J,J=1+7 * (EE+EE+1):=⟨_,rfl⟩;have ax:Hid (JJ≤34359738368):=JZ (by have:=M.out;omega);have ay:Hid (∀t r,t≤(spV (U k) n).length→r < n→Sz JJ (dotS ((spV (U k) n).take t) fun i=>Yu (vcL n L) i r)):=JZ fun t r ht hr=>by
      refine (Sz_dotS ab.out av.out (J:=EE) (fun i e he=>?_) t ht).mono ?_
      ·obtain ⟨p,hp,cb,_⟩:=VB he;rw [cb,JP,ac p r hp hr];exact X.out p r hp hr
      ·have:=K.len;have h7:t * (EE+EE+1)≤7 * (EE+EE+1):=Nat.mul_le_mul (by omega) (JY _);omega
     obtain ⟨Q,hQ⟩:∃Q:Nat→Rat,Q=fun r=>Yu cols (C k) (R r):=⟨_,rfl⟩
     have az:Hid (spV (fun r=>dotS (spV (U k) n) fun i=>Yu (vcL n L) i r) n=spV Q n):=JZ (WM fun r hr=>by
      rw [dotS_spV,hQ];have:=HF.out.fac.eq r k hr hkn;refine Eq.trans ?_ this.symm;exact Zp fun s hs=>by rw [ac s r hs hr];grind)
     have b0:=JZ (HF.out.fac.ci.1 k hkn);have bp:Hid (∀r,r < n→Sz 12 (Q r)):=JZ fun r hr=>by
      rw [hQ];obtain ⟨cc,ba⟩:=XI (cs:=cols) (i:=C k) (by rw [HG.out.len];exact b0.out);show Sz 12 (Yu cols (C k) (R r));rw [Wu ba];exact Sz_col (HG.out.light _ _ ba).2.2 (by decide) _
     have bq:Hid (∀(t:Nat) (e:En),(spV Q n)[t]? =some e→e.f.Sh):=JZ fun t e he=>(Zsc bp.out t e he).sh (by decide)
     have br:=JZ (Zqi Q n).2.1;have bs:=JZ hQ;obtain ⟨lu,N⟩:∃x,(spV (U k) n).length=x:=⟨_,rfl⟩;rw [N] at xu a;clear K ac ca hQ N
     go_upto_region 15 with (fail)
     have X2:=Zr x2;have X3:=Zr x3;have XU:=Zr xu;have D:=Zj wr;clear x2 x3 xu;refine Zt 14 [0,1,2,3,4,5,6,7,8,9,10,11,12,13] (by kernel_rfl) (by kernel_rfl) ?_;repeat ((first | (refine Zc (v:=?_) rfl rfl rfl ?_ ?_;rotate_left;(· (intro _ B;go_simp;(try go_bits);(try with_reducible rfl)))) | (refine Ze (v:=?_) rfl rfl rfl ?_ ?_;rotate_left;(· (intro _ B;go_simp;(try go_bits);(try with_reducible rfl)))) | refine Zf rfl rfl rfl ?_);(try simp only [Act.put,pu1,pu2,pu3,pu4,pu5,pu6]))
     refine Zg rfl rfl (fun KR hKR=>?_);go_simp;(with_reducible refine (multiply1_own _ _ (vcL n L) (spV (U k) n) n n EE JJ _ (ar.out.below (Za hb D hb.size)) (a.below D) (UI n L) (by omega) (by omega) a0.out a1.out aw.out ab.out ay.out av.out (by have:=M.out;omega) (by have:=ax.out;omega)).mono ?_);rw [az.out];rintro _ w6 ⟨v6,rfl,e6,g⟩;have F:=Za D g D.size;refine hKR.out _ _ (Or.inr F) ?_;clear hKR KR;(try simp only [Act.put,pu1,pu2,pu3,pu4,pu5,pu6]);repeat ((first | (refine Zc (v:=?_) rfl rfl rfl ?_ ?_;rotate_left;(· (intro _ B;go_simp;(try go_bits);(try with_reducible rfl)))) | (refine Ze (v:=?_) rfl rfl rfl ?_ ?_;rotate_left;(· (intro _ B;go_simp;(try go_bits);(try with_reducible rfl)))) | refine Zf rfl rfl rfl ?_);(try simp only [Act.put,pu1,pu2,pu3,pu4,pu5,pu6]))
     refine Zv ?_;have y:=Za hb F hb.size;have b1:=hX.later F;obtain ⟨Ap,cp,rfl,bb,cn⟩:=e6.shape;have S:=e6;clear hb hX D F g e6 X2 X3 XU a a0 a1 aw ab ay az ax;obtain ⟨lp,bc⟩:∃x,(spV Q n).length=x:=⟨_,rfl⟩;rw [bc] at S bb ⊢;clear bc;go_wp2
     go_loopw [11] (fun x wx=>∃i:Nat,i≤n∧x= .int .i64 i∧Below w.heap.size w wx∧Bk wx w.heap.size 48 [.slice A0 n c0,.slice A1 n c1,.slice A2 n c2,.slice (some ⟨bu,ou,none⟩) n c3]∧Wy wx (.slice Ap lp cp) (spV Q n)) (fun x _=>n - (intOf x).toNat)
     case atStart=>exact ⟨0,by omega,rfl,y,b1,S⟩
     case round=>
      clear y b1 S;obtain ⟨i,hi,rfl,hb,hX,aj⟩:=hrel;rcases JX i n with hin | hin
      ·have cy:(i:Int) < n:=(by omega);have cz:=HF.out.fac.ri.1 i hin;have bt:=b0.out;obtain ⟨c,hc⟩:=XI (cs:=cols) (i:=C k) (by rw [HG.out.len];exact bt);obtain ⟨b5,o5,A5,c5,ah,_,xc,ak⟩:=HV.out.elem hb hc;obtain ⟨b6,o6,cd,xr⟩:=ao.out.nat hb hin;obtain ⟨b7,o7,ai,xk⟩:=ap.out.nat hb hkn;subst ah cd ai;have bv:Hid (∀(t:Nat) (e:En),c[t]? =some e→e.f.Sh):=JZ fun t e he=>((HG.out.light _ _ hc).2.2 t e he).sh (by decide)
       have bw:=JZ (HG.out.good _ _ hc).2.1;obtain ⟨aq,al⟩:∃q,XZ c (R i)=q:=⟨_,rfl⟩;have bx:=JZ al;have bz:Hid (XZ (spV Q n) i=aq):=JZ (by
        rw [Zsb,if_pos hin,bs.out];show Yu cols (C k) (R i)=aq;rw [Wu hc];exact al)
       obtain ⟨lc,bd⟩:∃x,c.length=x:=⟨_,rfl⟩;rw [bd] at xc ak;have ch:(C k:Int) < n:=(by omega);have x0:=hX.cellAt 0 rfl;have x1:=hX.cellAt 1 rfl;clear hc al bd
       go_upto_region 21 with (fail)
       have X0:=Zr x0;have X1:=Zr x1;have XC:=Zr xc;have XR:=Zr xr;have XK:=Zr xk;have D:=Zj wr;clear x0 x1 xc xr xk;refine Zt 19 [0,1,3,4,5,6,7,8,9,10,11,12,13,14,15,2,16,17,18] (by kernel_rfl) (by kernel_rfl) ?_;repeat ((first | (refine Zc (v:=?_) rfl rfl rfl ?_ ?_;rotate_left;(· (intro _ B;go_simp;(try go_bits);(try with_reducible rfl)))) | (refine Ze (v:=?_) rfl rfl rfl ?_ ?_;rotate_left;(· (intro _ B;go_simp;(try go_bits);(try with_reducible rfl)))) | refine Zf rfl rfl rfl ?_);(try simp only [Act.put,pu1,pu2,pu3,pu4,pu5,pu6]))
       refine Zg rfl rfl (fun KR hKR=>?_);go_simp;(with_reducible refine (Zug _ (spV Q n) i _ (aj.below D) bq.out br.out).mono ?_);rw [bz.out];rintro _ w6 ⟨v6,rfl,e6,g⟩;have F:=Za D g D.size;refine hKR.out _ _ (Or.inr F) ?_;clear hKR KR;(try simp only [Act.put,pu1,pu2,pu3,pu4,pu5,pu6]);repeat ((first | (refine Zc (v:=?_) rfl rfl rfl ?_ ?_;rotate_left;(· (intro _ B;go_simp;(try go_bits);(try with_reducible rfl)))) | (refine Ze (v:=?_) rfl rfl rfl ?_ ?_;rotate_left;(· (intro _ B;go_simp;(try go_bits);(try with_reducible rfl)))) | refine Zf rfl rfl rfl ?_);(try simp only [Act.put,pu1,pu2,pu3,pu4,pu5,pu6]))
       refine Zg rfl rfl (fun KR hKR=>?_);go_simp;(with_reducible refine (Zug _ c (R i) _ (ak.below F) bv.out bw.out).mono ?_);rw [bx.out];rintro _ w8 ⟨v8,rfl,e8,l⟩;have a2:=Za F l F.size;refine hKR.out _ _ (Or.inr a2) ?_;clear hKR KR;(try simp only [Act.put,pu1,pu2,pu3,pu4,pu5,pu6]);repeat ((first | (refine Zc (v:=?_) rfl rfl rfl ?_ ?_;rotate_left;(· (intro _ B;go_simp;(try go_bits);(try with_reducible rfl)))) | (refine Ze (v:=?_) rfl rfl rfl ?_ ?_;rotate_left;(· (intro _ B;go_simp;(try go_bits);(try with_reducible rfl)))) | refine Zf rfl rfl rfl ?_);(try simp only [Act.put,pu1,pu2,pu3,pu4,pu5,pu6]))
       refine Zg rfl rfl (fun KR hKR=>?_);go_simp;(with_reducible refine (Zkt _ _ (canF aq) (canF aq) _ (e6.below l) e8).mono ?_);rw [Zjr];rintro _ w9 ⟨rfl,z⟩;have T:=Za a2 z a2.size;refine hKR.out _ _ (Or.inr T) ?_;clear hKR KR;(try simp only [Act.put,pu1,pu2,pu3,pu4,pu5,pu6]);repeat ((first | (refine Zc (v:=?_) rfl rfl rfl ?_ ?_;rotate_left;(· (intro _ B;go_simp;(try go_bits);(try with_reducible rfl)))) | (refine Ze (v:=?_) rfl rfl rfl ?_ ?_;rotate_left;(· (intro _ B;go_simp;(try go_bits);(try with_reducible rfl)))) | refine Zf rfl rfl rfl ?_);(try simp only [Act.put,pu1,pu2,pu3,pu4,pu5,pu6]))
       refine Zv ?_;have d:=Za hb T hb.size;have b2:=hX.later T;have ad:=aj.below T;clear hb hX aj D F a2 T g l z e6 e8 ak X0 X1 XC XR XK;go_wp2;go_roundw
       case rel=>exact ⟨i+1,by omega,by go_num,d,b2,ad⟩
       case measure=>simp [intOf];omega
      ·obtain rfl:n=i:=by omega
       go_wp2;go_roundw
       case rel=>exact ⟨k+1,by omega,by go_num,hb,hX⟩
       case measure=>simp [intOf];omega
    ·obtain rfl:n=k:=by omega
     go_wp2;go_ret;exact ⟨rfl,hb⟩
theorem basisFactors_any [Old] (n:Int) (v:Value) (cols:List (List En)) (w:World) (h0: -9223372036854775808≤n) (h1:n≤9223372036854775807) (h:Xf w v cols) (hi:∀(j:Nat) (es:List En),cols[j]? =some es→EnI es) (hOl:Zb w:=by (repeat (first | assumption | exact Zb.up (by assumption) hOl | exact Zb.up (Hid.out (by assumption)) hOl | with_reducible refine Zb.set ?_ _ _ | with_reducible refine Zb.mk_ ?_ _ | with_reducible refine Zb.dr ?_ | with_reducible refine Zb.drN ?_ | refine Zb.up (by assumption) ?_ | refine Zb.up (Hid.out (by assumption)) ?_))):
 Calls Tryz.prog 4 #[.int .i64 n,v] w fun e w'=>e= .returned (.bool true)∧Below w.heap.size w w':=by
 have t:=hOl.le;have HV:=JZ h;have HI:=JZ hi;clear h hi;go_enter Tryz.func4,Tryz.ntmps4;go_wp2_with fail;refine (Zup _ cols n _ HV.out h0 h1).mono ?_;rintro _ w1 ⟨b1,rfl,p,b⟩
 cases b1
 case false=>
  go_wp2_with fail;refine (Zuo _).mono ?_;rintro _ wz ⟨rfl,d⟩;go_wp2;go_ret;exact ⟨rfl,Za b d b.size⟩
 case true=>
  obtain ⟨o,h7⟩:=p rfl;have HL:=JZ (o.c HI.out);have u:=JZ (HV.out.below b);clear p o;go_wp2_with fail;refine (Zun _ cols n _ (HV.out.below b) HL.out h7 h0 h1).mono ?_;rintro _ w2 ⟨rfl,hb⟩;have a:=Za b hb b.size;clear hb;by_cases hz:Wx n cols=0
  case neg=>
   generalize Wx n cols=ce at *;have x:(ce==0)=false:=(by simpa using hz);go_wp2_with fail;refine (Zuo _).mono ?_;rintro _ wz ⟨rfl,d⟩;go_wp2;go_ret;exact ⟨rfl,Za a d a.size⟩
  case pos=>
   obtain ⟨m,rfl,hR⟩:=Zvw hz HL.out h7;have HR:=JZ hR;rw [hz];clear hz h7 hR;go_wp2_with fail;refine (Zqz _ m 12 cols (Yu cols) _ (HV.out.below a) HR.out.len HR.out.n7 (by omega) (JW HR.out.fit (by decide)) HR.out.gK (fun k c hc=>Wu hc)).mono ?_;rintro _ w3 ⟨hb,⟨g,rfl,-,f⟩ | ⟨rfl,s⟩⟩
   case inr=>exact absurd HR.out.ind s
   case inl=>
    obtain ⟨gc,hC⟩:=(f 0).c;have HB:=JZ hb;clear f;go_wp2_with fail;refine (bfactors_own gc w2.heap.size 0 g m 12 (Yu cols) _ hC hb.size).mono ?_;rintro _ w4 ⟨v0,v1,v2,v3,R,C,L,Um,rfl,i0,i1,i2,i3,hF,-,q,-⟩;have i:=Za a (HB.out.trans q) a.size;obtain ⟨A0,c0,rfl,_,_⟩:=i0.shape;obtain ⟨A1,c1,rfl,_,_⟩:=i1.shape;obtain ⟨A2,c2,rfl,_,_⟩:=i2.shape;obtain ⟨A3,c3,rfl,_,_⟩:=i3.shape;simp only [Zba,UI] at *;clear hb q hC;go_wp2_with fail;refine (factors4_any _ _ _ _ _ cols m _ R C L Um _ (HV.out.below i) HR.out i0 i1 i2 i3 hF).mono ?_;rintro _ w5 ⟨rfl,r⟩;have l:=Za i r i.size;clear i0 i1 i2 i3 hF r;go_wp2_with fail;refine (Zuo _).mono ?_;rintro _ wz ⟨rfl,d⟩;go_wp2;go_ret;exact ⟨rfl,Za l d l.size⟩
end Go.Proofs.YtidgdpkcloaheaaGreat
