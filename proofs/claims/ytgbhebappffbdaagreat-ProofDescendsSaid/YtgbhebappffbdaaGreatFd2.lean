/- Lemmas of the claim; no condition. -/
import Derived.Test.YtgbhebappffbdaaGreatFd1
set_option linter.all false
set_option maxRecDepth 100000
set_option maxHeartbeats 40000000
namespace Go.Proofs.YtgbhebappffbdaaGreat
open Go.RowKit
open Pl
attribute [local go_sem ↓] Go.wp_at_zero Go.wp_at_succ
theorem wpList_append_frac {ops:Array Oper} {rest:List Oper} {o:Oper} {a:Act} {Q:Exit→Act→World→Prop} (hgd:o.guard=none) (s x:Operand)
 (ho:o.op= .call { callee:= .builtin .append,args:=#[s,x],argTypes:=#[23,23] })
 (W:World) (base:Nat) (v:Value) (fs:List RF) (hs:a.eval s=v) (hown:Z4 base W v fs) (b b':Bool) (A A':Option Addr) (n c n' c':Nat) (f:RF) (hf:Zt W (.agg #[.bool b,.slice A n c,.bool b',.slice A' n' c']) f)
 (hx:a.eval x= .slice (some ⟨W.heap.size,0,none⟩) 1 1) (hn:fs.length+1≤1099511627776) (hbase:base≤W.heap.size)
 (h:∀v' w',Z4 base w' v' (fs++[f])→Ze 46 W w'→Below base W w'→wpList Tryz.prog ops Q rest (a.put o.dst v') w'):
 wpList Tryz.prog ops Q (o::rest) a (W.alloc (.cells #[.bool b,.slice A n c,.bool b',.slice A' n' c'] 46)):=by
 obtain ⟨cs,h1,h2⟩:=hown;obtain ⟨i0,hi,d,e,g⟩:=info_parts info_frac;refine Zba hgd s x 23 ho 46 i0 _ 4 64 Tryz.underlying23 hi d e g rfl (by decide) W base v fs.length cs [.bool b,.slice A n c,.bool b',.slice A' n' c'] hs h1 hx rfl Zjf (by unfold maxLen;omega) (by omega) hbase ?_;intro v' w' g1 g2 g3;refine h v' w' ⟨_,by simpa using g1,?_⟩ g2 g3;have hk:=g2.keep (by decide);exact (h2.keep hk).snoc (hf.keep hk)
theorem zeros_own (n:Nat) (w:World) (hn:n≤1099511627776):
 Calls Tryz.prog 44 #[.int .i64 (n:Int)] w fun e w'=>∃v',e= .returned v'∧Z4 w.heap.size w' v' (List.replicate n (canF 0))∧Below w.heap.size w w':=by
 go_enter Tryz.func44,Tryz.ntmps44;go_wp2
 go_loopw [3,4] (fun s i wr=>∃k:Nat,k≤n∧i= .int .i64 k∧Z4 w.heap.size wr s (List.replicate k (canF 0))∧Below w.heap.size w wr) (fun _ i _=>n - (intOf i).toNat)
 case atStart=>exact ⟨0,by omega,rfl,Z4.nil _ _,JR _ _⟩
 case round=>
  obtain ⟨k,hk,rfl,b,d⟩:=hrel;rcases JX k n with hkl | hkl
  ·go_wp2_with fail;refine (Y4 0 _ (by omega) (by omega)).mono ?_;rintro e w1 ⟨v1,rfl,e1,g⟩;rw [show ((0:Int):Rat)=0 from rfl] at e1;have a:=b.below g;have f:=Za d g d.size;obtain ⟨A,m,c,A',m',c',rfl,_,_⟩:=id e1.frac;have HF:=JZ e1.frac;have HO:=JZ a;have j:(List.replicate k (canF 0)).length+1≤1099511627776:=(by simp;omega);have l:=f.size;clear b a d g e1;go_wp2_with (at_builtin;refine wpList_append_frac rfl (.tmp 10) (.tmp 12) rfl w1 w.heap.size u3 (List.replicate k (canF 0)) rfl HO.out _ _ A A' m c m' c' (canF 0) HF.out rfl j l ?_);intro v' w2 h p o;go_wp2;go_roundw
   case rel=>exact ⟨k+1,by omega,by go_num,by rw [List.replicate_succ'];exact h,f.trans o⟩
   case measure=>simp [intOf];omega
  ·obtain rfl:k=n:=by omega
   go_wp2;go_ret;exact ⟨_,rfl,b,d⟩
namespace Pl
theorem canL_zero (m:Nat):List.replicate m (canF 0)=Yj m fun _=>0:=by
 apply List.ext_getElem?;intro i;rcases JX i m with h | h
 ·rw [ZK h,List.getElem?_replicate,if_pos h]
 ·rw [JU (by simpa using h),JU (by rw [Zm];exact h)]
theorem canL_succ (m:Nat) (f:Nat→Rat):Yj m f++[canF (f m)]=Yj (m+1) f:=by simp [Yj,List.range_succ]
theorem eqB_true {xs ys:List RF} (h1:xs.length=ys.length) (h:∀i,i < xs.length→qAt xs i=qAt ys i):eqB xs ys=true:=by
 unfold eqB;rw [decide_eq_true];exact ⟨h1,h⟩
end Pl
theorem cell5_later {w w':World} {b o:Nat} {x y z u t:Value} (hb:Below w.heap.size w w') (h:w.cell? ⟨b,o,none⟩=some x∧w.cell? ⟨b,o+1,none⟩=some y∧w.cell? ⟨b,o+2,none⟩=some z∧w.cell? ⟨b,o+3,none⟩=some u∧w.cell? ⟨b,o+4,none⟩=some t):
 w'.cell? ⟨b,o,none⟩=some x∧w'.cell? ⟨b,o+1,none⟩=some y∧w'.cell? ⟨b,o+2,none⟩=some z∧w'.cell? ⟨b,o+3,none⟩=some u∧w'.cell? ⟨b,o+4,none⟩=some t:=
 ⟨Zf hb h.1,Zf hb h.2.1,Zf hb h.2.2.1,Zf hb h.2.2.2.1,Zf hb h.2.2.2.2⟩
theorem rdense_own (v:Value) (es:List En) (m:Nat) (w:World) (h:Vf w v es) (hs:∀(k:Nat) (e:En),es[k]? =some e→e.f.Sh) (hin:inR m es) (hm0:m≤1099511627776):
 Calls Tryz.prog 109 #[v,.int .i64 (m:Int)] w fun e w'=>∃v',e= .returned v'∧Z4 w.heap.size w' v' (Yj m (Wl es))∧Below w.heap.size w w':=by
 obtain ⟨A,c,rfl,I,J⟩:=h.shape;generalize hl:es.length=l at *;have HL:=JZ hl;have HS:=JZ hs;have HI:=JZ hin;clear hl hs hin;go_enter Tryz.func109,Tryz.ntmps109;go_wp2_with fail;refine (zeros_own m _ hm0).mono ?_;rw [canL_zero];rintro _ w1 ⟨v1,rfl,hO,d⟩;have ST:Hid (Z4 w.heap.size w1 v1 (Yj m (dQ (es.take 0) fun _=>0))):=JZ hO;clear hO;go_wp2
 go_loopw [6] (fun i wr=>∃k:Nat,k≤l∧i= .int .i64 k∧Below w.heap.size w wr∧Z4 w.heap.size wr v1 (Yj m (dQ (es.take k) fun _=>0))) (fun i _=>l - (intOf i).toNat)
 case atStart=>exact ⟨0,by omega,rfl,d,ST.out⟩
 case round=>
  clear ST d;obtain ⟨k,hk,rfl,d,hO⟩:=hrel;rcases JX k l with hkl | hkl
  ·obtain ⟨e,he⟩:=YZ (es:=es) (i:=k) (by rw [HL.out];exact hkl);obtain ⟨b,p,A1,n1,c1,A2,n2,c2,rfl,K,o,hm⟩:=h.elem d he;obtain ⟨i0,i1⟩:=HI.out k e he;have z:=HS.out k e he;have HT:=JZ (Ztt he fun _=>0);obtain ⟨g,cg,rfl,C,L,D,M⟩:=hO.shape (by rw [Zm];omega);rw [Zm] at hO D ⊢;obtain ⟨j,hj⟩:=JT i0;have r:j < m:=(by omega);have t:=ZK (f:=dQ (es.take k) fun _=>0) r;have F:(k:Int) < l:=(by omega);have G:b≠g:=(by omega);have H:(j:Int) < m:=(by omega);rw [hj] at o;clear he;go_wp2_with fail;refine wp_region_noPanic ?_;refine Zcf (S:=fun w'=>w'.cell? ⟨b,p+k * 5,none⟩=some (.int .i64 (j:Int))∧w'.cell? ⟨b,p+k * 5+1,none⟩=some (.bool e.f.num.neg)∧w'.cell? ⟨b,p+k * 5+2,none⟩=some (.slice A1 n1 c1)∧w'.cell? ⟨b,p+k * 5+3,none⟩=some (.bool e.f.den.neg)∧w'.cell? ⟨b,p+k * 5+4,none⟩=some (.slice A2 n2 c2)) (n:=13) (by kernel_rfl) ?_ (fun hHeld=>?_)
   ·exact o
   refine Zy (i:=0) (v:=?_) rfl (by kernel_rfl) (by kernel_rfl) (by kernel_rfl) (by kernel_rfl) (fun _ _ _ h=>h) (Or.inl ⟨by rfl,?y10⟩) (by assumption) ?_
   case y10=>(intro _ a;(try dsimp only at a);go_simp;(try with_reducible rfl))
   (try simp only [Act.put,List.setIfInBounds_toArray,List.set_cons_zero,List.set_cons_succ]);refine Zy (i:=1) (v:=?_) rfl (by kernel_rfl) (by kernel_rfl) (by kernel_rfl) (by kernel_rfl) (fun _ _ _ h=>h) (Or.inl ⟨by rfl,?y11⟩) (by assumption) ?_
   case y11=>(intro _ a;(try dsimp only at a);go_simp;(try with_reducible rfl))
   (try simp only [Act.put,List.setIfInBounds_toArray,List.set_cons_zero,List.set_cons_succ]);refine Zy (i:=2) (v:=?_) rfl (by kernel_rfl) (by kernel_rfl) (by kernel_rfl) (by kernel_rfl) (fun _ _ _ h=>h) (Or.inl ⟨by rfl,?y12⟩) (by assumption) ?_
   case y12=>(intro _ a;(try dsimp only at a);go_simp;(try with_reducible rfl))
   (try simp only [Act.put,List.setIfInBounds_toArray,List.set_cons_zero,List.set_cons_succ]);refine Zy (i:=3) (v:=?_) rfl (by kernel_rfl) (by kernel_rfl) (by kernel_rfl) (by kernel_rfl) (fun _ _ _ h=>h) (Or.inl ⟨by rfl,?y13⟩) (by assumption) ?_
   case y13=>(intro _ a;(try dsimp only at a);go_simp;(try with_reducible rfl))
   (try simp only [Act.put,List.setIfInBounds_toArray,List.set_cons_zero,List.set_cons_succ]);refine Zy (i:=4) (v:=?_) rfl (by kernel_rfl) (by kernel_rfl) (by kernel_rfl) (by kernel_rfl) (fun _ _ _ h=>h) (Or.inl ⟨by rfl,?y14⟩) (by assumption) ?_
   case y14=>(intro _ a;(try dsimp only at a);go_simp;(try with_reducible rfl))
   (try simp only [Act.put,List.setIfInBounds_toArray,List.set_cons_zero,List.set_cons_succ]);refine Zy (i:=5) (v:=?_) rfl (by kernel_rfl) (by kernel_rfl) (by kernel_rfl) (by kernel_rfl) (fun _ _ _ h=>h) (Or.inl ⟨by rfl,?y15⟩) (by assumption) ?_
   case y15=>(intro _ a;(try dsimp only at a);go_simp;(try with_reducible rfl))
   (try simp only [Act.put,List.setIfInBounds_toArray,List.set_cons_zero,List.set_cons_succ]);refine Zy (i:=6) (v:=?_) rfl (by kernel_rfl) (by kernel_rfl) (by kernel_rfl) (by kernel_rfl) (fun _ _ _ h=>h) (Or.inl ⟨by rfl,?y16⟩) (by assumption) ?_
   case y16=>(intro _ a;(try dsimp only at a);go_simp;(try with_reducible rfl))
   (try simp only [Act.put,List.setIfInBounds_toArray,List.set_cons_zero,List.set_cons_succ]);refine Zy (i:=7) (v:=?_) rfl (by kernel_rfl) (by kernel_rfl) (by kernel_rfl) (by kernel_rfl) (fun _ _ _ h=>h) (Or.inl ⟨by rfl,?y17⟩) (by assumption) ?_
   case y17=>(intro _ a;(try dsimp only at a);go_simp;(try with_reducible rfl))
   (try simp only [Act.put,List.setIfInBounds_toArray,List.set_cons_zero,List.set_cons_succ]);refine Zy (i:=8) (v:=?_) rfl (by kernel_rfl) (by kernel_rfl) (by kernel_rfl) (by kernel_rfl) (fun _ _ _ h=>h) (Or.inl ⟨by rfl,?y18⟩) (by assumption) ?_
   case y18=>(intro _ a;(try dsimp only at a);go_simp;(try with_reducible rfl))
   (try simp only [Act.put,List.setIfInBounds_toArray,List.set_cons_zero,List.set_cons_succ]);refine Zy (i:=9) (v:=?_) rfl (by kernel_rfl) (by kernel_rfl) (by kernel_rfl) (by kernel_rfl) (fun _ _ _ h=>h) (Or.inl ⟨by rfl,?y19⟩) (by assumption) ?_
   case y19=>(intro _ a;(try dsimp only at a);go_simp;(try with_reducible rfl))
   (try simp only [Act.put,List.setIfInBounds_toArray,List.set_cons_zero,List.set_cons_succ]);refine Zy (i:=10) (v:=?_) rfl (by kernel_rfl) (by kernel_rfl) (by kernel_rfl) (by kernel_rfl) (fun _ _ _ h=>h) (Or.inl ⟨by rfl,?y20⟩) (by assumption) ?_
   case y20=>(intro _ a;(try dsimp only at a);go_simp;(try with_reducible rfl))
   (try simp only [Act.put,List.setIfInBounds_toArray,List.set_cons_zero,List.set_cons_succ]);refine Wj (i:=11) (by kernel_rfl) rfl (fun KR hKR=>?_);go_simp;(with_reducible refine (Zfo _ e.f _ (hm.keep (ZF.drew _)) z).mono ?_);rintro _ w2 ⟨v2,rfl,e2,s⟩;obtain ⟨E,l9,k9,E',N,O,rfl,_,_⟩:=id e2.frac;have u:=(hO.below (Zj _)).below s;obtain ⟨_,_,_,_,⟨c0,c1,c2,c3⟩,⟨f0,f1,f2,f3⟩,_⟩:=u.at_ t;refine hKR.out _ _ ?_ (fun hHeld=>?_)
   ·exact cell5_later s o
   clear hKR KR;(try simp only [Act.put,List.setIfInBounds_toArray,List.set_cons_zero,List.set_cons_succ]);refine Zy (i:=12) (v:=?_) rfl (by kernel_rfl) (by kernel_rfl) (by kernel_rfl) (by kernel_rfl) (fun _ _ _ h=>h) (Or.inl ⟨by rfl,?y21⟩) (by assumption) ?_
   case y21=>(intro _ a;(try dsimp only at a);go_simp;(try with_reducible rfl))
   (try simp only [Act.put,List.setIfInBounds_toArray,List.set_cons_zero,List.set_cons_succ]);refine Zdd (i:=13) (by kernel_rfl) rfl (by decide) (fun KR hKR=>?_);go_simp;refine hKR.out _ _ ?_;clear hKR KR;(try simp only [Act.put,List.setIfInBounds_toArray,List.set_cons_zero,List.set_cons_succ]);refine UY (by kernel_rfl) (NoPanic.normal ?_) _;obtain ⟨x,P⟩:=u.set_ (k:=j) (by rw [Zm];exact r) e2.frac;rw [Vg r] at x;have B:=Zw (Za d.drew s d.size) C (j * 4) (j * 4+1) (j * 4+2) (j * 4+3);go_wp2;go_roundw
   case rel=>exact ⟨k+1,by omega,by go_num,B _ _ _ _,by
    rw [HT.out];have:Yj m (fun i=>if i=j then e.f.q else dQ (es.take k) (fun _=>0) i)=Yj m (fun (i:Nat)=>if e.idx=(i:Int) then e.f.q else dQ (es.take k) (fun _=>0) i):=ZT fun i _=>by
     by_cases y:i=j
     ·rw [if_pos y,if_pos (by omega)]
     ·rw [if_neg y,if_neg (by omega)]
    rw [← this];exact x⟩
   case measure=>simp [intOf];omega
  ·go_wp2;go_ret;refine ⟨_,rfl,?_,d⟩;rw [List.take_of_length_le (by rw [HL.out];omega)] at hO;exact hO
theorem rcolumn_pos (v:Value) (p:LPd) (K j:Nat) (w:World) (h:LpM w v p) (ok:p.Ok K) (hK:K≤34359738368) (hin:p.In) (hj:j < p.cols.length) (hm:p.right.length≤64):
 Calls Tryz.prog 60 #[v,.int .i64 (j:Int)] w fun e w'=>∃v',e= .returned v'∧Z4 w.heap.size w' v' (Yj p.right.length (p.col j))∧Below w.heap.size w w':=by
 obtain ⟨A,n,c,A',n',c',g,d,i,rfl,hc,hv,hr⟩:=h;obtain ⟨W,hW,hX,a⟩:=Y6 w (.slice A n c) (.slice A' n' c') (.slice g d i);obtain ⟨x0,x1,x2⟩:=hX.three;obtain ⟨m1,m2,m3⟩:=hv.len;obtain ⟨r1,r2,r3⟩:=hr.len;obtain ⟨es,he⟩:=Xb hj;obtain ⟨b,r,A1,c1,rfl,s,l,m⟩:=hv.elem a he;have hO:=ok.2.2 j es he;have hI:=hin j es he;rw [← r1] at hm hI ⊢;rw [← m1] at hj;rw [LPd.col_pos he];have q:(j:Int) < n':=by omega
 have HS:Hid (∀(k:Nat) (e:En),es[k]? =some e→e.f.Sh):=JZ fun k e hk=>(hO.2 k e hk).sh hK
 have HI:=JZ hI;clear he hO hI r1 m1;go_enter Tryz.func60,Tryz.ntmps60;go_wp2_with fail;clear hW;refine (rdense_own _ es d _ m HS.out HI.out (by omega)).mono ?_;rintro _ w1 ⟨v1,rfl,e1,o⟩;obtain ⟨cs,ho,hf⟩:=e1;go_wp2;go_ret;exact ⟨_,rfl,⟨cs,Wy ho a.size,hf⟩,Za a o a.size⟩
theorem XO.but {w w':World} {e:TypeId} {v:Value} {cols:List (List En)} (h:XO w v cols) (hk:Ze e w w') (h0:66≠e) (h1:83≠e) (h2:148≠e):XO w' v cols:=by
 obtain ⟨cs,g1,g2⟩:=h;exact ⟨cs,hk.row g1 h0,fun k c hc=>by obtain ⟨u,q1,q2⟩:=g2 k c hc;exact ⟨u,q1,q2.but hk h1 h2⟩⟩
theorem run_append_oneG (ty t e:TypeId) (i:TypeInfo) (z:Value) (size bytes:Nat) (ht:Tryz.prog.underlying t=some (.slice e)) (hi:Tryz.prog.info? e=some i) (hz:i.zero=some z)
 (hsize:i.size=size) (hby:i.bytes=bytes) (hzs:z.cells.size=size) (hsz:0 < size) (W:World) (base:Nat) (v:Value) (n:Nat) (xs news:List Value) (hown:W.ownsRow base e size v n xs)
 (hl:news.length=size) (h1:∀u∈news,u.oneCell'=true) (hn:n+1≤maxLen) (hb:(n+1) * bytes≤140737488355328) (hbase:base≤W.heap.size):
 ∃v' w',(Builtin.append_ #[t,t] ty #[v,.slice (some ⟨W.heap.size,0,none⟩) 1 1]).run Tryz.prog (W.alloc (.cells news.toArray e))= .ok v' w'∧w'.ownsRow base e size v' (n+1) (xs++news)∧Ze e W w'∧Below base W w'∧ZW v.ownBlock W w'∧(v'.ownBlock=v.ownBlock∨∀g,v'.ownBlock=some g→W.heap.size≤g):=by
 have c:Bk (W.alloc (.cells news.toArray e)) W.heap.size e news:=Bk.new W e news;obtain ⟨v',w',d,h2,h3,_,h5⟩:=run_append_own_at (P:=Tryz.prog) (W.alloc (.cells news.toArray e)) base t ty e i z size bytes ht hi hz hsize hby hzs hsz v n xs (hown.alloc _) ⟨W.heap.size,0,none⟩ 1 1 news (by omega) (fun j u hj=>by rw [addr_add,Nat.zero_add,c.cell];exact hj) h1 hn hb (by simp;omega);refine ⟨v',w',d,h2,?_,?_,⟨?_,?_⟩,?_⟩
 ·intro b cs t' fz a hc;have f:=Yw hc;refine (h3.block b (by simp;omega) ?_).trans ((Below.heap_alloc W _ b f).trans hc);intro e1;rcases hown.2 with ⟨rfl,_⟩ | ⟨g,cap,cur,rfl,_,hg,_⟩
  ·simp [Value.ownBlock] at e1
  ·simp [Value.ownBlock] at e1;subst e1;rw [hg] at hc;injection hc with hc;injection hc with _ h2 _;exact a h2.symm
 ·refine ((JR _ _).alloc hbase _).grown h3 (by simp;omega) (fun k hk=>?_);exact (hown.lt k hk).1
 ·have:=h3.size;simp at this;omega
 ·intro b hb a;exact (h3.block b (by simp;omega) a).trans (Below.heap_alloc W _ b hb)
 ·rcases h5 with h5 | h5
  ·exact .inl h5
  ·right;intro g hg;rw [h5] at hg;injection hg with hg;simp at hg;omega
 where
  addr_add (g j:Nat):(⟨g,0,none⟩:Addr).add j=⟨g,0+j,none⟩:=by
   unfold Addr.add;split
   ·rename_i h;subst h;rfl
   ·rfl
theorem wpList_append_fracG {ops:Array Oper} {rest:List Oper} {o:Oper} {a:Act} {Q:Exit→Act→World→Prop} (hgd:o.guard=none) (s x:Operand)
 (ho:o.op= .call { callee:= .builtin .append,args:=#[s,x],argTypes:=#[23,23] })
 (W:World) (base:Nat) (v:Value) (fs:List RF) (hs:a.eval s=v) (hown:Z4 base W v fs) (b b':Bool) (A A':Option Addr) (n c n' c':Nat) (f:RF) (hf:Zt W (.agg #[.bool b,.slice A n c,.bool b',.slice A' n' c']) f)
 (hx:a.eval x= .slice (some ⟨W.heap.size,0,none⟩) 1 1) (hn:fs.length+1≤1099511627776) (hbase:base≤W.heap.size)
 (h:∀v' w',Z4 base w' v' (fs++[f])→Ze 46 W w'→Below base W w'→ZW v.ownBlock W w'→(v'.ownBlock=v.ownBlock∨∀g,v'.ownBlock=some g→W.heap.size≤g)→wpList Tryz.prog ops Q rest (a.put o.dst v') w'):
 wpList Tryz.prog ops Q (o::rest) a (W.alloc (.cells #[.bool b,.slice A n c,.bool b',.slice A' n' c'] 46)):=by
 obtain ⟨cs,h1,h2⟩:=hown;obtain ⟨i0,hi,d,e,i⟩:=info_parts info_frac;refine wpList_plain hgd fun K hK=>?_
 obtain ⟨v',w',hr,g1,g2,g3,g4,g5⟩:=run_append_oneG o.type 23 46 i0 _ 4 64 Tryz.underlying23 hi d e i rfl (by decide) W base v fs.length cs [.bool b,.slice A n c,.bool b',.slice A' n' c'] h1 rfl Zjf (by unfold maxLen;omega) (by omega) hbase;unfold Oper.wp execOp;simp only [ho,resolve,invoke,builtin,Sem.run_bind,Sem.run_pure,Result.andThen_ok,List.map_toArray,List.map_cons,List.map_nil,hs,hx];rw [show (Obj.cells #[.bool b,.slice A n c,.bool b',.slice A' n' c'] 46)=(Obj.cells [.bool b,.slice A n c,.bool b',.slice A' n' c'].toArray 46) from rfl];simp only [hr,Result.andThen_ok];have hk:=g2.keep (by decide);exact hK _ _ (h v' w' ⟨_,by simpa using g1,(h2.keep hk).snoc (hf.keep hk)⟩ g2 g3 g4 g5)
namespace Pl
def timesC (cols:List (List En)) (xs:List RF) (k i:Nat):Rat:=ZO (fun j=>qAt xs j * Ygs cols j i) k
theorem timesQ_C (p:LPd) (xs:List RF) (k i:Nat):YL p xs k i=timesC p.cols xs k i:=Zk fun j _=>by rw [Zyi]
theorem qAt_left {xs:List RF} {f:RF} {j:Nat} (h:j < xs.length):qAt (xs++[f]) j=qAt xs j:=by unfold qAt;rw [List.getElem?_append_left h]
theorem qAt_end {xs:List RF} {f:RF}:qAt (xs++[f]) xs.length=f.q:=by unfold qAt;rw [List.getElem?_append_right (JY _),Nat.sub_self];rfl
theorem timesC_snoc (cols:List (List En)) {xs:List RF} (f:RF) {k:Nat} (hk:xs.length=k) (i:Nat):timesC cols (xs++[f]) (k+1) i=timesC cols xs k i+f.q * Ygs cols k i:=by
 subst hk;unfold timesC;rw [ZC,qAt_end,Zk fun j hj=>by rw [qAt_left hj]]
def NN (xs:List RF):Prop:=∀(j:Nat) (f:RF),xs[j]? =some f→0≤f.q
theorem NN.nil:NN []:=fun j f h=>by simp at h
theorem NN.snoc {xs:List RF} (h:NN xs) {f:RF} (hf:0≤f.q):NN (xs++[f]):=fun i g hg=>by
 rcases JX i xs.length with hi | hi
 ·rw [List.getElem?_append_left hi] at hg;exact h i g hg
 ·rw [List.getElem?_append_right hi] at hg
  have:i - xs.length=0:=by
   rcases JV (i - xs.length) with e | e
   ·exact e
   ·rw [JU (by simp;omega)] at hg;cases hg
  rw [this] at hg;simp at hg;subst hg;exact hf
def mixR (T:Nat→Rat) (q:Rat) (C:Nat→Rat) (r i:Nat):Rat:=if i < r then T i+q * C i else T i
theorem mixR_zero (T:Nat→Rat) (q:Rat) (C:Nat→Rat):mixR T q C 0=T:=by funext i;simp [mixR]
theorem mixR_at (T:Nat→Rat) (q:Rat) (C:Nat→Rat) (r:Nat):mixR T q C r r+q * C r=mixR T q C (r+1) r:=by simp [mixR]
theorem mixR_next (T:Nat→Rat) (q:Rat) (C:Nat→Rat) (r:Nat):(fun i=>if i=r then mixR T q C (r+1) r else mixR T q C r i)=mixR T q C (r+1):=by
 funext i
 by_cases h:i=r
 ·subst h;rw [if_pos rfl]
 ·rw [if_neg h];unfold mixR;by_cases h2:i < r
  ·rw [if_pos h2,if_pos (by omega)]
  ·rw [if_neg h2,if_neg (by omega)]
theorem Sz_colC {m:Nat} {cols:List (List En)} (h:∀(j:Nat) (c:List En),cols[j]? =some c→Vr m c) (j i:Nat):Sz 1 (Ygs cols j i):=by
 unfold Ygs
 cases hc:cols[j]? with
 | some c=>exact Sz_col (fun k e he=>((h j c hc).2.2 k e he).2.2.2) (JY _) i
 | none=>exact Sz_zero
theorem Sz_timesC {m:Nat} {cols:List (List En)} (h:∀(j:Nat) (c:List En),cols[j]? =some c→Vr m c) {xs:List RF} (hx:RsL 2 xs) {k:Nat} (hk:k≤5) (i:Nat):Sz 21 (timesC cols xs k i):=
 (Zjg (K:=3) fun j _=>(XN (hx.qAt (by decide) j) (Sz_colC h j i)).mono (by omega)).mono (by omega)
theorem Sz_mixR {T C:Nat→Rat} {q:Rat} {r i:Nat} (h1:Sz 21 (T i)) (h2:Sz 2 q) (h3:Sz 1 (C i)):Sz 32 (mixR T q C r i):=by
 unfold mixR;split
 ·exact (Ztl h1 (XN h2 h3)).mono (by omega)
 ·exact h1.mono (by omega)
end Pl
theorem Bk.far4' {w:World} {g g':Nat} {t:TypeId} {cs:List Value} (h:Bk w g t cs) (hne:g≠g') (i j k l:Nat) (x y z u:Value):Bk ((((w.setCell ⟨g',i,none⟩ x).setCell ⟨g',j,none⟩ y).setCell ⟨g',k,none⟩ z).setCell ⟨g',l,none⟩ u) g t cs:=
 (((h.far (p:=⟨g',i,none⟩) hne x).far (p:=⟨g',j,none⟩) hne y).far (p:=⟨g',k,none⟩) hne z).far (p:=⟨g',l,none⟩) hne u
theorem Z4.own_ge {base:Nat} {w:World} {v:Value} {fs:List RF} (h:Z4 base w v fs):∀g,v.ownBlock=some g→base≤g:=by
 obtain ⟨cs,h1,h2⟩:=h;intro g hg;exact (h1.lt g hg).1
def FeasPost (w:World) (e:Ending) (w':World):Prop:=
 ∃v1 v2 p xs,e= .returned (.tuple #[v1,v2])∧LpO w.heap.size w' v1 p∧Z4 w.heap.size w' v2 xs∧Ych p∧RsL 32 p.right∧RsL 2 xs∧xs.length=p.cols.length∧NN xs∧(∀i,i < p.right.length→qAt p.right i=YL p xs p.cols.length i)∧Below w.heap.size w w'
def FeasPost2 (w:World) (e:Ending) (w':World):Prop:=
 ∃v1 v2 p xs b2,e= .returned (.tuple #[v1,v2])∧LpO w.heap.size w' v1 p∧Z4 b2 w' v2 xs∧w.heap.size≤b2∧(∀s0 s1 s2 g,v1= .agg #[s0,s1,s2]→s0.ownBlock=some g→g < b2)∧Ych p∧RsL 32 p.right∧RsL 2 xs∧xs.length=p.cols.length∧NN xs∧(∀i,i < p.right.length→qAt p.right i=YL p xs p.cols.length i)∧Below w.heap.size w w'
theorem feasibleData_own2 (v:Value) (zs:List Int) (w:World) (h:XE w v zs):
 Calls Tryz.prog 23 #[v] w (FeasPost2 w):=by
 obtain ⟨a,cap,rfl,bi,ed⟩:=h.shape;generalize hn:zs.length=n at *;clear hn;obtain ⟨W,hW,hR,O⟩:=Y6 w (.slice none 0 0) (.slice none 0 0) (.slice none 0 0);have bw:=O.size;go_enter Tryz.func23,Tryz.ntmps23;go_wp2_with fail;clear hW;refine (Ygr _ zs _ (h.below O)).mono ?_;rintro _ w1 ⟨v1,p,rfl,hp,af,dy,br⟩;obtain ⟨s0,s1,s2,b1,rfl,bn,an,bo,am,b3⟩:=hp;have ah:=JZ af;have dd:=hR.later br;have I:=Za O br O.size;have bz:=h.below I;obtain ⟨A0,n0,c0,rfl⟩:=bn.sliceN;obtain ⟨A1,n1,c1,rfl⟩:∃A n c,s1= .slice A n c:=by obtain ⟨A,c,e,_⟩:=an.shape;exact ⟨A,_,c,e⟩
 obtain ⟨A2,m,c2,rfl⟩:=bo.sliceN;obtain ⟨N1,N2,N3⟩:=an.len;obtain ⟨M1,M2,M3⟩:=bo.frs.len;have m1:1≤m:=by rw [M1];exact af.1
 have m2:m≤3:=by rw [M1];exact af.2.1
 have nN:n1≤5:=by rw [N1];exact af.2.2.1
 have b8:=JZ N1;have c3:=JZ M1;have ai:=JZ bn;have c4:=JZ an;have eb:=JZ b3;clear af dy bo am br hR O N1 M1 bn an b3 h;obtain ⟨W2,cy,hX,S⟩:=Y6 w1 (.slice A0 n0 c0) (.slice A1 n1 c1) (.slice A2 m c2);have aq:W2.heap.size=w1.heap.size+1:=by rw [← cy];simp
 obtain ⟨x0,x1,x2⟩:=hX.three;go_wp2_with fail;clear cy x0 x1 x2;refine (zeros_own m _ (by omega)).mono ?_;rintro _ w3 ⟨z2,rfl,hZ,a5⟩;rw [aq] at hZ;obtain ⟨gz,cz,rfl,e7,b4,b5,e8⟩:=hZ.shape (by simp;omega);simp only [List.length_replicate] at hZ b5 ⊢;rw [canL_zero] at hZ;have a6:=hX.later a5;have a7:=Za S a5 S.size;obtain ⟨x0,x1,x2⟩:=a6.three;obtain ⟨f0,f1,f2⟩:=a6.threeF;clear hX S a5 aq;go_wp2;clear x0 x1 x2 f0 f1 f2;have b9:=a6.set_ 2 (.slice (some ⟨gz,0,none⟩) m cz);have c5:=hZ.but (Ze.setCell a6 2 (.slice (some ⟨gz,0,none⟩) m cz)) (by decide) (by decide);have ar:=a7.setCell (p:=⟨w1.heap.size,2,none⟩) (JY _) (.slice (some ⟨gz,0,none⟩) m cz);have de:gz < (w3.setCell ⟨w1.heap.size,2,none⟩ (.slice (some ⟨gz,0,none⟩) m cz)).heap.size:=by simp;exact b4
 have c6:w1.heap.size≤(w3.setCell ⟨w1.heap.size,2,none⟩ (.slice (some ⟨gz,0,none⟩) m cz)).heap.size:=by have:=a7.size;simp;exact this
 generalize w3.setCell ⟨w1.heap.size,2,none⟩ (.slice (some ⟨gz,0,none⟩) m cz)=w4 at *;simp only [List.set_cons_zero,List.set_cons_succ] at b9;clear a6 hZ a7 b4;generalize d9:w4.heap.size=bx at *;have c7:bx≤w4.heap.size:=by omega
 clear d9
 go_loopw [5,6] (fun s i wr=>∃(k:Nat) (xs:List RF),k≤n1∧i= .int .i64 k∧Below w1.heap.size w1 wr∧Bk wr w1.heap.size 26 [.slice A0 n0 c0,.slice A1 n1 c1,.slice (some ⟨gz,0,none⟩) m cz]∧Z4 (w1.heap.size+1) wr (.slice (some ⟨gz,0,none⟩) m cz) (Yj m (timesC p.cols xs k))∧Z4 bx wr s xs∧xs.length=k∧RsL 2 xs∧NN xs∧bx≤wr.heap.size) (fun _ i _=>n1 - (intOf i).toNat)
 case atStart=>exact ⟨0,[],by omega,rfl,ar,b9,c5,Z4.nil _ _,rfl,RsL.nil _,NN.nil,c7⟩
 case round=>
  clear ar b9 c5 c7 w4;obtain ⟨k,xs,hk,rfl,t,hX,hZ,hO,hl,d0,d1,d2⟩:=hrel;have HL:=JZ hl;have aj:=JZ d0;have c8:=JZ d1;have c9:xs.length+1≤1099511627776:=by omega
  clear hl d0 d1;obtain ⟨x0,x1,x2⟩:=hX.three;rcases JX k n1 with hkl | hkl
  ·go_wp2_with fail;clear x0 x1 x2;refine (Yaa _ zs (40+(k:Int)) _ (bz.below t) (by omega) (by omega)).mono ?_;rintro _ w2 ⟨z,rfl,z0,z1,bs⟩;go_wp2_with fail;refine (Zyg z _).mono ?_;rintro _ w3 ⟨v3,q,rfl,e3,sq,a5⟩;have V:=Za bs a5 bs.size;obtain ⟨Bg,lg,dg,u,x,y,rfl,_,_⟩:=id e3.frac;obtain ⟨Wv,du,T,S⟩:=YN w3 (.bool (canF q).num.neg) (.slice Bg lg dg) (.bool (canF q).den.neg) (.slice u x y);have ba:=Za V S V.size;have ca:=V.size;have bb:=e3.frac.below S;obtain ⟨y0,y1,y2,y3⟩:=T.four;have SQ:=JZ sq;clear bs a5 e3 S sq V;go_wp2_with fail;clear du y0 y1 y2 y3;refine (rsignF_any _ (canF q) _ bb (SQ.out.sh (by decide))).mono ?_;rw [Zu];rintro _ w4 ⟨rfl,ao⟩;have B:=Za ba ao ba.size;have J:=T.later ao;have C:=bb.below ao;clear ba T bb ao;generalize da:w3.heap.size=gv at *;clear da;obtain ⟨f5,ae⟩:∃f5,canF q=f5:=⟨_,rfl⟩;have bd:=JZ ae;have ak:Hid (0≤qs q→0≤f5.q):=JZ (fun g=>by
    rw [← ae,Zu];have:=@Zjn q;rcases Rat.le_total (a:=0) (b:=q) with e | e
    ·exact e
    ·rw [← Rat.not_lt];exact fun g2=>by have:=Zjn.2 g2;omega)
   have al:Hid (f5.Rs 2):=JZ (by rw [← ae];exact SQ.out.rs);rw [ae] at J C ⊢;clear ae;rcases Int.lt_or_le (qs q) 0 with hq | hq
   case' inr=>
    go_wp2_with fail;refine (Yaa _ zs (40+(k:Int)) _ ((bz.below t).below B) (by omega) (by omega)).mono ?_;rintro _ W6 ⟨z',rfl,dz,e0,Y⟩;have D:=Za B Y B.size;have G:=J.later Y;have C:=C.below Y;clear B J Y;by_cases hz:z' % 3=0
    case' pos=>
     have cb:(z' % 3==0)=true:=(by simpa using hz);clear hz;go_wp2_with fail;refine (Y4 0 _ (by omega) (by omega)).mono ?_;rw [show ((0:Int):Rat)=0 from rfl];rintro _ w5 ⟨v5,rfl,e5,U⟩;have L:=Za D U D.size;have d:=G.later U;have R:=JZ e5.frac;have be:Hid (0≤(canF 0).q):=JZ (by rw [Zu];exact Rat.le_refl);have Z:Hid ((canF 0).Rs 2):=JZ (Sz_zero.mono (by decide)).rs;generalize canF 0=f5 at *;obtain ⟨Bg,lg,dg,u,x,y,rfl,_,_⟩:=id R.out;obtain ⟨y0,y1,y2,y3⟩:=d.four;obtain ⟨g0,g1,g2,g3⟩:=d.fourF;clear e5 U D G C ak al bd
     go_upto_region 10 with (fail)
     have a3:=d.set4 (.bool f5.num.neg) (.slice Bg lg dg) (.bool f5.den.neg) (.slice u x y);have a8:=JZ (R.out.keep (d.keep4 (by decide) (.bool f5.num.neg) (.slice Bg lg dg) (.bool f5.den.neg) (.slice u x y)));have M:=ZG L ca (.bool f5.num.neg) (.slice Bg lg dg) (.bool f5.den.neg) (.slice u x y);clear y0 y1 y2 y3 g0 g1 g2 g3 d R L;generalize (((w5.setCell ⟨gv,0,none⟩ (.bool f5.num.neg)).setCell ⟨gv,1,none⟩ (.slice Bg lg dg)).setCell ⟨gv,2,none⟩ (.bool f5.den.neg)).setCell ⟨gv,3,none⟩ (.slice u x y)=W6 at *
    case' neg=>
     have cb:(z' % 3==0)=false:=(by simpa using hz);have be:=JZ (ak.out hq);clear hz
     go_upto_region 10 with (fail)
     have a3:=G;have a8:=JZ C;have M:=D;have Z:=al;clear G C D al bd ak cb dz e0 hq
   case' inl=>
    go_wp2_with fail;refine (Y4 0 _ (by omega) (by omega)).mono ?_;rw [show ((0:Int):Rat)=0 from rfl];rintro _ w5 ⟨v5,rfl,e5,U⟩;have L:=Za B U B.size;have d:=J.later U;have R:=JZ e5.frac;have be:Hid (0≤(canF 0).q):=JZ (by rw [Zu];exact Rat.le_refl);have Z:Hid ((canF 0).Rs 2):=JZ (Sz_zero.mono (by decide)).rs;generalize canF 0=f5 at *;obtain ⟨Bg,lg,dg,u,x,y,rfl,_,_⟩:=id R.out;obtain ⟨y0,y1,y2,y3⟩:=d.four;obtain ⟨g0,g1,g2,g3⟩:=d.fourF;clear e5 U B J C ak al bd
    go_upto_region 10 with (fail)
    have a3:=d.set4 (.bool f5.num.neg) (.slice Bg lg dg) (.bool f5.den.neg) (.slice u x y);have a8:=JZ (R.out.keep (d.keep4 (by decide) (.bool f5.num.neg) (.slice Bg lg dg) (.bool f5.den.neg) (.slice u x y)));have M:=ZG L ca (.bool f5.num.neg) (.slice Bg lg dg) (.bool f5.den.neg) (.slice u x y);clear y0 y1 y2 y3 g0 g1 g2 g3 d R L;generalize (((w5.setCell ⟨gv,0,none⟩ (.bool f5.num.neg)).setCell ⟨gv,1,none⟩ (.slice Bg lg dg)).setCell ⟨gv,2,none⟩ (.bool f5.den.neg)).setCell ⟨gv,3,none⟩ (.slice u x y)=W6 at *
   all_goals
    have df:gv < W6.heap.size:=a3.lt;have au:=Za t M t.size;have HO:=JZ (hO.below M);have cd:bx≤W6.heap.size:=(by have:=M.size;omega);have ce:=hX.later M;have cf:=hZ.below M;have av:=hO.own_lt;have a9:=hO.own_ge;have aw:Hid (some gv≠u5.ownBlock):=JZ fun e=>by have:=av gv e.symm;omega
    have ax:Hid (some gz≠u5.ownBlock):=JZ fun e=>by have:=a9 gz e.symm;omega
    obtain ⟨y0,y1,y2,y3⟩:=a3.four;clear hX hZ hO t av a9 M;go_wp2_with (at_builtin;refine wpList_append_fracG rfl (.tmp 41) (.tmp 43) rfl W6 bx u5 xs rfl HO.out _ _ Bg u lg dg x y f5 a8.out rfl c9 cd ?_);intro v' w7 bu ap d8 H bv;have N:=au.trans (d8.mono c6);have bf:=ap.bk ce (by decide);have cg:=H.bk a3 aw.out;have ch:=a8.out.keep (ap.keep (by decide));have bg:=cf.others H (ap.keep (by decide)) (fun b hb=>by simp [Value.ownBlock] at hb;subst hb;exact ax.out);have e6:bx≤w7.heap.size:=(by have:=H.1;omega);clear au HO ce cf aw ax y0 y1 y2 y3 a3 a8 ap d8 H bv df cd;obtain ⟨Av,nv,cv,rfl⟩:=bu.sliceN;obtain ⟨x0,x1,x2⟩:=bf.three;generalize e4:Value.slice Av nv cv=v' at *;clear e4;have aa:Ych ⟨p.cost,p.cols,Yj m (timesC p.cols xs k)⟩:=by
     have o:=ah.out;refine ⟨?_,?_,o.2.2.1,o.2.2.2.1,o.2.2.2.2.1,fun j c hc=>?_⟩
     ·simp only [Zm];exact m1
     ·simp only [Zm];exact m2
     ·have:=o.2.2.2.2.2 j c hc;simp only [Zm];rw [c3.out];exact this
    have F:=ah.out.2.2.2.2.2;have bh:∀i,Sz 21 (timesC p.cols xs k i):=fun i=>Sz_timesC F aj.out (by omega) i
    have ci:RsL 32 (Yj m (timesC p.cols xs k)):=Zbc fun i _=>(bh i).mono (by decide)
    have ay:=JZ (aa.ok (K:=32) (by decide) ci);have cj:Hid (LPd.In ⟨p.cost,p.cols,Yj m (timesC p.cols xs k)⟩):=JZ (YA aa.err).2.2.2.1;have ck:LpM w7 (.agg #[.slice A0 n0 c0,.slice A1 n1 c1,(.slice (some ⟨gz,0,none⟩) m cz)]) ⟨p.cost,p.cols,Yj m (timesC p.cols xs k)⟩:=⟨_,_,_,_,_,_,_,_,_,rfl,(ai.out.below N).frs,c4.out.below N,bg.frs⟩;have bi:∀i,Sz 1 (Ygs p.cols k i):=fun i=>Sz_colC F k i
    have bj:=JZ bi;have dh:=JZ bh;clear aa F bh ci bi;go_wp2_with fail;clear x0 x1 x2;refine (rcolumn_pos _ ⟨p.cost,p.cols,Yj m (timesC p.cols xs k)⟩ 32 k _ ck ay.out (by decide) cj.out (by rw [← b8.out];exact hkl) (by simp only [Zm];omega)).mono ?_;rw [show Yj (LPd.mk p.cost p.cols (Yj m (timesC p.cols xs k))).right.length ((LPd.mk p.cost p.cols (Yj m (timesC p.cols xs k))).col (k:Int))=Yj m (Ygs p.cols k) from by rw [Zyi];simp only [Zm]];rintro _ w8 ⟨vc,rfl,hC,P⟩;obtain ⟨Ac,cc,rfl,d3,ea⟩:=hC.frs.shape;simp only [Zm] at hC d3 ⊢;have az:=Za N P N.size;have cl:=bf.later P;have cm:=cg.later P;have cn:=ch.below P;have bl:=bg.below P;have co:=bu.below P;have b0:bx≤w8.heap.size:=(by have:=P.size;omega);have di:gz < w7.heap.size:=(by omega);clear N bf cg ch bg bu ck ay cj P;rw [← mixR_zero (timesC p.cols xs k) f5.q (Ygs p.cols k)] at bl;generalize db:timesC p.cols xs k=TT at *;generalize dc:Ygs p.cols k=CC at *;have dj:=JZ db;have dk:=JZ dc;clear db dc;go_wp2
    go_loopw [9] (fun i wx=>∃r:Nat,r≤m∧i= .int .i64 r∧Below w1.heap.size w1 wx∧Bk wx w1.heap.size 26 [.slice A0 n0 c0,.slice A1 n1 c1,.slice (some ⟨gz,0,none⟩) m cz]∧Bk wx gv 46 [.bool f5.num.neg,.slice Bg lg dg,.bool f5.den.neg,.slice u x y]∧Zt wx (.agg #[.bool f5.num.neg,.slice Bg lg dg,.bool f5.den.neg,.slice u x y]) f5∧Z4 (w1.heap.size+1) wx (.slice (some ⟨gz,0,none⟩) m cz) (Yj m (mixR TT f5.q CC r))∧Z4 bx wx v' (xs++[f5])∧Z4 w7.heap.size wx (.slice Ac m cc) (Yj m CC)∧bx≤wx.heap.size) (fun i _=>m - (intOf i).toNat)
    case atStart=>exact ⟨0,by omega,rfl,az,cl,cm,cn,bl,co,hC,b0⟩
    case round=>
     clear az cl cm cn bl co hC b0;obtain ⟨r,hr,rfl,t,hX,T,bp,hZ,hO,hC,d2⟩:=hrel;rcases JX r m with hrm | hrm
     ·obtain ⟨x0,x1,x2⟩:=hX.three;obtain ⟨y0,y1,y2,y3⟩:=T.four;obtain ⟨_,_,A3,n3,k3,A4,n4,k4,bq,_,⟨t0,t1,t2,t3⟩,dv⟩:=hZ.frs.elem (JR _ _) (ZK hrm);injection bq with bq;injection bq with e1 e2;subst e1 e2;obtain ⟨bc,oc,A5,n5,k5,A6,n6,k6,rfl,_,⟨q0,q1,q2,q3⟩,dw⟩:=hC.frs.elem (JR _ _) (ZK hrm);simp only [Nat.zero_add] at t0 t1 t2 t3;have dl:f5.Sh:=Z.out.sh (by decide);have dm:(canF (CC r)).Sh:=(bj.out r).sh (by decide);have dn:(canF (mixR TT f5.q CC r r)).Sh:=(Sz_mixR (dh.out r) (Z.out.sz (by decide)) (bj.out r)).sh (by decide);have dp:(canF (f5.q * CC r)).Sh:=(XN (Z.out.sz (by decide)) (bj.out r)).sh (by decide);have dq:=JZ (mixR_at TT f5.q CC r);have ec:(r:Int) < m:=(by omega);go_wp2_with fail;have C1:=Zp x2;have C2:=Zp y0;have C3:=Zp y1;have C4:=Zp y2;have C5:=Zp y3;have C6:=Zp t0;have C7:=Zp t1;have C8:=Zp t2;have C9:=Zp t3;have D6:=Zp q0;have D7:=Zp q1;have D8:=Zp q2;have D9:=Zp q3;have ab:=Zj wr;clear x0 x1 x2 y0 y1 y2 y3 t0 t1 t2 t3 q0 q1 q2 q3;refine Zq 16 [0,1,2,3,4,5,6,7,8,9,10,11,12,13,14,15,16] (by kernel_rfl) (by kernel_rfl) ?_;repeat ((first | (refine Zc (v:=?_) rfl rfl rfl ?_ ?_;rotate_left;(· (intro _ ag;go_simp;(try go_bits);(try with_reducible rfl)))) | (refine Zg (v:=?_) rfl rfl rfl ?_ ?_;rotate_left;(· (intro _ ag;go_simp;(try go_bits);(try with_reducible rfl)))) | refine Zh rfl rfl rfl ?_);(try simp only [Act.put,pu1,pu2,pu3,pu4,pu5,pu6]))
      refine Zd rfl rfl (fun KR hKR=>?_);go_simp;(with_reducible refine (rmulF_own _ _ f5 (canF (CC r)) _ (bp.below ab) (dw.below ab) dl dm).mono ?_);rw [Zu];rintro _ w9 ⟨v9,rfl,e9,d7⟩;have ac:=Za ab d7 ab.size;refine hKR.out _ _ (Or.inr ac) ?_;clear hKR KR;(try simp only [Act.put,pu1,pu2,pu3,pu4,pu5,pu6]);repeat ((first | (refine Zc (v:=?_) rfl rfl rfl ?_ ?_;rotate_left;(· (intro _ ag;go_simp;(try go_bits);(try with_reducible rfl)))) | (refine Zg (v:=?_) rfl rfl rfl ?_ ?_;rotate_left;(· (intro _ ag;go_simp;(try go_bits);(try with_reducible rfl)))) | refine Zh rfl rfl rfl ?_);(try simp only [Act.put,pu1,pu2,pu3,pu4,pu5,pu6]))
      refine Zd rfl rfl (fun KR hKR=>?_);go_simp;(with_reducible refine (raddF_own _ _ _ _ _ (dv.below ac) e9.frac dn dp).mono ?_);rw [Zu,Zu,dq.out];rintro _ eg ⟨eh,rfl,bt,b7⟩;have f:=Za ac b7 ac.size;obtain ⟨E,l9,k9,E',ee,ef,rfl,_,_⟩:=id bt.frac;have ad:=hZ.below f;obtain ⟨_,_,_,_,⟨d4,d5,d6,dx⟩,⟨f0,f1,f2,f3⟩,_⟩:=ad.at_ (ZK hrm);refine hKR.out _ _ (Or.inr f) ?_;clear hKR KR;(try simp only [Act.put,pu1,pu2,pu3,pu4,pu5,pu6]);repeat ((first | (refine Zc (v:=?_) rfl rfl rfl ?_ ?_;rotate_left;(· (intro _ ag;go_simp;(try go_bits);(try with_reducible rfl)))) | (refine Zg (v:=?_) rfl rfl rfl ?_ ?_;rotate_left;(· (intro _ ag;go_simp;(try go_bits);(try with_reducible rfl)))) | refine Zh rfl rfl rfl ?_);(try simp only [Act.put,pu1,pu2,pu3,pu4,pu5,pu6]))
      refine Zd rfl rfl (fun KR hKR=>?_);go_simp;refine hKR.out _ _ (Or.inl (by decide)) ?_;clear hKR KR;(try simp only [Act.put,pu1,pu2,pu3,pu4,pu5,pu6]);refine Zz ?_;obtain ⟨b6,X⟩:=ad.set_ (by rw [Zm];exact hrm) bt.frac;rw [Vg hrm,mixR_next] at b6;have cp:=X.bk (hX.later f) (by decide);have b2:=(T.later f);have am:=Za t f t.size;have bm:=Zw am (show w1.heap.size≤gz by omega) (r * 4) (r * 4+1) (r * 4+2) (r * 4+3);have cq:=(hO.below f).far4 (i:=r * 4) (j:=r * 4+1) (k:=r * 4+2) (l:=r * 4+3) de _ rfl X;have cr:=(hC.below f).far4 (i:=r * 4) (j:=r * 4+1) (k:=r * 4+2) (l:=r * 4+3) di _ rfl X;have cs:=b2.far4' (show gv≠gz by omega) (r * 4) (r * 4+1) (r * 4+2) (r * 4+3);have ct:=(bp.below f).keep (X.keep (by decide));have dr:=f.size;clear C1 C2 C3 C4 C5 C6 C7 C8 C9 D6 D7 D8 D9 hX T bp hZ hO hC t ad ab ac f d7 b7 e9 bt b2 am d4 d5 d6 dx f0 f1 f2 f3;go_wp2;go_roundw
      case rel=>exact ⟨r+1,by omega,by go_num,bm _ _ _ _,cp,cs _ _ _ _,ct,b6,cq,cr,by simp;omega⟩
      case measure=>simp [intOf];omega
     ·obtain rfl:r=m:=by omega
      have ds:Hid (∀i,i < r→mixR TT f5.q CC r i=timesC p.cols (xs++[f5]) (k+1) i):=JZ fun i hi=>by
       rw [timesC_snoc p.cols f5 HL.out,dj.out,dk.out];unfold mixR;rw [if_pos hi]
      have cu:=hZ;rw [ZT ds.out] at cu;clear hZ;go_wp2;go_roundw
      case rel=>exact ⟨k+1,xs++[f5],by omega,by go_num,t,hX,cu,hO,by rw [List.length_append,HL.out];rfl,aj.out.snoc Z.out,c8.out.snoc be.out,d2⟩
      case measure=>simp [intOf];omega
  ·obtain rfl:k=n1:=by omega
   have a4:=dd.later t;have cw:=Za I t I.size;obtain ⟨Ax,nx,cx,rfl⟩:=hO.sliceN;obtain ⟨d4,d5,d6⟩:=a4.three;obtain ⟨f0,f1,f2⟩:=a4.threeF;clear b5;go_wp2;have dt:=((a4.set_ 0 (.slice A0 n0 c0)).set_ 1 (.slice A1 k c1)).set_ 2 (.slice (some ⟨gz,0,none⟩) m cz);refine Y5 Tryz.results23 Tryz.underlying26 (by kernel_rfl) rfl dt rfl ?_;have k1:=Ze.setCell a4 0 (.slice A0 n0 c0);have k2:=Ze.setCell (a4.set_ 0 (.slice A0 n0 c0)) 1 (.slice A1 k c1);have k3:=Ze.setCell ((a4.set_ 0 (.slice A0 n0 c0)).set_ 1 (.slice A1 k c1)) 2 (.slice (some ⟨gz,0,none⟩) m cz);have k4:=(k1.trans k2).trans k3;have F:=ah.out.2.2.2.2.2;refine ⟨_,_,⟨p.cost,p.cols,Yj m (timesC p.cols xs k)⟩,xs,bx,rfl,⟨_,_,_,w1.heap.size+1,rfl,?_,(c4.out.below t).but k4 (by decide) (by decide) (by decide),hZ.but k4 (by decide) (by decide),?_,?_⟩,?_,?_,?_,?_,?_,aj.out,?_,c8.out,?_,?_⟩
   ·exact ((ai.out.below t).but k4 (by decide) (by decide)).monoB bw
   ·have:=I.size;omega
   ·intro g hg;have:=ai.out.own_lt g hg;omega
   ·exact hO.but k4 (by decide) (by decide)
   ·have:=I.size;omega
   ·intro a0 a1 a2 g he hg;injection he with he;simp at he;obtain ⟨rfl,_,_⟩:=he;have:=ai.out.own_lt g hg;omega
   ·have o:=ah.out;refine ⟨?_,?_,o.2.2.1,o.2.2.2.1,o.2.2.2.2.1,fun j c hc=>?_⟩
    ·simp only [Zm];exact m1
    ·simp only [Zm];exact m2
    ·have:=o.2.2.2.2.2 j c hc;simp only [Zm];rw [c3.out];exact this
   ·exact Zbc fun i _=>(Sz_timesC F aj.out (by omega) i).mono (by decide)
   ·rw [HL.out,b8.out]
   ·intro i hi;simp only [Zm] at hi;simp only;rw [YH hi,timesQ_C,← b8.out]
   ·exact ((cw.setCell (p:=⟨w.heap.size,0,none⟩) (JY _) _).setCell (p:=⟨w.heap.size,1,none⟩) (JY _) _).setCell (p:=⟨w.heap.size,2,none⟩) (JY _) _
theorem feasibleData_own (v:Value) (zs:List Int) (w:World) (h:XE w v zs):
 Calls Tryz.prog 23 #[v] w (FeasPost w):=
 (feasibleData_own2 v zs w h).mono fun _ _ ⟨v1,v2,p,xs,b2,h1,h2,h3,h4,_,h5⟩=>⟨v1,v2,p,xs,h1,h2,h3.monoB h4,h5⟩
namespace Pl
theorem Ups.snoc {n K T:Nat} {k:Nat→Nat} {im V:Mx} {Cs:Nat→Mx} (h:Ups n K T k im V Cs) {q:Nat} {v x:Nat→Rat} (hq:q < n) (hx:∀r,r < n→Xz n (Cs T) x r=v r) (h0:x q≠0) (hv:∀r,r < n→Sz K (v r)):
 Ups n K (T+1) (WY k T q) (WY im T x) (WY V T v) (WY Cs (T+1) (Zjr (Cs T) q v)) where
 kn:=fun t ht=>by
  by_cases e:t=T
  ·subst e;rw [Yd];exact hq
  ·rw [Yv (by omega)];exact h.kn t (by omega)
 step:=fun t ht=>by
  by_cases e:t=T
  ·subst e;rw [Yd,Yd,Yd,Yv (by omega)]
  ·rw [Yv (by omega),Yv (by omega),Yv (by omega),Yv (by omega)];exact h.step t (by omega)
 img:=fun t ht=>by
  by_cases e:t=T
  ·subst e;rw [Yd,Yd,Yv (by omega)];exact hx
  ·rw [Yv (by omega),Yv (by omega),Yv (by omega)];exact h.img t (by omega)
 nz:=fun t ht=>by
  by_cases e:t=T
  ·subst e;rw [Yd,Yd];exact h0
  ·rw [Yv (by omega),Yv (by omega)];exact h.nz t (by omega)
 szV:=fun t ht=>by
  by_cases e:t=T
  ·subst e;rw [Yd];exact hv
  ·rw [Yv (by omega)];exact h.szV t (by omega)
 szC:=fun r c hr hc=>by rw [Yv (by omega)];exact h.szC r c hr hc
 ind:=by rw [Yv (by omega)];exact h.ind
end Pl
end Go.Proofs.YtgbhebappffbdaaGreat
