/- Lemmas of the claim; no condition. -/
import Derived.Test.YtgbhebappffbdaaGreatFe1
set_option linter.all false
set_option maxRecDepth 100000
set_option maxHeartbeats 40000000
namespace Go.Proofs.YtgbhebappffbdaaGreat
open Go.RowKit
open Pl
attribute [local go_sem ↓] Go.wp_at_zero Go.wp_at_succ
namespace Pl
theorem findFrom_none {M:Mx} {c:Nat}:∀{n r:Nat},(∀s,r≤s→s < r+n→M s c=0)→XK M c r n=none
 | 0,_,_=>rfl
 | n+1,r,h=>by
  unfold XK
  rw [if_neg (by simpa using h r (JY _) (by omega))]
  exact findFrom_none fun s h1 h2=>h s (by omega) (by omega)
theorem findFrom_some {M:Mx} {c:Nat}:∀{n r t:Nat},r≤t→t < r+n→M t c≠0→(∀s,r≤s→s < t→M s c=0)→XK M c r n=some t
 | 0,r,t,h1,h2,_,_=>by omega
 | n+1,r,t,h1,h2,h3,h4=>by
  unfold XK
  rcases Nat.eq_or_lt_of_le h1 with e | e
  ·subst e;rw [if_pos h3]
  ·rw [if_neg (by simpa using h4 r (JY _) e)]
   exact findFrom_some (by omega) (by omega) h3 fun s h5 h6=>h4 s (by omega) h6
theorem findP_none {M:Mx} {k m:Nat} (h:∀s,k≤s→s < m→M s k=0):Zgt M k m=none:=findFrom_none fun s h1 h2=>h s h1 (by omega)
theorem findP_some {M:Mx} {k m t:Nat} (h1:k≤t) (h2:t < m) (h3:M t k≠0) (h4:∀s,k≤s→s < t→M s k=0):Zgt M k m=some t:=findFrom_some h1 (by omega) h3 h4
def updM (M:Mx) (r i:Nat) (q:Rat):Mx:=fun s c=>if s=r∧c=i then q else M s c
def elimTo (M:Mx) (k s i:Nat) (g:Rat):Mx:=fun r c=>if r=s∧k≤c∧c < i then M r c - g * M k c else M r c
theorem scaleTo_start (M:Mx) (k:Nat) (f:Rat):scaleTo M k k f=M:=by
 funext r c;unfold scaleTo;rw [if_neg (by omega)]
theorem scaleTo_next {M:Mx} {k i:Nat} {f:Rat} (h:k≤i):updM (scaleTo M k i f) k i (scaleTo M k i f k i / f)=scaleTo M k (i+1) f:=by
 funext r c;unfold updM scaleTo
 by_cases h1:r=k∧c=i
 ·obtain ⟨rfl,rfl⟩:=h1;rw [if_pos ⟨rfl,rfl⟩,if_neg (by omega),if_pos ⟨rfl,h,by omega⟩]
 ·rw [if_neg h1];by_cases h2:r=k∧k≤c∧c < i
  ·rw [if_pos h2,if_pos ⟨h2.1,h2.2.1,by omega⟩]
  ·rw [if_neg h2,if_neg (by omega)]
theorem elimTo_start (M:Mx) (k s:Nat) (g:Rat):elimTo M k s k g=M:=by
 funext r c;unfold elimTo;rw [if_neg (by omega)]
theorem elimTo_row {M:Mx} {k s i:Nat} {g:Rat} (h:s≠k) (c:Nat):elimTo M k s i g k c=M k c:=by
 unfold elimTo;rw [if_neg (by omega)]
theorem elimTo_next {M:Mx} {k s i:Nat} {g:Rat} (h:k≤i) (hs:s≠k):updM (elimTo M k s i g) s i (elimTo M k s i g s i - g * elimTo M k s i g k i)=elimTo M k s (i+1) g:=by
 funext r c
 rw [elimTo_row hs];unfold updM elimTo;by_cases h1:r=s∧c=i
 ·obtain ⟨rfl,rfl⟩:=h1;rw [if_pos ⟨rfl,rfl⟩,if_neg (by omega),if_pos ⟨rfl,h,by omega⟩]
 ·rw [if_neg h1];by_cases h2:r=s∧k≤c∧c < i
  ·rw [if_pos h2,if_pos ⟨h2.1,h2.2.1,by omega⟩]
  ·rw [if_neg h2,if_neg (by omega)]
theorem elimAll_start (M:Mx) (k m:Nat):Xg M k 0 m=M:=by
 funext r c;unfold Xg;rw [if_neg (by omega)]
theorem elimAll_at {M:Mx} {k s m:Nat} (c:Nat):Xg M k s m s c=M s c:=by
 unfold Xg;rw [if_neg (by omega)]
theorem elimAll_skip {M:Mx} {k s m:Nat} (h:s=k∨M s k=0):Xg M k s m=Xg M k (s+1) m:=by
 funext r c
 unfold Xg;by_cases h1:r≠k∧r < s∧k≤c∧c≤m
 ·rw [if_pos h1,if_pos ⟨h1.1,by omega,h1.2.2⟩]
 ·rw [if_neg h1];by_cases h2:r≠k∧r < s+1∧k≤c∧c≤m
  ·rw [if_pos h2];have:r=s:=by omega
   subst this;rcases h with h | h
   ·exact absurd h h2.1
   ·rw [h];grind
  ·rw [if_neg h2]
theorem elimAll_next {M:Mx} {k s m:Nat} (hs:s≠k):elimTo (Xg M k s m) k s (m+1) (Xg M k s m s k)=Xg M k (s+1) m:=by
 funext r c
 unfold elimTo;rw [Zdb,elimAll_at];unfold Xg;by_cases h1:r=s∧k≤c∧c < m+1
 ·obtain ⟨rfl,h2,h3⟩:=h1;rw [if_pos ⟨rfl,h2,h3⟩,if_neg (by omega),if_pos ⟨hs,by omega,h2,by omega⟩]
 ·rw [if_neg h1];by_cases h2:r≠k∧r < s∧k≤c∧c≤m
  ·rw [if_pos h2,if_pos ⟨h2.1,by omega,h2.2.2⟩]
  ·rw [if_neg h2,if_neg (by omega)]
end Pl
theorem wpList_append_frac {ops:Array Oper} {rest:List Oper} {o:Oper} {a:Act} {Q:Exit→Act→World→Prop} (hgd:o.guard=none) (s x:Operand)
 (ho:o.op= .call { callee:= .builtin .append,args:=#[s,x],argTypes:=#[23,23] })
 (W:World) (base:Nat) (v:Value) (fs:List RF) (hs:a.eval s=v) (hown:Z4 base W v fs) (b b':Bool) (A A':Option Addr) (n c n' c':Nat) (f:RF) (hf:Zt W (.agg #[.bool b,.slice A n c,.bool b',.slice A' n' c']) f)
 (hx:a.eval x= .slice (some ⟨W.heap.size,0,none⟩) 1 1) (hn:fs.length+1≤1099511627776) (hbase:base≤W.heap.size)
 (h:∀v' w',Z4 base w' v' (fs++[f])→Ze 46 W w'→Below base W w'→wpList Tryz.prog ops Q rest (a.put o.dst v') w'):
 wpList Tryz.prog ops Q (o::rest) a (W.alloc (.cells #[.bool b,.slice A n c,.bool b',.slice A' n' c'] 46)):=by
 obtain ⟨cs,h1,h2⟩:=hown;obtain ⟨i0,hi,d,e,g⟩:=info_parts info_frac;refine Zba hgd s x 23 ho 46 i0 _ 4 64 Tryz.underlying23 hi d e g rfl (by decide) W base v fs.length cs [.bool b,.slice A n c,.bool b',.slice A' n' c'] hs h1 hx rfl Zjf (by unfold maxLen;omega) (by omega) hbase ?_;intro v' w' g1 g2 g3;refine h v' w' ⟨_,by simpa using g1,?_⟩ g2 g3;have hk:=g2.keep (by decide);exact (h2.keep hk).snoc (hf.keep hk)
theorem zeros_own (n:Nat) (w:World) (hn:n≤1099511627776):
 Calls Tryz.prog 44 #[.int .i64 (n:Int)] w fun e w'=>∃v',e= .returned v'∧Z4 w.heap.size w' v' (List.replicate n (canF 0))∧Below w.heap.size w w':=by
 go_enter Tryz.func44,Tryz.ntmps44;go_wp2
 go_loopw [3,4] (fun s i wr=>∃k:Nat,k≤n∧i= .int .i64 k∧Z4 w.heap.size wr s (List.replicate k (canF 0))∧Below w.heap.size w wr) (fun _ i _=>n - (intOf i).toNat)
 case atStart=>exact ⟨0,by omega,rfl,Z4.nil _ _,JR _ _⟩
 case round=>
  obtain ⟨k,hk,rfl,b,d⟩:=hrel;rcases JX k n with hkl | hkl
  ·go_wp2_with fail;refine (Y4 0 _ (by omega) (by omega)).mono ?_;rintro e w1 ⟨v1,rfl,e1,g⟩;rw [show ((0:Int):Rat)=0 from rfl] at e1;have a:=b.below g;have f:=Za d g d.size;obtain ⟨A,m,c,A',m',c',rfl,_,_⟩:=id e1.frac;have HF:=JZ e1.frac;have HO:=JZ a;have j:(List.replicate k (canF 0)).length+1≤1099511627776:=(by simp;omega);have l:=f.size;clear b a d g e1;go_wp2_with (at_builtin;refine wpList_append_frac rfl (.tmp 10) (.tmp 12) rfl w1 w.heap.size u3 (List.replicate k (canF 0)) rfl HO.out _ _ A A' m c m' c' (canF 0) HF.out rfl j l ?_);intro v' w2 h p o;go_wp2;go_roundw
   case rel=>exact ⟨k+1,by omega,by go_num,by rw [List.replicate_succ'];exact h,f.trans o⟩
   case measure=>simp [intOf];omega
  ·obtain rfl:k=n:=by omega
   go_wp2;go_ret;exact ⟨_,rfl,b,d⟩
namespace Pl
theorem canL_zero (m:Nat):List.replicate m (canF 0)=Yj m fun _=>0:=by
 apply List.ext_getElem?;intro i;rcases JX i m with h | h
 ·rw [ZK h,List.getElem?_replicate,if_pos h]
 ·rw [JU (by simpa using h),JU (by rw [Zm];exact h)]
theorem canL_succ (m:Nat) (f:Nat→Rat):Yj m f++[canF (f m)]=Yj (m+1) f:=by simp [Yj,List.range_succ]
end Pl
theorem cell5_later {w w':World} {b o:Nat} {x y z u t:Value} (hb:Below w.heap.size w w') (h:w.cell? ⟨b,o,none⟩=some x∧w.cell? ⟨b,o+1,none⟩=some y∧w.cell? ⟨b,o+2,none⟩=some z∧w.cell? ⟨b,o+3,none⟩=some u∧w.cell? ⟨b,o+4,none⟩=some t):
 w'.cell? ⟨b,o,none⟩=some x∧w'.cell? ⟨b,o+1,none⟩=some y∧w'.cell? ⟨b,o+2,none⟩=some z∧w'.cell? ⟨b,o+3,none⟩=some u∧w'.cell? ⟨b,o+4,none⟩=some t:=
 ⟨Zf hb h.1,Zf hb h.2.1,Zf hb h.2.2.1,Zf hb h.2.2.2.1,Zf hb h.2.2.2.2⟩
theorem rdense_own (v:Value) (es:List En) (m:Nat) (w:World) (h:Vf w v es) (hs:∀(k:Nat) (e:En),es[k]? =some e→e.f.Sh) (hin:inR m es) (hm0:m≤1099511627776):
 Calls Tryz.prog 109 #[v,.int .i64 (m:Int)] w fun e w'=>∃v',e= .returned v'∧Z4 w.heap.size w' v' (Yj m (Wl es))∧Below w.heap.size w w':=by
 obtain ⟨A,c,rfl,I,J⟩:=h.shape;generalize hl:es.length=l at *;have HL:=JZ hl;have HS:=JZ hs;have HI:=JZ hin;clear hl hs hin;go_enter Tryz.func109,Tryz.ntmps109;go_wp2_with fail;refine (zeros_own m _ hm0).mono ?_;rw [canL_zero];rintro _ w1 ⟨v1,rfl,hO,d⟩;have ST:Hid (Z4 w.heap.size w1 v1 (Yj m (dQ (es.take 0) fun _=>0))):=JZ hO;clear hO;go_wp2
 go_loopw [6] (fun i wr=>∃k:Nat,k≤l∧i= .int .i64 k∧Below w.heap.size w wr∧Z4 w.heap.size wr v1 (Yj m (dQ (es.take k) fun _=>0))) (fun i _=>l - (intOf i).toNat)
 case atStart=>exact ⟨0,by omega,rfl,d,ST.out⟩
 case round=>
  clear ST d;obtain ⟨k,hk,rfl,d,hO⟩:=hrel;rcases JX k l with hkl | hkl
  ·obtain ⟨e,he⟩:=YZ (es:=es) (i:=k) (by rw [HL.out];exact hkl);obtain ⟨b,p,A1,n1,c1,A2,n2,c2,rfl,K,o,hm⟩:=h.elem d he;obtain ⟨i0,i1⟩:=HI.out k e he;have z:=HS.out k e he;have HT:=JZ (Ztt he fun _=>0);obtain ⟨g,cg,rfl,C,L,D,M⟩:=hO.shape (by rw [Zm];omega);rw [Zm] at hO D ⊢;obtain ⟨j,hj⟩:=JT i0;have r:j < m:=(by omega);have t:=ZK (f:=dQ (es.take k) fun _=>0) r;have F:(k:Int) < l:=(by omega);have G:b≠g:=(by omega);have H:(j:Int) < m:=(by omega);rw [hj] at o;clear he;go_wp2_with fail;refine wp_region_noPanic ?_;refine Zcf (S:=fun w'=>w'.cell? ⟨b,p+k * 5,none⟩=some (.int .i64 (j:Int))∧w'.cell? ⟨b,p+k * 5+1,none⟩=some (.bool e.f.num.neg)∧w'.cell? ⟨b,p+k * 5+2,none⟩=some (.slice A1 n1 c1)∧w'.cell? ⟨b,p+k * 5+3,none⟩=some (.bool e.f.den.neg)∧w'.cell? ⟨b,p+k * 5+4,none⟩=some (.slice A2 n2 c2)) (n:=13) (by kernel_rfl) ?_ (fun hHeld=>?_)
   ·exact o
   refine Zy (i:=0) (v:=?_) rfl (by kernel_rfl) (by kernel_rfl) (by kernel_rfl) (by kernel_rfl) (fun _ _ _ h=>h) (Or.inl ⟨by rfl,?y10⟩) (by assumption) ?_
   case y10=>(intro _ a;(try dsimp only at a);go_simp;(try with_reducible rfl))
   (try simp only [Act.put,List.setIfInBounds_toArray,List.set_cons_zero,List.set_cons_succ]);refine Zy (i:=1) (v:=?_) rfl (by kernel_rfl) (by kernel_rfl) (by kernel_rfl) (by kernel_rfl) (fun _ _ _ h=>h) (Or.inl ⟨by rfl,?y11⟩) (by assumption) ?_
   case y11=>(intro _ a;(try dsimp only at a);go_simp;(try with_reducible rfl))
   (try simp only [Act.put,List.setIfInBounds_toArray,List.set_cons_zero,List.set_cons_succ]);refine Zy (i:=2) (v:=?_) rfl (by kernel_rfl) (by kernel_rfl) (by kernel_rfl) (by kernel_rfl) (fun _ _ _ h=>h) (Or.inl ⟨by rfl,?y12⟩) (by assumption) ?_
   case y12=>(intro _ a;(try dsimp only at a);go_simp;(try with_reducible rfl))
   (try simp only [Act.put,List.setIfInBounds_toArray,List.set_cons_zero,List.set_cons_succ]);refine Zy (i:=3) (v:=?_) rfl (by kernel_rfl) (by kernel_rfl) (by kernel_rfl) (by kernel_rfl) (fun _ _ _ h=>h) (Or.inl ⟨by rfl,?y13⟩) (by assumption) ?_
   case y13=>(intro _ a;(try dsimp only at a);go_simp;(try with_reducible rfl))
   (try simp only [Act.put,List.setIfInBounds_toArray,List.set_cons_zero,List.set_cons_succ]);refine Zy (i:=4) (v:=?_) rfl (by kernel_rfl) (by kernel_rfl) (by kernel_rfl) (by kernel_rfl) (fun _ _ _ h=>h) (Or.inl ⟨by rfl,?y14⟩) (by assumption) ?_
   case y14=>(intro _ a;(try dsimp only at a);go_simp;(try with_reducible rfl))
   (try simp only [Act.put,List.setIfInBounds_toArray,List.set_cons_zero,List.set_cons_succ]);refine Zy (i:=5) (v:=?_) rfl (by kernel_rfl) (by kernel_rfl) (by kernel_rfl) (by kernel_rfl) (fun _ _ _ h=>h) (Or.inl ⟨by rfl,?y15⟩) (by assumption) ?_
   case y15=>(intro _ a;(try dsimp only at a);go_simp;(try with_reducible rfl))
   (try simp only [Act.put,List.setIfInBounds_toArray,List.set_cons_zero,List.set_cons_succ]);refine Zy (i:=6) (v:=?_) rfl (by kernel_rfl) (by kernel_rfl) (by kernel_rfl) (by kernel_rfl) (fun _ _ _ h=>h) (Or.inl ⟨by rfl,?y16⟩) (by assumption) ?_
   case y16=>(intro _ a;(try dsimp only at a);go_simp;(try with_reducible rfl))
   (try simp only [Act.put,List.setIfInBounds_toArray,List.set_cons_zero,List.set_cons_succ]);refine Zy (i:=7) (v:=?_) rfl (by kernel_rfl) (by kernel_rfl) (by kernel_rfl) (by kernel_rfl) (fun _ _ _ h=>h) (Or.inl ⟨by rfl,?y17⟩) (by assumption) ?_
   case y17=>(intro _ a;(try dsimp only at a);go_simp;(try with_reducible rfl))
   (try simp only [Act.put,List.setIfInBounds_toArray,List.set_cons_zero,List.set_cons_succ]);refine Zy (i:=8) (v:=?_) rfl (by kernel_rfl) (by kernel_rfl) (by kernel_rfl) (by kernel_rfl) (fun _ _ _ h=>h) (Or.inl ⟨by rfl,?y18⟩) (by assumption) ?_
   case y18=>(intro _ a;(try dsimp only at a);go_simp;(try with_reducible rfl))
   (try simp only [Act.put,List.setIfInBounds_toArray,List.set_cons_zero,List.set_cons_succ]);refine Zy (i:=9) (v:=?_) rfl (by kernel_rfl) (by kernel_rfl) (by kernel_rfl) (by kernel_rfl) (fun _ _ _ h=>h) (Or.inl ⟨by rfl,?y19⟩) (by assumption) ?_
   case y19=>(intro _ a;(try dsimp only at a);go_simp;(try with_reducible rfl))
   (try simp only [Act.put,List.setIfInBounds_toArray,List.set_cons_zero,List.set_cons_succ]);refine Zy (i:=10) (v:=?_) rfl (by kernel_rfl) (by kernel_rfl) (by kernel_rfl) (by kernel_rfl) (fun _ _ _ h=>h) (Or.inl ⟨by rfl,?y20⟩) (by assumption) ?_
   case y20=>(intro _ a;(try dsimp only at a);go_simp;(try with_reducible rfl))
   (try simp only [Act.put,List.setIfInBounds_toArray,List.set_cons_zero,List.set_cons_succ]);refine Wj (i:=11) (by kernel_rfl) rfl (fun KR hKR=>?_);go_simp;(with_reducible refine (Zfo _ e.f _ (hm.keep (ZF.drew _)) z).mono ?_);rintro _ w2 ⟨v2,rfl,e2,s⟩;obtain ⟨E,l9,k9,E',N,O,rfl,_,_⟩:=id e2.frac;have u:=(hO.below (Zj _)).below s;obtain ⟨_,_,_,_,⟨c0,c1,c2,c3⟩,⟨f0,f1,f2,f3⟩,_⟩:=u.at_ t;refine hKR.out _ _ ?_ (fun hHeld=>?_)
   ·exact cell5_later s o
   clear hKR KR;(try simp only [Act.put,List.setIfInBounds_toArray,List.set_cons_zero,List.set_cons_succ]);refine Zy (i:=12) (v:=?_) rfl (by kernel_rfl) (by kernel_rfl) (by kernel_rfl) (by kernel_rfl) (fun _ _ _ h=>h) (Or.inl ⟨by rfl,?y21⟩) (by assumption) ?_
   case y21=>(intro _ a;(try dsimp only at a);go_simp;(try with_reducible rfl))
   (try simp only [Act.put,List.setIfInBounds_toArray,List.set_cons_zero,List.set_cons_succ]);refine Zdd (i:=13) (by kernel_rfl) rfl (by decide) (fun KR hKR=>?_);go_simp;refine hKR.out _ _ ?_;clear hKR KR;(try simp only [Act.put,List.setIfInBounds_toArray,List.set_cons_zero,List.set_cons_succ]);refine UY (by kernel_rfl) (NoPanic.normal ?_) _;obtain ⟨x,P⟩:=u.set_ (k:=j) (by rw [Zm];exact r) e2.frac;rw [Vg r] at x;have B:=Zw (Za d.drew s d.size) C (j * 4) (j * 4+1) (j * 4+2) (j * 4+3);go_wp2;go_roundw
   case rel=>exact ⟨k+1,by omega,by go_num,B _ _ _ _,by
    rw [HT.out];have:Yj m (fun i=>if i=j then e.f.q else dQ (es.take k) (fun _=>0) i)=Yj m (fun (i:Nat)=>if e.idx=(i:Int) then e.f.q else dQ (es.take k) (fun _=>0) i):=ZT fun i _=>by
     by_cases y:i=j
     ·rw [if_pos y,if_pos (by omega)]
     ·rw [if_neg y,if_neg (by omega)]
    rw [← this];exact x⟩
   case measure=>simp [intOf];omega
  ·go_wp2;go_ret;refine ⟨_,rfl,?_,d⟩;rw [List.take_of_length_le (by rw [HL.out];omega)] at hO;exact hO
theorem rcolumn_pos (v:Value) (p:LPd) (K j:Nat) (w:World) (h:LpM w v p) (ok:p.Ok K) (hK:K≤34359738368) (hin:p.In) (hj:j < p.cols.length) (hm:p.right.length≤64):
 Calls Tryz.prog 60 #[v,.int .i64 (j:Int)] w fun e w'=>∃v',e= .returned v'∧Z4 w.heap.size w' v' (Yj p.right.length (p.col j))∧Below w.heap.size w w':=by
 obtain ⟨A,n,c,A',n',c',g,d,i,rfl,hc,hv,hr⟩:=h;obtain ⟨W,hW,hX,a⟩:=Y6 w (.slice A n c) (.slice A' n' c') (.slice g d i);obtain ⟨x0,x1,x2⟩:=hX.three;obtain ⟨m1,m2,m3⟩:=hv.len;obtain ⟨r1,r2,r3⟩:=hr.len;obtain ⟨es,he⟩:=Xb hj;obtain ⟨b,r,A1,c1,rfl,s,l,m⟩:=hv.elem a he;have hO:=ok.2.2 j es he;have hI:=hin j es he;rw [← r1] at hm hI ⊢;rw [← m1] at hj;rw [LPd.col_pos he];have q:(j:Int) < n':=by omega
 have HS:Hid (∀(k:Nat) (e:En),es[k]? =some e→e.f.Sh):=JZ fun k e hk=>(hO.2 k e hk).sh hK
 have HI:=JZ hI;clear he hO hI r1 m1;go_enter Tryz.func60,Tryz.ntmps60;go_wp2_with fail;clear hW;refine (rdense_own _ es d _ m HS.out HI.out (by omega)).mono ?_;rintro _ w1 ⟨v1,rfl,e1,o⟩;obtain ⟨cs,ho,hf⟩:=e1;go_wp2;go_ret;exact ⟨_,rfl,⟨cs,Wy ho a.size,hf⟩,Za a o a.size⟩
def MatG (base:Nat) (w:World) (v:Value) (m n:Nat) (M:Mx) (G C:Nat→Nat):Prop:=
 w.ownsRow base 23 1 v m (Zqs m n G C)∧(∀r,r < m→Z4 base w (Zai n G C r) (Yj n (M r)))∧∀r s,r < m→s < m→G r=G s→r=s
theorem MatG.below {base:Nat} {w w':World} {v:Value} {m n:Nat} {M:Mx} {G C:Nat→Nat} (h:MatG base w v m n M G C) (hb:Below w.heap.size w w'):MatG base w' v m n M G C:=
 ⟨own_below h.1 hb,fun r hr=>(h.2.1 r hr).below hb,h.2.2⟩
theorem MatG.nil (base:Nat) (w:World) (n:Nat) (M:Mx) (G C:Nat→Nat):MatG base w (.slice none 0 0) 0 n M G C:=
 ⟨World.ownsRow_nil _ _ _ _,fun r hr=>absurd hr (by omega),fun r s hr=>absurd hr (by omega)⟩
theorem MatG.lt {base:Nat} {w:World} {v:Value} {m n:Nat} {M:Mx} {G C:Nat→Nat} (h:MatG base w v m n M G C) {r:Nat} (hr:r < m) (hn:0 < n):base≤G r∧G r < w.heap.size∧n≤C r∧C r≤9223372036854775807:=by
 obtain ⟨g,c,hv,h1,h2,h3,h4⟩:=(h.2.1 r hr).shape (by rw [Zm];exact hn);rw [Zm] at hv h3;unfold Zai at hv;injection hv with e1 e2 e3;injection e1 with e1;injection e1 with e1;subst e1 e3;exact ⟨h1,h2,h3,h4⟩
theorem MatG.outer {base:Nat} {w:World} {v:Value} {m n:Nat} {M:Mx} {G C:Nat→Nat} (h:MatG base w v m n M G C) (hm:0 < m):
 ∃g c,v= .slice (some ⟨g,0,none⟩) m c∧base≤g∧g < w.heap.size∧m≤c∧c≤9223372036854775807∧∀r,r < m→w.cell? ⟨g,r,none⟩=some (Zai n G C r)∧w.frozen? ⟨g,r,none⟩=false:=by
 have h0:=h.1;rcases h.1.2 with ⟨rfl,e⟩ | ⟨g,cap,cur,rfl,hb,hg,hnc,hcm,hcs,htake⟩
 ·omega
 ·unfold maxLen at hcm;exact ⟨g,cap,rfl,hb,Yw hg,hnc,by omega,fun r hr=>ZM h0 (Zaj hr)⟩
theorem MatG.shape {base:Nat} {w:World} {v:Value} {m n:Nat} {M:Mx} {G C:Nat→Nat} (h:MatG base w v m n M G C):∃A c,v= .slice A m c∧m≤c∧c≤9223372036854775807:=(V7.of_own h.1).shape
theorem MatG.at_ {base:Nat} {w:World} {v:Value} {m n:Nat} {M:Mx} {G C:Nat→Nat} (h:MatG base w v m n M G C) {r c:Nat} (hr:r < m) (hc:c < n):
 ∃A1 n1 c1 A2 n2 c2,(w.cell? ⟨G r,c * 4,none⟩=some (.bool (canF (M r c)).num.neg)∧w.cell? ⟨G r,c * 4+1,none⟩=some (.slice A1 n1 c1)∧w.cell? ⟨G r,c * 4+2,none⟩=some (.bool (canF (M r c)).den.neg)∧w.cell? ⟨G r,c * 4+3,none⟩=some (.slice A2 n2 c2))∧Zt w (.agg #[.bool (canF (M r c)).num.neg,.slice A1 n1 c1,.bool (canF (M r c)).den.neg,.slice A2 n2 c2]) (canF (M r c)):=by
 obtain ⟨b,d,A1,n1,c1,A2,n2,c2,hA,_,a,hm⟩:=(h.2.1 r hr).frs.elem (JR _ _) (ZK hc);injection hA with hA;injection hA with e1 e2;subst e1 e2;simp only [Nat.zero_add] at a;exact ⟨A1,n1,c1,A2,n2,c2,a,hm⟩
theorem MatG.frozen {base:Nat} {w:World} {v:Value} {m n:Nat} {M:Mx} {G C:Nat→Nat} (h:MatG base w v m n M G C) {r c:Nat} (hr:r < m) (hc:c < n):
 w.frozen? ⟨G r,c * 4,none⟩=false∧w.frozen? ⟨G r,c * 4+1,none⟩=false∧w.frozen? ⟨G r,c * 4+2,none⟩=false∧w.frozen? ⟨G r,c * 4+3,none⟩=false:=by
 obtain ⟨_,_,_,_,_,hf,_⟩:=(h.2.1 r hr).at_ (ZK hc);exact hf
theorem MatG.set_ {base:Nat} {w:World} {v:Value} {m n:Nat} {M:Mx} {G C:Nat→Nat} (h:MatG base w v m n M G C) {r c:Nat} (hr:r < m) (hc:c < n) {x y z u:Value} {q:Rat} (hf:Zt w (.agg #[x,y,z,u]) (canF q)):
 MatG base ((((w.setCell ⟨G r,c * 4,none⟩ x).setCell ⟨G r,c * 4+1,none⟩ y).setCell ⟨G r,c * 4+2,none⟩ z).setCell ⟨G r,c * 4+3,none⟩ u) v m n (updM M r c q) G C∧
 Ze 46 w ((((w.setCell ⟨G r,c * 4,none⟩ x).setCell ⟨G r,c * 4+1,none⟩ y).setCell ⟨G r,c * 4+2,none⟩ z).setCell ⟨G r,c * 4+3,none⟩ u):=by
 obtain ⟨hs,hk⟩:=Z4.set_ (h.2.1 r hr) (k:=c) (by rw [Zm];exact hc) hf;rw [Vg hc] at hs;refine ⟨⟨hk.own h.1 (by decide),fun s hs'=>?_,h.2.2⟩,hk⟩;by_cases e:s=r
 ·subst e;have:Yj n (updM M s c q s)=Yj n (fun i=>if i=c then q else M s i):=ZT fun i _=>by
   unfold updM;by_cases e:i=c
   ·rw [if_pos ⟨rfl,e⟩,if_pos e]
   ·rw [if_neg (by omega),if_neg e]
  rw [this];exact hs
 ·have:Yj n (updM M r c q s)=Yj n (M s):=ZT fun i _=>by unfold updM;rw [if_neg (by omega)]
  rw [this];refine (h.2.1 s hs').others Yq (hk.keep (by decide)) fun b hb hne=>?_
  simp [Zai,Value.ownBlock] at hb;injection hne with hne;exact e (h.2.2 s r hs' hr (by omega))
def swapF (F:Nat→Nat) (k t:Nat):Nat→Nat:=fun r=>if r=k then F t else if r=t then F k else F r
theorem MatG.swap {base:Nat} {w:World} {m n:Nat} {M:Mx} {G C:Nat→Nat} {g c:Nat} (h:MatG base w (.slice (some ⟨g,0,none⟩) m c) m n M G C) {k t:Nat} (hk:k < m) (ht:t < m):
 MatG base ((w.setCell ⟨g,k,none⟩ (Zai n G C t)).setCell ⟨g,t,none⟩ (Zai n G C k)) (.slice (some ⟨g,0,none⟩) m c) m n (swapM M k t) (swapF G k t) (swapF C k t)∧
 Ze 23 w ((w.setCell ⟨g,k,none⟩ (Zai n G C t)).setCell ⟨g,t,none⟩ (Zai n G C k)):=by
 have o1:=XD h.1 k (Zai n G C t) (by rw [Zjy];exact hk);have o2:=XD o1 t (Zai n G C k) (by rw [List.length_set,Zjy];exact ht);obtain ⟨_,b0,_⟩:=Yl h.1;obtain ⟨_,b1,_⟩:=Yl o1;have kp:=(Ze.setCell b0 k (Zai n G C t)).trans (Ze.setCell b1 t (Zai n G C k));have b:∀r,Zai n (swapF G k t) (swapF C k t) r=if r=k then Zai n G C t else if r=t then Zai n G C k else Zai n G C r:=fun r=>by
  unfold Zai swapF;by_cases e:r=k
  ·simp only [if_pos e]
  ·simp only [if_neg e];by_cases e2:r=t
   ·simp only [if_pos e2]
   ·simp only [if_neg e2]
 refine ⟨⟨?_,fun r hr=>?_,fun r s hr hs e=>?_⟩,kp⟩
 ·have:((Zqs m n G C).set k (Zai n G C t)).set t (Zai n G C k)=Zqs m n (swapF G k t) (swapF C k t):=by
   apply List.ext_getElem?;intro i;rcases JX i m with hi | hi
   ·rw [Zaj hi,b,List.getElem?_set,List.getElem?_set];simp only [List.length_set,Zjy];by_cases e1:t=i
    ·subst e1;rw [if_pos rfl,if_pos ht];by_cases e2:t=k
     ·subst e2;rw [if_pos rfl]
     ·rw [if_neg e2,if_pos rfl]
    ·rw [if_neg e1];by_cases e2:k=i
     ·subst e2;rw [if_pos rfl,if_pos hk,if_pos rfl]
     ·rw [if_neg e2,if_neg (fun h=>e2 h.symm),if_neg (fun h=>e1 h.symm),Zaj hi]
   ·rw [JU (by simp [Zjy];exact hi),JU (by rw [Zjy];exact hi)]
  rw [← this];exact o2
 ·rw [b];unfold swapM;split
  ·exact (h.2.1 t ht).but kp (by decide) (by decide)
  ·split
   ·exact (h.2.1 k hk).but kp (by decide) (by decide)
   ·exact (h.2.1 r hr).but kp (by decide) (by decide)
 ·have d:∀a,a < m→∃a',a' < m∧swapF G k t a=G a'∧((a=k∧a'=t)∨(a≠k∧a=t∧a'=k)∨(a≠k∧a≠t∧a'=a)):=fun a ha=>by
   unfold swapF;by_cases e1:a=k
   ·exact ⟨t,ht,by rw [if_pos e1],.inl ⟨e1,rfl⟩⟩
   ·by_cases e2:a=t
    ·exact ⟨k,hk,by rw [if_neg e1,if_pos e2],.inr (.inl ⟨e1,e2,rfl⟩)⟩
    ·exact ⟨a,ha,by rw [if_neg e1,if_neg e2],.inr (.inr ⟨e1,e2,rfl⟩)⟩
  obtain ⟨r',f,er,cr⟩:=d r hr;obtain ⟨s',j,es,cs⟩:=d s hs;rw [er,es] at e;have:=h.2.2 _ _ f j e;omega
theorem MatG.cellAt {base:Nat} {w:World} {m n:Nat} {M:Mx} {G C:Nat→Nat} {g c:Nat} (h:MatG base w (.slice (some ⟨g,0,none⟩) m c) m n M G C) {r:Nat} (hr:r < m):w.cell? ⟨g,r,none⟩=some (Zai n G C r)∧w.frozen? ⟨g,r,none⟩=false:=ZM h.1 (Zaj hr)
theorem MatG.swap1 {base:Nat} {w:World} {m n:Nat} {M:Mx} {G C:Nat→Nat} {g c:Nat} (h:MatG base w (.slice (some ⟨g,0,none⟩) m c) m n M G C) {k t:Nat} {u:Value} (ht:t < m):∃y,(w.setCell ⟨g,k,none⟩ u).cell? ⟨g,t,none⟩=some y∧(w.setCell ⟨g,k,none⟩ u).frozen? ⟨g,t,none⟩=false:=by
 rcases JX k m with hk | hk
 ·have o1:=XD h.1 k u (by rw [Zjy];exact hk);obtain ⟨y,hy⟩:∃y,((Zqs m n G C).set k u)[t]? =some y:=⟨_,JQ (by rw [List.length_set,Zjy];exact ht)⟩;exact ⟨y,ZM o1 hy⟩
 ·obtain ⟨a,b0,_⟩:=Yl h.1;have hb:=heap_setCell_same w g k a 23 u b0;obtain ⟨c0,_⟩:=h.cellAt ht;rw [cell_of_row w g t a _ _ b0] at c0;have b:t < a.size:=by
   rcases JX t a.size with h9 | h9
   ·exact h9
   ·rw [Array.getElem?_eq_none (by omega)] at c0;cases c0
  refine ⟨(a.setIfInBounds k u)[t]'(by simpa using b),?_,frozen_of_row _ g t _ _ hb⟩;rw [cell_of_row _ g t _ _ _ hb];exact Array.getElem?_eq_getElem (by simpa using b)
def ColsM (w:World) (v:Value) (m n:Nat) (M:Mx):Prop:=∃vs:Nat→Value,V7 w 23 1 v m ((List.range m).map vs)∧∀k,k < m→Xh w (vs k) (Yj n (M k))
theorem ColsM.below {w w':World} {v:Value} {m n:Nat} {M:Mx} (h:ColsM w v m n M) (hb:Below w.heap.size w w'):ColsM w' v m n M:=by
 obtain ⟨vs,h1,h2⟩:=h;exact ⟨vs,h1.below hb,fun k hk=>(h2 k hk).below hb⟩
theorem ColsM.shape {w:World} {v:Value} {m n:Nat} {M:Mx} (h:ColsM w v m n M):∃A c,v= .slice A m c∧m≤c∧c≤9223372036854775807:=by
 obtain ⟨vs,h1,h2⟩:=h;exact h1.shape
theorem ColsM.at_ {w w0:World} {A:Option Addr} {m n c:Nat} {M:Mx} (h0:ColsM w0 (.slice A m c) m n M) (hb0:Below w0.heap.size w0 w) {k:Nat} (hk:k < m) {r:Nat} (hr:r < n):
 ∃b off B cB b' off' A1 n1 c1 A2 n2 c2,A=some ⟨b,off,none⟩∧b < w0.heap.size∧w.cell? ⟨b,off+k,none⟩=some (.slice (some ⟨b',off',none⟩) n cB)∧n≤cB∧cB≤9223372036854775807∧B=(some ⟨b',off',none⟩:Option Addr)∧
 (w.cell? ⟨b',off'+r * 4,none⟩=some (.bool (canF (M k r)).num.neg)∧w.cell? ⟨b',off'+r * 4+1,none⟩=some (.slice A1 n1 c1)∧w.cell? ⟨b',off'+r * 4+2,none⟩=some (.bool (canF (M k r)).den.neg)∧w.cell? ⟨b',off'+r * 4+3,none⟩=some (.slice A2 n2 c2))∧Zt w (.agg #[.bool (canF (M k r)).num.neg,.slice A1 n1 c1,.bool (canF (M k r)).den.neg,.slice A2 n2 c2]) (canF (M k r)):=by
 obtain ⟨vs,h1,h2⟩:=h0;obtain ⟨b,off,hA,d,hc⟩:=h1.at_ (by omega);obtain ⟨B,cB,hv,a,e⟩:=(h2 k hk).shape;rw [Zm] at hv a;have h3:=h2 k hk;rw [hv] at h3;obtain ⟨b',off',A1,n1,c1,A2,n2,c2,f,_,h4,hm⟩:=h3.elem hb0 (ZK hr);subst f;refine ⟨b,off,_,cB,b',off',A1,n1,c1,A2,n2,c2,hA,d,?_,a,e,rfl,h4,hm⟩;have:=hc k (vs k) (by simp [hk]);rw [← hv];exact cell_later hb0 this
theorem wpList_append_slice {ops:Array Oper} {rest:List Oper} {o:Oper} {a:Act} {Q:Exit→Act→World→Prop} (hgd:o.guard=none) (s x:Operand)
 (ho:o.op= .call { callee:= .builtin .append,args:=#[s,x],argTypes:=#[113,113] })
 (W:World) (base:Nat) (v:Value) (m:Nat) (xs:List Value) (hs:a.eval s=v) (hown:W.ownsRow base 23 1 v m xs) (A:Option Addr) (n c:Nat)
 (hx:a.eval x= .slice (some ⟨W.heap.size,0,none⟩) 1 1) (hn:m+1≤1099511627776) (hbase:base≤W.heap.size)
 (h:∀v' w',w'.ownsRow base 23 1 v' (m+1) (xs++[.slice A n c])→Ze 23 W w'→Below base W w'→wpList Tryz.prog ops Q rest (a.put o.dst v') w'):
 wpList Tryz.prog ops Q (o::rest) a (W.alloc (.cells #[.slice A n c] 23)):=by
 obtain ⟨i0,hi,b,d,e⟩:=info_parts info_rowT;exact Zba hgd s x 113 ho 23 i0 _ 1 24 Tryz.underlying113 hi b d e rfl (by decide) W base v m xs [.slice A n c] hs hown hx rfl (by intro u hu;simp at hu;subst hu;rfl) (by unfold maxLen;omega) (by omega) hbase h
def ColsO (base:Nat) (w:World) (v:Value) (m n:Nat) (M:Mx):Prop:=∃vs:Nat→Value,w.ownsRow base 23 1 v m ((List.range m).map vs)∧∀k,k < m→Xh w (vs k) (Yj n (M k))
theorem ColsO.cols {base:Nat} {w:World} {v:Value} {m n:Nat} {M:Mx} (h:ColsO base w v m n M):ColsM w v m n M:=by
 obtain ⟨vs,h1,h2⟩:=h;exact ⟨vs,V7.of_own h1,h2⟩
theorem ColsO.nil (base:Nat) (w:World) (n:Nat) (M:Mx):ColsO base w (.slice none 0 0) 0 n M:=⟨fun _=> .slice none 0 0,World.ownsRow_nil _ _ _ _,fun k hk=>absurd hk (by omega)⟩
theorem ColsO.below {base:Nat} {w w':World} {v:Value} {m n:Nat} {M:Mx} (h:ColsO base w v m n M) (hb:Below w.heap.size w w'):ColsO base w' v m n M:=by
 obtain ⟨vs,h1,h2⟩:=h;exact ⟨vs,own_below h1 hb,fun k hk=>(h2 k hk).below hb⟩
theorem wpList_append_cols {ops:Array Oper} {rest:List Oper} {o:Oper} {a:Act} {Q:Exit→Act→World→Prop} (hgd:o.guard=none) (s x:Operand)
 (ho:o.op= .call { callee:= .builtin .append,args:=#[s,x],argTypes:=#[113,113] })
 (W:World) (base:Nat) (v:Value) (m n:Nat) (M:Mx) (hs:a.eval s=v) (hown:ColsO base W v m n M) (A:Option Addr) (l c:Nat) (hf:Xh W (.slice A l c) (Yj n (M m)))
 (hx:a.eval x= .slice (some ⟨W.heap.size,0,none⟩) 1 1) (hn:m+1≤1099511627776) (hbase:base≤W.heap.size)
 (h:∀v' w',ColsO base w' v' (m+1) n M→Ze 23 W w'→Below base W w'→wpList Tryz.prog ops Q rest (a.put o.dst v') w'):
 wpList Tryz.prog ops Q (o::rest) a (W.alloc (.cells #[.slice A l c] 23)):=by
 obtain ⟨vs,h1,h2⟩:=hown;refine wpList_append_slice hgd s x ho W base v m _ hs h1 A l c hx hn hbase fun v' w' g1 g2 g3=>h v' w' ⟨fun k=>if k=m then .slice A l c else vs k,?_,fun k hk=>?_⟩ g2 g3
 ·rw [List.range_succ,List.map_append];have:(List.range m).map (fun k=>if k=m then Value.slice A l c else vs k)=(List.range m).map vs:=List.map_congr_left fun k hk=>by
   have:k < m:=List.mem_range.1 hk;rw [if_neg (by omega)]
  rw [this];simpa using g1
 ·by_cases e:k=m
  ·subst e;simp only [if_true];exact hf.but g2 (by decide) (by decide)
  ·simp only [if_neg e];exact (h2 k (by omega)).but g2 (by decide) (by decide)
theorem seq_append_cols {ops:Array Oper} {Q:Exit→Act→World→Prop} {S:World→Prop} {q:Nat} {i:Nat} {is:List Nat} {o:Oper} {a:Act} (hoi:ops[i]? =some o) (hfl:Y7 ops q i=false) (hgd:o.guard=none) (hl0:q≤i) (s x:Operand)
 (ho:o.op= .call { callee:= .builtin .append,args:=#[s,x],argTypes:=#[113,113] })
 (W:World) (base:Nat) (v:Value) (m n:Nat) (M:Mx) (hs:a.eval s=v) (hown:ColsO base W v m n M) (A:Option Addr) (l c:Nat) (hf:Xh W (.slice A l c) (Yj n (M m)))
 (hx:a.eval x= .slice (some ⟨W.heap.size,0,none⟩) 1 1) (hn:m+1≤1099511627776) (hbase:base≤W.heap.size)
 (h:∀v' w',ColsO base w' v' (m+1) n M→Ze 23 W w'→Below base W w'→Xl Tryz.prog ops Q S q is (a.put o.dst v') w'):
 Xl Tryz.prog ops Q S q (i::is) a (W.alloc (.cells #[.slice A l c] 23)):=by
 obtain ⟨vs,h1,h2⟩:=hown;obtain ⟨i0,hi,b,d,f⟩:=info_parts info_rowT;refine Ue hoi hfl hgd hl0 s x 113 ho 23 i0 _ 1 24 Tryz.underlying113 hi b d f rfl (by decide) W base v m _ [.slice A l c] hs h1 hx rfl (by intro u hu;simp at hu;subst hu;rfl) (by unfold maxLen;omega) (by omega) hbase fun v' w' g1 g2 g3=>h v' w' ⟨fun k=>if k=m then .slice A l c else vs k,?_,fun k hk=>?_⟩ g2 g3
 ·rw [List.range_succ,List.map_append];have:(List.range m).map (fun k=>if k=m then Value.slice A l c else vs k)=(List.range m).map vs:=List.map_congr_left fun k hk=>by
   have:k < m:=List.mem_range.1 hk;rw [if_neg (by omega)]
  rw [this];simpa using g1
 ·by_cases e:k=m
  ·subst e;simp only [if_true];exact hf.but g2 (by decide) (by decide)
  ·simp only [if_neg e];exact (h2 k (by omega)).but g2 (by decide) (by decide)
theorem wpList_append_mat {ops:Array Oper} {rest:List Oper} {o:Oper} {a:Act} {Q:Exit→Act→World→Prop} (hgd:o.guard=none) (s x:Operand)
 (ho:o.op= .call { callee:= .builtin .append,args:=#[s,x],argTypes:=#[113,113] })
 (W:World) (base:Nat) (v:Value) (m n:Nat) (M:Mx) (G C:Nat→Nat) (hs:a.eval s=v) (hown:MatG base W v m n M G C) (g c:Nat) (hf:Z4 base W (.slice (some ⟨g,0,none⟩) n c) (Yj n (M m))) (hne:∀r,r < m→G r≠g)
 (hx:a.eval x= .slice (some ⟨W.heap.size,0,none⟩) 1 1) (hn:m+1≤1099511627776) (hbase:base≤W.heap.size)
 (h:∀v' w',MatG base w' v' (m+1) n M (fun r=>if r=m then g else G r) (fun r=>if r=m then c else C r)→Ze 23 W w'→Below base W w'→wpList Tryz.prog ops Q rest (a.put o.dst v') w'):
 wpList Tryz.prog ops Q (o::rest) a (W.alloc (.cells #[.slice (some ⟨g,0,none⟩) n c] 23)):=by
 obtain ⟨h1,h2,h3⟩:=hown;have b:∀r,Zai n (fun r=>if r=m then g else G r) (fun r=>if r=m then c else C r) r=if r=m then .slice (some ⟨g,0,none⟩) n c else Zai n G C r:=fun r=>by
  unfold Zai;by_cases e:r=m
  ·simp only [if_pos e]
  ·simp only [if_neg e]
 refine wpList_append_slice hgd s x ho W base v m _ hs h1 _ n c hx hn hbase fun v' w' g1 g2 g3=>h v' w' ⟨?_,fun r hr=>?_,fun r t hr ht e=>?_⟩ g2 g3
 ·have:Zqs (m+1) n (fun r=>if r=m then g else G r) (fun r=>if r=m then c else C r)=Zqs m n G C++[.slice (some ⟨g,0,none⟩) n c]:=by
   unfold Zqs;rw [List.range_succ,List.map_append];have e1:(List.range m).map (Zai n (fun r=>if r=m then g else G r) (fun r=>if r=m then c else C r))=(List.range m).map (Zai n G C):=List.map_congr_left fun k hk=>by
    have:k < m:=List.mem_range.1 hk;rw [b,if_neg (by omega)]
   rw [e1,List.map_cons,b,if_pos rfl,List.map_nil]
  rw [this];exact g1
 ·rw [b];split
  ·rename_i e;subst e;exact hf.but g2 (by decide) (by decide)
  ·exact (h2 r (by omega)).but g2 (by decide) (by decide)
 ·by_cases e1:r=m <;> by_cases e2:t=m
  ·omega
  ·simp only [if_pos e1,if_neg e2] at e;exact absurd e.symm (hne t (by omega))
  ·simp only [if_neg e1,if_pos e2] at e;exact absurd e (hne r (by omega))
  ·simp only [if_neg e1,if_neg e2] at e;exact h3 r t (by omega) (by omega) e
theorem rrows_own (v:Value) (m:Nat) (M:Mx) (w:World) (h:ColsM w v m m M) (hm:m≤1000):
 Calls Tryz.prog 86 #[v] w fun e w'=>∃v',e= .returned v'∧ColsM w' v' m m (fun r k=>M k r)∧Below w.heap.size w w':=by
 obtain ⟨A,c,rfl,G,H⟩:=h.shape;go_enter Tryz.func86,Tryz.ntmps86;go_wp2
 go_loopw [3,4] (fun s i wr=>∃r:Nat,r≤m∧i= .int .i64 r∧ColsO w.heap.size wr s r m (fun r k=>M k r)∧Below w.heap.size w wr) (fun _ i _=>m - (intOf i).toNat)
 case atStart=>exact ⟨0,by omega,rfl,ColsO.nil _ _ _ _,JR _ _⟩
 case round=>
  obtain ⟨r,hr,rfl,hO,d⟩:=hrel;obtain ⟨wO,rfl⟩:∃x,x=wr:=⟨_,rfl⟩;rcases JX r m with hrm | hrm
  ·go_wp2
   go_loopw [5,6] (fun s i wx=>∃k:Nat,k≤m∧i= .int .i64 k∧Z4 wO.heap.size wx s (Yj k fun k=>M k r)∧Below wO.heap.size wO wx) (fun _ i _=>m - (intOf i).toNat)
   case atStart=>exact ⟨0,by omega,rfl,Z4.nil _ _,JR _ _⟩
   case round=>
    obtain ⟨k,hk,rfl,hF,f⟩:=hrel;have u:=f.size;rcases JX k m with hkm | hkm
    ·obtain ⟨b,I,B,cB,b',D,A1,n1,c1,A2,n2,c2,rfl,J,z,p,q,_,⟨q0,q1,q2,q3⟩,t⟩:=h.at_ (Za d f d.size) hkm hrm;have HF:=JZ hF;have y:=JZ t;have n:(Yj k fun k=>M k r).length+1≤1099511627776:=(by rw [Zm];omega);have E:(k:Int) < m:=(by omega);have F:(r:Int) < m:=(by omega);clear hF t;go_wp2_with (at_builtin;refine wpList_append_frac rfl (.tmp 19) (.tmp 27) rfl wr wO.heap.size u5 (Yj k fun k=>M k r) rfl HF.out _ _ A1 A2 n1 c1 n2 c2 (canF (M k r)) y.out rfl n u ?_);intro v' w4 a C l;rw [canL_succ k fun k=>M k r] at a;go_wp2;go_roundw
     case rel=>exact ⟨k+1,by omega,by go_num,a,f.trans l⟩
     case measure=>simp [intOf];omega
    ·obtain rfl:k=m:=by omega
     have HO:=JZ (hO.below f);have j:=hF.frs;obtain ⟨B,cB,rfl,p,q⟩:=j.shape;have HF:=JZ j;have g:=Za d f d.size;have o:=g.size;clear hO hF j;go_wp2_with (at_builtin;refine wpList_append_cols rfl (.tmp 29) (.tmp 31) rfl wr w.heap.size u3 r k (fun r k=>M k r) rfl HO.out B _ cB HF.out rfl (by omega) o ?_);intro v' w4 a C l;go_wp2;go_roundw
     case rel=>exact ⟨r+1,by omega,by go_num,a,g.trans l⟩
     case measure=>simp [intOf];omega
  ·obtain rfl:r=m:=by omega
   go_wp2;go_ret;exact ⟨_,rfl,hO.cols,d⟩
theorem rcolumn_neg (v:Value) (p:LPd) (K r:Nat) (w:World) (h:LpM w v p) (ok:p.Ok K) (hK:K≤34359738368) (hr:r < p.right.length) (hm:p.right.length≤64):
 Calls Tryz.prog 60 #[v,.int .i64 (-1 - (r:Int))] w fun e w'=>∃v',e= .returned v'∧Z4 w.heap.size w' v' (Yj p.right.length (p.col (-1 - (r:Int))))∧Below w.heap.size w w':=by
 obtain ⟨A,n,c,A',n',c',a0,a,a1,rfl,hc,hv,J⟩:=id h;obtain ⟨W,hW,hX,l⟩:=Y6 w (.slice A n c) (.slice A' n' c') (.slice a0 a a1);obtain ⟨x0,x1,x2⟩:=hX.three;obtain ⟨r1,r2,r3⟩:=J.len;obtain ⟨f,hf⟩:=Yb (fs:=p.right) (i:=r) hr;have Y:=(ok.2.1 r f hf).sh hK;have HQ:=JZ (Yo hf);have F:Hid (p.col (-1 - (r:Int))=fun i=>if i=r then (if qs (qAt p.right i) < 0 then -1 else 1) else 0):=JZ LPd.col_neg;have HF:=JZ hf;rw [← r1];have d:r < a:=by omega
 have ab:(r:Int) < a:=by omega
 have aa:a≤64:=by omega
 generalize hj: -1 - (r:Int)=j at *;have ac:j < 0:=by omega
 have ad: -1 - j=(r:Int):=by omega
 clear hf hm r1 hr ok hc hv h hj;go_enter Tryz.func60,Tryz.ntmps60;go_wp2_with fail;clear hW;refine (zeros_own a _ (by omega)).mono ?_;rw [canL_zero];rintro _ w1 ⟨v1,rfl,e1,o⟩;obtain ⟨g,cg,rfl,ae,af,a2,ag⟩:=e1.shape (by rw [Zm];omega);rw [Zm] at e1 a2 ⊢;go_wp2_with fail;refine (Y4 1 _ (by omega) (by omega)).mono ?_;rw [show ((1:Int):Rat)=1 from rfl];rintro _ w2 ⟨v2,rfl,e2,s⟩;have u:=e1.below s;have x:=e2.frac;generalize D:canF 1=q1 at *;obtain ⟨E,l9,k9,E',L,M,rfl,_,_⟩:=id x;obtain ⟨_,_,_,_,⟨N,O,P,R⟩,⟨f0,f1,f2,f3⟩,_⟩:=u.at_ (ZK d)
 go_upto_region 6 with (fail)
 obtain ⟨B,S⟩:=u.set_ (k:=r) (by rw [Zm];exact d) x;rw [← D,Vg d,D] at B;have t:=Za o s o.size;have m:=Zw (Za l t l.size) (show w.heap.size≤g by have:=l.size;omega) (r * 4) (r * 4+1) (r * 4+2) (r * 4+3) (.bool q1.num.neg) (.slice E l9 k9) (.bool q1.den.neg) (.slice E' L M);have G:=S.bk ((hX.later o).later s) (by decide);clear N O P R f0 f1 f2 f3 S u e1 o s t e2 x x0 x1 x2 hX D;generalize (((w2.setCell ⟨g,r * 4,none⟩ (.bool q1.num.neg)).setCell ⟨g,r * 4+1,none⟩ (.slice E l9 k9)).setCell ⟨g,r * 4+2,none⟩ (.bool q1.den.neg)).setCell ⟨g,r * 4+3,none⟩ (.slice E' L M)=W3 at *;obtain ⟨x0,x1,x2⟩:=G.three;obtain ⟨b,ah,B1,n1,k1,B2,n2,k2,rfl,ai,⟨a3,a4,a5,a6⟩,T⟩:=J.elem m HF.out;go_wp2_with fail;refine (rsignF_any _ f _ T Y).mono ?_;rintro _ w4 ⟨rfl,C⟩;have y:=B.below C;have z:=Za m C m.size;clear a3 a4 a5 a6 T x0 x1 x2 G B m C;by_cases hq:qs f.q < 0
 ·have HC:Hid (∀i,i < a→(if i=r then (-1:Rat) else if i=r then 1 else 0)=p.col j i):=JZ fun i _=>by
   rw [F.out];by_cases e:i=r
   ·simp only [if_pos e];rw [e,HQ.out,if_pos hq]
   ·simp only [if_neg e]
  go_wp2_with fail;refine (Y4 (-1) _ (by omega) (by omega)).mono ?_;rw [show ((-1:Int):Rat)= -1 from rfl];rintro _ w6 ⟨v6,rfl,e6,V⟩;have H:=y.below V;have I:=e6.frac;generalize X:canF (-1)=q6 at *;obtain ⟨E6,l6,k6,a7,a8,a9,rfl,_,_⟩:=id I;obtain ⟨_,_,_,_,⟨N,O,P,R⟩,⟨f0,f1,f2,f3⟩,_⟩:=H.at_ (ZK d);go_wp2;obtain ⟨U,aj⟩:=H.set_ (k:=r) (by rw [Zm];exact d) I;rw [← X,Vg d,X,ZT HC.out] at U;have Z:=Zw (Za z V z.size) (show w.heap.size≤g by have:=l.size;omega) (r * 4) (r * 4+1) (r * 4+2) (r * 4+3) (.bool q6.num.neg) (.slice E6 l6 k6) (.bool q6.den.neg) (.slice a7 a8 a9);go_ret;obtain ⟨cs,ho,hf⟩:=U;exact ⟨_,rfl,⟨cs,Wy ho l.size,hf⟩,Z⟩
 ·have HC:Hid (∀i,i < a→(if i=r then (1:Rat) else 0)=p.col j i):=JZ fun i _=>by
   rw [F.out];by_cases e:i=r
   ·simp only [if_pos e];rw [e,HQ.out,if_neg hq]
   ·simp only [if_neg e]
  go_wp2;go_ret;rw [ZT HC.out] at y;obtain ⟨cs,ho,hf⟩:=y;exact ⟨_,rfl,⟨cs,Wy ho l.size,hf⟩,z⟩
theorem rcolumn_any (v:Value) (p:LPd) (K:Nat) (j:Int) (w:World) (h:LpM w v p) (ok:p.Ok K) (hK:K≤34359738368) (hin:p.In) (hj0: -(p.right.length:Int)≤j) (hj1:j < p.cols.length) (hm:p.right.length≤64):
 Calls Tryz.prog 60 #[v,.int .i64 j] w fun e w'=>∃v',e= .returned v'∧Z4 w.heap.size w' v' (Yj p.right.length (p.col j))∧Below w.heap.size w w':=by
 rcases Int.lt_or_le j 0 with h0 | h0
 ·obtain ⟨r,rfl⟩:∃r:Nat,j= -1 - (r:Int):=⟨(-1 - j).toNat,by omega⟩;exact rcolumn_neg v p K r w h ok hK (by omega) hm
 ·obtain ⟨r,rfl⟩:=JT h0;exact rcolumn_pos v p K r w h ok hK hin (by omega) hm
theorem rmatrix_own (v1 v2:Value) (p:LPd) (s:LSt) (K:Nat) (w:World) (h:LpM w v1 p) (h2:StM w v2 s) (ok:p.Ok K) (hK:K≤34359738368) (hin:p.In) (hs:s.In p) (hm:p.right.length≤64) (hl:s.basis.length≤1000):
 Calls Tryz.prog 84 #[v1,v2] w fun e w'=>∃v',e= .returned v'∧ColsM w' v' s.basis.length p.right.length (s.mat p)∧Below w.heap.size w w':=by
 obtain ⟨A,n,c,A',n',c',q,r,t,rfl,hc,hv,hr⟩:=id h;obtain ⟨Ab,nb,cb,rfl,hI⟩:=id h2;obtain ⟨W,hW,x,f⟩:=Y6 w (.slice A n c) (.slice A' n' c') (.slice q r t);obtain ⟨W1,L,b,g⟩:=Zea W (.int .i64 s.phase) (.slice Ab nb cb) (.int .i64 s.pivots);have hX:=x.later g;have a:=Za f g f.size;obtain ⟨b1,b2,b3⟩:=hI.len;have C:W.heap.size=w.heap.size+1:=by rw [← hW];simp
 rw [C] at b;have D:=JZ h;have E:=JZ ok;have F:=JZ hin;have G:=JZ hs;have N:=JZ b1;rw [← b1];have O:nb≤1000:=by omega
 have HI:=JZ hI;obtain ⟨x0,x1,x2⟩:=hX.three;obtain ⟨y0,y1,y2⟩:=b.three;clear h h2 ok hin hs hc hv hr b1 hl hI x f g;go_enter Tryz.func84,Tryz.ntmps84;go_wp2;clear hW L x0 x1 x2 y0 y1 y2
 go_loopw [5,6] (fun u i wr=>∃k:Nat,k≤nb∧i= .int .i64 k∧Below w.heap.size w wr∧Bk wr w.heap.size 26 [.slice A n c,.slice A' n' c',.slice q r t]∧Bk wr (w.heap.size+1) 29 [.int .i64 s.phase,.slice Ab nb cb,.int .i64 s.pivots]∧ColsO w.heap.size wr u k p.right.length (s.mat p)) (fun _ i _=>nb - (intOf i).toNat)
 case atStart=>exact ⟨0,by omega,rfl,a,hX,b,ColsO.nil _ _ _ _⟩
 case round=>
  clear a hX b;obtain ⟨k,hk,rfl,a,hX,hS,hO⟩:=hrel;obtain ⟨x0,x1,x2⟩:=hX.three;obtain ⟨y0,y1,y2⟩:=hS.three;rcases JX k nb with hkl | hkl
  ·obtain ⟨bb,bo,z,rfl,hz,j,z0,z1⟩:=(HI.out.below a).at_ hkl;have HZ:Hid (s.mat p k=p.col z):=JZ (by unfold LSt.mat;rw [LSt.at_eq j]);obtain ⟨i0,i1⟩:=G.out k z j;have P:(k:Int) < nb:=(by omega);clear j;go_wp2_with fail;have C0:=Zp x0;have C1:=Zp x1;have C2:=Zp x2;have D1:=Zp y1;have E1:=Zp hz;have b:=Zj wr;clear x0 x1 x2 y0 y1 y2 hz;refine Zq 8 [0,1,2,3,4,5,6,7,8,9,10] (by kernel_rfl) (by kernel_rfl) ?_;repeat ((first | (refine Zc (v:=?_) rfl rfl rfl ?_ ?_;rotate_left;(· (intro _ M;go_simp;(try go_bits);(try with_reducible rfl)))) | (refine Zg (v:=?_) rfl rfl rfl ?_ ?_;rotate_left;(· (intro _ M;go_simp;(try go_bits);(try with_reducible rfl)))) | refine Zh rfl rfl rfl ?_);(try simp only [Act.put,pu1,pu2,pu3,pu4,pu5,pu6]))
   refine Zd rfl rfl (fun KR hKR=>?_);go_simp;(with_reducible refine (rcolumn_any _ p K z _ ((D.out.below a).below b) E.out hK F.out i0 i1 hm).mono ?_);rw [← HZ.out];rintro _ w5 ⟨v5,rfl,e5,y⟩;have d:=Za b y b.size;obtain ⟨Ae,ce,rfl,_,_⟩:=e5.frs.shape;have HF:=JZ e5.frs;have HO:=JZ (hO.below d);have H:w.heap.size≤w5.heap.size:=(by have:=a.size;have:=d.size;omega);clear e5;refine hKR.out _ _ (Or.inr d) ?_;clear hKR KR;(try simp only [Act.put,pu1,pu2,pu3,pu4,pu5,pu6]);refine Zd rfl rfl (fun KR hKR=>?_);go_simp;refine hKR.out _ _ (Or.inl (by decide)) ?_;clear hKR KR;(try simp only [Act.put,pu1,pu2,pu3,pu4,pu5,pu6]);refine seq_append_cols rfl rfl rfl (by decide) (.tmp 14) (.tmp 22) rfl w5 w.heap.size u5 k p.right.length (s.mat p) rfl HO.out Ae _ ce HF.out rfl (by omega) H ?_;intro v' w6 l m B;(try simp only [Act.put,pu1,pu2,pu3,pu4,pu5,pu6]);refine Zd rfl rfl (fun KR hKR=>?_);go_simp;refine hKR.out _ _ (Or.inl (by decide)) ?_;clear hKR KR;(try simp only [Act.put,pu1,pu2,pu3,pu4,pu5,pu6]);refine Zz ?_;have I:=m.bk (hX.later d) (by decide);have J:=m.bk (hS.later d) (by decide);have o:=(Za a d a.size).trans B;clear C0 C1 C2 D1 E1 hX hS a b d y hO HO HF m B;go_wp2;go_roundw
   case rel=>exact ⟨k+1,by omega,by go_num,o,I,J,l⟩
   case measure=>simp [intOf];omega
  ·obtain rfl:k=nb:=by omega
   go_wp2;go_ret;exact ⟨_,rfl,hO.cols,a⟩
theorem samelist_any (v1 v2:Value) (fs:List RF) (w:World) (h:Xh w v1 fs) (h2:Xh w v2 fs) (hl:fs.length≤1099511627776):
 Calls Tryz.prog 46 #[v1,v2] w fun o w'=>o= .returned (.bool true)∧Below w.heap.size w w':=by
 obtain ⟨A,c,rfl,hc,s⟩:=h.shape;obtain ⟨B,d,rfl,hd,t⟩:=h2.shape;have HI:=JZ h;have HJ:=JZ h2;obtain ⟨n,hn⟩:∃n,n=fs.length:=⟨_,rfl⟩;have HN:=JZ hn;rw [← hn] at hc hd hl ⊢;clear h h2 hn;go_enter Tryz.func46,Tryz.ntmps46;go_wp2
 go_loopw [5] (fun x wr=>∃k:Nat,k≤n∧x= .int .i64 k∧Below w.heap.size w wr) (fun x _=>n - (intOf x).toNat)
 case atStart=>exact ⟨0,by omega,rfl,JR _ _⟩
 case round=>
  obtain ⟨k,hk,rfl,hb⟩:=hrel;rcases JX k n with hkl | hkl
  ·have r:(k:Int) < n:=(by omega);obtain ⟨f,hf⟩:=Yb (fs:=fs) (i:=k) (by rw [← HN.out];exact hkl);obtain ⟨b5,o5,A5,n5,c5,A6,n6,c6,p,_,⟨x0,x1,x2,x3⟩,g⟩:=HI.out.elem hb hf;obtain ⟨b7,o7,A7,n7,c7,A8,n8,c8,q,_,⟨u0,u1,u2,u3⟩,j⟩:=HJ.out.elem hb hf;subst p q;clear hf
   go_upto_region 6 with (fail)
   have C0:=Zp x0;have C1:=Zp x1;have C2:=Zp x2;have C3:=Zp x3;have D0:=Zp u0;have D1:=Zp u1;have D2:=Zp u2;have D3:=Zp u3;have a:=Zj wr;clear x0 x1 x2 x3 u0 u1 u2 u3;refine Zq 10 [0,1,2,3,4,5,6,7,8,9] (by kernel_rfl) (by kernel_rfl) ?_;repeat ((first | (refine Zc (v:=?_) rfl rfl rfl ?_ ?_;rotate_left;(· (intro _ e;go_simp;(try go_bits);(try with_reducible rfl)))) | (refine Zg (v:=?_) rfl rfl rfl ?_ ?_;rotate_left;(· (intro _ e;go_simp;(try go_bits);(try with_reducible rfl)))) | refine Zh rfl rfl rfl ?_);(try simp only [Act.put,pu1,pu2,pu3,pu4,pu5,pu6]))
   refine Zd rfl rfl (fun KR hKR=>?_);go_simp;(with_reducible refine (Zto _ _ f f _ (g.below a) (j.below a)).mono ?_);rw [Zqa];rintro _ w6 ⟨rfl,l⟩;have b:=Za a l a.size;refine hKR.out _ _ (Or.inr b) ?_;clear hKR KR;(try simp only [Act.put,pu1,pu2,pu3,pu4,pu5,pu6]);repeat ((first | (refine Zc (v:=?_) rfl rfl rfl ?_ ?_;rotate_left;(· (intro _ e;go_simp;(try go_bits);(try with_reducible rfl)))) | (refine Zg (v:=?_) rfl rfl rfl ?_ ?_;rotate_left;(· (intro _ e;go_simp;(try go_bits);(try with_reducible rfl)))) | refine Zh rfl rfl rfl ?_);(try simp only [Act.put,pu1,pu2,pu3,pu4,pu5,pu6]))
   refine Zz ?_;have m:=Za hb b hb.size;clear C0 C1 C2 C3 D0 D1 D2 D3 hb a b l g j;go_wp2;go_roundw
   case rel=>exact ⟨k+1,by omega,by go_num,m⟩
   case measure=>simp [intOf];omega
  ·obtain rfl:n=k:=by omega
   go_wp2;go_ret;exact ⟨rfl,hb⟩
end Go.Proofs.YtgbhebappffbdaaGreat
