/- Contracts that the claim is built on; no condition. -/
import Derived.Test.YtncmobkhenfhpaaGreatFo1
set_option linter.unusedVariables false
set_option linter.unusedSimpArgs false
set_option maxRecDepth 100000
set_option maxHeartbeats 40000000
namespace Go.Proofs.YtncmobkhenfhpaaGreat
open Go.RowKit
open Pl
attribute [local go_sem ↓] Go.wp_at_zero Go.wp_at_succ
namespace Pl
theorem findFrom_none {M:Mx} {c:Nat}:∀{n r:Nat},(∀s,r≤s→s < r+n→M s c=0)→XE M c r n=none
 | 0,_,_=>rfl
 | n+1,r,h=>by
  unfold XE
  rw [if_neg (by simpa using h r (Nat.le_refl _) (by omega))]
  exact findFrom_none fun s h1 h2=>h s (by omega) (by omega)
theorem findFrom_some {M:Mx} {c:Nat}:∀{n r t:Nat},r≤t→t < r+n→M t c≠0→(∀s,r≤s→s < t→M s c=0)→XE M c r n=some t
 | 0,r,t,h1,h2,_,_=>by omega
 | n+1,r,t,h1,h2,h3,h4=>by
  unfold XE
  rcases Nat.eq_or_lt_of_le h1 with e | e
  ·subst e;rw [if_pos h3]
  ·rw [if_neg (by simpa using h4 r (Nat.le_refl _) e)]
   exact findFrom_some (by omega) (by omega) h3 fun s h5 h6=>h4 s (by omega) h6
theorem findP_none {M:Mx} {k m:Nat} (h:∀s,k≤s→s < m→M s k=0):Zgl M k m=none:=findFrom_none fun s h1 h2=>h s h1 (by omega)
theorem findP_some {M:Mx} {k m t:Nat} (h1:k≤t) (h2:t < m) (h3:M t k≠0) (h4:∀s,k≤s→s < t→M s k=0):Zgl M k m=some t:=findFrom_some h1 (by omega) h3 h4
def updM (M:Mx) (r i:Nat) (q:Rat):Mx:=fun s c=>if s=r∧c=i then q else M s c
def elimTo (M:Mx) (k s i:Nat) (g:Rat):Mx:=fun r c=>if r=s∧k≤c∧c < i then M r c - g * M k c else M r c
theorem scaleTo_start (M:Mx) (k:Nat) (f:Rat):scaleTo M k k f=M:=by
 funext r c;unfold scaleTo;rw [if_neg (by omega)]
theorem scaleTo_next {M:Mx} {k i:Nat} {f:Rat} (h:k≤i):updM (scaleTo M k i f) k i (scaleTo M k i f k i / f)=scaleTo M k (i+1) f:=by
 funext r c;unfold updM scaleTo
 by_cases h1:r=k∧c=i
 ·obtain ⟨rfl,rfl⟩:=h1;rw [if_pos ⟨rfl,rfl⟩,if_neg (by omega),if_pos ⟨rfl,h,by omega⟩]
 ·rw [if_neg h1];by_cases h2:r=k∧k≤c∧c < i
  ·rw [if_pos h2,if_pos ⟨h2.1,h2.2.1,by omega⟩]
  ·rw [if_neg h2,if_neg (by omega)]
theorem elimTo_start (M:Mx) (k s:Nat) (g:Rat):elimTo M k s k g=M:=by
 funext r c;unfold elimTo;rw [if_neg (by omega)]
theorem elimTo_row {M:Mx} {k s i:Nat} {g:Rat} (h:s≠k) (c:Nat):elimTo M k s i g k c=M k c:=by
 unfold elimTo;rw [if_neg (by omega)]
theorem elimTo_next {M:Mx} {k s i:Nat} {g:Rat} (h:k≤i) (hs:s≠k):updM (elimTo M k s i g) s i (elimTo M k s i g s i - g * elimTo M k s i g k i)=elimTo M k s (i+1) g:=by
 funext r c
 rw [elimTo_row hs];unfold updM elimTo;by_cases h1:r=s∧c=i
 ·obtain ⟨rfl,rfl⟩:=h1;rw [if_pos ⟨rfl,rfl⟩,if_neg (by omega),if_pos ⟨rfl,h,by omega⟩]
 ·rw [if_neg h1];by_cases h2:r=s∧k≤c∧c < i
  ·rw [if_pos h2,if_pos ⟨h2.1,h2.2.1,by omega⟩]
  ·rw [if_neg h2,if_neg (by omega)]
theorem elimAll_start (M:Mx) (k m:Nat):Xa M k 0 m=M:=by
 funext r c;unfold Xa;rw [if_neg (by omega)]
theorem elimAll_at {M:Mx} {k s m:Nat} (c:Nat):Xa M k s m s c=M s c:=by
 unfold Xa;rw [if_neg (by omega)]
theorem elimAll_skip {M:Mx} {k s m:Nat} (h:s=k∨M s k=0):Xa M k s m=Xa M k (s+1) m:=by
 funext r c
 unfold Xa;by_cases h1:r≠k∧r < s∧k≤c∧c≤m
 ·rw [if_pos h1,if_pos ⟨h1.1,by omega,h1.2.2⟩]
 ·rw [if_neg h1];by_cases h2:r≠k∧r < s+1∧k≤c∧c≤m
  ·rw [if_pos h2];have:r=s:=by omega
   subst this;rcases h with h | h
   ·exact absurd h h2.1
   ·rw [h];grind
  ·rw [if_neg h2]
theorem elimAll_next {M:Mx} {k s m:Nat} (hs:s≠k):elimTo (Xa M k s m) k s (m+1) (Xa M k s m s k)=Xa M k (s+1) m:=by
 funext r c
 unfold elimTo;rw [Zct,elimAll_at];unfold Xa;by_cases h1:r=s∧k≤c∧c < m+1
 ·obtain ⟨rfl,h2,h3⟩:=h1;rw [if_pos ⟨rfl,h2,h3⟩,if_neg (by omega),if_pos ⟨hs,by omega,h2,by omega⟩]
 ·rw [if_neg h1];by_cases h2:r≠k∧r < s∧k≤c∧c≤m
  ·rw [if_pos h2,if_pos ⟨h2.1,by omega,h2.2.2⟩]
  ·rw [if_neg h2,if_neg (by omega)]
end Pl
theorem wpList_append_frac {ops:Array Oper} {rest:List Oper} {o:Oper} {a:Act} {Q:Exit→Act→World→Prop} (hgd:o.guard=none) (s x:Operand)
 (ho:o.op= .call { callee:= .builtin .append,args:=#[s,x],argTypes:=#[23,23] })
 (W:World) (base:Nat) (v:Value) (fs:List RF) (hs:a.eval s=v) (hown:Yi base W v fs) (b b':Bool) (A A':Option Addr) (n c n' c':Nat) (f:RF) (hf:Zv W (.agg #[.bool b,.slice A n c,.bool b',.slice A' n' c']) f)
 (hx:a.eval x= .slice (some ⟨W.heap.size,0,none⟩) 1 1) (hn:fs.length+1≤1099511627776) (hbase:base≤W.heap.size)
 (h:∀v' w',Yi base w' v' (fs++[f])→Zd 48 W w'→Below base W w'→wpList Tryz.prog ops Q rest (a.put o.dst v') w'):
 wpList Tryz.prog ops Q (o::rest) a (W.alloc (.cells #[.bool b,.slice A n c,.bool b',.slice A' n' c'] 48)):=by
 obtain ⟨cs,h1,h2⟩:=hown;obtain ⟨i0,hi,d,e,g⟩:=info_parts info_frac;refine WM hgd s x 23 ho 48 i0 _ 4 64 Tryz.underlying23 hi d e g rfl (by decide) W base v fs.length cs [.bool b,.slice A n c,.bool b',.slice A' n' c'] hs h1 hx rfl Ziw (by unfold maxLen;omega) (by omega) hbase ?_;intro v' w' g1 g2 g3;refine h v' w' ⟨_,by simpa using g1,?_⟩ g2 g3;have hk:=g2.keep (by decide);exact (h2.keep hk).snoc (hf.keep hk)
theorem zeros_own (n:Nat) (w:World) (hn:n≤1099511627776):
 Calls Tryz.prog 71 #[.int .i64 (n:Int)] w fun e w'=>∃v',e= .returned v'∧Yi w.heap.size w' v' (List.replicate n (canF 0))∧Below w.heap.size w w':=by
 go_enter Tryz.func71,Tryz.ntmps71;go_wp2
 go_loopw [3,4] (fun s i wr=>∃k:Nat,k≤n∧i= .int .i64 k∧Yi w.heap.size wr s (List.replicate k (canF 0))∧Below w.heap.size w wr) (fun _ i _=>n - (intOf i).toNat)
 case atStart=>exact ⟨0,by omega,rfl,Yi.nil _ _,Below.refl _ _⟩
 case round=>
  obtain ⟨k,hk,rfl,b,d⟩:=hrel;rcases Nat.lt_or_ge k n with hkl | hkl
  ·go_wp2_with fail;refine (XT 0 _ (by omega) (by omega)).mono ?_;rintro e w1 ⟨v1,rfl,e1,g⟩;rw [show ((0:Int):Rat)=0 from rfl] at e1;have a:=b.below g;have f:=Za d g d.size;obtain ⟨A,m,c,A',m',c',rfl,_,_⟩:=id e1.frac;have HF:=Lib.hid e1.frac;have HO:=Lib.hid a;have j:(List.replicate k (canF 0)).length+1≤1099511627776:=(by simp;omega);have l:=f.size;clear b a d g e1;go_wp2_with (at_builtin;refine wpList_append_frac rfl (.tmp 10) (.tmp 12) rfl w1 w.heap.size u3 (List.replicate k (canF 0)) rfl HO.out _ _ A A' m c m' c' (canF 0) HF.out rfl j l ?_);intro v' w2 h p o;go_wp2;go_roundw
   case rel=>exact ⟨k+1,by omega,by go_num,by rw [List.replicate_succ'];exact h,f.trans o⟩
   case measure=>simp [intOf];omega
  ·obtain rfl:k=n:=by omega
   go_wp2;go_ret;exact ⟨_,rfl,b,d⟩
namespace Pl
theorem canL_zero (m:Nat):List.replicate m (canF 0)=Yl m fun _=>0:=by
 apply List.ext_getElem?;intro i;rcases Nat.lt_or_ge i m with h | h
 ·rw [ZC h,List.getElem?_replicate,if_pos h]
 ·rw [List.getElem?_eq_none (by simpa using h),List.getElem?_eq_none (by rw [Zn];exact h)]
theorem canL_succ (m:Nat) (f:Nat→Rat):Yl m f++[canF (f m)]=Yl (m+1) f:=by simp [Yl,List.range_succ]
def nnB (fs:List RF):Bool:=decide (∀i,i < fs.length→0≤qs (qAt fs i))
theorem nnB_true {fs:List RF} (h:∀i,i < fs.length→0≤qs (qAt fs i)):nnB fs=true:=by simpa [nnB] using h
def eqB (xs ys:List RF):Bool:=decide (xs.length=ys.length∧∀i,i < xs.length→qAt xs i=qAt ys i)
theorem eqB_true {xs ys:List RF} (h1:xs.length=ys.length) (h:∀i,i < xs.length→qAt xs i=qAt ys i):eqB xs ys=true:=by
 unfold eqB;rw [decide_eq_true];exact ⟨h1,h⟩
end Pl
theorem cell5_later {w w':World} {b o:Nat} {x y z u t:Value} (hb:Below w.heap.size w w') (h:w.cell? ⟨b,o,none⟩=some x∧w.cell? ⟨b,o+1,none⟩=some y∧w.cell? ⟨b,o+2,none⟩=some z∧w.cell? ⟨b,o+3,none⟩=some u∧w.cell? ⟨b,o+4,none⟩=some t):
 w'.cell? ⟨b,o,none⟩=some x∧w'.cell? ⟨b,o+1,none⟩=some y∧w'.cell? ⟨b,o+2,none⟩=some z∧w'.cell? ⟨b,o+3,none⟩=some u∧w'.cell? ⟨b,o+4,none⟩=some t:=
 ⟨Zi hb h.1,Zi hb h.2.1,Zi hb h.2.2.1,Zi hb h.2.2.2.1,Zi hb h.2.2.2.2⟩
theorem rdense_own (v:Value) (es:List En) (m:Nat) (w:World) (h:Wv w v es) (hs:∀(k:Nat) (e:En),es[k]? =some e→e.f.Sh) (hin:inR m es) (hm0:m≤1099511627776):
 Calls Tryz.prog 78 #[v,.int .i64 (m:Int)] w fun e w'=>∃v',e= .returned v'∧Yi w.heap.size w' v' (Yl m (Xt es))∧Below w.heap.size w w':=by
 obtain ⟨A,c,rfl,I,J⟩:=h.shape;generalize hl:es.length=l at *;have HL:=Lib.hid hl;have HS:=Lib.hid hs;have HI:=Lib.hid hin;clear hl hs hin;go_enter Tryz.func78,Tryz.ntmps78;go_wp2_with fail;refine (zeros_own m _ hm0).mono ?_;rw [canL_zero];rintro _ w1 ⟨v1,rfl,hO,d⟩;have ST:Hid (Yi w.heap.size w1 v1 (Yl m (dQ (es.take 0) fun _=>0))):=Lib.hid hO;clear hO;go_wp2
 go_loopw [6] (fun i wr=>∃k:Nat,k≤l∧i= .int .i64 k∧Below w.heap.size w wr∧Yi w.heap.size wr v1 (Yl m (dQ (es.take k) fun _=>0))) (fun i _=>l - (intOf i).toNat)
 case atStart=>exact ⟨0,by omega,rfl,d,ST.out⟩
 case round=>
  clear ST d;obtain ⟨k,hk,rfl,d,hO⟩:=hrel;rcases Nat.lt_or_ge k l with hkl | hkl
  ·obtain ⟨e,he⟩:=Xk (es:=es) (i:=k) (by rw [HL.out];exact hkl);obtain ⟨b,p,A1,n1,c1,A2,n2,c2,rfl,K,o,hm⟩:=h.elem d he;obtain ⟨i0,i1⟩:=HI.out k e he;have z:=HS.out k e he;have HT:=Lib.hid (Zzu he fun _=>0);obtain ⟨g,cg,rfl,C,L,D,M⟩:=hO.shape (by rw [Zn];omega);rw [Zn] at hO D ⊢;obtain ⟨j,hj⟩:=Int.eq_ofNat_of_zero_le i0;have r:j < m:=(by omega);have t:=ZC (f:=dQ (es.take k) fun _=>0) r;have F:(k:Int) < l:=(by omega);have G:b≠g:=(by omega);have H:(j:Int) < m:=(by omega);rw [hj] at o;clear he;go_wp2_with fail;refine wp_region_noPanic ?_;refine region_F (S:=fun w'=>w'.cell? ⟨b,p+k * 5,none⟩=some (.int .i64 (j:Int))∧w'.cell? ⟨b,p+k * 5+1,none⟩=some (.bool e.f.num.neg)∧w'.cell? ⟨b,p+k * 5+2,none⟩=some (.slice A1 n1 c1)∧w'.cell? ⟨b,p+k * 5+3,none⟩=some (.bool e.f.den.neg)∧w'.cell? ⟨b,p+k * 5+4,none⟩=some (.slice A2 n2 c2)) (n:=13) (by kernel_rfl) ?_ (fun hHeld=>?_)
   ·exact o
   refine anyF_take (i:=0) (v:=?_) rfl (by kernel_rfl) (by kernel_rfl) (by kernel_rfl) (by kernel_rfl) (fun _ _ _ h=>h) (Or.inl ⟨by rfl,?y10⟩) (by assumption) ?_
   case y10=>(intro _ a;(try dsimp only at a);go_simp;(try with_reducible rfl))
   (try simp only [Act.put,List.setIfInBounds_toArray,List.set_cons_zero,List.set_cons_succ]);refine anyF_take (i:=1) (v:=?_) rfl (by kernel_rfl) (by kernel_rfl) (by kernel_rfl) (by kernel_rfl) (fun _ _ _ h=>h) (Or.inl ⟨by rfl,?y11⟩) (by assumption) ?_
   case y11=>(intro _ a;(try dsimp only at a);go_simp;(try with_reducible rfl))
   (try simp only [Act.put,List.setIfInBounds_toArray,List.set_cons_zero,List.set_cons_succ]);refine anyF_take (i:=2) (v:=?_) rfl (by kernel_rfl) (by kernel_rfl) (by kernel_rfl) (by kernel_rfl) (fun _ _ _ h=>h) (Or.inl ⟨by rfl,?y12⟩) (by assumption) ?_
   case y12=>(intro _ a;(try dsimp only at a);go_simp;(try with_reducible rfl))
   (try simp only [Act.put,List.setIfInBounds_toArray,List.set_cons_zero,List.set_cons_succ]);refine anyF_take (i:=3) (v:=?_) rfl (by kernel_rfl) (by kernel_rfl) (by kernel_rfl) (by kernel_rfl) (fun _ _ _ h=>h) (Or.inl ⟨by rfl,?y13⟩) (by assumption) ?_
   case y13=>(intro _ a;(try dsimp only at a);go_simp;(try with_reducible rfl))
   (try simp only [Act.put,List.setIfInBounds_toArray,List.set_cons_zero,List.set_cons_succ]);refine anyF_take (i:=4) (v:=?_) rfl (by kernel_rfl) (by kernel_rfl) (by kernel_rfl) (by kernel_rfl) (fun _ _ _ h=>h) (Or.inl ⟨by rfl,?y14⟩) (by assumption) ?_
   case y14=>(intro _ a;(try dsimp only at a);go_simp;(try with_reducible rfl))
   (try simp only [Act.put,List.setIfInBounds_toArray,List.set_cons_zero,List.set_cons_succ]);refine anyF_take (i:=5) (v:=?_) rfl (by kernel_rfl) (by kernel_rfl) (by kernel_rfl) (by kernel_rfl) (fun _ _ _ h=>h) (Or.inl ⟨by rfl,?y15⟩) (by assumption) ?_
   case y15=>(intro _ a;(try dsimp only at a);go_simp;(try with_reducible rfl))
   (try simp only [Act.put,List.setIfInBounds_toArray,List.set_cons_zero,List.set_cons_succ]);refine anyF_take (i:=6) (v:=?_) rfl (by kernel_rfl) (by kernel_rfl) (by kernel_rfl) (by kernel_rfl) (fun _ _ _ h=>h) (Or.inl ⟨by rfl,?y16⟩) (by assumption) ?_
   case y16=>(intro _ a;(try dsimp only at a);go_simp;(try with_reducible rfl))
   (try simp only [Act.put,List.setIfInBounds_toArray,List.set_cons_zero,List.set_cons_succ]);refine anyF_take (i:=7) (v:=?_) rfl (by kernel_rfl) (by kernel_rfl) (by kernel_rfl) (by kernel_rfl) (fun _ _ _ h=>h) (Or.inl ⟨by rfl,?y17⟩) (by assumption) ?_
   case y17=>(intro _ a;(try dsimp only at a);go_simp;(try with_reducible rfl))
   (try simp only [Act.put,List.setIfInBounds_toArray,List.set_cons_zero,List.set_cons_succ]);refine anyF_take (i:=8) (v:=?_) rfl (by kernel_rfl) (by kernel_rfl) (by kernel_rfl) (by kernel_rfl) (fun _ _ _ h=>h) (Or.inl ⟨by rfl,?y18⟩) (by assumption) ?_
   case y18=>(intro _ a;(try dsimp only at a);go_simp;(try with_reducible rfl))
   (try simp only [Act.put,List.setIfInBounds_toArray,List.set_cons_zero,List.set_cons_succ]);refine anyF_take (i:=9) (v:=?_) rfl (by kernel_rfl) (by kernel_rfl) (by kernel_rfl) (by kernel_rfl) (fun _ _ _ h=>h) (Or.inl ⟨by rfl,?y19⟩) (by assumption) ?_
   case y19=>(intro _ a;(try dsimp only at a);go_simp;(try with_reducible rfl))
   (try simp only [Act.put,List.setIfInBounds_toArray,List.set_cons_zero,List.set_cons_succ]);refine anyF_take (i:=10) (v:=?_) rfl (by kernel_rfl) (by kernel_rfl) (by kernel_rfl) (by kernel_rfl) (fun _ _ _ h=>h) (Or.inl ⟨by rfl,?y20⟩) (by assumption) ?_
   case y20=>(intro _ a;(try dsimp only at a);go_simp;(try with_reducible rfl))
   (try simp only [Act.put,List.setIfInBounds_toArray,List.set_cons_zero,List.set_cons_succ]);refine anyF_step (i:=11) (by kernel_rfl) rfl (fun KR hKR=>?_);go_simp;(with_reducible refine (Zey _ e.f _ (hm.keep (ZJ.drew _)) z).mono ?_);rintro _ w2 ⟨v2,rfl,e2,s⟩;obtain ⟨E,l9,k9,E',N,O,rfl,_,_⟩:=id e2.frac;have u:=(hO.below (Ze _)).below s;obtain ⟨_,_,_,_,⟨c0,c1,c2,c3⟩,⟨f0,f1,f2,f3⟩,_⟩:=u.at_ t;refine hKR.out _ _ ?_ (fun hHeld=>?_)
   ·exact cell5_later s o
   clear hKR KR;(try simp only [Act.put,List.setIfInBounds_toArray,List.set_cons_zero,List.set_cons_succ]);refine anyF_take (i:=12) (v:=?_) rfl (by kernel_rfl) (by kernel_rfl) (by kernel_rfl) (by kernel_rfl) (fun _ _ _ h=>h) (Or.inl ⟨by rfl,?y21⟩) (by assumption) ?_
   case y21=>(intro _ a;(try dsimp only at a);go_simp;(try with_reducible rfl))
   (try simp only [Act.put,List.setIfInBounds_toArray,List.set_cons_zero,List.set_cons_succ]);refine anyF_last (i:=13) (by kernel_rfl) rfl (by decide) (fun KR hKR=>?_);go_simp;refine hKR.out _ _ ?_;clear hKR KR;(try simp only [Act.put,List.setIfInBounds_toArray,List.set_cons_zero,List.set_cons_succ]);refine anyF_done (by kernel_rfl) (NoPanic.normal ?_) _;obtain ⟨x,P⟩:=u.set_ (k:=j) (by rw [Zn];exact r) e2.frac;rw [Vh r] at x;have B:=ZA (Za d.drew s d.size) C (j * 4) (j * 4+1) (j * 4+2) (j * 4+3);go_wp2;go_roundw
   case rel=>exact ⟨k+1,by omega,by go_num,B _ _ _ _,by
    rw [HT.out];have:Yl m (fun i=>if i=j then e.f.q else dQ (es.take k) (fun _=>0) i)=Yl m (fun (i:Nat)=>if e.idx=(i:Int) then e.f.q else dQ (es.take k) (fun _=>0) i):=Z4 fun i _=>by
     by_cases y:i=j
     ·rw [if_pos y,if_pos (by omega)]
     ·rw [if_neg y,if_neg (by omega)]
    rw [← this];exact x⟩
   case measure=>simp [intOf];omega
  ·go_wp2;go_ret;refine ⟨_,rfl,?_,d⟩;rw [List.take_of_length_le (by rw [HL.out];omega)] at hO;exact hO
theorem rcolumn_pos (v:Value) (p:LPd) (K j:Nat) (w:World) (h:LpM w v p) (ok:p.Ok K) (hK:K≤34359738368) (hin:p.In) (hj:j < p.cols.length) (hm:p.right.length≤64):
 Calls Tryz.prog 44 #[v,.int .i64 (j:Int)] w fun e w'=>∃v',e= .returned v'∧Yi w.heap.size w' v' (Yl p.right.length (p.col j))∧Below w.heap.size w w':=by
 obtain ⟨A,n,c,A',n',c',g,d,i,rfl,hc,hv,hr⟩:=h;obtain ⟨W,hW,hX,a⟩:=UV w (.slice A n c) (.slice A' n' c') (.slice g d i);obtain ⟨x0,x1,x2⟩:=hX.three;obtain ⟨m1,m2,m3⟩:=hv.len;obtain ⟨r1,r2,r3⟩:=hr.len;obtain ⟨es,he⟩:=XH hj;obtain ⟨b,r,A1,c1,rfl,s,l,m⟩:=hv.elem a he;have hO:=ok.2.2 j es he;have hI:=hin j es he;rw [← r1] at hm hI ⊢;rw [← m1] at hj;rw [LPd.col_pos he];have q:(j:Int) < n':=by omega
 have HS:Hid (∀(k:Nat) (e:En),es[k]? =some e→e.f.Sh):=Lib.hid fun k e hk=>(hO.2 k e hk).sh hK
 have HI:=Lib.hid hI;clear he hO hI r1 m1;go_enter Tryz.func44,Tryz.ntmps44;go_wp2_with fail;clear hW;refine (rdense_own _ es d _ m HS.out HI.out (by omega)).mono ?_;rintro _ w1 ⟨v1,rfl,e1,o⟩;obtain ⟨cs,ho,hf⟩:=e1;go_wp2;go_ret;exact ⟨_,rfl,⟨cs,Vi ho a.size,hf⟩,Za a o a.size⟩
theorem Yi.far4 {base:Nat} {w:World} {v:Value} {fs:List RF} {g i j k l:Nat} {x y z u:Value} (h:Yi base w v fs) (hg:g < base):
 ∀W,W=((((w.setCell ⟨g,i,none⟩ x).setCell ⟨g,j,none⟩ y).setCell ⟨g,k,none⟩ z).setCell ⟨g,l,none⟩ u)→Zd 48 w W→Yi base W v fs:=by
 rintro W rfl hk;obtain ⟨cs,h1,h2⟩:=h;refine ⟨cs,⟨h1.1,?_⟩,h2.keep (hk.keep (by decide))⟩;rcases h1.2 with hn | ⟨g',cap,cur,rfl,hb',hgg,rest⟩
 ·exact .inl hn
 ·refine .inr ⟨g',cap,cur,rfl,hb',?_,rest⟩;have a:g'≠g:=by omega
  rw [heap_setCell_other _ _ _ _ a,heap_setCell_other _ _ _ _ a,heap_setCell_other _ _ _ _ a,heap_setCell_other _ _ _ _ a];exact hgg
namespace Pl
def timesQ (p:LPd) (xs:List RF) (k r:Nat):Rat:=ZQ (fun j=>qAt xs j * p.col (j:Int) r) k
end Pl
namespace Pl
def feasB (p:LPd) (xs:List RF):Bool:=decide (lpErr p=0) && (decide (xs.length=p.cols.length) && (nnB xs && eqB (Yl p.right.length (timesQ p xs p.cols.length)) p.right))
theorem feasB_4 {p:LPd} {xs:List RF} (h1:lpErr p=0) (h2:xs.length=p.cols.length) (h3:nnB xs=true):feasB p xs=eqB (Yl p.right.length (timesQ p xs p.cols.length)) p.right:=by simp [feasB,h1,h2,h3]
end Pl
namespace Pl
theorem sumN_le {f g:Nat→Rat} {n:Nat} (h:∀i,i < n→f i≤g i):ZQ f n≤ZQ g n:=by
 induction n with
 | zero=>exact Rat.le_refl
 | succ n ih=>
  have h1:=ih fun i hi=>h i (by omega)
  have h2:=h n (by omega);rw [ZF,ZF];grind
theorem sumN_nonneg {f:Nat→Rat} {n:Nat} (h:∀i,i < n→0≤f i):0≤ZQ f n:=by
 have:=sumN_le h
 rwa [Vk] at this
def Ydt (p:LPd) (ys:List RF) (k:Nat):Prop:=∀j,j < k→Zzw ys (p.col (j:Int)) p.right.length≤qAt p.cost j
instance (p:LPd) (ys:List RF) (k:Nat):Decidable (Ydt p ys k):=by unfold Ydt;infer_instance
theorem qs_le {q:Rat}:qs q≤0↔q≤0:=by
 have:=@UW q;rw [← Rat.not_lt,← this];omega
theorem weak {p:LPd} {xs ys:List RF} (hlow:Ydt p ys p.cols.length) (hx:∀j,j < p.cols.length→0≤qAt xs j) (hr:∀i,i < p.right.length→timesQ p xs p.cols.length i=qAt p.right i):
 Yec ys p.right p.right.length≤Yec p.cost xs p.cols.length:=by
 have h1:Yec ys p.right p.right.length=ZQ (fun i=>ZQ (fun j=>qAt ys i * (qAt xs j * p.col (j:Int) i)) p.cols.length) p.right.length:=Zj fun i hi=>by
  show qAt ys i * qAt p.right i=_;rw [← hr i hi,YD];rfl
 rw [h1,WO];refine sumN_le fun j hj=>?_
 have h2:ZQ (fun i=>qAt ys i * (qAt xs j * p.col (j:Int) i)) p.right.length=qAt xs j * Zzw ys (p.col (j:Int)) p.right.length:=by
  unfold Zzw;rw [← YD];exact Zj fun i _=>by grind
 rw [h2,Rat.mul_comm (qAt p.cost j)];exact Rat.mul_le_mul_of_nonneg_left (hlow j hj) (hx j hj)
end Pl
theorem run_append_oneG (ty t e:TypeId) (i:TypeInfo) (z:Value) (size bytes:Nat) (ht:Tryz.prog.underlying t=some (.slice e)) (hi:Tryz.prog.info? e=some i) (hz:i.zero=some z)
 (hsize:i.size=size) (hby:i.bytes=bytes) (hzs:z.cells.size=size) (hsz:0 < size) (W:World) (base:Nat) (v:Value) (n:Nat) (xs news:List Value) (hown:W.ownsRow base e size v n xs)
 (hl:news.length=size) (h1:∀u∈news,u.oneCell'=true) (hn:n+1≤maxLen) (hb:(n+1) * bytes≤140737488355328) (hbase:base≤W.heap.size):
 ∃v' w',(Builtin.append_ #[t,t] ty #[v,.slice (some ⟨W.heap.size,0,none⟩) 1 1]).run Tryz.prog (W.alloc (.cells news.toArray e))= .ok v' w'∧w'.ownsRow base e size v' (n+1) (xs++news)∧Zd e W w'∧Below base W w'∧ZT v.ownBlock W w'∧(v'.ownBlock=v.ownBlock∨∀g,v'.ownBlock=some g→W.heap.size≤g):=by
 have c:Bk (W.alloc (.cells news.toArray e)) W.heap.size e news:=Bk.new W e news;obtain ⟨v',w',d,h2,h3,_,h5⟩:=run_append_own_at (P:=Tryz.prog) (W.alloc (.cells news.toArray e)) base t ty e i z size bytes ht hi hz hsize hby hzs hsz v n xs (hown.alloc _) ⟨W.heap.size,0,none⟩ 1 1 news (by omega) (fun j u hj=>by rw [addr_add,Nat.zero_add,c.cell];exact hj) h1 hn hb (by simp;omega);refine ⟨v',w',d,h2,?_,?_,⟨?_,?_⟩,?_⟩
 ·intro b cs t' fz a hc;have f:=Yo hc;refine (h3.block b (by simp;omega) ?_).trans ((Below.heap_alloc W _ b f).trans hc);intro e1;rcases hown.2 with ⟨rfl,_⟩ | ⟨g,cap,cur,rfl,_,hg,_⟩
  ·simp [Value.ownBlock] at e1
  ·simp [Value.ownBlock] at e1;subst e1;rw [hg] at hc;injection hc with hc;injection hc with _ h2 _;exact a h2.symm
 ·refine ((Below.refl _ _).alloc hbase _).grown h3 (by simp;omega) (fun k hk=>?_);exact (hown.lt k hk).1
 ·have:=h3.size;simp at this;omega
 ·intro b hb a;exact (h3.block b (by simp;omega) a).trans (Below.heap_alloc W _ b hb)
 ·rcases h5 with h5 | h5
  ·exact .inl h5
  ·right;intro g hg;rw [h5] at hg;injection hg with hg;simp at hg;omega
 where
  addr_add (g j:Nat):(⟨g,0,none⟩:Addr).add j=⟨g,0+j,none⟩:=by
   unfold Addr.add;split
   ·rename_i h;subst h;rfl
   ·rfl
theorem wpList_append_fracG {ops:Array Oper} {rest:List Oper} {o:Oper} {a:Act} {Q:Exit→Act→World→Prop} (hgd:o.guard=none) (s x:Operand)
 (ho:o.op= .call { callee:= .builtin .append,args:=#[s,x],argTypes:=#[23,23] })
 (W:World) (base:Nat) (v:Value) (fs:List RF) (hs:a.eval s=v) (hown:Yi base W v fs) (b b':Bool) (A A':Option Addr) (n c n' c':Nat) (f:RF) (hf:Zv W (.agg #[.bool b,.slice A n c,.bool b',.slice A' n' c']) f)
 (hx:a.eval x= .slice (some ⟨W.heap.size,0,none⟩) 1 1) (hn:fs.length+1≤1099511627776) (hbase:base≤W.heap.size)
 (h:∀v' w',Yi base w' v' (fs++[f])→Zd 48 W w'→Below base W w'→ZT v.ownBlock W w'→(v'.ownBlock=v.ownBlock∨∀g,v'.ownBlock=some g→W.heap.size≤g)→wpList Tryz.prog ops Q rest (a.put o.dst v') w'):
 wpList Tryz.prog ops Q (o::rest) a (W.alloc (.cells #[.bool b,.slice A n c,.bool b',.slice A' n' c'] 48)):=by
 obtain ⟨cs,h1,h2⟩:=hown;obtain ⟨i0,hi,d,e,i⟩:=info_parts info_frac;refine wpList_plain hgd fun K hK=>?_
 obtain ⟨v',w',hr,g1,g2,g3,g4,g5⟩:=run_append_oneG o.type 23 48 i0 _ 4 64 Tryz.underlying23 hi d e i rfl (by decide) W base v fs.length cs [.bool b,.slice A n c,.bool b',.slice A' n' c'] h1 rfl Ziw (by unfold maxLen;omega) (by omega) hbase;unfold Oper.wp execOp;simp only [ho,resolve,invoke,builtin,Sem.run_bind,Sem.run_pure,Result.andThen_ok,List.map_toArray,List.map_cons,List.map_nil,hs,hx];rw [show (Obj.cells #[.bool b,.slice A n c,.bool b',.slice A' n' c'] 48)=(Obj.cells [.bool b,.slice A n c,.bool b',.slice A' n' c'].toArray 48) from rfl];simp only [hr,Result.andThen_ok];have hk:=g2.keep (by decide);exact hK _ _ (h v' w' ⟨_,by simpa using g1,(h2.keep hk).snoc (hf.keep hk)⟩ g2 g3 g4 g5)
namespace Pl
def colC (cols:List (List En)) (j:Nat):Nat→Rat:=match cols[j]? with | some c=>Xt c | none=>fun _=>0
theorem col_colC (p:LPd) (j:Nat):p.col (j:Int)=colC p.cols j:=by
 unfold LPd.col colC;rw [if_pos (by omega),Int.toNat_natCast]
 cases p.cols[j]? <;> rfl
def timesC (cols:List (List En)) (xs:List RF) (k i:Nat):Rat:=ZQ (fun j=>qAt xs j * colC cols j i) k
theorem timesQ_C (p:LPd) (xs:List RF) (k i:Nat):timesQ p xs k i=timesC p.cols xs k i:=Zj fun j _=>by rw [col_colC]
theorem qAt_left {xs:List RF} {f:RF} {j:Nat} (h:j < xs.length):qAt (xs++[f]) j=qAt xs j:=by unfold qAt;rw [List.getElem?_append_left h]
theorem qAt_end {xs:List RF} {f:RF}:qAt (xs++[f]) xs.length=f.q:=by unfold qAt;rw [List.getElem?_append_right (Nat.le_refl _),Nat.sub_self];rfl
theorem timesC_snoc (cols:List (List En)) {xs:List RF} (f:RF) {k:Nat} (hk:xs.length=k) (i:Nat):timesC cols (xs++[f]) (k+1) i=timesC cols xs k i+f.q * colC cols k i:=by
 subst hk;unfold timesC;rw [ZF,qAt_end,Zj fun j hj=>by rw [qAt_left hj]]
def NN (xs:List RF):Prop:=∀(j:Nat) (f:RF),xs[j]? =some f→0≤f.q
theorem NN.nil:NN []:=fun j f h=>by simp at h
theorem NN.snoc {xs:List RF} (h:NN xs) {f:RF} (hf:0≤f.q):NN (xs++[f]):=fun i g hg=>by
 rcases Nat.lt_or_ge i xs.length with hi | hi
 ·rw [List.getElem?_append_left hi] at hg;exact h i g hg
 ·rw [List.getElem?_append_right hi] at hg
  have:i - xs.length=0:=by
   rcases Nat.eq_zero_or_pos (i - xs.length) with e | e
   ·exact e
   ·rw [List.getElem?_eq_none (by simp;omega)] at hg;cases hg
  rw [this] at hg;simp at hg;subst hg;exact hf
def mixR (T:Nat→Rat) (q:Rat) (C:Nat→Rat) (r i:Nat):Rat:=if i < r then T i+q * C i else T i
theorem mixR_zero (T:Nat→Rat) (q:Rat) (C:Nat→Rat):mixR T q C 0=T:=by funext i;simp [mixR]
theorem mixR_at (T:Nat→Rat) (q:Rat) (C:Nat→Rat) (r:Nat):mixR T q C r r+q * C r=mixR T q C (r+1) r:=by simp [mixR]
theorem mixR_next (T:Nat→Rat) (q:Rat) (C:Nat→Rat) (r:Nat):(fun i=>if i=r then mixR T q C (r+1) r else mixR T q C r i)=mixR T q C (r+1):=by
 funext i
 by_cases h:i=r
 ·subst h;rw [if_pos rfl]
 ·rw [if_neg h];unfold mixR;by_cases h2:i < r
  ·rw [if_pos h2,if_pos (by omega)]
  ·rw [if_neg h2,if_neg (by omega)]
theorem Sz_colC {m:Nat} {cols:List (List En)} (h:∀(j:Nat) (c:List En),cols[j]? =some c→WQ m c) (j i:Nat):Sz 1 (colC cols j i):=by
 unfold colC
 cases hc:cols[j]? with
 | some c=>exact Sz_col (fun k e he=>((h j c hc).2.2 k e he).2.2.2) (Nat.le_refl _) i
 | none=>exact Sz_zero
theorem Sz_timesC {m:Nat} {cols:List (List En)} (h:∀(j:Nat) (c:List En),cols[j]? =some c→WQ m c) {xs:List RF} (hx:RsL 2 xs) {k:Nat} (hk:k≤5) (i:Nat):Sz 21 (timesC cols xs k i):=
 (Zix (K:=3) fun j _=>(We (hx.qAt (by decide) j) (Sz_colC h j i)).mono (by omega)).mono (by omega)
theorem Sz_mixR {T C:Nat→Rat} {q:Rat} {r i:Nat} (h1:Sz 21 (T i)) (h2:Sz 2 q) (h3:Sz 1 (C i)):Sz 32 (mixR T q C r i):=by
 unfold mixR;split
 ·exact (Zxy h1 (We h2 h3)).mono (by omega)
 ·exact h1.mono (by omega)
end Pl
theorem Bk.far4' {w:World} {g g':Nat} {t:TypeId} {cs:List Value} (h:Bk w g t cs) (hne:g≠g') (i j k l:Nat) (x y z u:Value):Bk ((((w.setCell ⟨g',i,none⟩ x).setCell ⟨g',j,none⟩ y).setCell ⟨g',k,none⟩ z).setCell ⟨g',l,none⟩ u) g t cs:=
 (((h.far (p:=⟨g',i,none⟩) hne x).far (p:=⟨g',j,none⟩) hne y).far (p:=⟨g',k,none⟩) hne z).far (p:=⟨g',l,none⟩) hne u
def FeasPost2 (w:World) (e:Ending) (w':World):Prop:=
 ∃v1 v2 p xs b2,e= .returned (.tuple #[v1,v2])∧LpO w.heap.size w' v1 p∧Yi b2 w' v2 xs∧w.heap.size≤b2∧(∀s0 s1 s2 g,v1= .agg #[s0,s1,s2]→s0.ownBlock=some g→g < b2)∧Zya p∧RsL 32 p.right∧RsL 2 xs∧xs.length=p.cols.length∧NN xs∧(∀i,i < p.right.length→qAt p.right i=timesQ p xs p.cols.length i)∧Below w.heap.size w w'
theorem feasibleData_own2 (v:Value) (zs:List Int) (w:World) (h:Xu w v zs):
 Calls Tryz.prog 33 #[v] w (FeasPost2 w):=by
 obtain ⟨a,cap,rfl,bi,ed⟩:=h.shape;generalize hn:zs.length=n at *;clear hn;obtain ⟨W,hW,hR,O⟩:=UV w (.slice none 0 0) (.slice none 0 0) (.slice none 0 0);have bw:=O.size;go_enter Tryz.func33,Tryz.ntmps33;go_wp2_with fail;clear hW;refine (Yed _ zs _ (h.below O)).mono ?_;rintro _ w1 ⟨v1,p,rfl,hp,af,dy,br⟩;obtain ⟨s0,s1,s2,b1,rfl,bn,an,bo,am,b3⟩:=hp;have ah:=Lib.hid af;have dd:=hR.later br;have I:=Za O br O.size;have bz:=h.below I;obtain ⟨A0,n0,c0,rfl⟩:=bn.sliceN;obtain ⟨A1,n1,c1,rfl⟩:∃A n c,s1= .slice A n c:=by obtain ⟨A,c,e,_⟩:=an.shape;exact ⟨A,_,c,e⟩
 obtain ⟨A2,m,c2,rfl⟩:=bo.sliceN;obtain ⟨N1,N2,N3⟩:=an.len;obtain ⟨M1,M2,M3⟩:=bo.frs.len;have m1:1≤m:=by rw [M1];exact af.1
 have m2:m≤3:=by rw [M1];exact af.2.1
 have nN:n1≤5:=by rw [N1];exact af.2.2.1
 have b8:=Lib.hid N1;have c3:=Lib.hid M1;have ai:=Lib.hid bn;have c4:=Lib.hid an;have eb:=Lib.hid b3;clear af dy bo am br hR O N1 M1 bn an b3 h;obtain ⟨W2,cy,hX,S⟩:=UV w1 (.slice A0 n0 c0) (.slice A1 n1 c1) (.slice A2 m c2);have aq:W2.heap.size=w1.heap.size+1:=by rw [← cy];simp
 obtain ⟨x0,x1,x2⟩:=hX.three;go_wp2_with fail;clear cy x0 x1 x2;refine (zeros_own m _ (by omega)).mono ?_;rintro _ w3 ⟨z2,rfl,hZ,a5⟩;rw [aq] at hZ;obtain ⟨gz,cz,rfl,e7,b4,b5,e8⟩:=hZ.shape (by simp;omega);simp only [List.length_replicate] at hZ b5 ⊢;rw [canL_zero] at hZ;have a6:=hX.later a5;have a7:=Za S a5 S.size;obtain ⟨x0,x1,x2⟩:=a6.three;obtain ⟨f0,f1,f2⟩:=a6.threeF;clear hX S a5 aq;go_wp2;clear x0 x1 x2 f0 f1 f2;have b9:=a6.set_ 2 (.slice (some ⟨gz,0,none⟩) m cz);have c5:=hZ.but (Zd.setCell a6 2 (.slice (some ⟨gz,0,none⟩) m cz)) (by decide) (by decide);have ar:=a7.setCell (p:=⟨w1.heap.size,2,none⟩) (Nat.le_refl _) (.slice (some ⟨gz,0,none⟩) m cz);have de:gz < (w3.setCell ⟨w1.heap.size,2,none⟩ (.slice (some ⟨gz,0,none⟩) m cz)).heap.size:=by simp;exact b4
 have c6:w1.heap.size≤(w3.setCell ⟨w1.heap.size,2,none⟩ (.slice (some ⟨gz,0,none⟩) m cz)).heap.size:=by have:=a7.size;simp;exact this
 generalize w3.setCell ⟨w1.heap.size,2,none⟩ (.slice (some ⟨gz,0,none⟩) m cz)=w4 at *;simp only [List.set_cons_zero,List.set_cons_succ] at b9;clear a6 hZ a7 b4;generalize d9:w4.heap.size=bx at *;have c7:bx≤w4.heap.size:=by omega
 clear d9
 go_loopw [5,6] (fun s i wr=>∃(k:Nat) (xs:List RF),k≤n1∧i= .int .i64 k∧Below w1.heap.size w1 wr∧Bk wr w1.heap.size 26 [.slice A0 n0 c0,.slice A1 n1 c1,.slice (some ⟨gz,0,none⟩) m cz]∧Yi (w1.heap.size+1) wr (.slice (some ⟨gz,0,none⟩) m cz) (Yl m (timesC p.cols xs k))∧Yi bx wr s xs∧xs.length=k∧RsL 2 xs∧NN xs∧bx≤wr.heap.size) (fun _ i _=>n1 - (intOf i).toNat)
 case atStart=>exact ⟨0,[],by omega,rfl,ar,b9,c5,Yi.nil _ _,rfl,RsL.nil _,NN.nil,c7⟩
 case round=>
  clear ar b9 c5 c7 w4;obtain ⟨k,xs,hk,rfl,t,hX,hZ,hO,hl,d0,d1,d2⟩:=hrel;have HL:=Lib.hid hl;have aj:=Lib.hid d0;have c8:=Lib.hid d1;have c9:xs.length+1≤1099511627776:=by omega
  clear hl d0 d1;obtain ⟨x0,x1,x2⟩:=hX.three;rcases Nat.lt_or_ge k n1 with hkl | hkl
  ·go_wp2_with fail;clear x0 x1 x2;refine (Zyb _ zs (40+(k:Int)) _ (bz.below t) (by omega) (by omega)).mono ?_;rintro _ w2 ⟨z,rfl,z0,z1,bs⟩;go_wp2_with fail;refine (Zwh z _).mono ?_;rintro _ w3 ⟨v3,q,rfl,e3,sq,a5⟩;have V:=Za bs a5 bs.size;obtain ⟨Bg,lg,dg,u,x,y,rfl,_,_⟩:=id e3.frac;obtain ⟨Wv,du,T,S⟩:=YZ w3 (.bool (canF q).num.neg) (.slice Bg lg dg) (.bool (canF q).den.neg) (.slice u x y);have ba:=Za V S V.size;have ca:=V.size;have bb:=e3.frac.below S;obtain ⟨y0,y1,y2,y3⟩:=T.four;have SQ:=Lib.hid sq;clear bs a5 e3 S sq V;go_wp2_with fail;clear du y0 y1 y2 y3;refine (rsignF_any _ (canF q) _ bb (SQ.out.sh (by decide))).mono ?_;rw [Zt];rintro _ w4 ⟨rfl,ao⟩;have B:=Za ba ao ba.size;have J:=T.later ao;have C:=bb.below ao;clear ba T bb ao;generalize da:w3.heap.size=gv at *;clear da;obtain ⟨f5,ae⟩:∃f5,canF q=f5:=⟨_,rfl⟩;have bd:=Lib.hid ae;have ak:Hid (0≤qs q→0≤f5.q):=Lib.hid (fun g=>by
    rw [← ae,Zt];have:=@Zda q;rcases Rat.le_total (a:=0) (b:=q) with e | e
    ·exact e
    ·rw [← Rat.not_lt];exact fun g2=>by have:=Zda.2 g2;omega)
   have al:Hid (f5.Rs 2):=Lib.hid (by rw [← ae];exact SQ.out.rs);rw [ae] at J C ⊢;clear ae;rcases Int.lt_or_le (qs q) 0 with hq | hq
   case' inr=>
    go_wp2_with fail;refine (Zyb _ zs (40+(k:Int)) _ ((bz.below t).below B) (by omega) (by omega)).mono ?_;rintro _ W6 ⟨z',rfl,dz,e0,Y⟩;have D:=Za B Y B.size;have G:=J.later Y;have C:=C.below Y;clear B J Y;by_cases hz:z' % 3=0
    case' pos=>
     have cb:(z' % 3==0)=true:=(by simpa using hz);clear hz;go_wp2_with fail;refine (XT 0 _ (by omega) (by omega)).mono ?_;rw [show ((0:Int):Rat)=0 from rfl];rintro _ w5 ⟨v5,rfl,e5,U⟩;have L:=Za D U D.size;have d:=G.later U;have R:=Lib.hid e5.frac;have be:Hid (0≤(canF 0).q):=Lib.hid (by rw [Zt];exact Rat.le_refl);have Z:Hid ((canF 0).Rs 2):=Lib.hid (Sz_zero.mono (by decide)).rs;generalize canF 0=f5 at *;obtain ⟨Bg,lg,dg,u,x,y,rfl,_,_⟩:=id R.out;obtain ⟨y0,y1,y2,y3⟩:=d.four;obtain ⟨g0,g1,g2,g3⟩:=d.fourF;clear e5 U D G C ak al bd
     go_upto_region 10 with (fail)
     have a3:=d.set4 (.bool f5.num.neg) (.slice Bg lg dg) (.bool f5.den.neg) (.slice u x y);have a8:=Lib.hid (R.out.keep (d.keep4 (by decide) (.bool f5.num.neg) (.slice Bg lg dg) (.bool f5.den.neg) (.slice u x y)));have M:=ZB L ca (.bool f5.num.neg) (.slice Bg lg dg) (.bool f5.den.neg) (.slice u x y);clear y0 y1 y2 y3 g0 g1 g2 g3 d R L;generalize (((w5.setCell ⟨gv,0,none⟩ (.bool f5.num.neg)).setCell ⟨gv,1,none⟩ (.slice Bg lg dg)).setCell ⟨gv,2,none⟩ (.bool f5.den.neg)).setCell ⟨gv,3,none⟩ (.slice u x y)=W6 at *
    case' neg=>
     have cb:(z' % 3==0)=false:=(by simpa using hz);have be:=Lib.hid (ak.out hq);clear hz
     go_upto_region 10 with (fail)
     have a3:=G;have a8:=Lib.hid C;have M:=D;have Z:=al;clear G C D al bd ak cb dz e0 hq
   case' inl=>
    go_wp2_with fail;refine (XT 0 _ (by omega) (by omega)).mono ?_;rw [show ((0:Int):Rat)=0 from rfl];rintro _ w5 ⟨v5,rfl,e5,U⟩;have L:=Za B U B.size;have d:=J.later U;have R:=Lib.hid e5.frac;have be:Hid (0≤(canF 0).q):=Lib.hid (by rw [Zt];exact Rat.le_refl);have Z:Hid ((canF 0).Rs 2):=Lib.hid (Sz_zero.mono (by decide)).rs;generalize canF 0=f5 at *;obtain ⟨Bg,lg,dg,u,x,y,rfl,_,_⟩:=id R.out;obtain ⟨y0,y1,y2,y3⟩:=d.four;obtain ⟨g0,g1,g2,g3⟩:=d.fourF;clear e5 U B J C ak al bd
    go_upto_region 10 with (fail)
    have a3:=d.set4 (.bool f5.num.neg) (.slice Bg lg dg) (.bool f5.den.neg) (.slice u x y);have a8:=Lib.hid (R.out.keep (d.keep4 (by decide) (.bool f5.num.neg) (.slice Bg lg dg) (.bool f5.den.neg) (.slice u x y)));have M:=ZB L ca (.bool f5.num.neg) (.slice Bg lg dg) (.bool f5.den.neg) (.slice u x y);clear y0 y1 y2 y3 g0 g1 g2 g3 d R L;generalize (((w5.setCell ⟨gv,0,none⟩ (.bool f5.num.neg)).setCell ⟨gv,1,none⟩ (.slice Bg lg dg)).setCell ⟨gv,2,none⟩ (.bool f5.den.neg)).setCell ⟨gv,3,none⟩ (.slice u x y)=W6 at *
   all_goals
    have df:gv < W6.heap.size:=a3.lt;have au:=Za t M t.size;have HO:=Lib.hid (hO.below M);have cd:bx≤W6.heap.size:=(by have:=M.size;omega);have ce:=hX.later M;have cf:=hZ.below M;have av:=hO.own_lt;have a9:=hO.own_ge;have aw:Hid (some gv≠u5.ownBlock):=Lib.hid fun e=>by have:=av gv e.symm;omega
    have ax:Hid (some gz≠u5.ownBlock):=Lib.hid fun e=>by have:=a9 gz e.symm;omega
    obtain ⟨y0,y1,y2,y3⟩:=a3.four;clear hX hZ hO t av a9 M;go_wp2_with (at_builtin;refine wpList_append_fracG rfl (.tmp 41) (.tmp 43) rfl W6 bx u5 xs rfl HO.out _ _ Bg u lg dg x y f5 a8.out rfl c9 cd ?_);intro v' w7 bu ap d8 H bv;have N:=au.trans (d8.mono c6);have bf:=ap.bk ce (by decide);have cg:=H.bk a3 aw.out;have ch:=a8.out.keep (ap.keep (by decide));have bg:=cf.others H (ap.keep (by decide)) (fun b hb=>by simp [Value.ownBlock] at hb;subst hb;exact ax.out);have e6:bx≤w7.heap.size:=(by have:=H.1;omega);clear au HO ce cf aw ax y0 y1 y2 y3 a3 a8 ap d8 H bv df cd;obtain ⟨Av,nv,cv,rfl⟩:=bu.sliceN;obtain ⟨x0,x1,x2⟩:=bf.three;generalize e4:Value.slice Av nv cv=v' at *;clear e4;have aa:Zya ⟨p.cost,p.cols,Yl m (timesC p.cols xs k)⟩:=by
     have o:=ah.out;refine ⟨?_,?_,o.2.2.1,o.2.2.2.1,o.2.2.2.2.1,fun j c hc=>?_⟩
     ·simp only [Zn];exact m1
     ·simp only [Zn];exact m2
     ·have:=o.2.2.2.2.2 j c hc;simp only [Zn];rw [c3.out];exact this
    have F:=ah.out.2.2.2.2.2;have bh:∀i,Sz 21 (timesC p.cols xs k i):=fun i=>Sz_timesC F aj.out (by omega) i
    have ci:RsL 32 (Yl m (timesC p.cols xs k)):=Zgn fun i _=>(bh i).mono (by decide)
    have ay:=Lib.hid (aa.ok (K:=32) (by decide) ci);have cj:Hid (LPd.In ⟨p.cost,p.cols,Yl m (timesC p.cols xs k)⟩):=Lib.hid (WN aa.err).2.2.2.1;have ck:LpM w7 (.agg #[.slice A0 n0 c0,.slice A1 n1 c1,(.slice (some ⟨gz,0,none⟩) m cz)]) ⟨p.cost,p.cols,Yl m (timesC p.cols xs k)⟩:=⟨_,_,_,_,_,_,_,_,_,rfl,(ai.out.below N).frs,c4.out.below N,bg.frs⟩;have bi:∀i,Sz 1 (colC p.cols k i):=fun i=>Sz_colC F k i
    have bj:=Lib.hid bi;have dh:=Lib.hid bh;clear aa F bh ci bi;go_wp2_with fail;clear x0 x1 x2;refine (rcolumn_pos _ ⟨p.cost,p.cols,Yl m (timesC p.cols xs k)⟩ 32 k _ ck ay.out (by decide) cj.out (by rw [← b8.out];exact hkl) (by simp only [Zn];omega)).mono ?_;rw [show Yl (LPd.mk p.cost p.cols (Yl m (timesC p.cols xs k))).right.length ((LPd.mk p.cost p.cols (Yl m (timesC p.cols xs k))).col (k:Int))=Yl m (colC p.cols k) from by rw [col_colC];simp only [Zn]];rintro _ w8 ⟨vc,rfl,hC,P⟩;obtain ⟨Ac,cc,rfl,d3,ea⟩:=hC.frs.shape;simp only [Zn] at hC d3 ⊢;have az:=Za N P N.size;have cl:=bf.later P;have cm:=cg.later P;have cn:=ch.below P;have bl:=bg.below P;have co:=bu.below P;have b0:bx≤w8.heap.size:=(by have:=P.size;omega);have di:gz < w7.heap.size:=(by omega);clear N bf cg ch bg bu ck ay cj P;rw [← mixR_zero (timesC p.cols xs k) f5.q (colC p.cols k)] at bl;generalize db:timesC p.cols xs k=TT at *;generalize dc:colC p.cols k=CC at *;have dj:=Lib.hid db;have dk:=Lib.hid dc;clear db dc;go_wp2
    go_loopw [9] (fun i wx=>∃r:Nat,r≤m∧i= .int .i64 r∧Below w1.heap.size w1 wx∧Bk wx w1.heap.size 26 [.slice A0 n0 c0,.slice A1 n1 c1,.slice (some ⟨gz,0,none⟩) m cz]∧Bk wx gv 48 [.bool f5.num.neg,.slice Bg lg dg,.bool f5.den.neg,.slice u x y]∧Zv wx (.agg #[.bool f5.num.neg,.slice Bg lg dg,.bool f5.den.neg,.slice u x y]) f5∧Yi (w1.heap.size+1) wx (.slice (some ⟨gz,0,none⟩) m cz) (Yl m (mixR TT f5.q CC r))∧Yi bx wx v' (xs++[f5])∧Yi w7.heap.size wx (.slice Ac m cc) (Yl m CC)∧bx≤wx.heap.size) (fun i _=>m - (intOf i).toNat)
    case atStart=>exact ⟨0,by omega,rfl,az,cl,cm,cn,bl,co,hC,b0⟩
    case round=>
     clear az cl cm cn bl co hC b0;obtain ⟨r,hr,rfl,t,hX,T,bp,hZ,hO,hC,d2⟩:=hrel;rcases Nat.lt_or_ge r m with hrm | hrm
     ·obtain ⟨x0,x1,x2⟩:=hX.three;obtain ⟨y0,y1,y2,y3⟩:=T.four;obtain ⟨_,_,A3,n3,k3,A4,n4,k4,bq,_,⟨t0,t1,t2,t3⟩,dv⟩:=hZ.frs.elem (Below.refl _ _) (ZC hrm);injection bq with bq;injection bq with e1 e2;subst e1 e2;obtain ⟨bc,oc,A5,n5,k5,A6,n6,k6,rfl,_,⟨q0,q1,q2,q3⟩,dw⟩:=hC.frs.elem (Below.refl _ _) (ZC hrm);simp only [Nat.zero_add] at t0 t1 t2 t3;have dl:f5.Sh:=Z.out.sh (by decide);have dm:(canF (CC r)).Sh:=(bj.out r).sh (by decide);have dn:(canF (mixR TT f5.q CC r r)).Sh:=(Sz_mixR (dh.out r) (Z.out.sz (by decide)) (bj.out r)).sh (by decide);have dp:(canF (f5.q * CC r)).Sh:=(We (Z.out.sz (by decide)) (bj.out r)).sh (by decide);have dq:=Lib.hid (mixR_at TT f5.q CC r);have ec:(r:Int) < m:=(by omega);go_wp2_with fail;have C1:=Zm x2;have C2:=Zm y0;have C3:=Zm y1;have C4:=Zm y2;have C5:=Zm y3;have C6:=Zm t0;have C7:=Zm t1;have C8:=Zm t2;have C9:=Zm t3;have D6:=Zm q0;have D7:=Zm q1;have D8:=Zm q2;have D9:=Zm q3;have ab:=Ze wr;clear x0 x1 x2 y0 y1 y2 y3 t0 t1 t2 t3 q0 q1 q2 q3;refine Zo 16 [0,1,2,3,4,5,6,7,8,9,10,11,12,13,14,15,16] (by kernel_rfl) (by kernel_rfl) ?_;repeat ((first | (refine Zc (v:=?_) rfl rfl rfl ?_ ?_;rotate_left;(· (intro _ ag;go_simp;(try go_bits);(try with_reducible rfl)))) | (refine Zg (v:=?_) rfl rfl rfl ?_ ?_;rotate_left;(· (intro _ ag;go_simp;(try go_bits);(try with_reducible rfl)))) | refine Zh rfl rfl rfl ?_);(try simp only [Act.put,pu1,pu2,pu3,pu4,pu5,pu6]))
      refine Zf rfl rfl (fun KR hKR=>?_);go_simp;(with_reducible refine (rmulF_own _ _ f5 (canF (CC r)) _ (bp.below ab) (dw.below ab) dl dm).mono ?_);rw [Zt];rintro _ w9 ⟨v9,rfl,e9,d7⟩;have ac:=Za ab d7 ab.size;refine hKR.out _ _ (Or.inr ac) ?_;clear hKR KR;(try simp only [Act.put,pu1,pu2,pu3,pu4,pu5,pu6]);repeat ((first | (refine Zc (v:=?_) rfl rfl rfl ?_ ?_;rotate_left;(· (intro _ ag;go_simp;(try go_bits);(try with_reducible rfl)))) | (refine Zg (v:=?_) rfl rfl rfl ?_ ?_;rotate_left;(· (intro _ ag;go_simp;(try go_bits);(try with_reducible rfl)))) | refine Zh rfl rfl rfl ?_);(try simp only [Act.put,pu1,pu2,pu3,pu4,pu5,pu6]))
      refine Zf rfl rfl (fun KR hKR=>?_);go_simp;(with_reducible refine (raddF_own _ _ _ _ _ (dv.below ac) e9.frac dn dp).mono ?_);rw [Zt,Zt,dq.out];rintro _ eg ⟨eh,rfl,bt,b7⟩;have f:=Za ac b7 ac.size;obtain ⟨E,l9,k9,E',ee,ef,rfl,_,_⟩:=id bt.frac;have ad:=hZ.below f;obtain ⟨_,_,_,_,⟨d4,d5,d6,dx⟩,⟨f0,f1,f2,f3⟩,_⟩:=ad.at_ (ZC hrm);refine hKR.out _ _ (Or.inr f) ?_;clear hKR KR;(try simp only [Act.put,pu1,pu2,pu3,pu4,pu5,pu6]);repeat ((first | (refine Zc (v:=?_) rfl rfl rfl ?_ ?_;rotate_left;(· (intro _ ag;go_simp;(try go_bits);(try with_reducible rfl)))) | (refine Zg (v:=?_) rfl rfl rfl ?_ ?_;rotate_left;(· (intro _ ag;go_simp;(try go_bits);(try with_reducible rfl)))) | refine Zh rfl rfl rfl ?_);(try simp only [Act.put,pu1,pu2,pu3,pu4,pu5,pu6]))
      refine Zf rfl rfl (fun KR hKR=>?_);go_simp;refine hKR.out _ _ (Or.inl (by decide)) ?_;clear hKR KR;(try simp only [Act.put,pu1,pu2,pu3,pu4,pu5,pu6]);refine Zy ?_;obtain ⟨b6,X⟩:=ad.set_ (by rw [Zn];exact hrm) bt.frac;rw [Vh hrm,mixR_next] at b6;have cp:=X.bk (hX.later f) (by decide);have b2:=(T.later f);have am:=Za t f t.size;have bm:=ZA am (show w1.heap.size≤gz by omega) (r * 4) (r * 4+1) (r * 4+2) (r * 4+3);have cq:=(hO.below f).far4 (i:=r * 4) (j:=r * 4+1) (k:=r * 4+2) (l:=r * 4+3) de _ rfl X;have cr:=(hC.below f).far4 (i:=r * 4) (j:=r * 4+1) (k:=r * 4+2) (l:=r * 4+3) di _ rfl X;have cs:=b2.far4' (show gv≠gz by omega) (r * 4) (r * 4+1) (r * 4+2) (r * 4+3);have ct:=(bp.below f).keep (X.keep (by decide));have dr:=f.size;clear C1 C2 C3 C4 C5 C6 C7 C8 C9 D6 D7 D8 D9 hX T bp hZ hO hC t ad ab ac f d7 b7 e9 bt b2 am d4 d5 d6 dx f0 f1 f2 f3;go_wp2;go_roundw
      case rel=>exact ⟨r+1,by omega,by go_num,bm _ _ _ _,cp,cs _ _ _ _,ct,b6,cq,cr,by simp;omega⟩
      case measure=>simp [intOf];omega
     ·obtain rfl:r=m:=by omega
      have ds:Hid (∀i,i < r→mixR TT f5.q CC r i=timesC p.cols (xs++[f5]) (k+1) i):=Lib.hid fun i hi=>by
       rw [timesC_snoc p.cols f5 HL.out,dj.out,dk.out];unfold mixR;rw [if_pos hi]
      have cu:=hZ;rw [Z4 ds.out] at cu;clear hZ;go_wp2;go_roundw
      case rel=>exact ⟨k+1,xs++[f5],by omega,by go_num,t,hX,cu,hO,by rw [List.length_append,HL.out];rfl,aj.out.snoc Z.out,c8.out.snoc be.out,d2⟩
      case measure=>simp [intOf];omega
  ·obtain rfl:k=n1:=by omega
   have a4:=dd.later t;have cw:=Za I t I.size;obtain ⟨Ax,nx,cx,rfl⟩:=hO.sliceN;obtain ⟨d4,d5,d6⟩:=a4.three;obtain ⟨f0,f1,f2⟩:=a4.threeF;clear b5;go_wp2;have dt:=((a4.set_ 0 (.slice A0 n0 c0)).set_ 1 (.slice A1 k c1)).set_ 2 (.slice (some ⟨gz,0,none⟩) m cz);refine YR Tryz.results33 Tryz.underlying26 (by kernel_rfl) rfl dt rfl ?_;have k1:=Zd.setCell a4 0 (.slice A0 n0 c0);have k2:=Zd.setCell (a4.set_ 0 (.slice A0 n0 c0)) 1 (.slice A1 k c1);have k3:=Zd.setCell ((a4.set_ 0 (.slice A0 n0 c0)).set_ 1 (.slice A1 k c1)) 2 (.slice (some ⟨gz,0,none⟩) m cz);have k4:=(k1.trans k2).trans k3;have F:=ah.out.2.2.2.2.2;refine ⟨_,_,⟨p.cost,p.cols,Yl m (timesC p.cols xs k)⟩,xs,bx,rfl,⟨_,_,_,w1.heap.size+1,rfl,?_,(c4.out.below t).but k4 (by decide) (by decide) (by decide),hZ.but k4 (by decide) (by decide),?_,?_⟩,?_,?_,?_,?_,?_,aj.out,?_,c8.out,?_,?_⟩
   ·exact ((ai.out.below t).but k4 (by decide) (by decide)).monoB bw
   ·have:=I.size;omega
   ·intro g hg;have:=ai.out.own_lt g hg;omega
   ·exact hO.but k4 (by decide) (by decide)
   ·have:=I.size;omega
   ·intro a0 a1 a2 g he hg;injection he with he;simp at he;obtain ⟨rfl,_,_⟩:=he;have:=ai.out.own_lt g hg;omega
   ·have o:=ah.out;refine ⟨?_,?_,o.2.2.1,o.2.2.2.1,o.2.2.2.2.1,fun j c hc=>?_⟩
    ·simp only [Zn];exact m1
    ·simp only [Zn];exact m2
    ·have:=o.2.2.2.2.2 j c hc;simp only [Zn];rw [c3.out];exact this
   ·exact Zgn fun i _=>(Sz_timesC F aj.out (by omega) i).mono (by decide)
   ·rw [HL.out,b8.out]
   ·intro i hi;simp only [Zn] at hi;simp only;rw [YL hi,timesQ_C,← b8.out]
   ·exact ((cw.setCell (p:=⟨w.heap.size,0,none⟩) (Nat.le_refl _) _).setCell (p:=⟨w.heap.size,1,none⟩) (Nat.le_refl _) _).setCell (p:=⟨w.heap.size,2,none⟩) (Nat.le_refl _) _
def MatG (base:Nat) (w:World) (v:Value) (m n:Nat) (M:Mx) (G C:Nat→Nat):Prop:=
 w.ownsRow base 23 1 v m (Zpf m n G C)∧(∀r,r < m→Yi base w (U3 n G C r) (Yl n (M r)))∧∀r s,r < m→s < m→G r=G s→r=s
theorem MatG.below {base:Nat} {w w':World} {v:Value} {m n:Nat} {M:Mx} {G C:Nat→Nat} (h:MatG base w v m n M G C) (hb:Below w.heap.size w w'):MatG base w' v m n M G C:=
 ⟨own_below h.1 hb,fun r hr=>(h.2.1 r hr).below hb,h.2.2⟩
theorem MatG.nil (base:Nat) (w:World) (n:Nat) (M:Mx) (G C:Nat→Nat):MatG base w (.slice none 0 0) 0 n M G C:=
 ⟨World.ownsRow_nil _ _ _ _,fun r hr=>absurd hr (by omega),fun r s hr=>absurd hr (by omega)⟩
theorem MatG.lt {base:Nat} {w:World} {v:Value} {m n:Nat} {M:Mx} {G C:Nat→Nat} (h:MatG base w v m n M G C) {r:Nat} (hr:r < m) (hn:0 < n):base≤G r∧G r < w.heap.size∧n≤C r∧C r≤9223372036854775807:=by
 obtain ⟨g,c,hv,h1,h2,h3,h4⟩:=(h.2.1 r hr).shape (by rw [Zn];exact hn);rw [Zn] at hv h3;unfold U3 at hv;injection hv with e1 e2 e3;injection e1 with e1;injection e1 with e1;subst e1 e3;exact ⟨h1,h2,h3,h4⟩
theorem MatG.outer {base:Nat} {w:World} {v:Value} {m n:Nat} {M:Mx} {G C:Nat→Nat} (h:MatG base w v m n M G C) (hm:0 < m):
 ∃g c,v= .slice (some ⟨g,0,none⟩) m c∧base≤g∧g < w.heap.size∧m≤c∧c≤9223372036854775807∧∀r,r < m→w.cell? ⟨g,r,none⟩=some (U3 n G C r)∧w.frozen? ⟨g,r,none⟩=false:=by
 have h0:=h.1;rcases h.1.2 with ⟨rfl,e⟩ | ⟨g,cap,cur,rfl,hb,hg,hnc,hcm,hcs,htake⟩
 ·omega
 ·unfold maxLen at hcm;exact ⟨g,cap,rfl,hb,Yo hg,hnc,by omega,fun r hr=>ZP h0 (U4 hr)⟩
theorem MatG.shape {base:Nat} {w:World} {v:Value} {m n:Nat} {M:Mx} {G C:Nat→Nat} (h:MatG base w v m n M G C):∃A c,v= .slice A m c∧m≤c∧c≤9223372036854775807:=(Uq.of_own h.1).shape
theorem MatG.at_ {base:Nat} {w:World} {v:Value} {m n:Nat} {M:Mx} {G C:Nat→Nat} (h:MatG base w v m n M G C) {r c:Nat} (hr:r < m) (hc:c < n):
 ∃A1 n1 c1 A2 n2 c2,(w.cell? ⟨G r,c * 4,none⟩=some (.bool (canF (M r c)).num.neg)∧w.cell? ⟨G r,c * 4+1,none⟩=some (.slice A1 n1 c1)∧w.cell? ⟨G r,c * 4+2,none⟩=some (.bool (canF (M r c)).den.neg)∧w.cell? ⟨G r,c * 4+3,none⟩=some (.slice A2 n2 c2))∧Zv w (.agg #[.bool (canF (M r c)).num.neg,.slice A1 n1 c1,.bool (canF (M r c)).den.neg,.slice A2 n2 c2]) (canF (M r c)):=by
 obtain ⟨b,d,A1,n1,c1,A2,n2,c2,hA,_,a,hm⟩:=(h.2.1 r hr).frs.elem (Below.refl _ _) (ZC hc);injection hA with hA;injection hA with e1 e2;subst e1 e2;simp only [Nat.zero_add] at a;exact ⟨A1,n1,c1,A2,n2,c2,a,hm⟩
theorem MatG.frozen {base:Nat} {w:World} {v:Value} {m n:Nat} {M:Mx} {G C:Nat→Nat} (h:MatG base w v m n M G C) {r c:Nat} (hr:r < m) (hc:c < n):
 w.frozen? ⟨G r,c * 4,none⟩=false∧w.frozen? ⟨G r,c * 4+1,none⟩=false∧w.frozen? ⟨G r,c * 4+2,none⟩=false∧w.frozen? ⟨G r,c * 4+3,none⟩=false:=by
 obtain ⟨_,_,_,_,_,hf,_⟩:=(h.2.1 r hr).at_ (ZC hc);exact hf
theorem MatG.set_ {base:Nat} {w:World} {v:Value} {m n:Nat} {M:Mx} {G C:Nat→Nat} (h:MatG base w v m n M G C) {r c:Nat} (hr:r < m) (hc:c < n) {x y z u:Value} {q:Rat} (hf:Zv w (.agg #[x,y,z,u]) (canF q)):
 MatG base ((((w.setCell ⟨G r,c * 4,none⟩ x).setCell ⟨G r,c * 4+1,none⟩ y).setCell ⟨G r,c * 4+2,none⟩ z).setCell ⟨G r,c * 4+3,none⟩ u) v m n (updM M r c q) G C∧
 Zd 48 w ((((w.setCell ⟨G r,c * 4,none⟩ x).setCell ⟨G r,c * 4+1,none⟩ y).setCell ⟨G r,c * 4+2,none⟩ z).setCell ⟨G r,c * 4+3,none⟩ u):=by
 obtain ⟨hs,hk⟩:=Yi.set_ (h.2.1 r hr) (k:=c) (by rw [Zn];exact hc) hf;rw [Vh hc] at hs;refine ⟨⟨hk.own h.1 (by decide),fun s hs'=>?_,h.2.2⟩,hk⟩;by_cases e:s=r
 ·subst e;have:Yl n (updM M s c q s)=Yl n (fun i=>if i=c then q else M s i):=Z4 fun i _=>by
   unfold updM;by_cases e:i=c
   ·rw [if_pos ⟨rfl,e⟩,if_pos e]
   ·rw [if_neg (by omega),if_neg e]
  rw [this];exact hs
 ·have:Yl n (updM M r c q s)=Yl n (M s):=Z4 fun i _=>by unfold updM;rw [if_neg (by omega)]
  rw [this];refine (h.2.1 s hs').others Yg (hk.keep (by decide)) fun b hb hne=>?_
  simp [U3,Value.ownBlock] at hb;injection hne with hne;exact e (h.2.2 s r hs' hr (by omega))
def swapF (F:Nat→Nat) (k t:Nat):Nat→Nat:=fun r=>if r=k then F t else if r=t then F k else F r
theorem MatG.swap {base:Nat} {w:World} {m n:Nat} {M:Mx} {G C:Nat→Nat} {g c:Nat} (h:MatG base w (.slice (some ⟨g,0,none⟩) m c) m n M G C) {k t:Nat} (hk:k < m) (ht:t < m):
 MatG base ((w.setCell ⟨g,k,none⟩ (U3 n G C t)).setCell ⟨g,t,none⟩ (U3 n G C k)) (.slice (some ⟨g,0,none⟩) m c) m n (swapM M k t) (swapF G k t) (swapF C k t)∧
 Zd 23 w ((w.setCell ⟨g,k,none⟩ (U3 n G C t)).setCell ⟨g,t,none⟩ (U3 n G C k)):=by
 have o1:=Xy h.1 k (U3 n G C t) (by rw [Zjg];exact hk);have o2:=Xy o1 t (U3 n G C k) (by rw [List.length_set,Zjg];exact ht);obtain ⟨_,b0,_⟩:=Yb h.1;obtain ⟨_,b1,_⟩:=Yb o1;have kp:=(Zd.setCell b0 k (U3 n G C t)).trans (Zd.setCell b1 t (U3 n G C k));have b:∀r,U3 n (swapF G k t) (swapF C k t) r=if r=k then U3 n G C t else if r=t then U3 n G C k else U3 n G C r:=fun r=>by
  unfold U3 swapF;by_cases e:r=k
  ·simp only [if_pos e]
  ·simp only [if_neg e];by_cases e2:r=t
   ·simp only [if_pos e2]
   ·simp only [if_neg e2]
 refine ⟨⟨?_,fun r hr=>?_,fun r s hr hs e=>?_⟩,kp⟩
 ·have:((Zpf m n G C).set k (U3 n G C t)).set t (U3 n G C k)=Zpf m n (swapF G k t) (swapF C k t):=by
   apply List.ext_getElem?;intro i;rcases Nat.lt_or_ge i m with hi | hi
   ·rw [U4 hi,b,List.getElem?_set,List.getElem?_set];simp only [List.length_set,Zjg];by_cases e1:t=i
    ·subst e1;rw [if_pos rfl,if_pos ht];by_cases e2:t=k
     ·subst e2;rw [if_pos rfl]
     ·rw [if_neg e2,if_pos rfl]
    ·rw [if_neg e1];by_cases e2:k=i
     ·subst e2;rw [if_pos rfl,if_pos hk,if_pos rfl]
     ·rw [if_neg e2,if_neg (fun h=>e2 h.symm),if_neg (fun h=>e1 h.symm),U4 hi]
   ·rw [List.getElem?_eq_none (by simp [Zjg];exact hi),List.getElem?_eq_none (by rw [Zjg];exact hi)]
  rw [← this];exact o2
 ·rw [b];unfold swapM;split
  ·exact (h.2.1 t ht).but kp (by decide) (by decide)
  ·split
   ·exact (h.2.1 k hk).but kp (by decide) (by decide)
   ·exact (h.2.1 r hr).but kp (by decide) (by decide)
 ·have d:∀a,a < m→∃a',a' < m∧swapF G k t a=G a'∧((a=k∧a'=t)∨(a≠k∧a=t∧a'=k)∨(a≠k∧a≠t∧a'=a)):=fun a ha=>by
   unfold swapF;by_cases e1:a=k
   ·exact ⟨t,ht,by rw [if_pos e1],.inl ⟨e1,rfl⟩⟩
   ·by_cases e2:a=t
    ·exact ⟨k,hk,by rw [if_neg e1,if_pos e2],.inr (.inl ⟨e1,e2,rfl⟩)⟩
    ·exact ⟨a,ha,by rw [if_neg e1,if_neg e2],.inr (.inr ⟨e1,e2,rfl⟩)⟩
  obtain ⟨r',f,er,cr⟩:=d r hr;obtain ⟨s',j,es,cs⟩:=d s hs;rw [er,es] at e;have:=h.2.2 _ _ f j e;omega
theorem MatG.cellAt {base:Nat} {w:World} {m n:Nat} {M:Mx} {G C:Nat→Nat} {g c:Nat} (h:MatG base w (.slice (some ⟨g,0,none⟩) m c) m n M G C) {r:Nat} (hr:r < m):w.cell? ⟨g,r,none⟩=some (U3 n G C r)∧w.frozen? ⟨g,r,none⟩=false:=ZP h.1 (U4 hr)
theorem MatG.swap1 {base:Nat} {w:World} {m n:Nat} {M:Mx} {G C:Nat→Nat} {g c:Nat} (h:MatG base w (.slice (some ⟨g,0,none⟩) m c) m n M G C) {k t:Nat} {u:Value} (ht:t < m):∃y,(w.setCell ⟨g,k,none⟩ u).cell? ⟨g,t,none⟩=some y∧(w.setCell ⟨g,k,none⟩ u).frozen? ⟨g,t,none⟩=false:=by
 rcases Nat.lt_or_ge k m with hk | hk
 ·have o1:=Xy h.1 k u (by rw [Zjg];exact hk);obtain ⟨y,hy⟩:∃y,((Zpf m n G C).set k u)[t]? =some y:=⟨_,List.getElem?_eq_getElem (by rw [List.length_set,Zjg];exact ht)⟩;exact ⟨y,ZP o1 hy⟩
 ·obtain ⟨a,b0,_⟩:=Yb h.1;have hb:=heap_setCell_same w g k a 23 u b0;obtain ⟨c0,_⟩:=h.cellAt ht;rw [cell_of_row w g t a _ _ b0] at c0;have b:t < a.size:=by
   rcases Nat.lt_or_ge t a.size with h9 | h9
   ·exact h9
   ·rw [Array.getElem?_eq_none (by omega)] at c0;cases c0
  refine ⟨(a.setIfInBounds k u)[t]'(by simpa using b),?_,frozen_of_row _ g t _ _ hb⟩;rw [cell_of_row _ g t _ _ _ hb];exact Array.getElem?_eq_getElem (by simpa using b)
def ColsM (w:World) (v:Value) (m n:Nat) (M:Mx):Prop:=∃vs:Nat→Value,Uq w 23 1 v m ((List.range m).map vs)∧∀k,k < m→WL w (vs k) (Yl n (M k))
theorem ColsM.shape {w:World} {v:Value} {m n:Nat} {M:Mx} (h:ColsM w v m n M):∃A c,v= .slice A m c∧m≤c∧c≤9223372036854775807:=by
 obtain ⟨vs,h1,h2⟩:=h;exact h1.shape
theorem ColsM.at_ {w w0:World} {A:Option Addr} {m n c:Nat} {M:Mx} (h0:ColsM w0 (.slice A m c) m n M) (hb0:Below w0.heap.size w0 w) {k:Nat} (hk:k < m) {r:Nat} (hr:r < n):
 ∃b off B cB b' off' A1 n1 c1 A2 n2 c2,A=some ⟨b,off,none⟩∧b < w0.heap.size∧w.cell? ⟨b,off+k,none⟩=some (.slice (some ⟨b',off',none⟩) n cB)∧n≤cB∧cB≤9223372036854775807∧B=(some ⟨b',off',none⟩:Option Addr)∧
 (w.cell? ⟨b',off'+r * 4,none⟩=some (.bool (canF (M k r)).num.neg)∧w.cell? ⟨b',off'+r * 4+1,none⟩=some (.slice A1 n1 c1)∧w.cell? ⟨b',off'+r * 4+2,none⟩=some (.bool (canF (M k r)).den.neg)∧w.cell? ⟨b',off'+r * 4+3,none⟩=some (.slice A2 n2 c2))∧Zv w (.agg #[.bool (canF (M k r)).num.neg,.slice A1 n1 c1,.bool (canF (M k r)).den.neg,.slice A2 n2 c2]) (canF (M k r)):=by
 obtain ⟨vs,h1,h2⟩:=h0;obtain ⟨b,off,hA,d,hc⟩:=h1.at_ (by omega);obtain ⟨B,cB,hv,a,e⟩:=(h2 k hk).shape;rw [Zn] at hv a;have h3:=h2 k hk;rw [hv] at h3;obtain ⟨b',off',A1,n1,c1,A2,n2,c2,f,_,h4,hm⟩:=h3.elem hb0 (ZC hr);subst f;refine ⟨b,off,_,cB,b',off',A1,n1,c1,A2,n2,c2,hA,d,?_,a,e,rfl,h4,hm⟩;have:=hc k (vs k) (by simp [hk]);rw [← hv];exact cell_later hb0 this
theorem wpList_append_slice {ops:Array Oper} {rest:List Oper} {o:Oper} {a:Act} {Q:Exit→Act→World→Prop} (hgd:o.guard=none) (s x:Operand)
 (ho:o.op= .call { callee:= .builtin .append,args:=#[s,x],argTypes:=#[118,118] })
 (W:World) (base:Nat) (v:Value) (m:Nat) (xs:List Value) (hs:a.eval s=v) (hown:W.ownsRow base 23 1 v m xs) (A:Option Addr) (n c:Nat)
 (hx:a.eval x= .slice (some ⟨W.heap.size,0,none⟩) 1 1) (hn:m+1≤1099511627776) (hbase:base≤W.heap.size)
 (h:∀v' w',w'.ownsRow base 23 1 v' (m+1) (xs++[.slice A n c])→Zd 23 W w'→Below base W w'→wpList Tryz.prog ops Q rest (a.put o.dst v') w'):
 wpList Tryz.prog ops Q (o::rest) a (W.alloc (.cells #[.slice A n c] 23)):=by
 obtain ⟨i0,hi,b,d,e⟩:=info_parts info_rowT;exact WM hgd s x 118 ho 23 i0 _ 1 24 Tryz.underlying118 hi b d e rfl (by decide) W base v m xs [.slice A n c] hs hown hx rfl (by intro u hu;simp at hu;subst hu;rfl) (by unfold maxLen;omega) (by omega) hbase h
def ColsO (base:Nat) (w:World) (v:Value) (m n:Nat) (M:Mx):Prop:=∃vs:Nat→Value,w.ownsRow base 23 1 v m ((List.range m).map vs)∧∀k,k < m→WL w (vs k) (Yl n (M k))
theorem ColsO.cols {base:Nat} {w:World} {v:Value} {m n:Nat} {M:Mx} (h:ColsO base w v m n M):ColsM w v m n M:=by
 obtain ⟨vs,h1,h2⟩:=h;exact ⟨vs,Uq.of_own h1,h2⟩
theorem ColsO.nil (base:Nat) (w:World) (n:Nat) (M:Mx):ColsO base w (.slice none 0 0) 0 n M:=⟨fun _=> .slice none 0 0,World.ownsRow_nil _ _ _ _,fun k hk=>absurd hk (by omega)⟩
theorem ColsO.below {base:Nat} {w w':World} {v:Value} {m n:Nat} {M:Mx} (h:ColsO base w v m n M) (hb:Below w.heap.size w w'):ColsO base w' v m n M:=by
 obtain ⟨vs,h1,h2⟩:=h;exact ⟨vs,own_below h1 hb,fun k hk=>(h2 k hk).below hb⟩
theorem seq_append_cols {ops:Array Oper} {Q:Exit→Act→World→Prop} {S:World→Prop} {q:Nat} {i:Nat} {is:List Nat} {o:Oper} {a:Act} (hoi:ops[i]? =some o) (hfl:YH ops q i=false) (hgd:o.guard=none) (hl0:q≤i) (s x:Operand)
 (ho:o.op= .call { callee:= .builtin .append,args:=#[s,x],argTypes:=#[118,118] })
 (W:World) (base:Nat) (v:Value) (m n:Nat) (M:Mx) (hs:a.eval s=v) (hown:ColsO base W v m n M) (A:Option Addr) (l c:Nat) (hf:WL W (.slice A l c) (Yl n (M m)))
 (hx:a.eval x= .slice (some ⟨W.heap.size,0,none⟩) 1 1) (hn:m+1≤1099511627776) (hbase:base≤W.heap.size)
 (h:∀v' w',ColsO base w' v' (m+1) n M→Zd 23 W w'→Below base W w'→Xe Tryz.prog ops Q S q is (a.put o.dst v') w'):
 Xe Tryz.prog ops Q S q (i::is) a (W.alloc (.cells #[.slice A l c] 23)):=by
 obtain ⟨vs,h1,h2⟩:=hown;obtain ⟨i0,hi,b,d,f⟩:=info_parts info_rowT;refine Uf hoi hfl hgd hl0 s x 118 ho 23 i0 _ 1 24 Tryz.underlying118 hi b d f rfl (by decide) W base v m _ [.slice A l c] hs h1 hx rfl (by intro u hu;simp at hu;subst hu;rfl) (by unfold maxLen;omega) (by omega) hbase fun v' w' g1 g2 g3=>h v' w' ⟨fun k=>if k=m then .slice A l c else vs k,?_,fun k hk=>?_⟩ g2 g3
 ·rw [List.range_succ,List.map_append];have:(List.range m).map (fun k=>if k=m then Value.slice A l c else vs k)=(List.range m).map vs:=List.map_congr_left fun k hk=>by
   have:k < m:=List.mem_range.1 hk;rw [if_neg (by omega)]
  rw [this];simpa using g1
 ·by_cases e:k=m
  ·subst e;simp only [if_true];exact hf.but g2 (by decide) (by decide)
  ·simp only [if_neg e];exact (h2 k (by omega)).but g2 (by decide) (by decide)
theorem wpList_append_mat {ops:Array Oper} {rest:List Oper} {o:Oper} {a:Act} {Q:Exit→Act→World→Prop} (hgd:o.guard=none) (s x:Operand)
 (ho:o.op= .call { callee:= .builtin .append,args:=#[s,x],argTypes:=#[118,118] })
 (W:World) (base:Nat) (v:Value) (m n:Nat) (M:Mx) (G C:Nat→Nat) (hs:a.eval s=v) (hown:MatG base W v m n M G C) (g c:Nat) (hf:Yi base W (.slice (some ⟨g,0,none⟩) n c) (Yl n (M m))) (hne:∀r,r < m→G r≠g)
 (hx:a.eval x= .slice (some ⟨W.heap.size,0,none⟩) 1 1) (hn:m+1≤1099511627776) (hbase:base≤W.heap.size)
 (h:∀v' w',MatG base w' v' (m+1) n M (fun r=>if r=m then g else G r) (fun r=>if r=m then c else C r)→Zd 23 W w'→Below base W w'→wpList Tryz.prog ops Q rest (a.put o.dst v') w'):
 wpList Tryz.prog ops Q (o::rest) a (W.alloc (.cells #[.slice (some ⟨g,0,none⟩) n c] 23)):=by
 obtain ⟨h1,h2,h3⟩:=hown;have b:∀r,U3 n (fun r=>if r=m then g else G r) (fun r=>if r=m then c else C r) r=if r=m then .slice (some ⟨g,0,none⟩) n c else U3 n G C r:=fun r=>by
  unfold U3;by_cases e:r=m
  ·simp only [if_pos e]
  ·simp only [if_neg e]
 refine wpList_append_slice hgd s x ho W base v m _ hs h1 _ n c hx hn hbase fun v' w' g1 g2 g3=>h v' w' ⟨?_,fun r hr=>?_,fun r t hr ht e=>?_⟩ g2 g3
 ·have:Zpf (m+1) n (fun r=>if r=m then g else G r) (fun r=>if r=m then c else C r)=Zpf m n G C++[.slice (some ⟨g,0,none⟩) n c]:=by
   unfold Zpf;rw [List.range_succ,List.map_append];have e1:(List.range m).map (U3 n (fun r=>if r=m then g else G r) (fun r=>if r=m then c else C r))=(List.range m).map (U3 n G C):=List.map_congr_left fun k hk=>by
    have:k < m:=List.mem_range.1 hk;rw [b,if_neg (by omega)]
   rw [e1,List.map_cons,b,if_pos rfl,List.map_nil]
  rw [this];exact g1
 ·rw [b];split
  ·rename_i e;subst e;exact hf.but g2 (by decide) (by decide)
  ·exact (h2 r (by omega)).but g2 (by decide) (by decide)
 ·by_cases e1:r=m <;> by_cases e2:t=m
  ·omega
  ·simp only [if_pos e1,if_neg e2] at e;exact absurd e.symm (hne t (by omega))
  ·simp only [if_neg e1,if_pos e2] at e;exact absurd e (hne r (by omega))
  ·simp only [if_neg e1,if_neg e2] at e;exact h3 r t (by omega) (by omega) e
theorem rcolumn_neg (v:Value) (p:LPd) (K r:Nat) (w:World) (h:LpM w v p) (ok:p.Ok K) (hK:K≤34359738368) (hr:r < p.right.length) (hm:p.right.length≤64):
 Calls Tryz.prog 44 #[v,.int .i64 (-1 - (r:Int))] w fun e w'=>∃v',e= .returned v'∧Yi w.heap.size w' v' (Yl p.right.length (p.col (-1 - (r:Int))))∧Below w.heap.size w w':=by
 obtain ⟨A,n,c,A',n',c',a0,a,a1,rfl,hc,hv,J⟩:=id h;obtain ⟨W,hW,hX,l⟩:=UV w (.slice A n c) (.slice A' n' c') (.slice a0 a a1);obtain ⟨x0,x1,x2⟩:=hX.three;obtain ⟨r1,r2,r3⟩:=J.len;obtain ⟨f,hf⟩:=Yt (fs:=p.right) (i:=r) hr;have Y:=(ok.2.1 r f hf).sh hK;have HQ:=Lib.hid (Yv hf);have F:Hid (p.col (-1 - (r:Int))=fun i=>if i=r then (if qs (qAt p.right i) < 0 then -1 else 1) else 0):=Lib.hid LPd.col_neg;have HF:=Lib.hid hf;rw [← r1];have d:r < a:=by omega
 have ab:(r:Int) < a:=by omega
 have aa:a≤64:=by omega
 generalize hj: -1 - (r:Int)=j at *;have ac:j < 0:=by omega
 have ad: -1 - j=(r:Int):=by omega
 clear hf hm r1 hr ok hc hv h hj;go_enter Tryz.func44,Tryz.ntmps44;go_wp2_with fail;clear hW;refine (zeros_own a _ (by omega)).mono ?_;rw [canL_zero];rintro _ w1 ⟨v1,rfl,e1,o⟩;obtain ⟨g,cg,rfl,ae,af,a2,ag⟩:=e1.shape (by rw [Zn];omega);rw [Zn] at e1 a2 ⊢;go_wp2_with fail;refine (XT 1 _ (by omega) (by omega)).mono ?_;rw [show ((1:Int):Rat)=1 from rfl];rintro _ w2 ⟨v2,rfl,e2,s⟩;have u:=e1.below s;have x:=e2.frac;generalize D:canF 1=q1 at *;obtain ⟨E,l9,k9,E',L,M,rfl,_,_⟩:=id x;obtain ⟨_,_,_,_,⟨N,O,P,R⟩,⟨f0,f1,f2,f3⟩,_⟩:=u.at_ (ZC d)
 go_upto_region 6 with (fail)
 obtain ⟨B,S⟩:=u.set_ (k:=r) (by rw [Zn];exact d) x;rw [← D,Vh d,D] at B;have t:=Za o s o.size;have m:=ZA (Za l t l.size) (show w.heap.size≤g by have:=l.size;omega) (r * 4) (r * 4+1) (r * 4+2) (r * 4+3) (.bool q1.num.neg) (.slice E l9 k9) (.bool q1.den.neg) (.slice E' L M);have G:=S.bk ((hX.later o).later s) (by decide);clear N O P R f0 f1 f2 f3 S u e1 o s t e2 x x0 x1 x2 hX D;generalize (((w2.setCell ⟨g,r * 4,none⟩ (.bool q1.num.neg)).setCell ⟨g,r * 4+1,none⟩ (.slice E l9 k9)).setCell ⟨g,r * 4+2,none⟩ (.bool q1.den.neg)).setCell ⟨g,r * 4+3,none⟩ (.slice E' L M)=W3 at *;obtain ⟨x0,x1,x2⟩:=G.three;obtain ⟨b,ah,B1,n1,k1,B2,n2,k2,rfl,ai,⟨a3,a4,a5,a6⟩,T⟩:=J.elem m HF.out;go_wp2_with fail;refine (rsignF_any _ f _ T Y).mono ?_;rintro _ w4 ⟨rfl,C⟩;have y:=B.below C;have z:=Za m C m.size;clear a3 a4 a5 a6 T x0 x1 x2 G B m C;by_cases hq:qs f.q < 0
 ·have HC:Hid (∀i,i < a→(if i=r then (-1:Rat) else if i=r then 1 else 0)=p.col j i):=Lib.hid fun i _=>by
   rw [F.out];by_cases e:i=r
   ·simp only [if_pos e];rw [e,HQ.out,if_pos hq]
   ·simp only [if_neg e]
  go_wp2_with fail;refine (XT (-1) _ (by omega) (by omega)).mono ?_;rw [show ((-1:Int):Rat)= -1 from rfl];rintro _ w6 ⟨v6,rfl,e6,V⟩;have H:=y.below V;have I:=e6.frac;generalize X:canF (-1)=q6 at *;obtain ⟨E6,l6,k6,a7,a8,a9,rfl,_,_⟩:=id I;obtain ⟨_,_,_,_,⟨N,O,P,R⟩,⟨f0,f1,f2,f3⟩,_⟩:=H.at_ (ZC d);go_wp2;obtain ⟨U,aj⟩:=H.set_ (k:=r) (by rw [Zn];exact d) I;rw [← X,Vh d,X,Z4 HC.out] at U;have Z:=ZA (Za z V z.size) (show w.heap.size≤g by have:=l.size;omega) (r * 4) (r * 4+1) (r * 4+2) (r * 4+3) (.bool q6.num.neg) (.slice E6 l6 k6) (.bool q6.den.neg) (.slice a7 a8 a9);go_ret;obtain ⟨cs,ho,hf⟩:=U;exact ⟨_,rfl,⟨cs,Vi ho l.size,hf⟩,Z⟩
 ·have HC:Hid (∀i,i < a→(if i=r then (1:Rat) else 0)=p.col j i):=Lib.hid fun i _=>by
   rw [F.out];by_cases e:i=r
   ·simp only [if_pos e];rw [e,HQ.out,if_neg hq]
   ·simp only [if_neg e]
  go_wp2;go_ret;rw [Z4 HC.out] at y;obtain ⟨cs,ho,hf⟩:=y;exact ⟨_,rfl,⟨cs,Vi ho l.size,hf⟩,z⟩
theorem rcolumn_any (v:Value) (p:LPd) (K:Nat) (j:Int) (w:World) (h:LpM w v p) (ok:p.Ok K) (hK:K≤34359738368) (hin:p.In) (hj0: -(p.right.length:Int)≤j) (hj1:j < p.cols.length) (hm:p.right.length≤64):
 Calls Tryz.prog 44 #[v,.int .i64 j] w fun e w'=>∃v',e= .returned v'∧Yi w.heap.size w' v' (Yl p.right.length (p.col j))∧Below w.heap.size w w':=by
 rcases Int.lt_or_le j 0 with h0 | h0
 ·obtain ⟨r,rfl⟩:∃r:Nat,j= -1 - (r:Int):=⟨(-1 - j).toNat,by omega⟩;exact rcolumn_neg v p K r w h ok hK (by omega) hm
 ·obtain ⟨r,rfl⟩:=Int.eq_ofNat_of_zero_le h0;exact rcolumn_pos v p K r w h ok hK hin (by omega) hm
theorem rmatrix_own (v1 v2:Value) (p:LPd) (s:LSt) (K:Nat) (w:World) (h:LpM w v1 p) (h2:StM w v2 s) (ok:p.Ok K) (hK:K≤34359738368) (hin:p.In) (hs:s.In p) (hm:p.right.length≤64) (hl:s.basis.length≤1000):
 Calls Tryz.prog 97 #[v1,v2] w fun e w'=>∃v',e= .returned v'∧ColsM w' v' s.basis.length p.right.length (s.mat p)∧Below w.heap.size w w':=by
 obtain ⟨A,n,c,A',n',c',q,r,t,rfl,hc,hv,hr⟩:=id h;obtain ⟨Ab,nb,cb,rfl,hI⟩:=id h2;obtain ⟨W,hW,x,f⟩:=UV w (.slice A n c) (.slice A' n' c') (.slice q r t);obtain ⟨W1,L,b,g⟩:=Vu W (.int .i64 s.phase) (.slice Ab nb cb) (.int .i64 s.pivots);have hX:=x.later g;have a:=Za f g f.size;obtain ⟨b1,b2,b3⟩:=hI.len;have C:W.heap.size=w.heap.size+1:=by rw [← hW];simp
 rw [C] at b;have D:=Lib.hid h;have E:=Lib.hid ok;have F:=Lib.hid hin;have G:=Lib.hid hs;have N:=Lib.hid b1;rw [← b1];have O:nb≤1000:=by omega
 have HI:=Lib.hid hI;obtain ⟨x0,x1,x2⟩:=hX.three;obtain ⟨y0,y1,y2⟩:=b.three;clear h h2 ok hin hs hc hv hr b1 hl hI x f g;go_enter Tryz.func97,Tryz.ntmps97;go_wp2;clear hW L x0 x1 x2 y0 y1 y2
 go_loopw [5,6] (fun u i wr=>∃k:Nat,k≤nb∧i= .int .i64 k∧Below w.heap.size w wr∧Bk wr w.heap.size 26 [.slice A n c,.slice A' n' c',.slice q r t]∧Bk wr (w.heap.size+1) 29 [.int .i64 s.phase,.slice Ab nb cb,.int .i64 s.pivots]∧ColsO w.heap.size wr u k p.right.length (s.mat p)) (fun _ i _=>nb - (intOf i).toNat)
 case atStart=>exact ⟨0,by omega,rfl,a,hX,b,ColsO.nil _ _ _ _⟩
 case round=>
  clear a hX b;obtain ⟨k,hk,rfl,a,hX,hS,hO⟩:=hrel;obtain ⟨x0,x1,x2⟩:=hX.three;obtain ⟨y0,y1,y2⟩:=hS.three;rcases Nat.lt_or_ge k nb with hkl | hkl
  ·obtain ⟨bb,bo,z,rfl,hz,j,z0,z1⟩:=(HI.out.below a).at_ hkl;have HZ:Hid (s.mat p k=p.col z):=Lib.hid (by unfold LSt.mat;rw [LSt.at_eq j]);obtain ⟨i0,i1⟩:=G.out k z j;have P:(k:Int) < nb:=(by omega);clear j;go_wp2_with fail;have C0:=Zm x0;have C1:=Zm x1;have C2:=Zm x2;have D1:=Zm y1;have E1:=Zm hz;have b:=Ze wr;clear x0 x1 x2 y0 y1 y2 hz;refine Zo 8 [0,1,2,3,4,5,6,7,8,9,10] (by kernel_rfl) (by kernel_rfl) ?_;repeat ((first | (refine Zc (v:=?_) rfl rfl rfl ?_ ?_;rotate_left;(· (intro _ M;go_simp;(try go_bits);(try with_reducible rfl)))) | (refine Zg (v:=?_) rfl rfl rfl ?_ ?_;rotate_left;(· (intro _ M;go_simp;(try go_bits);(try with_reducible rfl)))) | refine Zh rfl rfl rfl ?_);(try simp only [Act.put,pu1,pu2,pu3,pu4,pu5,pu6]))
   refine Zf rfl rfl (fun KR hKR=>?_);go_simp;(with_reducible refine (rcolumn_any _ p K z _ ((D.out.below a).below b) E.out hK F.out i0 i1 hm).mono ?_);rw [← HZ.out];rintro _ w5 ⟨v5,rfl,e5,y⟩;have d:=Za b y b.size;obtain ⟨Ae,ce,rfl,_,_⟩:=e5.frs.shape;have HF:=Lib.hid e5.frs;have HO:=Lib.hid (hO.below d);have H:w.heap.size≤w5.heap.size:=(by have:=a.size;have:=d.size;omega);clear e5;refine hKR.out _ _ (Or.inr d) ?_;clear hKR KR;(try simp only [Act.put,pu1,pu2,pu3,pu4,pu5,pu6]);refine Zf rfl rfl (fun KR hKR=>?_);go_simp;refine hKR.out _ _ (Or.inl (by decide)) ?_;clear hKR KR;(try simp only [Act.put,pu1,pu2,pu3,pu4,pu5,pu6]);refine seq_append_cols rfl rfl rfl (by decide) (.tmp 14) (.tmp 22) rfl w5 w.heap.size u5 k p.right.length (s.mat p) rfl HO.out Ae _ ce HF.out rfl (by omega) H ?_;intro v' w6 l m B;(try simp only [Act.put,pu1,pu2,pu3,pu4,pu5,pu6]);refine Zf rfl rfl (fun KR hKR=>?_);go_simp;refine hKR.out _ _ (Or.inl (by decide)) ?_;clear hKR KR;(try simp only [Act.put,pu1,pu2,pu3,pu4,pu5,pu6]);refine Zy ?_;have I:=m.bk (hX.later d) (by decide);have J:=m.bk (hS.later d) (by decide);have o:=(Za a d a.size).trans B;clear C0 C1 C2 D1 E1 hX hS a b d y hO HO HF m B;go_wp2;go_roundw
   case rel=>exact ⟨k+1,by omega,by go_num,o,I,J,l⟩
   case measure=>simp [intOf];omega
  ·obtain rfl:k=nb:=by omega
   go_wp2;go_ret;exact ⟨_,rfl,hO.cols,a⟩
end Go.Proofs.YtncmobkhenfhpaaGreat
