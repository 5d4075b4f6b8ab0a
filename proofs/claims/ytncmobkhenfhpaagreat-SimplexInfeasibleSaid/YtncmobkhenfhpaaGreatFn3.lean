/- Contracts that the claim is built on; no condition. -/
import Derived.Test.YtncmobkhenfhpaaGreatFn1
set_option linter.unusedVariables false
set_option linter.unusedSimpArgs false
set_option maxRecDepth 100000
set_option maxHeartbeats 40000000
namespace Go.Proofs.YtncmobkhenfhpaaGreat
open Go.RowKit
open Pl
attribute [local go_sem ↓] Go.wp_at_zero Go.wp_at_succ
theorem wpList_append_frac {ops:Array Oper} {rest:List Oper} {o:Oper} {a:Act} {Q:Exit→Act→World→Prop} (hgd:o.guard=none) (s x:Operand)
 (ho:o.op= .call { callee:= .builtin .append,args:=#[s,x],argTypes:=#[23,23] })
 (W:World) (base:Nat) (v:Value) (fs:List RF) (hs:a.eval s=v) (hown:Yi base W v fs) (b b':Bool) (A A':Option Addr) (n c n' c':Nat) (f:RF) (hf:Zv W (.agg #[.bool b,.slice A n c,.bool b',.slice A' n' c']) f)
 (hx:a.eval x= .slice (some ⟨W.heap.size,0,none⟩) 1 1) (hn:fs.length+1≤1099511627776) (hbase:base≤W.heap.size)
 (h:∀v' w',Yi base w' v' (fs++[f])→Zd 48 W w'→Below base W w'→wpList Tryz.prog ops Q rest (a.put o.dst v') w'):
 wpList Tryz.prog ops Q (o::rest) a (W.alloc (.cells #[.bool b,.slice A n c,.bool b',.slice A' n' c'] 48)):=by
 obtain ⟨cs,h1,h2⟩:=hown;obtain ⟨i0,hi,d,e,g⟩:=info_parts info_frac;refine WM hgd s x 23 ho 48 i0 _ 4 64 Tryz.underlying23 hi d e g rfl (by decide) W base v fs.length cs [.bool b,.slice A n c,.bool b',.slice A' n' c'] hs h1 hx rfl Ziw (by unfold maxLen;omega) (by omega) hbase ?_;intro v' w' g1 g2 g3;refine h v' w' ⟨_,by simpa using g1,?_⟩ g2 g3;have hk:=g2.keep (by decide);exact (h2.keep hk).snoc (hf.keep hk)
theorem zeros_own (n:Nat) (w:World) (hn:n≤1099511627776):
 Calls Tryz.prog 71 #[.int .i64 (n:Int)] w fun e w'=>∃v',e= .returned v'∧Yi w.heap.size w' v' (List.replicate n (canF 0))∧Below w.heap.size w w':=by
 go_enter Tryz.func71,Tryz.ntmps71;go_wp2
 go_loopw [3,4] (fun s i wr=>∃k:Nat,k≤n∧i= .int .i64 k∧Yi w.heap.size wr s (List.replicate k (canF 0))∧Below w.heap.size w wr) (fun _ i _=>n - (intOf i).toNat)
 case atStart=>exact ⟨0,by omega,rfl,Yi.nil _ _,Below.refl _ _⟩
 case round=>
  obtain ⟨k,hk,rfl,b,d⟩:=hrel;rcases Nat.lt_or_ge k n with hkl | hkl
  ·go_wp2_with fail;refine (XT 0 _ (by omega) (by omega)).mono ?_;rintro e w1 ⟨v1,rfl,e1,g⟩;rw [show ((0:Int):Rat)=0 from rfl] at e1;have a:=b.below g;have f:=Za d g d.size;obtain ⟨A,m,c,A',m',c',rfl,_,_⟩:=id e1.frac;have HF:=Lib.hid e1.frac;have HO:=Lib.hid a;have j:(List.replicate k (canF 0)).length+1≤1099511627776:=(by simp;omega);have l:=f.size;clear b a d g e1;go_wp2_with (at_builtin;refine wpList_append_frac rfl (.tmp 10) (.tmp 12) rfl w1 w.heap.size u3 (List.replicate k (canF 0)) rfl HO.out _ _ A A' m c m' c' (canF 0) HF.out rfl j l ?_);intro v' w2 h p o;go_wp2;go_roundw
   case rel=>exact ⟨k+1,by omega,by go_num,by rw [List.replicate_succ'];exact h,f.trans o⟩
   case measure=>simp [intOf];omega
  ·obtain rfl:k=n:=by omega
   go_wp2;go_ret;exact ⟨_,rfl,b,d⟩
namespace Pl
theorem canL_zero (m:Nat):List.replicate m (canF 0)=Yl m fun _=>0:=by
 apply List.ext_getElem?;intro i;rcases Nat.lt_or_ge i m with h | h
 ·rw [ZC h,List.getElem?_replicate,if_pos h]
 ·rw [List.getElem?_eq_none (by simpa using h),List.getElem?_eq_none (by rw [Zn];exact h)]
theorem canL_succ (m:Nat) (f:Nat→Rat):Yl m f++[canF (f m)]=Yl (m+1) f:=by simp [Yl,List.range_succ]
end Pl
theorem cell5_later {w w':World} {b o:Nat} {x y z u t:Value} (hb:Below w.heap.size w w') (h:w.cell? ⟨b,o,none⟩=some x∧w.cell? ⟨b,o+1,none⟩=some y∧w.cell? ⟨b,o+2,none⟩=some z∧w.cell? ⟨b,o+3,none⟩=some u∧w.cell? ⟨b,o+4,none⟩=some t):
 w'.cell? ⟨b,o,none⟩=some x∧w'.cell? ⟨b,o+1,none⟩=some y∧w'.cell? ⟨b,o+2,none⟩=some z∧w'.cell? ⟨b,o+3,none⟩=some u∧w'.cell? ⟨b,o+4,none⟩=some t:=
 ⟨Zi hb h.1,Zi hb h.2.1,Zi hb h.2.2.1,Zi hb h.2.2.2.1,Zi hb h.2.2.2.2⟩
theorem rdense_own (v:Value) (es:List En) (m:Nat) (w:World) (h:Wv w v es) (hs:∀(k:Nat) (e:En),es[k]? =some e→e.f.Sh) (hin:inR m es) (hm0:m≤1099511627776):
 Calls Tryz.prog 78 #[v,.int .i64 (m:Int)] w fun e w'=>∃v',e= .returned v'∧Yi w.heap.size w' v' (Yl m (Xt es))∧Below w.heap.size w w':=by
 obtain ⟨A,c,rfl,I,J⟩:=h.shape;generalize hl:es.length=l at *;have HL:=Lib.hid hl;have HS:=Lib.hid hs;have HI:=Lib.hid hin;clear hl hs hin;go_enter Tryz.func78,Tryz.ntmps78;go_wp2_with fail;refine (zeros_own m _ hm0).mono ?_;rw [canL_zero];rintro _ w1 ⟨v1,rfl,hO,d⟩;have ST:Hid (Yi w.heap.size w1 v1 (Yl m (dQ (es.take 0) fun _=>0))):=Lib.hid hO;clear hO;go_wp2
 go_loopw [6] (fun i wr=>∃k:Nat,k≤l∧i= .int .i64 k∧Below w.heap.size w wr∧Yi w.heap.size wr v1 (Yl m (dQ (es.take k) fun _=>0))) (fun i _=>l - (intOf i).toNat)
 case atStart=>exact ⟨0,by omega,rfl,d,ST.out⟩
 case round=>
  clear ST d;obtain ⟨k,hk,rfl,d,hO⟩:=hrel;rcases Nat.lt_or_ge k l with hkl | hkl
  ·obtain ⟨e,he⟩:=Xk (es:=es) (i:=k) (by rw [HL.out];exact hkl);obtain ⟨b,p,A1,n1,c1,A2,n2,c2,rfl,K,o,hm⟩:=h.elem d he;obtain ⟨i0,i1⟩:=HI.out k e he;have z:=HS.out k e he;have HT:=Lib.hid (Zzu he fun _=>0);obtain ⟨g,cg,rfl,C,L,D,M⟩:=hO.shape (by rw [Zn];omega);rw [Zn] at hO D ⊢;obtain ⟨j,hj⟩:=Int.eq_ofNat_of_zero_le i0;have r:j < m:=(by omega);have t:=ZC (f:=dQ (es.take k) fun _=>0) r;have F:(k:Int) < l:=(by omega);have G:b≠g:=(by omega);have H:(j:Int) < m:=(by omega);rw [hj] at o;clear he;go_wp2_with fail;refine wp_region_noPanic ?_;refine region_F (S:=fun w'=>w'.cell? ⟨b,p+k * 5,none⟩=some (.int .i64 (j:Int))∧w'.cell? ⟨b,p+k * 5+1,none⟩=some (.bool e.f.num.neg)∧w'.cell? ⟨b,p+k * 5+2,none⟩=some (.slice A1 n1 c1)∧w'.cell? ⟨b,p+k * 5+3,none⟩=some (.bool e.f.den.neg)∧w'.cell? ⟨b,p+k * 5+4,none⟩=some (.slice A2 n2 c2)) (n:=13) (by kernel_rfl) ?_ (fun hHeld=>?_)
   ·exact o
   refine anyF_take (i:=0) (v:=?_) rfl (by kernel_rfl) (by kernel_rfl) (by kernel_rfl) (by kernel_rfl) (fun _ _ _ h=>h) (Or.inl ⟨by rfl,?y10⟩) (by assumption) ?_
   case y10=>(intro _ a;(try dsimp only at a);go_simp;(try with_reducible rfl))
   (try simp only [Act.put,List.setIfInBounds_toArray,List.set_cons_zero,List.set_cons_succ]);refine anyF_take (i:=1) (v:=?_) rfl (by kernel_rfl) (by kernel_rfl) (by kernel_rfl) (by kernel_rfl) (fun _ _ _ h=>h) (Or.inl ⟨by rfl,?y11⟩) (by assumption) ?_
   case y11=>(intro _ a;(try dsimp only at a);go_simp;(try with_reducible rfl))
   (try simp only [Act.put,List.setIfInBounds_toArray,List.set_cons_zero,List.set_cons_succ]);refine anyF_take (i:=2) (v:=?_) rfl (by kernel_rfl) (by kernel_rfl) (by kernel_rfl) (by kernel_rfl) (fun _ _ _ h=>h) (Or.inl ⟨by rfl,?y12⟩) (by assumption) ?_
   case y12=>(intro _ a;(try dsimp only at a);go_simp;(try with_reducible rfl))
   (try simp only [Act.put,List.setIfInBounds_toArray,List.set_cons_zero,List.set_cons_succ]);refine anyF_take (i:=3) (v:=?_) rfl (by kernel_rfl) (by kernel_rfl) (by kernel_rfl) (by kernel_rfl) (fun _ _ _ h=>h) (Or.inl ⟨by rfl,?y13⟩) (by assumption) ?_
   case y13=>(intro _ a;(try dsimp only at a);go_simp;(try with_reducible rfl))
   (try simp only [Act.put,List.setIfInBounds_toArray,List.set_cons_zero,List.set_cons_succ]);refine anyF_take (i:=4) (v:=?_) rfl (by kernel_rfl) (by kernel_rfl) (by kernel_rfl) (by kernel_rfl) (fun _ _ _ h=>h) (Or.inl ⟨by rfl,?y14⟩) (by assumption) ?_
   case y14=>(intro _ a;(try dsimp only at a);go_simp;(try with_reducible rfl))
   (try simp only [Act.put,List.setIfInBounds_toArray,List.set_cons_zero,List.set_cons_succ]);refine anyF_take (i:=5) (v:=?_) rfl (by kernel_rfl) (by kernel_rfl) (by kernel_rfl) (by kernel_rfl) (fun _ _ _ h=>h) (Or.inl ⟨by rfl,?y15⟩) (by assumption) ?_
   case y15=>(intro _ a;(try dsimp only at a);go_simp;(try with_reducible rfl))
   (try simp only [Act.put,List.setIfInBounds_toArray,List.set_cons_zero,List.set_cons_succ]);refine anyF_take (i:=6) (v:=?_) rfl (by kernel_rfl) (by kernel_rfl) (by kernel_rfl) (by kernel_rfl) (fun _ _ _ h=>h) (Or.inl ⟨by rfl,?y16⟩) (by assumption) ?_
   case y16=>(intro _ a;(try dsimp only at a);go_simp;(try with_reducible rfl))
   (try simp only [Act.put,List.setIfInBounds_toArray,List.set_cons_zero,List.set_cons_succ]);refine anyF_take (i:=7) (v:=?_) rfl (by kernel_rfl) (by kernel_rfl) (by kernel_rfl) (by kernel_rfl) (fun _ _ _ h=>h) (Or.inl ⟨by rfl,?y17⟩) (by assumption) ?_
   case y17=>(intro _ a;(try dsimp only at a);go_simp;(try with_reducible rfl))
   (try simp only [Act.put,List.setIfInBounds_toArray,List.set_cons_zero,List.set_cons_succ]);refine anyF_take (i:=8) (v:=?_) rfl (by kernel_rfl) (by kernel_rfl) (by kernel_rfl) (by kernel_rfl) (fun _ _ _ h=>h) (Or.inl ⟨by rfl,?y18⟩) (by assumption) ?_
   case y18=>(intro _ a;(try dsimp only at a);go_simp;(try with_reducible rfl))
   (try simp only [Act.put,List.setIfInBounds_toArray,List.set_cons_zero,List.set_cons_succ]);refine anyF_take (i:=9) (v:=?_) rfl (by kernel_rfl) (by kernel_rfl) (by kernel_rfl) (by kernel_rfl) (fun _ _ _ h=>h) (Or.inl ⟨by rfl,?y19⟩) (by assumption) ?_
   case y19=>(intro _ a;(try dsimp only at a);go_simp;(try with_reducible rfl))
   (try simp only [Act.put,List.setIfInBounds_toArray,List.set_cons_zero,List.set_cons_succ]);refine anyF_take (i:=10) (v:=?_) rfl (by kernel_rfl) (by kernel_rfl) (by kernel_rfl) (by kernel_rfl) (fun _ _ _ h=>h) (Or.inl ⟨by rfl,?y20⟩) (by assumption) ?_
   case y20=>(intro _ a;(try dsimp only at a);go_simp;(try with_reducible rfl))
   (try simp only [Act.put,List.setIfInBounds_toArray,List.set_cons_zero,List.set_cons_succ]);refine anyF_step (i:=11) (by kernel_rfl) rfl (fun KR hKR=>?_);go_simp;(with_reducible refine (Zey _ e.f _ (hm.keep (ZJ.drew _)) z).mono ?_);rintro _ w2 ⟨v2,rfl,e2,s⟩;obtain ⟨E,l9,k9,E',N,O,rfl,_,_⟩:=id e2.frac;have u:=(hO.below (Ze _)).below s;obtain ⟨_,_,_,_,⟨c0,c1,c2,c3⟩,⟨f0,f1,f2,f3⟩,_⟩:=u.at_ t;refine hKR.out _ _ ?_ (fun hHeld=>?_)
   ·exact cell5_later s o
   clear hKR KR;(try simp only [Act.put,List.setIfInBounds_toArray,List.set_cons_zero,List.set_cons_succ]);refine anyF_take (i:=12) (v:=?_) rfl (by kernel_rfl) (by kernel_rfl) (by kernel_rfl) (by kernel_rfl) (fun _ _ _ h=>h) (Or.inl ⟨by rfl,?y21⟩) (by assumption) ?_
   case y21=>(intro _ a;(try dsimp only at a);go_simp;(try with_reducible rfl))
   (try simp only [Act.put,List.setIfInBounds_toArray,List.set_cons_zero,List.set_cons_succ]);refine anyF_last (i:=13) (by kernel_rfl) rfl (by decide) (fun KR hKR=>?_);go_simp;refine hKR.out _ _ ?_;clear hKR KR;(try simp only [Act.put,List.setIfInBounds_toArray,List.set_cons_zero,List.set_cons_succ]);refine anyF_done (by kernel_rfl) (NoPanic.normal ?_) _;obtain ⟨x,P⟩:=u.set_ (k:=j) (by rw [Zn];exact r) e2.frac;rw [Vh r] at x;have B:=ZA (Za d.drew s d.size) C (j * 4) (j * 4+1) (j * 4+2) (j * 4+3);go_wp2;go_roundw
   case rel=>exact ⟨k+1,by omega,by go_num,B _ _ _ _,by
    rw [HT.out];have:Yl m (fun i=>if i=j then e.f.q else dQ (es.take k) (fun _=>0) i)=Yl m (fun (i:Nat)=>if e.idx=(i:Int) then e.f.q else dQ (es.take k) (fun _=>0) i):=Z4 fun i _=>by
     by_cases y:i=j
     ·rw [if_pos y,if_pos (by omega)]
     ·rw [if_neg y,if_neg (by omega)]
    rw [← this];exact x⟩
   case measure=>simp [intOf];omega
  ·go_wp2;go_ret;refine ⟨_,rfl,?_,d⟩;rw [List.take_of_length_le (by rw [HL.out];omega)] at hO;exact hO
theorem rcolumn_pos (v:Value) (p:LPd) (K j:Nat) (w:World) (h:LpM w v p) (ok:p.Ok K) (hK:K≤34359738368) (hin:p.In) (hj:j < p.cols.length) (hm:p.right.length≤64):
 Calls Tryz.prog 44 #[v,.int .i64 (j:Int)] w fun e w'=>∃v',e= .returned v'∧Yi w.heap.size w' v' (Yl p.right.length (p.col j))∧Below w.heap.size w w':=by
 obtain ⟨A,n,c,A',n',c',g,d,i,rfl,hc,hv,hr⟩:=h;obtain ⟨W,hW,hX,a⟩:=UV w (.slice A n c) (.slice A' n' c') (.slice g d i);obtain ⟨x0,x1,x2⟩:=hX.three;obtain ⟨m1,m2,m3⟩:=hv.len;obtain ⟨r1,r2,r3⟩:=hr.len;obtain ⟨es,he⟩:=XH hj;obtain ⟨b,r,A1,c1,rfl,s,l,m⟩:=hv.elem a he;have hO:=ok.2.2 j es he;have hI:=hin j es he;rw [← r1] at hm hI ⊢;rw [← m1] at hj;rw [LPd.col_pos he];have q:(j:Int) < n':=by omega
 have HS:Hid (∀(k:Nat) (e:En),es[k]? =some e→e.f.Sh):=Lib.hid fun k e hk=>(hO.2 k e hk).sh hK
 have HI:=Lib.hid hI;clear he hO hI r1 m1;go_enter Tryz.func44,Tryz.ntmps44;go_wp2_with fail;clear hW;refine (rdense_own _ es d _ m HS.out HI.out (by omega)).mono ?_;rintro _ w1 ⟨v1,rfl,e1,o⟩;obtain ⟨cs,ho,hf⟩:=e1;go_wp2;go_ret;exact ⟨_,rfl,⟨cs,Vi ho a.size,hf⟩,Za a o a.size⟩
namespace Pl
def timesQ (p:LPd) (xs:List RF) (k r:Nat):Rat:=ZQ (fun j=>qAt xs j * p.col (j:Int) r) k
end Pl
namespace Pl
theorem sumN_le {f g:Nat→Rat} {n:Nat} (h:∀i,i < n→f i≤g i):ZQ f n≤ZQ g n:=by
 induction n with
 | zero=>exact Rat.le_refl
 | succ n ih=>
  have h1:=ih fun i hi=>h i (by omega)
  have h2:=h n (by omega);rw [ZF,ZF];grind
def Ydt (p:LPd) (ys:List RF) (k:Nat):Prop:=∀j,j < k→Zzw ys (p.col (j:Int)) p.right.length≤qAt p.cost j
instance (p:LPd) (ys:List RF) (k:Nat):Decidable (Ydt p ys k):=by unfold Ydt;infer_instance
theorem weak {p:LPd} {xs ys:List RF} (hlow:Ydt p ys p.cols.length) (hx:∀j,j < p.cols.length→0≤qAt xs j) (hr:∀i,i < p.right.length→timesQ p xs p.cols.length i=qAt p.right i):
 Yec ys p.right p.right.length≤Yec p.cost xs p.cols.length:=by
 have h1:Yec ys p.right p.right.length=ZQ (fun i=>ZQ (fun j=>qAt ys i * (qAt xs j * p.col (j:Int) i)) p.cols.length) p.right.length:=Zj fun i hi=>by
  show qAt ys i * qAt p.right i=_;rw [← hr i hi,YD];rfl
 rw [h1,WO];refine sumN_le fun j hj=>?_
 have h2:ZQ (fun i=>qAt ys i * (qAt xs j * p.col (j:Int) i)) p.right.length=qAt xs j * Zzw ys (p.col (j:Int)) p.right.length:=by
  unfold Zzw;rw [← YD];exact Zj fun i _=>by grind
 rw [h2,Rat.mul_comm (qAt p.cost j)];exact Rat.mul_le_mul_of_nonneg_left (hlow j hj) (hx j hj)
end Pl
theorem LpO.lp {base:Nat} {w:World} {v:Value} {p:LPd} (h:LpO base w v p):LpM w v p:=by
 obtain ⟨s0,s1,s2,b1,rfl,h0,h1,h2,_,_⟩:=h;obtain ⟨A,c,rfl⟩:=h0.slice;obtain ⟨A',c',rfl,_,_⟩:=h1.shape;obtain ⟨a,b,rfl⟩:=h2.slice;exact ⟨_,_,_,_,_,_,_,_,_,rfl,h0.frs,h1,h2.frs⟩
namespace Pl
structure Prf where
 st:Int
 x:List RF
 y:List RF
 ray:List RF
end Pl
namespace Pl
def Ydw (p:LPd) (ys:List RF) (k:Nat):Prop:=∀j,j < k→Zzw ys (p.col (j:Int)) p.right.length≤0
instance (p:LPd) (ys:List RF) (k:Nat):Decidable (Ydw p ys k):=by unfold Ydw;infer_instance
def hold2 (p:LPd) (x:Prf):Bool:=decide (Ydw p x.y p.cols.length) && decide (0 < qs (Yec x.y p.right p.right.length))
end Pl
theorem ret_int' {a b:Int} (h:b=a):Ending.returned (.int .i64 a)= .returned (.int .i64 b):=by rw [h]
section
attribute [local irreducible] YE
end
section
open Go.Maps (int_keyed keyOf_int_mk)
end
section
attribute [local irreducible] YE
end
end Go.Proofs.YtncmobkhenfhpaaGreat
