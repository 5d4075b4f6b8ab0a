/- Contracts that the claim is built on; no condition. -/
import Derived.Test.YtncmobkhenfhpaaGreatD27
import Derived.Test.YtncmobkhenfhpaaGreatLwAJ
set_option linter.unusedVariables false
set_option linter.unusedSimpArgs false
set_option maxRecDepth 100000
set_option maxHeartbeats 40000000
namespace Go.Proofs.YtncmobkhenfhpaaGreat
open Go.RowKit
open Pl
attribute [local go_sem ↓] Go.wp_at_zero Go.wp_at_succ
theorem wpList_append_frac {ops:Array Oper} {rest:List Oper} {o:Oper} {a:Act} {Q:Exit→Act→World→Prop} (hgd:o.guard=none) (s x:Operand)
 (ho:o.op= .call { callee:= .builtin .append,args:=#[s,x],argTypes:=#[23,23] })
 (W:World) (base:Nat) (v:Value) (fs:List RF) (hs:a.eval s=v) (hown:Yi base W v fs) (b b':Bool) (A A':Option Addr) (n c n' c':Nat) (f:RF) (hf:Zv W (.agg #[.bool b,.slice A n c,.bool b',.slice A' n' c']) f)
 (hx:a.eval x= .slice (some ⟨W.heap.size,0,none⟩) 1 1) (hn:fs.length+1≤1099511627776) (hbase:base≤W.heap.size)
 (h:∀v' w',Yi base w' v' (fs++[f])→Zd 48 W w'→Below base W w'→wpList Tryz.prog ops Q rest (a.put o.dst v') w'):
 wpList Tryz.prog ops Q (o::rest) a (W.alloc (.cells #[.bool b,.slice A n c,.bool b',.slice A' n' c'] 48)):=by
 obtain ⟨cs,h1,h2⟩:=hown;obtain ⟨i0,hi,d,e,g⟩:=info_parts info_frac;refine WM hgd s x 23 ho 48 i0 _ 4 64 Tryz.underlying23 hi d e g rfl (by decide) W base v fs.length cs [.bool b,.slice A n c,.bool b',.slice A' n' c'] hs h1 hx rfl Ziw (by unfold maxLen;omega) (by omega) hbase ?_;intro v' w' g1 g2 g3;refine h v' w' ⟨_,by simpa using g1,?_⟩ g2 g3;have hk:=g2.keep (by decide);exact (h2.keep hk).snoc (hf.keep hk)
theorem zeros_own (n:Nat) (w:World) (hn:n≤1099511627776):
 Calls Tryz.prog 71 #[.int .i64 (n:Int)] w fun e w'=>∃v',e= .returned v'∧Yi w.heap.size w' v' (List.replicate n (canF 0))∧Below w.heap.size w w':=by
 go_enter Tryz.func71,Tryz.ntmps71;go_wp2
 go_loopw [3,4] (fun s i wr=>∃k:Nat,k≤n∧i= .int .i64 k∧Yi w.heap.size wr s (List.replicate k (canF 0))∧Below w.heap.size w wr) (fun _ i _=>n - (intOf i).toNat)
 case atStart=>exact ⟨0,by omega,rfl,Yi.nil _ _,Below.refl _ _⟩
 case round=>
  obtain ⟨k,hk,rfl,b,d⟩:=hrel;rcases Nat.lt_or_ge k n with hkl | hkl
  ·go_wp2_with fail;refine (XT 0 _ (by omega) (by omega)).mono ?_;rintro e w1 ⟨v1,rfl,e1,g⟩;rw [show ((0:Int):Rat)=0 from rfl] at e1;have a:=b.below g;have f:=Za d g d.size;obtain ⟨A,m,c,A',m',c',rfl,_,_⟩:=id e1.frac;have HF:=Lib.hid e1.frac;have HO:=Lib.hid a;have j:(List.replicate k (canF 0)).length+1≤1099511627776:=(by simp;omega);have l:=f.size;clear b a d g e1;go_wp2_with (at_builtin;refine wpList_append_frac rfl (.tmp 10) (.tmp 12) rfl w1 w.heap.size u3 (List.replicate k (canF 0)) rfl HO.out _ _ A A' m c m' c' (canF 0) HF.out rfl j l ?_);intro v' w2 h p o;go_wp2;go_roundw
   case rel=>exact ⟨k+1,by omega,by go_num,by rw [List.replicate_succ'];exact h,f.trans o⟩
   case measure=>simp [intOf];omega
  ·obtain rfl:k=n:=by omega
   go_wp2;go_ret;exact ⟨_,rfl,b,d⟩
section
section
variable {P:Program} {ops:Array Oper} {Q:Exit→Act→World→Prop} {md:Region.Mode} {S:World→Prop} {n:Nat}
def AnyF (P:Program) (md:Region.Mode) (ops:Array Oper) (Q:Exit→Act→World→Prop) (S:World→Prop) (n:Nat):Nat→Array Bool→Act→World→Prop
 | 0,listed,a,w=>Region.ready md ops listed=[]∧Q .normal a w
 | fuel+1,listed,a,w=>(Region.ready md ops listed=[]→Q .normal a w)∧
  ∀i∈Region.ready md ops listed,wpOp P ops Q i (fun a' w'=>(n≤i∨S w')∧AnyF P md ops Q S n fuel (listed.setIfInBounds i true) a' w') a w
theorem AnyF.any:∀(fuel:Nat) (listed:Array Bool) (a:Act) (w:World),AnyF P md ops Q S n fuel listed a w→wpAny P md ops Q fuel listed a w
 | 0,_,_,_,h=>h
 | fuel+1,_,_,_,h=>⟨h.1,fun i hi=>wpOp_mono (fun a' w' h'=>AnyF.any fuel _ a' w' h'.2) (h.2 i hi)⟩
theorem region_F {id:Nat} {a:Act} {w:World} (hm:P.follows .mixedOrders=true) (hS:S w.drew)
 (h:S w.drew→AnyF P .any ops Q S n ops.size (Array.replicate ops.size false) a w.drew):(Code.region id ops true).wp P Q a w:=
 wp_region_any hm (AnyF.any _ _ _ _ (h hS))
def lastWait (md:Region.Mode) (ops:Array Oper) (n i:Nat):Bool:=(List.range ops.size).all fun j=>decide (j < n) || Region.waitsFor md ops j i
theorem lastWait_spec {i j:Nat} (h:lastWait md ops n i=true) (hj:n≤j) {oj:Oper} (ho:ops[j]? =some oj):∃e∈oj.after,Region.binds md e=true∧e.on=i:=by
 have b:j < ops.size:=(Array.getElem?_eq_some_iff.1 ho).1;have h1:=List.all_eq_true.1 h j (List.mem_range.2 b);rw [decide_eq_false (by omega),Bool.false_or] at h1;obtain ⟨d,a,e,he,hb,c⟩:=Region.waitsFor_spec h1;rw [ho] at a;injection a with a;subst a;exact ⟨e,he,hb,c⟩
theorem anyF_first {i:Nat} {oi:Oper} {v:Value} (hi:ops[i]? =some oi) (hsel:∀(j:Nat) (o:Oper) cs b,ops[j]? =some o→o.op≠ .select cs b) (hw:lastWait md ops n i=true)
 (hQ:∀c a w,Q (.panic c) (a.put oi.dst v) w→Q (.panic c) a w):
 ∀(fuel:Nat) (listed:Array Bool) (a:Act) (w:World),
  (∀j oj,ops[j]? =some oj→j≠i→listed.getD j true=false→(∀e∈oj.after,Region.binds md e=true→e.on≠i)→oi.apart ops oj=true)→
  i∈Region.ready md ops listed→YieldsIf P ops S oi v a→S w→
  AnyF P md ops Q S n fuel (listed.setIfInBounds i true) (a.put oi.dst v) w→AnyF P md ops Q S n (fuel+1) listed a w:=by
 intro fuel
 induction fuel with
 | zero=>
  intro listed a w _ hr hy hS H;refine ⟨fun h=>(by rw [h] at hr;cases hr),fun j hj=>?_⟩;by_cases d:j=i
  ·subst d;exact hy.wpOp hi hS ⟨.inr hS,H⟩
  ·have:=ready_mono hj d;rw [H.1] at this
   cases this
 | succ fuel ih=>
  intro listed a w f hr hy hS H;refine ⟨fun h=>(by rw [h] at hr;cases hr),fun j hj=>?_⟩;by_cases d:j=i
  ·subst d;exact hy.wpOp hi hS ⟨.inr hS,H⟩
  ·have h1:=H.2 j (ready_mono hj d);obtain ⟨p,oj,l,q⟩:=mem_ready.1 hj;have m:∀e∈oj.after,Region.binds md e=true→e.on≠i:=fun e he hb heq=>by
    have h1:=q e he hb;have h0:=(mem_ready.1 hr).1;rw [heq] at h1;rcases Nat.lt_or_ge i listed.size with h' | h'
    ·simp [h'] at h0 h1;rw [h0] at h1;cases h1
    ·simp [Array.getElem?_eq_none h'] at h1
   have s:¬n≤j:=fun hle=>by
    obtain ⟨e,he,hb,t⟩:=lastWait_spec hw hle l;exact m e he hb t
   have h2:=wpOp_putIf l (f j oj l d p m) (fun cs b=>hsel i oi cs b hi) (fun cs b=>hsel j oj cs b l) hQ hy h1;have g:∀k ok,ops[k]? =some ok→k≠i→(listed.setIfInBounds j true).getD k true=false→
    (∀e∈ok.after,Region.binds md e=true→e.on≠i)→oi.apart ops ok=true:=fun k ok hk hki hun hno=>by
    refine f k ok hk hki ?_ hno;by_cases r:j=k
    ·subst r;exact p
    ·rw [getD_set_ne true r] at hun;exact hun
   refine wpOp_mono (fun a' w' h3=>⟨h3.2.1,ih (listed.setIfInBounds j true) a' w' g (ready_mono hr (Ne.symm d)) h3.1 (h3.2.1.resolve_left s) ?_⟩) h2;rw [Array.setIfInBounds_comm _ _ d];exact h3.2.2
theorem anyF_take {i:Nat} {oi:Oper} {v:Value} {fuel:Nat} {listed:Array Bool} {a:Act} {w:World} (hi:ops[i]? =some oi)
 (hs:Region.noSelect ops=true) (hf:Region.free md ops listed i=true) (hr:(Region.ready md ops listed).contains i=true) (hw:lastWait md ops n i=true)
 (hQ:∀c a w,Q (.panic c) (a.put oi.dst v) w→Q (.panic c) a w) (hy:YieldsIf P ops S oi v a) (hS:S w)
 (h:AnyF P md ops Q S n fuel (listed.setIfInBounds i true) (a.put oi.dst v) w):AnyF P md ops Q S n (fuel+1) listed a w:=
 anyF_first hi (Region.noSelect_spec hs) hw hQ fuel listed a w (Region.free_spec hi hf) (by simpa using hr) hy hS h
theorem anyF_step {i:Nat} {o:Oper} {fuel:Nat} {listed:Array Bool} {a:Act} {w:World} (hr:Region.ready md ops listed=[i]) (ho:ops[i]? =some o)
 (h:∀K':Act→World→Prop,Shut (∀a w,S w→(S w→AnyF P md ops Q S n fuel (listed.setIfInBounds i true) a w)→K' a w)→if Region.wanted o (yielded ops a.tmps)=true then Oper.wp P o a w K' Q else K' (a.put o.dst undef) w):
 AnyF P md ops Q S n (fuel+1) listed a w:=by
 refine ⟨fun h0=>(by rw [hr] at h0;cases h0),fun j hj=>?_⟩;rw [hr] at hj;obtain rfl:j=i:=by simpa using hj
 exact wpOp_step ho (fun K' hK=>h K' (fun a w hS hW=>hK a w ⟨.inr hS,hW hS⟩))
theorem anyF_last {i:Nat} {o:Oper} {fuel:Nat} {listed:Array Bool} {a:Act} {w:World} (hr:Region.ready md ops listed=[i]) (ho:ops[i]? =some o) (hn:n≤i)
 (h:∀K':Act→World→Prop,Shut (∀a w,AnyF P md ops Q S n fuel (listed.setIfInBounds i true) a w→K' a w)→if Region.wanted o (yielded ops a.tmps)=true then Oper.wp P o a w K' Q else K' (a.put o.dst undef) w):
 AnyF P md ops Q S n (fuel+1) listed a w:=by
 refine ⟨fun h0=>(by rw [hr] at h0;cases h0),fun j hj=>?_⟩;rw [hr] at hj;obtain rfl:j=i:=by simpa using hj
 exact wpOp_step ho (fun K' hK=>h K' (fun a w hW=>hK a w ⟨.inl hn,hW⟩))
theorem anyF_done {listed:Array Bool} {a:Act} {w:World} (hr:Region.ready md ops listed=[]) (h:Q .normal a w):∀fuel,AnyF P md ops Q S n fuel listed a w
 | 0=>⟨hr,h⟩
 | _+1=>⟨fun _=>h,by rw [hr];simp⟩
end
end
namespace Pl
theorem canL_zero (m:Nat):List.replicate m (canF 0)=Yl m fun _=>0:=by
 apply List.ext_getElem?;intro i;rcases Nat.lt_or_ge i m with h | h
 ·rw [ZC h,List.getElem?_replicate,if_pos h]
 ·rw [List.getElem?_eq_none (by simpa using h),List.getElem?_eq_none (by rw [Zn];exact h)]
end Pl
theorem cell5_later {w w':World} {b o:Nat} {x y z u t:Value} (hb:Below w.heap.size w w') (h:w.cell? ⟨b,o,none⟩=some x∧w.cell? ⟨b,o+1,none⟩=some y∧w.cell? ⟨b,o+2,none⟩=some z∧w.cell? ⟨b,o+3,none⟩=some u∧w.cell? ⟨b,o+4,none⟩=some t):
 w'.cell? ⟨b,o,none⟩=some x∧w'.cell? ⟨b,o+1,none⟩=some y∧w'.cell? ⟨b,o+2,none⟩=some z∧w'.cell? ⟨b,o+3,none⟩=some u∧w'.cell? ⟨b,o+4,none⟩=some t:=
 ⟨Zi hb h.1,Zi hb h.2.1,Zi hb h.2.2.1,Zi hb h.2.2.2.1,Zi hb h.2.2.2.2⟩
theorem rdense_own (v:Value) (es:List En) (m:Nat) (w:World) (h:Wv w v es) (hs:∀(k:Nat) (e:En),es[k]? =some e→e.f.Sh) (hin:inR m es) (hm0:m≤1099511627776):
 Calls Tryz.prog 78 #[v,.int .i64 (m:Int)] w fun e w'=>∃v',e= .returned v'∧Yi w.heap.size w' v' (Yl m (Xt es))∧Below w.heap.size w w':=by
 obtain ⟨A,c,rfl,I,J⟩:=h.shape;generalize hl:es.length=l at *;have HL:=Lib.hid hl;have HS:=Lib.hid hs;have HI:=Lib.hid hin;clear hl hs hin;go_enter Tryz.func78,Tryz.ntmps78;go_wp2_with fail;refine (zeros_own m _ hm0).mono ?_;rw [canL_zero];rintro _ w1 ⟨v1,rfl,hO,d⟩;have ST:Hid (Yi w.heap.size w1 v1 (Yl m (dQ (es.take 0) fun _=>0))):=Lib.hid hO;clear hO;go_wp2
 go_loopw [6] (fun i wr=>∃k:Nat,k≤l∧i= .int .i64 k∧Below w.heap.size w wr∧Yi w.heap.size wr v1 (Yl m (dQ (es.take k) fun _=>0))) (fun i _=>l - (intOf i).toNat)
 case atStart=>exact ⟨0,by omega,rfl,d,ST.out⟩
 case round=>
  clear ST d;obtain ⟨k,hk,rfl,d,hO⟩:=hrel;rcases Nat.lt_or_ge k l with hkl | hkl
  ·obtain ⟨e,he⟩:=Xk (es:=es) (i:=k) (by rw [HL.out];exact hkl);obtain ⟨b,p,A1,n1,c1,A2,n2,c2,rfl,K,o,hm⟩:=h.elem d he;obtain ⟨i0,i1⟩:=HI.out k e he;have z:=HS.out k e he;have HT:=Lib.hid (Zzu he fun _=>0);obtain ⟨g,cg,rfl,C,L,D,M⟩:=hO.shape (by rw [Zn];omega);rw [Zn] at hO D ⊢;obtain ⟨j,hj⟩:=Int.eq_ofNat_of_zero_le i0;have r:j < m:=(by omega);have t:=ZC (f:=dQ (es.take k) fun _=>0) r;have F:(k:Int) < l:=(by omega);have G:b≠g:=(by omega);have H:(j:Int) < m:=(by omega);rw [hj] at o;clear he;go_wp2_with fail;refine wp_region_noPanic ?_;refine region_F (S:=fun w'=>w'.cell? ⟨b,p+k * 5,none⟩=some (.int .i64 (j:Int))∧w'.cell? ⟨b,p+k * 5+1,none⟩=some (.bool e.f.num.neg)∧w'.cell? ⟨b,p+k * 5+2,none⟩=some (.slice A1 n1 c1)∧w'.cell? ⟨b,p+k * 5+3,none⟩=some (.bool e.f.den.neg)∧w'.cell? ⟨b,p+k * 5+4,none⟩=some (.slice A2 n2 c2)) (n:=13) (by kernel_rfl) ?_ (fun hHeld=>?_)
   ·exact o
   refine anyF_take (i:=0) (v:=?_) rfl (by kernel_rfl) (by kernel_rfl) (by kernel_rfl) (by kernel_rfl) (fun _ _ _ h=>h) (Or.inl ⟨by rfl,?y10⟩) (by assumption) ?_
   case y10=>(intro _ a;(try dsimp only at a);go_simp;(try with_reducible rfl))
   (try simp only [Act.put,List.setIfInBounds_toArray,List.set_cons_zero,List.set_cons_succ]);refine anyF_take (i:=1) (v:=?_) rfl (by kernel_rfl) (by kernel_rfl) (by kernel_rfl) (by kernel_rfl) (fun _ _ _ h=>h) (Or.inl ⟨by rfl,?y11⟩) (by assumption) ?_
   case y11=>(intro _ a;(try dsimp only at a);go_simp;(try with_reducible rfl))
   (try simp only [Act.put,List.setIfInBounds_toArray,List.set_cons_zero,List.set_cons_succ]);refine anyF_take (i:=2) (v:=?_) rfl (by kernel_rfl) (by kernel_rfl) (by kernel_rfl) (by kernel_rfl) (fun _ _ _ h=>h) (Or.inl ⟨by rfl,?y12⟩) (by assumption) ?_
   case y12=>(intro _ a;(try dsimp only at a);go_simp;(try with_reducible rfl))
   (try simp only [Act.put,List.setIfInBounds_toArray,List.set_cons_zero,List.set_cons_succ]);refine anyF_take (i:=3) (v:=?_) rfl (by kernel_rfl) (by kernel_rfl) (by kernel_rfl) (by kernel_rfl) (fun _ _ _ h=>h) (Or.inl ⟨by rfl,?y13⟩) (by assumption) ?_
   case y13=>(intro _ a;(try dsimp only at a);go_simp;(try with_reducible rfl))
   (try simp only [Act.put,List.setIfInBounds_toArray,List.set_cons_zero,List.set_cons_succ]);refine anyF_take (i:=4) (v:=?_) rfl (by kernel_rfl) (by kernel_rfl) (by kernel_rfl) (by kernel_rfl) (fun _ _ _ h=>h) (Or.inl ⟨by rfl,?y14⟩) (by assumption) ?_
   case y14=>(intro _ a;(try dsimp only at a);go_simp;(try with_reducible rfl))
   (try simp only [Act.put,List.setIfInBounds_toArray,List.set_cons_zero,List.set_cons_succ]);refine anyF_take (i:=5) (v:=?_) rfl (by kernel_rfl) (by kernel_rfl) (by kernel_rfl) (by kernel_rfl) (fun _ _ _ h=>h) (Or.inl ⟨by rfl,?y15⟩) (by assumption) ?_
   case y15=>(intro _ a;(try dsimp only at a);go_simp;(try with_reducible rfl))
   (try simp only [Act.put,List.setIfInBounds_toArray,List.set_cons_zero,List.set_cons_succ]);refine anyF_take (i:=6) (v:=?_) rfl (by kernel_rfl) (by kernel_rfl) (by kernel_rfl) (by kernel_rfl) (fun _ _ _ h=>h) (Or.inl ⟨by rfl,?y16⟩) (by assumption) ?_
   case y16=>(intro _ a;(try dsimp only at a);go_simp;(try with_reducible rfl))
   (try simp only [Act.put,List.setIfInBounds_toArray,List.set_cons_zero,List.set_cons_succ]);refine anyF_take (i:=7) (v:=?_) rfl (by kernel_rfl) (by kernel_rfl) (by kernel_rfl) (by kernel_rfl) (fun _ _ _ h=>h) (Or.inl ⟨by rfl,?y17⟩) (by assumption) ?_
   case y17=>(intro _ a;(try dsimp only at a);go_simp;(try with_reducible rfl))
   (try simp only [Act.put,List.setIfInBounds_toArray,List.set_cons_zero,List.set_cons_succ]);refine anyF_take (i:=8) (v:=?_) rfl (by kernel_rfl) (by kernel_rfl) (by kernel_rfl) (by kernel_rfl) (fun _ _ _ h=>h) (Or.inl ⟨by rfl,?y18⟩) (by assumption) ?_
   case y18=>(intro _ a;(try dsimp only at a);go_simp;(try with_reducible rfl))
   (try simp only [Act.put,List.setIfInBounds_toArray,List.set_cons_zero,List.set_cons_succ]);refine anyF_take (i:=9) (v:=?_) rfl (by kernel_rfl) (by kernel_rfl) (by kernel_rfl) (by kernel_rfl) (fun _ _ _ h=>h) (Or.inl ⟨by rfl,?y19⟩) (by assumption) ?_
   case y19=>(intro _ a;(try dsimp only at a);go_simp;(try with_reducible rfl))
   (try simp only [Act.put,List.setIfInBounds_toArray,List.set_cons_zero,List.set_cons_succ]);refine anyF_take (i:=10) (v:=?_) rfl (by kernel_rfl) (by kernel_rfl) (by kernel_rfl) (by kernel_rfl) (fun _ _ _ h=>h) (Or.inl ⟨by rfl,?y20⟩) (by assumption) ?_
   case y20=>(intro _ a;(try dsimp only at a);go_simp;(try with_reducible rfl))
   (try simp only [Act.put,List.setIfInBounds_toArray,List.set_cons_zero,List.set_cons_succ]);refine anyF_step (i:=11) (by kernel_rfl) rfl (fun KR hKR=>?_);go_simp;(with_reducible refine (Zey _ e.f _ (hm.keep (ZJ.drew _)) z).mono ?_);rintro _ w2 ⟨v2,rfl,e2,s⟩;obtain ⟨E,l9,k9,E',N,O,rfl,_,_⟩:=id e2.frac;have u:=(hO.below (Ze _)).below s;obtain ⟨_,_,_,_,⟨c0,c1,c2,c3⟩,⟨f0,f1,f2,f3⟩,_⟩:=u.at_ t;refine hKR.out _ _ ?_ (fun hHeld=>?_)
   ·exact cell5_later s o
   clear hKR KR;(try simp only [Act.put,List.setIfInBounds_toArray,List.set_cons_zero,List.set_cons_succ]);refine anyF_take (i:=12) (v:=?_) rfl (by kernel_rfl) (by kernel_rfl) (by kernel_rfl) (by kernel_rfl) (fun _ _ _ h=>h) (Or.inl ⟨by rfl,?y21⟩) (by assumption) ?_
   case y21=>(intro _ a;(try dsimp only at a);go_simp;(try with_reducible rfl))
   (try simp only [Act.put,List.setIfInBounds_toArray,List.set_cons_zero,List.set_cons_succ]);refine anyF_last (i:=13) (by kernel_rfl) rfl (by decide) (fun KR hKR=>?_);go_simp;refine hKR.out _ _ ?_;clear hKR KR;(try simp only [Act.put,List.setIfInBounds_toArray,List.set_cons_zero,List.set_cons_succ]);refine anyF_done (by kernel_rfl) (NoPanic.normal ?_) _;obtain ⟨x,P⟩:=u.set_ (k:=j) (by rw [Zn];exact r) e2.frac;rw [Vh r] at x;have B:=ZA (Za d.drew s d.size) C (j * 4) (j * 4+1) (j * 4+2) (j * 4+3);go_wp2;go_roundw
   case rel=>exact ⟨k+1,by omega,by go_num,B _ _ _ _,by
    rw [HT.out];have:Yl m (fun i=>if i=j then e.f.q else dQ (es.take k) (fun _=>0) i)=Yl m (fun (i:Nat)=>if e.idx=(i:Int) then e.f.q else dQ (es.take k) (fun _=>0) i):=Z4 fun i _=>by
     by_cases y:i=j
     ·rw [if_pos y,if_pos (by omega)]
     ·rw [if_neg y,if_neg (by omega)]
    rw [← this];exact x⟩
   case measure=>simp [intOf];omega
  ·go_wp2;go_ret;refine ⟨_,rfl,?_,d⟩;rw [List.take_of_length_le (by rw [HL.out];omega)] at hO;exact hO
end Go.Proofs.YtncmobkhenfhpaaGreat
