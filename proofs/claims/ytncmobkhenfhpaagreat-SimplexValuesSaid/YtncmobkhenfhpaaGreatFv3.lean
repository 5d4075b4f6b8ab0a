/- Contracts that the claim is built on; no condition. -/
import Derived.Test.YtncmobkhenfhpaaGreatFv1
set_option linter.unusedVariables false
set_option linter.unusedSimpArgs false
set_option maxRecDepth 100000
set_option maxHeartbeats 40000000
namespace Go.Proofs.YtncmobkhenfhpaaGreat
open Go.RowKit
open Pl
attribute [local go_sem ↓] Go.wp_at_zero Go.wp_at_succ
theorem wpList_append_frac {ops:Array Oper} {rest:List Oper} {o:Oper} {a:Act} {Q:Exit→Act→World→Prop} (hgd:o.guard=none) (s x:Operand)
 (ho:o.op= .call { callee:= .builtin .append,args:=#[s,x],argTypes:=#[23,23] })
 (W:World) (base:Nat) (v:Value) (fs:List RF) (hs:a.eval s=v) (hown:Yi base W v fs) (b b':Bool) (A A':Option Addr) (n c n' c':Nat) (f:RF) (hf:Zv W (.agg #[.bool b,.slice A n c,.bool b',.slice A' n' c']) f)
 (hx:a.eval x= .slice (some ⟨W.heap.size,0,none⟩) 1 1) (hn:fs.length+1≤1099511627776) (hbase:base≤W.heap.size)
 (h:∀v' w',Yi base w' v' (fs++[f])→Zd 48 W w'→Below base W w'→wpList Tryz.prog ops Q rest (a.put o.dst v') w'):
 wpList Tryz.prog ops Q (o::rest) a (W.alloc (.cells #[.bool b,.slice A n c,.bool b',.slice A' n' c'] 48)):=by
 obtain ⟨cs,h1,h2⟩:=hown;obtain ⟨i0,hi,d,e,g⟩:=info_parts info_frac;refine WM hgd s x 23 ho 48 i0 _ 4 64 Tryz.underlying23 hi d e g rfl (by decide) W base v fs.length cs [.bool b,.slice A n c,.bool b',.slice A' n' c'] hs h1 hx rfl Ziw (by unfold maxLen;omega) (by omega) hbase ?_;intro v' w' g1 g2 g3;refine h v' w' ⟨_,by simpa using g1,?_⟩ g2 g3;have hk:=g2.keep (by decide);exact (h2.keep hk).snoc (hf.keep hk)
theorem zeros_own (n:Nat) (w:World) (hn:n≤1099511627776):
 Calls Tryz.prog 71 #[.int .i64 (n:Int)] w fun e w'=>∃v',e= .returned v'∧Yi w.heap.size w' v' (List.replicate n (canF 0))∧Below w.heap.size w w':=by
 go_enter Tryz.func71,Tryz.ntmps71;go_wp2
 go_loopw [3,4] (fun s i wr=>∃k:Nat,k≤n∧i= .int .i64 k∧Yi w.heap.size wr s (List.replicate k (canF 0))∧Below w.heap.size w wr) (fun _ i _=>n - (intOf i).toNat)
 case atStart=>exact ⟨0,by omega,rfl,Yi.nil _ _,Below.refl _ _⟩
 case round=>
  obtain ⟨k,hk,rfl,b,d⟩:=hrel;rcases Nat.lt_or_ge k n with hkl | hkl
  ·go_wp2_with fail;refine (XT 0 _ (by omega) (by omega)).mono ?_;rintro e w1 ⟨v1,rfl,e1,g⟩;rw [show ((0:Int):Rat)=0 from rfl] at e1;have a:=b.below g;have f:=Za d g d.size;obtain ⟨A,m,c,A',m',c',rfl,_,_⟩:=id e1.frac;have HF:=Lib.hid e1.frac;have HO:=Lib.hid a;have j:(List.replicate k (canF 0)).length+1≤1099511627776:=(by simp;omega);have l:=f.size;clear b a d g e1;go_wp2_with (at_builtin;refine wpList_append_frac rfl (.tmp 10) (.tmp 12) rfl w1 w.heap.size u3 (List.replicate k (canF 0)) rfl HO.out _ _ A A' m c m' c' (canF 0) HF.out rfl j l ?_);intro v' w2 h p o;go_wp2;go_roundw
   case rel=>exact ⟨k+1,by omega,by go_num,by rw [List.replicate_succ'];exact h,f.trans o⟩
   case measure=>simp [intOf];omega
  ·obtain rfl:k=n:=by omega
   go_wp2;go_ret;exact ⟨_,rfl,b,d⟩
section
section
variable {P:Program} {ops:Array Oper} {Q:Exit→Act→World→Prop} {md:Region.Mode} {S:World→Prop} {n:Nat}
def AnyF (P:Program) (md:Region.Mode) (ops:Array Oper) (Q:Exit→Act→World→Prop) (S:World→Prop) (n:Nat):Nat→Array Bool→Act→World→Prop
 | 0,listed,a,w=>Region.ready md ops listed=[]∧Q .normal a w
 | fuel+1,listed,a,w=>(Region.ready md ops listed=[]→Q .normal a w)∧
  ∀i∈Region.ready md ops listed,wpOp P ops Q i (fun a' w'=>(n≤i∨S w')∧AnyF P md ops Q S n fuel (listed.setIfInBounds i true) a' w') a w
theorem AnyF.any:∀(fuel:Nat) (listed:Array Bool) (a:Act) (w:World),AnyF P md ops Q S n fuel listed a w→wpAny P md ops Q fuel listed a w
 | 0,_,_,_,h=>h
 | fuel+1,_,_,_,h=>⟨h.1,fun i hi=>wpOp_mono (fun a' w' h'=>AnyF.any fuel _ a' w' h'.2) (h.2 i hi)⟩
theorem region_F {id:Nat} {a:Act} {w:World} (hm:P.follows .mixedOrders=true) (hS:S w.drew)
 (h:S w.drew→AnyF P .any ops Q S n ops.size (Array.replicate ops.size false) a w.drew):(Code.region id ops true).wp P Q a w:=
 wp_region_any hm (AnyF.any _ _ _ _ (h hS))
def lastWait (md:Region.Mode) (ops:Array Oper) (n i:Nat):Bool:=(List.range ops.size).all fun j=>decide (j < n) || Region.waitsFor md ops j i
theorem lastWait_spec {i j:Nat} (h:lastWait md ops n i=true) (hj:n≤j) {oj:Oper} (ho:ops[j]? =some oj):∃e∈oj.after,Region.binds md e=true∧e.on=i:=by
 have b:j < ops.size:=(Array.getElem?_eq_some_iff.1 ho).1;have h1:=List.all_eq_true.1 h j (List.mem_range.2 b);rw [decide_eq_false (by omega),Bool.false_or] at h1;obtain ⟨d,a,e,he,hb,c⟩:=Region.waitsFor_spec h1;rw [ho] at a;injection a with a;subst a;exact ⟨e,he,hb,c⟩
theorem anyF_first {i:Nat} {oi:Oper} {v:Value} (hi:ops[i]? =some oi) (hsel:∀(j:Nat) (o:Oper) cs b,ops[j]? =some o→o.op≠ .select cs b) (hw:lastWait md ops n i=true)
 (hQ:∀c a w,Q (.panic c) (a.put oi.dst v) w→Q (.panic c) a w):
 ∀(fuel:Nat) (listed:Array Bool) (a:Act) (w:World),
  (∀j oj,ops[j]? =some oj→j≠i→listed.getD j true=false→(∀e∈oj.after,Region.binds md e=true→e.on≠i)→oi.apart ops oj=true)→
  i∈Region.ready md ops listed→YieldsIf P ops S oi v a→S w→
  AnyF P md ops Q S n fuel (listed.setIfInBounds i true) (a.put oi.dst v) w→AnyF P md ops Q S n (fuel+1) listed a w:=by
 intro fuel
 induction fuel with
 | zero=>
  intro listed a w _ hr hy hS H;refine ⟨fun h=>(by rw [h] at hr;cases hr),fun j hj=>?_⟩;by_cases d:j=i
  ·subst d;exact hy.wpOp hi hS ⟨.inr hS,H⟩
  ·have:=ready_mono hj d;rw [H.1] at this
   cases this
 | succ fuel ih=>
  intro listed a w f hr hy hS H;refine ⟨fun h=>(by rw [h] at hr;cases hr),fun j hj=>?_⟩;by_cases d:j=i
  ·subst d;exact hy.wpOp hi hS ⟨.inr hS,H⟩
  ·have h1:=H.2 j (ready_mono hj d);obtain ⟨p,oj,l,q⟩:=mem_ready.1 hj;have m:∀e∈oj.after,Region.binds md e=true→e.on≠i:=fun e he hb heq=>by
    have h1:=q e he hb;have h0:=(mem_ready.1 hr).1;rw [heq] at h1;rcases Nat.lt_or_ge i listed.size with h' | h'
    ·simp [h'] at h0 h1;rw [h0] at h1;cases h1
    ·simp [Array.getElem?_eq_none h'] at h1
   have s:¬n≤j:=fun hle=>by
    obtain ⟨e,he,hb,t⟩:=lastWait_spec hw hle l;exact m e he hb t
   have h2:=wpOp_putIf l (f j oj l d p m) (fun cs b=>hsel i oi cs b hi) (fun cs b=>hsel j oj cs b l) hQ hy h1;have g:∀k ok,ops[k]? =some ok→k≠i→(listed.setIfInBounds j true).getD k true=false→
    (∀e∈ok.after,Region.binds md e=true→e.on≠i)→oi.apart ops ok=true:=fun k ok hk hki hun hno=>by
    refine f k ok hk hki ?_ hno;by_cases r:j=k
    ·subst r;exact p
    ·rw [getD_set_ne true r] at hun;exact hun
   refine wpOp_mono (fun a' w' h3=>⟨h3.2.1,ih (listed.setIfInBounds j true) a' w' g (ready_mono hr (Ne.symm d)) h3.1 (h3.2.1.resolve_left s) ?_⟩) h2;rw [Array.setIfInBounds_comm _ _ d];exact h3.2.2
theorem anyF_take {i:Nat} {oi:Oper} {v:Value} {fuel:Nat} {listed:Array Bool} {a:Act} {w:World} (hi:ops[i]? =some oi)
 (hs:Region.noSelect ops=true) (hf:Region.free md ops listed i=true) (hr:(Region.ready md ops listed).contains i=true) (hw:lastWait md ops n i=true)
 (hQ:∀c a w,Q (.panic c) (a.put oi.dst v) w→Q (.panic c) a w) (hy:YieldsIf P ops S oi v a) (hS:S w)
 (h:AnyF P md ops Q S n fuel (listed.setIfInBounds i true) (a.put oi.dst v) w):AnyF P md ops Q S n (fuel+1) listed a w:=
 anyF_first hi (Region.noSelect_spec hs) hw hQ fuel listed a w (Region.free_spec hi hf) (by simpa using hr) hy hS h
theorem anyF_step {i:Nat} {o:Oper} {fuel:Nat} {listed:Array Bool} {a:Act} {w:World} (hr:Region.ready md ops listed=[i]) (ho:ops[i]? =some o)
 (h:∀K':Act→World→Prop,Shut (∀a w,S w→(S w→AnyF P md ops Q S n fuel (listed.setIfInBounds i true) a w)→K' a w)→if Region.wanted o (yielded ops a.tmps)=true then Oper.wp P o a w K' Q else K' (a.put o.dst undef) w):
 AnyF P md ops Q S n (fuel+1) listed a w:=by
 refine ⟨fun h0=>(by rw [hr] at h0;cases h0),fun j hj=>?_⟩;rw [hr] at hj;obtain rfl:j=i:=by simpa using hj
 exact wpOp_step ho (fun K' hK=>h K' (fun a w hS hW=>hK a w ⟨.inr hS,hW hS⟩))
theorem anyF_last {i:Nat} {o:Oper} {fuel:Nat} {listed:Array Bool} {a:Act} {w:World} (hr:Region.ready md ops listed=[i]) (ho:ops[i]? =some o) (hn:n≤i)
 (h:∀K':Act→World→Prop,Shut (∀a w,AnyF P md ops Q S n fuel (listed.setIfInBounds i true) a w→K' a w)→if Region.wanted o (yielded ops a.tmps)=true then Oper.wp P o a w K' Q else K' (a.put o.dst undef) w):
 AnyF P md ops Q S n (fuel+1) listed a w:=by
 refine ⟨fun h0=>(by rw [hr] at h0;cases h0),fun j hj=>?_⟩;rw [hr] at hj;obtain rfl:j=i:=by simpa using hj
 exact wpOp_step ho (fun K' hK=>h K' (fun a w hW=>hK a w ⟨.inl hn,hW⟩))
theorem anyF_done {listed:Array Bool} {a:Act} {w:World} (hr:Region.ready md ops listed=[]) (h:Q .normal a w):∀fuel,AnyF P md ops Q S n fuel listed a w
 | 0=>⟨hr,h⟩
 | _+1=>⟨fun _=>h,by rw [hr];simp⟩
end
end
namespace Pl
theorem dotQ_succ (xs ys:List RF) (n:Nat):Yec xs ys (n+1)=Yec xs ys n+qAt xs n * qAt ys n:=rfl
theorem Sz_dot {xs ys:List RF} {K n:Nat} (ha:RsL K xs) (hb:RsL K ys) (hK:1≤K):Sz (1+n * (2 * K+1)) (Yec xs ys n):=
 Zix fun i _=>(We (ha.qAt hK i) (hb.qAt hK i)).mono (by omega)
end Pl
def DotAt (xs ys:List RF) (w:World) (g:Nat) (k:Nat) (wr:World):Prop:=
 ∃(A A':Option Addr) (n c n' c':Nat),Bk wr g 48 [.bool (canF (Yec xs ys k)).num.neg,.slice A n c,.bool (canF (Yec xs ys k)).den.neg,.slice A' n' c']∧Zv wr (.agg #[.bool (canF (Yec xs ys k)).num.neg,.slice A n c,.bool (canF (Yec xs ys k)).den.neg,.slice A' n' c']) (canF (Yec xs ys k))∧
  Bk wr w.heap.size 48 [.bool false,.slice none 0 0,.bool false,.slice none 0 0]∧Below w.heap.size w wr∧w.heap.size < g
theorem rdot_own (v1 v2:Value) (xs ys:List RF) (K:Nat) (w:World) (h1:WL w v1 xs) (h2:WL w v2 ys) (hK:1≤K) (ha:RsL K xs) (hb:RsL K ys) (hs:1+min xs.length ys.length * (2 * K+1)≤34359738368) (hs2:2 * K≤34359738368):
 Calls Tryz.prog 30 #[v1,v2] w fun e w'=>∃v',e= .returned v'∧Zv w' v' (canF (Yec xs ys (min xs.length ys.length)))∧Below w.heap.size w w':=by
 obtain ⟨A,c,rfl,ap,aq⟩:=h1.shape;obtain ⟨A',c',rfl,ar,au⟩:=h2.shape;have HS:=Lib.hid hs;obtain ⟨W,hW,hR,j⟩:=YZ w (.bool false) (.slice none 0 0) (.bool false) (.slice none 0 0);generalize hn:xs.length=n at *;generalize hm:ys.length=m at *;have HN:=Lib.hid hn;have HM:=Lib.hid hm;have HA:=Lib.hid ha;have HB:=Lib.hid hb;clear hs hn hm ha hb;go_enter Tryz.func30,Tryz.ntmps30;go_wp2_with fail;clear hW;refine (XT 0 _ (by omega) (by omega)).mono ?_;rw [show ((0:Int):Rat)=Yec xs ys 0 from rfl];rintro e w1 ⟨v1,rfl,e1,O⟩;obtain ⟨B,l,d,B',l',d',rfl,_,_⟩:=id e1.frac;have hX:=Bk.new w1 48 [.bool (canF (Yec xs ys 0)).num.neg,.slice B l d,.bool (canF (Yec xs ys 0)).den.neg,.slice B' l' d'];have bn:=Zb w1 (.cells [.bool (canF (Yec xs ys 0)).num.neg,.slice B l d,.bool (canF (Yec xs ys 0)).den.neg,.slice B' l' d'].toArray 48);have b1:=Za j O j.size;have start:DotAt xs ys w w1.heap.size 0 (w1.alloc (.cells #[.bool (canF (Yec xs ys 0)).num.neg,.slice B l d,.bool (canF (Yec xs ys 0)).den.neg,.slice B' l' d'] 48)):=
  ⟨B,B',l,d,l',d',hX,e1.frac.below bn,(hR.later O).later bn,Za b1 bn b1.size,(hR.later O).lt⟩
 have ST:=Lib.hid start;clear start hX bn b1 hR j O e1;generalize canF (Yec xs ys 0)=D0 at *;go_wp2
 go_loopw [6] (fun i wr=>∃k:Nat,k≤min n m∧i= .int .i64 k∧DotAt xs ys w w1.heap.size k wr) (fun i _=>n - (intOf i).toNat)
 case atStart=>exact ⟨0,by omega,rfl,ST.out⟩
 case round=>
  obtain ⟨k,hk,rfl,C,C',p,q,p',q',hX,hF,hR,j,hg⟩:=hrel;rcases Nat.lt_or_ge k (min n m) with hkl | hkl
  ·obtain ⟨f,hf⟩:=Yt (fs:=xs) (i:=k) (by rw [HN.out];omega);obtain ⟨f',M⟩:=Yt (fs:=ys) (i:=k) (by rw [HM.out];omega);obtain ⟨b,N,A1,n1,k1,A2,n2,k2,rfl,av,J,hm⟩:=h1.elem j hf;obtain ⟨b',x,A3,n3,k3,A4,n4,k4,rfl,am,y,a9⟩:=h2.elem j M;have an:(k:Int) < n:=(by omega);have ao:(k:Int) < m:=(by omega);have R:=HA.out k f hf;have z:=HB.out k f' M;have HD:Hid (Yec xs ys (k+1)=Yec xs ys k+f.q * f'.q):=Lib.hid (by rw [dotQ_succ,Yv hf,Yv M]);have ab:Sz 34359738368 (Yec xs ys k):=by
    refine (Sz_dot HA.out HB.out hK).mono ?_;have:=Nat.mul_le_mul_right (2 * K+1) hk;have:=HS.out;omega
   clear hf M;have Y:=J;have Z:=y;obtain ⟨x1,x2,x3,x4⟩:=J;go_wp2_with fail;refine (rsignF_any _ f _ hm (R.sh (by omega))).mono ?_;rintro e w2 ⟨rfl,o⟩;have T:=hX.later o;have U:=hR.later o;have V:=hF.below o;have u:=Za j o j.size;have a0:=hm.below o;have D:=a9.below o;have P:=Ur o Y;have a1:=Ur o Z;clear hX hR hF j hm a9 Y Z y x1 x2 x3 x4 o;by_cases hz:f.q=0
   ·have L:qs f.q=0:=Z7.2 hz;have F:Hid (Yec xs ys (k+1)=Yec xs ys k):=Lib.hid (by rw [HD.out,hz];simp [Rat.zero_mul,Rat.add_zero]);clear hz HD;go_wp2;go_roundw
    case rel=>exact ⟨k+1,by omega,by go_num,C,C',p,q,p',q',by rw [F.out];exact T,by rw [F.out];exact V,U,u,hg⟩
    case measure=>simp [intOf];omega
   ·have L:(qs f.q !=0)=true:=(by simpa using fun h=>hz (Z7.1 h));clear hz;obtain ⟨y1,y2,y3,y4⟩:=a1;go_wp2_with fail;refine (rsignF_any _ f' _ D (z.sh (by omega))).mono ?_;rintro e w3 ⟨rfl,r⟩;have t:=T.later r;have a2:=U.later r;have a3:=V.below r;have G:=Za u r u.size;have ac:=a0.below r;have a4:=D.below r;have H:=Ur r P;have I:=Ur r ⟨y1,y2,y3,y4⟩;clear T U V u a0 D P y1 y2 y3 y4 r L;by_cases hz:f'.q=0
    ·have L:qs f'.q=0:=Z7.2 hz;have F:Hid (Yec xs ys (k+1)=Yec xs ys k):=Lib.hid (by rw [HD.out,hz];simp [Rat.mul_zero,Rat.add_zero]);clear hz HD;go_wp2;go_roundw
     case rel=>exact ⟨k+1,by omega,by go_num,C,C',p,q,p',q',by rw [F.out];exact t,by rw [F.out];exact a3,a2,G,hg⟩
     case measure=>simp [intOf];omega
    ·have L:(qs f'.q !=0)=true:=(by simpa using fun h=>hz (Z7.1 h));clear hz;have ad:(canF (f.q * f'.q)).Sh:=((We (R.sz hK) (z.sz hK))).sh (by omega);have a5:(canF (Yec xs ys k)).Sh:=ab.sh (Nat.le_refl _);have HV:Hid ((canF (Yec xs ys k)).q+(canF (f.q * f'.q)).q=Yec xs ys (k+1)):=Lib.hid (by rw [Zt,Zt,HD.out]);have ak:b≠w1.heap.size:=(by omega);have al:b'≠w1.heap.size:=(by omega);generalize canF (Yec xs ys k)=DK at *;go_wp2_with fail;refine wp_region_noPanic ?_;refine region_F (S:=fun w'=>(w'.cell? ⟨b,N+k * 4,none⟩=some (.bool f.num.neg)∧w'.cell? ⟨b,N+k * 4+1,none⟩=some (.slice A1 n1 k1)∧w'.cell? ⟨b,N+k * 4+2,none⟩=some (.bool f.den.neg)∧w'.cell? ⟨b,N+k * 4+3,none⟩=some (.slice A2 n2 k2))∧(w'.cell? ⟨b',x+k * 4,none⟩=some (.bool f'.num.neg)∧w'.cell? ⟨b',x+k * 4+1,none⟩=some (.slice A3 n3 k3)∧w'.cell? ⟨b',x+k * 4+2,none⟩=some (.bool f'.den.neg)∧w'.cell? ⟨b',x+k * 4+3,none⟩=some (.slice A4 n4 k4))∧(w'.cell? ⟨w1.heap.size,0,none⟩=some (.bool DK.num.neg)∧w'.cell? ⟨w1.heap.size,1,none⟩=some (.slice C p q)∧w'.cell? ⟨w1.heap.size,2,none⟩=some (.bool DK.den.neg)∧w'.cell? ⟨w1.heap.size,3,none⟩=some (.slice C' p' q'))) (n:=11) (by kernel_rfl) ?_ (fun hHeld=>?_)
     ·exact ⟨H,I,t.drew.four⟩
     refine anyF_take (i:=0) (v:=?_) rfl (by kernel_rfl) (by kernel_rfl) (by kernel_rfl) (by kernel_rfl) (fun _ _ _ h=>h) (Or.inl ⟨by rfl,?y1⟩) (by assumption) ?_
     case y1=>(intro _ a;(try dsimp only at a);go_simp;(try with_reducible rfl))
     (try simp only [Act.put,List.setIfInBounds_toArray,List.set_cons_zero,List.set_cons_succ]);refine anyF_take (i:=1) (v:=?_) rfl (by kernel_rfl) (by kernel_rfl) (by kernel_rfl) (by kernel_rfl) (fun _ _ _ h=>h) (Or.inl ⟨by rfl,?y2⟩) (by assumption) ?_
     case y2=>(intro _ a;(try dsimp only at a);go_simp;(try with_reducible rfl))
     (try simp only [Act.put,List.setIfInBounds_toArray,List.set_cons_zero,List.set_cons_succ]);refine anyF_take (i:=2) (v:=?_) rfl (by kernel_rfl) (by kernel_rfl) (by kernel_rfl) (by kernel_rfl) (fun _ _ _ h=>h) (Or.inl ⟨by rfl,?y3⟩) (by assumption) ?_
     case y3=>(intro _ a;(try dsimp only at a);go_simp;(try with_reducible rfl))
     (try simp only [Act.put,List.setIfInBounds_toArray,List.set_cons_zero,List.set_cons_succ]);refine anyF_take (i:=3) (v:=?_) rfl (by kernel_rfl) (by kernel_rfl) (by kernel_rfl) (by kernel_rfl) (fun _ _ _ h=>h) (Or.inl ⟨by rfl,?y4⟩) (by assumption) ?_
     case y4=>(intro _ a;(try dsimp only at a);go_simp;(try with_reducible rfl))
     (try simp only [Act.put,List.setIfInBounds_toArray,List.set_cons_zero,List.set_cons_succ]);refine anyF_take (i:=4) (v:=?_) rfl (by kernel_rfl) (by kernel_rfl) (by kernel_rfl) (by kernel_rfl) (fun _ _ _ h=>h) (Or.inl ⟨by rfl,?y5⟩) (by assumption) ?_
     case y5=>(intro _ a;(try dsimp only at a);go_simp;(try with_reducible rfl))
     (try simp only [Act.put,List.setIfInBounds_toArray,List.set_cons_zero,List.set_cons_succ]);refine anyF_take (i:=5) (v:=?_) rfl (by kernel_rfl) (by kernel_rfl) (by kernel_rfl) (by kernel_rfl) (fun _ _ _ h=>h) (Or.inl ⟨by rfl,?y6⟩) (by assumption) ?_
     case y6=>(intro _ a;(try dsimp only at a);go_simp;(try with_reducible rfl))
     (try simp only [Act.put,List.setIfInBounds_toArray,List.set_cons_zero,List.set_cons_succ]);refine anyF_take (i:=6) (v:=?_) rfl (by kernel_rfl) (by kernel_rfl) (by kernel_rfl) (by kernel_rfl) (fun _ _ _ h=>h) (Or.inl ⟨by rfl,?y7⟩) (by assumption) ?_
     case y7=>(intro _ a;(try dsimp only at a);go_simp;(try with_reducible rfl))
     (try simp only [Act.put,List.setIfInBounds_toArray,List.set_cons_zero,List.set_cons_succ]);refine anyF_take (i:=7) (v:=?_) rfl (by kernel_rfl) (by kernel_rfl) (by kernel_rfl) (by kernel_rfl) (fun _ _ _ h=>h) (Or.inl ⟨by rfl,?y8⟩) (by assumption) ?_
     case y8=>(intro _ a;(try dsimp only at a);go_simp;(try with_reducible rfl))
     (try simp only [Act.put,List.setIfInBounds_toArray,List.set_cons_zero,List.set_cons_succ]);refine anyF_take (i:=8) (v:=?_) rfl (by kernel_rfl) (by kernel_rfl) (by kernel_rfl) (by kernel_rfl) (fun _ _ _ h=>h) (Or.inl ⟨by rfl,?y9⟩) (by assumption) ?_
     case y9=>(intro _ a;(try dsimp only at a);go_simp;(try with_reducible rfl))
     (try simp only [Act.put,List.setIfInBounds_toArray,List.set_cons_zero,List.set_cons_succ]);refine anyF_step (i:=9) (by kernel_rfl) rfl (fun KR hKR=>?_);go_simp;(with_reducible refine (rmulF_own _ _ f f' _ (ac.keep (ZJ.drew _)) (a4.keep (ZJ.drew _)) (R.sh (by omega)) (z.sh (by omega))).mono ?_);rintro e w8 ⟨v8,rfl,e8,g⟩;refine hKR.out _ _ ?_ (fun hHeld=>?_)
     ·exact ⟨Ur g H,Ur g I,(t.drew.later g).four⟩
     clear hKR KR;(try simp only [Act.put,List.setIfInBounds_toArray,List.set_cons_zero,List.set_cons_succ]);refine anyF_step (i:=10) (by kernel_rfl) rfl (fun KR hKR=>?_);go_simp;(with_reducible refine (raddF_own _ _ DK (canF (f.q * f'.q)) _ ((a3.keep (ZJ.drew _)).below g) e8.frac a5 ad).mono ?_);rw [HV.out];rintro e w9 ⟨v9,rfl,e9,s⟩;obtain ⟨E,l9,k9,E',ai,aj,rfl,_,_⟩:=id e9.frac;obtain ⟨c0,c1,c2,c3⟩:=((t.drew.later g).later s).four;obtain ⟨f0,f1,f2,f3⟩:=((t.drew.later g).later s).fourF;refine hKR.out _ _ ?_ (fun hHeld=>?_)
     ·exact ⟨Ur s (Ur g H),Ur s (Ur g I),((t.drew.later g).later s).four⟩
     clear hKR KR;(try simp only [Act.put,List.setIfInBounds_toArray,List.set_cons_zero,List.set_cons_succ]);refine anyF_last (i:=11) (by kernel_rfl) rfl (by decide) (fun KR hKR=>?_);go_simp;refine hKR.out _ _ ?_;clear hKR KR;(try simp only [Act.put,List.setIfInBounds_toArray,List.set_cons_zero,List.set_cons_succ]);refine anyF_done (by kernel_rfl) (NoPanic.normal ?_) _;have a6:=(t.drew.later g).later s;have a7:=Za G.drew g G.size;have ae:=Za a7 s a7.size;have af:=((a2.drew.later g).later s).far4 (show w.heap.size≠w1.heap.size by omega);go_wp2;go_roundw
     case rel=>exact ⟨k+1,by omega,by go_num,E,E',l9,k9,ai,aj,a6.set4 _ _ _ _,e9.frac.keep (a6.keep4 (by decide) _ _ _ _),af _ _ _ _,ZB ae (by omega) _ _ _ _,hg⟩
     case measure=>simp [intOf];omega
  ·have a8:k=min n m:=(by omega);have X:decide (k < n)=false∨(decide (k < n)=true∧decide (k < m)=false):=by
    rcases Nat.lt_or_ge k n with h | h
    ·right;simp;omega
    ·left;simp;omega
   have ag:=Lib.hid a8;clear a8 hkl hk;obtain ⟨x1,x2,x3,x4⟩:=hX.four;obtain ⟨c0,c1,c2,c3⟩:=hR.four;obtain ⟨f0,f1,f2,f3⟩:=hR.fourF;generalize aa:canF (Yec xs ys k)=DK at *;have ah:=Lib.hid aa;clear aa;rcases X with X | ⟨X,hex2⟩;all_goals
    go_wp2;refine Zq Tryz.results30 Tryz.underlying48 (by kernel_rfl) rfl (hR.set4 _ _ _ _) rfl ?_;rw [← ag.out,ah.out];exact Yk hR hF j (Nat.le_refl _)
namespace Pl
theorem canL_zero (m:Nat):List.replicate m (canF 0)=Yl m fun _=>0:=by
 apply List.ext_getElem?;intro i;rcases Nat.lt_or_ge i m with h | h
 ·rw [ZC h,List.getElem?_replicate,if_pos h]
 ·rw [List.getElem?_eq_none (by simpa using h),List.getElem?_eq_none (by rw [Zn];exact h)]
theorem canL_succ (m:Nat) (f:Nat→Rat):Yl m f++[canF (f m)]=Yl (m+1) f:=by simp [Yl,List.range_succ]
end Pl
theorem cell5_later {w w':World} {b o:Nat} {x y z u t:Value} (hb:Below w.heap.size w w') (h:w.cell? ⟨b,o,none⟩=some x∧w.cell? ⟨b,o+1,none⟩=some y∧w.cell? ⟨b,o+2,none⟩=some z∧w.cell? ⟨b,o+3,none⟩=some u∧w.cell? ⟨b,o+4,none⟩=some t):
 w'.cell? ⟨b,o,none⟩=some x∧w'.cell? ⟨b,o+1,none⟩=some y∧w'.cell? ⟨b,o+2,none⟩=some z∧w'.cell? ⟨b,o+3,none⟩=some u∧w'.cell? ⟨b,o+4,none⟩=some t:=
 ⟨Zi hb h.1,Zi hb h.2.1,Zi hb h.2.2.1,Zi hb h.2.2.2.1,Zi hb h.2.2.2.2⟩
theorem rdense_own (v:Value) (es:List En) (m:Nat) (w:World) (h:Wv w v es) (hs:∀(k:Nat) (e:En),es[k]? =some e→e.f.Sh) (hin:inR m es) (hm0:m≤1099511627776):
 Calls Tryz.prog 78 #[v,.int .i64 (m:Int)] w fun e w'=>∃v',e= .returned v'∧Yi w.heap.size w' v' (Yl m (Xt es))∧Below w.heap.size w w':=by
 obtain ⟨A,c,rfl,I,J⟩:=h.shape;generalize hl:es.length=l at *;have HL:=Lib.hid hl;have HS:=Lib.hid hs;have HI:=Lib.hid hin;clear hl hs hin;go_enter Tryz.func78,Tryz.ntmps78;go_wp2_with fail;refine (zeros_own m _ hm0).mono ?_;rw [canL_zero];rintro _ w1 ⟨v1,rfl,hO,d⟩;have ST:Hid (Yi w.heap.size w1 v1 (Yl m (dQ (es.take 0) fun _=>0))):=Lib.hid hO;clear hO;go_wp2
 go_loopw [6] (fun i wr=>∃k:Nat,k≤l∧i= .int .i64 k∧Below w.heap.size w wr∧Yi w.heap.size wr v1 (Yl m (dQ (es.take k) fun _=>0))) (fun i _=>l - (intOf i).toNat)
 case atStart=>exact ⟨0,by omega,rfl,d,ST.out⟩
 case round=>
  clear ST d;obtain ⟨k,hk,rfl,d,hO⟩:=hrel;rcases Nat.lt_or_ge k l with hkl | hkl
  ·obtain ⟨e,he⟩:=Xk (es:=es) (i:=k) (by rw [HL.out];exact hkl);obtain ⟨b,p,A1,n1,c1,A2,n2,c2,rfl,K,o,hm⟩:=h.elem d he;obtain ⟨i0,i1⟩:=HI.out k e he;have z:=HS.out k e he;have HT:=Lib.hid (Zzu he fun _=>0);obtain ⟨g,cg,rfl,C,L,D,M⟩:=hO.shape (by rw [Zn];omega);rw [Zn] at hO D ⊢;obtain ⟨j,hj⟩:=Int.eq_ofNat_of_zero_le i0;have r:j < m:=(by omega);have t:=ZC (f:=dQ (es.take k) fun _=>0) r;have F:(k:Int) < l:=(by omega);have G:b≠g:=(by omega);have H:(j:Int) < m:=(by omega);rw [hj] at o;clear he;go_wp2_with fail;refine wp_region_noPanic ?_;refine region_F (S:=fun w'=>w'.cell? ⟨b,p+k * 5,none⟩=some (.int .i64 (j:Int))∧w'.cell? ⟨b,p+k * 5+1,none⟩=some (.bool e.f.num.neg)∧w'.cell? ⟨b,p+k * 5+2,none⟩=some (.slice A1 n1 c1)∧w'.cell? ⟨b,p+k * 5+3,none⟩=some (.bool e.f.den.neg)∧w'.cell? ⟨b,p+k * 5+4,none⟩=some (.slice A2 n2 c2)) (n:=13) (by kernel_rfl) ?_ (fun hHeld=>?_)
   ·exact o
   refine anyF_take (i:=0) (v:=?_) rfl (by kernel_rfl) (by kernel_rfl) (by kernel_rfl) (by kernel_rfl) (fun _ _ _ h=>h) (Or.inl ⟨by rfl,?y10⟩) (by assumption) ?_
   case y10=>(intro _ a;(try dsimp only at a);go_simp;(try with_reducible rfl))
   (try simp only [Act.put,List.setIfInBounds_toArray,List.set_cons_zero,List.set_cons_succ]);refine anyF_take (i:=1) (v:=?_) rfl (by kernel_rfl) (by kernel_rfl) (by kernel_rfl) (by kernel_rfl) (fun _ _ _ h=>h) (Or.inl ⟨by rfl,?y11⟩) (by assumption) ?_
   case y11=>(intro _ a;(try dsimp only at a);go_simp;(try with_reducible rfl))
   (try simp only [Act.put,List.setIfInBounds_toArray,List.set_cons_zero,List.set_cons_succ]);refine anyF_take (i:=2) (v:=?_) rfl (by kernel_rfl) (by kernel_rfl) (by kernel_rfl) (by kernel_rfl) (fun _ _ _ h=>h) (Or.inl ⟨by rfl,?y12⟩) (by assumption) ?_
   case y12=>(intro _ a;(try dsimp only at a);go_simp;(try with_reducible rfl))
   (try simp only [Act.put,List.setIfInBounds_toArray,List.set_cons_zero,List.set_cons_succ]);refine anyF_take (i:=3) (v:=?_) rfl (by kernel_rfl) (by kernel_rfl) (by kernel_rfl) (by kernel_rfl) (fun _ _ _ h=>h) (Or.inl ⟨by rfl,?y13⟩) (by assumption) ?_
   case y13=>(intro _ a;(try dsimp only at a);go_simp;(try with_reducible rfl))
   (try simp only [Act.put,List.setIfInBounds_toArray,List.set_cons_zero,List.set_cons_succ]);refine anyF_take (i:=4) (v:=?_) rfl (by kernel_rfl) (by kernel_rfl) (by kernel_rfl) (by kernel_rfl) (fun _ _ _ h=>h) (Or.inl ⟨by rfl,?y14⟩) (by assumption) ?_
   case y14=>(intro _ a;(try dsimp only at a);go_simp;(try with_reducible rfl))
   (try simp only [Act.put,List.setIfInBounds_toArray,List.set_cons_zero,List.set_cons_succ]);refine anyF_take (i:=5) (v:=?_) rfl (by kernel_rfl) (by kernel_rfl) (by kernel_rfl) (by kernel_rfl) (fun _ _ _ h=>h) (Or.inl ⟨by rfl,?y15⟩) (by assumption) ?_
   case y15=>(intro _ a;(try dsimp only at a);go_simp;(try with_reducible rfl))
   (try simp only [Act.put,List.setIfInBounds_toArray,List.set_cons_zero,List.set_cons_succ]);refine anyF_take (i:=6) (v:=?_) rfl (by kernel_rfl) (by kernel_rfl) (by kernel_rfl) (by kernel_rfl) (fun _ _ _ h=>h) (Or.inl ⟨by rfl,?y16⟩) (by assumption) ?_
   case y16=>(intro _ a;(try dsimp only at a);go_simp;(try with_reducible rfl))
   (try simp only [Act.put,List.setIfInBounds_toArray,List.set_cons_zero,List.set_cons_succ]);refine anyF_take (i:=7) (v:=?_) rfl (by kernel_rfl) (by kernel_rfl) (by kernel_rfl) (by kernel_rfl) (fun _ _ _ h=>h) (Or.inl ⟨by rfl,?y17⟩) (by assumption) ?_
   case y17=>(intro _ a;(try dsimp only at a);go_simp;(try with_reducible rfl))
   (try simp only [Act.put,List.setIfInBounds_toArray,List.set_cons_zero,List.set_cons_succ]);refine anyF_take (i:=8) (v:=?_) rfl (by kernel_rfl) (by kernel_rfl) (by kernel_rfl) (by kernel_rfl) (fun _ _ _ h=>h) (Or.inl ⟨by rfl,?y18⟩) (by assumption) ?_
   case y18=>(intro _ a;(try dsimp only at a);go_simp;(try with_reducible rfl))
   (try simp only [Act.put,List.setIfInBounds_toArray,List.set_cons_zero,List.set_cons_succ]);refine anyF_take (i:=9) (v:=?_) rfl (by kernel_rfl) (by kernel_rfl) (by kernel_rfl) (by kernel_rfl) (fun _ _ _ h=>h) (Or.inl ⟨by rfl,?y19⟩) (by assumption) ?_
   case y19=>(intro _ a;(try dsimp only at a);go_simp;(try with_reducible rfl))
   (try simp only [Act.put,List.setIfInBounds_toArray,List.set_cons_zero,List.set_cons_succ]);refine anyF_take (i:=10) (v:=?_) rfl (by kernel_rfl) (by kernel_rfl) (by kernel_rfl) (by kernel_rfl) (fun _ _ _ h=>h) (Or.inl ⟨by rfl,?y20⟩) (by assumption) ?_
   case y20=>(intro _ a;(try dsimp only at a);go_simp;(try with_reducible rfl))
   (try simp only [Act.put,List.setIfInBounds_toArray,List.set_cons_zero,List.set_cons_succ]);refine anyF_step (i:=11) (by kernel_rfl) rfl (fun KR hKR=>?_);go_simp;(with_reducible refine (Zey _ e.f _ (hm.keep (ZJ.drew _)) z).mono ?_);rintro _ w2 ⟨v2,rfl,e2,s⟩;obtain ⟨E,l9,k9,E',N,O,rfl,_,_⟩:=id e2.frac;have u:=(hO.below (Ze _)).below s;obtain ⟨_,_,_,_,⟨c0,c1,c2,c3⟩,⟨f0,f1,f2,f3⟩,_⟩:=u.at_ t;refine hKR.out _ _ ?_ (fun hHeld=>?_)
   ·exact cell5_later s o
   clear hKR KR;(try simp only [Act.put,List.setIfInBounds_toArray,List.set_cons_zero,List.set_cons_succ]);refine anyF_take (i:=12) (v:=?_) rfl (by kernel_rfl) (by kernel_rfl) (by kernel_rfl) (by kernel_rfl) (fun _ _ _ h=>h) (Or.inl ⟨by rfl,?y21⟩) (by assumption) ?_
   case y21=>(intro _ a;(try dsimp only at a);go_simp;(try with_reducible rfl))
   (try simp only [Act.put,List.setIfInBounds_toArray,List.set_cons_zero,List.set_cons_succ]);refine anyF_last (i:=13) (by kernel_rfl) rfl (by decide) (fun KR hKR=>?_);go_simp;refine hKR.out _ _ ?_;clear hKR KR;(try simp only [Act.put,List.setIfInBounds_toArray,List.set_cons_zero,List.set_cons_succ]);refine anyF_done (by kernel_rfl) (NoPanic.normal ?_) _;obtain ⟨x,P⟩:=u.set_ (k:=j) (by rw [Zn];exact r) e2.frac;rw [Vh r] at x;have B:=ZA (Za d.drew s d.size) C (j * 4) (j * 4+1) (j * 4+2) (j * 4+3);go_wp2;go_roundw
   case rel=>exact ⟨k+1,by omega,by go_num,B _ _ _ _,by
    rw [HT.out];have:Yl m (fun i=>if i=j then e.f.q else dQ (es.take k) (fun _=>0) i)=Yl m (fun (i:Nat)=>if e.idx=(i:Int) then e.f.q else dQ (es.take k) (fun _=>0) i):=Z4 fun i _=>by
     by_cases y:i=j
     ·rw [if_pos y,if_pos (by omega)]
     ·rw [if_neg y,if_neg (by omega)]
    rw [← this];exact x⟩
   case measure=>simp [intOf];omega
  ·go_wp2;go_ret;refine ⟨_,rfl,?_,d⟩;rw [List.take_of_length_le (by rw [HL.out];omega)] at hO;exact hO
theorem rcolumn_pos (v:Value) (p:LPd) (K j:Nat) (w:World) (h:LpM w v p) (ok:p.Ok K) (hK:K≤34359738368) (hin:p.In) (hj:j < p.cols.length) (hm:p.right.length≤64):
 Calls Tryz.prog 44 #[v,.int .i64 (j:Int)] w fun e w'=>∃v',e= .returned v'∧Yi w.heap.size w' v' (Yl p.right.length (p.col j))∧Below w.heap.size w w':=by
 obtain ⟨A,n,c,A',n',c',g,d,i,rfl,hc,hv,hr⟩:=h;obtain ⟨W,hW,hX,a⟩:=UV w (.slice A n c) (.slice A' n' c') (.slice g d i);obtain ⟨x0,x1,x2⟩:=hX.three;obtain ⟨m1,m2,m3⟩:=hv.len;obtain ⟨r1,r2,r3⟩:=hr.len;obtain ⟨es,he⟩:=XH hj;obtain ⟨b,r,A1,c1,rfl,s,l,m⟩:=hv.elem a he;have hO:=ok.2.2 j es he;have hI:=hin j es he;rw [← r1] at hm hI ⊢;rw [← m1] at hj;rw [LPd.col_pos he];have q:(j:Int) < n':=by omega
 have HS:Hid (∀(k:Nat) (e:En),es[k]? =some e→e.f.Sh):=Lib.hid fun k e hk=>(hO.2 k e hk).sh hK
 have HI:=Lib.hid hI;clear he hO hI r1 m1;go_enter Tryz.func44,Tryz.ntmps44;go_wp2_with fail;clear hW;refine (rdense_own _ es d _ m HS.out HI.out (by omega)).mono ?_;rintro _ w1 ⟨v1,rfl,e1,o⟩;obtain ⟨cs,ho,hf⟩:=e1;go_wp2;go_ret;exact ⟨_,rfl,⟨cs,Vi ho a.size,hf⟩,Za a o a.size⟩
end Go.Proofs.YtncmobkhenfhpaaGreat
