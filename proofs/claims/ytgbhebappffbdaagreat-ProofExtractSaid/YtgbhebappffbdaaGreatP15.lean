/- Lemmas of the claim; no condition. -/
import Derived.Test.YtgbhebappffbdaaGreatP16
set_option linter.all false
set_option maxRecDepth 100000
set_option maxHeartbeats 40000000
namespace Go.Proofs.YtgbhebappffbdaaGreat
open Go.RowKit
open Pl
attribute [local go_sem ↓] Go.wp_at_zero Go.wp_at_succ
section
section
variable {P:Program} {ops:Array Oper} {Q:Exit→Act→World→Prop} {md:Region.Mode} {S:World→Prop} {n:Nat}
def AnyF (P:Program) (md:Region.Mode) (ops:Array Oper) (Q:Exit→Act→World→Prop) (S:World→Prop) (n:Nat):Nat→Array Bool→Act→World→Prop
 | 0,listed,a,w=>Region.ready md ops listed=[]∧Q .normal a w
 | fuel+1,listed,a,w=>(Region.ready md ops listed=[]→Q .normal a w)∧
  ∀i∈Region.ready md ops listed,wpOp P ops Q i (fun a' w'=>(n≤i∨S w')∧AnyF P md ops Q S n fuel (listed.setIfInBounds i true) a' w') a w
theorem AnyF.any:∀(fuel:Nat) (listed:Array Bool) (a:Act) (w:World),AnyF P md ops Q S n fuel listed a w→wpAny P md ops Q fuel listed a w
 | 0,_,_,_,h=>h
 | fuel+1,_,_,_,h=>⟨h.1,fun i hi=>wpOp_mono (fun a' w' h'=>AnyF.any fuel _ a' w' h'.2) (h.2 i hi)⟩
theorem Zcf {id:Nat} {a:Act} {w:World} (hm:P.follows .mixedOrders=true) (hS:S w.drew)
 (h:S w.drew→AnyF P .any ops Q S n ops.size (Array.replicate ops.size false) a w.drew):(Code.region id ops true).wp P Q a w:=
 wp_region_any hm (AnyF.any _ _ _ _ (h hS))
def Zgv (md:Region.Mode) (ops:Array Oper) (n i:Nat):Bool:=(List.range ops.size).all fun j=>decide (j < n) || Region.waitsFor md ops j i
theorem Zgw {i j:Nat} (h:Zgv md ops n i=true) (hj:n≤j) {oj:Oper} (ho:ops[j]? =some oj):∃e∈oj.after,Region.binds md e=true∧e.on=i:=by
 have b:j < ops.size:=(Array.getElem?_eq_some_iff.1 ho).1;have h1:=List.all_eq_true.1 h j (List.mem_range.2 b);rw [decide_eq_false (by omega),Bool.false_or] at h1;obtain ⟨d,a,e,he,hb,c⟩:=Region.waitsFor_spec h1;rw [ho] at a;injection a with a;subst a;exact ⟨e,he,hb,c⟩
theorem Zqc {i:Nat} {oi:Oper} {v:Value} (hi:ops[i]? =some oi) (hsel:∀(j:Nat) (o:Oper) cs b,ops[j]? =some o→o.op≠ .select cs b) (hw:Zgv md ops n i=true)
 (hQ:∀c a w,Q (.panic c) (a.put oi.dst v) w→Q (.panic c) a w):
 ∀(fuel:Nat) (listed:Array Bool) (a:Act) (w:World),
  (∀j oj,ops[j]? =some oj→j≠i→listed.getD j true=false→(∀e∈oj.after,Region.binds md e=true→e.on≠i)→oi.apart ops oj=true)→
  i∈Region.ready md ops listed→YieldsIf P ops S oi v a→S w→
  AnyF P md ops Q S n fuel (listed.setIfInBounds i true) (a.put oi.dst v) w→AnyF P md ops Q S n (fuel+1) listed a w:=by
 intro fuel
 induction fuel with
 | zero=>
  intro listed a w _ hr hy hS H;refine ⟨fun h=>(by rw [h] at hr;cases hr),fun j hj=>?_⟩;by_cases d:j=i
  ·subst d;exact hy.wpOp hi hS ⟨.inr hS,H⟩
  ·have:=ready_mono hj d;rw [H.1] at this
   cases this
 | succ fuel ih=>
  intro listed a w f hr hy hS H;refine ⟨fun h=>(by rw [h] at hr;cases hr),fun j hj=>?_⟩;by_cases d:j=i
  ·subst d;exact hy.wpOp hi hS ⟨.inr hS,H⟩
  ·have h1:=H.2 j (ready_mono hj d);obtain ⟨p,oj,l,q⟩:=mem_ready.1 hj;have m:∀e∈oj.after,Region.binds md e=true→e.on≠i:=fun e he hb heq=>by
    have h1:=q e he hb;have h0:=(mem_ready.1 hr).1;rw [heq] at h1;rcases JX i listed.size with h' | h'
    ·simp [h'] at h0 h1;rw [h0] at h1;cases h1
    ·simp [Array.getElem?_eq_none h'] at h1
   have s:¬n≤j:=fun hle=>by
    obtain ⟨e,he,hb,t⟩:=Zgw hw hle l;exact m e he hb t
   have h2:=wpOp_putIf l (f j oj l d p m) (fun cs b=>hsel i oi cs b hi) (fun cs b=>hsel j oj cs b l) hQ hy h1;have g:∀k ok,ops[k]? =some ok→k≠i→(listed.setIfInBounds j true).getD k true=false→
    (∀e∈ok.after,Region.binds md e=true→e.on≠i)→oi.apart ops ok=true:=fun k ok hk hki hun hno=>by
    refine f k ok hk hki ?_ hno;by_cases r:j=k
    ·subst r;exact p
    ·rw [getD_set_ne true r] at hun;exact hun
   refine wpOp_mono (fun a' w' h3=>⟨h3.2.1,ih (listed.setIfInBounds j true) a' w' g (ready_mono hr (Ne.symm d)) h3.1 (h3.2.1.resolve_left s) ?_⟩) h2;rw [Array.setIfInBounds_comm _ _ d];exact h3.2.2
theorem Zy {i:Nat} {oi:Oper} {v:Value} {fuel:Nat} {listed:Array Bool} {a:Act} {w:World} (hi:ops[i]? =some oi)
 (hs:Region.noSelect ops=true) (hf:Region.free md ops listed i=true) (hr:(Region.ready md ops listed).contains i=true) (hw:Zgv md ops n i=true)
 (hQ:∀c a w,Q (.panic c) (a.put oi.dst v) w→Q (.panic c) a w) (hy:YieldsIf P ops S oi v a) (hS:S w)
 (h:AnyF P md ops Q S n fuel (listed.setIfInBounds i true) (a.put oi.dst v) w):AnyF P md ops Q S n (fuel+1) listed a w:=
 Zqc hi (Region.noSelect_spec hs) hw hQ fuel listed a w (Region.free_spec hi hf) (by simpa using hr) hy hS h
theorem Wj {i:Nat} {o:Oper} {fuel:Nat} {listed:Array Bool} {a:Act} {w:World} (hr:Region.ready md ops listed=[i]) (ho:ops[i]? =some o)
 (h:∀K':Act→World→Prop,Shut (∀a w,S w→(S w→AnyF P md ops Q S n fuel (listed.setIfInBounds i true) a w)→K' a w)→if Region.wanted o (yielded ops a.tmps)=true then Oper.wp P o a w K' Q else K' (a.put o.dst undef) w):
 AnyF P md ops Q S n (fuel+1) listed a w:=by
 refine ⟨fun h0=>(by rw [hr] at h0;cases h0),fun j hj=>?_⟩;rw [hr] at hj;obtain rfl:j=i:=by simpa using hj
 exact wpOp_step ho (fun K' hK=>h K' (fun a w hS hW=>hK a w ⟨.inr hS,hW hS⟩))
theorem Zdd {i:Nat} {o:Oper} {fuel:Nat} {listed:Array Bool} {a:Act} {w:World} (hr:Region.ready md ops listed=[i]) (ho:ops[i]? =some o) (hn:n≤i)
 (h:∀K':Act→World→Prop,Shut (∀a w,AnyF P md ops Q S n fuel (listed.setIfInBounds i true) a w→K' a w)→if Region.wanted o (yielded ops a.tmps)=true then Oper.wp P o a w K' Q else K' (a.put o.dst undef) w):
 AnyF P md ops Q S n (fuel+1) listed a w:=by
 refine ⟨fun h0=>(by rw [hr] at h0;cases h0),fun j hj=>?_⟩;rw [hr] at hj;obtain rfl:j=i:=by simpa using hj
 exact wpOp_step ho (fun K' hK=>h K' (fun a w hW=>hK a w ⟨.inl hn,hW⟩))
theorem UY {listed:Array Bool} {a:Act} {w:World} (hr:Region.ready md ops listed=[]) (h:Q .normal a w):∀fuel,AnyF P md ops Q S n fuel listed a w
 | 0=>⟨hr,h⟩
 | _+1=>⟨fun _=>h,by rw [hr];simp⟩
end
end
namespace Pl
def WP (es:List En) (ys:List RF) (k:Nat):Rat:=ZO (fun i=>match es[i]? with | some e=>e.f.q * qAt ys e.idx.toNat | none=>0) k
theorem Un {es:List En} {k:Nat} {e:En} (h:es[k]? =some e) (ys:List RF):WP es ys (k+1)=WP es ys k+e.f.q * qAt ys e.idx.toNat:=by
 unfold WP;rw [ZC,h]
theorem Zgy {es:List En} {ys:List RF} {K:Nat} (he:∀(k:Nat) (e:En),es[k]? =some e→e.f.Rs K) (hy:RsL K ys) (hK:1≤K) (k:Nat):Sz (1+k * (2 * K+1)) (WP es ys k):=
 Zjg fun i _=>by
  split
  ·rename_i e h
   exact (XN ((he i e h).sz hK) (hy.qAt hK _)).mono (by omega)
  ·exact Sz_zero.mono (by omega)
end Pl
theorem Zab (w:World):Calls Tryz.prog 35 #[.int .i64 0,.int .i64 1] w fun e w'=>∃v',e= .returned (.tuple #[v',.int .i64 0])∧Zt w' v' (canF 0)∧Below w.heap.size w w':=by
 refine (Ww 0 1 w (by omega) (by omega) (by omega) (by omega)).mono ?_;rintro e w' ⟨v',h1,h2,h3⟩;rw [if_neg (by omega)] at h1 h2;rw [Rat.zero_divInt] at h2;exact ⟨v',h1,h2,h3⟩
def Zxy (q:Rat) (w:World) (g:Nat) (wr:World):Prop:=
 ∃(A A':Option Addr) (n c n' c':Nat),Bk wr g 46 [.bool (canF q).num.neg,.slice A n c,.bool (canF q).den.neg,.slice A' n' c']∧Zt wr (.agg #[.bool (canF q).num.neg,.slice A n c,.bool (canF q).den.neg,.slice A' n' c']) (canF q)∧
  Bk wr w.heap.size 46 [.bool false,.slice none 0 0,.bool false,.slice none 0 0]∧Below w.heap.size w wr∧w.heap.size < g
theorem Vh (v1 v2:Value) (xs ys:List RF) (K:Nat) (w:World) (h1:Xh w v1 xs) (h2:Xh w v2 ys) (hlen:xs.length≤ys.length) (hK:1≤K) (ha:RsL K xs) (hb:RsL K ys) (hs:1+xs.length * (2 * K+1)≤34359738368) (hs2:2 * K≤34359738368):
 Calls Tryz.prog 52 #[v1,v2] w fun e w'=>∃v',e= .returned v'∧Zt w' v' (canF (Zbb xs ys xs.length))∧Below w.heap.size w w':=by
 obtain ⟨A,c,rfl,aa,ab⟩:=h1.shape;obtain ⟨A',c',rfl,ac,ad⟩:=h2.shape;generalize hn:xs.length=l at *;generalize hm:ys.length=m at *;have HN:=JZ hn;have HM:=JZ hm;have HA:=JZ ha;have HB:=JZ hb;have HS:=JZ hs;obtain ⟨TQ,y⟩:∃TQ:Nat→Rat,TQ=Zbb xs ys:=⟨_,rfl⟩;rw [← y];have I:=JZ y;have R:Hid ((0:Rat)=TQ 0):=JZ (by rw [y];rfl);clear hn hm ha hb hs y;obtain ⟨W,hW,hR,j⟩:=YN w (.bool false) (.slice none 0 0) (.bool false) (.slice none 0 0);go_enter Tryz.func52,Tryz.ntmps52;go_wp2_with fail;clear hW;refine (Zab _).mono ?_;rw [R.out];rintro e w1 ⟨v1,rfl,e1,F⟩;obtain ⟨B,l0,d,B',z,d',rfl,_,_⟩:=id e1;have hX:=Bk.new w1 46 [.bool (canF (TQ 0)).num.neg,.slice B l0 d,.bool (canF (TQ 0)).den.neg,.slice B' z d'];have bn:=Zb w1 (.cells [.bool (canF (TQ 0)).num.neg,.slice B l0 d,.bool (canF (TQ 0)).den.neg,.slice B' z d'].toArray 46);have b1:=Za j F j.size;have start:Zxy (TQ 0) w w1.heap.size (w1.alloc (.cells #[.bool (canF (TQ 0)).num.neg,.slice B l0 d,.bool (canF (TQ 0)).den.neg,.slice B' z d'] 46)):=
  ⟨B,B',l0,d,z,d',hX,e1.below bn,(hR.later F).later bn,Za b1 bn b1.size,(hR.later F).lt⟩
 have ST:=JZ start;clear start hX bn b1 hR j F e1;generalize canF (TQ 0)=D0 at *;go_wp2
 go_loopw [15] (fun i wr=>∃k:Nat,k≤l∧i= .int .i64 k∧Zxy (TQ k) w w1.heap.size wr) (fun i _=>l - (intOf i).toNat)
 case atStart=>exact ⟨0,by omega,rfl,ST.out⟩
 case round=>
  obtain ⟨k,hk,rfl,C,C',p,q,p',q',hX,hF,hR,j,hg⟩:=hrel;rcases JX k l with hkl | hkl
  ·obtain ⟨f,hf⟩:=Yb (fs:=xs) (i:=k) (by rw [HN.out];exact hkl);obtain ⟨f',D⟩:=Yb (fs:=ys) (i:=k) (by rw [HM.out];omega);obtain ⟨b,ae,A1,n1,k1,A2,n2,k2,rfl,af,a3,N⟩:=h1.elem j hf;obtain ⟨x1,x2,x3,x4⟩:=a3;obtain ⟨W1,a4,hV,x⟩:=YN wr (.bool f.num.neg) (.slice A1 n1 k1) (.bool f.den.neg) (.slice A2 n2 k2);have t:=Za j x j.size;obtain ⟨b',r,A3,n3,k3,A4,n4,k4,rfl,a7,H,O⟩:=h2.elem t D;have T:=N.below x;have s:=hX.later x;have U:=hR.later x;have V:=hF.below x;have a8:(k:Int) < l:=(by omega);have a9:(k:Int) < m:=(by omega);have G:=HA.out k f hf;have u:=HB.out k f' D;have X:=G.sm (by omega);have J:=u.sm (by omega);have Y:(canF (f.q * f'.q)).Sm:=((XN (G.sz hK) (u.sz hK)).sh (by omega)).sm;have Z:(canF (TQ k)).Sm:=by
    rw [I.out];refine ((Ztq HA.out HB.out hK).sh ?_).sm;have:=JS (2 * K+1) hk;have:=HS.out;omega
   have HV:Hid ((canF (TQ k)).q+(canF (f.q * f'.q)).q=TQ (k+1)):=JZ (by rw [Zu,Zu,I.out,Ztp,Yo hf,Yo D]);generalize canF (TQ k)=DK at *;clear hf D hX hR hF j N;go_wp2_with fail;clear a4;refine wp_region_noPanic ?_;refine Zcf (S:=fun w'=>(w'.cell? ⟨w1.heap.size,0,none⟩=some (.bool DK.num.neg)∧w'.cell? ⟨w1.heap.size,1,none⟩=some (.slice C p q)∧w'.cell? ⟨w1.heap.size,2,none⟩=some (.bool DK.den.neg)∧w'.cell? ⟨w1.heap.size,3,none⟩=some (.slice C' p' q'))∧(w'.cell? ⟨wr.heap.size,0,none⟩=some (.bool f.num.neg)∧w'.cell? ⟨wr.heap.size,1,none⟩=some (.slice A1 n1 k1)∧w'.cell? ⟨wr.heap.size,2,none⟩=some (.bool f.den.neg)∧w'.cell? ⟨wr.heap.size,3,none⟩=some (.slice A2 n2 k2))∧(w'.cell? ⟨b',r+k * 4,none⟩=some (.bool f'.num.neg)∧w'.cell? ⟨b',r+k * 4+1,none⟩=some (.slice A3 n3 k3)∧w'.cell? ⟨b',r+k * 4+2,none⟩=some (.bool f'.den.neg)∧w'.cell? ⟨b',r+k * 4+3,none⟩=some (.slice A4 n4 k4))) (n:=8) (by kernel_rfl) ?_ (fun hHeld=>?_)
   ·exact ⟨s.drew.four,hV.drew.four,H⟩
   refine Zy (i:=0) (v:=?_) rfl (by kernel_rfl) (by kernel_rfl) (by kernel_rfl) (by kernel_rfl) (fun _ _ _ h=>h) (Or.inl ⟨by rfl,?y1⟩) (by assumption) ?_
   case y1=>(intro _ g;(try dsimp only at g);go_simp;(try with_reducible rfl))
   (try simp only [Act.put,pu1,pu2,pu3,pu4,pu5,pu6]);refine Zy (i:=1) (v:=?_) rfl (by kernel_rfl) (by kernel_rfl) (by kernel_rfl) (by kernel_rfl) (fun _ _ _ h=>h) (Or.inl ⟨by rfl,?y2⟩) (by assumption) ?_
   case y2=>(intro _ g;(try dsimp only at g);go_simp;(try with_reducible rfl))
   (try simp only [Act.put,pu1,pu2,pu3,pu4,pu5,pu6]);refine Zy (i:=2) (v:=?_) rfl (by kernel_rfl) (by kernel_rfl) (by kernel_rfl) (by kernel_rfl) (fun _ _ _ h=>h) (Or.inl ⟨by rfl,?y3⟩) (by assumption) ?_
   case y3=>(intro _ g;(try dsimp only at g);go_simp;(try with_reducible rfl))
   (try simp only [Act.put,pu1,pu2,pu3,pu4,pu5,pu6]);refine Zy (i:=3) (v:=?_) rfl (by kernel_rfl) (by kernel_rfl) (by kernel_rfl) (by kernel_rfl) (fun _ _ _ h=>h) (Or.inl ⟨by rfl,?y4⟩) (by assumption) ?_
   case y4=>(intro _ g;(try dsimp only at g);go_simp;(try with_reducible rfl))
   (try simp only [Act.put,pu1,pu2,pu3,pu4,pu5,pu6]);refine Zy (i:=4) (v:=?_) rfl (by kernel_rfl) (by kernel_rfl) (by kernel_rfl) (by kernel_rfl) (fun _ _ _ h=>h) (Or.inl ⟨by rfl,?y5⟩) (by assumption) ?_
   case y5=>(intro _ g;(try dsimp only at g);go_simp;(try with_reducible rfl))
   (try simp only [Act.put,pu1,pu2,pu3,pu4,pu5,pu6]);refine Zy (i:=5) (v:=?_) rfl (by kernel_rfl) (by kernel_rfl) (by kernel_rfl) (by kernel_rfl) (fun _ _ _ h=>h) (Or.inl ⟨by rfl,?y6⟩) (by assumption) ?_
   case y6=>(intro _ g;(try dsimp only at g);go_simp;(try with_reducible rfl))
   (try simp only [Act.put,pu1,pu2,pu3,pu4,pu5,pu6]);refine Wj (i:=6) (by kernel_rfl) rfl (fun KR hKR=>?_);go_simp;(with_reducible refine (XJ _ _ f f' _ (T.keep (ZF.drew _)) (O.keep (ZF.drew _)) X J).mono ?_);rintro e w8 ⟨v8,rfl,e8,a⟩;refine hKR.out _ _ ?_ (fun hHeld=>?_)
   ·exact ⟨(s.drew.later a).four,(hV.drew.later a).four,ZP a H⟩
   clear hKR KR;(try simp only [Act.put,pu1,pu2,pu3,pu4,pu5,pu6]);refine Wj (i:=7) (by kernel_rfl) rfl (fun KR hKR=>?_);go_simp;(with_reducible refine (VW _ _ DK (canF (f.q * f'.q)) _ ((V.keep (ZF.drew _)).below a) e8 Z Y).mono ?_);rw [HV.out];rintro e w9 ⟨v9,rfl,e9,o⟩;obtain ⟨E,l9,k9,E',a5,a6,rfl,_,_⟩:=id e9;obtain ⟨c0,c1,c2,c3⟩:=((s.drew.later a).later o).four;obtain ⟨f0,f1,f2,f3⟩:=((s.drew.later a).later o).fourF;refine hKR.out _ _ ?_ (fun hHeld=>?_)
   ·exact ⟨((s.drew.later a).later o).four,((hV.drew.later a).later o).four,ZP o (ZP a H)⟩
   clear hKR KR;(try simp only [Act.put,pu1,pu2,pu3,pu4,pu5,pu6]);refine Zdd (i:=8) (by kernel_rfl) rfl (by decide) (fun KR hKR=>?_);go_simp;refine hKR.out _ _ ?_;clear hKR KR;(try simp only [Act.put,pu1,pu2,pu3,pu4,pu5,pu6]);refine UY (by kernel_rfl) (NoPanic.normal ?_) _;have L:=(s.drew.later a).later o;have M:=Za t.drew a t.size;have a0:=Za M o M.size;have a1:=((U.drew.later a).later o).far4 (show w.heap.size≠w1.heap.size by omega);go_wp2;go_roundw
   case rel=>exact ⟨k+1,by omega,by go_num,E,E',l9,k9,a5,a6,L.set4 _ _ _ _,e9.keep (L.keep4 (by decide) _ _ _ _),a1 _ _ _ _,ZG a0 (by omega) _ _ _ _,hg⟩
   case measure=>simp [intOf];omega
  ·obtain rfl:k=l:=by omega
   obtain ⟨x1,x2,x3,x4⟩:=hX.four;obtain ⟨c0,c1,c2,c3⟩:=hR.four;obtain ⟨f0,f1,f2,f3⟩:=hR.fourF;generalize P:canF (TQ k)=DK at *;have a2:=JZ P;clear P;go_wp2;refine Zn Tryz.results52 Tryz.underlying46 (by kernel_rfl) rfl (hR.set4 _ _ _ _) rfl ?_;rw [a2.out];exact Z0 hR hF j (JY _)
theorem Zjk (v1 v2:Value) (es:List En) (ys:List RF) (K:Nat) (w:World) (h1:Vf w v1 es) (h2:Xh w v2 ys) (hin:inR ys.length es) (hK:1≤K) (ha:∀(k:Nat) (e:En),es[k]? =some e→e.f.Rs K) (hb:RsL K ys) (hs:1+es.length * (2 * K+1)≤34359738368) (hs2:2 * K≤34359738368):
 Calls Tryz.prog 51 #[v1,v2] w fun e w'=>∃v',e= .returned v'∧Zt w' v' (canF (WP es ys es.length))∧Below w.heap.size w w':=by
 obtain ⟨A,c,rfl,ac,ad⟩:=h1.shape;obtain ⟨A',c',rfl,ae,af⟩:=h2.shape;generalize hn:es.length=l at *;generalize hm:ys.length=m at *;have HN:=JZ hn;have HM:=JZ hm;have HA:=JZ ha;have HB:=JZ hb;have HS:=JZ hs;have HI:=JZ hin;obtain ⟨TQ,z⟩:∃TQ:Nat→Rat,TQ=WP es ys:=⟨_,rfl⟩;rw [← z];have J:=JZ z;have T:Hid ((0:Rat)=TQ 0):=JZ (by rw [z];rfl);clear hn hm ha hb hs z hin;obtain ⟨W,hW,hR,o⟩:=YN w (.bool false) (.slice none 0 0) (.bool false) (.slice none 0 0);go_enter Tryz.func51,Tryz.ntmps51;go_wp2_with fail;clear hW;refine (Zab _).mono ?_;rw [T.out];rintro e w1 ⟨v1,rfl,e1,G⟩;obtain ⟨B,l0,d,B',D,d',rfl,_,_⟩:=id e1;have hX:=Bk.new w1 46 [.bool (canF (TQ 0)).num.neg,.slice B l0 d,.bool (canF (TQ 0)).den.neg,.slice B' D d'];have bn:=Zb w1 (.cells [.bool (canF (TQ 0)).num.neg,.slice B l0 d,.bool (canF (TQ 0)).den.neg,.slice B' D d'].toArray 46);have b1:=Za o G o.size;have start:Zxy (TQ 0) w w1.heap.size (w1.alloc (.cells #[.bool (canF (TQ 0)).num.neg,.slice B l0 d,.bool (canF (TQ 0)).den.neg,.slice B' D d'] 46)):=
  ⟨B,B',l0,d,D,d',hX,e1.below bn,(hR.later G).later bn,Za b1 bn b1.size,(hR.later G).lt⟩
 have ST:=JZ start;clear start hX bn b1 hR o G e1;generalize canF (TQ 0)=D0 at *;go_wp2
 go_loopw [15] (fun i wr=>∃k:Nat,k≤l∧i= .int .i64 k∧Zxy (TQ k) w w1.heap.size wr) (fun i _=>l - (intOf i).toNat)
 case atStart=>exact ⟨0,by omega,rfl,ST.out⟩
 case round=>
  obtain ⟨k,hk,rfl,C,C',p,q,p',q',hX,hF,hR,o,hg⟩:=hrel;rcases JX k l with hkl | hkl
  ·obtain ⟨e,he⟩:=YZ (es:=es) (i:=k) (by rw [HN.out];exact hkl);obtain ⟨b,ag,A1,n1,k1,A2,n2,k2,rfl,ah,a5,O⟩:=h1.elem o he;obtain ⟨i0,i1⟩:=HI.out k e he;obtain ⟨j,hj⟩:=JT i0;obtain ⟨f',F⟩:=Yb (fs:=ys) (i:=j) (by rw [HM.out];omega);have U:=JZ (Un he ys);have H:=HA.out k e he;obtain ⟨ei,f⟩:=e;simp only at *;subst hj;obtain ⟨x0,x1,x2,x3,x4⟩:=a5;obtain ⟨W1,a6,hV,y⟩:=Zaa wr (.int .i64 (j:Int)) (.bool f.num.neg) (.slice A1 n1 k1) (.bool f.den.neg) (.slice A2 n2 k2);have u:=Za o y o.size;obtain ⟨b',s,A3,n3,k3,A4,n4,k4,rfl,a9,I,P⟩:=h2.elem u F;have V:=O.below y;have t:=hX.later y;have X:=hR.later y;have Y:=hF.below y;have aa:(k:Int) < l:=(by omega);have ab:(j:Int) < m:=(by omega);have x:=HB.out j f' F;have Z:=H.sm (by omega);have L:=x.sm (by omega);have a0:(canF (f.q * f'.q)).Sm:=((XN (H.sz hK) (x.sz hK)).sh (by omega)).sm;have a1:(canF (TQ k)).Sm:=by
    rw [J.out];refine ((Zgy HA.out HB.out hK k).sh ?_).sm;have:=JS (2 * K+1) hk;have:=HS.out;omega
   have HV:Hid ((canF (TQ k)).q+(canF (f.q * f'.q)).q=TQ (k+1)):=JZ (by rw [Zu,Zu,J.out,U.out,JP,Yo F]);generalize canF (TQ k)=DK at *;clear he F hX hR hF o O;go_wp2_with fail;clear a6;refine wp_region_noPanic ?_;refine Zcf (S:=fun w'=>(w'.cell? ⟨w1.heap.size,0,none⟩=some (.bool DK.num.neg)∧w'.cell? ⟨w1.heap.size,1,none⟩=some (.slice C p q)∧w'.cell? ⟨w1.heap.size,2,none⟩=some (.bool DK.den.neg)∧w'.cell? ⟨w1.heap.size,3,none⟩=some (.slice C' p' q'))∧(w'.cell? ⟨wr.heap.size,0,none⟩=some (.int .i64 (j:Int))∧w'.cell? ⟨wr.heap.size,1,none⟩=some (.bool f.num.neg)∧w'.cell? ⟨wr.heap.size,2,none⟩=some (.slice A1 n1 k1)∧w'.cell? ⟨wr.heap.size,3,none⟩=some (.bool f.den.neg)∧w'.cell? ⟨wr.heap.size,4,none⟩=some (.slice A2 n2 k2))∧(w'.cell? ⟨b',s+j * 4,none⟩=some (.bool f'.num.neg)∧w'.cell? ⟨b',s+j * 4+1,none⟩=some (.slice A3 n3 k3)∧w'.cell? ⟨b',s+j * 4+2,none⟩=some (.bool f'.den.neg)∧w'.cell? ⟨b',s+j * 4+3,none⟩=some (.slice A4 n4 k4))) (n:=10) (by kernel_rfl) ?_ (fun hHeld=>?_)
   ·exact ⟨t.drew.four,hV.drew.five,I⟩
   refine Zy (i:=0) (v:=?_) rfl (by kernel_rfl) (by kernel_rfl) (by kernel_rfl) (by kernel_rfl) (fun _ _ _ h=>h) (Or.inl ⟨by rfl,?y7⟩) (by assumption) ?_
   case y7=>(intro _ a;(try dsimp only at a);go_simp;(try with_reducible rfl))
   (try simp only [Act.put,pu1,pu2,pu3,pu4,pu5,pu6]);refine Zy (i:=1) (v:=?_) rfl (by kernel_rfl) (by kernel_rfl) (by kernel_rfl) (by kernel_rfl) (fun _ _ _ h=>h) (Or.inl ⟨by rfl,?y8⟩) (by assumption) ?_
   case y8=>(intro _ a;(try dsimp only at a);go_simp;(try with_reducible rfl))
   (try simp only [Act.put,pu1,pu2,pu3,pu4,pu5,pu6]);refine Zy (i:=2) (v:=?_) rfl (by kernel_rfl) (by kernel_rfl) (by kernel_rfl) (by kernel_rfl) (fun _ _ _ h=>h) (Or.inl ⟨by rfl,?y9⟩) (by assumption) ?_
   case y9=>(intro _ a;(try dsimp only at a);go_simp;(try with_reducible rfl))
   (try simp only [Act.put,pu1,pu2,pu3,pu4,pu5,pu6]);refine Zy (i:=3) (v:=?_) rfl (by kernel_rfl) (by kernel_rfl) (by kernel_rfl) (by kernel_rfl) (fun _ _ _ h=>h) (Or.inl ⟨by rfl,?y10⟩) (by assumption) ?_
   case y10=>(intro _ a;(try dsimp only at a);go_simp;(try with_reducible rfl))
   (try simp only [Act.put,pu1,pu2,pu3,pu4,pu5,pu6]);refine Zy (i:=4) (v:=?_) rfl (by kernel_rfl) (by kernel_rfl) (by kernel_rfl) (by kernel_rfl) (fun _ _ _ h=>h) (Or.inl ⟨by rfl,?y11⟩) (by assumption) ?_
   case y11=>(intro _ a;(try dsimp only at a);go_simp;(try with_reducible rfl))
   (try simp only [Act.put,pu1,pu2,pu3,pu4,pu5,pu6]);refine Zy (i:=5) (v:=?_) rfl (by kernel_rfl) (by kernel_rfl) (by kernel_rfl) (by kernel_rfl) (fun _ _ _ h=>h) (Or.inl ⟨by rfl,?y12⟩) (by assumption) ?_
   case y12=>(intro _ a;(try dsimp only at a);go_simp;(try with_reducible rfl))
   (try simp only [Act.put,pu1,pu2,pu3,pu4,pu5,pu6]);refine Zy (i:=6) (v:=?_) rfl (by kernel_rfl) (by kernel_rfl) (by kernel_rfl) (by kernel_rfl) (fun _ _ _ h=>h) (Or.inl ⟨by rfl,?y13⟩) (by assumption) ?_
   case y13=>(intro _ a;(try dsimp only at a);go_simp;(try with_reducible rfl))
   (try simp only [Act.put,pu1,pu2,pu3,pu4,pu5,pu6]);refine Zy (i:=7) (v:=?_) rfl (by kernel_rfl) (by kernel_rfl) (by kernel_rfl) (by kernel_rfl) (fun _ _ _ h=>h) (Or.inl ⟨by rfl,?y14⟩) (by assumption) ?_
   case y14=>(intro _ a;(try dsimp only at a);go_simp;(try with_reducible rfl))
   (try simp only [Act.put,pu1,pu2,pu3,pu4,pu5,pu6]);refine Wj (i:=8) (by kernel_rfl) rfl (fun KR hKR=>?_);go_simp;(with_reducible refine (XJ _ _ f f' _ (V.keep (ZF.drew _)) (P.keep (ZF.drew _)) Z L).mono ?_);rintro e w8 ⟨v8,rfl,e8,g⟩;refine hKR.out _ _ ?_ (fun hHeld=>?_)
   ·exact ⟨(t.drew.later g).four,(hV.drew.later g).five,ZP g I⟩
   clear hKR KR;(try simp only [Act.put,pu1,pu2,pu3,pu4,pu5,pu6]);refine Wj (i:=9) (by kernel_rfl) rfl (fun KR hKR=>?_);go_simp;(with_reducible refine (VW _ _ DK (canF (f.q * f'.q)) _ ((Y.keep (ZF.drew _)).below g) e8 a1 a0).mono ?_);rw [HV.out];rintro e w9 ⟨v9,rfl,e9,r⟩;obtain ⟨E,l9,k9,E',a7,a8,rfl,_,_⟩:=id e9;obtain ⟨c0,c1,c2,c3⟩:=((t.drew.later g).later r).four;obtain ⟨f0,f1,f2,f3⟩:=((t.drew.later g).later r).fourF;refine hKR.out _ _ ?_ (fun hHeld=>?_)
   ·exact ⟨((t.drew.later g).later r).four,((hV.drew.later g).later r).five,ZP r (ZP g I)⟩
   clear hKR KR;(try simp only [Act.put,pu1,pu2,pu3,pu4,pu5,pu6]);refine Zdd (i:=10) (by kernel_rfl) rfl (by decide) (fun KR hKR=>?_);go_simp;refine hKR.out _ _ ?_;clear hKR KR;(try simp only [Act.put,pu1,pu2,pu3,pu4,pu5,pu6]);refine UY (by kernel_rfl) (NoPanic.normal ?_) _;have M:=(t.drew.later g).later r;have N:=Za u.drew g u.size;have a2:=Za N r N.size;have a3:=((X.drew.later g).later r).far4 (show w.heap.size≠w1.heap.size by omega);go_wp2;go_roundw
   case rel=>exact ⟨k+1,by omega,by go_num,E,E',l9,k9,a7,a8,M.set4 _ _ _ _,e9.keep (M.keep4 (by decide) _ _ _ _),a3 _ _ _ _,ZG a2 (by omega) _ _ _ _,hg⟩
   case measure=>simp [intOf];omega
  ·obtain rfl:k=l:=by omega
   obtain ⟨x1,x2,x3,x4⟩:=hX.four;obtain ⟨c0,c1,c2,c3⟩:=hR.four;obtain ⟨f0,f1,f2,f3⟩:=hR.fourF;generalize R:canF (TQ k)=DK at *;have a4:=JZ R;clear R;go_wp2;refine Zn Tryz.results51 Tryz.underlying46 (by kernel_rfl) rfl (hR.set4 _ _ _ _) rfl ?_;rw [a4.out];exact Z0 hR hF o (JY _)
namespace Pl
theorem WA (f g:Nat→Rat) (n:Nat):ZO (fun i=>f i+g i) n=ZO f n+ZO g n:=by
 induction n with
 | zero=>simp [YK,Rat.add_zero]
 | succ n ih=>rw [ZC,ZC,ZC,ih];grind
theorem Xe (c:Rat) (f:Nat→Rat) (n:Nat):ZO (fun i=>c * f i) n=c * ZO f n:=by
 induction n with
 | zero=>simp [YK,Rat.mul_zero]
 | succ n ih=>rw [ZC,ZC,ih];grind
theorem Vi (n:Nat):ZO (fun _=>0) n=0:=by
 induction n with
 | zero=>rfl
 | succ n ih=>rw [ZC,ih,Rat.add_zero]
theorem VG (f:Nat→Nat→Rat) (n m:Nat):ZO (fun i=>ZO (fun j=>f i j) m) n=ZO (fun j=>ZO (fun i=>f i j) n) m:=by
 induction n with
 | zero=>simp only [YK];rw [Vi]
 | succ n ih=>
  rw [ZC,ih,← WA];rfl
theorem WC {n k:Nat} (hk:k < n) (c:Rat):ZO (fun i=>if i=k then c else 0) n=c:=by
 induction n with
 | zero=>omega
 | succ n ih=>
  rw [ZC];by_cases h:n=k
  ·subst h;rw [if_pos rfl,Zk (g:=fun _=>0) (fun i hi=>if_neg (by omega)),Vi,Rat.zero_add]
  ·rw [if_neg h,ih (by omega),Rat.add_zero]
def Zgz (ys:List RF) (f:Nat→Rat) (m:Nat):Rat:=ZO (fun i=>qAt ys i * f i) m
theorem Zjm {ys:List RF} {f:Nat→Rat} {m:Nat}:Zbb ys (Yj m f) m=Zgz ys f m:=Zk fun i hi=>by rw [YH hi]
theorem Zdk {es:List En} {ys:List RF} {m:Nat} (hin:inR m es) (hinc:Inc none es):∀k,k≤es.length→WP es ys k=Zgz ys (dQ (es.take k) fun _=>0) m:=by
 intro k
 induction k with
 | zero=>
  intro _;show 0=_;unfold Zgz;rw [Zk (g:=fun _=>0) (fun i _=>by simp [dQ,Rat.mul_zero]),Vi]
 | succ k ih=>
  intro hk;obtain ⟨e,he⟩:∃e,es[k]? =some e:=⟨es[k],JQ (by omega)⟩;obtain ⟨h0,h1⟩:=hin k e he;obtain ⟨d,hd⟩:=JT h0;have a:d < m:=by omega
  rw [Un he,ih (by omega),Ztt he];have hf:dQ (es.take k) (fun _=>0) d=0:=Zoe hinc he hd;have:Zgz ys (fun i=>if e.idx=(i:Int) then e.f.q else dQ (es.take k) (fun _=>0) i) m=ZO (fun i=>qAt ys i * dQ (es.take k) (fun _=>0) i+if i=d then qAt ys d * e.f.q else 0) m:=Zk fun i _=>by
   show qAt ys i * (if e.idx=(i:Int) then e.f.q else dQ (es.take k) (fun _=>0) i)=_;by_cases hi:i=d
   ·subst hi;rw [if_pos hd,if_pos rfl,hf];grind
   ·rw [if_neg (show ¬e.idx=(i:Int) by omega),if_neg hi,Rat.add_zero]
  rw [this,WA,WC a];unfold Zgz;rw [hd,JP,Rat.mul_comm e.f.q]
theorem Zfr {es:List En} {ys:List RF} {m:Nat} (hin:inR m es) (hinc:Inc none es):WP es ys es.length=Zgz ys (Wl es) m:=by
 rw [Zdk hin hinc _ (JY _),List.take_length];rfl
def Zez (p:LPd) (ys:List RF) (k:Nat):Prop:=∀j,j < k→Zgz ys (p.col (j:Int)) p.right.length≤qAt p.cost j
instance (p:LPd) (ys:List RF) (k:Nat):Decidable (Zez p ys k):=by unfold Zez;infer_instance
def Zfa (p:LPd) (ys:List RF):Bool:=decide (lpErr p=0) && (decide (ys.length=p.right.length) && decide (Zez p ys p.cols.length))
theorem Yek {p:LPd} {ys:List RF} (h:lpErr p≠0):Zfa p ys=false:=by simp [Zfa,h]
theorem Yel {p:LPd} {ys:List RF} (h:ys.length≠p.right.length):Zfa p ys=false:=by simp [Zfa,h]
theorem Yem {p:LPd} {ys:List RF} {j:Nat} (hj:j < p.cols.length) (h:¬Zgz ys (p.col (j:Int)) p.right.length≤qAt p.cost j):Zfa p ys=false:=by
 have:¬Zez p ys p.cols.length:=fun g=>h (g j hj)
 simp [Zfa,this]
theorem Zzy {p:LPd} {ys:List RF} (h1:lpErr p=0) (h2:ys.length=p.right.length) (h:Zez p ys p.cols.length):Zfa p ys=true:=by
 unfold Zfa;rw [decide_eq_true h1,decide_eq_true h2,decide_eq_true h];rfl
theorem Ztv {p:LPd} {ys:List RF} (h:Zfa p ys=true):lpErr p=0∧ys.length=p.right.length∧Zez p ys p.cols.length:=by
 simpa [Zfa] using h
theorem Zqj (p:LPd) (ys:List RF):Zez p ys 0:=fun j h=>by omega
theorem Zqk {p:LPd} {ys:List RF} {k:Nat} (h:Zez p ys k) (h1:Zgz ys (p.col (k:Int)) p.right.length≤qAt p.cost k):Zez p ys (k+1):=fun j hj=>by
 rcases Nat.eq_or_lt_of_le (Nat.le_of_lt_succ hj) with e | e
 ·subst e;exact h1
 ·exact h j e
theorem Zjn {q:Rat}:qs q < 0↔q < 0:=by
 have h:qs q < 0↔q.num < 0:=by unfold qs sgn;split <;> rename_i h <;> (try split) <;> omega
 rw [h,← Rat.not_le,← Rat.num_nonneg];omega
theorem Zjo {q:Rat}:0 < qs q↔0 < q:=by
 have h:0 < qs q↔0 < q.num:=by unfold qs sgn;split <;> rename_i h <;> (try split) <;> omega
 have h2:q.num=0↔q=0:=Rat.num_eq_zero;have h3:0≤q.num↔0≤q:=Rat.num_nonneg;rw [h];constructor
 ·intro g;have:q≠0:=fun e=>by have:=h2.2 e;omega
  have:=h3.1 (by omega);grind
 ·intro g;have h4:q.num≠0:=fun e=>by have:=h2.1 e;grind
  have:=h3.2 (by grind);omega
theorem Yen {q:Rat}:qs q≤0↔q≤0:=by
 have:=@Zjo q;rw [← Rat.not_lt,← this];omega
theorem Zfs {a b:Rat}:0 < qs (a - b)↔¬a≤b:=by rw [Zjo];grind
end Pl
namespace Pl
theorem Zof (f g:Nat→Rat) (n:Nat):ZO (fun i=>f i - g i) n=ZO f n - ZO g n:=by
 induction n with
 | zero=>rw [YK,YK,YK];grind
 | succ n ih=>rw [ZC,ZC,ZC,ih];grind
theorem WQ {f:Nat→Rat} {n:Nat} (h:∀i,i < n→f i=0):ZO f n=0:=by
 rw [Zk h];exact Vi n
theorem Y2 {f:Nat→Rat} {n k:Nat} (hk:k < n) (h:∀i,i < n→i≠k→f i=0):ZO f n=f k:=by
 rw [Zk (g:=fun i=>if i=k then f k else 0) fun i hi=>?_]
 ·exact WC hk (f k)
 ·by_cases e:i=k
  ·rw [if_pos e,e]
  ·rw [if_neg e,h i hi e]
theorem X4 {f:Nat→Rat} {n m:Nat} (hm:n≤m) (h:∀i,n≤i→i < m→f i=0):ZO f m=ZO f n:=by
 induction m with
 | zero=>
  obtain rfl:n=0:=by omega
  rfl
 | succ m ih=>
  rcases JX n (m+1) with e | e
  ·rw [ZC,h m (by omega) (by omega),ih (by omega) fun i h1 h2=>h i h1 (by omega)];grind
  ·obtain rfl:n=m+1:=by omega
   rfl
def Zft (m:Nat) (M:Mx) (y:Nat→Rat) (r:Nat):Rat:=ZO (fun c=>M r c * y c) m
def Zbv (m:Nat) (M:Mx) (y:Nat→Rat):Prop:=∀r,r < m→Zft m M y r=M r m
def Zfu (m k:Nat) (M:Mx):Prop:=∀r c,r < m→c < k→M r c=if r=c then 1 else 0
theorem Zjp {m:Nat} {A B C:Mx} {y:Nat→Rat} {r s t:Nat} {a b:Rat} (h:∀c,c < m→A r c=a * B s c+b * C t c):Zft m A y r=a * Zft m B y s+b * Zft m C y t:=by
 unfold Zft;rw [← Xe,← Xe,← WA];exact Zk fun c hc=>by rw [h c hc];grind
theorem Zbv.swap {m k t:Nat} {M:Mx} {y:Nat→Rat} (hk:k < m) (ht:t < m):Zbv m (swapM M k t) y↔Zbv m M y:=by
 have a:∀N:Mx,Zbv m N y→Zbv m (swapM N k t) y:=fun N h r hr=>by
  unfold Zft swapM;by_cases e1:r=k
  ·simp only [if_pos e1];exact h t ht
  ·by_cases e2:r=t
   ·simp only [if_neg e1,if_pos e2];exact h k hk
   ·simp only [if_neg e1,if_neg e2];exact h r hr
 refine ⟨fun h=>?_,a M⟩;have:=a _ h;have e:swapM (swapM M k t) k t=M:=by
  funext r c
  unfold swapM;by_cases e1:r=k
  ·subst e1;simp only [if_pos];by_cases e2:t=r
   ·subst e2;simp
   ·simp [e2]
  ·by_cases e2:r=t
   ·subst e2;simp [e1]
   ·simp [e1,e2]
 rwa [e] at this
theorem Zbv.scale {m k:Nat} {M:Mx} {y:Nat→Rat} {f:Rat} (hk:k < m) (hf:f≠0) (hz:∀c,c < k→M k c=0):Zbv m (scaleTo M k (m+1) f) y↔Zbv m M y:=by
 have d:∀r,r < m→r≠k→∀c,scaleTo M k (m+1) f r c=M r c:=fun r _ hne c=>by unfold scaleTo;rw [if_neg (by omega)]
 have g:∀c,c < m+1→scaleTo M k (m+1) f k c=M k c / f:=fun c hc=>by
  unfold scaleTo;by_cases e:k≤c
  ·rw [if_pos ⟨rfl,e,hc⟩]
  ·rw [if_neg (by omega),hz c (by omega)];grind
 have hs:Zft m (scaleTo M k (m+1) f) y k=Zft m M y k / f:=by
  rw [Zjp (B:=M) (C:=M) (s:=k) (t:=k) (a:=1 / f) (b:=0) fun c hc=>by rw [g c (by omega)];grind];grind
 constructor
 ·intro h r hr;by_cases e:r=k
  ·subst e;have:=h r hr;rw [hs,g m (by omega)] at this;have h2:Zft m M y r / f * f=M r m / f * f:=by rw [this]
   rwa [Rat.div_mul_cancel hf,Rat.div_mul_cancel hf] at h2
  ·have:=h r hr;rw [d r hr e] at this;rw [← this];unfold Zft;exact Zk fun c _=>by rw [d r hr e]
 ·intro h r hr;by_cases e:r=k
  ·subst e;rw [hs,g m (by omega),h r hr]
  ·rw [d r hr e,← h r hr];unfold Zft;exact Zk fun c _=>by rw [d r hr e]
theorem Zbv.elim {m k:Nat} {M:Mx} {y:Nat→Rat} (hk:k < m) (hz:∀c,c < k→M k c=0):Zbv m (Xg M k m m) y↔Zbv m M y:=by
 have d:∀c,Xg M k m m k c=M k c:=fun c=>Zdb c
 have f:∀r,r < m→r≠k→∀c,c≤m→Xg M k m m r c=M r c - M r k * M k c:=fun r hr hne c hc=>by
  unfold Xg;by_cases e:k≤c
  ·rw [if_pos ⟨hne,hr,e,hc⟩]
  ·rw [if_neg (by omega),hz c (by omega)];grind
 have hs:∀r,r < m→r≠k→Zft m (Xg M k m m) y r=Zft m M y r - M r k * Zft m M y k:=fun r hr hne=>by
  rw [Zjp (B:=M) (C:=M) (s:=r) (t:=k) (a:=1) (b:= -(M r k)) fun c hc=>by rw [f r hr hne c (by omega)];grind];grind
 have g:Zft m (Xg M k m m) y k=Zft m M y k:=Zk fun c _=>by rw [d]
 constructor
 ·intro h;have h0:Zft m M y k=M k m:=by rw [← g,h k hk,d]
  intro r hr;by_cases e:r=k
  ·subst e;exact h0
  ·have:=h r hr;rw [hs r hr e,f r hr e m (JY _),h0] at this;grind
 ·intro h r hr;by_cases e:r=k
  ·subst e;rw [g,d];exact h r hr
  ·rw [hs r hr e,f r hr e m (JY _),h r hr,h k hk]
theorem Zql {m k:Nat} {M M':Mx} (hk:k < m) (hu:Zfu m k M) (e:VE M k m=some M'):Zfu m (k+1) M'∧∀y,Zbv m M' y↔Zbv m M y:=by
 unfold VE at e
 cases hf:Zgt M k m with
 | none=>rw [hf] at e;cases e
 | some t=>
  rw [hf] at e;injection e with e;obtain ⟨h1,h2,h3⟩:=Zgu hf;have hS:∀c,swapM M k t k c=M t c:=fun c=>by unfold swapM;rw [if_pos rfl]
  have hp:swapM M k t k k≠0:=by rw [hS];exact h3
  have us:Zfu m k (swapM M k t):=fun r c hr hc=>by
   unfold swapM;by_cases e1:r=k
   ·rw [if_pos e1,hu t c h2 hc,if_neg (by omega),if_neg (by omega)]
   ·rw [if_neg e1];by_cases e2:r=t
    ·rw [if_pos e2,hu k c hk hc,if_neg (by omega),if_neg (by omega)]
    ·rw [if_neg e2];exact hu r c hr hc
  have hz:∀c,c < k→swapM M k t k c=0:=fun c hc=>by rw [us k c hk hc,if_neg (by omega)]
  have d:∀y,Zbv m (swapM M k t) y↔Zbv m M y:=fun y=>Zbv.swap hk h2
  generalize swapM M k t=N at *;obtain ⟨f,b⟩:∃f,N k k=f:=⟨_,rfl⟩;rw [b] at hp e;have g:∀c,c < k→scaleTo N k (m+1) f k c=0:=fun c hc=>by unfold scaleTo;rw [if_neg (by omega)];exact hz c hc
  have a:scaleTo N k (m+1) f k k=1:=by
   unfold scaleTo;rw [if_pos ⟨rfl,JY _,by omega⟩,b];rw [Rat.div_def];exact Rat.mul_inv_cancel f hp
  have u2:Zfu m k (scaleTo N k (m+1) f):=fun r c hr hc=>by
   unfold scaleTo;rw [if_neg (by omega)];exact us r c hr hc
  have h:∀y,Zbv m (scaleTo N k (m+1) f) y↔Zbv m N y:=fun y=>Zbv.scale hk hp hz
  generalize scaleTo N k (m+1) f=Q at *;subst e;refine ⟨fun r c hr hc=>?_,fun y=>(Zbv.elim hk g).trans ((h y).trans (d y))⟩;by_cases ec:c=k
  ·subst ec;by_cases er:r=c
   ·subst er;rw [Zdb,a,if_pos rfl]
   ·unfold Xg;rw [if_pos ⟨er,hr,JY _,by omega⟩,a,if_neg er];grind
  ·unfold Xg;rw [if_neg (by omega)];exact u2 r c hr (by omega)
theorem Ztw {m:Nat} {M:Mx}:∀{k:Nat} {M':Mx},k≤m→gj M m k=some M'→Zfu m k M'∧∀y,Zbv m M' y↔Zbv m M y
 | 0,M',_,e=>by
  unfold gj at e
  injection e with e
  subst e
  exact ⟨fun r c _ hc=>by omega,fun y=>Iff.rfl⟩
 | k+1,M',hk,e=>by
  unfold gj at e
  cases hg:gj M m k with
  | none=>rw [hg] at e;cases e
  | some N=>
   rw [hg] at e
   obtain ⟨h1,h2⟩:=Ztw (by omega) hg
   obtain ⟨h3,h4⟩:=Zql (by omega) h1 e
   exact ⟨h3,fun y=>(h4 y).trans (h2 y)⟩
theorem Zxz {m:Nat} {M:Mx} (hu:Zfu m m M) (y:Nat→Rat):Zbv m M y↔∀r,r < m→y r=M r m:=by
 have a:∀r,r < m→Zft m M y r=y r:=fun r hr=>by
  unfold Zft;rw [Y2 hr fun i hi hne=>by rw [hu r i hr hi,if_neg (fun e=>hne e.symm)];grind,hu r r hr hr,if_pos rfl];grind
 exact ⟨fun h r hr=>by rw [← a r hr];exact h r hr,fun h r hr=>by rw [a r hr];exact h r hr⟩
def Xz (m:Nat) (cols:Mx) (y:Nat→Rat) (r:Nat):Rat:=ZO (fun c=>cols c r * y c) m
theorem Ztx {m:Nat} {cols:Mx} {b y:Nat→Rat}:Zbv m (Zie m cols b) y↔∀r,r < m→Xz m cols y r=b r:=by
 have d:∀r,Zft m (Zie m cols b) y r=Xz m cols y r:=fun r=>Zk fun c hc=>by unfold Zie;rw [if_pos hc]
 have a:∀r,Zie m cols b r m=b r:=fun r=>by unfold Zie;rw [if_neg (by omega)]
 exact ⟨fun h r hr=>by rw [← d,h r hr,a],fun h r hr=>by rw [d,h r hr,a]⟩
theorem X7 {m:Nat} {cols:Mx} {b x:Nat→Rat} (h:Xa m cols b=some x) (y:Nat→Rat):(∀r,r < m→Xz m cols y r=b r)↔∀k,k < m→y k=x k:=by
 unfold Xa at h
 cases hg:gj (Zie m cols b) m m with
 | none=>rw [hg] at h;cases h
 | some M=>
  rw [hg] at h;injection h with h;subst h;obtain ⟨h1,h2⟩:=Ztw (JY m) hg;rw [← Ztx,← h2 y,Zxz h1]
theorem Zty (m:Nat) (cols:Mx) (r:Nat):Xz m cols (fun _=>0) r=0:=WQ fun c _=>by grind
def Xr (m:Nat) (cols:Mx):Prop:=∀y:Nat→Rat,(∀r,r < m→Xz m cols y r=0)→∀k,k < m→y k=0
theorem Zha {m:Nat} {cols:Mx} {b x:Nat→Rat} (h:Xa m cols b=some x):Xr m cols:=by
 have hs:=Zdc (m:=m) (cols:=cols) b fun _=>0
 rw [h] at hs;obtain ⟨z,hz⟩:=Option.isSome_iff_exists.1 hs.symm;have h0:=(X7 hz fun _=>0).1 fun r _=>Zty m cols r
 intro y hy k hk;rw [(X7 hz y).1 hy k hk,← h0 k hk]
theorem Zhb {m k:Nat} {M M':Mx} (h:∀r,r < m→M r m=0) (hk:k < m) (e:VE M k m=some M'):∀r,r < m→M' r m=0:=by
 unfold VE at e
 cases hf:Zgt M k m with
 | none=>rw [hf] at e;cases e
 | some t=>
  rw [hf] at e;injection e with e;obtain ⟨h1,h2,h3⟩:=Zgu hf;have hs:∀r,r < m→swapM M k t r m=0:=fun r hr=>by
   unfold swapM;split
   ·exact h t h2
   ·split
    ·exact h k hk
    ·exact h r hr
  generalize swapM M k t=N at *;have hc:∀r,r < m→scaleTo N k (m+1) (N k k) r m=0:=fun r hr=>by
   unfold scaleTo;split
   ·rw [hs r hr];grind
   ·exact hs r hr
  generalize scaleTo N k (m+1) (N k k)=Q at *;subst e;intro r hr;unfold Xg;split
  ·rw [hc r hr,hc k hk];grind
  ·exact hc r hr
theorem Ztz {m:Nat} {M:Mx} (h:∀r,r < m→M r m=0):∀{k:Nat} {M':Mx},k≤m→gj M m k=some M'→∀r,r < m→M' r m=0
 | 0,M',_,e=>by unfold gj at e;injection e with e;subst e;exact h
 | k+1,M',hk,e=>by
  unfold gj at e
  cases hg:gj M m k with
  | none=>rw [hg] at e;cases e
  | some N=>rw [hg] at e;exact Zhb (Ztz h (by omega) hg) (by omega) e
theorem Zua {m:Nat} {M:Mx}:∀{n:Nat},n≤m→gj M m n=none→∃k N,k < n∧gj M m k=some N∧Zgt N k m=none
 | 0,_,e=>by unfold gj at e;cases e
 | n+1,hn,e=>by
  cases hg:gj M m n with
  | none=>
   obtain ⟨k,N,h1,h2,h3⟩:=Zua (by omega) hg
   exact ⟨k,N,by omega,h2,h3⟩
  | some N=>
   refine ⟨n,N,by omega,hg,?_⟩
   unfold gj at e
   rw [hg] at e
   simp only at e
   unfold VE at e
   cases hf:Zgt N n m with
   | none=>rfl
   | some t=>rw [hf] at e;cases e
theorem Zme {m:Nat} {cols:Mx} {b:Nat→Rat} (h:Xa m cols b=none):¬Xr m cols:=by
 have hs:=Zdc (m:=m) (cols:=cols) b fun _=>0
 rw [h] at hs;have h0:Xa m cols (fun _=>0)=none:=by
  cases e:Xa m cols (fun _=>0) with
  | none=>rfl
  | some x=>rw [e] at hs;cases hs
 unfold Xa at h0;have hg:gj (Zie m cols fun _=>0) m m=none:=by
  cases e:gj (Zie m cols fun _=>0) m m with
  | none=>rfl
  | some x=>rw [e] at h0;cases h0
 obtain ⟨k,N,hk,hN,hf⟩:=Zua (JY m) hg;obtain ⟨h1,h2⟩:=Ztw (by omega) hN;have hz:=Zpz hf;have hr:=Ztz (fun r _=>by unfold Zie;rw [if_neg (by omega)]) (by omega) hN;intro hi;have hy:Zbv m N (fun c=>if c < k then -(N c k) else if c=k then 1 else 0):=fun r hrm=>by
  rw [hr r hrm];show ZO (fun c=>N r c * (if c < k then -(N c k) else if c=k then 1 else 0)) m=0;rw [X4 (n:=k+1) (by omega) fun i i1 i2=>by rw [if_neg (by omega),if_neg (by omega)];grind,ZC,if_neg (Nat.lt_irrefl k),if_pos rfl];rcases JX r k with hrk | hrk
  ·rw [Y2 hrk fun i hi2 hne=>by rw [h1 r i hrm hi2,if_neg (fun e=>hne e.symm)];grind,h1 r r hrm hrk,if_pos rfl,if_pos hrk];grind
  ·rw [WQ fun i hi2=>by rw [h1 r i hrm hi2,if_neg (by omega)];grind,hz r hrk hrm];grind
 have:=hi _ (Ztx.1 ((h2 _).1 hy)) k hk;simp at this
theorem Xt {m:Nat} {cols:Mx} (h:Xr m cols) (b:Nat→Rat):∃x,Xa m cols b=some x:=by
 cases e:Xa m cols b with
 | none=>exact absurd h (Zme e)
 | some x=>exact ⟨x,rfl⟩
theorem Zjq {m:Nat} {cols:Mx} {b x:Nat→Rat} (hi:Xr m cols) (hx:∀r,r < m→Xz m cols x r=b r):∃z,Xa m cols b=some z∧∀k,k < m→z k=x k:=by
 obtain ⟨z,hz⟩:=Xt hi b;exact ⟨z,hz,fun k hk=>((X7 hz x).1 hx k hk).symm⟩
end Pl
namespace Pl
theorem pigeon:∀(m n:Nat) (f:Nat→Nat),m < n→(∀k,k < n→f k < m)→∃i j,i < j∧j < n∧f i=f j
 | 0,n,f,h,hf=>absurd (hf 0 (by omega)) (by omega)
 | m+1,n,f,h,hf=>by
  by_cases hk:∃k,k < n∧f k=m
  ·obtain ⟨k,hkn,hfk⟩:=hk
   by_cases h2:∃l,l < n∧l≠k∧f l=m
   ·obtain ⟨l,hl,hne,hfl⟩:=h2
    rcases JX l k with e | e
    ·exact ⟨l,k,e,hkn,by rw [hfl,hfk]⟩
    ·exact ⟨k,l,by omega,hl,by rw [hfl,hfk]⟩
   ·obtain ⟨i,j,hij,hj,he⟩:=pigeon m (n - 1) (fun i=>if i < k then f i else f (i+1)) (by omega) fun i hi=>by
     by_cases e:i < k
     ·simp only [if_pos e]
      have:=hf i (by omega)
      have:f i≠m:=fun e'=>h2 ⟨i,by omega,by omega,e'⟩
      omega
     ·simp only [if_neg e]
      have:=hf (i+1) (by omega)
      have:f (i+1)≠m:=fun e'=>h2 ⟨i+1,by omega,by omega,e'⟩
      omega
    by_cases e1:i < k
    ·by_cases e2:j < k
     ·exact ⟨i,j,hij,by omega,by simpa only [if_pos e1,if_pos e2] using he⟩
     ·exact ⟨i,j+1,by omega,by omega,by simpa only [if_pos e1,if_neg e2] using he⟩
    ·exact ⟨i+1,j+1,by omega,by omega,by simpa only [if_neg e1,if_neg (show ¬j < k by omega)] using he⟩
  ·exact pigeon m n f (by omega) fun k hkn=>by
    have:=hf k hkn
    have:f k≠m:=fun e=>hk ⟨k,hkn,e⟩
    omega
def Inj (n t:Nat) (F:Nat→Nat):Prop:=(∀s,s < t→F s < n)∧∀s u,s < u→u < t→F s≠F u
theorem Inj.eq {n t:Nat} {F:Nat→Nat} (h:Inj n t F) {s u:Nat} (hs:s < t) (hu:u < t) (e:F s=F u):s=u:=by
 rcases Nat.lt_trichotomy s u with g | g | g
 ·exact absurd e (h.2 s u g hu)
 ·exact g
 ·exact absurd e.symm (h.2 u s g hs)
theorem Inj.onto {n:Nat} {F:Nat→Nat} (h:Inj n n F) {i:Nat} (hi:i < n):∃s,s < n∧F s=i:=by
 by_cases e:∃s,s < n∧F s=i
 ·exact e
 ·exfalso;obtain ⟨a,b,c,hb,he⟩:=pigeon n (n+1) (fun s=>if s < n then F s else i) (by omega) fun k _=>by
   by_cases e':k < n
   ·simp only [if_pos e'];exact h.1 k e'
   ·simp only [if_neg e'];exact hi
  by_cases e1:b < n
  ·exact h.2 a b c e1 (by simpa only [if_pos (show a < n by omega),if_pos e1] using he)
  ·exact e ⟨a,by omega,by simpa only [if_pos (show a < n by omega),if_neg e1] using he⟩
theorem Inj.free {n t:Nat} {F:Nat→Nat} (_h:Inj n t F) (ht:t < n):∃i,i < n∧∀s,s < t→F s≠i:=by
 by_cases e:∃i,i < n∧∀s,s < t→F s≠i
 ·exact e
 ·exfalso;have c:∀i,i < n→∃s,s < t∧F s=i:=fun i hi=>by
   by_cases e':∃s,s < t∧F s=i
   ·exact e'
   ·exact absurd ⟨i,hi,fun s hs he=>e' ⟨s,hs,he⟩⟩ e
  obtain ⟨a,b,d,hb,he⟩:=pigeon t n (fun i=>if hi:i < n then (c i hi).choose else 0) ht fun k hk=>by
   simp only [dif_pos hk];exact (c k hk).choose_spec.1
  simp only [dif_pos (show a < n by omega),dif_pos hb] at he;have h1:=(c a (by omega)).choose_spec.2;have h2:=(c b hb).choose_spec.2;rw [he] at h1;omega
theorem Zad {n:Nat} {F:Nat→Nat} (h:Inj n n F) (f:Nat→Rat):ZO (fun k=>f (F k)) n=ZO f n:=by
 have h1:ZO (fun k=>f (F k)) n=ZO (fun k=>ZO (fun j=>if j=F k then f j else 0) n) n:=Zk fun k hk=>by
  rw [Y2 (h.1 k hk) fun i _ hne=>by rw [if_neg hne],if_pos rfl]
 rw [h1,VG];exact Zk fun j hj=>by
  obtain ⟨s,hs,he⟩:=h.onto hj;rw [Y2 hs fun i hi hne=>if_neg fun e=>hne (h.eq hi hs (by omega)),if_pos he.symm]
structure Uq (n t:Nat) (A a:Mx) (R C:Nat→Nat) (m:Mx):Prop where
 ri:Inj n t R
 ci:Inj n t C
 m0:∀s q,s < t→q≤s→m s (R q)=0
 piv:∀s,s < t→a (R s) (C s)≠0
 e1:∀i j,i < n→j < n→(∀s,s < t→R s≠i)→(∀s,s < t→C s≠j)→A i j=ZO (fun s=>m s i * a (R s) j) t+a i j
 e2:∀i q,i < n→q < t→(∀s,s < t→R s≠i)→A i (C q)=ZO (fun s=>m s i * a (R s) (C q)) (q+1)
 e3:∀p j,p < t→j < n→(∀s,s < p→C s≠j)→A (R p) j=ZO (fun s=>m s (R p) * a (R s) j) p+a (R p) j
 e4:∀p q,p < t→q < p→A (R p) (C q)=ZO (fun s=>m s (R p) * a (R s) (C q)) (q+1)
theorem Uq.start (n:Nat) (A:Mx) (R C:Nat→Nat) (m:Mx):Uq n 0 A A R C m where
 ri:=⟨fun s h=>absurd h (by omega),fun s u _ h=>absurd h (by omega)⟩
 ci:=⟨fun s h=>absurd h (by omega),fun s u _ h=>absurd h (by omega)⟩
 m0:=fun s q h=>absurd h (by omega)
 piv:=fun s h=>absurd h (by omega)
 e1:=fun i j _ _ _ _=>by rw [YK];grind
 e2:=fun i q _ h=>absurd h (by omega)
 e3:=fun p j h=>absurd h (by omega)
 e4:=fun p q h=>absurd h (by omega)
theorem Uq.step {n t:Nat} {A a:Mx} {R C:Nat→Nat} {m:Mx} (h:Uq n t A a R C m) {r c:Nat} (hr:r < n) (hc:c < n) (hrf:∀s,s < t→R s≠r) (hcf:∀s,s < t→C s≠c) (hp:a r c≠0)
 {a' m':Mx} {R' C':Nat→Nat} (hR:∀s,s < t→R' s=R s) (hRt:R' t=r) (hC:∀s,s < t→C' s=C s) (hCt:C' t=c)
 (hm:∀s i,s < t→m' s i=m s i) (hmt:∀i,i < n→m' t i=if (∀s,s < t→R s≠i)∧i≠r then a i c / a r c else 0)
 (ha:∀i j,i < n→j < n→a' i j=if ((∀s,s < t→R s≠i)∧i≠r)∧((∀s,s < t→C s≠j)∧j≠c) then a i j - m' t i * a r j else a i j):Uq n (t+1) A a' R' C' m':=by
 have y:∀i,i < n→(∀s,s < t→R s≠i)→i≠r→m' t i * a r c=a i c:=fun i hi h1 h2=>by
  rw [hmt i hi,if_pos ⟨h1,h2⟩];exact Rat.div_mul_cancel hp
 have l:∀s,s < t+1→R' s < n:=fun s hs=>by
  rcases JX s t with e | e
  ·rw [hR s e];exact h.ri.1 s e
  ·obtain rfl:s=t:=by omega
   rw [hRt];exact hr
 have x:∀s,s < t+1→C' s < n:=fun s hs=>by
  rcases JX s t with e | e
  ·rw [hC s e];exact h.ci.1 s e
  ·obtain rfl:s=t:=by omega
   rw [hCt];exact hc
 -- rows that are taken do not change any more
 have d:∀s j,s < t+1→j < n→a' (R' s) j=a (R' s) j:=fun s j hs hj=>by
  rw [ha _ _ (l s hs) hj];refine if_neg fun e=>?_
  rcases JX s t with g | g
  ·exact e.1.1 s g (hR s g).symm
  ·obtain rfl:s=t:=by omega
   exact e.1.2 hRt
 have f:∀i,(∀s,s < t+1→R' s≠i)→(∀s,s < t→R s≠i)∧i≠r:=fun i hi=>⟨fun s hs e=>hi s (by omega) (by rw [hR s hs];exact e),fun e=>hi t (by omega) (by rw [hRt];exact e.symm)⟩
 have o:∀j,(∀s,s < t+1→C' s≠j)→(∀s,s < t→C s≠j)∧j≠c:=fun j hj=>⟨fun s hs e=>hj s (by omega) (by rw [hC s hs];exact e),fun e=>hj t (by omega) (by rw [hCt];exact e.symm)⟩
 have b:∀i j k,k≤t→j < n→ZO (fun s=>m' s i * a' (R' s) j) k=ZO (fun s=>m s i * a (R s) j) k:=fun i j k hk hj=>Zk fun s hs=>by
  rw [hm s i (by omega),d s j (by omega) hj,hR s (by omega)]
 refine ⟨⟨l,fun s u hsu hu=>?_⟩,⟨x,fun s u hsu hu=>?_⟩,fun s q hs hq=>?_,fun s hs=>?_,fun i j hi hj h1 h2=>?_,fun i q hi hq h1=>?_,fun p j hp' hj h1=>?_,fun p q hp' hq=>?_⟩
 ·rw [hR s (by omega)];rcases JX u t with e | e
  ·rw [hR u e];exact h.ri.2 s u hsu e
  ·obtain rfl:u=t:=by omega
   rw [hRt];exact hrf s hsu
 ·rw [hC s (by omega)];rcases JX u t with e | e
  ·rw [hC u e];exact h.ci.2 s u hsu e
  ·obtain rfl:u=t:=by omega
   rw [hCt];exact hcf s hsu
 ·rcases JX s t with e | e
  ·rw [hm s _ e,hR q (by omega)];exact h.m0 s q e hq
  ·obtain rfl:s=t:=by omega
   rw [hmt _ (l q (by omega))];refine if_neg fun e=>?_
   rcases JX q s with g | g
   ·exact e.1 q g (hR q g).symm
   ·obtain rfl:q=s:=by omega
    exact e.2 hRt
 ·rw [d s _ hs (x s hs)];rcases JX s t with e | e
  ·rw [hR s e,hC s e];exact h.piv s e
  ·obtain rfl:s=t:=by omega
   rw [hRt,hCt];exact hp
 ·obtain ⟨i1,i2⟩:=f i h1;obtain ⟨j1,j2⟩:=o j h2;rw [ZC,b i j t (JY _) hj,d t j (by omega) hj,hRt,ha i j hi hj,if_pos ⟨⟨i1,i2⟩,⟨j1,j2⟩⟩,h.e1 i j hi hj i1 j1];grind
 ·obtain ⟨i1,i2⟩:=f i h1;rcases JX q t with e | e
  ·rw [hC q e,b i _ (q+1) (by omega) (h.ci.1 q e)];exact h.e2 i q hi e i1
  ·obtain rfl:q=t:=by omega
   rw [hCt,ZC,b i c q (JY _) hc,d q c (by omega) hc,hRt,y i hi i1 i2,h.e1 i c hi hc i1 hcf]
 ·have z:=l p hp';rcases JX p t with e | e
  ·rw [d p j hp' hj,b _ j p (by omega) hj,hR p e];exact h.e3 p j e hj fun s hs=>by have:=h1 s hs;rwa [hC s (by omega)] at this
  ·obtain rfl:p=t:=by omega
   rw [d p j hp' hj,b _ j p (JY _) hj,hRt];exact h.e1 r j hr hj hrf fun s hs=>by have:=h1 s hs;rwa [hC s hs] at this
 ·have v:q < t:=by omega
  rw [hC q v,b _ _ (q+1) (by omega) (h.ci.1 q v)];rcases JX p t with e | e
  ·rw [hR p e];exact h.e4 p q e hq
  ·obtain rfl:p=t:=by omega
   rw [hRt];exact h.e2 r q hr v hrf
def luL (R:Nat→Nat) (m:Mx):Mx:=fun t p=>if p=t then 1 else if t < p then m t (R p) else 0
def luU (R C:Nat→Nat) (a:Mx):Mx:=fun k s=>if s≤k then a (R s) (C k) else 0
structure Zbw (n:Nat) (A:Mx) (R C:Nat→Nat) (L U:Mx):Prop where
 ri:Inj n n R
 ci:Inj n n C
 l0:∀t p,t < n→p < n→p < t→L t p=0
 l1:∀t,t < n→L t t=1
 u0:∀k s,k < n→s < n→k < s→U k s=0
 u1:∀k,k < n→U k k≠0
 eq:∀p k,p < n→k < n→A (R p) (C k)=ZO (fun s=>L s p * U k s) n
theorem Uq.fac {n:Nat} {A a:Mx} {R C:Nat→Nat} {m:Mx} (h:Uq n n A a R C m):Zbw n A R C (luL R m) (luU R C a) where
 ri:=h.ri
 ci:=h.ci
 l0:=fun t p _ _ hpt=>by unfold luL;rw [if_neg (by omega),if_neg (by omega)]
 l1:=fun t _=>by unfold luL;rw [if_pos rfl]
 u0:=fun k s _ _ hks=>by unfold luU;rw [if_neg (by omega)]
 u1:=fun k hk=>by unfold luU;rw [if_pos (JY _)];exact h.piv k hk
 eq:=fun p k hp hk=>by
  rcases JX k p with e | e
  ·rw [h.e4 p k hp e,X4 (n:=k+1) (m:=n) (by omega) fun i h1 h2=>by unfold luU;rw [if_neg (by omega)];grind]
   exact Zk fun s hs=>by unfold luL luU;rw [if_neg (by omega),if_pos (by omega),if_pos (by omega)]
  ·rw [h.e3 p (C k) hp (h.ci.1 k hk) fun s hs=>h.ci.2 s k (by omega) hk,X4 (n:=p+1) (m:=n) (by omega) fun i h1 h2=>by unfold luL;rw [if_neg (by omega),if_neg (by omega)];grind,ZC]
   have e2:luL R m p p * luU R C a k p=a (R p) (C k):=by unfold luL luU;rw [if_pos rfl,if_pos e];grind
   rw [e2,Zk (f:=fun s=>luL R m s p * luU R C a k s) (g:=fun s=>m s (R p) * a (R s) (C k)) fun s hs=>by unfold luL luU;rw [if_neg (by omega),if_pos (by omega),if_pos (by omega)]]
def trM (A:Mx):Mx:=fun c r=>A r c
theorem VH {n m:Nat} {f g:Nat→Rat} {h:Nat→Nat→Rat} (e:∀j,j < n→f j=ZO (fun s=>g s * h s j) m) (y:Nat→Rat):ZO (fun j=>f j * y j) n=ZO (fun s=>g s * ZO (fun j=>h s j * y j) n) m:=by
 rw [Zk (g:=fun j=>ZO (fun s=>g s * (h s j * y j)) m) fun j hj=>by
  rw [e j hj,Rat.mul_comm,← Xe];exact Zk fun s _=>by grind]
 rw [VG];exact Zk fun s _=>Xe _ _ _
theorem Uq.dep {n t:Nat} {A a:Mx} {R C:Nat→Nat} {m:Mx} (h:Uq n t A a R C m) (ht:t < n) (hz:∀i j,i < n→j < n→(∀s,s < t→R s≠i)→(∀s,s < t→C s≠j)→a i j=0):¬Xr n (trM A):=by
 obtain ⟨j0,H,l⟩:=h.ci.free ht
 -- row s of the triangle,with the columns that were taken before it left out
 have hw:∃W:Mx,(∀s j,(∀u,u < s→C u≠j)→W s j=a (R s) j)∧∀s u,u < s→W s (C u)=0:=by
  refine ⟨fun s j=>if ∀u,u < s→C u≠j then a (R s) j else 0,fun s j hs=>if_pos hs,fun s u hu=>if_neg fun g=>g u hu rfl⟩
 obtain ⟨W,d,o⟩:=hw;have F:∀k,k≤t→∃y:Nat→Rat,y j0=1∧(∀s,s < t - k→y (C s)=0)∧∀s,t - k≤s→s < t→ZO (fun j=>W s j * y j) n=0:=by
  intro k
  induction k with
  | zero=>exact fun _=>⟨fun j=>if j=j0 then 1 else 0,if_pos rfl,fun s hs=>if_neg fun e=>l s (by omega) e,fun s h1 h2=>by omega⟩
  | succ k ih=>
   intro hk;obtain ⟨y,y1,y2,y3⟩:=ih (by omega);obtain ⟨s0,I⟩:∃s0,s0+1=t - k:=⟨t - k - 1,by omega⟩;have b:s0 < t:=(by omega);have G:=h.ci.1 s0 b;obtain ⟨q,hq⟩:∃q,q= -(ZO (fun j=>W s0 j * y j) n) / a (R s0) (C s0):=⟨_,rfl⟩;have x:∀s,ZO (fun j=>W s j * (if j=C s0 then q else y j)) n=ZO (fun j=>W s j * y j) n+W s (C s0) * (q - y (C s0)):=fun s=>by
    have e:ZO (fun j=>W s j * (if j=C s0 then q else y j)) n=ZO (fun j=>W s j * y j+(if j=C s0 then W s (C s0) * (q - y (C s0)) else 0)) n:=Zk fun j _=>by
     by_cases e:j=C s0
     ·rw [if_pos e,if_pos e,e];grind
     ·rw [if_neg e,if_neg e];grind
    rw [e,WA,WC G]
   refine ⟨fun j=>if j=C s0 then q else y j,?_,fun s hs=>?_,fun s h1 h2=>?_⟩
   ·show (if j0=C s0 then q else y j0)=1;rw [if_neg fun e=>l s0 b e.symm];exact y1
   ·show (if C s=C s0 then q else y (C s))=0;rw [if_neg (h.ci.2 s s0 (by omega) b)];exact y2 s (by omega)
   ·rw [x s];rcases JX s0 s with e | e
    ·rw [o s s0 e,y3 s (by omega) h2];grind
    ·obtain rfl:s=s0:=by omega
     rw [d s (C s) fun u hu=>h.ci.2 u s hu b,y2 s (by omega),hq];have hp:=h.piv s b;have e2: -(ZO (fun j=>W s j * y j) n) / a (R s) (C s) * a (R s) (C s)= -(ZO (fun j=>W s j * y j) n):=Rat.div_mul_cancel hp;grind
 obtain ⟨y,y1,_,y3⟩:=F t (JY _);have hy:∀s,s < t→ZO (fun j=>W s j * y j) n=0:=fun s hs=>y3 s (by omega) hs
 intro hi;have z:∀r,r < n→Xz n (trM A) y r=0:=fun r hr=>by
  show ZO (fun c=>A r c * y c) n=0;by_cases hp:∃p,p < t∧R p=r
  ·obtain ⟨p,B,rfl⟩:=hp;have e:∀j,j < n→A (R p) j=ZO (fun s=>(if s=p then 1 else m s (R p)) * W s j) (p+1):=fun j hj=>by
    rw [ZC,if_pos rfl];have e0:ZO (fun s=>(if s=p then 1 else m s (R p)) * W s j) p=ZO (fun s=>m s (R p) * W s j) p:=Zk fun s hs=>by rw [if_neg (by omega)]
    rw [e0];by_cases hq:∃q,q < p∧C q=j
    ·obtain ⟨q,D,rfl⟩:=hq;rw [o p q D,h.e4 p q B D,X4 (f:=fun s=>m s (R p) * W s (C q)) (n:=q+1) (m:=p) (by omega) fun s h1 h2=>by rw [o s q (by omega)];grind];have e1:ZO (fun s=>m s (R p) * a (R s) (C q)) (q+1)=ZO (fun s=>m s (R p) * W s (C q)) (q+1):=Zk fun s hs=>by rw [d s (C q) fun u hu=>h.ci.2 u q (by omega) (by omega)]
     rw [e1];grind
    ·have hn:∀u,u < p→C u≠j:=fun u hu e=>hq ⟨u,hu,e⟩
     rw [h.e3 p j B hj hn,d p j hn];have e1:ZO (fun s=>m s (R p) * a (R s) j) p=ZO (fun s=>m s (R p) * W s j) p:=Zk fun s hs=>by rw [d s j fun u hu=>hn u (by omega)]
     rw [e1];grind
   rw [VH e];exact WQ fun s hs=>by rw [hy s (by omega)];grind
  ·have v:∀s,s < t→R s≠r:=fun s hs e=>hp ⟨s,hs,e⟩
   have e:∀j,j < n→A r j=ZO (fun s=>m s r * W s j) t:=fun j hj=>by
    by_cases hq:∃q,q < t∧C q=j
    ·obtain ⟨q,E,rfl⟩:=hq;rw [h.e2 r q hr E v,X4 (f:=fun s=>m s r * W s (C q)) (n:=q+1) (m:=t) (by omega) fun s h1 h2=>by rw [o s q (by omega)];grind];exact Zk fun s hs=>by rw [d s (C q) fun u hu=>h.ci.2 u q (by omega) E]
    ·have hn:∀u,u < t→C u≠j:=fun u hu e=>hq ⟨u,hu,e⟩
     rw [h.e1 r j hr hj v hn,hz r j hr hj v hn];have e1:ZO (fun s=>m s r * a (R s) j) t=ZO (fun s=>m s r * W s j) t:=Zk fun s hs=>by rw [d s j fun u hu=>hn u (by omega)]
     rw [e1];grind
   rw [VH e];exact WQ fun s hs=>by rw [hy s hs];grind
 have:=hi y z j0 H;rw [y1] at this;exact absurd this (by decide)
theorem Zqm {n:Nat} {L:Mx} (h0:∀t p,t < n→p < n→p < t→L t p=0) (h1:∀t,t < n→L t t=1) {z:Nat→Rat} (hz:∀p,p < n→ZO (fun s=>L s p * z s) n=0):∀p,p < n→z p=0:=by
 intro p
 induction p using Nat.strongRecOn with
 | _ p ih=>
  intro hp;have:=hz p hp;rw [Y2 hp fun i hi hne=>by
   rcases JX i p with e | e
   ·rw [ih i e hi];grind
   ·rw [h0 i p hi hp (by omega)];grind,h1 p hp] at this
  grind
theorem Zqn {n:Nat} {U:Mx} (h0:∀k s,k < n→s < n→k < s→U k s=0) (h1:∀k,k < n→U k k≠0) {w:Nat→Rat} (hw:∀s,s < n→ZO (fun k=>U k s * w k) n=0):∀k,k < n→w k=0:=by
 have a:∀d k,k+d+1=n→w k=0:=by
  intro d
  induction d using Nat.strongRecOn with
  | _ d ih=>
   intro k hk;have:=hw k (by omega);rw [Y2 (show k < n by omega) fun i hi hne=>by
    rcases JX i k with e | e
    ·rw [h0 i k hi (by omega) e];grind
    ·rw [ih (n - 1 - i) (by omega) i (by omega)];grind] at this
   rcases Rat.mul_eq_zero.1 this with e | e
   ·exact absurd e (h1 k (by omega))
   ·exact e
 exact fun k hk=>a (n - 1 - k) k (by omega)
theorem Zbw.solve {n:Nat} {A:Mx} {R C:Nat→Nat} {L U:Mx} (h:Zbw n A R C L U) {b z x:Nat→Rat} (hz:∀p,p < n→ZO (fun s=>L s p * z s) n=b (R p)) (hx:∀s,s < n→ZO (fun k=>U k s * x (C k)) n=z s):∀r,r < n→Xz n (trM A) x r=b r:=by
 intro r hr;obtain ⟨p,hp,rfl⟩:=h.ri.onto hr;show ZO (fun c=>A (R p) c * x c) n=b (R p);rw [← Zad h.ci (fun c=>A (R p) c * x c),VH (f:=fun k=>A (R p) (C k)) (g:=fun s=>L s p) (h:=fun s k=>U k s) (m:=n) (fun k hk=>h.eq p k hp hk) (fun k=>x (C k)),← hz p hp];exact Zk fun s hs=>by rw [hx s hs]
theorem Zbw.solveT {n:Nat} {A:Mx} {R C:Nat→Nat} {L U:Mx} (h:Zbw n A R C L U) {d v y:Nat→Rat} (hv:∀k,k < n→ZO (fun s=>U k s * v s) n=d (C k)) (hy:∀s,s < n→ZO (fun p=>L s p * y (R p)) n=v s):∀c,c < n→Xz n A y c=d c:=by
 intro c hc;obtain ⟨k,hk,rfl⟩:=h.ci.onto hc;show ZO (fun r=>A r (C k) * y r) n=d (C k);rw [← Zad h.ri (fun r=>A r (C k) * y r),VH (f:=fun p=>A (R p) (C k)) (g:=fun s=>U k s) (h:=fun s p=>L s p) (m:=n) (fun p hp=>by rw [h.eq p k hp hk];exact Zk fun s _=>by grind) (fun p=>y (R p)),← hv k hk];exact Zk fun s hs=>by rw [hy s hs]
theorem Zbw.indep {n:Nat} {A:Mx} {R C:Nat→Nat} {L U:Mx} (h:Zbw n A R C L U):Xr n (trM A):=by
 intro y hy;have h1:∀p,p < n→ZO (fun s=>L s p * ZO (fun k=>U k s * y (C k)) n) n=0:=fun p hp=>by
  rw [← VH (f:=fun k=>A (R p) (C k)) (g:=fun s=>L s p) (h:=fun s k=>U k s) (m:=n) (fun k hk=>h.eq p k hp hk) (fun k=>y (C k)),Zad h.ci (fun c=>A (R p) c * y c)];exact hy (R p) (h.ri.1 p hp)
 have h2:=Zqm h.l0 h.l1 h1;have h3:=Zqn h.u0 h.u1 (w:=fun k=>y (C k)) h2;intro c hc;obtain ⟨k,hk,rfl⟩:=h.ci.onto hc;exact h3 k hk
def Zjr (cols:Mx) (k:Nat) (v:Nat→Rat):Mx:=fun c=>if c=k then v else cols c
theorem Zog {n k:Nat} {cols:Mx} {v im x c:Nat→Rat} (hk:k < n) (him:∀r,r < n→Xz n cols im r=v r) (h0:im k≠0) (hx:∀r,r < n→Xz n cols x r=c r) {x':Nat→Rat} (hxk:x' k=x k / im k) (hxi:∀i,i < n→i≠k→x' i=x i - im i * x' k):
 ∀r,r < n→Xz n (Zjr cols k v) x' r=c r:=by
 intro r hr;have hd:x' k * im k=x k:=by rw [hxk];exact Rat.div_mul_cancel h0
 have e:Xz n (Zjr cols k v) x' r=ZO (fun i=>cols i r * x i - x' k * (cols i r * im i)+(if i=k then v r * x' k else 0)) n:=Zk fun i hi=>by
  unfold Zjr;by_cases e:i=k
  ·subst e;rw [if_pos rfl,if_pos rfl];grind
  ·rw [if_neg e,if_neg e,hxi i hi e];grind
 rw [e,WA,Zof,Xe,WC hk];have h1:ZO (fun i=>cols i r * x i) n=c r:=hx r hr;have h2:ZO (fun i=>cols i r * im i) n=v r:=him r hr;rw [h1,h2];grind
theorem Zjs {n k:Nat} {cols:Mx} {v im:Nat→Rat} (hk:k < n) (hi:Xr n cols) (him:∀r,r < n→Xz n cols im r=v r) (h0:im k≠0):Xr n (Zjr cols k v):=by
 intro y hy;have h1:∀r,r < n→Xz n cols (fun i=>(if i=k then 0 else y i)+y k * im i) r=0:=fun r hr=>by
  have e:Xz n cols (fun i=>(if i=k then 0 else y i)+y k * im i) r=ZO (fun i=>(Zjr cols k v i r * y i - (if i=k then v r * y k else 0))+y k * (cols i r * im i)) n:=Zk fun i _=>by
   unfold Zjr;by_cases e:i=k
   ·subst e;simp only [if_pos];grind
   ·simp only [if_neg e];grind
  rw [e,WA,Zof,Xe,WC hk];have h2:ZO (fun i=>Zjr cols k v i r * y i) n=0:=hy r hr;have h3:ZO (fun i=>cols i r * im i) n=v r:=him r hr;rw [h2,h3];grind
 have h2:=hi _ h1;have h3:y k=0:=by
  have:=h2 k hk;simp only [if_pos] at this;have e:y k * im k=0:=by grind
  rcases Rat.mul_eq_zero.1 e with g | g
  ·exact g
  ·exact absurd g h0
 intro i a;by_cases e:i=k
 ·rw [e];exact h3
 ·have:=h2 i a;simp only [if_neg e,h3] at this;grind
end Pl
namespace Pl
def Us (L:Mx) (b:Nat→Rat):Nat→Nat→Rat
 | 0=>b
 | j+1=>fun i=>if j < i then Us L b j i - L j i * Us L b j j else Us L b j i
theorem Zdn (L:Mx) (b:Nat→Rat) (j i:Nat):Us L b (j+1) i=if j < i then Us L b j i - L j i * Us L b j j else Us L b j i:=rfl
theorem Zjt (L:Mx) (b:Nat→Rat) (i:Nat):∀d,Us L b (i+d) i=Us L b i i
 | 0=>rfl
 | d+1=>by rw [← Nat.add_assoc,Zdn,if_neg (by omega)];exact Zjt L b i d
theorem Zhd {L:Mx} {b:Nat→Rat} {i j:Nat} (h:i≤j):Us L b j i=Us L b i i:=by
 have:=Zjt L b i (j - i)
 rwa [show i+(j - i)=j by omega] at this
theorem Zhe (L:Mx) (b:Nat→Rat) (i:Nat):∀j,j≤i→Us L b j i=b i - ZO (fun s=>L s i * Us L b s s) j
 | 0,_=>by rw [YK];show b i=_;grind
 | j+1,h=>by rw [Zdn,if_pos (by omega),ZC,Zhe L b i j (by omega)];grind
theorem Zmf {n:Nat} {L:Mx} {b:Nat→Rat} (h0:∀t p,t < n→p < n→p < t→L t p=0) (h1:∀t,t < n→L t t=1):∀p,p < n→ZO (fun s=>L s p * Us L b n s) n=b p:=by
 intro p hp;rw [X4 (n:=p+1) (by omega) fun i h1' h2=>by rw [h0 i p h2 hp (by omega)];grind,ZC,h1 p hp,Zhd (show p≤n by omega),Zhe L b p p (JY _)];rw [Zk (g:=fun s=>L s p * Us L b s s) fun s hs=>by rw [Zhd (show s≤n by omega)]];grind
def UE (n:Nat) (U:Mx) (z:Nat→Rat):Nat→Nat→Rat
 | 0=>z
 | j+1=>fun i=>if i=n - 1 - j then UE n U z j i / U i i else if i < n - 1 - j then UE n U z j i - U (n - 1 - j) i * (UE n U z j (n - 1 - j) / U (n - 1 - j) (n - 1 - j)) else UE n U z j i
theorem Zag (n:Nat) (U:Mx) (z:Nat→Rat) (j i:Nat):UE n U z (j+1) i=if i=n - 1 - j then UE n U z j i / U i i else if i < n - 1 - j then UE n U z j i - U (n - 1 - j) i * (UE n U z j (n - 1 - j) / U (n - 1 - j) (n - 1 - j)) else UE n U z j i:=rfl
theorem Zju (n:Nat) (U:Mx) (z:Nat→Rat) (i:Nat) (hi:i < n):∀d,d≤i→UE n U z (n - i+d) i=UE n U z (n - i) i
 | 0,_=>rfl
 | d+1,h=>by rw [← Nat.add_assoc,Zag,if_neg (by omega),if_neg (by omega)];exact Zju n U z i hi d (by omega)
theorem Zbe {n:Nat} {U:Mx} {z:Nat→Rat} {i j:Nat} (hi:i < n) (h:n - i≤j) (hj:j≤n):UE n U z j i=UE n U z (n - i) i:=by
 have:=Zju n U z i hi (j - (n - i)) (by omega)
 rwa [show n - i+(j - (n - i))=j by omega] at this
theorem Zoh {n:Nat} {U:Mx} {z:Nat→Rat} {i:Nat} (hi:i < n):UE n U z (n - i) i=UE n U z (n - 1 - i) i / U i i:=by
 rw [show n - i=(n - 1 - i)+1 by omega,Zag,if_pos (by omega)]
theorem Zhf (n:Nat) (U:Mx) (z:Nat→Rat) (i:Nat):∀j,j+i < n→UE n U z j i=z i - ZO (fun t=>U (n - 1 - t) i * UE n U z n (n - 1 - t)) j
 | 0,_=>by rw [YK];show z i=_;grind
 | j+1,h=>by
  rw [Zag,if_neg (by omega),if_pos (by omega),ZC,Zhf n U z i j (by omega)]
  have e:UE n U z n (n - 1 - j)=UE n U z j (n - 1 - j) / U (n - 1 - j) (n - 1 - j):=by
   rw [Zbe (i:=n - 1 - j) (by omega) (by omega) (JY _),Zoh (by omega),show n - 1 - (n - 1 - j)=j by omega]
  rw [e];grind
theorem Zya (f:Nat→Rat):∀n,ZO (fun t=>f (n - 1 - t)) n=ZO f n:=by
 intro n;have h:Inj n n (fun t=>n - 1 - t):=⟨fun s hs=>by show n - 1 - s < n;omega,fun s u h1 h2 e=>by have e':n - 1 - s=n - 1 - u:=e;omega⟩;exact Zad h f
theorem Zdo {n:Nat} {U:Mx} {z:Nat→Rat} (h0:∀k s,k < n→s < n→k < s→U k s=0) (h1:∀k,k < n→U k k≠0):∀s,s < n→ZO (fun k=>U k s * UE n U z n k) n=z s:=by
 intro s hs;rw [← Zya,X4 (n:=n - 1 - s+1) (m:=n) (by omega) fun i h1' h2=>by
  show U (n - 1 - i) s * _=0;rw [h0 (n - 1 - i) s (by omega) hs (by omega)];grind,ZC,show n - 1 - (n - 1 - s)=s by omega,Zbe hs (show n - s≤n by omega) (JY _),Zoh hs,Zhf n U z s (n - 1 - s) (by omega)]
 have e:=Rat.div_mul_cancel (a:=z s - ZO (fun t=>U (n - 1 - t) s * UE n U z n (n - 1 - t)) (n - 1 - s)) (h1 s hs);grind
def utN (U:Mx) (d:Nat→Rat):Nat→Nat→Rat
 | 0=>fun _=>0
 | k+1=>fun i=>if i=k then (d k - ZO (fun s=>U k s * utN U d k s) k) / U k k else utN U d k i
theorem Zhg (U:Mx) (d:Nat→Rat) (k i:Nat):utN U d (k+1) i=if i=k then (d k - ZO (fun s=>U k s * utN U d k s) k) / U k k else utN U d k i:=rfl
theorem Zdp {U:Mx} {d:Nat→Rat} {i:Nat}:∀{j:Nat},i < j→utN U d j i=utN U d (i+1) i
 | 0,h=>by omega
 | j+1,h=>by
  by_cases e:i=j
  ·rw [e]
  ·rw [Zhg,if_neg e];exact Zdp (by omega)
theorem Zqo {n:Nat} {U:Mx} {d:Nat→Rat} (h0:∀k s,k < n→s < n→k < s→U k s=0) (h1:∀k,k < n→U k k≠0):∀k,k < n→ZO (fun s=>U k s * utN U d n s) n=d k:=by
 intro k hk;rw [X4 (n:=k+1) (by omega) fun i h1' h2=>by rw [h0 k i hk h2 (by omega)];grind,ZC,Zdp hk,Zhg,if_pos rfl];rw [Zk (g:=fun s=>U k s * utN U d k s) fun s hs=>by rw [Zdp (show s < n by omega),← Zdp hs]];have e:=Rat.div_mul_cancel (a:=d k - ZO (fun s=>U k s * utN U d k s) k) (h1 k hk);grind
def ltN (n:Nat) (L:Mx) (w:Nat→Rat):Nat→Nat→Rat
 | 0=>w
 | j+1=>fun i=>if i=n - 1 - j then ltN n L w j i - ZO (fun p=>if p=i then 0 else L i p * ltN n L w j p) n else ltN n L w j i
theorem Zah (n:Nat) (L:Mx) (w:Nat→Rat) (j i:Nat):ltN n L w (j+1) i=if i=n - 1 - j then ltN n L w j i - ZO (fun p=>if p=i then 0 else L i p * ltN n L w j p) n else ltN n L w j i:=rfl
theorem Zdq {n:Nat} {L:Mx} {w:Nat→Rat} {i:Nat}:∀{j:Nat},j+i < n→ltN n L w j i=w i
 | 0,_=>rfl
 | j+1,h=>by rw [Zah,if_neg (by omega)];exact Zdq (by omega)
theorem Zbq {n:Nat} {L:Mx} {w:Nat→Rat} {i:Nat} (hi:i < n):∀{j:Nat},n - i≤j→j≤n→ltN n L w j i=ltN n L w (n - i) i
 | 0,h,_=>by omega
 | j+1,h,hj=>by
  by_cases e:n - i=j+1
  ·rw [e]
  ·rw [Zah,if_neg (by omega)];exact Zbq hi (by omega) (by omega)
theorem Zfv {n:Nat} {L:Mx} {w:Nat→Rat} (h0:∀t p,t < n→p < n→p < t→L t p=0) (h1:∀t,t < n→L t t=1):∀s,s < n→ZO (fun p=>L s p * ltN n L w n p) n=w s:=by
 intro s hs;have e1:ZO (fun p=>L s p * ltN n L w n p) n=ZO (fun p=>(if p=s then 0 else L s p * ltN n L w (n - 1 - s) p)+(if p=s then ltN n L w n s else 0)) n:=Zk fun p hp=>by
  by_cases e:p=s
  ·rw [if_pos e,if_pos e,e,h1 s hs];grind
  ·rw [if_neg e,if_neg e];rcases JX p s with g | g
   ·rw [h0 s p hs hp g];grind
   ·rw [Zbq hp (show n - p≤n by omega) (JY _),← Zbq hp (show n - p≤n - 1 - s by omega) (by omega)];grind
 rw [e1,WA,WC hs,Zbq hs (show n - s≤n by omega) (JY _),show n - s=(n - 1 - s)+1 by omega,Zah,if_pos (by omega),Zdq (by omega)];grind
end Pl
end Go.Proofs.YtgbhebappffbdaaGreat
