/- Lemmas of the claim; no condition. -/
import Derived.Test.YtgbhebappffbdaaGreatP15
set_option linter.all false
set_option maxRecDepth 100000
set_option maxHeartbeats 40000000
namespace Go.Proofs.YtgbhebappffbdaaGreat
open Go.RowKit
open Pl
attribute [local go_sem ↓] Go.wp_at_zero Go.wp_at_succ
section
def floats (o:Oper):Bool:=match o.op with
 | .move .. =>true
 | .assign .. =>true
 | .pick .. =>true
 | .load .. =>true
 | .binOp .. =>true
 | .unOp .. =>true
 | .convert .. =>true
 | .fieldAddr .. =>true
 | .field .. =>true
 | .indexAddr .. =>true
 | .index .. =>true
 | .extract .. =>true
 | .slice .. =>true
 | .nilCheck .. =>true
 | .build .. =>true
 | .call c=>match c.callee with | .builtin .len=>true | _=>false
 | _=>false
def Ygh (o:Oper):Bool:=match o.op with
 | .move .. =>true
 | .assign .. =>true
 | .pick .. =>true
 | .binOp .. =>true
 | .unOp .. =>true
 | .fieldAddr .. =>true
 | .field .. =>true
 | .indexAddr .. =>true
 | .extract .. =>true
 | .build .. =>true
 | _=>false
def Zdr (ops:Array Oper) (i:Nat):Bool:=((ops[i]?).map Ygh).getD false
section
variable {P:Program} {ops:Array Oper} {Q:Exit→Act→World→Prop} {md:Region.Mode} {S:World→Prop} {n:Nat}
def AnyG (P:Program) (md:Region.Mode) (ops:Array Oper) (Q:Exit→Act→World→Prop) (S:World→Prop) (n:Nat):Nat→Array Bool→Act→World→Prop
 | 0,listed,a,w=>Region.ready md ops listed=[]∧Q .normal a w
 | fuel+1,listed,a,w=>(Region.ready md ops listed=[]→Q .normal a w)∧
  ∀i∈Region.ready md ops listed,wpOp P ops Q i (fun a' w'=>(n≤i∨(S w→S w'))∧AnyG P md ops Q S n fuel (listed.setIfInBounds i true) a' w') a w
theorem AnyG.any:∀(fuel:Nat) (listed:Array Bool) (a:Act) (w:World),AnyG P md ops Q S n fuel listed a w→wpAny P md ops Q fuel listed a w
 | 0,_,_,_,h=>h
 | fuel+1,_,_,_,h=>⟨h.1,fun i hi=>wpOp_mono (fun a' w' h'=>AnyG.any fuel _ a' w' h'.2) (h.2 i hi)⟩
theorem Ygi (listed:Array Bool) (k:Nat) (h0:listed.getD k true=false) (h1:listed.getD k false=true):False:=by
 rcases JX k listed.size with h' | h'
 ·simp [h'] at h0 h1;rw [h0] at h1;cases h1
 ·simp [Array.getElem?_eq_none h'] at h1
theorem Zmg {i:Nat} {oi:Oper} {v:Value} (hi:ops[i]? =some oi) (hsel:∀(j:Nat) (o:Oper) cs b,ops[j]? =some o→o.op≠ .select cs b)
 (hQ:∀c a w,Q (.panic c) (a.put oi.dst v) w→Q (.panic c) a w):
 ∀(fuel:Nat) (listed:Array Bool) (a:Act) (w:World),
  (∀j oj,ops[j]? =some oj→j≠i→listed.getD j true=false→(∀e∈oj.after,Region.binds md e=true→e.on≠i)→oi.apart ops oj=true)→
  i∈Region.ready md ops listed→YieldsIf P ops (fun _=>True) oi v a→
  AnyG P md ops Q S n fuel (listed.setIfInBounds i true) (a.put oi.dst v) w→AnyG P md ops Q S n (fuel+1) listed a w:=by
 intro fuel
 induction fuel with
 | zero=>
  intro listed a w _ hr hy H;refine ⟨fun h=>(by rw [h] at hr;cases hr),fun j hj=>?_⟩;by_cases d:j=i
  ·subst d;exact hy.wpOp hi trivial ⟨.inr fun h=>h,H⟩
  ·have:=ready_mono hj d;rw [H.1] at this
   cases this
 | succ fuel ih=>
  intro listed a w f hr hy H;refine ⟨fun h=>(by rw [h] at hr;cases hr),fun j hj=>?_⟩;by_cases d:j=i
  ·subst d;exact hy.wpOp hi trivial ⟨.inr fun h=>h,H⟩
  ·have h1:=H.2 j (ready_mono hj d);obtain ⟨l,oj,m,q⟩:=mem_ready.1 hj;have p:∀e∈oj.after,Region.binds md e=true→e.on≠i:=fun e he hb heq=>by
    have h1:=q e he hb;rw [heq] at h1;exact Ygi listed i (mem_ready.1 hr).1 h1
   have h2:=wpOp_putIf m (f j oj m d l p) (fun cs b=>hsel i oi cs b hi) (fun cs b=>hsel j oj cs b m) hQ hy h1;have g:∀k ok,ops[k]? =some ok→k≠i→(listed.setIfInBounds j true).getD k true=false→
    (∀e∈ok.after,Region.binds md e=true→e.on≠i)→oi.apart ops ok=true:=fun k ok hk hki hun hno=>by
    refine f k ok hk hki ?_ hno;by_cases r:j=k
    ·subst r;exact l
    ·rw [getD_set_ne true r] at hun;exact hun
   refine wpOp_mono (fun a' w' h3=>⟨h3.2.1,ih (listed.setIfInBounds j true) a' w' g (ready_mono hr (Ne.symm d)) h3.1 ?_⟩) h2;rw [Array.setIfInBounds_comm _ _ d];exact h3.2.2
theorem Zfw {i:Nat} {oi:Oper} {v:Value} {fuel:Nat} {listed:Array Bool} {a:Act} {w:World} (hi:ops[i]? =some oi)
 (hs:Region.noSelect ops=true) (hf:Region.free md ops listed i=true) (hr:(Region.ready md ops listed).contains i=true)
 (hQ:∀c a w,Q (.panic c) (a.put oi.dst v) w→Q (.panic c) a w) (hy:YieldsIf P ops (fun _=>True) oi v a)
 (h:AnyG P md ops Q S n fuel (listed.setIfInBounds i true) (a.put oi.dst v) w):AnyG P md ops Q S n (fuel+1) listed a w:=
 Zmg hi (Region.noSelect_spec hs) hQ fuel listed a w (Region.free_spec hi hf) (by simpa using hr) hy h
end
def Zzz (md:Region.Mode) (ops:Array Oper) (i:Nat):Array Bool:=(List.range ops.size).foldl (fun d j=>d.push (((ops[j]?).map fun o=>o.after.any fun e=>Region.binds md e && (e.on==i || d.getD e.on false)).getD false)) #[]
def Yeo (md:Region.Mode) (ops:Array Oper) (i:Nat) (d:Array Bool) (j:Nat):Bool:= !d.getD j false || ((ops[j]?).map fun o=>o.after.any fun e=>Region.binds md e && (e.on==i || d.getD e.on false)).getD false
def Zds (md:Region.Mode) (ops:Array Oper) (n:Nat) (listed:Array Bool) (i:Nat):Bool:=
 (List.range ops.size).all fun j=>(decide (j < n) || (Zzz md ops i).getD j false) && (Yeo md ops i (Zzz md ops i) j && (!(Zzz md ops i).getD j false || !listed.getD j true))
def Y7 (ops:Array Oper) (n i:Nat):Bool:=decide (i < n) && ((ops[i]?).map floats).getD false
def Zyc (md:Region.Mode) (ops:Array Oper) (n:Nat) (listed:Array Bool) (i:Nat):Bool:=
 if Y7 ops n i=true then Region.free md ops listed i && ((Region.ready md ops listed).contains i && (Zdr ops i || Zds md ops n listed i)) else Region.ready md ops listed==[i]
def Zuc (md:Region.Mode) (ops:Array Oper) (n:Nat):Bool→List Nat→Array Bool→Bool
 | _,[],listed=>Region.ready md ops listed==[]
 | d,i::is,listed=>Zyc md ops n listed i && (!(d && (Y7 ops n i && !Zdr ops i)) && Zuc md ops n (d || decide (n≤i)) is (listed.setIfInBounds i true))
def Zyd (md:Region.Mode) (ops:Array Oper) (n:Nat) (is:List Nat):Bool:=Region.noSelect ops && (Zuc md ops n false is (Array.replicate ops.size false) && decide (is.length=ops.size))
section
variable {P:Program} {ops:Array Oper} {Q:Exit→Act→World→Prop} {md:Region.Mode} {S:World→Prop} {n:Nat}
def Xl (P:Program) (ops:Array Oper) (Q:Exit→Act→World→Prop) (S:World→Prop) (n:Nat):List Nat→Act→World→Prop
 | [],a,w=>Q .normal a w
 | i::is,a,w=>match ops[i]? with
  | none=>True
  | some o=>if Y7 ops n i=true then ∃v,(if Zdr ops i=true then YieldsIf P ops (fun _=>True) o v a else YieldsIf P ops S o v a)∧Xl P ops Q S n is (a.put o.dst v) w
   else if Region.wanted o (yielded ops a.tmps)=true then Oper.wp P o a w (fun a' w'=>(n≤i∨S w')∧Xl P ops Q S n is a' w') Q
   else (n≤i∨S w)∧Xl P ops Q S n is (a.put o.dst undef) w
theorem Zmh {i:Nat} {oi:Oper} {v:Value} {d:Array Bool} (hi:ops[i]? =some oi) (hsel:∀(j:Nat) (o:Oper) cs b,ops[j]? =some o→o.op≠ .select cs b)
 (hd1:∀j,n≤j→j < ops.size→d.getD j false=true) (hd2:∀j o,ops[j]? =some o→d.getD j false=true→∃e∈o.after,Region.binds md e=true∧(e.on=i∨(e.on < ops.size∧d.getD e.on false=true)))
 (hQ:∀c a w,Q (.panic c) (a.put oi.dst v) w→Q (.panic c) a w):
 ∀(fuel:Nat) (listed:Array Bool) (a:Act) (w:World),
  (∀j oj,ops[j]? =some oj→j≠i→listed.getD j true=false→(∀e∈oj.after,Region.binds md e=true→e.on≠i)→oi.apart ops oj=true)→
  (∀j,j < ops.size→d.getD j false=true→listed.getD j true=false)→
  i∈Region.ready md ops listed→YieldsIf P ops S oi v a→S w→
  AnyG P md ops Q S n fuel (listed.setIfInBounds i true) (a.put oi.dst v) w→AnyG P md ops Q S n (fuel+1) listed a w:=by
 intro fuel
 induction fuel with
 | zero=>
  intro listed a w _ _ hr hy hS H;refine ⟨fun h=>(by rw [h] at hr;cases hr),fun j hj=>?_⟩;by_cases f:j=i
  ·subst f;exact hy.wpOp hi hS ⟨.inr fun h=>h,H⟩
  ·have:=ready_mono hj f;rw [H.1] at this
   cases this
 | succ fuel ih=>
  intro listed a w l m hr hy hS H;refine ⟨fun h=>(by rw [h] at hr;cases hr),fun j hj=>?_⟩;by_cases f:j=i
  ·subst f;exact hy.wpOp hi hS ⟨.inr fun h=>h,H⟩
  ·have h1:=H.2 j (ready_mono hj f);obtain ⟨s,oj,g,t⟩:=mem_ready.1 hj;have u:=(mem_ready.1 hr).1;have r:∀e∈oj.after,Region.binds md e=true→e.on≠i:=fun e he hb heq=>by
    have h1:=t e he hb;rw [heq] at h1;exact Ygi listed i u h1
   have x:d.getD j false=false:=by
    cases hc:d.getD j false with
    | false=>rfl
    | true=>
     obtain ⟨e,he,hb,A⟩:=hd2 j oj g hc;rcases A with h2 | ⟨h2,h3⟩
     ·exact absurd h2 (r e he hb)
     ·exact (Ygi listed e.on (m e.on h2 h3) (t e he hb)).elim
   have z:¬n≤j:=fun hle=>by
    have:=hd1 j hle (Array.getElem?_eq_some_iff.1 g).1;rw [x] at this;cases this
   have h2:=wpOp_putIf g (l j oj g f s r) (fun cs b=>hsel i oi cs b hi) (fun cs b=>hsel j oj cs b g) hQ hy h1;have p:∀k ok,ops[k]? =some ok→k≠i→(listed.setIfInBounds j true).getD k true=false→
    (∀e∈ok.after,Region.binds md e=true→e.on≠i)→oi.apart ops ok=true:=fun k ok hk hki m hno=>by
    refine l k ok hk hki ?_ hno;by_cases q:j=k
    ·subst q;exact s
    ·rw [getD_set_ne true q] at m;exact m
   have y:∀k,k < ops.size→d.getD k false=true→(listed.setIfInBounds j true).getD k true=false:=fun k hk hdk=>by
    have q:j≠k:=fun e=>by subst e;rw [x] at hdk;cases hdk
    rw [getD_set_ne true q];exact m k hk hdk
   refine wpOp_mono (fun a' w' h3=>⟨h3.2.1,ih (listed.setIfInBounds j true) a' w' p y (ready_mono hr (Ne.symm f)) h3.1 ((h3.2.1.resolve_left z) hS) ?_⟩) h2;rw [Array.setIfInBounds_comm _ _ f];exact h3.2.2
theorem Zfx {i:Nat} {oi:Oper} {v:Value} {fuel:Nat} {listed:Array Bool} {a:Act} {w:World} (hi:ops[i]? =some oi)
 (hs:Region.noSelect ops=true) (hf:Region.free md ops listed i=true) (hr:(Region.ready md ops listed).contains i=true) (hw:Zds md ops n listed i=true)
 (hQ:∀c a w,Q (.panic c) (a.put oi.dst v) w→Q (.panic c) a w) (hy:YieldsIf P ops S oi v a) (hS:S w)
 (h:AnyG P md ops Q S n fuel (listed.setIfInBounds i true) (a.put oi.dst v) w):AnyG P md ops Q S n (fuel+1) listed a w:=by
 simp only [Zds,List.all_eq_true,List.mem_range,Bool.and_eq_true,Bool.or_eq_true,decide_eq_true_eq] at hw;refine Zmh (d:=Zzz md ops i) hi (Region.noSelect_spec hs) ?_ ?_ hQ fuel listed a w (Region.free_spec hi hf) ?_ (by simpa using hr) hy hS h
 ·intro j hj b;rcases (hw j b).1 with h1 | h1
  ·omega
  ·exact h1
 ·intro j o ho g;have b:=(Array.getElem?_eq_some_iff.1 ho).1;have h1:=(hw j b).2.1;unfold Yeo at h1;rw [g,ho] at h1;simp only [Bool.not_true,Bool.false_or,Option.map_some,Option.getD_some] at h1;obtain ⟨e,he,hb⟩:=Array.any_eq_true'.1 h1;simp only [Bool.and_eq_true,Bool.or_eq_true,beq_iff_eq] at hb;refine ⟨e,he,hb.1,hb.2.imp id fun h3=>⟨?_,h3⟩⟩;rcases JX e.on ops.size with h4 | h4
  ·exact h4
  ·exfalso;have k:(Zzz md ops i).size≤ops.size:=by
    unfold Zzz;have:∀(l:List Nat) (d:Array Bool) (f:Array Bool→Nat→Bool),(l.foldl (fun d j=>d.push (f d j)) d).size=d.size+l.length:=by
     intro l
     induction l with
     | nil=>intro d f;simp
     | cons x l ih=>intro d f;simp [ih];omega
    have h5:=this (List.range ops.size) #[] (fun d j=>((ops[j]?).map fun o=>o.after.any fun e=>Region.binds md e && (e.on==i || d.getD e.on false)).getD false);simp only [List.size_toArray,List.length_nil,List.length_range,Nat.zero_add] at h5;exact Nat.le_of_eq h5
   have:(Zzz md ops i).getD e.on false=false:=by
    simp [Array.getElem?_eq_none (show (Zzz md ops i).size≤e.on by omega)]
   rw [this] at h3;cases h3
 ·intro j hj g;have h1:=(hw j hj).2.2;rw [g] at h1;simpa using h1
theorem AnyG.of_seq (hQ:∀c a d v w,Q (.panic c) (a.put d v) w→Q (.panic c) a w) (hs:Region.noSelect ops=true):
 ∀(is:List Nat) (listed:Array Bool) (a:Act) (w:World) (d:Bool),Zuc md ops n d is listed=true→(d=false→S w)→Xl P ops Q S n is a w→AnyG P md ops Q S n is.length listed a w:=by
 intro is
 induction is with
 | nil=>
  intro listed a w d b _ h;exact ⟨by simpa [Zuc] using b,h⟩
 | cons i is ih=>
  intro listed a w d b hS h;simp only [Zuc,Bool.and_eq_true] at b;obtain ⟨e,hd,b⟩:=b;unfold Xl at h;unfold Zyc at e;split at e
  ·rename_i hf
   simp only [Bool.and_eq_true] at e;obtain ⟨h1,h2,h3⟩:=e;have f:=hf;simp only [Y7,Bool.and_eq_true,decide_eq_true_eq] at f;obtain ⟨o,ho⟩:∃o,ops[i]? =some o:=by
    cases hc:ops[i]? with
    | none=>rw [hc] at f;simp at f
    | some o=>exact ⟨o,rfl⟩
   simp only [ho] at h;rw [if_pos hf] at h;obtain ⟨v,hy,hr⟩:=h;by_cases hp:Zdr ops i=true
   ·rw [if_pos hp] at hy;exact Zfw ho hs h1 h2 (fun c a w=>hQ c a o.dst v w) hy (ih _ _ w _ b (fun hd'=>hS (by simp at hd';exact hd'.1)) hr)
   ·rw [if_neg hp] at hy;have g:d=false:=(by rw [hf] at hd;simpa [hp] using hd);have hw:=hS g;exact Zfx ho hs h1 h2 (by simpa [hp] using h3) (fun c a w=>hQ c a o.dst v w) hy hw (ih _ _ w _ b (fun _=>hw) hr)
  ·rename_i hf
   have hr:Region.ready md ops listed=[i]:=(by simpa using e);have hi:i∈Region.ready md ops listed:=(by rw [hr];exact List.mem_singleton.2 rfl);obtain ⟨_,o,ho,_⟩:=mem_ready.1 hi;simp only [ho] at h;rw [if_neg hf] at h;refine ⟨fun h0=>(by rw [hr] at h0;cases h0),fun j hj=>?_⟩;rw [hr] at hj;obtain rfl:j=i:=by simpa using hj
   have h:wpOp P ops Q j (fun a' w'=>(n≤j∨S w')∧Xl P ops Q S n is a' w') a w:=by
    unfold wpOp;rw [ho];show if Region.wanted o (yielded ops a.tmps)=true then _ else _
    split
    ·rename_i hw;rw [if_pos hw] at h;exact .inl h
    ·rename_i hw;rw [if_neg hw] at h;exact h
   exact wpOp_mono (fun a' w' h'=>⟨h'.1.imp id (fun h _=>h),ih _ a' w' _ b (fun hle=>h'.1.resolve_left (by simp at hle;omega)) h'.2⟩) h
theorem Zq {id:Nat} {l:List Oper} {a:Act} {w:World} (n:Nat) (is:List Nat) (hm:P.follows .mixedOrders=true) (hok:Zyd .any l.toArray n is=true)
 (h:Xl P l.toArray (NoPanic Q) (fun w'=>Below w.heap.size w w') n is a w.drew):(Code.region id l.toArray true).wp P Q a w:=by
 simp only [Zyd,Bool.and_eq_true,decide_eq_true_eq] at hok;obtain ⟨hs,b,hl⟩:=hok;refine wp_region_noPanic (wp_region_any hm (AnyG.any _ _ _ _ (S:=fun w'=>Below w.heap.size w w') (n:=n) ?_));rw [← hl];have:=AnyG.of_seq (P:=P) (Q:=NoPanic Q) (S:=fun w'=>Below w.heap.size w w') (fun c a d v w h=>h) hs is _ a w.drew false b (fun _=>(JR _ _).drew) h
 rwa [hl] at this ⊢
theorem Zz {a:Act} {w:World} (h:Q .normal a w):Xl P ops (NoPanic Q) S n [] a w:=h
theorem Zg {o:Oper} {i:Nat} {is:List Nat} {a:Act} {w:World} {v:Value} (ho:ops[i]? =some o) (hf:(Y7 ops n i && !Zdr ops i)=true) (hw:Region.wanted o (yielded ops a.tmps)=true) (hy:∀w',S w'→(execOp a.eval o).run P w'= .ok (.value v) w') (h:Xl P ops Q S n is (a.put o.dst v) w):Xl P ops Q S n (i::is) a w:=by
 simp only [Bool.and_eq_true,Bool.not_eq_true'] at hf;unfold Xl;rw [ho];show if _ then _ else _
 rw [if_pos hf.1];exact ⟨v,by rw [if_neg (by simp [hf.2])];exact .inl ⟨hw,hy⟩,h⟩
theorem Zc {o:Oper} {i:Nat} {is:List Nat} {a:Act} {w:World} {v:Value} (ho:ops[i]? =some o) (hf:(Y7 ops n i && Zdr ops i)=true) (hw:Region.wanted o (yielded ops a.tmps)=true) (hy:∀w',True→(execOp a.eval o).run P w'= .ok (.value v) w') (h:Xl P ops Q S n is (a.put o.dst v) w):Xl P ops Q S n (i::is) a w:=by
 simp only [Bool.and_eq_true] at hf;unfold Xl;rw [ho];show if _ then _ else _
 rw [if_pos hf.1];exact ⟨v,by rw [if_pos hf.2];exact .inl ⟨hw,hy⟩,h⟩
theorem Zh {o:Oper} {i:Nat} {is:List Nat} {a:Act} {w:World} (ho:ops[i]? =some o) (hf:Y7 ops n i=true) (hw:Region.wanted o (yielded ops a.tmps)=false) (h:Xl P ops Q S n is (a.put o.dst undef) w):Xl P ops Q S n (i::is) a w:=by
 unfold Xl;rw [ho];show if _ then _ else _
 rw [if_pos hf];exact ⟨undef,by split <;> exact .inr ⟨hw,rfl⟩,h⟩
theorem Zd {o:Oper} {i:Nat} {is:List Nat} {a:Act} {w:World} (ho:ops[i]? =some o) (hf:Y7 ops n i=false)
 (h:∀K':Act→World→Prop,Shut (∀a w,(n≤i∨S w)→Xl P ops Q S n is a w→K' a w)→if Region.wanted o (yielded ops a.tmps)=true then Oper.wp P o a w K' Q else K' (a.put o.dst undef) w):Xl P ops Q S n (i::is) a w:=by
 have h1:=h (fun a' w'=>(n≤i∨S w')∧Xl P ops Q S n is a' w') (fun a w h1 h2=>⟨h1,h2⟩);unfold Xl;rw [ho];show if _ then _ else _
 rw [if_neg (by simp [hf])];exact h1
end
theorem Zp {w:World} {p:Addr} {v:Value} (h:w.cell? p=some v):∀w',Below w.heap.size w w'→w'.cell? p=some v:=fun _ hb=>Zf hb h
end
namespace Pl
theorem Zye {q:Rat}:qs q=0↔q=0:=by
 unfold qs;rw [Vd];exact Rat.num_eq_zero
theorem Zud {n d m k:Int} (hk:k≠0):Rat.divInt (n * k) (d * m)=Rat.divInt n d / Rat.divInt m k:=by
 rw [Rat.div_def,Rat.inv_divInt,Rat.divInt_mul_divInt]
theorem Yce {n d m k:Int} {p q:Rat} (h:okq n d p) (g:okq m k q) (hq:q≠0):(-4611686018427387904≤n * k∧n * k≤4611686018427387904)∧(-4611686018427387904≤d * m∧d * m≤4611686018427387904)∧((0 < m∧0 < d * m)∨(m < 0∧d * m < 0))∧Rat.divInt (n * k) (d * m)=p / q∧Rat.divInt (-(n * k)) (-(d * m))=p / q:=by
 obtain ⟨⟨a1,a2⟩,a3,a4,rfl⟩:=h;obtain ⟨⟨b1,b2⟩,b3,b4,rfl⟩:=g;have hm:m≠0:=fun e=>hq (by rw [e,Rat.zero_divInt])
 have e1:Rat.divInt (n * k) (d * m)=Rat.divInt n d / Rat.divInt m k:=Zud (by omega);refine ⟨prod_bd1 (by omega) (by omega) (by omega) (by omega),prod_bd1 (by omega) (by omega) (by omega) (by omega),?_,e1,?_⟩
 ·rcases Int.lt_or_le m 0 with c | c
  ·right;exact ⟨c,Int.mul_neg_of_pos_of_neg a3 c⟩
  ·left;exact ⟨by omega,Int.mul_pos a3 (by omega)⟩
 ·rw [← e1,Rat.neg_divInt_neg]
 where
  prod_bd1 {x y:Int} (h1: -2147483648≤x) (h2:x≤2147483648) (h3: -2147483648≤y) (h4:y≤2147483648): -4611686018427387904≤x * y∧x * y≤4611686018427387904:=by
   have e:(x * y).natAbs≤2147483648 * 2147483648:=(by rw [Int.natAbs_mul];exact Nat.mul_le_mul (by omega) (by omega));omega
end Pl
theorem Zmi {w w2:World} {m g:Nat} {x y z u b s b' s' er:Value} {a:RF} (hR:Bk w2 g 46 [x,y,z,u]) (d:Zt w2 (.agg #[b,s,b',s']) a) (hbe:Below m w w2) (hg:m≤g):
 ∃v',Ending.returned (.tuple #[.agg [b,s,b',s'].toArray,er])= .returned (.tuple #[v',er])∧Zt ((((w2.setCell ⟨g,0,none⟩ b).setCell ⟨g,1,none⟩ s).setCell ⟨g,2,none⟩ b').setCell ⟨g,3,none⟩ s') v' a∧Below m w ((((w2.setCell ⟨g,0,none⟩ b).setCell ⟨g,1,none⟩ s).setCell ⟨g,2,none⟩ b').setCell ⟨g,3,none⟩ s'):=
 ⟨_,rfl,d.keep (hR.keep4 (by decide) _ _ _ _),ZG hbe hg _ _ _ _⟩
theorem VY (v1 v2:Value) (a b:RF) (w:World) (h1:Zt w v1 a) (h2:Zt w v2 b) (hs:a.Sm) (hs2:b.Sm) (hb0:b.q≠0):
 Calls Tryz.prog 105 #[v1,v2] w fun e w'=>∃v',e= .returned (.tuple #[v',.int .i64 0])∧Zt w' v' (canF (a.q / b.q))∧Below w.heap.size w w':=by
 obtain ⟨A,n,c,A',n',c',rfl,hd,aw⟩:=id h1;obtain ⟨B,m,d,B',m',d',rfl,ke,ax⟩:=id h2;obtain ⟨W,hW,hX,hY,hR,p⟩:=Ztf w (.bool a.num.neg) (.slice A n c) (.bool a.den.neg) (.slice A' n' c') (.bool b.num.neg) (.slice B m d) (.bool b.den.neg) (.slice B' m' d');have e1:=h1.below p;have e2:=h2.below p;obtain ⟨p1,p2,p3,p4⟩:=hX.four;obtain ⟨r1,r2,r3,r4⟩:=hY.four;have S:=JZ hb0;have aj:(qs b.q==0)=false:=by simpa using fun e=>hb0 (Zye.1 e)
 clear h1 h2 hd aw ke ax hb0;go_enter Tryz.func105,Tryz.ntmps105;go_wp2_with fail;clear hW;refine (Zx _ b _ e2).mono ?_;rintro e w0 ⟨rfl,hb0⟩;replace hX:=hX.later hb0;replace hY:=hY.later hb0;replace hR:=hR.later hb0;replace p:=Za p hb0 p.size;replace e1:=e1.below hb0;replace e2:=e2.below hb0;clear p1 p2 p3 p4 r1 r2 r3 r4 hb0;obtain ⟨p1,p2,p3,p4⟩:=hX.four;obtain ⟨r1,r2,r3,r4⟩:=hY.four;go_wp2_with fail;refine (VA _ _ a b _ e1 e2).mono ?_;rintro e w1 ⟨x,y,z,u,ok,rfl,hq,t⟩;have HQ:=JZ hq;have T:=hX.later t;have U:=hY.later t;have V:=hR.later t;have E:=Za p t p.size;have X:=e1.below t;have Y:=e2.below t;clear hq hX hY hR p e1 e2 t p1 p2 p3 p4 r1 r2 r3 r4 aj;obtain ⟨W2,M,bW,bV,bn⟩:=Ziw w1 x y z u;have Z:=T.later bn;have a0:=U.later bn;have r:=V.later bn;have h:=Za E bn E.size;have a1:=X.below bn;have a2:=Y.below bn;clear T U V E X Y bn
 cases ok
 ·obtain ⟨p1,p2,p3,p4⟩:=Z.four;clear HQ;go_wp2_with fail;clear M;refine (YY _ a _ a1 hs).mono ?_;rintro e w3 ⟨v1,v2,N,D,rfl,iN,iD,hD,ad,sN,sD,k⟩;have HD:=JZ hD;have ak:=JZ ad;obtain ⟨A3,n3,k3,rfl,_⟩:=iN.shape;obtain ⟨A4,n4,k4,rfl,_⟩:=iD.shape;obtain ⟨W3,ay,bN,bD,bn⟩:=boxes w3 (.bool N.neg) (.slice A3 n3 k3) (.bool D.neg) (.slice A4 n4 k4);have s:=Za k bn k.size;have a3:=a0.later s;have i:=r.later s;have F:=Za h s h.size;have a4:=a2.below s;have a5:=iN.below bn;have a6:=iD.below bn;clear hD ad Z a0 r h a1 a2 k s bn iN iD p1 p2 p3 p4 bW bV hs;obtain ⟨r1,r2,r3,r4⟩:=a3.four;go_wp2_with fail;clear ay;refine (YY _ b _ a4 hs2).mono ?_;rintro e w5 ⟨v1,v2,N',D',rfl,jN,jD,ae,af,ag,ah,R⟩;have al:=JZ ae;have a7:=JZ af;obtain ⟨A5,n5,k5,rfl,_⟩:=jN.shape;obtain ⟨A6,n6,k6,rfl,_⟩:=jD.shape;obtain ⟨W5,az,b0,b5,bn⟩:=boxes w5 (.bool N'.neg) (.slice A5 n5 k5) (.bool D'.neg) (.slice A6 n6 k6);have j:=Za R bn R.size;have am:=bN.later j;have an:=bD.later j;have ao:=i.later j;have J:=Za F j F.size;have ap:=a5.below j;have aq:=a6.below j;have ar:=jN.below bn;have au:=jD.below bn;clear ae af a3 i F a4 R j bn jN jD r1 r2 r3 r4 bN bD a5 a6 hs2;obtain ⟨x0,x1,_,_⟩:=am.two;obtain ⟨y0,y1,_,_⟩:=an.two;obtain ⟨a9,aa,_,_⟩:=b0.two;obtain ⟨ab,ac,_,_⟩:=b5.two;have av:Hid ((canI (D.z * N'.z)).z≠0):=JZ (by
   rw [ZI];intro e;rcases Int.mul_eq_zero.1 e with g | g
   ·have:=HD.out;omega
   ·exact S.out (by rw [← a7.out,g,Rat.zero_divInt]))
  go_upto_region 11 with (fail)
  clear az;have C0:=Zp x0;have C1:=Zp x1;have C2:=Zp y0;have C3:=Zp y1;have D0:=Zp a9;have D1:=Zp aa;have D2:=Zp ab;have D3:=Zp ac;have H:Below W5.heap.size W5 W5.drew:=(JR _ _).drew;clear x0 x1 y0 y1 a9 aa ab ac;refine Zq 7 [0,1,3,4,2,5,6,7,8] (by kernel_rfl) (by kernel_rfl) ?_;repeat ((first | (refine Zc (v:=?_) rfl rfl rfl ?_ ?_;rotate_left;(· (intro _ o;go_simp;(try go_bits);(try with_reducible rfl)))) | (refine Zg (v:=?_) rfl rfl rfl ?_ ?_;rotate_left;(· (intro _ o;go_simp;(try go_bits);(try with_reducible rfl)))) | refine Zh rfl rfl rfl ?_);(try simp only [Act.put,pu1,pu2,pu3,pu4,pu5,pu6]))
  refine Zd rfl rfl (fun KR hKR=>?_);go_simp;with_reducible refine (Xd _ _ N D' _ (ap.below H) (au.below H) (RI.Sm.two sN ah)).mono ?_
  rintro _ w6 ⟨v6,rfl,e6,b6⟩;have G:=Za H b6 H.size;refine hKR.out _ _ (Or.inr G) ?_;clear hKR KR;(try simp only [Act.put,pu1,pu2,pu3,pu4,pu5,pu6]);repeat ((first | (refine Zc (v:=?_) rfl rfl rfl ?_ ?_;rotate_left;(· (intro _ o;go_simp;(try go_bits);(try with_reducible rfl)))) | (refine Zg (v:=?_) rfl rfl rfl ?_ ?_;rotate_left;(· (intro _ o;go_simp;(try go_bits);(try with_reducible rfl)))) | refine Zh rfl rfl rfl ?_);(try simp only [Act.put,pu1,pu2,pu3,pu4,pu5,pu6]))
  refine Zd rfl rfl (fun KR hKR=>?_);go_simp;with_reducible refine (Xd _ _ D N' _ (aq.below G) (ar.below G) (RI.Sm.two sD ag)).mono ?_
  rintro _ w7 ⟨v7,rfl,e7,ai⟩;have K:=Za G ai G.size;refine hKR.out _ _ (Or.inr K) ?_;clear hKR KR;(try simp only [Act.put,pu1,pu2,pu3,pu4,pu5,pu6]);repeat ((first | (refine Zc (v:=?_) rfl rfl rfl ?_ ?_;rotate_left;(· (intro _ o;go_simp;(try go_bits);(try with_reducible rfl)))) | (refine Zg (v:=?_) rfl rfl rfl ?_ ?_;rotate_left;(· (intro _ o;go_simp;(try go_bits);(try with_reducible rfl)))) | refine Zh rfl rfl rfl ?_);(try simp only [Act.put,pu1,pu2,pu3,pu4,pu5,pu6]))
  refine Zd rfl rfl (fun KR hKR=>?_);go_simp;with_reducible refine (Xk _ _ (canI (N.z * D'.z)) (canI (D.z * N'.z)) _ (e6.below ai) e7 (JW (RI.Sm.mul sN ah) (by decide)) (JW (RI.Sm.mul sD ag) (by decide)) av.out).mono ?_
  rw [ZI,ZI,Zud (Int.ne_of_gt al.out),ak.out,a7.out];rintro _ w8 ⟨v8,rfl,e8,b7⟩;have L:=Za K b7 K.size;obtain ⟨C,l,f,C',l',f',rfl,_,_⟩:=id e8;have I:=ao.later L;obtain ⟨c0,c1,c2,c3⟩:=I.four;obtain ⟨f0,f1,f2,f3⟩:=I.fourF;refine hKR.out _ _ (Or.inr L) ?_;clear hKR KR;(try simp only [Act.put,pu1,pu2,pu3,pu4,pu5,pu6]);refine Zd rfl rfl (fun KR hKR=>?_);go_simp;refine hKR.out _ _ (Or.inl (by decide)) ?_;clear hKR KR;(try simp only [Act.put,pu1,pu2,pu3,pu4,pu5,pu6]);refine Zd rfl rfl (fun KR hKR=>?_);go_simp;refine hKR.out _ _ (Or.inl (by decide)) ?_;clear hKR KR;(try simp only [Act.put,pu1,pu2,pu3,pu4,pu5,pu6]);refine Zz ?_;clear C0 C1 C2 C3 D0 D1 D2 D3;have a8:=Za J L J.size;go_wp2;refine Y5 Tryz.results105 Tryz.underlying46 (by kernel_rfl) rfl (I.set4 _ _ _ _) rfl ?_;exact Zmi I e8 a8 (by omega)
 ·obtain ⟨⟨b1,b2⟩,⟨b3,b4⟩,hz,O,P⟩:=Yce (HQ.out rfl).1 (HQ.out rfl).2 S.out;obtain ⟨q0,q1,_,_⟩:=bW.two;obtain ⟨s0,s1,_,_⟩:=bV.two;clear HQ;rcases hz with ⟨hz,hz2⟩ | ⟨hz,hz2⟩
  ·have HV:=JZ O;clear O P;have t1:IntKind.i64.wrap (x * u)=x * u:=(by simp only [IntKind.wrap,IntKind.bits,IntKind.signed];simp;omega);have t2:IntKind.i64.wrap (y * z)=y * z:=by simp only [IntKind.wrap,IntKind.bits,IntKind.signed];simp;omega
   go_upto_region 5 with (fail)
   clear M;have C0:=Zp q0;have C1:=Zp q1;have D0:=Zp s0;have D1:=Zp s1;clear q0 q1 s0 s1;refine Zq 12 [0,1,2,3,4,5,6,7,8,9,10,11] (by kernel_rfl) (by kernel_rfl) ?_;repeat ((first | (refine Zc (v:=?_) rfl rfl rfl ?_ ?_;rotate_left;(· (intro _ o;go_simp;(try go_bits);(try with_reducible rfl)))) | (refine Zg (v:=?_) rfl rfl rfl ?_ ?_;rotate_left;(· (intro _ o;go_simp;(try go_bits);(try with_reducible rfl)))) | refine Zh rfl rfl rfl ?_);(try simp only [Act.put,pu1,pu2,pu3,pu4,pu5,pu6]))
   refine Zz ?_;clear C0 C1 D0 D1;replace r:=r.drew;replace h:=h.drew;generalize W2.drew=W3 at *;go_wp2_with fail;refine (Y3 (x * u) (y * z) _ (by omega) (by omega) (by omega) (by omega)).mono ?_;rw [HV.out];rintro e w3 ⟨v3,rfl,e3,k⟩;have i:=r.later k;obtain ⟨C,l,f,C',l',f',rfl,_,_⟩:=id e3;obtain ⟨c0,c1,c2,c3⟩:=i.four;obtain ⟨f0,f1,f2,f3⟩:=i.fourF;go_wp2;refine Y5 Tryz.results105 Tryz.underlying46 (by kernel_rfl) rfl (i.set4 _ _ _ _) rfl ?_;exact Zmi i e3 (Za h k h.size) (by omega)
  ·have HV:=JZ P;clear O P;have t1:IntKind.i64.wrap (x * u)=x * u:=(by simp only [IntKind.wrap,IntKind.bits,IntKind.signed];simp;omega);have t2:IntKind.i64.wrap (y * z)=y * z:=(by simp only [IntKind.wrap,IntKind.bits,IntKind.signed];simp;omega);have t3:IntKind.i64.wrap (-(x * u))= -(x * u):=(by simp only [IntKind.wrap,IntKind.bits,IntKind.signed];simp;omega);have t4:IntKind.i64.wrap (-(y * z))= -(y * z):=by simp only [IntKind.wrap,IntKind.bits,IntKind.signed];simp;omega
   go_upto_region 5 with (fail)
   clear M;have C0:=Zp q0;have C1:=Zp q1;have D0:=Zp s0;have D1:=Zp s1;clear q0 q1 s0 s1;refine Zq 12 [0,1,2,3,4,5,6,7,8,9,10,11] (by kernel_rfl) (by kernel_rfl) ?_;repeat ((first | (refine Zc (v:=?_) rfl rfl rfl ?_ ?_;rotate_left;(· (intro _ o;go_simp;(try go_bits);(try with_reducible rfl)))) | (refine Zg (v:=?_) rfl rfl rfl ?_ ?_;rotate_left;(· (intro _ o;go_simp;(try go_bits);(try with_reducible rfl)))) | refine Zh rfl rfl rfl ?_);(try simp only [Act.put,pu1,pu2,pu3,pu4,pu5,pu6]))
   refine Zz ?_;clear C0 C1 D0 D1;replace r:=r.drew;replace h:=h.drew;generalize W2.drew=W3 at *;go_wp2_with fail;refine (Y3 (-(x * u)) (-(y * z)) _ (by omega) (by omega) (by omega) (by omega)).mono ?_;rw [HV.out];rintro e w3 ⟨v3,rfl,e3,k⟩;have i:=r.later k;obtain ⟨C,l,f,C',l',f',rfl,_,_⟩:=id e3;obtain ⟨c0,c1,c2,c3⟩:=i.four;obtain ⟨f0,f1,f2,f3⟩:=i.fourF;go_wp2;refine Y5 Tryz.results105 Tryz.underlying46 (by kernel_rfl) rfl (i.set4 _ _ _ _) rfl ?_;exact Zmi i e3 (Za h k h.size) (by omega)
theorem Zzk (v1:Value) (a:RF) (w:World) (h1:Zt w v1 a) (hs:a.Sm):
 Calls Tryz.prog 37 #[v1] w fun e w'=>∃v',e= .returned v'∧Zt w' v' (canF (-a.q))∧Below w.heap.size w w':=by
 obtain ⟨A,n,c,A',n',c',rfl,hd,x⟩:=id h1;obtain ⟨W,hW,_,hX,hR,h⟩:=Zis w (.bool a.num.neg) (.slice A n c) (.bool a.den.neg) (.slice A' n' c') (.bool false) (.slice none 0 0) (.bool false) (.slice none 0 0);have e1:=h1.below h;obtain ⟨p1,p2,p3,p4⟩:=hX.four;clear h1 hd x;go_enter Tryz.func37,Tryz.ntmps37;go_wp2_with fail;clear hW;refine (YY _ a _ e1 hs).mono ?_;rintro e w3 ⟨v1,v2,N,D,rfl,iN,iD,hD,p,sN,sD,m⟩;have HD:=JZ hD;have r:=JZ p;obtain ⟨A3,n3,k3,rfl,_⟩:=iN.shape;obtain ⟨A4,n4,k4,rfl,_⟩:=iD.shape;obtain ⟨W3,y,bN,bD,bn⟩:=boxes w3 (.bool N.neg) (.slice A3 n3 k3) (.bool D.neg) (.slice A4 n4 k4);have b:=Za m bn m.size;have s:=hR.later b;have i:=Za h b h.size;have t:=iN.below bn;have u:=iD.below bn;clear hD p hX hR h e1 m b bn iN iD p1 p2 p3 p4 hs;obtain ⟨x0,x1,_,_⟩:=bN.two;obtain ⟨y0,y1,_,_⟩:=bD.two
 go_upto_region 2 with (fail)
 clear y;have C0:=Zp x0;have C1:=Zp x1;have C2:=Zp y0;have C3:=Zp y1;have j:Below W3.heap.size W3 W3.drew:=(JR _ _).drew;clear x0 x1 y0 y1;refine Zq 4 [0,2,1,3,4] (by kernel_rfl) (by kernel_rfl) ?_;repeat ((first | (refine Zc (v:=?_) rfl rfl rfl ?_ ?_;rotate_left;(· (intro _ o;go_simp;(try go_bits);(try with_reducible rfl)))) | (refine Zg (v:=?_) rfl rfl rfl ?_ ?_;rotate_left;(· (intro _ o;go_simp;(try go_bits);(try with_reducible rfl)))) | refine Zh rfl rfl rfl ?_);(try simp only [Act.put,pu1,pu2,pu3,pu4,pu5,pu6]))
 refine Zd rfl rfl (fun KR hKR=>?_);go_simp;with_reducible refine (WN _ N _ (t.below j) (JW sN (by decide))).mono ?_
 rintro _ w6 ⟨v6,rfl,e6,B⟩;have d:=Za j B j.size;refine hKR.out _ _ (Or.inr d) ?_;clear hKR KR;(try simp only [Act.put,pu1,pu2,pu3,pu4,pu5,pu6]);repeat ((first | (refine Zc (v:=?_) rfl rfl rfl ?_ ?_;rotate_left;(· (intro _ o;go_simp;(try go_bits);(try with_reducible rfl)))) | (refine Zg (v:=?_) rfl rfl rfl ?_ ?_;rotate_left;(· (intro _ o;go_simp;(try go_bits);(try with_reducible rfl)))) | refine Zh rfl rfl rfl ?_);(try simp only [Act.put,pu1,pu2,pu3,pu4,pu5,pu6]))
 refine Zd rfl rfl (fun KR hKR=>?_);go_simp;with_reducible refine (Xk _ _ (canI (-N.z)) D _ e6 (u.below d) (by rw [YG,Int.natAbs_neg,ZR];exact JW sN (by decide)) (JW sD (by decide)) (by have:=HD.out;omega)).mono ?_
 rw [ZI,show Rat.divInt (-N.z) D.z= -a.q by rw [← r.out];exact (Rat.neg_divInt _ _).symm];rintro _ w8 ⟨v8,rfl,e8,E⟩;have k:=Za d E d.size;obtain ⟨C,l,f,C',l',f',rfl,_,_⟩:=id e8;have g:=s.later k;obtain ⟨c0,c1,c2,c3⟩:=g.four;obtain ⟨f0,f1,f2,f3⟩:=g.fourF;refine hKR.out _ _ (Or.inr k) ?_;clear hKR KR;(try simp only [Act.put,pu1,pu2,pu3,pu4,pu5,pu6]);refine Zd rfl rfl (fun KR hKR=>?_);go_simp;refine hKR.out _ _ (Or.inl (by decide)) ?_;clear hKR KR;(try simp only [Act.put,pu1,pu2,pu3,pu4,pu5,pu6]);refine Zz ?_;clear C0 C1 C2 C3;go_wp2;refine Zn Tryz.results37 Tryz.underlying46 (by kernel_rfl) rfl (g.set4 _ _ _ _) rfl ?_;exact Z0 g e8 (Za i k i.size) (by omega)
end Go.Proofs.YtgbhebappffbdaaGreat
