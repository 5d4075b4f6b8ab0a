/- Contracts and plain facts that the claim is built on, joined out of smaller texts; no condition. -/
import Derived.Test.YtncmobkhenfhpaaGreatB22
set_option linter.unusedVariables false
set_option linter.unusedSimpArgs false
set_option maxRecDepth 100000
set_option maxHeartbeats 40000000
namespace Go.Proofs.YtncmobkhenfhpaaGreat
open Go.RowKit
open Pl
attribute [local go_sem ↓] Go.wp_at_zero Go.wp_at_succ
section
def floats (o:Oper):Bool:=match o.op with
 | .move .. =>true
 | .assign .. =>true
 | .pick .. =>true
 | .load .. =>true
 | .binOp .. =>true
 | .unOp .. =>true
 | .convert .. =>true
 | .fieldAddr .. =>true
 | .field .. =>true
 | .indexAddr .. =>true
 | .index .. =>true
 | .extract .. =>true
 | .slice .. =>true
 | .nilCheck .. =>true
 | .build .. =>true
 | .call c=>match c.callee with | .builtin .len=>true | _=>false
 | _=>false
def pures (o:Oper):Bool:=match o.op with
 | .move .. =>true
 | .assign .. =>true
 | .pick .. =>true
 | .binOp .. =>true
 | .unOp .. =>true
 | .fieldAddr .. =>true
 | .field .. =>true
 | .indexAddr .. =>true
 | .extract .. =>true
 | .build .. =>true
 | _=>false
def pureI (ops:Array Oper) (i:Nat):Bool:=((ops[i]?).map pures).getD false
section
variable {P:Program} {ops:Array Oper} {Q:Exit→Act→World→Prop} {md:Region.Mode} {S:World→Prop} {n:Nat}
def AnyG (P:Program) (md:Region.Mode) (ops:Array Oper) (Q:Exit→Act→World→Prop) (S:World→Prop) (n:Nat):Nat→Array Bool→Act→World→Prop
 | 0,listed,a,w=>Region.ready md ops listed=[]∧Q .normal a w
 | fuel+1,listed,a,w=>(Region.ready md ops listed=[]→Q .normal a w)∧
  ∀i∈Region.ready md ops listed,wpOp P ops Q i (fun a' w'=>(n≤i∨(S w→S w'))∧AnyG P md ops Q S n fuel (listed.setIfInBounds i true) a' w') a w
theorem AnyG.any:∀(fuel:Nat) (listed:Array Bool) (a:Act) (w:World),AnyG P md ops Q S n fuel listed a w→wpAny P md ops Q fuel listed a w
 | 0,_,_,_,h=>h
 | fuel+1,_,_,_,h=>⟨h.1,fun i hi=>wpOp_mono (fun a' w' h'=>AnyG.any fuel _ a' w' h'.2) (h.2 i hi)⟩
theorem notl (listed:Array Bool) (k:Nat) (h0:listed.getD k true=false) (h1:listed.getD k false=true):False:=by
 rcases Nat.lt_or_ge k listed.size with h' | h'
 ·simp [h'] at h0 h1;rw [h0] at h1;cases h1
 ·simp [Array.getElem?_eq_none h'] at h1
theorem anyG_firstP {i:Nat} {oi:Oper} {v:Value} (hi:ops[i]? =some oi) (hsel:∀(j:Nat) (o:Oper) cs b,ops[j]? =some o→o.op≠ .select cs b)
 (hQ:∀c a w,Q (.panic c) (a.put oi.dst v) w→Q (.panic c) a w):
 ∀(fuel:Nat) (listed:Array Bool) (a:Act) (w:World),
  (∀j oj,ops[j]? =some oj→j≠i→listed.getD j true=false→(∀e∈oj.after,Region.binds md e=true→e.on≠i)→oi.apart ops oj=true)→
  i∈Region.ready md ops listed→YieldsIf P ops (fun _=>True) oi v a→
  AnyG P md ops Q S n fuel (listed.setIfInBounds i true) (a.put oi.dst v) w→AnyG P md ops Q S n (fuel+1) listed a w:=by
 intro fuel
 induction fuel with
 | zero=>
  intro listed a w _ hr hy H
  refine ⟨fun h=>(by rw [h] at hr;cases hr),fun j hj=>?_⟩
  by_cases hji:j=i
  ·subst hji;exact hy.wpOp hi trivial ⟨.inr fun h=>h,H⟩
  ·have:=ready_mono hj hji
   rw [H.1] at this
   cases this
 | succ fuel ih=>
  intro listed a w hfree hr hy H
  refine ⟨fun h=>(by rw [h] at hr;cases hr),fun j hj=>?_⟩
  by_cases hji:j=i
  ·subst hji;exact hy.wpOp hi trivial ⟨.inr fun h=>h,H⟩
  ·have h1:=H.2 j (ready_mono hj hji)
   obtain ⟨hjun,oj,hoj,hall⟩:=mem_ready.1 hj
   have hnot:∀e∈oj.after,Region.binds md e=true→e.on≠i:=fun e he hb heq=>by
    have h1:=hall e he hb
    rw [heq] at h1
    exact notl listed i (mem_ready.1 hr).1 h1
   have h2:=wpOp_putIf hoj (hfree j oj hoj hji hjun hnot) (fun cs b=>hsel i oi cs b hi) (fun cs b=>hsel j oj cs b hoj) hQ hy h1
   have hfree':∀k ok,ops[k]? =some ok→k≠i→(listed.setIfInBounds j true).getD k true=false→
    (∀e∈ok.after,Region.binds md e=true→e.on≠i)→oi.apart ops ok=true:=fun k ok hk hki hun hno=>by
    refine hfree k ok hk hki ?_ hno
    by_cases hjk:j=k
    ·subst hjk;exact hjun
    ·rw [getD_set_ne true hjk] at hun;exact hun
   refine wpOp_mono (fun a' w' h3=>⟨h3.2.1,ih (listed.setIfInBounds j true) a' w' hfree' (ready_mono hr (Ne.symm hji)) h3.1 ?_⟩) h2
   rw [Array.setIfInBounds_comm _ _ hji]
   exact h3.2.2
theorem anyG_takeP {i:Nat} {oi:Oper} {v:Value} {fuel:Nat} {listed:Array Bool} {a:Act} {w:World} (hi:ops[i]? =some oi)
 (hs:Region.noSelect ops=true) (hf:Region.free md ops listed i=true) (hr:(Region.ready md ops listed).contains i=true)
 (hQ:∀c a w,Q (.panic c) (a.put oi.dst v) w→Q (.panic c) a w) (hy:YieldsIf P ops (fun _=>True) oi v a)
 (h:AnyG P md ops Q S n fuel (listed.setIfInBounds i true) (a.put oi.dst v) w):AnyG P md ops Q S n (fuel+1) listed a w:=
 anyG_firstP hi (Region.noSelect_spec hs) hQ fuel listed a w (Region.free_spec hi hf) (by simpa using hr) hy h
end
def depD (md:Region.Mode) (ops:Array Oper) (i:Nat):Array Bool:=(List.range ops.size).foldl (fun d j=>d.push (((ops[j]?).map fun o=>o.after.any fun e=>Region.binds md e && (e.on==i || d.getD e.on false)).getD false)) #[]
def depOK (md:Region.Mode) (ops:Array Oper) (i:Nat) (d:Array Bool) (j:Nat):Bool:= !d.getD j false || ((ops[j]?).map fun o=>o.after.any fun e=>Region.binds md e && (e.on==i || d.getD e.on false)).getD false
def lastWaitT (md:Region.Mode) (ops:Array Oper) (n:Nat) (listed:Array Bool) (i:Nat):Bool:=
 (List.range ops.size).all fun j=>(decide (j < n) || (depD md ops i).getD j false) && (depOK md ops i (depD md ops i) j && (!(depD md ops i).getD j false || !listed.getD j true))
def floatI (ops:Array Oper) (n i:Nat):Bool:=decide (i < n) && ((ops[i]?).map floats).getD false
def seqAt (md:Region.Mode) (ops:Array Oper) (n:Nat) (listed:Array Bool) (i:Nat):Bool:=
 if floatI ops n i=true then Region.free md ops listed i && ((Region.ready md ops listed).contains i && (pureI ops i || lastWaitT md ops n listed i)) else Region.ready md ops listed==[i]
def seqGo (md:Region.Mode) (ops:Array Oper) (n:Nat):Bool→List Nat→Array Bool→Bool
 | _,[],listed=>Region.ready md ops listed==[]
 | d,i::is,listed=>seqAt md ops n listed i && (!(d && (floatI ops n i && !pureI ops i)) && seqGo md ops n (d || decide (n≤i)) is (listed.setIfInBounds i true))
def seqOK (md:Region.Mode) (ops:Array Oper) (n:Nat) (is:List Nat):Bool:=Region.noSelect ops && (seqGo md ops n false is (Array.replicate ops.size false) && decide (is.length=ops.size))
section
variable {P:Program} {ops:Array Oper} {Q:Exit→Act→World→Prop} {md:Region.Mode} {S:World→Prop} {n:Nat}
def wpSeq (P:Program) (ops:Array Oper) (Q:Exit→Act→World→Prop) (S:World→Prop) (n:Nat):List Nat→Act→World→Prop
 | [],a,w=>Q .normal a w
 | i::is,a,w=>match ops[i]? with
  | none=>True
  | some o=>if floatI ops n i=true then ∃v,(if pureI ops i=true then YieldsIf P ops (fun _=>True) o v a else YieldsIf P ops S o v a)∧wpSeq P ops Q S n is (a.put o.dst v) w
   else if Region.wanted o (yielded ops a.tmps)=true then Oper.wp P o a w (fun a' w'=>(n≤i∨S w')∧wpSeq P ops Q S n is a' w') Q
   else (n≤i∨S w)∧wpSeq P ops Q S n is (a.put o.dst undef) w
theorem anyG_firstT {i:Nat} {oi:Oper} {v:Value} {d:Array Bool} (hi:ops[i]? =some oi) (hsel:∀(j:Nat) (o:Oper) cs b,ops[j]? =some o→o.op≠ .select cs b)
 (hd1:∀j,n≤j→j < ops.size→d.getD j false=true) (hd2:∀j o,ops[j]? =some o→d.getD j false=true→∃e∈o.after,Region.binds md e=true∧(e.on=i∨(e.on < ops.size∧d.getD e.on false=true)))
 (hQ:∀c a w,Q (.panic c) (a.put oi.dst v) w→Q (.panic c) a w):
 ∀(fuel:Nat) (listed:Array Bool) (a:Act) (w:World),
  (∀j oj,ops[j]? =some oj→j≠i→listed.getD j true=false→(∀e∈oj.after,Region.binds md e=true→e.on≠i)→oi.apart ops oj=true)→
  (∀j,j < ops.size→d.getD j false=true→listed.getD j true=false)→
  i∈Region.ready md ops listed→YieldsIf P ops S oi v a→S w→
  AnyG P md ops Q S n fuel (listed.setIfInBounds i true) (a.put oi.dst v) w→AnyG P md ops Q S n (fuel+1) listed a w:=by
 intro fuel
 induction fuel with
 | zero=>
  intro listed a w _ _ hr hy hS H
  refine ⟨fun h=>(by rw [h] at hr;cases hr),fun j hj=>?_⟩
  by_cases hji:j=i
  ·subst hji;exact hy.wpOp hi hS ⟨.inr fun h=>h,H⟩
  ·have:=ready_mono hj hji
   rw [H.1] at this
   cases this
 | succ fuel ih=>
  intro listed a w hfree hun hr hy hS H
  refine ⟨fun h=>(by rw [h] at hr;cases hr),fun j hj=>?_⟩
  by_cases hji:j=i
  ·subst hji;exact hy.wpOp hi hS ⟨.inr fun h=>h,H⟩
  ·have h1:=H.2 j (ready_mono hj hji)
   obtain ⟨hjun,oj,hoj,hall⟩:=mem_ready.1 hj
   have hiun:=(mem_ready.1 hr).1
   have hnot:∀e∈oj.after,Region.binds md e=true→e.on≠i:=fun e he hb heq=>by
    have h1:=hall e he hb
    rw [heq] at h1
    exact notl listed i hiun h1
   have hjd:d.getD j false=false:=by
    cases hc:d.getD j false with
    | false=>rfl
    | true=>
     obtain ⟨e,he,hb,hor⟩:=hd2 j oj hoj hc
     rcases hor with h2 | ⟨h2,h3⟩
     ·exact absurd h2 (hnot e he hb)
     ·exact (notl listed e.on (hun e.on h2 h3) (hall e he hb)).elim
   have hjn:¬n≤j:=fun hle=>by
    have:=hd1 j hle (Array.getElem?_eq_some_iff.1 hoj).1
    rw [hjd] at this;cases this
   have h2:=wpOp_putIf hoj (hfree j oj hoj hji hjun hnot) (fun cs b=>hsel i oi cs b hi) (fun cs b=>hsel j oj cs b hoj) hQ hy h1
   have hfree':∀k ok,ops[k]? =some ok→k≠i→(listed.setIfInBounds j true).getD k true=false→
    (∀e∈ok.after,Region.binds md e=true→e.on≠i)→oi.apart ops ok=true:=fun k ok hk hki hun hno=>by
    refine hfree k ok hk hki ?_ hno
    by_cases hjk:j=k
    ·subst hjk;exact hjun
    ·rw [getD_set_ne true hjk] at hun;exact hun
   have hun':∀k,k < ops.size→d.getD k false=true→(listed.setIfInBounds j true).getD k true=false:=fun k hk hdk=>by
    have hjk:j≠k:=fun e=>by subst e;rw [hjd] at hdk;cases hdk
    rw [getD_set_ne true hjk]
    exact hun k hk hdk
   refine wpOp_mono (fun a' w' h3=>⟨h3.2.1,ih (listed.setIfInBounds j true) a' w' hfree' hun' (ready_mono hr (Ne.symm hji)) h3.1 ((h3.2.1.resolve_left hjn) hS) ?_⟩) h2
   rw [Array.setIfInBounds_comm _ _ hji]
   exact h3.2.2
theorem anyG_takeT {i:Nat} {oi:Oper} {v:Value} {fuel:Nat} {listed:Array Bool} {a:Act} {w:World} (hi:ops[i]? =some oi)
 (hs:Region.noSelect ops=true) (hf:Region.free md ops listed i=true) (hr:(Region.ready md ops listed).contains i=true) (hw:lastWaitT md ops n listed i=true)
 (hQ:∀c a w,Q (.panic c) (a.put oi.dst v) w→Q (.panic c) a w) (hy:YieldsIf P ops S oi v a) (hS:S w)
 (h:AnyG P md ops Q S n fuel (listed.setIfInBounds i true) (a.put oi.dst v) w):AnyG P md ops Q S n (fuel+1) listed a w:=by
 simp only [lastWaitT,List.all_eq_true,List.mem_range,Bool.and_eq_true,Bool.or_eq_true,decide_eq_true_eq] at hw
 refine anyG_firstT (d:=depD md ops i) hi (Region.noSelect_spec hs) ?_ ?_ hQ fuel listed a w (Region.free_spec hi hf) ?_ (by simpa using hr) hy hS h
 ·intro j hj hjs
  rcases (hw j hjs).1 with h1 | h1
  ·omega
  ·exact h1
 ·intro j o ho hdj
  have hjs:=(Array.getElem?_eq_some_iff.1 ho).1
  have h1:=(hw j hjs).2.1
  unfold depOK at h1
  rw [hdj,ho] at h1
  simp only [Bool.not_true,Bool.false_or,Option.map_some,Option.getD_some] at h1
  obtain ⟨e,he,hb⟩:=Array.any_eq_true'.1 h1
  simp only [Bool.and_eq_true,Bool.or_eq_true,beq_iff_eq] at hb
  refine ⟨e,he,hb.1,hb.2.imp id fun h3=>⟨?_,h3⟩⟩
  rcases Nat.lt_or_ge e.on ops.size with h4 | h4
  ·exact h4
  ·exfalso
   have hsz:(depD md ops i).size≤ops.size:=by
    unfold depD
    have:∀(l:List Nat) (d:Array Bool) (f:Array Bool→Nat→Bool),(l.foldl (fun d j=>d.push (f d j)) d).size=d.size+l.length:=by
     intro l
     induction l with
     | nil=>intro d f;simp
     | cons x l ih=>intro d f;simp [ih];omega
    have h5:=this (List.range ops.size) #[] (fun d j=>((ops[j]?).map fun o=>o.after.any fun e=>Region.binds md e && (e.on==i || d.getD e.on false)).getD false)
    simp only [List.size_toArray,List.length_nil,List.length_range,Nat.zero_add] at h5
    exact Nat.le_of_eq h5
   have:(depD md ops i).getD e.on false=false:=by
    simp [Array.getElem?_eq_none (show (depD md ops i).size≤e.on by omega)]
   rw [this] at h3;cases h3
 ·intro j hj hdj
  have h1:=(hw j hj).2.2
  rw [hdj] at h1
  simpa using h1
theorem AnyG.of_seq (hQ:∀c a d v w,Q (.panic c) (a.put d v) w→Q (.panic c) a w) (hs:Region.noSelect ops=true):
 ∀(is:List Nat) (listed:Array Bool) (a:Act) (w:World) (d:Bool),seqGo md ops n d is listed=true→(d=false→S w)→wpSeq P ops Q S n is a w→AnyG P md ops Q S n is.length listed a w:=by
 intro is
 induction is with
 | nil=>
  intro listed a w d hgo _ h
  exact ⟨by simpa [seqGo] using hgo,h⟩
 | cons i is ih=>
  intro listed a w d hgo hS h
  simp only [seqGo,Bool.and_eq_true] at hgo
  obtain ⟨hat,hd,hgo⟩:=hgo
  unfold wpSeq at h
  unfold seqAt at hat
  split at hat
  ·rename_i hf
   simp only [Bool.and_eq_true] at hat
   obtain ⟨h1,h2,h3⟩:=hat
   have hf':=hf
   simp only [floatI,Bool.and_eq_true,decide_eq_true_eq] at hf'
   obtain ⟨o,ho⟩:∃o,ops[i]? =some o:=by
    cases hc:ops[i]? with
    | none=>rw [hc] at hf';simp at hf'
    | some o=>exact ⟨o,rfl⟩
   simp only [ho] at h
   rw [if_pos hf] at h
   obtain ⟨v,hy,hr⟩:=h
   by_cases hp:pureI ops i=true
   ·rw [if_pos hp] at hy
    exact anyG_takeP ho hs h1 h2 (fun c a w=>hQ c a o.dst v w) hy (ih _ _ w _ hgo (fun hd'=>hS (by simp at hd';exact hd'.1)) hr)
   ·rw [if_neg hp] at hy
    have hdf:d=false:=by rw [hf] at hd;simpa [hp] using hd
    have hw:=hS hdf
    exact anyG_takeT ho hs h1 h2 (by simpa [hp] using h3) (fun c a w=>hQ c a o.dst v w) hy hw (ih _ _ w _ hgo (fun _=>hw) hr)
  ·rename_i hf
   have hr:Region.ready md ops listed=[i]:=by simpa using hat
   have hi:i∈Region.ready md ops listed:=by rw [hr];exact List.mem_singleton.2 rfl
   obtain ⟨_,o,ho,_⟩:=mem_ready.1 hi
   simp only [ho] at h
   rw [if_neg hf] at h
   refine ⟨fun h0=>(by rw [hr] at h0;cases h0),fun j hj=>?_⟩
   rw [hr] at hj
   obtain rfl:j=i:=by simpa using hj
   have h:wpOp P ops Q j (fun a' w'=>(n≤j∨S w')∧wpSeq P ops Q S n is a' w') a w:=by
    unfold wpOp
    rw [ho]
    show if Region.wanted o (yielded ops a.tmps)=true then _ else _
    split
    ·rename_i hw;rw [if_pos hw] at h;exact .inl h
    ·rename_i hw;rw [if_neg hw] at h;exact h
   exact wpOp_mono (fun a' w' h'=>⟨h'.1.imp id (fun h _=>h),ih _ a' w' _ hgo (fun hle=>h'.1.resolve_left (by simp at hle;omega)) h'.2⟩) h
theorem region_seq {id:Nat} {l:List Oper} {a:Act} {w:World} (n:Nat) (is:List Nat) (hm:P.follows .mixedOrders=true) (hok:seqOK .any l.toArray n is=true)
 (h:wpSeq P l.toArray (NoPanic Q) (fun w'=>Below w.heap.size w w') n is a w.drew):(Code.region id l.toArray true).wp P Q a w:=by
 simp only [seqOK,Bool.and_eq_true,decide_eq_true_eq] at hok
 obtain ⟨hs,hgo,hl⟩:=hok
 refine wp_region_noPanic (wp_region_any hm (AnyG.any _ _ _ _ (S:=fun w'=>Below w.heap.size w w') (n:=n) ?_))
 rw [← hl]
 have:=AnyG.of_seq (P:=P) (Q:=NoPanic Q) (S:=fun w'=>Below w.heap.size w w') (fun c a d v w h=>h) hs is _ a w.drew false hgo (fun _=>(Below.refl _ _).drew) h
 rwa [hl] at this ⊢
theorem seq_done {a:Act} {w:World} (h:Q .normal a w):wpSeq P ops (NoPanic Q) S n [] a w:=h
theorem seq_take {o:Oper} {i:Nat} {is:List Nat} {a:Act} {w:World} {v:Value} (ho:ops[i]? =some o) (hf:(floatI ops n i && !pureI ops i)=true) (hw:Region.wanted o (yielded ops a.tmps)=true) (hy:∀w',S w'→(execOp a.eval o).run P w'= .ok (.value v) w') (h:wpSeq P ops Q S n is (a.put o.dst v) w):wpSeq P ops Q S n (i::is) a w:=by
 simp only [Bool.and_eq_true,Bool.not_eq_true'] at hf
 unfold wpSeq
 rw [ho]
 show if _ then _ else _
 rw [if_pos hf.1]
 exact ⟨v,by rw [if_neg (by simp [hf.2])];exact .inl ⟨hw,hy⟩,h⟩
theorem seq_takeP {o:Oper} {i:Nat} {is:List Nat} {a:Act} {w:World} {v:Value} (ho:ops[i]? =some o) (hf:(floatI ops n i && pureI ops i)=true) (hw:Region.wanted o (yielded ops a.tmps)=true) (hy:∀w',True→(execOp a.eval o).run P w'= .ok (.value v) w') (h:wpSeq P ops Q S n is (a.put o.dst v) w):wpSeq P ops Q S n (i::is) a w:=by
 simp only [Bool.and_eq_true] at hf
 unfold wpSeq
 rw [ho]
 show if _ then _ else _
 rw [if_pos hf.1]
 exact ⟨v,by rw [if_pos hf.2];exact .inl ⟨hw,hy⟩,h⟩
theorem seq_skip {o:Oper} {i:Nat} {is:List Nat} {a:Act} {w:World} (ho:ops[i]? =some o) (hf:floatI ops n i=true) (hw:Region.wanted o (yielded ops a.tmps)=false) (h:wpSeq P ops Q S n is (a.put o.dst undef) w):wpSeq P ops Q S n (i::is) a w:=by
 unfold wpSeq
 rw [ho]
 show if _ then _ else _
 rw [if_pos hf]
 exact ⟨undef,by split <;> exact .inr ⟨hw,rfl⟩,h⟩
theorem seq_step {o:Oper} {i:Nat} {is:List Nat} {a:Act} {w:World} (ho:ops[i]? =some o) (hf:floatI ops n i=false)
 (h:∀K':Act→World→Prop,Shut (∀a w,(n≤i∨S w)→wpSeq P ops Q S n is a w→K' a w)→if Region.wanted o (yielded ops a.tmps)=true then Oper.wp P o a w K' Q else K' (a.put o.dst undef) w):wpSeq P ops Q S n (i::is) a w:=by
 have h1:=h (fun a' w'=>(n≤i∨S w')∧wpSeq P ops Q S n is a' w') (fun a w h1 h2=>⟨h1,h2⟩)
 unfold wpSeq
 rw [ho]
 show if _ then _ else _
 rw [if_neg (by simp [hf])]
 exact h1
end
theorem stab {w:World} {p:Addr} {v:Value} (h:w.cell? p=some v):∀w',Below w.heap.size w w'→w'.cell? p=some v:=fun _ hb=>cell_keep hb h
end
namespace Pl
theorem qs_zero' {q:Rat}:qs q=0↔q=0:=by
 unfold qs
 rw [sgn_eq_zero]
 exact Rat.num_eq_zero
theorem div_two {n d m k:Int} (hk:k≠0):Rat.divInt (n * k) (d * m)=Rat.divInt n d / Rat.divInt m k:=by
 rw [Rat.div_def,Rat.inv_divInt,Rat.divInt_mul_divInt]
theorem okq_div {n d m k:Int} {p q:Rat} (h:okq n d p) (g:okq m k q) (hq:q≠0):(-4611686018427387904≤n * k∧n * k≤4611686018427387904)∧(-4611686018427387904≤d * m∧d * m≤4611686018427387904)∧((0 < m∧0 < d * m)∨(m < 0∧d * m < 0))∧Rat.divInt (n * k) (d * m)=p / q∧Rat.divInt (-(n * k)) (-(d * m))=p / q:=by
 obtain ⟨⟨a1,a2⟩,a3,a4,rfl⟩:=h
 obtain ⟨⟨b1,b2⟩,b3,b4,rfl⟩:=g
 have hm:m≠0:=fun e=>hq (by rw [e,Rat.zero_divInt])
 have e1:Rat.divInt (n * k) (d * m)=Rat.divInt n d / Rat.divInt m k:=div_two (by omega)
 refine ⟨prod_bd1 (by omega) (by omega) (by omega) (by omega),prod_bd1 (by omega) (by omega) (by omega) (by omega),?_,e1,?_⟩
 ·rcases Int.lt_or_le m 0 with c | c
  ·right;exact ⟨c,Int.mul_neg_of_pos_of_neg a3 c⟩
  ·left;exact ⟨by omega,Int.mul_pos a3 (by omega)⟩
 ·rw [← e1,Rat.neg_divInt_neg]
 where
  prod_bd1 {x y:Int} (h1: -2147483648≤x) (h2:x≤2147483648) (h3: -2147483648≤y) (h4:y≤2147483648): -4611686018427387904≤x * y∧x * y≤4611686018427387904:=by
   have e:(x * y).natAbs≤2147483648 * 2147483648:=by rw [Int.natAbs_mul];exact Nat.mul_le_mul (by omega) (by omega)
   omega
end Pl
theorem fin_quo {w w2:World} {m g:Nat} {x y z u b s b' s' er:Value} {a:RF} (hR:Bk w2 g 48 [x,y,z,u]) (d:FracM w2 (.agg #[b,s,b',s']) a) (hbe:Below m w w2) (hg:m≤g):
 ∃v',Ending.returned (.tuple #[.agg [b,s,b',s'].toArray,er])= .returned (.tuple #[v',er])∧FracM ((((w2.setCell ⟨g,0,none⟩ b).setCell ⟨g,1,none⟩ s).setCell ⟨g,2,none⟩ b').setCell ⟨g,3,none⟩ s') v' a∧Below m w ((((w2.setCell ⟨g,0,none⟩ b).setCell ⟨g,1,none⟩ s).setCell ⟨g,2,none⟩ b').setCell ⟨g,3,none⟩ s'):=
 ⟨_,rfl,d.keep (hR.keep4 (by decide) _ _ _ _),below_set4 hbe hg _ _ _ _⟩
theorem divF_any (v1 v2:Value) (a b:RF) (w:World) (h1:FracM w v1 a) (h2:FracM w v2 b) (hs:a.Sm) (hs2:b.Sm) (hb0:b.q≠0):
 Calls Tryz.prog 93 #[v1,v2] w fun e w'=>∃v',e= .returned (.tuple #[v',.int .i64 0])∧FracM w' v' (canF (a.q / b.q))∧Below w.heap.size w w':=by
 obtain ⟨A,n,c,A',n',c',rfl,hd,hd'⟩:=id h1
 obtain ⟨B,m,d,B',m',d',rfl,ke,ke'⟩:=id h2
 obtain ⟨W,hW,hX,hY,hR,hbe⟩:=boxF3 w (.bool a.num.neg) (.slice A n c) (.bool a.den.neg) (.slice A' n' c') (.bool b.num.neg) (.slice B m d) (.bool b.den.neg) (.slice B' m' d')
 have e1:=h1.below hbe
 have e2:=h2.below hbe
 obtain ⟨p1,p2,p3,p4⟩:=hX.four
 obtain ⟨r1,r2,r3,r4⟩:=hY.four
 have HB0:=Lib.hid hb0
 have hqs:(qs b.q==0)=false:=by simpa using fun e=>hb0 (qs_zero'.1 e)
 clear h1 h2 hd hd' ke ke' hb0
 go_enter Tryz.func93,Tryz.ntmps93
 go_wp2_with fail
 clear hW
 refine (signF_any _ b _ e2).mono ?_
 rintro e w0 ⟨rfl,hb0⟩
 replace hX:=hX.later hb0
 replace hY:=hY.later hb0
 replace hR:=hR.later hb0
 replace hbe:=below_then hbe hb0 hbe.size
 replace e1:=e1.below hb0
 replace e2:=e2.below hb0
 clear p1 p2 p3 p4 r1 r2 r3 r4 hb0
 obtain ⟨p1,p2,p3,p4⟩:=hX.four
 obtain ⟨r1,r2,r3,r4⟩:=hY.four
 go_wp2_with fail
 refine (small_any _ _ a b _ e1 e2).mono ?_
 rintro e w1 ⟨x,y,z,u,ok,rfl,hq,hb1⟩
 have HQ:=Lib.hid hq
 have hX1:=hX.later hb1
 have hY1:=hY.later hb1
 have hR1:=hR.later hb1
 have hbe1:=below_then hbe hb1 hbe.size
 have e11:=e1.below hb1
 have e21:=e2.below hb1
 clear hq hX hY hR hbe e1 e2 hb1 p1 p2 p3 p4 r1 r2 r3 r4 hqs
 obtain ⟨W2,hW2,bW,bV,bn⟩:=words2 w1 x y z u
 have hX2:=hX1.later bn
 have hY2:=hY1.later bn
 have hR2:=hR1.later bn
 have hbe2:=below_then hbe1 bn hbe1.size
 have e12:=e11.below bn
 have e22:=e21.below bn
 clear hX1 hY1 hR1 hbe1 e11 e21 bn
 cases ok
 ·obtain ⟨p1,p2,p3,p4⟩:=hX2.four
  clear HQ
  go_wp2_with fail
  clear hW2
  refine (parts_any _ a _ e12 hs).mono ?_
  rintro e w3 ⟨v1,v2,N,D,rfl,iN,iD,hD,hq1,sN,sD,hb3⟩
  have HD:=Lib.hid hD
  have HQ1:=Lib.hid hq1
  obtain ⟨A3,n3,k3,rfl,_⟩:=iN.shape
  obtain ⟨A4,n4,k4,rfl,_⟩:=iD.shape
  obtain ⟨W3,hW3,bN,bD,bn⟩:=boxes w3 (.bool N.neg) (.slice A3 n3 k3) (.bool D.neg) (.slice A4 n4 k4)
  have hb33:=below_then hb3 bn hb3.size
  have hY3:=hY2.later hb33
  have hR3:=hR2.later hb33
  have hbe3:=below_then hbe2 hb33 hbe2.size
  have e23:=e22.below hb33
  have iN3:=iN.below bn
  have iD3:=iD.below bn
  clear hD hq1 hX2 hY2 hR2 hbe2 e12 e22 hb3 hb33 bn iN iD p1 p2 p3 p4 bW bV hs
  obtain ⟨r1,r2,r3,r4⟩:=hY3.four
  go_wp2_with fail
  clear hW3
  refine (parts_any _ b _ e23 hs2).mono ?_
  rintro e w5 ⟨v1,v2,N',D',rfl,jN,jD,hD',hq2,sN',sD',hb5⟩
  have HD':=Lib.hid hD'
  have HQ2:=Lib.hid hq2
  obtain ⟨A5,n5,k5,rfl,_⟩:=jN.shape
  obtain ⟨A6,n6,k6,rfl,_⟩:=jD.shape
  obtain ⟨W5,hW5,bN',bD',bn⟩:=boxes w5 (.bool N'.neg) (.slice A5 n5 k5) (.bool D'.neg) (.slice A6 n6 k6)
  have hb55:=below_then hb5 bn hb5.size
  have bN5:=bN.later hb55
  have bD5:=bD.later hb55
  have hR5:=hR3.later hb55
  have hbe5:=below_then hbe3 hb55 hbe3.size
  have iN5:=iN3.below hb55
  have iD5:=iD3.below hb55
  have jN5:=jN.below bn
  have jD5:=jD.below bn
  clear hD' hq2 hY3 hR3 hbe3 e23 hb5 hb55 bn jN jD r1 r2 r3 r4 bN bD iN3 iD3 hs2
  obtain ⟨x0,x1,_,_⟩:=bN5.two
  obtain ⟨y0,y1,_,_⟩:=bD5.two
  obtain ⟨x0',x1',_,_⟩:=bN'.two
  obtain ⟨y0',y1',_,_⟩:=bD'.two
  have HNE:Hid ((canI (D.z * N'.z)).z≠0):=Lib.hid (by
   rw [canI_z]
   intro e
   rcases Int.mul_eq_zero.1 e with g | g
   ·have:=HD.out;omega
   ·exact HB0.out (by rw [← HQ2.out,g,Rat.zero_divInt]))
  go_upto_region 11 with (fail)
  clear hW5
  have C0:=stab x0
  have C1:=stab x1
  have C2:=stab y0
  have C3:=stab y1
  have D0:=stab x0'
  have D1:=stab x1'
  have D2:=stab y0'
  have D3:=stab y1'
  have hS0:Below W5.heap.size W5 W5.drew:=(Below.refl _ _).drew
  clear x0 x1 y0 y1 x0' x1' y0' y1'
  refine region_seq 7 [0,1,3,4,2,5,6,7,8] (by kernel_rfl) (by kernel_rfl) ?_
  repeat ((first | (refine seq_takeP (v:=?_) rfl rfl rfl ?_ ?_;rotate_left;(· (intro _ hSw;go_simp;(try go_bits);(try with_reducible rfl)))) | (refine seq_take (v:=?_) rfl rfl rfl ?_ ?_;rotate_left;(· (intro _ hSw;go_simp;(try go_bits);(try with_reducible rfl)))) | refine seq_skip rfl rfl rfl ?_);(try simp only [Act.put,pu1,pu2,pu3,pu4,pu5,pu6]))
  refine seq_step rfl rfl (fun KR hKR=>?_)
  go_simp
  with_reducible refine (mulI_any _ _ N D' _ (iN5.below hS0) (jD5.below hS0) (RI.Sm.two sN sD')).mono ?_
  rintro _ w6 ⟨v6,rfl,e6,hb6⟩
  have hS6:=below_then hS0 hb6 hS0.size
  refine hKR.out _ _ (Or.inr hS6) ?_
  clear hKR KR
  (try simp only [Act.put,pu1,pu2,pu3,pu4,pu5,pu6])
  repeat ((first | (refine seq_takeP (v:=?_) rfl rfl rfl ?_ ?_;rotate_left;(· (intro _ hSw;go_simp;(try go_bits);(try with_reducible rfl)))) | (refine seq_take (v:=?_) rfl rfl rfl ?_ ?_;rotate_left;(· (intro _ hSw;go_simp;(try go_bits);(try with_reducible rfl)))) | refine seq_skip rfl rfl rfl ?_);(try simp only [Act.put,pu1,pu2,pu3,pu4,pu5,pu6]))
  refine seq_step rfl rfl (fun KR hKR=>?_)
  go_simp
  with_reducible refine (mulI_any _ _ D N' _ (iD5.below hS6) (jN5.below hS6) (RI.Sm.two sD sN')).mono ?_
  rintro _ w7 ⟨v7,rfl,e7,hb7⟩
  have hS7:=below_then hS6 hb7 hS6.size
  refine hKR.out _ _ (Or.inr hS7) ?_
  clear hKR KR
  (try simp only [Act.put,pu1,pu2,pu3,pu4,pu5,pu6])
  repeat ((first | (refine seq_takeP (v:=?_) rfl rfl rfl ?_ ?_;rotate_left;(· (intro _ hSw;go_simp;(try go_bits);(try with_reducible rfl)))) | (refine seq_take (v:=?_) rfl rfl rfl ?_ ?_;rotate_left;(· (intro _ hSw;go_simp;(try go_bits);(try with_reducible rfl)))) | refine seq_skip rfl rfl rfl ?_);(try simp only [Act.put,pu1,pu2,pu3,pu4,pu5,pu6]))
  refine seq_step rfl rfl (fun KR hKR=>?_)
  go_simp
  with_reducible refine (reduce_any _ _ (canI (N.z * D'.z)) (canI (D.z * N'.z)) _ (e6.below hb7) e7 (Nat.le_trans (RI.Sm.mul sN sD') (by decide)) (Nat.le_trans (RI.Sm.mul sD sN') (by decide)) HNE.out).mono ?_
  rw [canI_z,canI_z,div_two (Int.ne_of_gt HD'.out),HQ1.out,HQ2.out]
  rintro _ w8 ⟨v8,rfl,e8,hb8⟩
  have hS8:=below_then hS7 hb8 hS7.size
  obtain ⟨C,l,f,C',l',f',rfl,_,_⟩:=id e8
  have hR8:=hR5.later hS8
  obtain ⟨c0,c1,c2,c3⟩:=hR8.four
  obtain ⟨f0,f1,f2,f3⟩:=hR8.fourF
  refine hKR.out _ _ (Or.inr hS8) ?_
  clear hKR KR
  (try simp only [Act.put,pu1,pu2,pu3,pu4,pu5,pu6])
  refine seq_step rfl rfl (fun KR hKR=>?_)
  go_simp
  refine hKR.out _ _ (Or.inl (by decide)) ?_
  clear hKR KR
  (try simp only [Act.put,pu1,pu2,pu3,pu4,pu5,pu6])
  refine seq_step rfl rfl (fun KR hKR=>?_)
  go_simp
  refine hKR.out _ _ (Or.inl (by decide)) ?_
  clear hKR KR
  (try simp only [Act.put,pu1,pu2,pu3,pu4,pu5,pu6])
  refine seq_done ?_
  clear C0 C1 C2 C3 D0 D1 D2 D3
  have bfin:=below_then hbe5 hS8 hbe5.size
  go_wp2
  refine ret_ct Tryz.results93 Tryz.underlying48 (by kernel_rfl) rfl (hR8.set4 _ _ _ _) rfl ?_
  exact fin_quo hR8 e8 bfin (by omega)
 ·obtain ⟨⟨b1,b2⟩,⟨b3,b4⟩,hz,hv1,hv2⟩:=okq_div (HQ.out rfl).1 (HQ.out rfl).2 HB0.out
  obtain ⟨q0,q1,_,_⟩:=bW.two
  obtain ⟨s0,s1,_,_⟩:=bV.two
  clear HQ
  rcases hz with ⟨hz,hz2⟩ | ⟨hz,hz2⟩
  ·have HV:=Lib.hid hv1
   clear hv1 hv2
   have t1:IntKind.i64.wrap (x * u)=x * u:=by simp only [IntKind.wrap,IntKind.bits,IntKind.signed];simp;omega
   have t2:IntKind.i64.wrap (y * z)=y * z:=by simp only [IntKind.wrap,IntKind.bits,IntKind.signed];simp;omega
   go_upto_region 5 with (fail)
   clear hW2
   have C0:=stab q0
   have C1:=stab q1
   have D0:=stab s0
   have D1:=stab s1
   clear q0 q1 s0 s1
   refine region_seq 12 [0,1,2,3,4,5,6,7,8,9,10,11] (by kernel_rfl) (by kernel_rfl) ?_
   repeat ((first | (refine seq_takeP (v:=?_) rfl rfl rfl ?_ ?_;rotate_left;(· (intro _ hSw;go_simp;(try go_bits);(try with_reducible rfl)))) | (refine seq_take (v:=?_) rfl rfl rfl ?_ ?_;rotate_left;(· (intro _ hSw;go_simp;(try go_bits);(try with_reducible rfl)))) | refine seq_skip rfl rfl rfl ?_);(try simp only [Act.put,pu1,pu2,pu3,pu4,pu5,pu6]))
   refine seq_done ?_
   clear C0 C1 D0 D1
   replace hR2:=hR2.drew
   replace hbe2:=hbe2.drew
   generalize W2.drew=W3 at *
   go_wp2_with fail
   refine (fromWords_any (x * u) (y * z) _ (by omega) (by omega) (by omega) (by omega)).mono ?_
   rw [HV.out]
   rintro e w3 ⟨v3,rfl,e3,hb3⟩
   have hR3:=hR2.later hb3
   obtain ⟨C,l,f,C',l',f',rfl,_,_⟩:=id e3
   obtain ⟨c0,c1,c2,c3⟩:=hR3.four
   obtain ⟨f0,f1,f2,f3⟩:=hR3.fourF
   go_wp2
   refine ret_ct Tryz.results93 Tryz.underlying48 (by kernel_rfl) rfl (hR3.set4 _ _ _ _) rfl ?_
   exact fin_quo hR3 e3 (below_then hbe2 hb3 hbe2.size) (by omega)
  ·have HV:=Lib.hid hv2
   clear hv1 hv2
   have t1:IntKind.i64.wrap (x * u)=x * u:=by simp only [IntKind.wrap,IntKind.bits,IntKind.signed];simp;omega
   have t2:IntKind.i64.wrap (y * z)=y * z:=by simp only [IntKind.wrap,IntKind.bits,IntKind.signed];simp;omega
   have t3:IntKind.i64.wrap (-(x * u))= -(x * u):=by simp only [IntKind.wrap,IntKind.bits,IntKind.signed];simp;omega
   have t4:IntKind.i64.wrap (-(y * z))= -(y * z):=by simp only [IntKind.wrap,IntKind.bits,IntKind.signed];simp;omega
   go_upto_region 5 with (fail)
   clear hW2
   have C0:=stab q0
   have C1:=stab q1
   have D0:=stab s0
   have D1:=stab s1
   clear q0 q1 s0 s1
   refine region_seq 12 [0,1,2,3,4,5,6,7,8,9,10,11] (by kernel_rfl) (by kernel_rfl) ?_
   repeat ((first | (refine seq_takeP (v:=?_) rfl rfl rfl ?_ ?_;rotate_left;(· (intro _ hSw;go_simp;(try go_bits);(try with_reducible rfl)))) | (refine seq_take (v:=?_) rfl rfl rfl ?_ ?_;rotate_left;(· (intro _ hSw;go_simp;(try go_bits);(try with_reducible rfl)))) | refine seq_skip rfl rfl rfl ?_);(try simp only [Act.put,pu1,pu2,pu3,pu4,pu5,pu6]))
   refine seq_done ?_
   clear C0 C1 D0 D1
   replace hR2:=hR2.drew
   replace hbe2:=hbe2.drew
   generalize W2.drew=W3 at *
   go_wp2_with fail
   refine (fromWords_any (-(x * u)) (-(y * z)) _ (by omega) (by omega) (by omega) (by omega)).mono ?_
   rw [HV.out]
   rintro e w3 ⟨v3,rfl,e3,hb3⟩
   have hR3:=hR2.later hb3
   obtain ⟨C,l,f,C',l',f',rfl,_,_⟩:=id e3
   obtain ⟨c0,c1,c2,c3⟩:=hR3.four
   obtain ⟨f0,f1,f2,f3⟩:=hR3.fourF
   go_wp2
   refine ret_ct Tryz.results93 Tryz.underlying48 (by kernel_rfl) rfl (hR3.set4 _ _ _ _) rfl ?_
   exact fin_quo hR3 e3 (below_then hbe2 hb3 hbe2.size) (by omega)
end Go.Proofs.YtncmobkhenfhpaaGreat
