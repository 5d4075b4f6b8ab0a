/- Lemmas of the claim; no condition. -/
import Derived.Test.YtgdcbjligbnpgaaGreatH8
set_option linter.all false
set_option maxRecDepth 100000
set_option maxHeartbeats 40000000
namespace Go.Proofs.YtgdcbjligbnpgaaGreat
open Go.RowKit
open Pl
attribute [local go_sem ↓] Go.wp_at_zero Go.wp_at_succ
theorem below_drew' (w:World):Below w.heap.size w w.drew:=(Below.refl _ _).drew
section
def floats (o:Oper):Bool:=match o.op with
 | .move .. =>true
 | .assign .. =>true
 | .pick .. =>true
 | .load .. =>true
 | .binOp .. =>true
 | .unOp .. =>true
 | .convert .. =>true
 | .fieldAddr .. =>true
 | .field .. =>true
 | .indexAddr .. =>true
 | .index .. =>true
 | .extract .. =>true
 | .slice .. =>true
 | .nilCheck .. =>true
 | .build .. =>true
 | .call c=>match c.callee with | .builtin .len=>true | _=>false
 | _=>false
def pures (o:Oper):Bool:=match o.op with
 | .move .. =>true
 | .assign .. =>true
 | .pick .. =>true
 | .binOp .. =>true
 | .unOp .. =>true
 | .fieldAddr .. =>true
 | .field .. =>true
 | .indexAddr .. =>true
 | .extract .. =>true
 | .build .. =>true
 | _=>false
def pureI (ops:Array Oper) (i:Nat):Bool:=((ops[i]?).map pures).getD false
section
variable {P:Program} {ops:Array Oper} {Q:Exit→Act→World→Prop} {md:Region.Mode} {S:World→Prop} {n:Nat}
def AnyG (P:Program) (md:Region.Mode) (ops:Array Oper) (Q:Exit→Act→World→Prop) (S:World→Prop) (n:Nat):Nat→Array Bool→Act→World→Prop
 | 0,listed,a,w=>Region.ready md ops listed=[]∧Q .normal a w
 | fuel+1,listed,a,w=>(Region.ready md ops listed=[]→Q .normal a w)∧
  ∀i∈Region.ready md ops listed,wpOp P ops Q i (fun a' w'=>(n≤i∨(S w→S w'))∧AnyG P md ops Q S n fuel (listed.setIfInBounds i true) a' w') a w
theorem AnyG.any:∀(fuel:Nat) (listed:Array Bool) (a:Act) (w:World),AnyG P md ops Q S n fuel listed a w→wpAny P md ops Q fuel listed a w
 | 0,_,_,_,h=>h
 | fuel+1,_,_,_,h=>⟨h.1,fun i hi=>wpOp_mono (fun a' w' h'=>AnyG.any fuel _ a' w' h'.2) (h.2 i hi)⟩
theorem notl (listed:Array Bool) (k:Nat) (h0:listed.getD k true=false) (h1:listed.getD k false=true):False:=by
 rcases Nat.lt_or_ge k listed.size with h' | h'
 ·simp [h'] at h0 h1;rw [h0] at h1;cases h1
 ·simp [Array.getElem?_eq_none h'] at h1
theorem anyG_firstP {i:Nat} {oi:Oper} {v:Value} (hi:ops[i]? =some oi) (hsel:∀(j:Nat) (o:Oper) cs b,ops[j]? =some o→o.op≠ .select cs b)
 (hQ:∀c a w,Q (.panic c) (a.put oi.dst v) w→Q (.panic c) a w):
 ∀(fuel:Nat) (listed:Array Bool) (a:Act) (w:World),
  (∀j oj,ops[j]? =some oj→j≠i→listed.getD j true=false→(∀e∈oj.after,Region.binds md e=true→e.on≠i)→oi.apart ops oj=true)→
  i∈Region.ready md ops listed→YieldsIf P ops (fun _=>True) oi v a→
  AnyG P md ops Q S n fuel (listed.setIfInBounds i true) (a.put oi.dst v) w→AnyG P md ops Q S n (fuel+1) listed a w:=by
 intro fuel
 induction fuel with
 | zero=>
  intro listed a w _ hr hy H
  refine ⟨fun h=>(by rw [h] at hr;cases hr),fun j hj=>?_⟩
  by_cases hji:j=i
  ·subst hji;exact hy.wpOp hi trivial ⟨.inr fun h=>h,H⟩
  ·have:=ready_mono hj hji
   rw [H.1] at this
   cases this
 | succ fuel ih=>
  intro listed a w hfree hr hy H
  refine ⟨fun h=>(by rw [h] at hr;cases hr),fun j hj=>?_⟩
  by_cases hji:j=i
  ·subst hji;exact hy.wpOp hi trivial ⟨.inr fun h=>h,H⟩
  ·have h1:=H.2 j (ready_mono hj hji)
   obtain ⟨hjun,oj,hoj,hall⟩:=mem_ready.1 hj
   have hnot:∀e∈oj.after,Region.binds md e=true→e.on≠i:=fun e he hb heq=>by
    have h1:=hall e he hb
    rw [heq] at h1
    exact notl listed i (mem_ready.1 hr).1 h1
   have h2:=wpOp_putIf hoj (hfree j oj hoj hji hjun hnot) (fun cs b=>hsel i oi cs b hi) (fun cs b=>hsel j oj cs b hoj) hQ hy h1
   have hfree':∀k ok,ops[k]? =some ok→k≠i→(listed.setIfInBounds j true).getD k true=false→
    (∀e∈ok.after,Region.binds md e=true→e.on≠i)→oi.apart ops ok=true:=fun k ok hk hki hun hno=>by
    refine hfree k ok hk hki ?_ hno
    by_cases hjk:j=k
    ·subst hjk;exact hjun
    ·rw [getD_set_ne true hjk] at hun;exact hun
   refine wpOp_mono (fun a' w' h3=>⟨h3.2.1,ih (listed.setIfInBounds j true) a' w' hfree' (ready_mono hr (Ne.symm hji)) h3.1 ?_⟩) h2
   rw [Array.setIfInBounds_comm _ _ hji]
   exact h3.2.2
theorem anyG_takeP {i:Nat} {oi:Oper} {v:Value} {fuel:Nat} {listed:Array Bool} {a:Act} {w:World} (hi:ops[i]? =some oi)
 (hs:Region.noSelect ops=true) (hf:Region.free md ops listed i=true) (hr:(Region.ready md ops listed).contains i=true)
 (hQ:∀c a w,Q (.panic c) (a.put oi.dst v) w→Q (.panic c) a w) (hy:YieldsIf P ops (fun _=>True) oi v a)
 (h:AnyG P md ops Q S n fuel (listed.setIfInBounds i true) (a.put oi.dst v) w):AnyG P md ops Q S n (fuel+1) listed a w:=
 anyG_firstP hi (Region.noSelect_spec hs) hQ fuel listed a w (Region.free_spec hi hf) (by simpa using hr) hy h
end
def depD (md:Region.Mode) (ops:Array Oper) (i:Nat):Array Bool:=(List.range ops.size).foldl (fun d j=>d.push (((ops[j]?).map fun o=>o.after.any fun e=>Region.binds md e && (e.on==i || d.getD e.on false)).getD false)) #[]
def depOK (md:Region.Mode) (ops:Array Oper) (i:Nat) (d:Array Bool) (j:Nat):Bool:= !d.getD j false || ((ops[j]?).map fun o=>o.after.any fun e=>Region.binds md e && (e.on==i || d.getD e.on false)).getD false
def lastWaitT (md:Region.Mode) (ops:Array Oper) (n:Nat) (listed:Array Bool) (i:Nat):Bool:=
 (List.range ops.size).all fun j=>(decide (j < n) || (depD md ops i).getD j false) && (depOK md ops i (depD md ops i) j && (!(depD md ops i).getD j false || !listed.getD j true))
def floatI (ops:Array Oper) (n i:Nat):Bool:=decide (i < n) && ((ops[i]?).map floats).getD false
def seqAt (md:Region.Mode) (ops:Array Oper) (n:Nat) (listed:Array Bool) (i:Nat):Bool:=
 if floatI ops n i=true then Region.free md ops listed i && ((Region.ready md ops listed).contains i && (pureI ops i || lastWaitT md ops n listed i)) else Region.ready md ops listed==[i]
def seqGo (md:Region.Mode) (ops:Array Oper) (n:Nat):Bool→List Nat→Array Bool→Bool
 | _,[],listed=>Region.ready md ops listed==[]
 | d,i::is,listed=>seqAt md ops n listed i && (!(d && (floatI ops n i && !pureI ops i)) && seqGo md ops n (d || decide (n≤i)) is (listed.setIfInBounds i true))
def seqOK (md:Region.Mode) (ops:Array Oper) (n:Nat) (is:List Nat):Bool:=Region.noSelect ops && (seqGo md ops n false is (Array.replicate ops.size false) && decide (is.length=ops.size))
section
variable {P:Program} {ops:Array Oper} {Q:Exit→Act→World→Prop} {md:Region.Mode} {S:World→Prop} {n:Nat}
def wpSeq (P:Program) (ops:Array Oper) (Q:Exit→Act→World→Prop) (S:World→Prop) (n:Nat):List Nat→Act→World→Prop
 | [],a,w=>Q .normal a w
 | i::is,a,w=>match ops[i]? with
  | none=>True
  | some o=>if floatI ops n i=true then ∃v,(if pureI ops i=true then YieldsIf P ops (fun _=>True) o v a else YieldsIf P ops S o v a)∧wpSeq P ops Q S n is (a.put o.dst v) w
   else if Region.wanted o (yielded ops a.tmps)=true then Oper.wp P o a w (fun a' w'=>(n≤i∨S w')∧wpSeq P ops Q S n is a' w') Q
   else (n≤i∨S w)∧wpSeq P ops Q S n is (a.put o.dst undef) w
theorem anyG_firstT {i:Nat} {oi:Oper} {v:Value} {d:Array Bool} (hi:ops[i]? =some oi) (hsel:∀(j:Nat) (o:Oper) cs b,ops[j]? =some o→o.op≠ .select cs b)
 (hd1:∀j,n≤j→j < ops.size→d.getD j false=true) (hd2:∀j o,ops[j]? =some o→d.getD j false=true→∃e∈o.after,Region.binds md e=true∧(e.on=i∨(e.on < ops.size∧d.getD e.on false=true)))
 (hQ:∀c a w,Q (.panic c) (a.put oi.dst v) w→Q (.panic c) a w):
 ∀(fuel:Nat) (listed:Array Bool) (a:Act) (w:World),
  (∀j oj,ops[j]? =some oj→j≠i→listed.getD j true=false→(∀e∈oj.after,Region.binds md e=true→e.on≠i)→oi.apart ops oj=true)→
  (∀j,j < ops.size→d.getD j false=true→listed.getD j true=false)→
  i∈Region.ready md ops listed→YieldsIf P ops S oi v a→S w→
  AnyG P md ops Q S n fuel (listed.setIfInBounds i true) (a.put oi.dst v) w→AnyG P md ops Q S n (fuel+1) listed a w:=by
 intro fuel
 induction fuel with
 | zero=>
  intro listed a w _ _ hr hy hS H
  refine ⟨fun h=>(by rw [h] at hr;cases hr),fun j hj=>?_⟩
  by_cases hji:j=i
  ·subst hji;exact hy.wpOp hi hS ⟨.inr fun h=>h,H⟩
  ·have:=ready_mono hj hji
   rw [H.1] at this
   cases this
 | succ fuel ih=>
  intro listed a w hfree hun hr hy hS H
  refine ⟨fun h=>(by rw [h] at hr;cases hr),fun j hj=>?_⟩
  by_cases hji:j=i
  ·subst hji;exact hy.wpOp hi hS ⟨.inr fun h=>h,H⟩
  ·have h1:=H.2 j (ready_mono hj hji)
   obtain ⟨hjun,oj,hoj,hall⟩:=mem_ready.1 hj
   have hiun:=(mem_ready.1 hr).1
   have hnot:∀e∈oj.after,Region.binds md e=true→e.on≠i:=fun e he hb heq=>by
    have h1:=hall e he hb
    rw [heq] at h1
    exact notl listed i hiun h1
   have hjd:d.getD j false=false:=by
    cases hc:d.getD j false with
    | false=>rfl
    | true=>
     obtain ⟨e,he,hb,hor⟩:=hd2 j oj hoj hc
     rcases hor with h2 | ⟨h2,h3⟩
     ·exact absurd h2 (hnot e he hb)
     ·exact (notl listed e.on (hun e.on h2 h3) (hall e he hb)).elim
   have hjn:¬n≤j:=fun hle=>by
    have:=hd1 j hle (Array.getElem?_eq_some_iff.1 hoj).1
    rw [hjd] at this;cases this
   have h2:=wpOp_putIf hoj (hfree j oj hoj hji hjun hnot) (fun cs b=>hsel i oi cs b hi) (fun cs b=>hsel j oj cs b hoj) hQ hy h1
   have hfree':∀k ok,ops[k]? =some ok→k≠i→(listed.setIfInBounds j true).getD k true=false→
    (∀e∈ok.after,Region.binds md e=true→e.on≠i)→oi.apart ops ok=true:=fun k ok hk hki hun hno=>by
    refine hfree k ok hk hki ?_ hno
    by_cases hjk:j=k
    ·subst hjk;exact hjun
    ·rw [getD_set_ne true hjk] at hun;exact hun
   have hun':∀k,k < ops.size→d.getD k false=true→(listed.setIfInBounds j true).getD k true=false:=fun k hk hdk=>by
    have hjk:j≠k:=fun e=>by subst e;rw [hjd] at hdk;cases hdk
    rw [getD_set_ne true hjk]
    exact hun k hk hdk
   refine wpOp_mono (fun a' w' h3=>⟨h3.2.1,ih (listed.setIfInBounds j true) a' w' hfree' hun' (ready_mono hr (Ne.symm hji)) h3.1 ((h3.2.1.resolve_left hjn) hS) ?_⟩) h2
   rw [Array.setIfInBounds_comm _ _ hji]
   exact h3.2.2
theorem anyG_takeT {i:Nat} {oi:Oper} {v:Value} {fuel:Nat} {listed:Array Bool} {a:Act} {w:World} (hi:ops[i]? =some oi)
 (hs:Region.noSelect ops=true) (hf:Region.free md ops listed i=true) (hr:(Region.ready md ops listed).contains i=true) (hw:lastWaitT md ops n listed i=true)
 (hQ:∀c a w,Q (.panic c) (a.put oi.dst v) w→Q (.panic c) a w) (hy:YieldsIf P ops S oi v a) (hS:S w)
 (h:AnyG P md ops Q S n fuel (listed.setIfInBounds i true) (a.put oi.dst v) w):AnyG P md ops Q S n (fuel+1) listed a w:=by
 simp only [lastWaitT,List.all_eq_true,List.mem_range,Bool.and_eq_true,Bool.or_eq_true,decide_eq_true_eq] at hw
 refine anyG_firstT (d:=depD md ops i) hi (Region.noSelect_spec hs) ?_ ?_ hQ fuel listed a w (Region.free_spec hi hf) ?_ (by simpa using hr) hy hS h
 ·intro j hj hjs
  rcases (hw j hjs).1 with h1 | h1
  ·omega
  ·exact h1
 ·intro j o ho hdj
  have hjs:=(Array.getElem?_eq_some_iff.1 ho).1
  have h1:=(hw j hjs).2.1
  unfold depOK at h1
  rw [hdj,ho] at h1
  simp only [Bool.not_true,Bool.false_or,Option.map_some,Option.getD_some] at h1
  obtain ⟨e,he,hb⟩:=Array.any_eq_true'.1 h1
  simp only [Bool.and_eq_true,Bool.or_eq_true,beq_iff_eq] at hb
  refine ⟨e,he,hb.1,hb.2.imp id fun h3=>⟨?_,h3⟩⟩
  rcases Nat.lt_or_ge e.on ops.size with h4 | h4
  ·exact h4
  ·exfalso
   have hsz:(depD md ops i).size≤ops.size:=by
    unfold depD
    have:∀(l:List Nat) (d:Array Bool) (f:Array Bool→Nat→Bool),(l.foldl (fun d j=>d.push (f d j)) d).size=d.size+l.length:=by
     intro l
     induction l with
     | nil=>intro d f;simp
     | cons x l ih=>intro d f;simp [ih];omega
    have h5:=this (List.range ops.size) #[] (fun d j=>((ops[j]?).map fun o=>o.after.any fun e=>Region.binds md e && (e.on==i || d.getD e.on false)).getD false)
    simp only [List.size_toArray,List.length_nil,List.length_range,Nat.zero_add] at h5
    exact Nat.le_of_eq h5
   have:(depD md ops i).getD e.on false=false:=by
    simp [Array.getElem?_eq_none (show (depD md ops i).size≤e.on by omega)]
   rw [this] at h3;cases h3
 ·intro j hj hdj
  have h1:=(hw j hj).2.2
  rw [hdj] at h1
  simpa using h1
theorem AnyG.of_seq (hQ:∀c a d v w,Q (.panic c) (a.put d v) w→Q (.panic c) a w) (hs:Region.noSelect ops=true):
 ∀(is:List Nat) (listed:Array Bool) (a:Act) (w:World) (d:Bool),seqGo md ops n d is listed=true→(d=false→S w)→wpSeq P ops Q S n is a w→AnyG P md ops Q S n is.length listed a w:=by
 intro is
 induction is with
 | nil=>
  intro listed a w d hgo _ h
  exact ⟨by simpa [seqGo] using hgo,h⟩
 | cons i is ih=>
  intro listed a w d hgo hS h
  simp only [seqGo,Bool.and_eq_true] at hgo
  obtain ⟨hat,hd,hgo⟩:=hgo
  unfold wpSeq at h
  unfold seqAt at hat
  split at hat
  ·rename_i hf
   simp only [Bool.and_eq_true] at hat
   obtain ⟨h1,h2,h3⟩:=hat
   have hf':=hf
   simp only [floatI,Bool.and_eq_true,decide_eq_true_eq] at hf'
   obtain ⟨o,ho⟩:∃o,ops[i]? =some o:=by
    cases hc:ops[i]? with
    | none=>rw [hc] at hf';simp at hf'
    | some o=>exact ⟨o,rfl⟩
   simp only [ho] at h
   rw [if_pos hf] at h
   obtain ⟨v,hy,hr⟩:=h
   by_cases hp:pureI ops i=true
   ·rw [if_pos hp] at hy
    exact anyG_takeP ho hs h1 h2 (fun c a w=>hQ c a o.dst v w) hy (ih _ _ w _ hgo (fun hd'=>hS (by simp at hd';exact hd'.1)) hr)
   ·rw [if_neg hp] at hy
    have hdf:d=false:=by rw [hf] at hd;simpa [hp] using hd
    have hw:=hS hdf
    exact anyG_takeT ho hs h1 h2 (by simpa [hp] using h3) (fun c a w=>hQ c a o.dst v w) hy hw (ih _ _ w _ hgo (fun _=>hw) hr)
  ·rename_i hf
   have hr:Region.ready md ops listed=[i]:=by simpa using hat
   have hi:i∈Region.ready md ops listed:=by rw [hr];exact List.mem_singleton.2 rfl
   obtain ⟨_,o,ho,_⟩:=mem_ready.1 hi
   simp only [ho] at h
   rw [if_neg hf] at h
   refine ⟨fun h0=>(by rw [hr] at h0;cases h0),fun j hj=>?_⟩
   rw [hr] at hj
   obtain rfl:j=i:=by simpa using hj
   have h:wpOp P ops Q j (fun a' w'=>(n≤j∨S w')∧wpSeq P ops Q S n is a' w') a w:=by
    unfold wpOp
    rw [ho]
    show if Region.wanted o (yielded ops a.tmps)=true then _ else _
    split
    ·rename_i hw;rw [if_pos hw] at h;exact .inl h
    ·rename_i hw;rw [if_neg hw] at h;exact h
   exact wpOp_mono (fun a' w' h'=>⟨h'.1.imp id (fun h _=>h),ih _ a' w' _ hgo (fun hle=>h'.1.resolve_left (by simp at hle;omega)) h'.2⟩) h
theorem region_seq {id:Nat} {l:List Oper} {a:Act} {w:World} (n:Nat) (is:List Nat) (hm:P.follows .mixedOrders=true) (hok:seqOK .any l.toArray n is=true)
 (h:wpSeq P l.toArray (NoPanic Q) (fun w'=>Below w.heap.size w w') n is a w.drew):(Code.region id l.toArray true).wp P Q a w:=by
 simp only [seqOK,Bool.and_eq_true,decide_eq_true_eq] at hok
 obtain ⟨hs,hgo,hl⟩:=hok
 refine wp_region_noPanic (wp_region_any hm (AnyG.any _ _ _ _ (S:=fun w'=>Below w.heap.size w w') (n:=n) ?_))
 rw [← hl]
 have:=AnyG.of_seq (P:=P) (Q:=NoPanic Q) (S:=fun w'=>Below w.heap.size w w') (fun c a d v w h=>h) hs is _ a w.drew false hgo (fun _=>(Below.refl _ _).drew) h
 rwa [hl] at this ⊢
theorem seq_done {a:Act} {w:World} (h:Q .normal a w):wpSeq P ops (NoPanic Q) S n [] a w:=h
theorem seq_take {o:Oper} {i:Nat} {is:List Nat} {a:Act} {w:World} {v:Value} (ho:ops[i]? =some o) (hf:(floatI ops n i && !pureI ops i)=true) (hw:Region.wanted o (yielded ops a.tmps)=true) (hy:∀w',S w'→(execOp a.eval o).run P w'= .ok (.value v) w') (h:wpSeq P ops Q S n is (a.put o.dst v) w):wpSeq P ops Q S n (i::is) a w:=by
 simp only [Bool.and_eq_true,Bool.not_eq_true'] at hf
 unfold wpSeq
 rw [ho]
 show if _ then _ else _
 rw [if_pos hf.1]
 exact ⟨v,by rw [if_neg (by simp [hf.2])];exact .inl ⟨hw,hy⟩,h⟩
theorem seq_takeP {o:Oper} {i:Nat} {is:List Nat} {a:Act} {w:World} {v:Value} (ho:ops[i]? =some o) (hf:(floatI ops n i && pureI ops i)=true) (hw:Region.wanted o (yielded ops a.tmps)=true) (hy:∀w',True→(execOp a.eval o).run P w'= .ok (.value v) w') (h:wpSeq P ops Q S n is (a.put o.dst v) w):wpSeq P ops Q S n (i::is) a w:=by
 simp only [Bool.and_eq_true] at hf
 unfold wpSeq
 rw [ho]
 show if _ then _ else _
 rw [if_pos hf.1]
 exact ⟨v,by rw [if_pos hf.2];exact .inl ⟨hw,hy⟩,h⟩
theorem seq_skip {o:Oper} {i:Nat} {is:List Nat} {a:Act} {w:World} (ho:ops[i]? =some o) (hf:floatI ops n i=true) (hw:Region.wanted o (yielded ops a.tmps)=false) (h:wpSeq P ops Q S n is (a.put o.dst undef) w):wpSeq P ops Q S n (i::is) a w:=by
 unfold wpSeq
 rw [ho]
 show if _ then _ else _
 rw [if_pos hf]
 exact ⟨undef,by split <;> exact .inr ⟨hw,rfl⟩,h⟩
theorem seq_step {o:Oper} {i:Nat} {is:List Nat} {a:Act} {w:World} (ho:ops[i]? =some o) (hf:floatI ops n i=false)
 (h:∀K':Act→World→Prop,Shut (∀a w,(n≤i∨S w)→wpSeq P ops Q S n is a w→K' a w)→if Region.wanted o (yielded ops a.tmps)=true then Oper.wp P o a w K' Q else K' (a.put o.dst undef) w):wpSeq P ops Q S n (i::is) a w:=by
 have h1:=h (fun a' w'=>(n≤i∨S w')∧wpSeq P ops Q S n is a' w') (fun a w h1 h2=>⟨h1,h2⟩)
 unfold wpSeq
 rw [ho]
 show if _ then _ else _
 rw [if_neg (by simp [hf])]
 exact h1
end
theorem stab {w:World} {p:Addr} {v:Value} (h:w.cell? p=some v):∀w',Below w.heap.size w w'→w'.cell? p=some v:=fun _ hb=>cell_keep hb h
end
theorem i64_and1 (n:Int):bits .and .i64 n 1=n % 2:=by
 have hc:(BitVec.ofInt 64 1).toNat=2^1 - 1:=by decide
 have key:(BitVec.ofInt 64 n &&& BitVec.ofInt 64 1).toNat=(n % ((2^64:Nat):Int)).toNat % 2^1:=by
  rw [BitVec.toNat_and,BitVec.toNat_ofInt,hc,Nat.and_two_pow_sub_one_eq_mod]
 show IntKind.i64.wrap ((BitVec.ofInt 64 n &&& BitVec.ofInt 64 1).toNat:Nat)=n % 2
 rw [key,IntKind.wrap_i64]
 omega
theorem i64_and3 (n:Int):bits .and .i64 n 3=n % 4:=by
 have hc:(BitVec.ofInt 64 3).toNat=2^2 - 1:=by decide
 have key:(BitVec.ofInt 64 n &&& BitVec.ofInt 64 3).toNat=(n % ((2^64:Nat):Int)).toNat % 2^2:=by
  rw [BitVec.toNat_and,BitVec.toNat_ofInt,hc,Nat.and_two_pow_sub_one_eq_mod]
 show IntKind.i64.wrap ((BitVec.ofInt 64 n &&& BitVec.ofInt 64 3).toNat:Nat)=n % 4
 rw [key,IntKind.wrap_i64]
 omega
theorem i64_and7 (n:Int):bits .and .i64 n 7=n % 8:=by
 have hc:(BitVec.ofInt 64 7).toNat=2^3 - 1:=by decide
 have key:(BitVec.ofInt 64 n &&& BitVec.ofInt 64 7).toNat=(n % ((2^64:Nat):Int)).toNat % 2^3:=by
  rw [BitVec.toNat_and,BitVec.toNat_ofInt,hc,Nat.and_two_pow_sub_one_eq_mod]
 show IntKind.i64.wrap ((BitVec.ofInt 64 n &&& BitVec.ofInt 64 7).toNat:Nat)=n % 8
 rw [key,IntKind.wrap_i64]
 omega
theorem i64_and15 (n:Int):bits .and .i64 n 15=n % 16:=by
 have hc:(BitVec.ofInt 64 15).toNat=2^4 - 1:=by decide
 have key:(BitVec.ofInt 64 n &&& BitVec.ofInt 64 15).toNat=(n % ((2^64:Nat):Int)).toNat % 2^4:=by
  rw [BitVec.toNat_and,BitVec.toNat_ofInt,hc,Nat.and_two_pow_sub_one_eq_mod]
 show IntKind.i64.wrap ((BitVec.ofInt 64 n &&& BitVec.ofInt 64 15).toNat:Nat)=n % 16
 rw [key,IntKind.wrap_i64]
 omega
theorem i64_and31 (n:Int):bits .and .i64 n 31=n % 32:=by
 have hc:(BitVec.ofInt 64 31).toNat=2^5 - 1:=by decide
 have key:(BitVec.ofInt 64 n &&& BitVec.ofInt 64 31).toNat=(n % ((2^64:Nat):Int)).toNat % 2^5:=by
  rw [BitVec.toNat_and,BitVec.toNat_ofInt,hc,Nat.and_two_pow_sub_one_eq_mod]
 show IntKind.i64.wrap ((BitVec.ofInt 64 n &&& BitVec.ofInt 64 31).toNat:Nat)=n % 32
 rw [key,IntKind.wrap_i64]
 omega
theorem i64_and65535 (n:Int):bits .and .i64 n 65535=n % 65536:=by
 have hc:(BitVec.ofInt 64 65535).toNat=2^16 - 1:=by decide
 have key:(BitVec.ofInt 64 n &&& BitVec.ofInt 64 65535).toNat=(n % ((2^64:Nat):Int)).toNat % 2^16:=by
  rw [BitVec.toNat_and,BitVec.toNat_ofInt,hc,Nat.and_two_pow_sub_one_eq_mod]
 show IntKind.i64.wrap ((BitVec.ofInt 64 n &&& BitVec.ofInt 64 65535).toNat:Nat)=n % 65536
 rw [key,IntKind.wrap_i64]
 omega
def IntsM (w:World) (v:Value) (zs:List Int):Prop:=
 ∃a cap,v= .slice a zs.length cap∧zs.length≤cap∧cap≤maxLen∧(0 < zs.length→∃b off,a=some ⟨b,off,none⟩∧∀i,i < zs.length→w.cell? ⟨b,off+i,none⟩=some (.int .i64 (zs.getD i 0)))∧∀z∈zs,-9223372036854775808≤z∧z≤9223372036854775807
theorem IntsM.below {w w':World} {v:Value} {zs:List Int} (h:IntsM w v zs) (hb:Below w.heap.size w w'):IntsM w' v zs:=by
 obtain ⟨a,cap,h1,h2,h3,h4,h5⟩:=h
 refine ⟨a,cap,h1,h2,h3,fun hp=>?_,h5⟩
 obtain ⟨b,off,g1,g2⟩:=h4 hp
 exact ⟨b,off,g1,fun i hi=>cell_keep hb (g2 i hi)⟩
theorem IntsM.shape {w:World} {v:Value} {zs:List Int} (h:IntsM w v zs):∃a cap,v= .slice a zs.length cap∧zs.length≤cap∧cap≤9223372036854775807:=by
 obtain ⟨a,cap,h1,h2,h3,h4,h5⟩:=h
 unfold maxLen at h3
 exact ⟨a,cap,h1,h2,by omega⟩
theorem IntsM.at_ {w:World} {a:Option Addr} {n cap:Nat} {zs:List Int} (h:IntsM w (.slice a n cap) zs) {i:Nat} (hi:i < n):
 ∃b off z,a=some ⟨b,off,none⟩∧w.cell? ⟨b,off+i,none⟩=some (.int .i64 z)∧zs[i]? =some z∧ -9223372036854775808≤z∧z≤9223372036854775807:=by
 obtain ⟨a',cap',h1,h2,h3,h4,h5⟩:=h
 injection h1 with e1 e2 e3
 subst e1
 obtain ⟨b,off,g1,g2⟩:=h4 (by omega)
 have hg:zs[i]? =some (zs.getD i 0):=by simp [List.getD,List.getElem?_eq_getElem (show i < zs.length by omega)]
 have hm:=h5 _ (List.mem_of_getElem? hg)
 exact ⟨b,off,_,g1,g2 i (by omega),hg,hm⟩
theorem at_any (v:Value) (zs:List Int) (i:Nat) (w:World) (h:IntsM w v zs) (hi:i≤1099511627776):
 Calls Tryz.prog 24 #[v,.int .i64 (i:Int)] w fun e w'=>∃z:Int,e= .returned (.int .i64 z)∧0≤z∧z≤65535+i∧Below w.heap.size w w':=by
 obtain ⟨a,cap,rfl,hc1,hc2⟩:=h.shape
 generalize hn:zs.length=n at *
 clear hn
 have hm:=i64_and65535
 rcases Nat.eq_zero_or_pos n with h0 | h0
 ·subst h0
  go_enter Tryz.func24,Tryz.ntmps24
  go_wp2
  go_ret
  exact ⟨_,rfl,by omega,by omega,Below.refl _ _⟩
 ·have hlt:i % n < n:=Nat.mod_lt _ h0
  obtain ⟨b,off,z,rfl,hcell,_,hz1,hz2⟩:=h.at_ hlt
  have hne:((n:Int)==0)=false:=by simp;omega
  have hq:i / n≤i:=Nat.div_le_self _ _
  have hn0:¬n=0:=by omega
  have hr1:(i:Int) % n < n:=by omega
  have hr2:0≤(i:Int) % n:=by omega
  have hq1:(i:Int) / n≤i:=Int.ediv_le_self _ (by omega)
  have hq2:0≤(i:Int) / n:=Int.ediv_nonneg (by omega) (by omega)
  go_enter Tryz.func24,Tryz.ntmps24
  go_wp2_with fail
  have C1:=stab hcell
  refine region_seq 14 [0,1,2,3,4,5,6,7,8,9,10,11,12,13] (by kernel_rfl) (by kernel_rfl) ?_
  repeat (first | (refine seq_takeP (v:=?_) rfl rfl rfl ?_ ?_;rotate_left;(· (intro _ hSw;go_simp;(try go_bits);(try with_reducible rfl)));(try simp only [Act.put,List.setIfInBounds_toArray,List.set_cons_zero,List.set_cons_succ,List.getElem_toArray,List.getElem_cons_zero,List.getElem_cons_succ])) | (refine seq_take (v:=?_) rfl rfl rfl ?_ ?_;rotate_left;(· (intro _ hSw;go_simp;(try go_bits);(try with_reducible rfl)));(try simp only [Act.put,List.setIfInBounds_toArray,List.set_cons_zero,List.set_cons_succ,List.getElem_toArray,List.getElem_cons_zero,List.getElem_cons_succ])) | (refine seq_skip rfl rfl rfl ?_;(try simp only [Act.put,List.setIfInBounds_toArray,List.set_cons_zero,List.set_cons_succ,List.getElem_toArray,List.getElem_cons_zero,List.getElem_cons_succ])))
  refine seq_done ?_
  clear C1
  go_wp2
  go_ret
  exact ⟨_,rfl,by omega,by omega,below_drew' _⟩
theorem Bk.threeF {w:World} {g:Nat} {t:TypeId} {cs:List Value} (h:Bk w g t cs):w.frozen? ⟨g,0,none⟩=false∧w.frozen? ⟨g,1,none⟩=false∧w.frozen? ⟨g,2,none⟩=false:=⟨h.frozen 0,h.frozen 1,h.frozen 2⟩
theorem at_int (v:Value) (zs:List Int) (i:Int) (w:World) (h:IntsM w v zs) (h0:0≤i) (hi:i≤1099511627776):
 Calls Tryz.prog 24 #[v,.int .i64 i] w fun e w'=>∃z:Int,e= .returned (.int .i64 z)∧0≤z∧z≤65535+i∧Below w.heap.size w w':=by
 obtain ⟨k,rfl⟩:=Int.eq_ofNat_of_zero_le h0
 exact at_any v zs k w h (by omega)
end Go.Proofs.YtgdcbjligbnpgaaGreat
