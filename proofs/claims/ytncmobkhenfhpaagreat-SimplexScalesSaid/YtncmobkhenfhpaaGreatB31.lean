/- Contracts and plain facts that the claim is built on, joined out of smaller texts; no condition. -/
import Derived.Test.YtncmobkhenfhpaaGreatB30
set_option linter.unusedVariables false
set_option linter.unusedSimpArgs false
set_option maxRecDepth 100000
set_option maxHeartbeats 40000000
namespace Go.Proofs.YtncmobkhenfhpaaGreat
open Go.RowKit
open Pl
attribute [local go_sem ↓] Go.wp_at_zero Go.wp_at_succ
section
inductive Plan where
 | done
 | go (i:Nat) (p:Plan)
 | fork (i:Nat) (p:Plan) (j:Nat) (q:Plan)
 | bag (l:List Nat) (p:Plan)
def Plan.of:List Nat→Plan→Plan
 | [],p=>p
 | i::is,p=> .go i (Plan.of is p)
def bagGo (md:Region.Mode) (ops:Array Oper) (n:Nat) (K:Array Bool→Bool):Nat→List Nat→Array Bool→Bool
 | 0,_,listed=>K listed
 | m+1,l,listed=>l.all (fun k=>listed.getD k true==false) && (!(Region.ready md ops listed).isEmpty && (Region.ready md ops listed).all fun i=>(l.contains i && decide (i < n)) && bagGo md ops n K m (l.erase i) (listed.setIfInBounds i true))
def planGo (md:Region.Mode) (ops:Array Oper) (n:Nat):Bool→Plan→Array Bool→Bool
 | _,.done,listed=>Region.ready md ops listed==[]
 | d,.go i p,listed=>seqAt md ops n listed i && (!(d && (floatI ops n i && !pureI ops i)) && planGo md ops n (d || decide (n≤i)) p (listed.setIfInBounds i true))
 | d,.fork i p j q,listed=>(!floatI ops n i && !floatI ops n j) && (Region.ready md ops listed==[i,j] && (planGo md ops n (d || decide (n≤i)) p (listed.setIfInBounds i true) && planGo md ops n (d || decide (n≤j)) q (listed.setIfInBounds j true)))
 | d,.bag l p,listed=> !d && bagGo md ops n (fun b=>planGo md ops n false p b) l.length l listed
section
variable {P:Program} {ops:Array Oper} {Q:Exit→Act→World→Prop} {md:Region.Mode} {S:World→Prop} {n:Nat}
def wpAlone (P:Program) (ops:Array Oper) (Q:Exit→Act→World→Prop) (S:World→Prop) (n i:Nat) (K:Act→World→Prop) (a:Act) (w:World):Prop:=match ops[i]? with
 | none=>True
 | some o=>if Region.wanted o (yielded ops a.tmps)=true then Oper.wp P o a w (fun a' w'=>(n≤i∨S w')∧K a' w') Q else (n≤i∨S w)∧K (a.put o.dst undef) w
def wpBag (P:Program) (ops:Array Oper) (Q:Exit→Act→World→Prop) (md:Region.Mode) (S:World→Prop) (n:Nat) (K:Act→World→Prop):Nat→List Nat→Act→World→Prop
 | 0,_,a,w=>K a w
 | m+1,l,a,w=>∀i oi,i∈l→ops[i]? =some oi→(∀e∈oi.after,Region.binds md e=true→e.on ∉ l)→wpAlone P ops Q S n i (wpBag P ops Q md S n K m (l.erase i)) a w
def wpPlan (P:Program) (ops:Array Oper) (Q:Exit→Act→World→Prop) (S:World→Prop) (n:Nat):Plan→Act→World→Prop
 | .done,a,w=>Q .normal a w
 | .go i p,a,w=>match ops[i]? with
  | none=>True
  | some o=>if floatI ops n i=true then ∃v,(if pureI ops i=true then YieldsIf P ops (fun _=>True) o v a else YieldsIf P ops S o v a)∧wpPlan P ops Q S n p (a.put o.dst v) w else wpAlone P ops Q S n i (wpPlan P ops Q S n p) a w
 | .fork i p j q,a,w=>wpAlone P ops Q S n i (wpPlan P ops Q S n p) a w∧wpAlone P ops Q S n j (wpPlan P ops Q S n q) a w
 | .bag l p,a,w=>wpBag P ops Q .any S n (wpPlan P ops Q S n p) l.length l a w
theorem wpAlone.wpOp {i:Nat} {o:Oper} {K:Act→World→Prop} {a:Act} {w:World} (ho:ops[i]? =some o) (h:wpAlone P ops Q S n i K a w):Go.wpOp P ops Q i (fun a' w'=>(n≤i∨S w')∧K a' w') a w:=by
 unfold wpAlone at h
 rw [ho] at h
 unfold Go.wpOp
 rw [ho]
 show if Region.wanted o (yielded ops a.tmps)=true then _ else _
 have h:if Region.wanted o (yielded ops a.tmps)=true then Oper.wp P o a w (fun a' w'=>(n≤i∨S w')∧K a' w') Q else (n≤i∨S w)∧K (a.put o.dst undef) w:=h
 split
 ·rename_i hw;rw [if_pos hw] at h;exact .inl h
 ·rename_i hw;rw [if_neg hw] at h;exact h
def Plan.len:Plan→Nat
 | .done=>0
 | .go _ p=>p.len+1
 | .fork _ p _ _=>p.len+1
 | .bag l p=>p.len+l.length
def Plan.even:Plan→Bool
 | .done=>true
 | .go _ p=>p.even
 | .fork _ p _ q=>p.even && (q.even && (p.len==q.len))
 | .bag _ p=>p.even
def planOK (md:Region.Mode) (ops:Array Oper) (n:Nat) (p:Plan):Bool:=Region.noSelect ops && (planGo md ops n false p (Array.replicate ops.size false) && (p.even && decide (p.len=ops.size)))
theorem AnyG.of_plan (hQ:∀c a d v w,Q (.panic c) (a.put d v) w→Q (.panic c) a w) (hs:Region.noSelect ops=true):
 ∀(p:Plan) (listed:Array Bool) (a:Act) (w:World) (d:Bool),p.even=true→planGo .any ops n d p listed=true→(d=false→S w)→wpPlan P ops Q S n p a w→AnyG P .any ops Q S n p.len listed a w:=by
 intro p
 induction p with
 | done=>
  intro listed a w d _ hgo _ h
  exact ⟨by simpa [planGo] using hgo,h⟩
 | go i p ih=>
  intro listed a w d hev hgo hS h
  simp only [planGo,Bool.and_eq_true] at hgo
  obtain ⟨hat,hd,hgo⟩:=hgo
  unfold wpPlan at h
  unfold seqAt at hat
  split at hat
  ·rename_i hf
   simp only [Bool.and_eq_true] at hat
   obtain ⟨h1,h2,h3⟩:=hat
   have hf':=hf
   simp only [floatI,Bool.and_eq_true,decide_eq_true_eq] at hf'
   obtain ⟨o,ho⟩:∃o,ops[i]? =some o:=by
    cases hc:ops[i]? with
    | none=>rw [hc] at hf';simp at hf'
    | some o=>exact ⟨o,rfl⟩
   simp only [ho] at h
   rw [if_pos hf] at h
   obtain ⟨v,hy,hr⟩:=h
   by_cases hp:pureI ops i=true
   ·rw [if_pos hp] at hy
    exact anyG_takeP ho hs h1 h2 (fun c a w=>hQ c a o.dst v w) hy (ih _ _ w _ hev hgo (fun hd'=>hS (by simp at hd';exact hd'.1)) hr)
   ·rw [if_neg hp] at hy
    have hdf:d=false:=by rw [hf] at hd;simpa [hp] using hd
    have hw:=hS hdf
    exact anyG_takeT ho hs h1 h2 (by simpa [hp] using h3) (fun c a w=>hQ c a o.dst v w) hy hw (ih _ _ w _ hev hgo (fun _=>hw) hr)
  ·rename_i hf
   have hr:Region.ready .any ops listed=[i]:=by simpa using hat
   have hi:i∈Region.ready .any ops listed:=by rw [hr];exact List.mem_singleton.2 rfl
   obtain ⟨_,o,ho,_⟩:=mem_ready.1 hi
   simp only [ho] at h
   rw [if_neg hf] at h
   refine ⟨fun h0=>(by rw [hr] at h0;cases h0),fun j hj=>?_⟩
   rw [hr] at hj
   obtain rfl:j=i:=by simpa using hj
   exact wpOp_mono (fun a' w' h'=>⟨h'.1.imp id (fun h _=>h),ih _ a' w' _ hev hgo (fun hle=>h'.1.resolve_left (by simp at hle;omega)) h'.2⟩) (h.wpOp ho)
 | fork i p j q ihp ihq=>
  intro listed a w d hev hgo hS h
  simp only [planGo,Bool.and_eq_true] at hgo
  obtain ⟨_,hr,hg1,hg2⟩:=hgo
  simp only [Plan.even,Bool.and_eq_true,beq_iff_eq] at hev
  obtain ⟨ev1,ev2,hlen⟩:=hev
  have hr:Region.ready .any ops listed=[i,j]:=by simpa using hr
  obtain ⟨h1,h2⟩:=h
  have hi:i∈Region.ready .any ops listed:=by rw [hr];simp
  have hj:j∈Region.ready .any ops listed:=by rw [hr];simp
  obtain ⟨_,oi,hoi,_⟩:=mem_ready.1 hi
  obtain ⟨_,oj,hoj,_⟩:=mem_ready.1 hj
  refine ⟨fun h0=>(by rw [hr] at h0;cases h0),fun k hk=>?_⟩
  rw [hr] at hk
  simp only [List.mem_cons,List.not_mem_nil,or_false] at hk
  rcases hk with rfl | rfl
  ·exact wpOp_mono (fun a' w' h'=>⟨h'.1.imp id (fun h _=>h),ihp _ a' w' _ ev1 hg1 (fun hle=>h'.1.resolve_left (by simp at hle;omega)) h'.2⟩) (h1.wpOp hoi)
  ·exact wpOp_mono (fun a' w' h'=>⟨h'.1.imp id (fun h _=>h),by rw [hlen];exact ihq _ a' w' _ ev2 hg2 (fun hle=>h'.1.resolve_left (by simp at hle;omega)) h'.2⟩) (h2.wpOp hoj)
 | bag l p ih=>
  intro listed a w d hev hgo hS h
  simp only [planGo,Bool.and_eq_true,Bool.not_eq_true'] at hgo
  obtain ⟨hd,hgo⟩:=hgo
  have key:∀(m:Nat) (l:List Nat) (listed:Array Bool) (a:Act) (w:World),bagGo .any ops n (fun b=>planGo .any ops n false p b) m l listed=true→S w→wpBag P ops Q .any S n (wpPlan P ops Q S n p) m l a w→AnyG P .any ops Q S n (p.len+m) listed a w:=by
   intro m
   induction m with
   | zero=>exact fun l listed a w hg hw h=>ih listed a w false hev hg (fun _=>hw) h
   | succ m ihm=>
    intro l listed a w hg hw h
    simp only [bagGo,Bool.and_eq_true,Bool.not_eq_true',List.all_eq_true,decide_eq_true_eq,beq_iff_eq] at hg
    obtain ⟨hun,hne,hall⟩:=hg
    refine ⟨fun h0=>(by rw [h0] at hne;simp at hne),fun j hj=>?_⟩
    obtain ⟨_,o,ho,hdep⟩:=mem_ready.1 hj
    obtain ⟨⟨hjl,hjn⟩,hg'⟩:=hall j hj
    have hjl:j∈l:=by simpa using hjl
    exact wpOp_mono (fun a' w' h'=>⟨h'.1.imp id (fun h _=>h),ihm _ _ a' w' hg' (h'.1.resolve_left (by omega)) h'.2⟩) ((h j o hjl ho fun e he hb hin=>by
     have h1:=hdep e he hb
     have h2:=hun e.on hin
     rcases Nat.lt_or_ge e.on listed.size with h' | h'
     ·simp [h'] at h1 h2;rw [h1] at h2;cases h2
     ·simp [Array.getElem?_eq_none h'] at h2).wpOp ho)
  exact key _ _ _ _ _ hgo (hS hd) h
theorem region_plan {id:Nat} {l:List Oper} {a:Act} {w:World} (n:Nat) (p:Plan) (hm:P.follows .mixedOrders=true) (hok:planOK .any l.toArray n p=true)
 (h:wpPlan P l.toArray (NoPanic Q) (fun w'=>Below w.heap.size w w') n p a w.drew):(Code.region id l.toArray true).wp P Q a w:=by
 simp only [planOK,Bool.and_eq_true,decide_eq_true_eq] at hok
 obtain ⟨hs,hgo,hev,hl⟩:=hok
 refine wp_region_noPanic (wp_region_any hm (AnyG.any _ _ _ _ (S:=fun w'=>Below w.heap.size w w') (n:=n) ?_))
 have:=AnyG.of_plan (P:=P) (Q:=NoPanic Q) (S:=fun w'=>Below w.heap.size w w') (fun c a d v w h=>h) hs p _ a w.drew false hev hgo (fun _=>(Below.refl _ _).drew) h
 rwa [hl] at this
theorem plan_done {a:Act} {w:World} (h:Q .normal a w):wpPlan P ops (NoPanic Q) S n .done a w:=h
theorem plan_take {o:Oper} {i:Nat} {p:Plan} {a:Act} {w:World} {v:Value} (ho:ops[i]? =some o) (hf:(floatI ops n i && !pureI ops i)=true) (hw:Region.wanted o (yielded ops a.tmps)=true) (hy:∀w',S w'→(execOp a.eval o).run P w'= .ok (.value v) w') (h:wpPlan P ops Q S n p (a.put o.dst v) w):wpPlan P ops Q S n (.go i p) a w:=by
 simp only [Bool.and_eq_true,Bool.not_eq_true'] at hf
 unfold wpPlan
 rw [ho]
 show if _ then _ else _
 rw [if_pos hf.1]
 exact ⟨v,by rw [if_neg (by simp [hf.2])];exact .inl ⟨hw,hy⟩,h⟩
theorem plan_takeP {o:Oper} {i:Nat} {p:Plan} {a:Act} {w:World} {v:Value} (ho:ops[i]? =some o) (hf:(floatI ops n i && pureI ops i)=true) (hw:Region.wanted o (yielded ops a.tmps)=true) (hy:∀w',True→(execOp a.eval o).run P w'= .ok (.value v) w') (h:wpPlan P ops Q S n p (a.put o.dst v) w):wpPlan P ops Q S n (.go i p) a w:=by
 simp only [Bool.and_eq_true] at hf
 unfold wpPlan
 rw [ho]
 show if _ then _ else _
 rw [if_pos hf.1]
 exact ⟨v,by rw [if_pos hf.2];exact .inl ⟨hw,hy⟩,h⟩
theorem plan_skip {o:Oper} {i:Nat} {p:Plan} {a:Act} {w:World} (ho:ops[i]? =some o) (hf:floatI ops n i=true) (hw:Region.wanted o (yielded ops a.tmps)=false) (h:wpPlan P ops Q S n p (a.put o.dst undef) w):wpPlan P ops Q S n (.go i p) a w:=by
 unfold wpPlan
 rw [ho]
 show if _ then _ else _
 rw [if_pos hf]
 exact ⟨undef,by split <;> exact .inr ⟨hw,rfl⟩,h⟩
theorem alone_step {o:Oper} {i:Nat} {K:Act→World→Prop} {a:Act} {w:World} (ho:ops[i]? =some o)
 (h:∀K':Act→World→Prop,Shut (∀a w,(n≤i∨S w)→K a w→K' a w)→if Region.wanted o (yielded ops a.tmps)=true then Oper.wp P o a w K' Q else K' (a.put o.dst undef) w):wpAlone P ops Q S n i K a w:=by
 have h1:=h (fun a' w'=>(n≤i∨S w')∧K a' w') (fun a w h1 h2=>⟨h1,h2⟩)
 unfold wpAlone
 rw [ho]
 exact h1
theorem plan_step {o:Oper} {i:Nat} {p:Plan} {a:Act} {w:World} (ho:ops[i]? =some o) (hf:floatI ops n i=false)
 (h:∀K':Act→World→Prop,Shut (∀a w,(n≤i∨S w)→wpPlan P ops Q S n p a w→K' a w)→if Region.wanted o (yielded ops a.tmps)=true then Oper.wp P o a w K' Q else K' (a.put o.dst undef) w):wpPlan P ops Q S n (.go i p) a w:=by
 unfold wpPlan
 rw [ho]
 show if _ then _ else _
 rw [if_neg (by simp [hf])]
 exact alone_step ho h
theorem plan_skipc {o:Oper} {i:Nat} {p:Plan} {a:Act} {w:World} (ho:ops[i]? =some o) (hf:floatI ops n i=false) (hw:Region.wanted o (yielded ops a.tmps)=false) (hS:S w) (h:wpPlan P ops Q S n p (a.put o.dst undef) w):wpPlan P ops Q S n (.go i p) a w:=by
 refine plan_step ho hf fun K hK=>?_
 rw [if_neg (by rw [hw];simp)]
 exact hK _ _ (.inr hS) h
theorem plan_fork {oi oj:Oper} {i j:Nat} {p q:Plan} {a:Act} {w:World} (hi:ops[i]? =some oi) (hj:ops[j]? =some oj)
 (h1:∀K':Act→World→Prop,Shut (∀a w,(n≤i∨S w)→wpPlan P ops Q S n p a w→K' a w)→if Region.wanted oi (yielded ops a.tmps)=true then Oper.wp P oi a w K' Q else K' (a.put oi.dst undef) w)
 (h2:∀K':Act→World→Prop,Shut (∀a w,(n≤j∨S w)→wpPlan P ops Q S n q a w→K' a w)→if Region.wanted oj (yielded ops a.tmps)=true then Oper.wp P oj a w K' Q else K' (a.put oj.dst undef) w):wpPlan P ops Q S n (.fork i p j q) a w:=⟨alone_step hi h1,alone_step hj h2⟩
theorem wpAlone.mono {i:Nat} {K K':Act→World→Prop} {a:Act} {w:World} (h:wpAlone P ops Q S n i K a w) (hk:∀a w,K a w→K' a w):wpAlone P ops Q S n i K' a w:=by
 unfold wpAlone at *
 split
 ·trivial
 ·rename_i o ho
  rw [ho] at h
  simp only at h
  split
  ·rename_i hw;rw [if_pos hw] at h;exact Oper.wp_mono (fun a w h'=>⟨h'.1,hk a w h'.2⟩) h
  ·rename_i hw;rw [if_neg hw] at h;exact ⟨h.1,hk _ _ h.2⟩
theorem plan_bag {l:List Nat} {p:Plan} {a:Act} {w:World} (J:(Nat→Prop)→Act→World→Prop) (hl:l.Nodup) (h0:J (fun _=>False) a w) (hs:∀D a w i oi,i∈l→¬D i→ops[i]? =some oi→(∀e∈oi.after,Region.binds .any e=true→e.on∈l→D e.on)→J D a w→wpAlone P ops Q S n i (J fun k=>D k∨k=i) a w) (h1:∀D a w,(∀k∈l,D k)→J D a w→wpPlan P ops Q S n p a w):wpPlan P ops Q S n (.bag l p) a w:=by
 have key:∀(m:Nat) (r:List Nat) (D:Nat→Prop) (a:Act) (w:World),r.length=m→r.Nodup→(∀k∈r,¬D k)→(∀k∈r,k∈l)→(∀k∈l,k∈r∨D k)→J D a w→wpBag P ops Q .any S n (wpPlan P ops Q S n p) m r a w:=by
  intro m
  induction m with
  | zero=>
   intro r D a w hr _ _ _ hd hj
   have hr:=List.eq_nil_of_length_eq_zero hr
   subst hr
   exact h1 D a w (fun k hk=>(hd k hk).resolve_left (by simp)) hj
  | succ m ih=>
   intro r D a w hr hno hnd hsub hd hj i oi hi hoi hdep
   refine (hs D a w i oi (hsub i hi) (hnd i hi) hoi (fun e he hb hl=>(hd e.on hl).resolve_left (hdep e he hb)) hj).mono fun a' w' hj'=>ih _ _ a' w' (by rw [List.length_erase_of_mem hi];omega) (hno.erase i) (fun k hk=>by
    rintro (h | h)
    ·exact hnd k (List.mem_of_mem_erase hk) h
    ·exact (hno.mem_erase_iff.1 hk).1 h) (fun k hk=>hsub k (List.mem_of_mem_erase hk)) (fun k hk=>?_) hj'
   rcases hd k hk with h | h
   ·by_cases e:k=i
    ·exact .inr (.inr e)
    ·exact .inl ((List.mem_erase_of_ne e).2 h)
   ·exact .inr (.inl h)
 exact key _ l _ a w rfl hl (fun _ _ h=>h) (fun _ h=>h) (fun _ h=> .inl h) h0
def put5 (a:Act) (d1:Nat) (s1:Value) (d2:Nat) (s2:Value) (d3:Nat) (s3:Value) (d4:Nat) (s4:Value) (d5:Nat) (s5:Value):Act:=((((a.put (some d1) s1).put (some d2) s2).put (some d3) s3).put (some d4) s4).put (some d5) s5
theorem plan_bag5 {l:List Nat} {p:Plan} {a:Act} {w:World} (d1 d2 d3 d4 d5:Nat) (s1 s2 s3 s4 s5:Value) (R:(Nat→Prop)→Value→Value→Value→Value→Value→World→Prop) (ha:a=put5 a d1 s1 d2 s2 d3 s3 d4 s4 d5 s5) (hl:l.Nodup) (h0:R (fun _=>False) s1 s2 s3 s4 s5 w)
 (hs:∀D s1 s2 s3 s4 s5 w i oi,i∈l→¬D i→ops[i]? =some oi→(∀e∈oi.after,Region.binds .any e=true→e.on∈l→D e.on)→R D s1 s2 s3 s4 s5 w→wpAlone P ops Q S n i (fun a' w'=>∃s1 s2 s3 s4 s5,a'=put5 a d1 s1 d2 s2 d3 s3 d4 s4 d5 s5∧R (fun k=>D k∨k=i) s1 s2 s3 s4 s5 w') (put5 a d1 s1 d2 s2 d3 s3 d4 s4 d5 s5) w)
 (h1:∀D s1 s2 s3 s4 s5 w,(∀k∈l,D k)→R D s1 s2 s3 s4 s5 w→wpPlan P ops Q S n p (put5 a d1 s1 d2 s2 d3 s3 d4 s4 d5 s5) w):wpPlan P ops Q S n (.bag l p) a w:=by
 refine plan_bag (fun D a' w=>∃s1 s2 s3 s4 s5,a'=put5 a d1 s1 d2 s2 d3 s3 d4 s4 d5 s5∧R D s1 s2 s3 s4 s5 w) hl ⟨s1,s2,s3,s4,s5,ha,h0⟩ ?_ ?_
 ·rintro D a' w i oi hi hn ho hd ⟨t1,t2,t3,t4,t5,rfl,hr⟩
  exact hs D t1 t2 t3 t4 t5 w i oi hi hn ho hd hr
 ·rintro D a' w hd ⟨t1,t2,t3,t4,t5,rfl,hr⟩
  exact h1 D t1 t2 t3 t4 t5 w hd hr
end
end
namespace Pl
theorem ut_step {n k:Nat} {U:Mx} {d:Nat→Rat} (hk:k < n):utN U d n k=(d k - sumN (fun s=>U k s * utN U d n s) k) / U k k:=by
 rw [utN_at hk,utN_succ,if_pos rfl,sumN_congr (f:=fun s=>U k s * utN U d k s) (g:=fun s=>U k s * utN U d n s) fun s hs=>by rw [utN_at (show s < k by omega),utN_at (show s < n by omega)]]
theorem ut_remQ {n k:Nat} {U:Mx} {w:Nat→Rat} {q:Rat} (hk:k < n):remQ (spV (U k) n) (qAt (firstL n k w)) (k:Int) q (spV (U k) n).length=q - sumN (fun s=>U k s * w s) k:=by
 rw [remQ_spV,sumN_ext (n:=k) (m:=n) (by omega) fun i h1 h2=>by
  by_cases e:i=k
  ·rw [if_pos e]
  ·rw [if_neg e,firstL_q h2,if_neg (by omega)];grind]
 congr 1
 exact sumN_congr fun s hs=>by rw [if_neg (by omega),firstL_q (by omega),if_pos hs]
theorem lt_remQ {n k j:Nat} {L:Mx} {w:Nat→Rat} (hk:k+1+j=n):remQ (spV (L k) n) (qAt (canL n (ltN n L w j))) (k:Int) (ltN n L w j k) (spV (L k) n).length=ltN n L w (j+1) k:=by
 rw [remQ_spV,ltN_succ,if_pos (show k=n - 1 - j by omega)]
 congr 1
 exact sumN_congr fun s hs=>by
  by_cases e:s=k
  ·rw [if_pos e,if_pos e]
  ·rw [if_neg e,if_neg e,canL_qAt hs]
theorem lt_set {n k j:Nat} {L:Mx} {w:Nat→Rat} (hk:k+1+j=n):(canL n (ltN n L w j)).set k (canF (ltN n L w (j+1) k))=canL n (ltN n L w (j+1)):=by
 rw [canL_set (by omega)]
 exact canL_congr fun i hi=>by
  by_cases e:i=k
  ·rw [if_pos e,e]
  ·rw [if_neg e,ltN_succ,if_neg (by omega)]
theorem firstL_rs {n k K:Nat} {w:Nat→Rat} (h:∀i,i < n→Sz K (w i)):RsL K (firstL n k w):=fun i f hf=>by
 have hi:i < n:=by have:=(List.getElem?_eq_some_iff.1 hf).1;rw [firstL_length] at this;exact this
 have hp:=Sz_pos (h i hi)
 unfold firstL at hf
 rw [rfL_get hi] at hf
 injection hf with hf
 subst hf
 split
 ·exact (h i hi).rs
 ·exact (zeroF_rs 1).mono hp
end Pl
def RestAt (V:World) (q:Rat) (s8:Value) (wx:World):Prop:=
 ∃(g:Nat) (f:RF) (A:Option Addr) (n c:Nat) (A':Option Addr) (n' c':Nat),s8= .pointer (some ⟨g,0,none⟩)∧V.heap.size≤g∧Bk wx g 48 [.bool f.num.neg,.slice A n c,.bool f.den.neg,.slice A' n' c']∧FracM wx (.agg #[.bool f.num.neg,.slice A n c,.bool f.den.neg,.slice A' n' c']) f∧f.q=q∧f.Sm∧Below V.heap.size V wx
theorem RestAt.mk {V w:World} {g:Nat} {f:RF} {q:Rat} {x y z u:Value} {A A':Option Addr} {n c n' c':Nat} (hB:Bk w g 48 [x,y,z,u]) (hm:FracM w (.agg #[.bool f.num.neg,.slice A n c,.bool f.den.neg,.slice A' n' c']) f) (hq:f.q=q) (hs:f.Sm) (hb:Below V.heap.size V w) (hg:V.heap.size≤g):
 RestAt V q (.pointer (some ⟨g,0,none⟩)) ((((w.setCell ⟨g,0,none⟩ (.bool f.num.neg)).setCell ⟨g,1,none⟩ (.slice A n c)).setCell ⟨g,2,none⟩ (.bool f.den.neg)).setCell ⟨g,3,none⟩ (.slice A' n' c')):=
 ⟨g,f,A,n,c,A',n',c',rfl,hg,hB.set4 _ _ _ _,hm.keep (hB.keep4 (by decide) _ _ _ _),hq,hs,below_set4 hb hg _ _ _ _⟩
theorem facSolveT_own (gp off:Nat) (vc:Value) (n E:Nat) (A:Mx) (R C:Nat→Nat) (L U:Mx) (d:Nat→Rat) (w:World) (hF:FacM w gp off n R C L U) (h2:FrsM w vc (canL n d)) (S:FacS n E A R C L U) (hb:∀i,i < n→Sz (30 * E) (d i)) (hX:∀i,i < n→Sz E (solT n R C L U d i)):
 Calls Tryz.prog 138 #[.pointer (some ⟨gp,off,none⟩),vc] w fun o w'=>∃v',o= .returned v'∧FrsO w.heap.size w' v' (canL n (solT n R C L U d))∧Below w.heap.size w w':=by
 obtain ⟨A0,c0,A1,c1,A2,c2,A3,c3,⟨k0,k1,k2,k3⟩,i0,i1,i2,i3⟩:=hF
 obtain ⟨Ac,cc,rfl,hcc1,hcc2⟩:=h2.shape
 rw [canL_length] at h2 hcc1 ⊢
 obtain ⟨hA01,hA02⟩:=i0.cap
 obtain ⟨hA11,hA12⟩:=i1.cap
 obtain ⟨hA21,hA22⟩:=i2.cap
 obtain ⟨hA31,hA32⟩:=i3.cap
 have K0:=Lib.hid k0
 have K1:=Lib.hid k1
 have K2:=Lib.hid k2
 have K3:=Lib.hid k3
 have I0:=Lib.hid i0
 have I1:=Lib.hid i1
 have I2:=Lib.hid i2
 have I3:=Lib.hid i3
 have H2:=Lib.hid h2
 have HS:=Lib.hid S
 have hn7:=S.n7
 have he1:=S.e1
 have he2:=S.e2
 obtain ⟨WW,hWW⟩:∃WW,WW=utN U (fun k=>d (C k)) n:=⟨_,rfl⟩
 obtain ⟨LT,hLT⟩:∃LT,LT=ltN n L WW:=⟨_,rfl⟩
 have HL0:Hid (LT 0=WW):=Lib.hid (by rw [hLT];rfl)
 have HWS:Hid (∀k,k < n→WW k=(d (C k) - sumN (fun s=>U k s * WW s) k) / U k k):=Lib.hid fun k hk=>by rw [hWW];exact ut_step hk
 have HWB:Hid (∀i,i < n→Sz (29 * E) (WW i)):=Lib.hid fun i hi=>by rw [hWW];exact S.wB hX i hi
 have HLB:Hid (∀j i,j≤n→i < n→Sz (29 * E) (LT j i)):=Lib.hid fun j i hj hi=>by rw [hLT,hWW];exact S.tB hX j i hj hi
 have HLS:Hid (∀j k,k+1+j=n→(canL n (LT j)).set k (canF (LT (j+1) k))=canL n (LT (j+1))):=Lib.hid fun j k hk=>by rw [hLT];exact lt_set hk
 have HLR:Hid (∀j k,k+1+j=n→remQ (spV (L k) n) (qAt (canL n (LT j))) (k:Int) (LT j k) (spV (L k) n).length=LT (j+1) k):=Lib.hid fun j k hk=>by rw [hLT];exact lt_remQ hk
 have HLX:Hid (∀j k,k+1+j=n→LT (j+1) k=LT n k):=Lib.hid fun j k hk=>by rw [hLT];exact (ltN_at (show k < n by omega) (by omega) (by omega)).trans (ltN_at (show k < n by omega) (by omega) (Nat.le_refl n)).symm
 have HXX:Hid (canL n (solT n R C L U d)=lastL n n R (LT n)):=Lib.hid (by rw [lastL_all S.fac.ri,hLT,hWW];rfl)
 rw [HXX.out]
 have HDB:=Lib.hid hb
 have HLR2:Hid (∀t,t < n→∀(k:Nat) (e:En),(spV (L t) n)[k]? =some e→e.f.Rs (29 * E)):=Lib.hid fun t ht=>spV_rs fun i hi=>(S.lB t i ht hi).mono (by omega)
 have HUB:Hid (∀t,t < n→∀(k:Nat) (e:En),(spV (U t) n)[k]? =some e→e.f.Rs (29 * E)):=Lib.hid fun t ht=>spV_rs fun i hi=>(S.uB t i ht hi).mono (by omega)
 have HUD:Hid (∀k,k < n→Sz (2 * E) (U k k)∧U k k≠0∧(spV (U k) n)[(spV (U k) n).length - 1]? =some ⟨(k:Int),canF (U k k)⟩):=Lib.hid fun k hk=>⟨S.uB k k hk hk,S.fac.u1 k hk,spV_last hk (S.fac.u1 k hk) fun s h1 h2=>S.fac.u0 k s hk h2 h1⟩
 have HLEN:Hid (∀(M:Mx) (k J:Nat),J≤30 * E→J+(spV (M k) n).length * (2 * (29 * E)+1)≤34359738368):=Lib.hid fun M k J hJ=>by
  have h1:=Nat.mul_le_mul_right (2 * (29 * E)+1) (Nat.le_trans (spV_length (f:=M k) n) hn7)
  omega
 have hmk:=make_frac n (by omega)
 have hO0:=FrsO.zeros w n (by unfold maxLen;omega)
 have hb0:=below_new w (.cells (zfc n) 48)
 rw [← firstL_zero (w:=WW)] at hO0
 have y0':=k0
 clear i0 i1 i2 i3 h2 S hWW hLT hb hX HXX k0 k1 k2 k3
 go_enter Tryz.func138,Tryz.ntmps138
 go_wp2
 clear y0'
 generalize w.alloc (.cells (zfc n) 48)=W at *
 go_loopw [19] (fun i wr=>∃k:Nat,k≤n∧i= .int .i64 k∧FrsO w.heap.size wr (.slice (some ⟨w.heap.size,0,none⟩) n n) (firstL n k WW)∧Below w.heap.size w wr) (fun i _=>n - (intOf i).toNat)
 case atStart=>exact ⟨0,by omega,rfl,hO0,hb0⟩
 case round=>
  clear hO0 hb0
  obtain ⟨k,hk,rfl,hO,hbe⟩:=hrel
  rcases Nat.lt_or_ge k n with hkl | hkl
  ·obtain ⟨b1,o1,rfl,x1⟩:=I1.out.nat hbe hkl
   have hck:C k < n:=HS.out.fac.ci.1 k hkl
   obtain ⟨bc,oc,A4,n4,c4,A5,n5,c5,rfl,_,⟨u0,u1,u2,u3⟩,hmd⟩:=H2.out.elem hbe (canL_get hck)
   obtain ⟨b3,o3,A7,c7,rfl,x3,hUk⟩:=I3.out.vc hbe hkl
   have y1:=cell_keep hbe K1.out
   have y3:=cell_keep hbe K3.out
   obtain ⟨szu,hu0',hlast⟩:=HUD.out k hkl
   have HLAST:=Lib.hid hlast
   have HIN:Hid (inR (firstL n k WW).length (spV (U k) n)):=Lib.hid (by rw [firstL_length];exact spV_inR (U k) n)
   have HRD:Hid ((canF (d (C k))).Rs (30 * E)):=Lib.hid (HDB.out _ hck).rs
   have HRU:=Lib.hid (HUB.out k hkl)
   have HRW:Hid (RsL (29 * E) (firstL n k WW)):=Lib.hid (firstL_rs HWB.out)
   have HSZ:=Lib.hid (HLEN.out U k (30 * E) (Nat.le_refl _))
   have HREM:Hid (remQ (spV (U k) n) (qAt (firstL n k WW)) (k:Int) (d (C k)) (spV (U k) n).length=d (C k) - sumN (fun s=>U k s * WW s) k):=Lib.hid (ut_remQ hkl)
   have HWK:Hid ((d (C k) - sumN (fun s=>U k s * WW s) k) / U k k=WW k):=Lib.hid (HWS.out k hkl).symm
   have HNX:=Lib.hid (firstL_next (w:=WW) hkl)
   have hsu:(canF (U k k)).Sm:=szu.rs.sm (by omega)
   have hu0:(canF (U k k)).q≠0:=by rw [canF_q];exact hu0'
   have hget:(firstL n k WW)[k]? =some zeroF:=by unfold firstL;rw [rfL_get hkl,if_neg (by omega)]
   have hkI:(k:Int) < n:=by omega
   have hkL:k < (firstL n k WW).length:=by rw [firstL_length];exact hkl
   have hckI:(C k:Int) < n:=by omega
   generalize hdk:d (C k)=dk at *
   generalize U k k=uk at *
   generalize C k=ck at *
   generalize hrq:dk - sumN (fun s=>U k s * WW s) k=rq at *
   clear szu hu0' hlast hdk hrq
   go_upto_region 6 with (fail)
   go_cut [8] (fun s8 wx=>RestAt wr rq s8 wx)
   case first=>
    have C0:=stab u0
    have C1:=stab u1
    have C2:=stab u2
    have C3:=stab u3
    have D0:=stab x1
    have D1:=stab x3
    have D2:=stab y1
    have D3:=stab y3
    have hS0:=below_drew' wr
    clear u0 u1 u2 u3 x1 x3 y1 y3
    refine region_plan 21 (.go 0 (.go 1 (.go 2 (.go 3 (.go 4 (.go 5 (.go 6 (.go 7 (.go 8 (.go 9 (.go 10 (.go 11 (.go 12 (.go 13 (.go 14 (.go 15 (.go 16 (.go 17 (.go 18 (.fork 19 (.go 20 (.go 21 .done)) 20 (.go 19 (.go 21 .done)))))))))))))))))))))) (by kernel_rfl) (by kernel_rfl) ?_
    repeat ((first | (refine plan_takeP (v:=?_) rfl rfl rfl ?_ ?_;rotate_left;(· (intro _ hSw;go_simp;(try go_bits);(try with_reducible rfl)))) | (refine plan_take (v:=?_) rfl rfl rfl ?_ ?_;rotate_left;(· (intro _ hSw;go_simp;(try go_bits);(try with_reducible rfl)))) | refine plan_skip rfl rfl rfl ?_ | refine plan_skipc rfl rfl rfl (by assumption) ?_);(try simp only [Act.put,pu1,pu2,pu3,pu4,pu5,pu6]))
    refine plan_fork rfl rfl (fun KR hKR=>?_) (fun KR hKR=>?_)
    ·go_simp
     with_reducible refine (remainder_any _ _ _ (canF dk) (spV (U k) n) (k:Int) (firstL n k WW) (29 * E) (30 * E) _ (hmd.below hS0) (hUk.below hS0) (hO.below hS0).frs HIN.out HRD.out (by omega) HRU.out HRW.out (by omega) HSZ.out (by omega)).mono ?_
     rw [canF_q]
     rintro _ wA ⟨vA,fA,rfl,eA,hqA,hcA,hsA,hbA⟩
     rw [HREM.out] at hqA
     have hSmA:fA.Sm:=hsA.sm HSZ.out
     have hSA:=below_then hS0 hbA hS0.size
     obtain ⟨A6,n6,c6,B6,m6,d6,rfl,_,_⟩:=id eA
     refine hKR.out _ _ (Or.inr hSA) ?_
     clear hKR KR hcA hsA
     (try simp only [Act.put,pu1,pu2,pu3,pu4,pu5,pu6])
     obtain ⟨WG,hWG,hGG,hbG⟩:=boxF1 wA (.bool false) (.slice none 0 0) (.bool false) (.slice none 0 0)
     refine plan_step rfl rfl (fun KR hKR=>?_)
     go_simp
     have hge:=hSA.size
     have hSG:=below_then hSA hbG hSA.size
     refine hKR.out _ _ (Or.inr hSG) ?_
     clear hKR KR hWG
     (try simp only [Act.put,pu1,pu2,pu3,pu4,pu5,pu6])
     have eAG:=eA.below hbG
     obtain ⟨t0,t1,t2,t3⟩:=hGG.four
     obtain ⟨f0,f1,f2,f3⟩:=hGG.fourF
     refine plan_step rfl rfl (fun KR hKR=>?_)
     go_simp
     refine hKR.out _ _ (Or.inl (by decide)) ?_
     clear hKR KR
     (try simp only [Act.put,pu1,pu2,pu3,pu4,pu5,pu6])
     refine plan_done ?_
     go_wp2_with fail
     go_meet
     exact RestAt.mk hGG eAG hqA hSmA hSG hge
    ·obtain ⟨WG,hWG,hGG,hbG⟩:=boxF1 wr.drew (.bool false) (.slice none 0 0) (.bool false) (.slice none 0 0)
     go_simp
     have hge:=hS0.size
     have hSG:=below_then hS0 hbG hS0.size
     refine hKR.out _ _ (Or.inr hSG) ?_
     clear hKR KR hWG
     (try simp only [Act.put,pu1,pu2,pu3,pu4,pu5,pu6])
     change Bk WG wr.heap.size 48 _ at hGG
     refine plan_step rfl rfl (fun KR hKR=>?_)
     go_simp
     with_reducible refine (remainder_any _ _ _ (canF dk) (spV (U k) n) (k:Int) (firstL n k WW) (29 * E) (30 * E) _ (hmd.below hSG) (hUk.below hSG) (hO.below hSG).frs HIN.out HRD.out (by omega) HRU.out HRW.out (by omega) HSZ.out (by omega)).mono ?_
     rw [canF_q]
     rintro _ wA ⟨vA,fA,rfl,eA,hqA,hcA,hsA,hbA⟩
     rw [HREM.out] at hqA
     have hSmA:fA.Sm:=hsA.sm HSZ.out
     have hSA:=below_then hSG hbA hSG.size
     obtain ⟨A6,n6,c6,B6,m6,d6,rfl,_,_⟩:=id eA
     refine hKR.out _ _ (Or.inr hSA) ?_
     clear hKR KR hcA hsA
     (try simp only [Act.put,pu1,pu2,pu3,pu4,pu5,pu6])
     have hG:=hGG.later hbA
     obtain ⟨t0,t1,t2,t3⟩:=hG.four
     obtain ⟨f0,f1,f2,f3⟩:=hG.fourF
     refine plan_step rfl rfl (fun KR hKR=>?_)
     go_simp
     refine hKR.out _ _ (Or.inl (by decide)) ?_
     clear hKR KR
     (try simp only [Act.put,pu1,pu2,pu3,pu4,pu5,pu6])
     refine plan_done ?_
     go_wp2_with fail
     go_meet
     exact RestAt.mk hG eA hqA hSmA hSA hge
   case rest=>
    obtain ⟨gr,fr,Ar,nr,cr,Ar',nr',cr',rfl,hgr,hB,hmr,hfq,hsr,hbR⟩:=hcut
    obtain rfl:=hfq
    have hO6:=hO.below hbR
    have hbe6:=below_then hbe hbR hbe.size
    have hbe7:=hbe6
    clear hUk x1 x3 y1 y3 u0 u1 u2 u3 hmd hO hbe
    obtain ⟨b4,o4,A8,c8,hA,x3,hUk⟩:=I3.out.vc hbe6 hkl
    injection hA with hA
    injection hA with hA1 hA2
    subst hA1;subst hA2
    have y3:=cell_keep hbe6 K3.out
    obtain ⟨t0,t1,t2,t3⟩:=hB.four
    go_upto_region 7 with (fail)
    have C0:=stab t0
    have C1:=stab t1
    have C2:=stab t2
    have C3:=stab t3
    have D0:=stab x3
    have D1:=stab y3
    have hS0:=below_drew' wc
    clear t0 t1 t2 t3 x3 y3
    refine region_seq 16 [0,1,2,3,4,5,6,7,8,9,10,11,12,13,14,15,16] (by kernel_rfl) (by kernel_rfl) ?_
    repeat ((first | (refine seq_takeP (v:=?_) rfl rfl rfl ?_ ?_;rotate_left;(· (intro _ hSw;go_simp;(try go_bits);(try with_reducible rfl)))) | (refine seq_take (v:=?_) rfl rfl rfl ?_ ?_;rotate_left;(· (intro _ hSw;go_simp;(try go_bits);(try with_reducible rfl)))) | refine seq_skip rfl rfl rfl ?_);(try simp only [Act.put,pu1,pu2,pu3,pu4,pu5,pu6]))
    refine seq_step rfl rfl (fun KR hKR=>?_)
    go_simp
    with_reducible refine (diagonal_any _ _ ⟨(k:Int),canF uk⟩ _ (hUk.below hS0) HLAST.out).mono ?_
    rintro _ w6 ⟨v6,rfl,e6,hb6⟩
    have hS6:=below_then hS0 hb6 hS0.size
    refine hKR.out _ _ (Or.inr hS6) ?_
    clear hKR KR
    (try simp only [Act.put,pu1,pu2,pu3,pu4,pu5,pu6])
    repeat ((first | (refine seq_takeP (v:=?_) rfl rfl rfl ?_ ?_;rotate_left;(· (intro _ hSw;go_simp;(try go_bits);(try with_reducible rfl)))) | (refine seq_take (v:=?_) rfl rfl rfl ?_ ?_;rotate_left;(· (intro _ hSw;go_simp;(try go_bits);(try with_reducible rfl)))) | refine seq_skip rfl rfl rfl ?_);(try simp only [Act.put,pu1,pu2,pu3,pu4,pu5,pu6]))
    refine seq_step rfl rfl (fun KR hKR=>?_)
    go_simp
    with_reducible refine (divF_any _ _ fr (canF uk) _ (hmr.below hS6) e6 hsr hsu hu0).mono ?_
    rw [canF_q,HWK.out]
    rintro _ w7 ⟨v7,rfl,e7,hb7⟩
    have hS7:=below_then hS6 hb7 hS6.size
    obtain ⟨B9,l9,k9,B9',l9',k9',rfl,_,_⟩:=id e7
    have hO7:=hO6.below hS7
    obtain ⟨_,_,_,_,⟨c0,c1,c2,c3⟩,⟨f0,f1,f2,f3⟩,_⟩:=hO7.at_ hget
    refine hKR.out _ _ (Or.inr hS7) ?_
    clear hKR KR
    (try simp only [Act.put,pu1,pu2,pu3,pu4,pu5,pu6])
    repeat ((first | (refine seq_takeP (v:=?_) rfl rfl rfl ?_ ?_;rotate_left;(· (intro _ hSw;go_simp;(try go_bits);(try with_reducible rfl)))) | (refine seq_take (v:=?_) rfl rfl rfl ?_ ?_;rotate_left;(· (intro _ hSw;go_simp;(try go_bits);(try with_reducible rfl)))) | refine seq_skip rfl rfl rfl ?_);(try simp only [Act.put,pu1,pu2,pu3,pu4,pu5,pu6]))
    refine seq_step rfl rfl (fun KR hKR=>?_)
    go_simp
    refine hKR.out _ _ (Or.inl (by decide)) ?_
    clear hKR KR
    (try simp only [Act.put,pu1,pu2,pu3,pu4,pu5,pu6])
    refine seq_done ?_
    clear C0 C1 C2 C3 D0 D1
    obtain ⟨hO8,hk8⟩:=hO7.set_ (k:=k) hkL e7
    rw [HNX.out] at hO8
    have hbe8:=below_set4' (below_then hbe7 hS7 hbe7.size) (Nat.le_refl _) (k * 4) (k * 4+1) (k * 4+2) (k * 4+3)
    go_wp2
    go_roundw
    case rel=>exact ⟨k+1,by omega,by go_num,hO8,hbe8 _ _ _ _⟩
    case measure=>simp [intOf];omega
  ·obtain rfl:n=k:=by omega
   rw [firstL_all,← HL0.out] at hO
   have hOx:=FrsO.zeros wr n (by unfold maxLen;omega)
   have hbx:=below_new wr (.cells (zfc n) 48)
   rw [← lastL_zero (X:=LT n) HS.out.fac.ri] at hOx
   have hO1:=hO.below hbx
   have hgx:0 < n→w.heap.size < wr.heap.size:=fun hp=>by
    obtain ⟨g,_,e,_,h,_⟩:=hO.shape (by rw [canL_length];exact hp)
    injection e with e
    injection e with e
    injection e with e
    omega
   have hbex:=below_then hbe hbx hbe.size
   have hws:=hbe.size
   clear hO hbe
   go_wp2
   generalize wr.heap.size=gx at *
   generalize wr.alloc (.cells (zfc n) 48)=W2 at *
   go_loopw [10] (fun i wx=>∃(j:Nat) (kz:Int),j≤n∧kz=(n:Int) - 1 - j∧i= .int .i64 kz∧FrsO w.heap.size wx (.slice (some ⟨w.heap.size,0,none⟩) n n) (canL n (LT j))∧FrsO gx wx (.slice (some ⟨gx,0,none⟩) n n) (lastL n j R (LT n))∧Below w.heap.size w wx) (fun i _=>(intOf i+1).toNat)
   case atStart=>exact ⟨0,(n:Int) - 1,by omega,by omega,rfl,hO1,hOx,hbex⟩
   case round=>
    clear hO1 hOx hbex hbx
    obtain ⟨j,kz,hj,hkz,rfl,hO,hx,hbe⟩:=hrel
    rcases Int.lt_or_le kz 0 with hneg | hpos
    ·obtain rfl:n=j:=by omega
     go_wp2
     go_ret
     exact ⟨_,rfl,hx.monoB hws,hbe⟩
    ·obtain ⟨k,rfl⟩:=Int.eq_ofNat_of_zero_le hpos
     have hkj:k+1+j=n:=by omega
     have hkl:k < n:=by omega
     have hne:=hgx (by omega)
     obtain ⟨b2,o2,A4,c4,rfl,x0,hLk⟩:=I2.out.vc hbe hkl
     have y2:=cell_keep hbe K2.out
     have HIN:Hid (inR (canL n (LT j)).length (spV (L k) n)):=Lib.hid (by rw [canL_length];exact spV_inR (L k) n)
     have HRD:Hid ((canF (LT j k)).Rs (29 * E)):=Lib.hid (HLB.out j k hj hkl).rs
     have HRL:=Lib.hid (HLR2.out k hkl)
     have HRW:Hid (RsL (29 * E) (canL n (LT j))):=Lib.hid (canL_rs fun i hi=>HLB.out j i hj hi)
     have HSZ:=Lib.hid (HLEN.out L k (29 * E) (by omega))
     have HREM:=Lib.hid (HLR.out j k hkj)
     have HST:=Lib.hid (HLS.out j k hkj)
     have hgk:(canL n (LT j))[k]? =some (canF (LT j k)):=canL_get hkl
     have HNX:Hid ((lastL n j R (LT n)).set (R k) (canF (LT (j+1) k))=lastL n (j+1) R (LT n)):=Lib.hid (by rw [HLX.out j k hkj];exact lastL_next HS.out.fac.ri hkj)
     have hck:R k < n:=HS.out.fac.ri.1 k hkl
     have hkI:(k:Int) < n:=by omega
     have HKZ:=Lib.hid hkz
     have HKJ:=Lib.hid hkj
     clear hkz hkj
     obtain ⟨bz,oz,A5,n5,c5,A6,n6,c6,hA,_,⟨t0,t1,t2,t3⟩,hmz⟩:=hO.frs.elem (Below.refl _ _) hgk
     injection hA with hA
     injection hA with hA1 hA2
     subst hA1;subst hA2
     simp only [Nat.zero_add] at t0 t1 t2 t3
     generalize LT j k=zk at *
     generalize hz1:LT (j+1) k=zk1 at *
     have HZ1:=Lib.hid hz1
     clear hpos hz1
     go_upto_region 13 with (fail)
     have C0:=stab t0
     have C1:=stab t1
     have C2:=stab t2
     have C3:=stab t3
     have D0:=stab x0
     have D1:=stab y2
     have hS0:=below_drew' wr
     clear t0 t1 t2 t3 x0 y2
     refine region_seq 17 [0,1,2,3,4,5,6,7,8,9,10,11,12,13,14,15,16,17] (by kernel_rfl) (by kernel_rfl) ?_
     repeat ((first | (refine seq_takeP (v:=?_) rfl rfl rfl ?_ ?_;rotate_left;(· (intro _ hSw;go_simp;(try go_bits);(try with_reducible rfl)))) | (refine seq_take (v:=?_) rfl rfl rfl ?_ ?_;rotate_left;(· (intro _ hSw;go_simp;(try go_bits);(try with_reducible rfl)))) | refine seq_skip rfl rfl rfl ?_);(try simp only [Act.put,pu1,pu2,pu3,pu4,pu5,pu6]))
     refine seq_step rfl rfl (fun KR hKR=>?_)
     go_simp
     with_reducible refine (remainder_any _ _ _ (canF zk) (spV (L k) n) (k:Int) (canL n (LT j)) (29 * E) (29 * E) _ (hmz.below hS0) (hLk.below hS0) (hO.below hS0).frs HIN.out HRD.out (by omega) HRL.out HRW.out (by omega) HSZ.out (by omega)).mono ?_
     rw [canF_q]
     rintro _ w7 ⟨v7,fA,rfl,e7,hqA,hcA,hsA,hb7⟩
     have hS7:=below_then hS0 hb7 hS0.size
     rw [HREM.out] at hqA
     have hfA:fA=canF zk1:=by rcases hcA with h | h;rotate_left;exact h.trans (by rw [hqA]);rw [h,canF_q] at hqA;rw [h,hqA]
     subst hfA
     obtain ⟨B9,l9,k9,B9',l9',k9',rfl,_,_⟩:=id e7
     have hO7:=hO.below hS7
     obtain ⟨_,_,_,_,⟨c0,c1,c2,c3⟩,⟨f0,f1,f2,f3⟩,_⟩:=hO7.at_ hgk
     clear hqA hcA hsA
     refine hKR.out _ _ (Or.inr hS7) ?_
     clear hKR KR
     (try simp only [Act.put,pu1,pu2,pu3,pu4,pu5,pu6])
     repeat ((first | (refine seq_takeP (v:=?_) rfl rfl rfl ?_ ?_;rotate_left;(· (intro _ hSw;go_simp;(try go_bits);(try with_reducible rfl)))) | (refine seq_take (v:=?_) rfl rfl rfl ?_ ?_;rotate_left;(· (intro _ hSw;go_simp;(try go_bits);(try with_reducible rfl)))) | refine seq_skip rfl rfl rfl ?_);(try simp only [Act.put,pu1,pu2,pu3,pu4,pu5,pu6]))
     refine seq_step rfl rfl (fun KR hKR=>?_)
     go_simp
     refine hKR.out _ _ (Or.inl (by decide)) ?_
     clear hKR KR
     (try simp only [Act.put,pu1,pu2,pu3,pu4,pu5,pu6])
     refine seq_done ?_
     clear C0 C1 C2 C3 D0 D1
     obtain ⟨hO8,hk8⟩:=hO7.set_ (k:=k) (by rw [canL_length];exact hkl) e7
     rw [HST.out] at hO8
     have hx8:=(hx.below hS7).others others_set4 (hk8.keep (by decide)) (fun b hb e=>by simp [Value.ownBlock] at hb;injection e with e;omega)
     have hbe8:=below_set4' (below_then hbe hS7 hbe.size) (Nat.le_refl _) (k * 4) (k * 4+1) (k * 4+2) (k * 4+3) (.bool (canF zk1).num.neg) (.slice B9 l9 k9) (.bool (canF zk1).den.neg) (.slice B9' l9' k9')
     have hgk1:(canL n (LT (j+1)))[k]? =some (canF zk1):=by rw [← HZ1.out];exact canL_get hkl
     clear hO hO7 hx hbe hS0 hS7 e7 hb7 c0 c1 c2 c3 f0 f1 f2 f3 hmz hk8 hLk hgk
     generalize ((((w7.setCell ⟨w.heap.size,k * 4,none⟩ (.bool (canF zk1).num.neg)).setCell ⟨w.heap.size,k * 4+1,none⟩ (.slice B9 l9 k9)).setCell ⟨w.heap.size,k * 4+2,none⟩ (.bool (canF zk1).den.neg)).setCell ⟨w.heap.size,k * 4+3,none⟩ (.slice B9' l9' k9'))=W8 at *
     obtain ⟨b1,o1,rfl,x1⟩:=I0.out.nat hbe8 hkl
     have y1:=cell_keep hbe8 K0.out
     obtain ⟨bz,oz,A8,n8,c8,A9,n9,c9,hA,_,⟨t0,t1,t2,t3⟩,hmz⟩:=hO8.frs.elem (Below.refl _ _) hgk1
     injection hA with hA
     injection hA with hA1 hA2
     subst hA1;subst hA2
     simp only [Nat.zero_add] at t0 t1 t2 t3
     obtain ⟨rf,hrf⟩:=get_some (fs:=lastL n j R (LT n)) (i:=R k) (by rw [lastL_length];exact hck)
     obtain ⟨hx10,hk10⟩:=hx8.set_ (k:=R k) (by rw [lastL_length];exact hck) hmz
     rw [HNX.out] at hx10
     have hO10:=hO8.others (g:=some gx) others_set4 (hk10.keep (by decide)) (fun b hb e=>by simp [Value.ownBlock] at hb;injection e with e;omega)
     have hbe11:=below_set4' hbe8 (show w.heap.size≤gx by omega) (R k * 4) (R k * 4+1) (R k * 4+2) (R k * 4+3)
     obtain ⟨_,_,_,_,⟨c0,c1,c2,c3⟩,⟨f0,f1,f2,f3⟩,_⟩:=hx8.at_ hrf
     generalize R k=ck at *
     have hckI:(ck:Int) < n:=by omega
     clear hrf hx8 hO8 hmz hk10
     go_upto_region 14 with (fail)
     have C0:=stab t0
     have C1:=stab t1
     have C2:=stab t2
     have C3:=stab t3
     have D0:=stab x1
     have D1:=stab y1
     have hS0:=below_drew' W8
     clear t0 t1 t2 t3 x1 y1
     refine region_seq 13 [0,1,2,3,4,5,6,7,8,9,10,11,12,13] (by kernel_rfl) (by kernel_rfl) ?_
     repeat ((first | (refine seq_takeP (v:=?_) rfl rfl rfl ?_ ?_;rotate_left;(· (intro _ hSw;go_simp;(try go_bits);(try with_reducible rfl)))) | (refine seq_take (v:=?_) rfl rfl rfl ?_ ?_;rotate_left;(· (intro _ hSw;go_simp;(try go_bits);(try with_reducible rfl)))) | refine seq_skip rfl rfl rfl ?_);(try simp only [Act.put,pu1,pu2,pu3,pu4,pu5,pu6]))
     refine seq_step rfl rfl (fun KR hKR=>?_)
     go_simp
     refine hKR.out _ _ (Or.inl (by decide)) ?_
     clear hKR KR
     (try simp only [Act.put,pu1,pu2,pu3,pu4,pu5,pu6])
     refine seq_done ?_
     clear C0 C1 C2 C3 D0 D1
     go_wp2
     go_roundw
     case rel=>exact ⟨j+1,(k:Int) - 1,by have:=HKJ.out;omega,by have:=HKJ.out;omega,rfl,hO10,hx10,(hbe11 _ _ _ _).drew⟩
     case measure=>simp [intOf] <;> omega
end Go.Proofs.YtncmobkhenfhpaaGreat
