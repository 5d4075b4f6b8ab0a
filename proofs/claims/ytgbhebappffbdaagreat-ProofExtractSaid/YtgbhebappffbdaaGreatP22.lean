/- Lemmas of the claim; no condition. -/
import Derived.Test.YtgbhebappffbdaaGreatP17
set_option linter.all false
set_option maxRecDepth 100000
set_option maxHeartbeats 40000000
namespace Go.Proofs.YtgbhebappffbdaaGreat
open Go.RowKit
open Pl
section
inductive Zbh where
 | done
 | go (i:Nat) (p:Zbh)
 | fork (i:Nat) (p:Zbh) (j:Nat) (q:Zbh)
 | bag (l:List Nat) (p:Zbh)
def Zbh.of:List Nat→Zbh→Zbh
 | [],p=>p
 | i::is,p=> .go i (Zbh.of is p)
def Zym (md:Region.Mode) (ops:Array Oper) (n:Nat) (K:Array Bool→Bool):Nat→List Nat→Array Bool→Bool
 | 0,_,listed=>K listed
 | m+1,l,listed=>l.all (fun k=>listed.getD k true==false) && (!(Region.ready md ops listed).isEmpty && (Region.ready md ops listed).all fun i=>(l.contains i && decide (i < n)) && Zym md ops n K m (l.erase i) (listed.setIfInBounds i true))
def VK (md:Region.Mode) (ops:Array Oper) (n:Nat):Bool→Zbh→Array Bool→Bool
 | _,.done,listed=>Region.ready md ops listed==[]
 | d,.go i p,listed=>Zyc md ops n listed i && (!(d && (Y7 ops n i && !Zdr ops i)) && VK md ops n (d || decide (n≤i)) p (listed.setIfInBounds i true))
 | d,.fork i p j q,listed=>(!Y7 ops n i && !Y7 ops n j) && (Region.ready md ops listed==[i,j] && (VK md ops n (d || decide (n≤i)) p (listed.setIfInBounds i true) && VK md ops n (d || decide (n≤j)) q (listed.setIfInBounds j true)))
 | d,.bag l p,listed=> !d && Zym md ops n (fun b=>VK md ops n false p b) l.length l listed
section
variable {P:Program} {ops:Array Oper} {Q:Exit→Act→World→Prop} {md:Region.Mode} {S:World→Prop} {n:Nat}
def YO (P:Program) (ops:Array Oper) (Q:Exit→Act→World→Prop) (S:World→Prop) (n i:Nat) (K:Act→World→Prop) (a:Act) (w:World):Prop:=match ops[i]? with
 | none=>True
 | some o=>if Region.wanted o (yielded ops a.tmps)=true then Oper.wp P o a w (fun a' w'=>(n≤i∨S w')∧K a' w') Q else (n≤i∨S w)∧K (a.put o.dst undef) w
def Zyn (P:Program) (ops:Array Oper) (Q:Exit→Act→World→Prop) (md:Region.Mode) (S:World→Prop) (n:Nat) (K:Act→World→Prop):Nat→List Nat→Act→World→Prop
 | 0,_,a,w=>K a w
 | m+1,l,a,w=>∀i oi,i∈l→ops[i]? =some oi→(∀e∈oi.after,Region.binds md e=true→e.on ∉ l)→YO P ops Q S n i (Zyn P ops Q md S n K m (l.erase i)) a w
def Ye (P:Program) (ops:Array Oper) (Q:Exit→Act→World→Prop) (S:World→Prop) (n:Nat):Zbh→Act→World→Prop
 | .done,a,w=>Q .normal a w
 | .go i p,a,w=>match ops[i]? with
  | none=>True
  | some o=>if Y7 ops n i=true then ∃v,(if Zdr ops i=true then YieldsIf P ops (fun _=>True) o v a else YieldsIf P ops S o v a)∧Ye P ops Q S n p (a.put o.dst v) w else YO P ops Q S n i (Ye P ops Q S n p) a w
 | .fork i p j q,a,w=>YO P ops Q S n i (Ye P ops Q S n p) a w∧YO P ops Q S n j (Ye P ops Q S n q) a w
 | .bag l p,a,w=>Zyn P ops Q .any S n (Ye P ops Q S n p) l.length l a w
theorem YO.wpOp {i:Nat} {o:Oper} {K:Act→World→Prop} {a:Act} {w:World} (ho:ops[i]? =some o) (h:YO P ops Q S n i K a w):Go.wpOp P ops Q i (fun a' w'=>(n≤i∨S w')∧K a' w') a w:=by
 unfold YO at h;rw [ho] at h;unfold Go.wpOp;rw [ho];show if Region.wanted o (yielded ops a.tmps)=true then _ else _
 have h:if Region.wanted o (yielded ops a.tmps)=true then Oper.wp P o a w (fun a' w'=>(n≤i∨S w')∧K a' w') Q else (n≤i∨S w)∧K (a.put o.dst undef) w:=h
 split
 ·rename_i hw;rw [if_pos hw] at h;exact .inl h
 ·rename_i hw;rw [if_neg hw] at h;exact h
def Zbh.len:Zbh→Nat
 | .done=>0
 | .go _ p=>p.len+1
 | .fork _ p _ _=>p.len+1
 | .bag l p=>p.len+l.length
def Zbh.even:Zbh→Bool
 | .done=>true
 | .go _ p=>p.even
 | .fork _ p _ q=>p.even && (q.even && (p.len==q.len))
 | .bag _ p=>p.even
def Yac (md:Region.Mode) (ops:Array Oper) (n:Nat) (p:Zbh):Bool:=Region.noSelect ops && (VK md ops n false p (Array.replicate ops.size false) && (p.even && decide (p.len=ops.size)))
theorem AnyG.of_plan (hQ:∀c a d v w,Q (.panic c) (a.put d v) w→Q (.panic c) a w) (hs:Region.noSelect ops=true):
 ∀(p:Zbh) (listed:Array Bool) (a:Act) (w:World) (d:Bool),p.even=true→VK .any ops n d p listed=true→(d=false→S w)→Ye P ops Q S n p a w→AnyG P .any ops Q S n p.len listed a w:=by
 intro p
 induction p with
 | done=>
  intro listed a w d _ f _ h;exact ⟨by simpa [VK] using f,h⟩
 | go i p ih=>
  intro listed a w d g f hS h;simp only [VK,Bool.and_eq_true] at f;obtain ⟨r,hd,f⟩:=f;unfold Ye at h;unfold Zyc at r;split at r
  ·rename_i hf
   simp only [Bool.and_eq_true] at r;obtain ⟨h1,h2,h3⟩:=r;have s:=hf;simp only [Y7,Bool.and_eq_true,decide_eq_true_eq] at s;obtain ⟨o,ho⟩:∃o,ops[i]? =some o:=by
    cases hc:ops[i]? with
    | none=>rw [hc] at s;simp at s
    | some o=>exact ⟨o,rfl⟩
   simp only [ho] at h;rw [if_pos hf] at h;obtain ⟨v,hy,hr⟩:=h;by_cases hp:Zdr ops i=true
   ·rw [if_pos hp] at hy;exact Zfw ho hs h1 h2 (fun c a w=>hQ c a o.dst v w) hy (ih _ _ w _ g f (fun hd'=>hS (by simp at hd';exact hd'.1)) hr)
   ·rw [if_neg hp] at hy;have A:d=false:=(by rw [hf] at hd;simpa [hp] using hd);have hw:=hS A;exact Zfx ho hs h1 h2 (by simpa [hp] using h3) (fun c a w=>hQ c a o.dst v w) hy hw (ih _ _ w _ g f (fun _=>hw) hr)
  ·rename_i hf
   have hr:Region.ready .any ops listed=[i]:=(by simpa using r);have hi:i∈Region.ready .any ops listed:=(by rw [hr];exact List.mem_singleton.2 rfl);obtain ⟨_,o,ho,_⟩:=mem_ready.1 hi;simp only [ho] at h;rw [if_neg hf] at h;refine ⟨fun h0=>(by rw [hr] at h0;cases h0),fun j hj=>?_⟩;rw [hr] at hj;obtain rfl:j=i:=by simpa using hj
   exact wpOp_mono (fun a' w' h'=>⟨h'.1.imp id (fun h _=>h),ih _ a' w' _ g f (fun hle=>h'.1.resolve_left (by simp at hle;omega)) h'.2⟩) (h.wpOp ho)
 | fork i p j q ihp ihq=>
  intro listed a w d g f hS h;simp only [VK,Bool.and_eq_true] at f;obtain ⟨_,hr,C,D⟩:=f;simp only [Zbh.even,Bool.and_eq_true,beq_iff_eq] at g;obtain ⟨E,F,u⟩:=g;have hr:Region.ready .any ops listed=[i,j]:=by simpa using hr
  obtain ⟨h1,h2⟩:=h;have hi:i∈Region.ready .any ops listed:=by rw [hr];simp
  have hj:j∈Region.ready .any ops listed:=by rw [hr];simp
  obtain ⟨_,oi,G,_⟩:=mem_ready.1 hi;obtain ⟨_,oj,H,_⟩:=mem_ready.1 hj;refine ⟨fun h0=>(by rw [hr] at h0;cases h0),fun k hk=>?_⟩;rw [hr] at hk;simp only [List.mem_cons,List.not_mem_nil,or_false] at hk;rcases hk with rfl | rfl
  ·exact wpOp_mono (fun a' w' h'=>⟨h'.1.imp id (fun h _=>h),ihp _ a' w' _ E C (fun hle=>h'.1.resolve_left (by simp at hle;omega)) h'.2⟩) (h1.wpOp G)
  ·exact wpOp_mono (fun a' w' h'=>⟨h'.1.imp id (fun h _=>h),by rw [u];exact ihq _ a' w' _ F D (fun hle=>h'.1.resolve_left (by simp at hle;omega)) h'.2⟩) (h2.wpOp H)
 | bag l p ih=>
  intro listed a w d g f hS h;simp only [VK,Bool.and_eq_true,Bool.not_eq_true'] at f;obtain ⟨hd,f⟩:=f;have B:∀(m:Nat) (l:List Nat) (listed:Array Bool) (a:Act) (w:World),Zym .any ops n (fun b=>VK .any ops n false p b) m l listed=true→S w→Zyn P ops Q .any S n (Ye P ops Q S n p) m l a w→AnyG P .any ops Q S n (p.len+m) listed a w:=by
   intro m
   induction m with
   | zero=>exact fun l listed a w hg hw h=>ih listed a w false g hg (fun _=>hw) h
   | succ m ihm=>
    intro l listed a w hg hw h;simp only [Zym,Bool.and_eq_true,Bool.not_eq_true',List.all_eq_true,decide_eq_true_eq,beq_iff_eq] at hg;obtain ⟨I,x,y⟩:=hg;refine ⟨fun h0=>(by rw [h0] at x;simp at x),fun j hj=>?_⟩;obtain ⟨_,o,ho,z⟩:=mem_ready.1 hj;obtain ⟨⟨t,K⟩,J⟩:=y j hj;have t:j∈l:=(by simpa using t);exact wpOp_mono (fun a' w' h'=>⟨h'.1.imp id (fun h _=>h),ihm _ _ a' w' J (h'.1.resolve_left (by omega)) h'.2⟩) ((h j o t ho fun e he hb hin=>by
     have h1:=z e he hb;have h2:=I e.on hin;rcases JX e.on listed.size with h' | h'
     ·simp [h'] at h1 h2;rw [h1] at h2;cases h2
     ·simp [Array.getElem?_eq_none h'] at h2).wpOp ho)
  exact B _ _ _ _ _ f (hS hd) h
theorem XF {id:Nat} {l:List Oper} {a:Act} {w:World} (n:Nat) (p:Zbh) (hm:P.follows .mixedOrders=true) (hok:Yac .any l.toArray n p=true)
 (h:Ye P l.toArray (NoPanic Q) (fun w'=>Below w.heap.size w w') n p a w.drew):(Code.region id l.toArray true).wp P Q a w:=by
 simp only [Yac,Bool.and_eq_true,decide_eq_true_eq] at hok;obtain ⟨hs,b,e,hl⟩:=hok;refine wp_region_noPanic (wp_region_any hm (AnyG.any _ _ _ _ (S:=fun w'=>Below w.heap.size w w') (n:=n) ?_));have:=AnyG.of_plan (P:=P) (Q:=NoPanic Q) (S:=fun w'=>Below w.heap.size w w') (fun c a d v w h=>h) hs p _ a w.drew false e b (fun _=>(JR _ _).drew) h
 rwa [hl] at this
theorem YM {a:Act} {w:World} (h:Q .normal a w):Ye P ops (NoPanic Q) S n .done a w:=h
theorem Yr {o:Oper} {i:Nat} {p:Zbh} {a:Act} {w:World} {v:Value} (ho:ops[i]? =some o) (hf:(Y7 ops n i && !Zdr ops i)=true) (hw:Region.wanted o (yielded ops a.tmps)=true) (hy:∀w',S w'→(execOp a.eval o).run P w'= .ok (.value v) w') (h:Ye P ops Q S n p (a.put o.dst v) w):Ye P ops Q S n (.go i p) a w:=by
 simp only [Bool.and_eq_true,Bool.not_eq_true'] at hf;unfold Ye;rw [ho];show if _ then _ else _
 rw [if_pos hf.1];exact ⟨v,by rw [if_neg (by simp [hf.2])];exact .inl ⟨hw,hy⟩,h⟩
theorem Z6 {o:Oper} {i:Nat} {p:Zbh} {a:Act} {w:World} {v:Value} (ho:ops[i]? =some o) (hf:(Y7 ops n i && Zdr ops i)=true) (hw:Region.wanted o (yielded ops a.tmps)=true) (hy:∀w',True→(execOp a.eval o).run P w'= .ok (.value v) w') (h:Ye P ops Q S n p (a.put o.dst v) w):Ye P ops Q S n (.go i p) a w:=by
 simp only [Bool.and_eq_true] at hf;unfold Ye;rw [ho];show if _ then _ else _
 rw [if_pos hf.1];exact ⟨v,by rw [if_pos hf.2];exact .inl ⟨hw,hy⟩,h⟩
theorem Yt {o:Oper} {i:Nat} {p:Zbh} {a:Act} {w:World} (ho:ops[i]? =some o) (hf:Y7 ops n i=true) (hw:Region.wanted o (yielded ops a.tmps)=false) (h:Ye P ops Q S n p (a.put o.dst undef) w):Ye P ops Q S n (.go i p) a w:=by
 unfold Ye;rw [ho];show if _ then _ else _
 rw [if_pos hf];exact ⟨undef,by split <;> exact .inr ⟨hw,rfl⟩,h⟩
theorem V3 {o:Oper} {i:Nat} {K:Act→World→Prop} {a:Act} {w:World} (ho:ops[i]? =some o)
 (h:∀K':Act→World→Prop,Shut (∀a w,(n≤i∨S w)→K a w→K' a w)→if Region.wanted o (yielded ops a.tmps)=true then Oper.wp P o a w K' Q else K' (a.put o.dst undef) w):YO P ops Q S n i K a w:=by
 have h1:=h (fun a' w'=>(n≤i∨S w')∧K a' w') (fun a w h1 h2=>⟨h1,h2⟩);unfold YO;rw [ho];exact h1
theorem ZA {o:Oper} {i:Nat} {p:Zbh} {a:Act} {w:World} (ho:ops[i]? =some o) (hf:Y7 ops n i=false)
 (h:∀K':Act→World→Prop,Shut (∀a w,(n≤i∨S w)→Ye P ops Q S n p a w→K' a w)→if Region.wanted o (yielded ops a.tmps)=true then Oper.wp P o a w K' Q else K' (a.put o.dst undef) w):Ye P ops Q S n (.go i p) a w:=by
 unfold Ye;rw [ho];show if _ then _ else _
 rw [if_neg (by simp [hf])];exact V3 ho h
theorem Z8 {o:Oper} {i:Nat} {p:Zbh} {a:Act} {w:World} (ho:ops[i]? =some o) (hf:Y7 ops n i=false) (hw:Region.wanted o (yielded ops a.tmps)=false) (hS:S w) (h:Ye P ops Q S n p (a.put o.dst undef) w):Ye P ops Q S n (.go i p) a w:=by
 refine ZA ho hf fun K hK=>?_
 rw [if_neg (by rw [hw];simp)];exact hK _ _ (.inr hS) h
theorem WT {oi oj:Oper} {i j:Nat} {p q:Zbh} {a:Act} {w:World} (hi:ops[i]? =some oi) (hj:ops[j]? =some oj)
 (h1:∀K':Act→World→Prop,Shut (∀a w,(n≤i∨S w)→Ye P ops Q S n p a w→K' a w)→if Region.wanted oi (yielded ops a.tmps)=true then Oper.wp P oi a w K' Q else K' (a.put oi.dst undef) w)
 (h2:∀K':Act→World→Prop,Shut (∀a w,(n≤j∨S w)→Ye P ops Q S n q a w→K' a w)→if Region.wanted oj (yielded ops a.tmps)=true then Oper.wp P oj a w K' Q else K' (a.put oj.dst undef) w):Ye P ops Q S n (.fork i p j q) a w:=⟨V3 hi h1,V3 hj h2⟩
theorem YO.mono {i:Nat} {K K':Act→World→Prop} {a:Act} {w:World} (h:YO P ops Q S n i K a w) (hk:∀a w,K a w→K' a w):YO P ops Q S n i K' a w:=by
 unfold YO at *;split
 ·trivial
 ·rename_i o ho
  rw [ho] at h;simp only at h;split
  ·rename_i hw;rw [if_pos hw] at h;exact Oper.wp_mono (fun a w h'=>⟨h'.1,hk a w h'.2⟩) h
  ·rename_i hw;rw [if_neg hw] at h;exact ⟨h.1,hk _ _ h.2⟩
theorem Zyo {l:List Nat} {p:Zbh} {a:Act} {w:World} (J:(Nat→Prop)→Act→World→Prop) (hl:l.Nodup) (h0:J (fun _=>False) a w) (hs:∀D a w i oi,i∈l→¬D i→ops[i]? =some oi→(∀e∈oi.after,Region.binds .any e=true→e.on∈l→D e.on)→J D a w→YO P ops Q S n i (J fun k=>D k∨k=i) a w) (h1:∀D a w,(∀k∈l,D k)→J D a w→Ye P ops Q S n p a w):Ye P ops Q S n (.bag l p) a w:=by
 have g:∀(m:Nat) (r:List Nat) (D:Nat→Prop) (a:Act) (w:World),r.length=m→r.Nodup→(∀k∈r,¬D k)→(∀k∈r,k∈l)→(∀k∈l,k∈r∨D k)→J D a w→Zyn P ops Q .any S n (Ye P ops Q S n p) m r a w:=by
  intro m
  induction m with
  | zero=>
   intro r D a w hr _ _ _ hd hj;have hr:=List.eq_nil_of_length_eq_zero hr;subst hr;exact h1 D a w (fun k hk=>(hd k hk).resolve_left (by simp)) hj
  | succ m ih=>
   intro r D a w hr c d b hd hj i oi hi j f;refine (hs D a w i oi (b i hi) (d i hi) j (fun e he hb hl=>(hd e.on hl).resolve_left (f e he hb)) hj).mono fun a' w' hj'=>ih _ _ a' w' (by rw [List.length_erase_of_mem hi];omega) (c.erase i) (fun k hk=>by
    rintro (h | h)
    ·exact d k (List.mem_of_mem_erase hk) h
    ·exact (c.mem_erase_iff.1 hk).1 h) (fun k hk=>b k (List.mem_of_mem_erase hk)) (fun k hk=>?_) hj'
   rcases hd k hk with h | h
   ·by_cases e:k=i
    ·exact .inr (.inr e)
    ·exact .inl ((List.mem_erase_of_ne e).2 h)
   ·exact .inr (.inl h)
 exact g _ l _ a w rfl hl (fun _ _ h=>h) (fun _ h=>h) (fun _ h=> .inl h) h0
def Zet (a:Act) (d1:Nat) (s1:Value) (d2:Nat) (s2:Value) (d3:Nat) (s3:Value) (d4:Nat) (s4:Value) (d5:Nat) (s5:Value):Act:=((((a.put (some d1) s1).put (some d2) s2).put (some d3) s3).put (some d4) s4).put (some d5) s5
theorem Zup {l:List Nat} {p:Zbh} {a:Act} {w:World} (d1 d2 d3 d4 d5:Nat) (s1 s2 s3 s4 s5:Value) (R:(Nat→Prop)→Value→Value→Value→Value→Value→World→Prop) (ha:a=Zet a d1 s1 d2 s2 d3 s3 d4 s4 d5 s5) (hl:l.Nodup) (h0:R (fun _=>False) s1 s2 s3 s4 s5 w)
 (hs:∀D s1 s2 s3 s4 s5 w i oi,i∈l→¬D i→ops[i]? =some oi→(∀e∈oi.after,Region.binds .any e=true→e.on∈l→D e.on)→R D s1 s2 s3 s4 s5 w→YO P ops Q S n i (fun a' w'=>∃s1 s2 s3 s4 s5,a'=Zet a d1 s1 d2 s2 d3 s3 d4 s4 d5 s5∧R (fun k=>D k∨k=i) s1 s2 s3 s4 s5 w') (Zet a d1 s1 d2 s2 d3 s3 d4 s4 d5 s5) w)
 (h1:∀D s1 s2 s3 s4 s5 w,(∀k∈l,D k)→R D s1 s2 s3 s4 s5 w→Ye P ops Q S n p (Zet a d1 s1 d2 s2 d3 s3 d4 s4 d5 s5) w):Ye P ops Q S n (.bag l p) a w:=by
 refine Zyo (fun D a' w=>∃s1 s2 s3 s4 s5,a'=Zet a d1 s1 d2 s2 d3 s3 d4 s4 d5 s5∧R D s1 s2 s3 s4 s5 w) hl ⟨s1,s2,s3,s4,s5,ha,h0⟩ ?_ ?_
 ·rintro D a' w i oi hi hn ho hd ⟨t1,t2,t3,t4,t5,rfl,hr⟩;exact hs D t1 t2 t3 t4 t5 w i oi hi hn ho hd hr
 ·rintro D a' w hd ⟨t1,t2,t3,t4,t5,rfl,hr⟩;exact h1 D t1 t2 t3 t4 t5 w hd hr
end
end
section
section
variable {P:Program} {ops:Array Oper} {Q:Exit→Act→World→Prop} {S:World→Prop} {n:Nat}
def Ygl (ops:Array Oper) (i k:Nat):Bool:=match ops[i]? with
 | some o=>o.after.any fun e=>Region.binds .any e && e.on==k
 | none=>false
def XW (P:Program) (ops:Array Oper) (Q:Exit→Act→World→Prop) (S:World→Prop) (n:Nat) (l:List Nat) (a:Act) (d1 d2 d3 d4 d5:Nat) (R:(Nat→Prop)→Value→Value→Value→Value→Value→World→Prop) (i:Nat):Prop:=
 ∀D s1 s2 s3 s4 s5 w,¬D i→(∀k∈l,Ygl ops i k=true→D k)→R D s1 s2 s3 s4 s5 w→YO P ops Q S n i (fun a' w'=>∃s1 s2 s3 s4 s5,a'=Zet a d1 s1 d2 s2 d3 s3 d4 s4 d5 s5∧R (fun k=>D k∨k=i) s1 s2 s3 s4 s5 w') (Zet a d1 s1 d2 s2 d3 s3 d4 s4 d5 s5) w
theorem Zkm {l:List Nat} {p:Zbh} {a:Act} {w:World} (d1 d2 d3 d4 d5:Nat) (s1 s2 s3 s4 s5:Value) (R:(Nat→Prop)→Value→Value→Value→Value→Value→World→Prop) (ha:a=Zet a d1 s1 d2 s2 d3 s3 d4 s4 d5 s5) (hl:l.Nodup) (h0:R (fun _=>False) s1 s2 s3 s4 s5 w)
 (hs:∀i∈l,XW P ops Q S n l a d1 d2 d3 d4 d5 R i)
 (h1:∀D s1 s2 s3 s4 s5 w,(∀k∈l,D k)→R D s1 s2 s3 s4 s5 w→Ye P ops Q S n p (Zet a d1 s1 d2 s2 d3 s3 d4 s4 d5 s5) w):Ye P ops Q S n (.bag l p) a w:=
 Zup d1 d2 d3 d4 d5 s1 s2 s3 s4 s5 R ha hl h0 (fun D s1 s2 s3 s4 s5 w i oi hi hn ho hd hr=>hs i hi D s1 s2 s3 s4 s5 w hn (fun k hk hb=>by
  unfold Ygl at hb
  rw [ho] at hb
  simp only [Array.any_eq_true,Bool.and_eq_true,beq_iff_eq] at hb
  obtain ⟨j,hj,h1,h2⟩:=hb
  subst h2
  exact hd _ (Array.getElem_mem hj) h1 hk) hr) h1
theorem XW.mk {l:List Nat} {a:Act} {d1 d2 d3 d4 d5:Nat} {R:(Nat→Prop)→Value→Value→Value→Value→Value→World→Prop} {i:Nat} {o:Oper} (ho:ops[i]? =some o)
 (h:∀D s1 s2 s3 s4 s5 w b,b=Zet a d1 s1 d2 s2 d3 s3 d4 s4 d5 s5→¬D i→(∀k∈l,Ygl ops i k=true→D k)→R D s1 s2 s3 s4 s5 w→∀K':Act→World→Prop,Shut (∀a' w',(n≤i∨S w')→(∃s1 s2 s3 s4 s5,a'=Zet a d1 s1 d2 s2 d3 s3 d4 s4 d5 s5∧R (fun k=>D k∨k=i) s1 s2 s3 s4 s5 w')→K' a' w')→if Region.wanted o (yielded ops b.tmps)=true then Oper.wp P o b w K' Q else K' (b.put o.dst undef) w):XW P ops Q S n l a d1 d2 d3 d4 d5 R i:=
 fun D s1 s2 s3 s4 s5 w hn hd hr=>V3 ho (h D s1 s2 s3 s4 s5 w _ rfl hn hd hr)
end
end
end Go.Proofs.YtgbhebappffbdaaGreat
