/- Lemmas of the claim; no condition. -/
import Derived.OpenShut
import Derived.Test.YtgdcbjligbnpgaaK7
set_option linter.all false
set_option maxRecDepth 100000
set_option maxHeartbeats 40000000
namespace Go.Proofs.Ytgdcbjligbnpgaa
open Go.RowKit
open Pl
attribute [local go_sem ↓] Go.wp_at_zero Go.wp_at_succ
def FrC (w:World) (cs:List Value) (fs:List RF):Prop:=
 cs.length=fs.length * 4∧∀k f,fs[k]? =some f→∃x y z u,cs[k * 4]? =some x∧cs[k * 4+1]? =some y∧cs[k * 4+2]? =some z∧cs[k * 4+3]? =some u∧FracM w (.agg #[x,y,z,u]) f
theorem FrC.keep {w w':World} {cs:List Value} {fs:List RF} (h:FrC w cs fs) (hk:Keep w w'):FrC w' cs fs:=
 ⟨h.1,fun k f hf=>by
  obtain ⟨x,y,z,u,h1,h2,h3,h4,h5⟩:=h.2 k f hf
  exact ⟨x,y,z,u,h1,h2,h3,h4,h5.keep hk⟩⟩
def RowM (w:World) (t:TypeId) (s:Nat) (v:Value) (n:Nat) (xs:List Value):Prop:=
 ∃A c,v= .slice A n c∧xs.length=n * s∧n≤c∧c≤maxLen∧(0 < n→∃b off cs fz,A=some ⟨b,off,none⟩∧w.heap[b]? =some (.cells cs t fz)∧∀j u,xs[j]? =some u→cs[off+j]? =some u)
theorem RowM.below {w w':World} {t:TypeId} {s n:Nat} {v:Value} {xs:List Value} (h:RowM w t s v n xs) (hb:Below w.heap.size w w'):RowM w' t s v n xs:=by
 obtain ⟨A,c,h1,h2,h3,h4,h5⟩:=h
 refine ⟨A,c,h1,h2,h3,h4,fun hp=>?_⟩
 obtain ⟨b,off,cs,fz,hA,hc,hx⟩:=h5 hp
 exact ⟨b,off,cs,fz,hA,(hb.block b (lt_heap hc)).trans hc,hx⟩
theorem RowM.shape {w:World} {t:TypeId} {s n:Nat} {v:Value} {xs:List Value} (h:RowM w t s v n xs):∃A c,v= .slice A n c∧n≤c∧c≤9223372036854775807:=by
 obtain ⟨A,c,h1,h2,h3,h4,h5⟩:=h
 unfold maxLen at h4
 exact ⟨A,c,h1,h3,by omega⟩
theorem RowM.at_ {w:World} {t:TypeId} {s n c:Nat} {A:Option Addr} {xs:List Value} (h:RowM w t s (.slice A n c) n xs) (hn:0 < n):
 ∃b off,A=some ⟨b,off,none⟩∧b < w.heap.size∧∀j u,xs[j]? =some u→w.cell? ⟨b,off+j,none⟩=some u:=by
 obtain ⟨A',c',hv,h2,h3,h4,h5⟩:=h
 injection hv with e1 e2 e3
 subst e1
 obtain ⟨b,off,cs,fz,hA,hc,hx⟩:=h5 hn
 exact ⟨b,off,hA,lt_heap hc,fun j u hj=>by rw [cell_of_row w b (off+j) cs _ fz hc,hx j u hj]⟩
theorem RowM.len {w:World} {t:TypeId} {s n m c:Nat} {A:Option Addr} {xs:List Value} (h:RowM w t s (.slice A n c) m xs):n=m:=by
 obtain ⟨A',c',hv,_⟩:=h
 injection hv
theorem RowM.of_own {w:World} {base:Nat} {t:TypeId} {s n:Nat} {v:Value} {xs:List Value} (h:w.ownsRow base t s v n xs):RowM w t s v n xs:=by
 rcases h.2 with ⟨rfl,h0⟩ | ⟨g,cap,cur,rfl,hb,hg,hnc,hcm,hcs,htake⟩
 ·have hl:=h.1
  have hx:n=0∨s=0:=by
   subst h0
   exact Or.inl rfl
  subst h0
  exact ⟨none,0,rfl,hl,Nat.le_refl _,by simp,fun hp=>by omega⟩
 ·refine ⟨_,cap,rfl,h.1,hnc,hcm,fun _=>⟨g,0,cur,(0,0),rfl,hg,fun j u hj=>?_⟩⟩
  rw [← htake,List.getElem?_take] at hj
  split at hj
  ·simpa using hj
  ·cases hj
theorem RowM.nil (w:World) (t:TypeId) (s:Nat) (A:Option Addr) (c:Nat) (hm:c≤maxLen):RowM w t s (.slice A 0 c) 0 []:=⟨A,c,rfl,by simp,Nat.zero_le _,hm,fun h=>by omega⟩
def FrsM (w:World) (v:Value) (fs:List RF):Prop:=∃cs,RowM w 70 4 v fs.length cs∧FrC w cs fs
theorem FrsM.below {w w':World} {v:Value} {fs:List RF} (h:FrsM w v fs) (hb:Below w.heap.size w w'):FrsM w' v fs:=by
 obtain ⟨cs,h1,h2⟩:=h
 exact ⟨cs,h1.below hb,h2.keep (Keep.of_below hb)⟩
theorem FrsM.shape {w:World} {v:Value} {fs:List RF} (h:FrsM w v fs):∃A c,v= .slice A fs.length c∧fs.length≤c∧c≤9223372036854775807:=by
 obtain ⟨cs,h1,h2⟩:=h
 exact h1.shape
theorem FrsM.at_ {w:World} {A:Option Addr} {n c:Nat} {fs:List RF} (h:FrsM w (.slice A n c) fs) {k:Nat} {f:RF} (hf:fs[k]? =some f):
 ∃b off x y z u,A=some ⟨b,off,none⟩∧b < w.heap.size∧w.cell? ⟨b,off+k * 4,none⟩=some x∧w.cell? ⟨b,off+k * 4+1,none⟩=some y∧w.cell? ⟨b,off+k * 4+2,none⟩=some z∧w.cell? ⟨b,off+k * 4+3,none⟩=some u∧FracM w (.agg #[x,y,z,u]) f:=by
 obtain ⟨cs,h1,h2⟩:=h
 obtain ⟨x,y,z,u,c1,c2,c3,c4,hm⟩:=h2.2 k f hf
 have hk:k < fs.length:=(List.getElem?_eq_some_iff.1 hf).1
 have hn:=h1.len
 subst hn
 obtain ⟨b,off,hA,hb,hc⟩:=h1.at_ (by omega)
 exact ⟨b,off,x,y,z,u,hA,hb,hc _ _ c1,hc _ _ c2,hc _ _ c3,hc _ _ c4,hm⟩
theorem own_below {w w':World} {base:Nat} {t:TypeId} {s n:Nat} {v:Value} {xs:List Value} (h:w.ownsRow base t s v n xs) (hb:Below w.heap.size w w'):w'.ownsRow base t s v n xs:=by
 refine ⟨h.1,?_⟩
 rcases h.2 with hn | ⟨g,cap,cur,rfl,hb',hgg,rest⟩
 ·exact .inl hn
 ·exact .inr ⟨g,cap,cur,rfl,hb',(hb.block g (lt_heap hgg)).trans hgg,rest⟩
def KeepBut (e:TypeId) (w w':World):Prop:=∀(b:Nat) (cs:Array Value) (t:TypeId) (fz:Nat × Nat),t≠e→w.heap[b]? =some (.cells cs t fz)→w'.heap[b]? =some (.cells cs t fz)
theorem KeepBut.keep {e:TypeId} {w w':World} (h:KeepBut e w w') (he:50≠e):Keep w w':=fun b cs fz hb=>h b cs _ fz he hb
theorem KeepBut.bk {e:TypeId} {w w':World} {g:Nat} {t:TypeId} {cs:List Value} (h:KeepBut e w w') (hb:Bk w g t cs) (ht:t≠e):Bk w' g t cs:=h g _ t _ ht hb
theorem KeepBut.own {e:TypeId} {w w':World} {base:Nat} {t:TypeId} {s n:Nat} {v:Value} {xs:List Value} (h:KeepBut e w w') (ho:w.ownsRow base t s v n xs) (ht:t≠e):w'.ownsRow base t s v n xs:=by
 refine ⟨ho.1,?_⟩
 rcases ho.2 with hn | ⟨g,cap,cur,rfl,hb',hgg,rest⟩
 ·exact .inl hn
 ·exact .inr ⟨g,cap,cur,rfl,hb',h g _ t _ ht hgg,rest⟩
theorem KeepBut.row {e:TypeId} {w w':World} {t:TypeId} {s n:Nat} {v:Value} {xs:List Value} (h:KeepBut e w w') (hr:RowM w t s v n xs) (ht:t≠e):RowM w' t s v n xs:=by
 obtain ⟨A,c,h1,h2,h3,h4,h5⟩:=hr
 refine ⟨A,c,h1,h2,h3,h4,fun hp=>?_⟩
 obtain ⟨b,off,cs,fz,hA,hc,hx⟩:=h5 hp
 exact ⟨b,off,cs,fz,hA,h b cs t fz ht hc,hx⟩
theorem KeepBut.trans {e:TypeId} {a b c:World} (h:KeepBut e a b) (k:KeepBut e b c):KeepBut e a c:=fun x cs t fz ht hx=>k x cs t fz ht (h x cs t fz ht hx)
theorem KeepBut.setCell {w:World} {g:Nat} {cs:Array Value} {e:TypeId} {fz:Nat × Nat} (h:w.heap[g]? =some (.cells cs e fz)) (i:Nat) (u:Value):KeepBut e w (w.setCell ⟨g,i,none⟩ u):=by
 intro b cs' t fz' ht hb
 have hne:b≠g:=by
  rintro rfl
  rw [h] at hb
  injection hb with hb
  injection hb with _ h2 _
  exact ht h2.symm
 rw [heap_setCell_other w _ _ _ hne]
 exact hb
theorem row_set {w:World} {base:Nat} {e:TypeId} {size n c g:Nat} {xs:List Value} (h:w.ownsRow base e size (.slice (some ⟨g,0,none⟩) n c) n xs) (j:Nat) (u:Value) (hj:j < xs.length):
 (w.setCell ⟨g,j,none⟩ u).ownsRow base e size (.slice (some ⟨g,0,none⟩) n c) n (xs.set j u):=by
 refine ⟨by rw [List.length_set];exact h.1,?_⟩
 rcases h.2 with ⟨h0,_⟩ | ⟨g',cap,cur,hv,hb,hg,hnc,hcm,hcs,htake⟩
 ·injection h0 with h0;cases h0
 ·injection hv with e1 e2 e3
  injection e1 with e1
  injection e1 with e1
  subst e1 e3
  refine .inr ⟨g,c,cur.setIfInBounds j u,rfl,hb,?_,hnc,hcm,by simpa using hcs,?_⟩
  ·rw [heap_setCell_same w g j _ e u hg]
  ·rw [Array.toList_setIfInBounds,List.take_set,htake]
theorem row_cell {w:World} {base:Nat} {e:TypeId} {size n c g:Nat} {xs:List Value} (h:w.ownsRow base e size (.slice (some ⟨g,0,none⟩) n c) n xs) {j:Nat} {u:Value} (hj:xs[j]? =some u):w.cell? ⟨g,j,none⟩=some u∧w.frozen? ⟨g,j,none⟩=false:=by
 rcases h.2 with ⟨h0,_⟩ | ⟨g',cap,cur,hv,hb,hg,hnc,hcm,hcs,htake⟩
 ·injection h0 with h0;cases h0
 ·injection hv with e1 e2 e3
  injection e1 with e1
  injection e1 with e1
  subst e1 e3
  refine ⟨?_,frozen_of_row w g j _ _ hg⟩
  rw [cell_of_row w g j _ _ _ hg]
  rw [← htake,List.getElem?_take] at hj
  split at hj
  ·simpa using hj
  ·cases hj
theorem row_block {w:World} {base:Nat} {e:TypeId} {size n c g:Nat} {xs:List Value} (h:w.ownsRow base e size (.slice (some ⟨g,0,none⟩) n c) n xs):∃cur,w.heap[g]? =some (.cells cur e (0,0))∧base≤g:=by
 rcases h.2 with ⟨h0,_⟩ | ⟨g',cap,cur,hv,hb,hg,hnc,hcm,hcs,htake⟩
 ·injection h0 with h0;cases h0
 ·injection hv with e1 e2 e3
  injection e1 with e1
  injection e1 with e1
  subst e1
  exact ⟨cur,hg,hb⟩
namespace Pl
def qAt (fs:List RF) (i:Nat):Rat:=match fs[i]? with | some f=>f.q | none=>0
end Pl
theorem cell4_later {w w':World} {b o:Nat} {x y z u:Value} (hb:Below w.heap.size w w') (h:w.cell? ⟨b,o,none⟩=some x∧w.cell? ⟨b,o+1,none⟩=some y∧w.cell? ⟨b,o+2,none⟩=some z∧w.cell? ⟨b,o+3,none⟩=some u):
 w'.cell? ⟨b,o,none⟩=some x∧w'.cell? ⟨b,o+1,none⟩=some y∧w'.cell? ⟨b,o+2,none⟩=some z∧w'.cell? ⟨b,o+3,none⟩=some u:=
 ⟨cell_keep hb h.1,cell_keep hb h.2.1,cell_keep hb h.2.2.1,cell_keep hb h.2.2.2⟩
theorem FrsM.elem {w wr:World} {A:Option Addr} {n c:Nat} {fs:List RF} (h:FrsM w (.slice A n c) fs) (hb:Below w.heap.size w wr) {k:Nat} {f:RF} (hf:fs[k]? =some f):
 ∃b off A1 n1 c1 A2 n2 c2,A=some ⟨b,off,none⟩∧b < w.heap.size∧(wr.cell? ⟨b,off+k * 4,none⟩=some (.bool f.num.neg)∧wr.cell? ⟨b,off+k * 4+1,none⟩=some (.slice A1 n1 c1)∧wr.cell? ⟨b,off+k * 4+2,none⟩=some (.bool f.den.neg)∧wr.cell? ⟨b,off+k * 4+3,none⟩=some (.slice A2 n2 c2))∧
  FracM wr (.agg #[.bool f.num.neg,.slice A1 n1 c1,.bool f.den.neg,.slice A2 n2 c2]) f:=by
 obtain ⟨b,off,x,y,z,u,hA,hlt,c1,c2,c3,c4,hm⟩:=h.at_ hf
 obtain ⟨A1,n1,k1,A2,n2,k2,hv,d1,d2⟩:=id hm
 simp at hv
 obtain ⟨rfl,rfl,rfl,rfl⟩:=hv
 exact ⟨b,off,A1,n1,k1,A2,n2,k2,hA,hlt,cell4_later hb ⟨c1,c2,c3,c4⟩,hm.below hb⟩
theorem below_drew' (w:World):Below w.heap.size w w.drew:=(Below.refl _ _).drew
section
def floats (o:Oper):Bool:=match o.op with
 | .move .. =>true
 | .assign .. =>true
 | .pick .. =>true
 | .load .. =>true
 | .binOp .. =>true
 | .unOp .. =>true
 | .convert .. =>true
 | .fieldAddr .. =>true
 | .field .. =>true
 | .indexAddr .. =>true
 | .index .. =>true
 | .extract .. =>true
 | .slice .. =>true
 | .nilCheck .. =>true
 | .build .. =>true
 | .call c=>match c.callee with | .builtin .len=>true | _=>false
 | _=>false
def pures (o:Oper):Bool:=match o.op with
 | .move .. =>true
 | .assign .. =>true
 | .pick .. =>true
 | .binOp .. =>true
 | .unOp .. =>true
 | .fieldAddr .. =>true
 | .field .. =>true
 | .indexAddr .. =>true
 | .extract .. =>true
 | .build .. =>true
 | _=>false
def pureI (ops:Array Oper) (i:Nat):Bool:=((ops[i]?).map pures).getD false
section
variable {P:Program} {ops:Array Oper} {Q:Exit→Act→World→Prop} {md:Region.Mode} {S:World→Prop} {n:Nat}
def AnyG (P:Program) (md:Region.Mode) (ops:Array Oper) (Q:Exit→Act→World→Prop) (S:World→Prop) (n:Nat):Nat→Array Bool→Act→World→Prop
 | 0,listed,a,w=>Region.ready md ops listed=[]∧Q .normal a w
 | fuel+1,listed,a,w=>(Region.ready md ops listed=[]→Q .normal a w)∧
  ∀i∈Region.ready md ops listed,wpOp P ops Q i (fun a' w'=>(n≤i∨(S w→S w'))∧AnyG P md ops Q S n fuel (listed.setIfInBounds i true) a' w') a w
theorem AnyG.any:∀(fuel:Nat) (listed:Array Bool) (a:Act) (w:World),AnyG P md ops Q S n fuel listed a w→wpAny P md ops Q fuel listed a w
 | 0,_,_,_,h=>h
 | fuel+1,_,_,_,h=>⟨h.1,fun i hi=>wpOp_mono (fun a' w' h'=>AnyG.any fuel _ a' w' h'.2) (h.2 i hi)⟩
theorem notl (listed:Array Bool) (k:Nat) (h0:listed.getD k true=false) (h1:listed.getD k false=true):False:=by
 rcases Nat.lt_or_ge k listed.size with h' | h'
 ·simp [h'] at h0 h1;rw [h0] at h1;cases h1
 ·simp [Array.getElem?_eq_none h'] at h1
theorem anyG_firstP {i:Nat} {oi:Oper} {v:Value} (hi:ops[i]? =some oi) (hsel:∀(j:Nat) (o:Oper) cs b,ops[j]? =some o→o.op≠ .select cs b)
 (hQ:∀c a w,Q (.panic c) (a.put oi.dst v) w→Q (.panic c) a w):
 ∀(fuel:Nat) (listed:Array Bool) (a:Act) (w:World),
  (∀j oj,ops[j]? =some oj→j≠i→listed.getD j true=false→(∀e∈oj.after,Region.binds md e=true→e.on≠i)→oi.apart ops oj=true)→
  i∈Region.ready md ops listed→YieldsIf P ops (fun _=>True) oi v a→
  AnyG P md ops Q S n fuel (listed.setIfInBounds i true) (a.put oi.dst v) w→AnyG P md ops Q S n (fuel+1) listed a w:=by
 intro fuel
 induction fuel with
 | zero=>
  intro listed a w _ hr hy H
  refine ⟨fun h=>(by rw [h] at hr;cases hr),fun j hj=>?_⟩
  by_cases hji:j=i
  ·subst hji;exact hy.wpOp hi trivial ⟨.inr fun h=>h,H⟩
  ·have:=ready_mono hj hji
   rw [H.1] at this
   cases this
 | succ fuel ih=>
  intro listed a w hfree hr hy H
  refine ⟨fun h=>(by rw [h] at hr;cases hr),fun j hj=>?_⟩
  by_cases hji:j=i
  ·subst hji;exact hy.wpOp hi trivial ⟨.inr fun h=>h,H⟩
  ·have h1:=H.2 j (ready_mono hj hji)
   obtain ⟨hjun,oj,hoj,hall⟩:=mem_ready.1 hj
   have hnot:∀e∈oj.after,Region.binds md e=true→e.on≠i:=fun e he hb heq=>by
    have h1:=hall e he hb
    rw [heq] at h1
    exact notl listed i (mem_ready.1 hr).1 h1
   have h2:=wpOp_putIf hoj (hfree j oj hoj hji hjun hnot) (fun cs b=>hsel i oi cs b hi) (fun cs b=>hsel j oj cs b hoj) hQ hy h1
   have hfree':∀k ok,ops[k]? =some ok→k≠i→(listed.setIfInBounds j true).getD k true=false→
    (∀e∈ok.after,Region.binds md e=true→e.on≠i)→oi.apart ops ok=true:=fun k ok hk hki hun hno=>by
    refine hfree k ok hk hki ?_ hno
    by_cases hjk:j=k
    ·subst hjk;exact hjun
    ·rw [getD_set_ne true hjk] at hun;exact hun
   refine wpOp_mono (fun a' w' h3=>⟨h3.2.1,ih (listed.setIfInBounds j true) a' w' hfree' (ready_mono hr (Ne.symm hji)) h3.1 ?_⟩) h2
   rw [Array.setIfInBounds_comm _ _ hji]
   exact h3.2.2
theorem anyG_takeP {i:Nat} {oi:Oper} {v:Value} {fuel:Nat} {listed:Array Bool} {a:Act} {w:World} (hi:ops[i]? =some oi)
 (hs:Region.noSelect ops=true) (hf:Region.free md ops listed i=true) (hr:(Region.ready md ops listed).contains i=true)
 (hQ:∀c a w,Q (.panic c) (a.put oi.dst v) w→Q (.panic c) a w) (hy:YieldsIf P ops (fun _=>True) oi v a)
 (h:AnyG P md ops Q S n fuel (listed.setIfInBounds i true) (a.put oi.dst v) w):AnyG P md ops Q S n (fuel+1) listed a w:=
 anyG_firstP hi (Region.noSelect_spec hs) hQ fuel listed a w (Region.free_spec hi hf) (by simpa using hr) hy h
end
def depD (md:Region.Mode) (ops:Array Oper) (i:Nat):Array Bool:=(List.range ops.size).foldl (fun d j=>d.push (((ops[j]?).map fun o=>o.after.any fun e=>Region.binds md e && (e.on==i || d.getD e.on false)).getD false)) #[]
def depOK (md:Region.Mode) (ops:Array Oper) (i:Nat) (d:Array Bool) (j:Nat):Bool:= !d.getD j false || ((ops[j]?).map fun o=>o.after.any fun e=>Region.binds md e && (e.on==i || d.getD e.on false)).getD false
def lastWaitT (md:Region.Mode) (ops:Array Oper) (n:Nat) (listed:Array Bool) (i:Nat):Bool:=
 (List.range ops.size).all fun j=>(decide (j < n) || (depD md ops i).getD j false) && (depOK md ops i (depD md ops i) j && (!(depD md ops i).getD j false || !listed.getD j true))
def floatI (ops:Array Oper) (n i:Nat):Bool:=decide (i < n) && ((ops[i]?).map floats).getD false
def seqAt (md:Region.Mode) (ops:Array Oper) (n:Nat) (listed:Array Bool) (i:Nat):Bool:=
 if floatI ops n i=true then Region.free md ops listed i && ((Region.ready md ops listed).contains i && (pureI ops i || lastWaitT md ops n listed i)) else Region.ready md ops listed==[i]
def seqGo (md:Region.Mode) (ops:Array Oper) (n:Nat):Bool→List Nat→Array Bool→Bool
 | _,[],listed=>Region.ready md ops listed==[]
 | d,i::is,listed=>seqAt md ops n listed i && (!(d && (floatI ops n i && !pureI ops i)) && seqGo md ops n (d || decide (n≤i)) is (listed.setIfInBounds i true))
def seqOK (md:Region.Mode) (ops:Array Oper) (n:Nat) (is:List Nat):Bool:=Region.noSelect ops && (seqGo md ops n false is (Array.replicate ops.size false) && decide (is.length=ops.size))
section
variable {P:Program} {ops:Array Oper} {Q:Exit→Act→World→Prop} {md:Region.Mode} {S:World→Prop} {n:Nat}
def wpSeq (P:Program) (ops:Array Oper) (Q:Exit→Act→World→Prop) (S:World→Prop) (n:Nat):List Nat→Act→World→Prop
 | [],a,w=>Q .normal a w
 | i::is,a,w=>match ops[i]? with
  | none=>True
  | some o=>if floatI ops n i=true then ∃v,(if pureI ops i=true then YieldsIf P ops (fun _=>True) o v a else YieldsIf P ops S o v a)∧wpSeq P ops Q S n is (a.put o.dst v) w
   else if Region.wanted o (yielded ops a.tmps)=true then Oper.wp P o a w (fun a' w'=>(n≤i∨S w')∧wpSeq P ops Q S n is a' w') Q
   else (n≤i∨S w)∧wpSeq P ops Q S n is (a.put o.dst undef) w
theorem anyG_firstT {i:Nat} {oi:Oper} {v:Value} {d:Array Bool} (hi:ops[i]? =some oi) (hsel:∀(j:Nat) (o:Oper) cs b,ops[j]? =some o→o.op≠ .select cs b)
 (hd1:∀j,n≤j→j < ops.size→d.getD j false=true) (hd2:∀j o,ops[j]? =some o→d.getD j false=true→∃e∈o.after,Region.binds md e=true∧(e.on=i∨(e.on < ops.size∧d.getD e.on false=true)))
 (hQ:∀c a w,Q (.panic c) (a.put oi.dst v) w→Q (.panic c) a w):
 ∀(fuel:Nat) (listed:Array Bool) (a:Act) (w:World),
  (∀j oj,ops[j]? =some oj→j≠i→listed.getD j true=false→(∀e∈oj.after,Region.binds md e=true→e.on≠i)→oi.apart ops oj=true)→
  (∀j,j < ops.size→d.getD j false=true→listed.getD j true=false)→
  i∈Region.ready md ops listed→YieldsIf P ops S oi v a→S w→
  AnyG P md ops Q S n fuel (listed.setIfInBounds i true) (a.put oi.dst v) w→AnyG P md ops Q S n (fuel+1) listed a w:=by
 intro fuel
 induction fuel with
 | zero=>
  intro listed a w _ _ hr hy hS H
  refine ⟨fun h=>(by rw [h] at hr;cases hr),fun j hj=>?_⟩
  by_cases hji:j=i
  ·subst hji;exact hy.wpOp hi hS ⟨.inr fun h=>h,H⟩
  ·have:=ready_mono hj hji
   rw [H.1] at this
   cases this
 | succ fuel ih=>
  intro listed a w hfree hun hr hy hS H
  refine ⟨fun h=>(by rw [h] at hr;cases hr),fun j hj=>?_⟩
  by_cases hji:j=i
  ·subst hji;exact hy.wpOp hi hS ⟨.inr fun h=>h,H⟩
  ·have h1:=H.2 j (ready_mono hj hji)
   obtain ⟨hjun,oj,hoj,hall⟩:=mem_ready.1 hj
   have hiun:=(mem_ready.1 hr).1
   have hnot:∀e∈oj.after,Region.binds md e=true→e.on≠i:=fun e he hb heq=>by
    have h1:=hall e he hb
    rw [heq] at h1
    exact notl listed i hiun h1
   have hjd:d.getD j false=false:=by
    cases hc:d.getD j false with
    | false=>rfl
    | true=>
     obtain ⟨e,he,hb,hor⟩:=hd2 j oj hoj hc
     rcases hor with h2 | ⟨h2,h3⟩
     ·exact absurd h2 (hnot e he hb)
     ·exact (notl listed e.on (hun e.on h2 h3) (hall e he hb)).elim
   have hjn:¬n≤j:=fun hle=>by
    have:=hd1 j hle (Array.getElem?_eq_some_iff.1 hoj).1
    rw [hjd] at this;cases this
   have h2:=wpOp_putIf hoj (hfree j oj hoj hji hjun hnot) (fun cs b=>hsel i oi cs b hi) (fun cs b=>hsel j oj cs b hoj) hQ hy h1
   have hfree':∀k ok,ops[k]? =some ok→k≠i→(listed.setIfInBounds j true).getD k true=false→
    (∀e∈ok.after,Region.binds md e=true→e.on≠i)→oi.apart ops ok=true:=fun k ok hk hki hun hno=>by
    refine hfree k ok hk hki ?_ hno
    by_cases hjk:j=k
    ·subst hjk;exact hjun
    ·rw [getD_set_ne true hjk] at hun;exact hun
   have hun':∀k,k < ops.size→d.getD k false=true→(listed.setIfInBounds j true).getD k true=false:=fun k hk hdk=>by
    have hjk:j≠k:=fun e=>by subst e;rw [hjd] at hdk;cases hdk
    rw [getD_set_ne true hjk]
    exact hun k hk hdk
   refine wpOp_mono (fun a' w' h3=>⟨h3.2.1,ih (listed.setIfInBounds j true) a' w' hfree' hun' (ready_mono hr (Ne.symm hji)) h3.1 ((h3.2.1.resolve_left hjn) hS) ?_⟩) h2
   rw [Array.setIfInBounds_comm _ _ hji]
   exact h3.2.2
theorem anyG_takeT {i:Nat} {oi:Oper} {v:Value} {fuel:Nat} {listed:Array Bool} {a:Act} {w:World} (hi:ops[i]? =some oi)
 (hs:Region.noSelect ops=true) (hf:Region.free md ops listed i=true) (hr:(Region.ready md ops listed).contains i=true) (hw:lastWaitT md ops n listed i=true)
 (hQ:∀c a w,Q (.panic c) (a.put oi.dst v) w→Q (.panic c) a w) (hy:YieldsIf P ops S oi v a) (hS:S w)
 (h:AnyG P md ops Q S n fuel (listed.setIfInBounds i true) (a.put oi.dst v) w):AnyG P md ops Q S n (fuel+1) listed a w:=by
 simp only [lastWaitT,List.all_eq_true,List.mem_range,Bool.and_eq_true,Bool.or_eq_true,decide_eq_true_eq] at hw
 refine anyG_firstT (d:=depD md ops i) hi (Region.noSelect_spec hs) ?_ ?_ hQ fuel listed a w (Region.free_spec hi hf) ?_ (by simpa using hr) hy hS h
 ·intro j hj hjs
  rcases (hw j hjs).1 with h1 | h1
  ·omega
  ·exact h1
 ·intro j o ho hdj
  have hjs:=(Array.getElem?_eq_some_iff.1 ho).1
  have h1:=(hw j hjs).2.1
  unfold depOK at h1
  rw [hdj,ho] at h1
  simp only [Bool.not_true,Bool.false_or,Option.map_some,Option.getD_some] at h1
  obtain ⟨e,he,hb⟩:=Array.any_eq_true'.1 h1
  simp only [Bool.and_eq_true,Bool.or_eq_true,beq_iff_eq] at hb
  refine ⟨e,he,hb.1,hb.2.imp id fun h3=>⟨?_,h3⟩⟩
  rcases Nat.lt_or_ge e.on ops.size with h4 | h4
  ·exact h4
  ·exfalso
   have hsz:(depD md ops i).size≤ops.size:=by
    unfold depD
    have:∀(l:List Nat) (d:Array Bool) (f:Array Bool→Nat→Bool),(l.foldl (fun d j=>d.push (f d j)) d).size=d.size+l.length:=by
     intro l
     induction l with
     | nil=>intro d f;simp
     | cons x l ih=>intro d f;simp [ih];omega
    have h5:=this (List.range ops.size) #[] (fun d j=>((ops[j]?).map fun o=>o.after.any fun e=>Region.binds md e && (e.on==i || d.getD e.on false)).getD false)
    simp only [List.size_toArray,List.length_nil,List.length_range,Nat.zero_add] at h5
    exact Nat.le_of_eq h5
   have:(depD md ops i).getD e.on false=false:=by
    simp [Array.getElem?_eq_none (show (depD md ops i).size≤e.on by omega)]
   rw [this] at h3;cases h3
 ·intro j hj hdj
  have h1:=(hw j hj).2.2
  rw [hdj] at h1
  simpa using h1
theorem AnyG.of_seq (hQ:∀c a d v w,Q (.panic c) (a.put d v) w→Q (.panic c) a w) (hs:Region.noSelect ops=true):
 ∀(is:List Nat) (listed:Array Bool) (a:Act) (w:World) (d:Bool),seqGo md ops n d is listed=true→(d=false→S w)→wpSeq P ops Q S n is a w→AnyG P md ops Q S n is.length listed a w:=by
 intro is
 induction is with
 | nil=>
  intro listed a w d hgo _ h
  exact ⟨by simpa [seqGo] using hgo,h⟩
 | cons i is ih=>
  intro listed a w d hgo hS h
  simp only [seqGo,Bool.and_eq_true] at hgo
  obtain ⟨hat,hd,hgo⟩:=hgo
  unfold wpSeq at h
  unfold seqAt at hat
  split at hat
  ·rename_i hf
   simp only [Bool.and_eq_true] at hat
   obtain ⟨h1,h2,h3⟩:=hat
   have hf':=hf
   simp only [floatI,Bool.and_eq_true,decide_eq_true_eq] at hf'
   obtain ⟨o,ho⟩:∃o,ops[i]? =some o:=by
    cases hc:ops[i]? with
    | none=>rw [hc] at hf';simp at hf'
    | some o=>exact ⟨o,rfl⟩
   simp only [ho] at h
   rw [if_pos hf] at h
   obtain ⟨v,hy,hr⟩:=h
   by_cases hp:pureI ops i=true
   ·rw [if_pos hp] at hy
    exact anyG_takeP ho hs h1 h2 (fun c a w=>hQ c a o.dst v w) hy (ih _ _ w _ hgo (fun hd'=>hS (by simp at hd';exact hd'.1)) hr)
   ·rw [if_neg hp] at hy
    have hdf:d=false:=by rw [hf] at hd;simpa [hp] using hd
    have hw:=hS hdf
    exact anyG_takeT ho hs h1 h2 (by simpa [hp] using h3) (fun c a w=>hQ c a o.dst v w) hy hw (ih _ _ w _ hgo (fun _=>hw) hr)
  ·rename_i hf
   have hr:Region.ready md ops listed=[i]:=by simpa using hat
   have hi:i∈Region.ready md ops listed:=by rw [hr];exact List.mem_singleton.2 rfl
   obtain ⟨_,o,ho,_⟩:=mem_ready.1 hi
   simp only [ho] at h
   rw [if_neg hf] at h
   refine ⟨fun h0=>(by rw [hr] at h0;cases h0),fun j hj=>?_⟩
   rw [hr] at hj
   obtain rfl:j=i:=by simpa using hj
   have h:wpOp P ops Q j (fun a' w'=>(n≤j∨S w')∧wpSeq P ops Q S n is a' w') a w:=by
    unfold wpOp
    rw [ho]
    show if Region.wanted o (yielded ops a.tmps)=true then _ else _
    split
    ·rename_i hw;rw [if_pos hw] at h;exact .inl h
    ·rename_i hw;rw [if_neg hw] at h;exact h
   exact wpOp_mono (fun a' w' h'=>⟨h'.1.imp id (fun h _=>h),ih _ a' w' _ hgo (fun hle=>h'.1.resolve_left (by simp at hle;omega)) h'.2⟩) h
theorem region_seq {id:Nat} {l:List Oper} {a:Act} {w:World} (n:Nat) (is:List Nat) (hm:P.follows .mixedOrders=true) (hok:seqOK .any l.toArray n is=true)
 (h:wpSeq P l.toArray (NoPanic Q) (fun w'=>Below w.heap.size w w') n is a w.drew):(Code.region id l.toArray true).wp P Q a w:=by
 simp only [seqOK,Bool.and_eq_true,decide_eq_true_eq] at hok
 obtain ⟨hs,hgo,hl⟩:=hok
 refine wp_region_noPanic (wp_region_any hm (AnyG.any _ _ _ _ (S:=fun w'=>Below w.heap.size w w') (n:=n) ?_))
 rw [← hl]
 have:=AnyG.of_seq (P:=P) (Q:=NoPanic Q) (S:=fun w'=>Below w.heap.size w w') (fun c a d v w h=>h) hs is _ a w.drew false hgo (fun _=>(Below.refl _ _).drew) h
 rwa [hl] at this ⊢
theorem seq_done {a:Act} {w:World} (h:Q .normal a w):wpSeq P ops (NoPanic Q) S n [] a w:=h
theorem seq_take {o:Oper} {i:Nat} {is:List Nat} {a:Act} {w:World} {v:Value} (ho:ops[i]? =some o) (hf:(floatI ops n i && !pureI ops i)=true) (hw:Region.wanted o (yielded ops a.tmps)=true) (hy:∀w',S w'→(execOp a.eval o).run P w'= .ok (.value v) w') (h:wpSeq P ops Q S n is (a.put o.dst v) w):wpSeq P ops Q S n (i::is) a w:=by
 simp only [Bool.and_eq_true,Bool.not_eq_true'] at hf
 unfold wpSeq
 rw [ho]
 show if _ then _ else _
 rw [if_pos hf.1]
 exact ⟨v,by rw [if_neg (by simp [hf.2])];exact .inl ⟨hw,hy⟩,h⟩
theorem seq_takeP {o:Oper} {i:Nat} {is:List Nat} {a:Act} {w:World} {v:Value} (ho:ops[i]? =some o) (hf:(floatI ops n i && pureI ops i)=true) (hw:Region.wanted o (yielded ops a.tmps)=true) (hy:∀w',True→(execOp a.eval o).run P w'= .ok (.value v) w') (h:wpSeq P ops Q S n is (a.put o.dst v) w):wpSeq P ops Q S n (i::is) a w:=by
 simp only [Bool.and_eq_true] at hf
 unfold wpSeq
 rw [ho]
 show if _ then _ else _
 rw [if_pos hf.1]
 exact ⟨v,by rw [if_pos hf.2];exact .inl ⟨hw,hy⟩,h⟩
theorem seq_skip {o:Oper} {i:Nat} {is:List Nat} {a:Act} {w:World} (ho:ops[i]? =some o) (hf:floatI ops n i=true) (hw:Region.wanted o (yielded ops a.tmps)=false) (h:wpSeq P ops Q S n is (a.put o.dst undef) w):wpSeq P ops Q S n (i::is) a w:=by
 unfold wpSeq
 rw [ho]
 show if _ then _ else _
 rw [if_pos hf]
 exact ⟨undef,by split <;> exact .inr ⟨hw,rfl⟩,h⟩
theorem seq_step {o:Oper} {i:Nat} {is:List Nat} {a:Act} {w:World} (ho:ops[i]? =some o) (hf:floatI ops n i=false)
 (h:∀K':Act→World→Prop,Shut (∀a w,(n≤i∨S w)→wpSeq P ops Q S n is a w→K' a w)→if Region.wanted o (yielded ops a.tmps)=true then Oper.wp P o a w K' Q else K' (a.put o.dst undef) w):wpSeq P ops Q S n (i::is) a w:=by
 have h1:=h (fun a' w'=>(n≤i∨S w')∧wpSeq P ops Q S n is a' w') (fun a w h1 h2=>⟨h1,h2⟩)
 unfold wpSeq
 rw [ho]
 show if _ then _ else _
 rw [if_neg (by simp [hf])]
 exact h1
end
theorem stab {w:World} {p:Addr} {v:Value} (h:w.cell? p=some v):∀w',Below w.heap.size w w'→w'.cell? p=some v:=fun _ hb=>cell_keep hb h
end
theorem i64_and1 (n:Int):bits .and .i64 n 1=n % 2:=by
 have hc:(BitVec.ofInt 64 1).toNat=2^1 - 1:=by decide
 have key:(BitVec.ofInt 64 n &&& BitVec.ofInt 64 1).toNat=(n % ((2^64:Nat):Int)).toNat % 2^1:=by
  rw [BitVec.toNat_and,BitVec.toNat_ofInt,hc,Nat.and_two_pow_sub_one_eq_mod]
 show IntKind.i64.wrap ((BitVec.ofInt 64 n &&& BitVec.ofInt 64 1).toNat:Nat)=n % 2
 rw [key,IntKind.wrap_i64]
 omega
theorem i64_and3 (n:Int):bits .and .i64 n 3=n % 4:=by
 have hc:(BitVec.ofInt 64 3).toNat=2^2 - 1:=by decide
 have key:(BitVec.ofInt 64 n &&& BitVec.ofInt 64 3).toNat=(n % ((2^64:Nat):Int)).toNat % 2^2:=by
  rw [BitVec.toNat_and,BitVec.toNat_ofInt,hc,Nat.and_two_pow_sub_one_eq_mod]
 show IntKind.i64.wrap ((BitVec.ofInt 64 n &&& BitVec.ofInt 64 3).toNat:Nat)=n % 4
 rw [key,IntKind.wrap_i64]
 omega
theorem i64_and7 (n:Int):bits .and .i64 n 7=n % 8:=by
 have hc:(BitVec.ofInt 64 7).toNat=2^3 - 1:=by decide
 have key:(BitVec.ofInt 64 n &&& BitVec.ofInt 64 7).toNat=(n % ((2^64:Nat):Int)).toNat % 2^3:=by
  rw [BitVec.toNat_and,BitVec.toNat_ofInt,hc,Nat.and_two_pow_sub_one_eq_mod]
 show IntKind.i64.wrap ((BitVec.ofInt 64 n &&& BitVec.ofInt 64 7).toNat:Nat)=n % 8
 rw [key,IntKind.wrap_i64]
 omega
theorem i64_and65535 (n:Int):bits .and .i64 n 65535=n % 65536:=by
 have hc:(BitVec.ofInt 64 65535).toNat=2^16 - 1:=by decide
 have key:(BitVec.ofInt 64 n &&& BitVec.ofInt 64 65535).toNat=(n % ((2^64:Nat):Int)).toNat % 2^16:=by
  rw [BitVec.toNat_and,BitVec.toNat_ofInt,hc,Nat.and_two_pow_sub_one_eq_mod]
 show IntKind.i64.wrap ((BitVec.ofInt 64 n &&& BitVec.ofInt 64 65535).toNat:Nat)=n % 65536
 rw [key,IntKind.wrap_i64]
 omega
def IntsM (w:World) (v:Value) (zs:List Int):Prop:=
 ∃a cap,v= .slice a zs.length cap∧zs.length≤cap∧cap≤maxLen∧(0 < zs.length→∃b off,a=some ⟨b,off,none⟩∧∀i,i < zs.length→w.cell? ⟨b,off+i,none⟩=some (.int .i64 (zs.getD i 0)))∧∀z∈zs,-9223372036854775808≤z∧z≤9223372036854775807
theorem IntsM.below {w w':World} {v:Value} {zs:List Int} (h:IntsM w v zs) (hb:Below w.heap.size w w'):IntsM w' v zs:=by
 obtain ⟨a,cap,h1,h2,h3,h4,h5⟩:=h
 refine ⟨a,cap,h1,h2,h3,fun hp=>?_,h5⟩
 obtain ⟨b,off,g1,g2⟩:=h4 hp
 exact ⟨b,off,g1,fun i hi=>cell_keep hb (g2 i hi)⟩
theorem IntsM.shape {w:World} {v:Value} {zs:List Int} (h:IntsM w v zs):∃a cap,v= .slice a zs.length cap∧zs.length≤cap∧cap≤9223372036854775807:=by
 obtain ⟨a,cap,h1,h2,h3,h4,h5⟩:=h
 unfold maxLen at h3
 exact ⟨a,cap,h1,h2,by omega⟩
theorem IntsM.at_ {w:World} {a:Option Addr} {n cap:Nat} {zs:List Int} (h:IntsM w (.slice a n cap) zs) {i:Nat} (hi:i < n):
 ∃b off z,a=some ⟨b,off,none⟩∧w.cell? ⟨b,off+i,none⟩=some (.int .i64 z)∧zs[i]? =some z∧ -9223372036854775808≤z∧z≤9223372036854775807:=by
 obtain ⟨a',cap',h1,h2,h3,h4,h5⟩:=h
 injection h1 with e1 e2 e3
 subst e1
 obtain ⟨b,off,g1,g2⟩:=h4 (by omega)
 have hg:zs[i]? =some (zs.getD i 0):=by simp [List.getD,List.getElem?_eq_getElem (show i < zs.length by omega)]
 have hm:=h5 _ (List.mem_of_getElem? hg)
 exact ⟨b,off,_,g1,g2 i (by omega),hg,hm⟩
theorem at_any (v:Value) (zs:List Int) (i:Nat) (w:World) (h:IntsM w v zs) (hi:i≤1099511627776):
 Calls Try.prog 8 #[v,.int .i64 (i:Int)] w fun e w'=>∃z:Int,e= .returned (.int .i64 z)∧0≤z∧z≤65535+i∧Below w.heap.size w w':=by
 obtain ⟨a,cap,rfl,hc1,hc2⟩:=h.shape
 generalize hn:zs.length=n at *
 clear hn
 have hm:=i64_and65535
 rcases Nat.eq_zero_or_pos n with h0 | h0
 ·subst h0
  go_enter Try.func8,Try.ntmps8
  go_wp2
  go_ret
  exact ⟨_,rfl,by omega,by omega,Below.refl _ _⟩
 ·have hlt:i % n < n:=Nat.mod_lt _ h0
  obtain ⟨b,off,z,rfl,hcell,_,hz1,hz2⟩:=h.at_ hlt
  have hne:((n:Int)==0)=false:=by simp;omega
  have hq:i / n≤i:=Nat.div_le_self _ _
  have hn0:¬n=0:=by omega
  have hr1:(i:Int) % n < n:=by omega
  have hr2:0≤(i:Int) % n:=by omega
  have hq1:(i:Int) / n≤i:=Int.ediv_le_self _ (by omega)
  have hq2:0≤(i:Int) / n:=Int.ediv_nonneg (by omega) (by omega)
  go_enter Try.func8,Try.ntmps8
  go_wp2_with fail
  have C1:=stab hcell
  refine region_seq 14 [0,1,2,3,4,5,6,7,8,9,10,11,12,13] (by kernel_rfl) (by kernel_rfl) ?_
  repeat (first | (refine seq_takeP (v:=?_) rfl rfl rfl ?_ ?_;rotate_left;(· (intro _ hSw;go_simp;(try go_bits);(try with_reducible rfl)));(try simp only [Act.put,List.setIfInBounds_toArray,List.set_cons_zero,List.set_cons_succ,List.getElem_toArray,List.getElem_cons_zero,List.getElem_cons_succ])) | (refine seq_take (v:=?_) rfl rfl rfl ?_ ?_;rotate_left;(· (intro _ hSw;go_simp;(try go_bits);(try with_reducible rfl)));(try simp only [Act.put,List.setIfInBounds_toArray,List.set_cons_zero,List.set_cons_succ,List.getElem_toArray,List.getElem_cons_zero,List.getElem_cons_succ])) | (refine seq_skip rfl rfl rfl ?_;(try simp only [Act.put,List.setIfInBounds_toArray,List.set_cons_zero,List.set_cons_succ,List.getElem_toArray,List.getElem_cons_zero,List.getElem_cons_succ])))
  refine seq_done ?_
  clear C1
  go_wp2
  go_ret
  exact ⟨_,rfl,by omega,by omega,below_drew' _⟩
theorem KeepBut.then {e:TypeId} {w W w':World} (h:KeepBut e w W) (hb:Below w.heap.size W w'):KeepBut e w w':=fun b cs t fz ht hc=>(hb.block b (lt_heap hc)).trans (h b cs t fz ht hc)
theorem KeepBut.refl (e:TypeId) (w:World):KeepBut e w w:=fun _ _ _ _ _ h=>h
theorem Bk.threeF {w:World} {g:Nat} {t:TypeId} {cs:List Value} (h:Bk w g t cs):w.frozen? ⟨g,0,none⟩=false∧w.frozen? ⟨g,1,none⟩=false∧w.frozen? ⟨g,2,none⟩=false:=⟨h.frozen 0,h.frozen 1,h.frozen 2⟩
theorem at_int (v:Value) (zs:List Int) (i:Int) (w:World) (h:IntsM w v zs) (h0:0≤i) (hi:i≤1099511627776):
 Calls Try.prog 8 #[v,.int .i64 i] w fun e w'=>∃z:Int,e= .returned (.int .i64 z)∧0≤z∧z≤65535+i∧Below w.heap.size w w':=by
 obtain ⟨k,rfl⟩:=Int.eq_ofNat_of_zero_le h0
 exact at_any v zs k w h (by omega)
def Others (g:Option Nat) (w w':World):Prop:=w.heap.size≤w'.heap.size∧∀b,b < w.heap.size→some b≠g→w'.heap[b]? =w.heap[b]?
theorem Others.bk {g:Option Nat} {w w':World} {b:Nat} {t:TypeId} {cs:List Value} (h:Others g w w') (hb:Bk w b t cs) (hne:some b≠g):Bk w' b t cs:=(h.2 b hb.lt hne).trans hb
theorem Others.of_set {g i:Nat} {w:World} {v:Value}:Others (some g) w (w.setCell ⟨g,i,none⟩ v):=⟨by simp,fun b _ hne=>heap_setCell_other w _ _ _ (fun e=>hne (by rw [e]))⟩
theorem Others.trans {g:Option Nat} {a b c:World} (h:Others g a b) (k:Others g b c):Others g a c:=⟨Nat.le_trans h.1 k.1,fun x hx hne=>(k.2 x (Nat.lt_of_lt_of_le hx h.1) hne).trans (h.2 x hx hne)⟩
theorem run_append_oneG (ty t e:TypeId) (i:TypeInfo) (z:Value) (size bytes:Nat) (ht:Try.prog.underlying t=some (.slice e)) (hi:Try.prog.info? e=some i) (hz:i.zero=some z)
 (hsize:i.size=size) (hby:i.bytes=bytes) (hzs:z.cells.size=size) (hsz:0 < size) (W:World) (base:Nat) (v:Value) (n:Nat) (xs news:List Value) (hown:W.ownsRow base e size v n xs)
 (hl:news.length=size) (h1:∀u∈news,u.oneCell'=true) (hn:n+1≤maxLen) (hb:(n+1) * bytes≤140737488355328) (hbase:base≤W.heap.size):
 ∃v' w',(Builtin.append_ #[t,t] ty #[v,.slice (some ⟨W.heap.size,0,none⟩) 1 1]).run Try.prog (W.alloc (.cells news.toArray e))= .ok v' w'∧w'.ownsRow base e size v' (n+1) (xs++news)∧KeepBut e W w'∧Below base W w'∧Others v.ownBlock W w'∧(v'.ownBlock=v.ownBlock∨∀g,v'.ownBlock=some g→W.heap.size≤g):=by
 have hnew:Bk (W.alloc (.cells news.toArray e)) W.heap.size e news:=Bk.new W e news
 obtain ⟨v',w',hrun,h2,h3,_,h5⟩:=run_append_own_at (P:=Try.prog) (W.alloc (.cells news.toArray e)) base t ty e i z size bytes ht hi hz hsize hby hzs hsz v n xs (hown.alloc _) ⟨W.heap.size,0,none⟩ 1 1 news (by omega) (fun j u hj=>by rw [addr_add,Nat.zero_add,hnew.cell];exact hj) h1 hn hb (by simp;omega)
 refine ⟨v',w',hrun,h2,?_,?_,⟨?_,?_⟩,?_⟩
 ·intro b cs t' fz hne hc
  have hlt:=lt_heap hc
  refine (h3.block b (by simp;omega) ?_).trans ((Below.heap_alloc W _ b hlt).trans hc)
  intro e1
  rcases hown.2 with ⟨rfl,_⟩ | ⟨g,cap,cur,rfl,_,hg,_⟩
  ·simp [Value.ownBlock] at e1
  ·simp [Value.ownBlock] at e1
   subst e1
   rw [hg] at hc
   injection hc with hc
   injection hc with _ h2 _
   exact hne h2.symm
 ·refine ((Below.refl _ _).alloc hbase _).grown h3 (by simp;omega) (fun k hk=>?_)
  exact (hown.lt k hk).1
 ·have:=h3.size;simp at this;omega
 ·intro b hb hne
  exact (h3.block b (by simp;omega) hne).trans (Below.heap_alloc W _ b hb)
 ·rcases h5 with h5 | h5
  ·exact .inl h5
  ·right;intro g hg;rw [h5] at hg;injection hg with hg;simp at hg;omega
 where
  addr_add (g j:Nat):(⟨g,0,none⟩:Addr).add j=⟨g,0+j,none⟩:=by
   unfold Addr.add
   split
   ·rename_i h;subst h;rfl
   ·rfl
section
inductive Plan where
 | done
 | go (i:Nat) (p:Plan)
 | fork (i:Nat) (p:Plan) (j:Nat) (q:Plan)
 | bag (l:List Nat) (p:Plan)
def bagGo (md:Region.Mode) (ops:Array Oper) (n:Nat) (K:Array Bool→Bool):Nat→List Nat→Array Bool→Bool
 | 0,_,listed=>K listed
 | m+1,l,listed=>l.all (fun k=>listed.getD k true==false) && (!(Region.ready md ops listed).isEmpty && (Region.ready md ops listed).all fun i=>(l.contains i && decide (i < n)) && bagGo md ops n K m (l.erase i) (listed.setIfInBounds i true))
def planGo (md:Region.Mode) (ops:Array Oper) (n:Nat):Bool→Plan→Array Bool→Bool
 | _,.done,listed=>Region.ready md ops listed==[]
 | d,.go i p,listed=>seqAt md ops n listed i && (!(d && (floatI ops n i && !pureI ops i)) && planGo md ops n (d || decide (n≤i)) p (listed.setIfInBounds i true))
 | d,.fork i p j q,listed=>(!floatI ops n i && !floatI ops n j) && (Region.ready md ops listed==[i,j] && (planGo md ops n (d || decide (n≤i)) p (listed.setIfInBounds i true) && planGo md ops n (d || decide (n≤j)) q (listed.setIfInBounds j true)))
 | d,.bag l p,listed=> !d && bagGo md ops n (fun b=>planGo md ops n false p b) l.length l listed
section
variable {P:Program} {ops:Array Oper} {Q:Exit→Act→World→Prop} {md:Region.Mode} {S:World→Prop} {n:Nat}
def wpAlone (P:Program) (ops:Array Oper) (Q:Exit→Act→World→Prop) (S:World→Prop) (n i:Nat) (K:Act→World→Prop) (a:Act) (w:World):Prop:=match ops[i]? with
 | none=>True
 | some o=>if Region.wanted o (yielded ops a.tmps)=true then Oper.wp P o a w (fun a' w'=>(n≤i∨S w')∧K a' w') Q else (n≤i∨S w)∧K (a.put o.dst undef) w
def wpBag (P:Program) (ops:Array Oper) (Q:Exit→Act→World→Prop) (md:Region.Mode) (S:World→Prop) (n:Nat) (K:Act→World→Prop):Nat→List Nat→Act→World→Prop
 | 0,_,a,w=>K a w
 | m+1,l,a,w=>∀i oi,i∈l→ops[i]? =some oi→(∀e∈oi.after,Region.binds md e=true→e.on ∉ l)→wpAlone P ops Q S n i (wpBag P ops Q md S n K m (l.erase i)) a w
def wpPlan (P:Program) (ops:Array Oper) (Q:Exit→Act→World→Prop) (S:World→Prop) (n:Nat):Plan→Act→World→Prop
 | .done,a,w=>Q .normal a w
 | .go i p,a,w=>match ops[i]? with
  | none=>True
  | some o=>if floatI ops n i=true then ∃v,(if pureI ops i=true then YieldsIf P ops (fun _=>True) o v a else YieldsIf P ops S o v a)∧wpPlan P ops Q S n p (a.put o.dst v) w else wpAlone P ops Q S n i (wpPlan P ops Q S n p) a w
 | .fork i p j q,a,w=>wpAlone P ops Q S n i (wpPlan P ops Q S n p) a w∧wpAlone P ops Q S n j (wpPlan P ops Q S n q) a w
 | .bag l p,a,w=>wpBag P ops Q .any S n (wpPlan P ops Q S n p) l.length l a w
theorem wpAlone.wpOp {i:Nat} {o:Oper} {K:Act→World→Prop} {a:Act} {w:World} (ho:ops[i]? =some o) (h:wpAlone P ops Q S n i K a w):Go.wpOp P ops Q i (fun a' w'=>(n≤i∨S w')∧K a' w') a w:=by
 unfold wpAlone at h
 rw [ho] at h
 unfold Go.wpOp
 rw [ho]
 show if Region.wanted o (yielded ops a.tmps)=true then _ else _
 have h:if Region.wanted o (yielded ops a.tmps)=true then Oper.wp P o a w (fun a' w'=>(n≤i∨S w')∧K a' w') Q else (n≤i∨S w)∧K (a.put o.dst undef) w:=h
 split
 ·rename_i hw;rw [if_pos hw] at h;exact .inl h
 ·rename_i hw;rw [if_neg hw] at h;exact h
def Plan.len:Plan→Nat
 | .done=>0
 | .go _ p=>p.len+1
 | .fork _ p _ _=>p.len+1
 | .bag l p=>p.len+l.length
def Plan.even:Plan→Bool
 | .done=>true
 | .go _ p=>p.even
 | .fork _ p _ q=>p.even && (q.even && (p.len==q.len))
 | .bag _ p=>p.even
def planOK (md:Region.Mode) (ops:Array Oper) (n:Nat) (p:Plan):Bool:=Region.noSelect ops && (planGo md ops n false p (Array.replicate ops.size false) && (p.even && decide (p.len=ops.size)))
theorem AnyG.of_plan (hQ:∀c a d v w,Q (.panic c) (a.put d v) w→Q (.panic c) a w) (hs:Region.noSelect ops=true):
 ∀(p:Plan) (listed:Array Bool) (a:Act) (w:World) (d:Bool),p.even=true→planGo .any ops n d p listed=true→(d=false→S w)→wpPlan P ops Q S n p a w→AnyG P .any ops Q S n p.len listed a w:=by
 intro p
 induction p with
 | done=>
  intro listed a w d _ hgo _ h
  exact ⟨by simpa [planGo] using hgo,h⟩
 | go i p ih=>
  intro listed a w d hev hgo hS h
  simp only [planGo,Bool.and_eq_true] at hgo
  obtain ⟨hat,hd,hgo⟩:=hgo
  unfold wpPlan at h
  unfold seqAt at hat
  split at hat
  ·rename_i hf
   simp only [Bool.and_eq_true] at hat
   obtain ⟨h1,h2,h3⟩:=hat
   have hf':=hf
   simp only [floatI,Bool.and_eq_true,decide_eq_true_eq] at hf'
   obtain ⟨o,ho⟩:∃o,ops[i]? =some o:=by
    cases hc:ops[i]? with
    | none=>rw [hc] at hf';simp at hf'
    | some o=>exact ⟨o,rfl⟩
   simp only [ho] at h
   rw [if_pos hf] at h
   obtain ⟨v,hy,hr⟩:=h
   by_cases hp:pureI ops i=true
   ·rw [if_pos hp] at hy
    exact anyG_takeP ho hs h1 h2 (fun c a w=>hQ c a o.dst v w) hy (ih _ _ w _ hev hgo (fun hd'=>hS (by simp at hd';exact hd'.1)) hr)
   ·rw [if_neg hp] at hy
    have hdf:d=false:=by rw [hf] at hd;simpa [hp] using hd
    have hw:=hS hdf
    exact anyG_takeT ho hs h1 h2 (by simpa [hp] using h3) (fun c a w=>hQ c a o.dst v w) hy hw (ih _ _ w _ hev hgo (fun _=>hw) hr)
  ·rename_i hf
   have hr:Region.ready .any ops listed=[i]:=by simpa using hat
   have hi:i∈Region.ready .any ops listed:=by rw [hr];exact List.mem_singleton.2 rfl
   obtain ⟨_,o,ho,_⟩:=mem_ready.1 hi
   simp only [ho] at h
   rw [if_neg hf] at h
   refine ⟨fun h0=>(by rw [hr] at h0;cases h0),fun j hj=>?_⟩
   rw [hr] at hj
   obtain rfl:j=i:=by simpa using hj
   exact wpOp_mono (fun a' w' h'=>⟨h'.1.imp id (fun h _=>h),ih _ a' w' _ hev hgo (fun hle=>h'.1.resolve_left (by simp at hle;omega)) h'.2⟩) (h.wpOp ho)
 | fork i p j q ihp ihq=>
  intro listed a w d hev hgo hS h
  simp only [planGo,Bool.and_eq_true] at hgo
  obtain ⟨_,hr,hg1,hg2⟩:=hgo
  simp only [Plan.even,Bool.and_eq_true,beq_iff_eq] at hev
  obtain ⟨ev1,ev2,hlen⟩:=hev
  have hr:Region.ready .any ops listed=[i,j]:=by simpa using hr
  obtain ⟨h1,h2⟩:=h
  have hi:i∈Region.ready .any ops listed:=by rw [hr];simp
  have hj:j∈Region.ready .any ops listed:=by rw [hr];simp
  obtain ⟨_,oi,hoi,_⟩:=mem_ready.1 hi
  obtain ⟨_,oj,hoj,_⟩:=mem_ready.1 hj
  refine ⟨fun h0=>(by rw [hr] at h0;cases h0),fun k hk=>?_⟩
  rw [hr] at hk
  simp only [List.mem_cons,List.not_mem_nil,or_false] at hk
  rcases hk with rfl | rfl
  ·exact wpOp_mono (fun a' w' h'=>⟨h'.1.imp id (fun h _=>h),ihp _ a' w' _ ev1 hg1 (fun hle=>h'.1.resolve_left (by simp at hle;omega)) h'.2⟩) (h1.wpOp hoi)
  ·exact wpOp_mono (fun a' w' h'=>⟨h'.1.imp id (fun h _=>h),by rw [hlen];exact ihq _ a' w' _ ev2 hg2 (fun hle=>h'.1.resolve_left (by simp at hle;omega)) h'.2⟩) (h2.wpOp hoj)
 | bag l p ih=>
  intro listed a w d hev hgo hS h
  simp only [planGo,Bool.and_eq_true,Bool.not_eq_true'] at hgo
  obtain ⟨hd,hgo⟩:=hgo
  have key:∀(m:Nat) (l:List Nat) (listed:Array Bool) (a:Act) (w:World),bagGo .any ops n (fun b=>planGo .any ops n false p b) m l listed=true→S w→wpBag P ops Q .any S n (wpPlan P ops Q S n p) m l a w→AnyG P .any ops Q S n (p.len+m) listed a w:=by
   intro m
   induction m with
   | zero=>exact fun l listed a w hg hw h=>ih listed a w false hev hg (fun _=>hw) h
   | succ m ihm=>
    intro l listed a w hg hw h
    simp only [bagGo,Bool.and_eq_true,Bool.not_eq_true',List.all_eq_true,decide_eq_true_eq,beq_iff_eq] at hg
    obtain ⟨hun,hne,hall⟩:=hg
    refine ⟨fun h0=>(by rw [h0] at hne;simp at hne),fun j hj=>?_⟩
    obtain ⟨_,o,ho,hdep⟩:=mem_ready.1 hj
    obtain ⟨⟨hjl,hjn⟩,hg'⟩:=hall j hj
    have hjl:j∈l:=by simpa using hjl
    exact wpOp_mono (fun a' w' h'=>⟨h'.1.imp id (fun h _=>h),ihm _ _ a' w' hg' (h'.1.resolve_left (by omega)) h'.2⟩) ((h j o hjl ho fun e he hb hin=>by
     have h1:=hdep e he hb
     have h2:=hun e.on hin
     rcases Nat.lt_or_ge e.on listed.size with h' | h'
     ·simp [h'] at h1 h2;rw [h1] at h2;cases h2
     ·simp [Array.getElem?_eq_none h'] at h2).wpOp ho)
  exact key _ _ _ _ _ hgo (hS hd) h
theorem region_plan {id:Nat} {l:List Oper} {a:Act} {w:World} (n:Nat) (p:Plan) (hm:P.follows .mixedOrders=true) (hok:planOK .any l.toArray n p=true)
 (h:wpPlan P l.toArray (NoPanic Q) (fun w'=>Below w.heap.size w w') n p a w.drew):(Code.region id l.toArray true).wp P Q a w:=by
 simp only [planOK,Bool.and_eq_true,decide_eq_true_eq] at hok
 obtain ⟨hs,hgo,hev,hl⟩:=hok
 refine wp_region_noPanic (wp_region_any hm (AnyG.any _ _ _ _ (S:=fun w'=>Below w.heap.size w w') (n:=n) ?_))
 have:=AnyG.of_plan (P:=P) (Q:=NoPanic Q) (S:=fun w'=>Below w.heap.size w w') (fun c a d v w h=>h) hs p _ a w.drew false hev hgo (fun _=>(Below.refl _ _).drew) h
 rwa [hl] at this
theorem plan_done {a:Act} {w:World} (h:Q .normal a w):wpPlan P ops (NoPanic Q) S n .done a w:=h
theorem plan_take {o:Oper} {i:Nat} {p:Plan} {a:Act} {w:World} {v:Value} (ho:ops[i]? =some o) (hf:(floatI ops n i && !pureI ops i)=true) (hw:Region.wanted o (yielded ops a.tmps)=true) (hy:∀w',S w'→(execOp a.eval o).run P w'= .ok (.value v) w') (h:wpPlan P ops Q S n p (a.put o.dst v) w):wpPlan P ops Q S n (.go i p) a w:=by
 simp only [Bool.and_eq_true,Bool.not_eq_true'] at hf
 unfold wpPlan
 rw [ho]
 show if _ then _ else _
 rw [if_pos hf.1]
 exact ⟨v,by rw [if_neg (by simp [hf.2])];exact .inl ⟨hw,hy⟩,h⟩
theorem plan_takeP {o:Oper} {i:Nat} {p:Plan} {a:Act} {w:World} {v:Value} (ho:ops[i]? =some o) (hf:(floatI ops n i && pureI ops i)=true) (hw:Region.wanted o (yielded ops a.tmps)=true) (hy:∀w',True→(execOp a.eval o).run P w'= .ok (.value v) w') (h:wpPlan P ops Q S n p (a.put o.dst v) w):wpPlan P ops Q S n (.go i p) a w:=by
 simp only [Bool.and_eq_true] at hf
 unfold wpPlan
 rw [ho]
 show if _ then _ else _
 rw [if_pos hf.1]
 exact ⟨v,by rw [if_pos hf.2];exact .inl ⟨hw,hy⟩,h⟩
theorem plan_skip {o:Oper} {i:Nat} {p:Plan} {a:Act} {w:World} (ho:ops[i]? =some o) (hf:floatI ops n i=true) (hw:Region.wanted o (yielded ops a.tmps)=false) (h:wpPlan P ops Q S n p (a.put o.dst undef) w):wpPlan P ops Q S n (.go i p) a w:=by
 unfold wpPlan
 rw [ho]
 show if _ then _ else _
 rw [if_pos hf]
 exact ⟨undef,by split <;> exact .inr ⟨hw,rfl⟩,h⟩
theorem alone_step {o:Oper} {i:Nat} {K:Act→World→Prop} {a:Act} {w:World} (ho:ops[i]? =some o)
 (h:∀K':Act→World→Prop,Shut (∀a w,(n≤i∨S w)→K a w→K' a w)→if Region.wanted o (yielded ops a.tmps)=true then Oper.wp P o a w K' Q else K' (a.put o.dst undef) w):wpAlone P ops Q S n i K a w:=by
 have h1:=h (fun a' w'=>(n≤i∨S w')∧K a' w') (fun a w h1 h2=>⟨h1,h2⟩)
 unfold wpAlone
 rw [ho]
 exact h1
theorem plan_step {o:Oper} {i:Nat} {p:Plan} {a:Act} {w:World} (ho:ops[i]? =some o) (hf:floatI ops n i=false)
 (h:∀K':Act→World→Prop,Shut (∀a w,(n≤i∨S w)→wpPlan P ops Q S n p a w→K' a w)→if Region.wanted o (yielded ops a.tmps)=true then Oper.wp P o a w K' Q else K' (a.put o.dst undef) w):wpPlan P ops Q S n (.go i p) a w:=by
 unfold wpPlan
 rw [ho]
 show if _ then _ else _
 rw [if_neg (by simp [hf])]
 exact alone_step ho h
theorem plan_skipc {o:Oper} {i:Nat} {p:Plan} {a:Act} {w:World} (ho:ops[i]? =some o) (hf:floatI ops n i=false) (hw:Region.wanted o (yielded ops a.tmps)=false) (hS:S w) (h:wpPlan P ops Q S n p (a.put o.dst undef) w):wpPlan P ops Q S n (.go i p) a w:=by
 refine plan_step ho hf fun K hK=>?_
 rw [if_neg (by rw [hw];simp)]
 exact hK _ _ (.inr hS) h
theorem plan_fork {oi oj:Oper} {i j:Nat} {p q:Plan} {a:Act} {w:World} (hi:ops[i]? =some oi) (hj:ops[j]? =some oj)
 (h1:∀K':Act→World→Prop,Shut (∀a w,(n≤i∨S w)→wpPlan P ops Q S n p a w→K' a w)→if Region.wanted oi (yielded ops a.tmps)=true then Oper.wp P oi a w K' Q else K' (a.put oi.dst undef) w)
 (h2:∀K':Act→World→Prop,Shut (∀a w,(n≤j∨S w)→wpPlan P ops Q S n q a w→K' a w)→if Region.wanted oj (yielded ops a.tmps)=true then Oper.wp P oj a w K' Q else K' (a.put oj.dst undef) w):wpPlan P ops Q S n (.fork i p j q) a w:=⟨alone_step hi h1,alone_step hj h2⟩
end
end
end Go.Proofs.Ytgdcbjligbnpgaa
