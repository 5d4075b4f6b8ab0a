/- Lemmas of the claim; no condition. -/
import Derived.Test.YtncmobkhenfhpaaGreatE12
set_option linter.all false
set_option maxRecDepth 100000
set_option maxHeartbeats 40000000
namespace Go.Proofs.YtncmobkhenfhpaaGreat
open Go.RowKit
open Pl
attribute [local go_sem ↓] Go.wp_at_zero Go.wp_at_succ
def FrC [Old] (w:World) (cs:List Value) (fs:List RF):Prop:=
 cs.length=fs.length * 4∧∀k f,fs[k]? =some f→∃x y z u,cs[k * 4]? =some x∧cs[k * 4+1]? =some y∧cs[k * 4+2]? =some z∧cs[k * 4+3]? =some u∧Zt w (.agg #[x,y,z,u]) f
theorem FrC.keep [Old] {w w':World} {cs:List Value} {fs:List RF} (h:FrC w cs fs) (hk:ZG w w'):FrC w' cs fs:=
 ⟨h.1,fun k f hf=>by
  obtain ⟨x,y,z,u,h1,h2,h3,h4,h5⟩:=h.2 k f hf
  exact ⟨x,y,z,u,h1,h2,h3,h4,h5.keep hk⟩⟩
theorem FrC.nil [Old] (w:World):FrC w [] []:=⟨rfl,fun k f h=>by simp at h⟩
theorem FrC.snoc [Old] {w:World} {cs:List Value} {fs:List RF} (h:FrC w cs fs) {x y z u:Value} {f:RF} (hf:Zt w (.agg #[x,y,z,u]) f):FrC w (cs++[x,y,z,u]) (fs++[f]):=by
 refine ⟨by simp [h.1];omega,fun k g hg=>?_⟩;have hl:=h.1;rcases JX k fs.length with hk | hk
 ·rw [List.getElem?_append_left hk] at hg;obtain ⟨x',y',z',u',h1,h2,h3,h4,h5⟩:=h.2 k g hg;refine ⟨x',y',z',u',?_,?_,?_,?_,h5⟩
  ·rw [List.getElem?_append_left (by omega)];exact h1
  ·rw [List.getElem?_append_left (by omega)];exact h2
  ·rw [List.getElem?_append_left (by omega)];exact h3
  ·rw [List.getElem?_append_left (by omega)];exact h4
 ·rw [List.getElem?_append_right hk] at hg;have a:k - fs.length=0:=by
   rcases JV (k - fs.length) with e | e
   ·exact e
   ·rw [JU (by simp;omega)] at hg;cases hg
  rw [a] at hg;simp at hg;subst hg;obtain rfl:k=fs.length:=by omega
  refine ⟨x,y,z,u,?_,?_,?_,?_,hf⟩
  ·rw [List.getElem?_append_right (by omega),show fs.length * 4 - cs.length=0 by omega];rfl
  ·rw [List.getElem?_append_right (by omega),show fs.length * 4+1 - cs.length=1 by omega];rfl
  ·rw [List.getElem?_append_right (by omega),show fs.length * 4+2 - cs.length=2 by omega];rfl
  ·rw [List.getElem?_append_right (by omega),show fs.length * 4+3 - cs.length=3 by omega];rfl
def Zrl (cs:List Value) (j:Nat) (x y z u:Value):List Value:=(((cs.set j x).set (j+1) y).set (j+2) z).set (j+3) u
theorem FrC.set_ [Old] {w:World} {cs:List Value} {fs:List RF} (h:FrC w cs fs) {k:Nat} (hk:k < fs.length) {x y z u:Value} {f:RF} (hf:Zt w (.agg #[x,y,z,u]) f):FrC w (Zrl cs (k * 4) x y z u) (fs.set k f):=by
 have hl:=h.1;refine ⟨by simp [Zrl,hl],fun j g hg=>?_⟩;rcases Nat.lt_trichotomy j k with hjk | hjk | hjk
 ·rw [List.getElem?_set_ne (by omega)] at hg;obtain ⟨x',y',z',u',h1,h2,h3,h4,h5⟩:=h.2 j g hg;refine ⟨x',y',z',u',?_,?_,?_,?_,h5⟩ <;> unfold Zrl <;> rw [List.getElem?_set_ne (by omega),List.getElem?_set_ne (by omega),List.getElem?_set_ne (by omega),List.getElem?_set_ne (by omega)] <;> assumption
 ·subst hjk;rw [List.getElem?_set_self hk] at hg;injection hg with hg;subst hg;refine ⟨x,y,z,u,?_,?_,?_,?_,hf⟩ <;> unfold Zrl
  ·rw [List.getElem?_set_ne (by omega),List.getElem?_set_ne (by omega),List.getElem?_set_ne (by omega),List.getElem?_set_self (by omega)]
  ·rw [List.getElem?_set_ne (by omega),List.getElem?_set_ne (by omega),List.getElem?_set_self (by simp;omega)]
  ·rw [List.getElem?_set_ne (by omega),List.getElem?_set_self (by simp;omega)]
  ·rw [List.getElem?_set_self (by simp;omega)]
 ·rw [List.getElem?_set_ne (by omega)] at hg;obtain ⟨x',y',z',u',h1,h2,h3,h4,h5⟩:=h.2 j g hg;refine ⟨x',y',z',u',?_,?_,?_,?_,h5⟩ <;> unfold Zrl <;> rw [List.getElem?_set_ne (by omega),List.getElem?_set_ne (by omega),List.getElem?_set_ne (by omega),List.getElem?_set_ne (by omega)] <;> assumption
def Vv [Old] (w:World) (t:TypeId) (s:Nat) (v:Value) (n:Nat) (xs:List Value):Prop:=
 ∃A c,v= .slice A n c∧xs.length=n * s∧n≤c∧c≤maxLen∧(0 < n→∃b off cs t' fz,A=some ⟨b,off,none⟩∧(t'=t∨b < Old.n)∧w.heap[b]? =some (.cells cs t' fz)∧∀j u,xs[j]? =some u→cs[off+j]? =some u)
theorem Vv.below [Old] {w w':World} {t:TypeId} {s n:Nat} {v:Value} {xs:List Value} (h:Vv w t s v n xs) (hb:Below w.heap.size w w'):Vv w' t s v n xs:=by
 obtain ⟨A,c,h1,h2,h3,h4,h5⟩:=h;refine ⟨A,c,h1,h2,h3,h4,fun hp=>?_⟩;obtain ⟨b,a,cs,t',fz,hA,ht,hc,hx⟩:=h5 hp;exact ⟨b,a,cs,t',fz,hA,ht,(hb.block b (Yo hc)).trans hc,hx⟩
theorem Vv.shape [Old] {w:World} {t:TypeId} {s n:Nat} {v:Value} {xs:List Value} (h:Vv w t s v n xs):∃A c,v= .slice A n c∧n≤c∧c≤9223372036854775807:=by
 obtain ⟨A,c,h1,h2,h3,h4,h5⟩:=h;unfold maxLen at h4;exact ⟨A,c,h1,h3,by omega⟩
theorem Vv.at_ [Old] {w:World} {t:TypeId} {s n c:Nat} {A:Option Addr} {xs:List Value} (h:Vv w t s (.slice A n c) n xs) (hn:0 < n):
 ∃b off,A=some ⟨b,off,none⟩∧b < w.heap.size∧∀j u,xs[j]? =some u→w.cell? ⟨b,off+j,none⟩=some u:=by
 obtain ⟨A',c',hv,h2,h3,h4,h5⟩:=h;injection hv with e1 e2 e3;subst e1;obtain ⟨b,off,cs,t',fz,hA,_,hc,hx⟩:=h5 hn;exact ⟨b,off,hA,Yo hc,fun j u hj=>by rw [cell_of_row w b (off+j) cs _ fz hc,hx j u hj]⟩
theorem Vv.len [Old] {w:World} {t:TypeId} {s n m c:Nat} {A:Option Addr} {xs:List Value} (h:Vv w t s (.slice A n c) m xs):n=m:=by
 obtain ⟨A',c',hv,_⟩:=h;injection hv
theorem Vv.of_own [Old] {w:World} {base:Nat} {t:TypeId} {s n:Nat} {v:Value} {xs:List Value} (h:w.ownsRow base t s v n xs):Vv w t s v n xs:=by
 rcases h.2 with ⟨rfl,h0⟩ | ⟨g,cap,cur,rfl,hb,hg,hnc,hcm,hcs,htake⟩
 ·have hl:=h.1;have hx:n=0∨s=0:=by
   subst h0;exact Or.inl rfl
  subst h0;exact ⟨none,0,rfl,hl,JY _,by simp,fun hp=>by omega⟩
 ·refine ⟨_,cap,rfl,h.1,hnc,hcm,fun _=>⟨g,0,cur,_,(0,0),rfl,Or.inl rfl,hg,fun j u hj=>?_⟩⟩;rw [← htake,List.getElem?_take] at hj;split at hj
  ·simpa using hj
  ·cases hj
theorem Vv.nil [Old] (w:World) (t:TypeId) (s:Nat) (A:Option Addr) (c:Nat) (hm:c≤maxLen):Vv w t s (.slice A 0 c) 0 []:=⟨A,c,rfl,by simp,Nat.zero_le _,hm,fun h=>by omega⟩
def WA [Old] (w:World) (v:Value) (fs:List RF):Prop:=∃cs,Vv w 48 4 v fs.length cs∧FrC w cs fs
theorem WA.below [Old] {w w':World} {v:Value} {fs:List RF} (h:WA w v fs) (hb:Below w.heap.size w w'):WA w' v fs:=by
 obtain ⟨cs,h1,h2⟩:=h;exact ⟨cs,h1.below hb,h2.keep (ZG.of_below hb)⟩
theorem WA.shape [Old] {w:World} {v:Value} {fs:List RF} (h:WA w v fs):∃A c,v= .slice A fs.length c∧fs.length≤c∧c≤9223372036854775807:=by
 obtain ⟨cs,h1,h2⟩:=h;exact h1.shape
theorem WA.at_ [Old] {w:World} {A:Option Addr} {n c:Nat} {fs:List RF} (h:WA w (.slice A n c) fs) {k:Nat} {f:RF} (hf:fs[k]? =some f):
 ∃b off x y z u,A=some ⟨b,off,none⟩∧b < w.heap.size∧w.cell? ⟨b,off+k * 4,none⟩=some x∧w.cell? ⟨b,off+k * 4+1,none⟩=some y∧w.cell? ⟨b,off+k * 4+2,none⟩=some z∧w.cell? ⟨b,off+k * 4+3,none⟩=some u∧Zt w (.agg #[x,y,z,u]) f:=by
 obtain ⟨cs,h1,h2⟩:=h;obtain ⟨x,y,z,u,c1,c2,c3,c4,hm⟩:=h2.2 k f hf;have hk:k < fs.length:=(List.getElem?_eq_some_iff.1 hf).1;have hn:=h1.len;subst hn;obtain ⟨b,off,hA,hb,hc⟩:=h1.at_ (by omega);exact ⟨b,off,x,y,z,u,hA,hb,hc _ _ c1,hc _ _ c2,hc _ _ c3,hc _ _ c4,hm⟩
def Yd [Old] (base:Nat) (w:World) (v:Value) (fs:List RF):Prop:=∃cs,w.ownsRow base 48 4 v fs.length cs∧FrC w cs fs
theorem Yd.frs [Old] {base:Nat} {w:World} {v:Value} {fs:List RF} (h:Yd base w v fs):WA w v fs:=by
 obtain ⟨cs,h1,h2⟩:=h;exact ⟨cs,Vv.of_own h1,h2⟩
theorem own_below {w w':World} {base:Nat} {t:TypeId} {s n:Nat} {v:Value} {xs:List Value} (h:w.ownsRow base t s v n xs) (hb:Below w.heap.size w w'):w'.ownsRow base t s v n xs:=by
 refine ⟨h.1,?_⟩;rcases h.2 with hn | ⟨g,cap,cur,rfl,hb',hgg,rest⟩
 ·exact .inl hn
 ·exact .inr ⟨g,cap,cur,rfl,hb',(hb.block g (Yo hgg)).trans hgg,rest⟩
theorem Yd.below [Old] {base:Nat} {w w':World} {v:Value} {fs:List RF} (h:Yd base w v fs) (hb:Below w.heap.size w w'):Yd base w' v fs:=by
 obtain ⟨cs,h1,h2⟩:=h;exact ⟨cs,own_below h1 hb,h2.keep (ZG.of_below hb)⟩
theorem Yd.nil [Old] (base:Nat) (w:World):Yd base w (.slice none 0 0) []:=⟨[],World.ownsRow_nil _ _ _ _,FrC.nil _⟩
theorem info_frac:(Tryz.prog.info? 48).map (fun i=>(i.zero,i.size,i.bytes))=some (some (.agg #[.bool false,.slice none 0 0,.bool false,.slice none 0 0]),4,64):=by kernel_rfl
section
section
variable {P:Program} {ops:Array Oper} {Q:Exit→Act→World→Prop} {md:Region.Mode} {S:World→Prop} {n:Nat}
def AnyF (P:Program) (md:Region.Mode) (ops:Array Oper) (Q:Exit→Act→World→Prop) (S:World→Prop) (n:Nat):Nat→Array Bool→Act→World→Prop
 | 0,listed,a,w=>Region.ready md ops listed=[]∧Q .normal a w
 | fuel+1,listed,a,w=>(Region.ready md ops listed=[]→Q .normal a w)∧
  ∀i∈Region.ready md ops listed,wpOp P ops Q i (fun a' w'=>(n≤i∨S w')∧AnyF P md ops Q S n fuel (listed.setIfInBounds i true) a' w') a w
theorem AnyF.any:∀(fuel:Nat) (listed:Array Bool) (a:Act) (w:World),AnyF P md ops Q S n fuel listed a w→wpAny P md ops Q fuel listed a w
 | 0,_,_,_,h=>h
 | fuel+1,_,_,_,h=>⟨h.1,fun i hi=>wpOp_mono (fun a' w' h'=>AnyF.any fuel _ a' w' h'.2) (h.2 i hi)⟩
theorem Zpg {id:Nat} {a:Act} {w:World} (hm:P.follows .mixedOrders=true) (hS:S w.drew)
 (h:S w.drew→AnyF P .any ops Q S n ops.size (Array.replicate ops.size false) a w.drew):(Code.region id ops true).wp P Q a w:=
 wp_region_any hm (AnyF.any _ _ _ _ (h hS))
def Zhq (md:Region.Mode) (ops:Array Oper) (n i:Nat):Bool:=(List.range ops.size).all fun j=>decide (j < n) || Region.waitsFor md ops j i
theorem Zhr {i j:Nat} (h:Zhq md ops n i=true) (hj:n≤j) {oj:Oper} (ho:ops[j]? =some oj):∃e∈oj.after,Region.binds md e=true∧e.on=i:=by
 have b:j < ops.size:=(Array.getElem?_eq_some_iff.1 ho).1;have h1:=List.all_eq_true.1 h j (List.mem_range.2 b);rw [decide_eq_false (by omega),Bool.false_or] at h1;obtain ⟨d,a,e,he,hb,c⟩:=Region.waitsFor_spec h1;rw [ho] at a;injection a with a;subst a;exact ⟨e,he,hb,c⟩
theorem Zrm {i:Nat} {oi:Oper} {v:Value} (hi:ops[i]? =some oi) (hsel:∀(j:Nat) (o:Oper) cs b,ops[j]? =some o→o.op≠ .select cs b) (hw:Zhq md ops n i=true)
 (hQ:∀c a w,Q (.panic c) (a.put oi.dst v) w→Q (.panic c) a w):
 ∀(fuel:Nat) (listed:Array Bool) (a:Act) (w:World),
  (∀j oj,ops[j]? =some oj→j≠i→listed.getD j true=false→(∀e∈oj.after,Region.binds md e=true→e.on≠i)→oi.apart ops oj=true)→
  i∈Region.ready md ops listed→YieldsIf P ops S oi v a→S w→
  AnyF P md ops Q S n fuel (listed.setIfInBounds i true) (a.put oi.dst v) w→AnyF P md ops Q S n (fuel+1) listed a w:=by
 intro fuel
 induction fuel with
 | zero=>
  intro listed a w _ hr hy hS H;refine ⟨fun h=>(by rw [h] at hr;cases hr),fun j hj=>?_⟩;by_cases d:j=i
  ·subst d;exact hy.wpOp hi hS ⟨.inr hS,H⟩
  ·have:=ready_mono hj d;rw [H.1] at this
   cases this
 | succ fuel ih=>
  intro listed a w f hr hy hS H;refine ⟨fun h=>(by rw [h] at hr;cases hr),fun j hj=>?_⟩;by_cases d:j=i
  ·subst d;exact hy.wpOp hi hS ⟨.inr hS,H⟩
  ·have h1:=H.2 j (ready_mono hj d);obtain ⟨p,oj,l,q⟩:=mem_ready.1 hj;have m:∀e∈oj.after,Region.binds md e=true→e.on≠i:=fun e he hb heq=>by
    have h1:=q e he hb;have h0:=(mem_ready.1 hr).1;rw [heq] at h1;rcases JX i listed.size with h' | h'
    ·simp [h'] at h0 h1;rw [h0] at h1;cases h1
    ·simp [Array.getElem?_eq_none h'] at h1
   have s:¬n≤j:=fun hle=>by
    obtain ⟨e,he,hb,t⟩:=Zhr hw hle l;exact m e he hb t
   have h2:=wpOp_putIf l (f j oj l d p m) (fun cs b=>hsel i oi cs b hi) (fun cs b=>hsel j oj cs b l) hQ hy h1;have g:∀k ok,ops[k]? =some ok→k≠i→(listed.setIfInBounds j true).getD k true=false→
    (∀e∈ok.after,Region.binds md e=true→e.on≠i)→oi.apart ops ok=true:=fun k ok hk hki hun hno=>by
    refine f k ok hk hki ?_ hno;by_cases r:j=k
    ·subst r;exact p
    ·rw [getD_set_ne true r] at hun;exact hun
   refine wpOp_mono (fun a' w' h3=>⟨h3.2.1,ih (listed.setIfInBounds j true) a' w' g (ready_mono hr (Ne.symm d)) h3.1 (h3.2.1.resolve_left s) ?_⟩) h2;rw [Array.setIfInBounds_comm _ _ d];exact h3.2.2
theorem Z9 {i:Nat} {oi:Oper} {v:Value} {fuel:Nat} {listed:Array Bool} {a:Act} {w:World} (hi:ops[i]? =some oi)
 (hs:Region.noSelect ops=true) (hf:Region.free md ops listed i=true) (hr:(Region.ready md ops listed).contains i=true) (hw:Zhq md ops n i=true)
 (hQ:∀c a w,Q (.panic c) (a.put oi.dst v) w→Q (.panic c) a w) (hy:YieldsIf P ops S oi v a) (hS:S w)
 (h:AnyF P md ops Q S n fuel (listed.setIfInBounds i true) (a.put oi.dst v) w):AnyF P md ops Q S n (fuel+1) listed a w:=
 Zrm hi (Region.noSelect_spec hs) hw hQ fuel listed a w (Region.free_spec hi hf) (by simpa using hr) hy hS h
theorem Zkk {i:Nat} {o:Oper} {fuel:Nat} {listed:Array Bool} {a:Act} {w:World} (hr:Region.ready md ops listed=[i]) (ho:ops[i]? =some o)
 (h:∀K':Act→World→Prop,Shut (∀a w,S w→(S w→AnyF P md ops Q S n fuel (listed.setIfInBounds i true) a w)→K' a w)→if Region.wanted o (yielded ops a.tmps)=true then Oper.wp P o a w K' Q else K' (a.put o.dst undef) w):
 AnyF P md ops Q S n (fuel+1) listed a w:=by
 refine ⟨fun h0=>(by rw [hr] at h0;cases h0),fun j hj=>?_⟩;rw [hr] at hj;obtain rfl:j=i:=by simpa using hj
 exact wpOp_step ho (fun K' hK=>h K' (fun a w hS hW=>hK a w ⟨.inr hS,hW hS⟩))
theorem Zkl {i:Nat} {o:Oper} {fuel:Nat} {listed:Array Bool} {a:Act} {w:World} (hr:Region.ready md ops listed=[i]) (ho:ops[i]? =some o) (hn:n≤i)
 (h:∀K':Act→World→Prop,Shut (∀a w,AnyF P md ops Q S n fuel (listed.setIfInBounds i true) a w→K' a w)→if Region.wanted o (yielded ops a.tmps)=true then Oper.wp P o a w K' Q else K' (a.put o.dst undef) w):
 AnyF P md ops Q S n (fuel+1) listed a w:=by
 refine ⟨fun h0=>(by rw [hr] at h0;cases h0),fun j hj=>?_⟩;rw [hr] at hj;obtain rfl:j=i:=by simpa using hj
 exact wpOp_step ho (fun K' hK=>h K' (fun a w hW=>hK a w ⟨.inl hn,hW⟩))
theorem Zkm {listed:Array Bool} {a:Act} {w:World} (hr:Region.ready md ops listed=[]) (h:Q .normal a w):∀fuel,AnyF P md ops Q S n fuel listed a w
 | 0=>⟨hr,h⟩
 | _+1=>⟨fun _=>h,by rw [hr];simp⟩
end
end
section
def floats (o:Oper):Bool:=match o.op with
 | .move .. =>true
 | .assign .. =>true
 | .pick .. =>true
 | .load .. =>true
 | .binOp .. =>true
 | .unOp .. =>true
 | .convert .. =>true
 | .fieldAddr .. =>true
 | .field .. =>true
 | .indexAddr .. =>true
 | .index .. =>true
 | .extract .. =>true
 | .slice .. =>true
 | .nilCheck .. =>true
 | .build .. =>true
 | .call c=>match c.callee with | .builtin .len=>true | _=>false
 | _=>false
def Ygo (o:Oper):Bool:=match o.op with
 | .move .. =>true
 | .assign .. =>true
 | .pick .. =>true
 | .binOp .. =>true
 | .unOp .. =>true
 | .fieldAddr .. =>true
 | .field .. =>true
 | .indexAddr .. =>true
 | .extract .. =>true
 | .build .. =>true
 | _=>false
def Zcx (ops:Array Oper) (i:Nat):Bool:=((ops[i]?).map Ygo).getD false
section
variable {P:Program} {ops:Array Oper} {Q:Exit→Act→World→Prop} {md:Region.Mode} {S:World→Prop} {n:Nat}
def AnyG (P:Program) (md:Region.Mode) (ops:Array Oper) (Q:Exit→Act→World→Prop) (S:World→Prop) (n:Nat):Nat→Array Bool→Act→World→Prop
 | 0,listed,a,w=>Region.ready md ops listed=[]∧Q .normal a w
 | fuel+1,listed,a,w=>(Region.ready md ops listed=[]→Q .normal a w)∧
  ∀i∈Region.ready md ops listed,wpOp P ops Q i (fun a' w'=>(n≤i∨(S w→S w'))∧AnyG P md ops Q S n fuel (listed.setIfInBounds i true) a' w') a w
theorem AnyG.any:∀(fuel:Nat) (listed:Array Bool) (a:Act) (w:World),AnyG P md ops Q S n fuel listed a w→wpAny P md ops Q fuel listed a w
 | 0,_,_,_,h=>h
 | fuel+1,_,_,_,h=>⟨h.1,fun i hi=>wpOp_mono (fun a' w' h'=>AnyG.any fuel _ a' w' h'.2) (h.2 i hi)⟩
theorem Ygp (listed:Array Bool) (k:Nat) (h0:listed.getD k true=false) (h1:listed.getD k false=true):False:=by
 rcases JX k listed.size with h' | h'
 ·simp [h'] at h0 h1;rw [h0] at h1;cases h1
 ·simp [Array.getElem?_eq_none h'] at h1
theorem Znh {i:Nat} {oi:Oper} {v:Value} (hi:ops[i]? =some oi) (hsel:∀(j:Nat) (o:Oper) cs b,ops[j]? =some o→o.op≠ .select cs b)
 (hQ:∀c a w,Q (.panic c) (a.put oi.dst v) w→Q (.panic c) a w):
 ∀(fuel:Nat) (listed:Array Bool) (a:Act) (w:World),
  (∀j oj,ops[j]? =some oj→j≠i→listed.getD j true=false→(∀e∈oj.after,Region.binds md e=true→e.on≠i)→oi.apart ops oj=true)→
  i∈Region.ready md ops listed→YieldsIf P ops (fun _=>True) oi v a→
  AnyG P md ops Q S n fuel (listed.setIfInBounds i true) (a.put oi.dst v) w→AnyG P md ops Q S n (fuel+1) listed a w:=by
 intro fuel
 induction fuel with
 | zero=>
  intro listed a w _ hr hy H;refine ⟨fun h=>(by rw [h] at hr;cases hr),fun j hj=>?_⟩;by_cases d:j=i
  ·subst d;exact hy.wpOp hi trivial ⟨.inr fun h=>h,H⟩
  ·have:=ready_mono hj d;rw [H.1] at this
   cases this
 | succ fuel ih=>
  intro listed a w f hr hy H;refine ⟨fun h=>(by rw [h] at hr;cases hr),fun j hj=>?_⟩;by_cases d:j=i
  ·subst d;exact hy.wpOp hi trivial ⟨.inr fun h=>h,H⟩
  ·have h1:=H.2 j (ready_mono hj d);obtain ⟨l,oj,m,q⟩:=mem_ready.1 hj;have p:∀e∈oj.after,Region.binds md e=true→e.on≠i:=fun e he hb heq=>by
    have h1:=q e he hb;rw [heq] at h1;exact Ygp listed i (mem_ready.1 hr).1 h1
   have h2:=wpOp_putIf m (f j oj m d l p) (fun cs b=>hsel i oi cs b hi) (fun cs b=>hsel j oj cs b m) hQ hy h1;have g:∀k ok,ops[k]? =some ok→k≠i→(listed.setIfInBounds j true).getD k true=false→
    (∀e∈ok.after,Region.binds md e=true→e.on≠i)→oi.apart ops ok=true:=fun k ok hk hki hun hno=>by
    refine f k ok hk hki ?_ hno;by_cases r:j=k
    ·subst r;exact l
    ·rw [getD_set_ne true r] at hun;exact hun
   refine wpOp_mono (fun a' w' h3=>⟨h3.2.1,ih (listed.setIfInBounds j true) a' w' g (ready_mono hr (Ne.symm d)) h3.1 ?_⟩) h2;rw [Array.setIfInBounds_comm _ _ d];exact h3.2.2
theorem Zgl {i:Nat} {oi:Oper} {v:Value} {fuel:Nat} {listed:Array Bool} {a:Act} {w:World} (hi:ops[i]? =some oi)
 (hs:Region.noSelect ops=true) (hf:Region.free md ops listed i=true) (hr:(Region.ready md ops listed).contains i=true)
 (hQ:∀c a w,Q (.panic c) (a.put oi.dst v) w→Q (.panic c) a w) (hy:YieldsIf P ops (fun _=>True) oi v a)
 (h:AnyG P md ops Q S n fuel (listed.setIfInBounds i true) (a.put oi.dst v) w):AnyG P md ops Q S n (fuel+1) listed a w:=
 Znh hi (Region.noSelect_spec hs) hQ fuel listed a w (Region.free_spec hi hf) (by simpa using hr) hy h
end
def Yat (md:Region.Mode) (ops:Array Oper) (i:Nat):Array Bool:=(List.range ops.size).foldl (fun d j=>d.push (((ops[j]?).map fun o=>o.after.any fun e=>Region.binds md e && (e.on==i || d.getD e.on false)).getD false)) #[]
def Yez (md:Region.Mode) (ops:Array Oper) (i:Nat) (d:Array Bool) (j:Nat):Bool:= !d.getD j false || ((ops[j]?).map fun o=>o.after.any fun e=>Region.binds md e && (e.on==i || d.getD e.on false)).getD false
def Zep (md:Region.Mode) (ops:Array Oper) (n:Nat) (listed:Array Bool) (i:Nat):Bool:=
 (List.range ops.size).all fun j=>(decide (j < n) || (Yat md ops i).getD j false) && (Yez md ops i (Yat md ops i) j && (!(Yat md ops i).getD j false || !listed.getD j true))
def YY (ops:Array Oper) (n i:Nat):Bool:=decide (i < n) && ((ops[i]?).map floats).getD false
def Zva (md:Region.Mode) (ops:Array Oper) (n:Nat) (listed:Array Bool) (i:Nat):Bool:=
 if YY ops n i=true then Region.free md ops listed i && ((Region.ready md ops listed).contains i && (Zcx ops i || Zep md ops n listed i)) else Region.ready md ops listed==[i]
def Zvb (md:Region.Mode) (ops:Array Oper) (n:Nat):Bool→List Nat→Array Bool→Bool
 | _,[],listed=>Region.ready md ops listed==[]
 | d,i::is,listed=>Zva md ops n listed i && (!(d && (YY ops n i && !Zcx ops i)) && Zvb md ops n (d || decide (n≤i)) is (listed.setIfInBounds i true))
def Zyy (md:Region.Mode) (ops:Array Oper) (n:Nat) (is:List Nat):Bool:=Region.noSelect ops && (Zvb md ops n false is (Array.replicate ops.size false) && decide (is.length=ops.size))
section
variable {P:Program} {ops:Array Oper} {Q:Exit→Act→World→Prop} {md:Region.Mode} {S:World→Prop} {n:Nat}
def XN (P:Program) (ops:Array Oper) (Q:Exit→Act→World→Prop) (S:World→Prop) (n:Nat):List Nat→Act→World→Prop
 | [],a,w=>Q .normal a w
 | i::is,a,w=>match ops[i]? with
  | none=>True
  | some o=>if YY ops n i=true then ∃v,(if Zcx ops i=true then YieldsIf P ops (fun _=>True) o v a else YieldsIf P ops S o v a)∧XN P ops Q S n is (a.put o.dst v) w
   else if Region.wanted o (yielded ops a.tmps)=true then Oper.wp P o a w (fun a' w'=>(n≤i∨S w')∧XN P ops Q S n is a' w') Q
   else (n≤i∨S w)∧XN P ops Q S n is (a.put o.dst undef) w
theorem Zni {i:Nat} {oi:Oper} {v:Value} {d:Array Bool} (hi:ops[i]? =some oi) (hsel:∀(j:Nat) (o:Oper) cs b,ops[j]? =some o→o.op≠ .select cs b)
 (hd1:∀j,n≤j→j < ops.size→d.getD j false=true) (hd2:∀j o,ops[j]? =some o→d.getD j false=true→∃e∈o.after,Region.binds md e=true∧(e.on=i∨(e.on < ops.size∧d.getD e.on false=true)))
 (hQ:∀c a w,Q (.panic c) (a.put oi.dst v) w→Q (.panic c) a w):
 ∀(fuel:Nat) (listed:Array Bool) (a:Act) (w:World),
  (∀j oj,ops[j]? =some oj→j≠i→listed.getD j true=false→(∀e∈oj.after,Region.binds md e=true→e.on≠i)→oi.apart ops oj=true)→
  (∀j,j < ops.size→d.getD j false=true→listed.getD j true=false)→
  i∈Region.ready md ops listed→YieldsIf P ops S oi v a→S w→
  AnyG P md ops Q S n fuel (listed.setIfInBounds i true) (a.put oi.dst v) w→AnyG P md ops Q S n (fuel+1) listed a w:=by
 intro fuel
 induction fuel with
 | zero=>
  intro listed a w _ _ hr hy hS H;refine ⟨fun h=>(by rw [h] at hr;cases hr),fun j hj=>?_⟩;by_cases f:j=i
  ·subst f;exact hy.wpOp hi hS ⟨.inr fun h=>h,H⟩
  ·have:=ready_mono hj f;rw [H.1] at this
   cases this
 | succ fuel ih=>
  intro listed a w l m hr hy hS H;refine ⟨fun h=>(by rw [h] at hr;cases hr),fun j hj=>?_⟩;by_cases f:j=i
  ·subst f;exact hy.wpOp hi hS ⟨.inr fun h=>h,H⟩
  ·have h1:=H.2 j (ready_mono hj f);obtain ⟨s,oj,g,t⟩:=mem_ready.1 hj;have u:=(mem_ready.1 hr).1;have r:∀e∈oj.after,Region.binds md e=true→e.on≠i:=fun e he hb heq=>by
    have h1:=t e he hb;rw [heq] at h1;exact Ygp listed i u h1
   have x:d.getD j false=false:=by
    cases hc:d.getD j false with
    | false=>rfl
    | true=>
     obtain ⟨e,he,hb,A⟩:=hd2 j oj g hc;rcases A with h2 | ⟨h2,h3⟩
     ·exact absurd h2 (r e he hb)
     ·exact (Ygp listed e.on (m e.on h2 h3) (t e he hb)).elim
   have z:¬n≤j:=fun hle=>by
    have:=hd1 j hle (Array.getElem?_eq_some_iff.1 g).1;rw [x] at this;cases this
   have h2:=wpOp_putIf g (l j oj g f s r) (fun cs b=>hsel i oi cs b hi) (fun cs b=>hsel j oj cs b g) hQ hy h1;have p:∀k ok,ops[k]? =some ok→k≠i→(listed.setIfInBounds j true).getD k true=false→
    (∀e∈ok.after,Region.binds md e=true→e.on≠i)→oi.apart ops ok=true:=fun k ok hk hki m hno=>by
    refine l k ok hk hki ?_ hno;by_cases q:j=k
    ·subst q;exact s
    ·rw [getD_set_ne true q] at m;exact m
   have y:∀k,k < ops.size→d.getD k false=true→(listed.setIfInBounds j true).getD k true=false:=fun k hk hdk=>by
    have q:j≠k:=fun e=>by subst e;rw [x] at hdk;cases hdk
    rw [getD_set_ne true q];exact m k hk hdk
   refine wpOp_mono (fun a' w' h3=>⟨h3.2.1,ih (listed.setIfInBounds j true) a' w' p y (ready_mono hr (Ne.symm f)) h3.1 ((h3.2.1.resolve_left z) hS) ?_⟩) h2;rw [Array.setIfInBounds_comm _ _ f];exact h3.2.2
theorem Zgm {i:Nat} {oi:Oper} {v:Value} {fuel:Nat} {listed:Array Bool} {a:Act} {w:World} (hi:ops[i]? =some oi)
 (hs:Region.noSelect ops=true) (hf:Region.free md ops listed i=true) (hr:(Region.ready md ops listed).contains i=true) (hw:Zep md ops n listed i=true)
 (hQ:∀c a w,Q (.panic c) (a.put oi.dst v) w→Q (.panic c) a w) (hy:YieldsIf P ops S oi v a) (hS:S w)
 (h:AnyG P md ops Q S n fuel (listed.setIfInBounds i true) (a.put oi.dst v) w):AnyG P md ops Q S n (fuel+1) listed a w:=by
 simp only [Zep,List.all_eq_true,List.mem_range,Bool.and_eq_true,Bool.or_eq_true,decide_eq_true_eq] at hw;refine Zni (d:=Yat md ops i) hi (Region.noSelect_spec hs) ?_ ?_ hQ fuel listed a w (Region.free_spec hi hf) ?_ (by simpa using hr) hy hS h
 ·intro j hj b;rcases (hw j b).1 with h1 | h1
  ·omega
  ·exact h1
 ·intro j o ho g;have b:=(Array.getElem?_eq_some_iff.1 ho).1;have h1:=(hw j b).2.1;unfold Yez at h1;rw [g,ho] at h1;simp only [Bool.not_true,Bool.false_or,Option.map_some,Option.getD_some] at h1;obtain ⟨e,he,hb⟩:=Array.any_eq_true'.1 h1;simp only [Bool.and_eq_true,Bool.or_eq_true,beq_iff_eq] at hb;refine ⟨e,he,hb.1,hb.2.imp id fun h3=>⟨?_,h3⟩⟩;rcases JX e.on ops.size with h4 | h4
  ·exact h4
  ·exfalso;have k:(Yat md ops i).size≤ops.size:=by
    unfold Yat;have:∀(l:List Nat) (d:Array Bool) (f:Array Bool→Nat→Bool),(l.foldl (fun d j=>d.push (f d j)) d).size=d.size+l.length:=by
     intro l
     induction l with
     | nil=>intro d f;simp
     | cons x l ih=>intro d f;simp [ih];omega
    have h5:=this (List.range ops.size) #[] (fun d j=>((ops[j]?).map fun o=>o.after.any fun e=>Region.binds md e && (e.on==i || d.getD e.on false)).getD false);simp only [List.size_toArray,List.length_nil,List.length_range,Nat.zero_add] at h5;exact Nat.le_of_eq h5
   have:(Yat md ops i).getD e.on false=false:=by
    simp [Array.getElem?_eq_none (show (Yat md ops i).size≤e.on by omega)]
   rw [this] at h3;cases h3
 ·intro j hj g;have h1:=(hw j hj).2.2;rw [g] at h1;simpa using h1
theorem AnyG.of_seq (hQ:∀c a d v w,Q (.panic c) (a.put d v) w→Q (.panic c) a w) (hs:Region.noSelect ops=true):
 ∀(is:List Nat) (listed:Array Bool) (a:Act) (w:World) (d:Bool),Zvb md ops n d is listed=true→(d=false→S w)→XN P ops Q S n is a w→AnyG P md ops Q S n is.length listed a w:=by
 intro is
 induction is with
 | nil=>
  intro listed a w d b _ h;exact ⟨by simpa [Zvb] using b,h⟩
 | cons i is ih=>
  intro listed a w d b hS h;simp only [Zvb,Bool.and_eq_true] at b;obtain ⟨e,hd,b⟩:=b;unfold XN at h;unfold Zva at e;split at e
  ·rename_i hf
   simp only [Bool.and_eq_true] at e;obtain ⟨h1,h2,h3⟩:=e;have f:=hf;simp only [YY,Bool.and_eq_true,decide_eq_true_eq] at f;obtain ⟨o,ho⟩:∃o,ops[i]? =some o:=by
    cases hc:ops[i]? with
    | none=>rw [hc] at f;simp at f
    | some o=>exact ⟨o,rfl⟩
   simp only [ho] at h;rw [if_pos hf] at h;obtain ⟨v,hy,hr⟩:=h;by_cases hp:Zcx ops i=true
   ·rw [if_pos hp] at hy;exact Zgl ho hs h1 h2 (fun c a w=>hQ c a o.dst v w) hy (ih _ _ w _ b (fun hd'=>hS (by simp at hd';exact hd'.1)) hr)
   ·rw [if_neg hp] at hy;have g:d=false:=(by rw [hf] at hd;simpa [hp] using hd);have hw:=hS g;exact Zgm ho hs h1 h2 (by simpa [hp] using h3) (fun c a w=>hQ c a o.dst v w) hy hw (ih _ _ w _ b (fun _=>hw) hr)
  ·rename_i hf
   have hr:Region.ready md ops listed=[i]:=(by simpa using e);have hi:i∈Region.ready md ops listed:=(by rw [hr];exact List.mem_singleton.2 rfl);obtain ⟨_,o,ho,_⟩:=mem_ready.1 hi;simp only [ho] at h;rw [if_neg hf] at h;refine ⟨fun h0=>(by rw [hr] at h0;cases h0),fun j hj=>?_⟩;rw [hr] at hj;obtain rfl:j=i:=by simpa using hj
   have h:wpOp P ops Q j (fun a' w'=>(n≤j∨S w')∧XN P ops Q S n is a' w') a w:=by
    unfold wpOp;rw [ho];show if Region.wanted o (yielded ops a.tmps)=true then _ else _
    split
    ·rename_i hw;rw [if_pos hw] at h;exact .inl h
    ·rename_i hw;rw [if_neg hw] at h;exact h
   exact wpOp_mono (fun a' w' h'=>⟨h'.1.imp id (fun h _=>h),ih _ a' w' _ b (fun hle=>h'.1.resolve_left (by simp at hle;omega)) h'.2⟩) h
theorem Zp {id:Nat} {l:List Oper} {a:Act} {w:World} (n:Nat) (is:List Nat) (hm:P.follows .mixedOrders=true) (hok:Zyy .any l.toArray n is=true)
 (h:XN P l.toArray (NoPanic Q) (fun w'=>Below w.heap.size w w') n is a w.drew):(Code.region id l.toArray true).wp P Q a w:=by
 simp only [Zyy,Bool.and_eq_true,decide_eq_true_eq] at hok;obtain ⟨hs,b,hl⟩:=hok;refine wp_region_noPanic (wp_region_any hm (AnyG.any _ _ _ _ (S:=fun w'=>Below w.heap.size w w') (n:=n) ?_));rw [← hl];have:=AnyG.of_seq (P:=P) (Q:=NoPanic Q) (S:=fun w'=>Below w.heap.size w w') (fun c a d v w h=>h) hs is _ a w.drew false b (fun _=>(JR _ _).drew) h
 rwa [hl] at this ⊢
theorem Zx {a:Act} {w:World} (h:Q .normal a w):XN P ops (NoPanic Q) S n [] a w:=h
theorem Zj {o:Oper} {i:Nat} {is:List Nat} {a:Act} {w:World} {v:Value} (ho:ops[i]? =some o) (hf:(YY ops n i && !Zcx ops i)=true) (hw:Region.wanted o (yielded ops a.tmps)=true) (hy:∀w',S w'→(execOp a.eval o).run P w'= .ok (.value v) w') (h:XN P ops Q S n is (a.put o.dst v) w):XN P ops Q S n (i::is) a w:=by
 simp only [Bool.and_eq_true,Bool.not_eq_true'] at hf;unfold XN;rw [ho];show if _ then _ else _
 rw [if_pos hf.1];exact ⟨v,by rw [if_neg (by simp [hf.2])];exact .inl ⟨hw,hy⟩,h⟩
theorem Zd {o:Oper} {i:Nat} {is:List Nat} {a:Act} {w:World} {v:Value} (ho:ops[i]? =some o) (hf:(YY ops n i && Zcx ops i)=true) (hw:Region.wanted o (yielded ops a.tmps)=true) (hy:∀w',True→(execOp a.eval o).run P w'= .ok (.value v) w') (h:XN P ops Q S n is (a.put o.dst v) w):XN P ops Q S n (i::is) a w:=by
 simp only [Bool.and_eq_true] at hf;unfold XN;rw [ho];show if _ then _ else _
 rw [if_pos hf.1];exact ⟨v,by rw [if_pos hf.2];exact .inl ⟨hw,hy⟩,h⟩
theorem Zk {o:Oper} {i:Nat} {is:List Nat} {a:Act} {w:World} (ho:ops[i]? =some o) (hf:YY ops n i=true) (hw:Region.wanted o (yielded ops a.tmps)=false) (h:XN P ops Q S n is (a.put o.dst undef) w):XN P ops Q S n (i::is) a w:=by
 unfold XN;rw [ho];show if _ then _ else _
 rw [if_pos hf];exact ⟨undef,by split <;> exact .inr ⟨hw,rfl⟩,h⟩
theorem Zh {o:Oper} {i:Nat} {is:List Nat} {a:Act} {w:World} (ho:ops[i]? =some o) (hf:YY ops n i=false)
 (h:∀K':Act→World→Prop,Shut (∀a w,(n≤i∨S w)→XN P ops Q S n is a w→K' a w)→if Region.wanted o (yielded ops a.tmps)=true then Oper.wp P o a w K' Q else K' (a.put o.dst undef) w):XN P ops Q S n (i::is) a w:=by
 have h1:=h (fun a' w'=>(n≤i∨S w')∧XN P ops Q S n is a' w') (fun a w h1 h2=>⟨h1,h2⟩);unfold XN;rw [ho];show if _ then _ else _
 rw [if_neg (by simp [hf])];exact h1
end
theorem Zm {w:World} {p:Addr} {v:Value} (h:w.cell? p=some v):∀w',Below w.heap.size w w'→w'.cell? p=some v:=fun _ hb=>Zg hb h
end
section
inductive UK where
 | done
 | go (i:Nat) (p:UK)
 | fork (i:Nat) (p:UK) (j:Nat) (q:UK)
 | bag (l:List Nat) (p:UK)
def UK.of:List Nat→UK→UK
 | [],p=>p
 | i::is,p=> .go i (UK.of is p)
def Zfw (md:Region.Mode) (ops:Array Oper) (n:Nat) (K:Array Bool→Bool):Nat→List Nat→Array Bool→Bool
 | 0,_,listed=>K listed
 | m+1,l,listed=>l.all (fun k=>listed.getD k true==false) && (!(Region.ready md ops listed).isEmpty && (Region.ready md ops listed).all fun i=>(l.contains i && decide (i < n)) && Zfw md ops n K m (l.erase i) (listed.setIfInBounds i true))
def WH (md:Region.Mode) (ops:Array Oper) (n:Nat):Bool→UK→Array Bool→Bool
 | _,.done,listed=>Region.ready md ops listed==[]
 | d,.go i p,listed=>Zva md ops n listed i && (!(d && (YY ops n i && !Zcx ops i)) && WH md ops n (d || decide (n≤i)) p (listed.setIfInBounds i true))
 | d,.fork i p j q,listed=>(!YY ops n i && !YY ops n j) && (Region.ready md ops listed==[i,j] && (WH md ops n (d || decide (n≤i)) p (listed.setIfInBounds i true) && WH md ops n (d || decide (n≤j)) q (listed.setIfInBounds j true)))
 | d,.bag l p,listed=> !d && Zfw md ops n (fun b=>WH md ops n false p b) l.length l listed
section
variable {P:Program} {ops:Array Oper} {Q:Exit→Act→World→Prop} {md:Region.Mode} {S:World→Prop} {n:Nat}
def YQ (P:Program) (ops:Array Oper) (Q:Exit→Act→World→Prop) (S:World→Prop) (n i:Nat) (K:Act→World→Prop) (a:Act) (w:World):Prop:=match ops[i]? with
 | none=>True
 | some o=>if Region.wanted o (yielded ops a.tmps)=true then Oper.wp P o a w (fun a' w'=>(n≤i∨S w')∧K a' w') Q else (n≤i∨S w)∧K (a.put o.dst undef) w
def Zze (P:Program) (ops:Array Oper) (Q:Exit→Act→World→Prop) (md:Region.Mode) (S:World→Prop) (n:Nat) (K:Act→World→Prop):Nat→List Nat→Act→World→Prop
 | 0,_,a,w=>K a w
 | m+1,l,a,w=>∀i oi,i∈l→ops[i]? =some oi→(∀e∈oi.after,Region.binds md e=true→e.on ∉ l)→YQ P ops Q S n i (Zze P ops Q md S n K m (l.erase i)) a w
def Yg (P:Program) (ops:Array Oper) (Q:Exit→Act→World→Prop) (S:World→Prop) (n:Nat):UK→Act→World→Prop
 | .done,a,w=>Q .normal a w
 | .go i p,a,w=>match ops[i]? with
  | none=>True
  | some o=>if YY ops n i=true then ∃v,(if Zcx ops i=true then YieldsIf P ops (fun _=>True) o v a else YieldsIf P ops S o v a)∧Yg P ops Q S n p (a.put o.dst v) w else YQ P ops Q S n i (Yg P ops Q S n p) a w
 | .fork i p j q,a,w=>YQ P ops Q S n i (Yg P ops Q S n p) a w∧YQ P ops Q S n j (Yg P ops Q S n q) a w
 | .bag l p,a,w=>Zze P ops Q .any S n (Yg P ops Q S n p) l.length l a w
theorem YQ.wpOp {i:Nat} {o:Oper} {K:Act→World→Prop} {a:Act} {w:World} (ho:ops[i]? =some o) (h:YQ P ops Q S n i K a w):Go.wpOp P ops Q i (fun a' w'=>(n≤i∨S w')∧K a' w') a w:=by
 unfold YQ at h;rw [ho] at h;unfold Go.wpOp;rw [ho];show if Region.wanted o (yielded ops a.tmps)=true then _ else _
 have h:if Region.wanted o (yielded ops a.tmps)=true then Oper.wp P o a w (fun a' w'=>(n≤i∨S w')∧K a' w') Q else (n≤i∨S w)∧K (a.put o.dst undef) w:=h
 split
 ·rename_i hw;rw [if_pos hw] at h;exact .inl h
 ·rename_i hw;rw [if_neg hw] at h;exact h
def UK.len:UK→Nat
 | .done=>0
 | .go _ p=>p.len+1
 | .fork _ p _ _=>p.len+1
 | .bag l p=>p.len+l.length
def UK.even:UK→Bool
 | .done=>true
 | .go _ p=>p.even
 | .fork _ p _ q=>p.even && (q.even && (p.len==q.len))
 | .bag _ p=>p.even
def Zpx (md:Region.Mode) (ops:Array Oper) (n:Nat) (p:UK):Bool:=Region.noSelect ops && (WH md ops n false p (Array.replicate ops.size false) && (p.even && decide (p.len=ops.size)))
theorem AnyG.of_plan (hQ:∀c a d v w,Q (.panic c) (a.put d v) w→Q (.panic c) a w) (hs:Region.noSelect ops=true):
 ∀(p:UK) (listed:Array Bool) (a:Act) (w:World) (d:Bool),p.even=true→WH .any ops n d p listed=true→(d=false→S w)→Yg P ops Q S n p a w→AnyG P .any ops Q S n p.len listed a w:=by
 intro p
 induction p with
 | done=>
  intro listed a w d _ f _ h;exact ⟨by simpa [WH] using f,h⟩
 | go i p ih=>
  intro listed a w d g f hS h;simp only [WH,Bool.and_eq_true] at f;obtain ⟨r,hd,f⟩:=f;unfold Yg at h;unfold Zva at r;split at r
  ·rename_i hf
   simp only [Bool.and_eq_true] at r;obtain ⟨h1,h2,h3⟩:=r;have s:=hf;simp only [YY,Bool.and_eq_true,decide_eq_true_eq] at s;obtain ⟨o,ho⟩:∃o,ops[i]? =some o:=by
    cases hc:ops[i]? with
    | none=>rw [hc] at s;simp at s
    | some o=>exact ⟨o,rfl⟩
   simp only [ho] at h;rw [if_pos hf] at h;obtain ⟨v,hy,hr⟩:=h;by_cases hp:Zcx ops i=true
   ·rw [if_pos hp] at hy;exact Zgl ho hs h1 h2 (fun c a w=>hQ c a o.dst v w) hy (ih _ _ w _ g f (fun hd'=>hS (by simp at hd';exact hd'.1)) hr)
   ·rw [if_neg hp] at hy;have A:d=false:=(by rw [hf] at hd;simpa [hp] using hd);have hw:=hS A;exact Zgm ho hs h1 h2 (by simpa [hp] using h3) (fun c a w=>hQ c a o.dst v w) hy hw (ih _ _ w _ g f (fun _=>hw) hr)
  ·rename_i hf
   have hr:Region.ready .any ops listed=[i]:=(by simpa using r);have hi:i∈Region.ready .any ops listed:=(by rw [hr];exact List.mem_singleton.2 rfl);obtain ⟨_,o,ho,_⟩:=mem_ready.1 hi;simp only [ho] at h;rw [if_neg hf] at h;refine ⟨fun h0=>(by rw [hr] at h0;cases h0),fun j hj=>?_⟩;rw [hr] at hj;obtain rfl:j=i:=by simpa using hj
   exact wpOp_mono (fun a' w' h'=>⟨h'.1.imp id (fun h _=>h),ih _ a' w' _ g f (fun hle=>h'.1.resolve_left (by simp at hle;omega)) h'.2⟩) (h.wpOp ho)
 | fork i p j q ihp ihq=>
  intro listed a w d g f hS h;simp only [WH,Bool.and_eq_true] at f;obtain ⟨_,hr,C,D⟩:=f;simp only [UK.even,Bool.and_eq_true,beq_iff_eq] at g;obtain ⟨E,F,u⟩:=g;have hr:Region.ready .any ops listed=[i,j]:=by simpa using hr
  obtain ⟨h1,h2⟩:=h;have hi:i∈Region.ready .any ops listed:=by rw [hr];simp
  have hj:j∈Region.ready .any ops listed:=by rw [hr];simp
  obtain ⟨_,oi,G,_⟩:=mem_ready.1 hi;obtain ⟨_,oj,H,_⟩:=mem_ready.1 hj;refine ⟨fun h0=>(by rw [hr] at h0;cases h0),fun k hk=>?_⟩;rw [hr] at hk;simp only [List.mem_cons,List.not_mem_nil,or_false] at hk;rcases hk with rfl | rfl
  ·exact wpOp_mono (fun a' w' h'=>⟨h'.1.imp id (fun h _=>h),ihp _ a' w' _ E C (fun hle=>h'.1.resolve_left (by simp at hle;omega)) h'.2⟩) (h1.wpOp G)
  ·exact wpOp_mono (fun a' w' h'=>⟨h'.1.imp id (fun h _=>h),by rw [u];exact ihq _ a' w' _ F D (fun hle=>h'.1.resolve_left (by simp at hle;omega)) h'.2⟩) (h2.wpOp H)
 | bag l p ih=>
  intro listed a w d g f hS h;simp only [WH,Bool.and_eq_true,Bool.not_eq_true'] at f;obtain ⟨hd,f⟩:=f;have B:∀(m:Nat) (l:List Nat) (listed:Array Bool) (a:Act) (w:World),Zfw .any ops n (fun b=>WH .any ops n false p b) m l listed=true→S w→Zze P ops Q .any S n (Yg P ops Q S n p) m l a w→AnyG P .any ops Q S n (p.len+m) listed a w:=by
   intro m
   induction m with
   | zero=>exact fun l listed a w hg hw h=>ih listed a w false g hg (fun _=>hw) h
   | succ m ihm=>
    intro l listed a w hg hw h;simp only [Zfw,Bool.and_eq_true,Bool.not_eq_true',List.all_eq_true,decide_eq_true_eq,beq_iff_eq] at hg;obtain ⟨I,x,y⟩:=hg;refine ⟨fun h0=>(by rw [h0] at x;simp at x),fun j hj=>?_⟩;obtain ⟨_,o,ho,z⟩:=mem_ready.1 hj;obtain ⟨⟨t,K⟩,J⟩:=y j hj;have t:j∈l:=(by simpa using t);exact wpOp_mono (fun a' w' h'=>⟨h'.1.imp id (fun h _=>h),ihm _ _ a' w' J (h'.1.resolve_left (by omega)) h'.2⟩) ((h j o t ho fun e he hb hin=>by
     have h1:=z e he hb;have h2:=I e.on hin;rcases JX e.on listed.size with h' | h'
     ·simp [h'] at h1 h2;rw [h1] at h2;cases h2
     ·simp [Array.getElem?_eq_none h'] at h2).wpOp ho)
  exact B _ _ _ _ _ f (hS hd) h
theorem YC {id:Nat} {l:List Oper} {a:Act} {w:World} (n:Nat) (p:UK) (hm:P.follows .mixedOrders=true) (hok:Zpx .any l.toArray n p=true)
 (h:Yg P l.toArray (NoPanic Q) (fun w'=>Below w.heap.size w w') n p a w.drew):(Code.region id l.toArray true).wp P Q a w:=by
 simp only [Zpx,Bool.and_eq_true,decide_eq_true_eq] at hok;obtain ⟨hs,b,e,hl⟩:=hok;refine wp_region_noPanic (wp_region_any hm (AnyG.any _ _ _ _ (S:=fun w'=>Below w.heap.size w w') (n:=n) ?_));have:=AnyG.of_plan (P:=P) (Q:=NoPanic Q) (S:=fun w'=>Below w.heap.size w w') (fun c a d v w h=>h) hs p _ a w.drew false e b (fun _=>(JR _ _).drew) h
 rwa [hl] at this
theorem Yl {a:Act} {w:World} (h:Q .normal a w):Yg P ops (NoPanic Q) S n .done a w:=h
theorem ZT {o:Oper} {i:Nat} {p:UK} {a:Act} {w:World} {v:Value} (ho:ops[i]? =some o) (hf:(YY ops n i && !Zcx ops i)=true) (hw:Region.wanted o (yielded ops a.tmps)=true) (hy:∀w',S w'→(execOp a.eval o).run P w'= .ok (.value v) w') (h:Yg P ops Q S n p (a.put o.dst v) w):Yg P ops Q S n (.go i p) a w:=by
 simp only [Bool.and_eq_true,Bool.not_eq_true'] at hf;unfold Yg;rw [ho];show if _ then _ else _
 rw [if_pos hf.1];exact ⟨v,by rw [if_neg (by simp [hf.2])];exact .inl ⟨hw,hy⟩,h⟩
theorem ZJ {o:Oper} {i:Nat} {p:UK} {a:Act} {w:World} {v:Value} (ho:ops[i]? =some o) (hf:(YY ops n i && Zcx ops i)=true) (hw:Region.wanted o (yielded ops a.tmps)=true) (hy:∀w',True→(execOp a.eval o).run P w'= .ok (.value v) w') (h:Yg P ops Q S n p (a.put o.dst v) w):Yg P ops Q S n (.go i p) a w:=by
 simp only [Bool.and_eq_true] at hf;unfold Yg;rw [ho];show if _ then _ else _
 rw [if_pos hf.1];exact ⟨v,by rw [if_pos hf.2];exact .inl ⟨hw,hy⟩,h⟩
theorem ZU {o:Oper} {i:Nat} {p:UK} {a:Act} {w:World} (ho:ops[i]? =some o) (hf:YY ops n i=true) (hw:Region.wanted o (yielded ops a.tmps)=false) (h:Yg P ops Q S n p (a.put o.dst undef) w):Yg P ops Q S n (.go i p) a w:=by
 unfold Yg;rw [ho];show if _ then _ else _
 rw [if_pos hf];exact ⟨undef,by split <;> exact .inr ⟨hw,rfl⟩,h⟩
theorem Vh {o:Oper} {i:Nat} {K:Act→World→Prop} {a:Act} {w:World} (ho:ops[i]? =some o)
 (h:∀K':Act→World→Prop,Shut (∀a w,(n≤i∨S w)→K a w→K' a w)→if Region.wanted o (yielded ops a.tmps)=true then Oper.wp P o a w K' Q else K' (a.put o.dst undef) w):YQ P ops Q S n i K a w:=by
 have h1:=h (fun a' w'=>(n≤i∨S w')∧K a' w') (fun a w h1 h2=>⟨h1,h2⟩);unfold YQ;rw [ho];exact h1
theorem ZB {o:Oper} {i:Nat} {p:UK} {a:Act} {w:World} (ho:ops[i]? =some o) (hf:YY ops n i=false)
 (h:∀K':Act→World→Prop,Shut (∀a w,(n≤i∨S w)→Yg P ops Q S n p a w→K' a w)→if Region.wanted o (yielded ops a.tmps)=true then Oper.wp P o a w K' Q else K' (a.put o.dst undef) w):Yg P ops Q S n (.go i p) a w:=by
 unfold Yg;rw [ho];show if _ then _ else _
 rw [if_neg (by simp [hf])];exact Vh ho h
theorem ZK {o:Oper} {i:Nat} {p:UK} {a:Act} {w:World} (ho:ops[i]? =some o) (hf:YY ops n i=false) (hw:Region.wanted o (yielded ops a.tmps)=false) (hS:S w) (h:Yg P ops Q S n p (a.put o.dst undef) w):Yg P ops Q S n (.go i p) a w:=by
 refine ZB ho hf fun K hK=>?_
 rw [if_neg (by rw [hw];simp)];exact hK _ _ (.inr hS) h
theorem WI {oi oj:Oper} {i j:Nat} {p q:UK} {a:Act} {w:World} (hi:ops[i]? =some oi) (hj:ops[j]? =some oj)
 (h1:∀K':Act→World→Prop,Shut (∀a w,(n≤i∨S w)→Yg P ops Q S n p a w→K' a w)→if Region.wanted oi (yielded ops a.tmps)=true then Oper.wp P oi a w K' Q else K' (a.put oi.dst undef) w)
 (h2:∀K':Act→World→Prop,Shut (∀a w,(n≤j∨S w)→Yg P ops Q S n q a w→K' a w)→if Region.wanted oj (yielded ops a.tmps)=true then Oper.wp P oj a w K' Q else K' (a.put oj.dst undef) w):Yg P ops Q S n (.fork i p j q) a w:=⟨Vh hi h1,Vh hj h2⟩
theorem YQ.mono {i:Nat} {K K':Act→World→Prop} {a:Act} {w:World} (h:YQ P ops Q S n i K a w) (hk:∀a w,K a w→K' a w):YQ P ops Q S n i K' a w:=by
 unfold YQ at *;split
 ·trivial
 ·rename_i o ho
  rw [ho] at h;simp only at h;split
  ·rename_i hw;rw [if_pos hw] at h;exact Oper.wp_mono (fun a w h'=>⟨h'.1,hk a w h'.2⟩) h
  ·rename_i hw;rw [if_neg hw] at h;exact ⟨h.1,hk _ _ h.2⟩
theorem Zpy {l:List Nat} {p:UK} {a:Act} {w:World} (J:(Nat→Prop)→Act→World→Prop) (hl:l.Nodup) (h0:J (fun _=>False) a w) (hs:∀D a w i oi,i∈l→¬D i→ops[i]? =some oi→(∀e∈oi.after,Region.binds .any e=true→e.on∈l→D e.on)→J D a w→YQ P ops Q S n i (J fun k=>D k∨k=i) a w) (h1:∀D a w,(∀k∈l,D k)→J D a w→Yg P ops Q S n p a w):Yg P ops Q S n (.bag l p) a w:=by
 have g:∀(m:Nat) (r:List Nat) (D:Nat→Prop) (a:Act) (w:World),r.length=m→r.Nodup→(∀k∈r,¬D k)→(∀k∈r,k∈l)→(∀k∈l,k∈r∨D k)→J D a w→Zze P ops Q .any S n (Yg P ops Q S n p) m r a w:=by
  intro m
  induction m with
  | zero=>
   intro r D a w hr _ _ _ hd hj;have hr:=List.eq_nil_of_length_eq_zero hr;subst hr;exact h1 D a w (fun k hk=>(hd k hk).resolve_left (by simp)) hj
  | succ m ih=>
   intro r D a w hr c d b hd hj i oi hi j f;refine (hs D a w i oi (b i hi) (d i hi) j (fun e he hb hl=>(hd e.on hl).resolve_left (f e he hb)) hj).mono fun a' w' hj'=>ih _ _ a' w' (by rw [List.length_erase_of_mem hi];omega) (c.erase i) (fun k hk=>by
    rintro (h | h)
    ·exact d k (List.mem_of_mem_erase hk) h
    ·exact (c.mem_erase_iff.1 hk).1 h) (fun k hk=>b k (List.mem_of_mem_erase hk)) (fun k hk=>?_) hj'
   rcases hd k hk with h | h
   ·by_cases e:k=i
    ·exact .inr (.inr e)
    ·exact .inl ((List.mem_erase_of_ne e).2 h)
   ·exact .inr (.inl h)
 exact g _ l _ a w rfl hl (fun _ _ h=>h) (fun _ h=>h) (fun _ h=> .inl h) h0
def Zfp (a:Act) (d1:Nat) (s1:Value) (d2:Nat) (s2:Value) (d3:Nat) (s3:Value) (d4:Nat) (s4:Value) (d5:Nat) (s5:Value):Act:=((((a.put (some d1) s1).put (some d2) s2).put (some d3) s3).put (some d4) s4).put (some d5) s5
theorem Zvk {l:List Nat} {p:UK} {a:Act} {w:World} (d1 d2 d3 d4 d5:Nat) (s1 s2 s3 s4 s5:Value) (R:(Nat→Prop)→Value→Value→Value→Value→Value→World→Prop) (ha:a=Zfp a d1 s1 d2 s2 d3 s3 d4 s4 d5 s5) (hl:l.Nodup) (h0:R (fun _=>False) s1 s2 s3 s4 s5 w)
 (hs:∀D s1 s2 s3 s4 s5 w i oi,i∈l→¬D i→ops[i]? =some oi→(∀e∈oi.after,Region.binds .any e=true→e.on∈l→D e.on)→R D s1 s2 s3 s4 s5 w→YQ P ops Q S n i (fun a' w'=>∃s1 s2 s3 s4 s5,a'=Zfp a d1 s1 d2 s2 d3 s3 d4 s4 d5 s5∧R (fun k=>D k∨k=i) s1 s2 s3 s4 s5 w') (Zfp a d1 s1 d2 s2 d3 s3 d4 s4 d5 s5) w)
 (h1:∀D s1 s2 s3 s4 s5 w,(∀k∈l,D k)→R D s1 s2 s3 s4 s5 w→Yg P ops Q S n p (Zfp a d1 s1 d2 s2 d3 s3 d4 s4 d5 s5) w):Yg P ops Q S n (.bag l p) a w:=by
 refine Zpy (fun D a' w=>∃s1 s2 s3 s4 s5,a'=Zfp a d1 s1 d2 s2 d3 s3 d4 s4 d5 s5∧R D s1 s2 s3 s4 s5 w) hl ⟨s1,s2,s3,s4,s5,ha,h0⟩ ?_ ?_
 ·rintro D a' w i oi hi hn ho hd ⟨t1,t2,t3,t4,t5,rfl,hr⟩;exact hs D t1 t2 t3 t4 t5 w i oi hi hn ho hd hr
 ·rintro D a' w hd ⟨t1,t2,t3,t4,t5,rfl,hr⟩;exact h1 D t1 t2 t3 t4 t5 w hd hr
end
end
theorem Xl {P:Program} {ops:Array Oper} {Q:Exit→Act→World→Prop} {S:World→Prop} {n:Nat} {o:Oper} {i:Nat} {is:List Nat} {a:Act} {w:World} (ho:ops[i]? =some o) (hf:YY ops n i=false) (hw:Region.wanted o (yielded ops a.tmps)=false) (hS:S w) (h:XN P ops Q S n is (a.put o.dst undef) w):XN P ops Q S n (i::is) a w:=by
 refine Zh ho hf fun K hK=>?_
 rw [if_neg (by rw [hw];simp)];exact hK _ _ (.inr hS) h
section
section
variable {P:Program} {ops:Array Oper} {Q:Exit→Act→World→Prop} {S:World→Prop} {n:Nat}
def Yee (ops:Array Oper) (i k:Nat):Bool:=match ops[i]? with
 | some o=>o.after.any fun e=>Region.binds .any e && e.on==k
 | none=>false
def X7 (P:Program) (ops:Array Oper) (Q:Exit→Act→World→Prop) (S:World→Prop) (n:Nat) (l:List Nat) (a:Act) (d1 d2 d3 d4 d5:Nat) (R:(Nat→Prop)→Value→Value→Value→Value→Value→World→Prop) (i:Nat):Prop:=
 ∀D s1 s2 s3 s4 s5 w,¬D i→(∀k∈l,Yee ops i k=true→D k)→R D s1 s2 s3 s4 s5 w→YQ P ops Q S n i (fun a' w'=>∃s1 s2 s3 s4 s5,a'=Zfp a d1 s1 d2 s2 d3 s3 d4 s4 d5 s5∧R (fun k=>D k∨k=i) s1 s2 s3 s4 s5 w') (Zfp a d1 s1 d2 s2 d3 s3 d4 s4 d5 s5) w
theorem Zlm {l:List Nat} {p:UK} {a:Act} {w:World} (d1 d2 d3 d4 d5:Nat) (s1 s2 s3 s4 s5:Value) (R:(Nat→Prop)→Value→Value→Value→Value→Value→World→Prop) (ha:a=Zfp a d1 s1 d2 s2 d3 s3 d4 s4 d5 s5) (hl:l.Nodup) (h0:R (fun _=>False) s1 s2 s3 s4 s5 w)
 (hs:∀i∈l,X7 P ops Q S n l a d1 d2 d3 d4 d5 R i)
 (h1:∀D s1 s2 s3 s4 s5 w,(∀k∈l,D k)→R D s1 s2 s3 s4 s5 w→Yg P ops Q S n p (Zfp a d1 s1 d2 s2 d3 s3 d4 s4 d5 s5) w):Yg P ops Q S n (.bag l p) a w:=
 Zvk d1 d2 d3 d4 d5 s1 s2 s3 s4 s5 R ha hl h0 (fun D s1 s2 s3 s4 s5 w i oi hi hn ho hd hr=>hs i hi D s1 s2 s3 s4 s5 w hn (fun k hk hb=>by
  unfold Yee at hb
  rw [ho] at hb
  simp only [Array.any_eq_true,Bool.and_eq_true,beq_iff_eq] at hb
  obtain ⟨j,hj,h1,h2⟩:=hb
  subst h2
  exact hd _ (Array.getElem_mem hj) h1 hk) hr) h1
theorem X7.mk {l:List Nat} {a:Act} {d1 d2 d3 d4 d5:Nat} {R:(Nat→Prop)→Value→Value→Value→Value→Value→World→Prop} {i:Nat} {o:Oper} (ho:ops[i]? =some o)
 (h:∀D s1 s2 s3 s4 s5 w b,b=Zfp a d1 s1 d2 s2 d3 s3 d4 s4 d5 s5→¬D i→(∀k∈l,Yee ops i k=true→D k)→R D s1 s2 s3 s4 s5 w→∀K':Act→World→Prop,Shut (∀a' w',(n≤i∨S w')→(∃s1 s2 s3 s4 s5,a'=Zfp a d1 s1 d2 s2 d3 s3 d4 s4 d5 s5∧R (fun k=>D k∨k=i) s1 s2 s3 s4 s5 w')→K' a' w')→if Region.wanted o (yielded ops b.tmps)=true then Oper.wp P o b w K' Q else K' (b.put o.dst undef) w):X7 P ops Q S n l a d1 d2 d3 d4 d5 R i:=
 fun D s1 s2 s3 s4 s5 w hn hd hr=>Vh ho (h D s1 s2 s3 s4 s5 w _ rfl hn hd hr)
end
end
end Go.Proofs.YtncmobkhenfhpaaGreat
