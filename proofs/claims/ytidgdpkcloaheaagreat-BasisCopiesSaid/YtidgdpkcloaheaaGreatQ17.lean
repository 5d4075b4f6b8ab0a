/- Lemmas of the claim; no condition. -/
import Derived.Test.YtidgdpkcloaheaaGreatQ16
set_option linter.all false
set_option maxRecDepth 100000
set_option maxHeartbeats 40000000
namespace Go.Proofs.YtidgdpkcloaheaaGreat
open Go.RowKit
open Pl
attribute [local go_sem ↓] Go.wp_at_zero Go.wp_at_succ
def Zrx [Old] (base:Nat) (m K:Nat) (f:Nat→Rat) (wr:World) (v:Value):Prop:=
 ∃fs,YL base wr v fs∧fs.length=m∧(∀i,i < m→qAt fs i=f i)∧RsL K fs
theorem Zrx.at_ [Old] {base m K:Nat} {f:Nat→Rat} {w:World} {g n c:Nat} (h:Zrx base m K f w (.slice (some ⟨g,0,none⟩) n c)) {k:Nat} (hk:k < m):
 ∃a A n c A' n' c',(w.cell? ⟨g,k * 4,none⟩=some (.bool (RF.num a).neg)∧w.cell? ⟨g,k * 4+1,none⟩=some (.slice A n c)∧w.cell? ⟨g,k * 4+2,none⟩=some (.bool (RF.den a).neg)∧w.cell? ⟨g,k * 4+3,none⟩=some (.slice A' n' c'))∧(w.frozen? ⟨g,k * 4,none⟩=false∧w.frozen? ⟨g,k * 4+1,none⟩=false∧w.frozen? ⟨g,k * 4+2,none⟩=false∧w.frozen? ⟨g,k * 4+3,none⟩=false)∧Zm w (.agg #[.bool a.num.neg,.slice A n c,.bool a.den.neg,.slice A' n' c']) a∧a.q=f k∧a.Rs K:=by
 obtain ⟨fs,h1,h2,h3,h4⟩:=h;obtain ⟨a,ha⟩:=Zcs (fs:=fs) (i:=k) (by omega);obtain ⟨x,y,z,u,hc,hf,hm⟩:=h1.at_ ha;obtain ⟨A1,n1,k1,A2,n2,k2,hv,d1,d2⟩:=id hm;simp at hv;obtain ⟨rfl,rfl,rfl,rfl⟩:=hv;exact ⟨a,A1,n1,k1,A2,n2,k2,hc,hf,hm,by rw [← h3 k hk,UW ha],h4 k a ha⟩
def Vi (w:World) (v:Value) (zs:List Int):Prop:=
 ∃a cap,v= .slice a zs.length cap∧zs.length≤cap∧cap≤maxLen∧(0 < zs.length→∃b off,a=some ⟨b,off,none⟩∧∀i,i < zs.length→w.cell? ⟨b,off+i,none⟩=some (.int .i64 (zs.getD i 0)))∧∀z∈zs,-9223372036854775808≤z∧z≤9223372036854775807
theorem Vi.below {w w':World} {v:Value} {zs:List Int} (h:Vi w v zs) (hb:Below w.heap.size w w'):Vi w' v zs:=by
 obtain ⟨a,cap,h1,h2,h3,h4,h5⟩:=h;refine ⟨a,cap,h1,h2,h3,fun hp=>?_,h5⟩;obtain ⟨b,c,g1,g2⟩:=h4 hp;exact ⟨b,c,g1,fun i hi=>ZH hb (g2 i hi)⟩
theorem Vi.shape {w:World} {v:Value} {zs:List Int} (h:Vi w v zs):∃a cap,v= .slice a zs.length cap∧zs.length≤cap∧cap≤9223372036854775807:=by
 obtain ⟨a,cap,h1,h2,h3,h4,h5⟩:=h;unfold maxLen at h3;exact ⟨a,cap,h1,h2,by omega⟩
theorem Vi.at_ {w:World} {a:Option Addr} {n cap:Nat} {zs:List Int} (h:Vi w (.slice a n cap) zs) {i:Nat} (hi:i < n):
 ∃b off z,a=some ⟨b,off,none⟩∧w.cell? ⟨b,off+i,none⟩=some (.int .i64 z)∧zs[i]? =some z∧ -9223372036854775808≤z∧z≤9223372036854775807:=by
 obtain ⟨a',c,h1,h2,h3,h4,h5⟩:=h;injection h1 with e1 e2 e3;subst e1;obtain ⟨b,off,g1,g2⟩:=h4 (by omega);have hg:zs[i]? =some (zs.getD i 0):=by simp [List.getD,JQ (show i < zs.length by omega)]
 have hm:=h5 _ (List.mem_of_getElem? hg);exact ⟨b,off,_,g1,g2 i (by omega),hg,hm⟩
def Wz [Old] (base:Nat) (w:World) (v:Value) (es:List En):Prop:=∃cs,w.ownsRow base 39 5 v es.length cs∧EnC w cs es
theorem Wz.vec [Old] {base:Nat} {w:World} {v:Value} {es:List En} (h:Wz base w v es):Wy w v es:=by
 obtain ⟨cs,h1,h2⟩:=h;exact ⟨cs,X9.of_own h1,h2⟩
theorem Wz.below [Old] {base:Nat} {w w':World} {v:Value} {es:List En} (h:Wz base w v es) (hb:Below w.heap.size w w'):Wz base w' v es:=by
 obtain ⟨cs,h1,h2⟩:=h;exact ⟨cs,own_below h1 hb,h2.keep (ZE.of_below hb)⟩
theorem Wz.nil [Old] (base:Nat) (w:World):Wz base w (.slice none 0 0) []:=⟨[],World.ownsRow_nil _ _ _ _,EnC.nil _⟩
theorem info_entry:(Tryz.prog.info? 39).map (fun i=>(i.zero,i.size,i.bytes))=some (some (.agg #[.int .i64 0,.bool false,.slice none 0 0,.bool false,.slice none 0 0]),5,72):=by kernel_rfl
theorem Zct {k:Int} {x y:Bool} {A A':Option Addr} {n c n' c':Nat}:∀u∈[Value.int .i64 k,.bool x,.slice A n c,.bool y,.slice A' n' c'],u.oneCell'=true:=by
 intro u hu;simp at hu;rcases hu with rfl | rfl | rfl | rfl | rfl <;> rfl
theorem Vy [Old] {ops:Array Oper} {rest:List Oper} {o:Oper} {a:Act} {Q:Exit→Act→World→Prop} (hgd:o.guard=none) (s x:Operand)
 (ho:o.op= .call { callee:= .builtin .append,args:=#[s,x],argTypes:=#[28,28] })
 (W:World) (base:Nat) (v:Value) (es:List En) (hs:a.eval s=v) (hown:Wz base W v es) (b b':Bool) (A A':Option Addr) (n c n' c':Nat) (k:Int) (f:RF) (hf:Zm W (.agg #[.bool b,.slice A n c,.bool b',.slice A' n' c']) f)
 (hx:a.eval x= .slice (some ⟨W.heap.size,0,none⟩) 1 1) (hn:es.length+1≤1099511627776) (hbase:base≤W.heap.size)
 (h:∀v' w',Wz base w' v' (es++[⟨k,f⟩])→Zk 39 W w'→Below base W w'→wpList Tryz.prog ops Q rest (a.put o.dst v') w') (hO:Old.n≤base:=by first | assumption | exact Nat.zero_le _ | omega | ((first | with_reducible refine Zb.le ?_ | with_reducible refine Zb.le1 ?_ | with_reducible refine Zb.le2 ?_ | with_reducible refine Zb.le3 ?_);repeat (first | assumption | exact Zb.up (by assumption) hOl | exact Zb.up (Hid.out (by assumption)) hOl | with_reducible refine Zb.set ?_ _ _ | with_reducible refine Zb.mk_ ?_ _ | with_reducible refine Zb.dr ?_ | with_reducible refine Zb.drN ?_ | refine Zb.up (by assumption) ?_ | refine Zb.up (Hid.out (by assumption)) ?_))):
 wpList Tryz.prog ops Q (o::rest) a (W.alloc (.cells #[.int .i64 k,.bool b,.slice A n c,.bool b',.slice A' n' c'] 39)):=by
 obtain ⟨cs,h1,h2⟩:=hown;obtain ⟨i0,hi,d,g,i⟩:=info_parts info_entry;refine UC hgd s x 28 ho 39 i0 _ 5 72 Tryz.underlying28 hi d g i rfl (by decide) W base v es.length cs [.int .i64 k,.bool b,.slice A n c,.bool b',.slice A' n' c'] hs h1 hx rfl Zct (by unfold maxLen;omega) (by omega) hbase ?_;intro v' w' g1 g2 g3;refine h v' w' ⟨_,by simpa using g1,?_⟩ g2 g3;have hk:=g2.keep (by decide);exact (h2.keep hk).snoc (e:=⟨k,f⟩) (hf.keep hk)
def Yl [Old] (base:Nat) (w:World) (v:Value) (cols:List (List En)):Prop:=∃cs,w.ownsRow base 28 1 v cols.length cs∧∀(k:Nat) (c:List En),cols[k]? =some c→∃u,cs[k]? =some u∧Wy w u c
theorem Yl.vecs [Old] {base:Nat} {w:World} {v:Value} {cols:List (List En)} (h:Yl base w v cols):Xf w v cols:=by
 obtain ⟨cs,h1,h2⟩:=h;exact ⟨cs,X9.of_own h1,h2⟩
theorem Yl.below [Old] {base:Nat} {w w':World} {v:Value} {cols:List (List En)} (h:Yl base w v cols) (hb:Below w.heap.size w w'):Yl base w' v cols:=by
 obtain ⟨cs,h1,h2⟩:=h;exact ⟨cs,own_below h1 hb,fun k c hc=>by obtain ⟨u,g1,g2⟩:=h2 k c hc;exact ⟨u,g1,g2.below hb⟩⟩
theorem Yl.but [Old] {base:Nat} {w w':World} {e:TypeId} {v:Value} {cols:List (List En)} (h:Yl base w v cols) (hk:Zk e w w') (h0:28≠e) (h1:39≠e) (h2:106≠e):Yl base w' v cols:=by
 obtain ⟨cs,g1,g2⟩:=h;exact ⟨cs,hk.own g1 h0,fun k c hc=>by obtain ⟨u,q1,q2⟩:=g2 k c hc;exact ⟨u,q1,q2.but hk h1 h2⟩⟩
theorem Yl.nil [Old] (base:Nat) (w:World):Yl base w (.slice none 0 0) []:=⟨[],World.ownsRow_nil _ _ _ _,fun k c h=>by simp at h⟩
theorem info_vector:(Tryz.prog.info? 28).map (fun i=>(i.zero,i.size,i.bytes))=some (some (.slice none 0 0),1,24):=by kernel_rfl
theorem Zk.of_below [Old] {e:TypeId} {w w':World} (hb:Below w.heap.size w w'):Zk e w w':=fun b _ _ _ _ h=>(hb.block b (Ye h)).trans h
theorem Zk.then [Old] {e:TypeId} {w W w':World} (h:Zk e w W) (hb:Below w.heap.size W w'):Zk e w w':=fun b cs t fz ht hc=>(hb.block b (Ye hc)).trans (h b cs t fz ht hc)
namespace Pl
def Ztm (m:Nat) (es:List En):Prop:=Inc none es∧es.length≤m∧∀(k:Nat) (e:En),es[k]? =some e→0≤e.idx∧e.idx < m∧e.f.q≠0∧e.f.Rs 1
theorem Ztm.nil:Ztm 0 []:=⟨trivial,JY _,fun k e h=>by simp at h⟩
end Pl
theorem YL.slice [Old] {base:Nat} {w:World} {v:Value} {fs:List RF} (h:YL base w v fs):∃A c,v= .slice A fs.length c:=by
 obtain ⟨A,c,e,_,_⟩:=h.frs.shape;exact ⟨A,c,e⟩
theorem Yl.slice [Old] {base:Nat} {w:World} {v:Value} {fs:List (List En)} (h:Yl base w v fs):∃A c,v= .slice A fs.length c:=by
 obtain ⟨A,c,e,_,_⟩:=h.vecs.shape;exact ⟨A,c,e⟩
namespace Pl
theorem RsL.nil (k:Nat):RsL k []:=fun i f h=>by simp at h
theorem RsL.mono {j k:Nat} {fs:List RF} (h:RsL j fs) (hk:j≤k):RsL k fs:=fun i f hf=>(h i f hf).mono hk
def Zww (p:LPd):Prop:=1≤p.right.length∧p.right.length≤3∧p.cols.length≤5∧p.cost.length=p.cols.length∧RsL 1 p.cost∧∀(j:Nat) (c:List En),p.cols[j]? =some c→Ztm p.right.length c
theorem Zww.ok {p:LPd} (h:Zww p) {K:Nat} (hK:1≤K) (hr:RsL K p.right):p.Ok K:=by
 obtain ⟨h1,h2,h3,h4,h5,h6⟩:=h;refine ⟨h5.mono hK,hr,fun j c hc=>⟨fun k e he=>?_,fun k e he=>((h6 j c hc).2.2 k e he).2.2.2.mono hK⟩⟩;have:=(h6 j c hc).2.2 k e he;omega
end Pl
namespace Pl
def NN (xs:List RF):Prop:=∀(j:Nat) (f:RF),xs[j]? =some f→0≤f.q
theorem NN.nil:NN []:=fun j f h=>by simp at h
end Pl
theorem YL.monoB [Old] {base base':Nat} {w:World} {v:Value} {fs:List RF} (h:YL base w v fs) (hb:base'≤base):YL base' w v fs:=by
 obtain ⟨cs,h1,h2⟩:=h;exact ⟨cs,WX h1 hb,h2⟩
theorem Bk.far4' {w:World} {g g':Nat} {t:TypeId} {cs:List Value} (h:Bk w g t cs) (hne:g≠g') (i j k l:Nat) (x y z u:Value):Bk ((((w.setCell ⟨g',i,none⟩ x).setCell ⟨g',j,none⟩ y).setCell ⟨g',k,none⟩ z).setCell ⟨g',l,none⟩ u) g t cs:=
 (((h.far (p:=⟨g',i,none⟩) hne x).far (p:=⟨g',j,none⟩) hne y).far (p:=⟨g',k,none⟩) hne z).far (p:=⟨g',l,none⟩) hne u
def YP (n:Nat) (G C:Nat→Nat) (r:Nat):Value:= .slice (some ⟨G r,0,none⟩) n (C r)
def Zam (m n:Nat) (G C:Nat→Nat):List Value:=(List.range m).map (YP n G C)
theorem Y6 {m n r:Nat} {G C:Nat→Nat} (h:r < m):(Zam m n G C)[r]? =some (YP n G C r):=by simp [Zam,h]
theorem Yq (m n:Nat) (G C:Nat→Nat):(Zam m n G C).length=m:=by simp [Zam]
def WJ [Old] (base:Nat) (w:World) (v:Value) (m n:Nat) (M:Mx) (G C:Nat→Nat):Prop:=
 w.ownsRow base 77 1 v m (Zam m n G C)∧(∀r,r < m→YL base w (YP n G C r) (YT n (M r)))∧∀r s,r < m→s < m→G r=G s→r=s
theorem WJ.below [Old] {base:Nat} {w w':World} {v:Value} {m n:Nat} {M:Mx} {G C:Nat→Nat} (h:WJ base w v m n M G C) (hb:Below w.heap.size w w'):WJ base w' v m n M G C:=
 ⟨own_below h.1 hb,fun r hr=>(h.2.1 r hr).below hb,h.2.2⟩
theorem WJ.congr [Old] {base:Nat} {w:World} {v:Value} {m n:Nat} {M M':Mx} {G C:Nat→Nat} (h:WJ base w v m n M G C) (e:∀r c,r < m→c < n→M r c=M' r c):WJ base w v m n M' G C:=
 ⟨h.1,fun r hr=>by rw [← Yf (fun c hc=>e r c hr hc)];exact h.2.1 r hr,h.2.2⟩
theorem WJ.nil [Old] (base:Nat) (w:World) (n:Nat) (M:Mx) (G C:Nat→Nat):WJ base w (.slice none 0 0) 0 n M G C:=
 ⟨World.ownsRow_nil _ _ _ _,fun r hr=>absurd hr (by omega),fun r s hr=>absurd hr (by omega)⟩
theorem WJ.lt [Old] {base:Nat} {w:World} {v:Value} {m n:Nat} {M:Mx} {G C:Nat→Nat} (h:WJ base w v m n M G C) {r:Nat} (hr:r < m) (hn:0 < n):base≤G r∧G r < w.heap.size∧n≤C r∧C r≤9223372036854775807:=by
 obtain ⟨g,c,hv,h1,h2,h3,h4⟩:=(h.2.1 r hr).shape (by rw [Zu];exact hn);rw [Zu] at hv h3;unfold YP at hv;injection hv with e1 e2 e3;injection e1 with e1;injection e1 with e1;subst e1 e3;exact ⟨h1,h2,h3,h4⟩
theorem WJ.outer [Old] {base:Nat} {w:World} {v:Value} {m n:Nat} {M:Mx} {G C:Nat→Nat} (h:WJ base w v m n M G C) (hm:0 < m):
 ∃g c,v= .slice (some ⟨g,0,none⟩) m c∧base≤g∧g < w.heap.size∧m≤c∧c≤9223372036854775807∧∀r,r < m→w.cell? ⟨g,r,none⟩=some (YP n G C r)∧w.frozen? ⟨g,r,none⟩=false:=by
 have h0:=h.1;rcases h.1.2 with ⟨rfl,e⟩ | ⟨g,cap,cur,rfl,hb,hg,hnc,hcm,hcs,htake⟩
 ·omega
 ·unfold maxLen at hcm;exact ⟨g,cap,rfl,hb,Ye hg,hnc,by omega,fun r hr=>Zw h0 (Y6 hr)⟩
theorem WJ.shape [Old] {base:Nat} {w:World} {v:Value} {m n:Nat} {M:Mx} {G C:Nat→Nat} (h:WJ base w v m n M G C):∃A c,v= .slice A m c∧m≤c∧c≤9223372036854775807:=(X9.of_own h.1).shape
theorem WJ.at_ [Old] {base:Nat} {w:World} {v:Value} {m n:Nat} {M:Mx} {G C:Nat→Nat} (h:WJ base w v m n M G C) {r c:Nat} (hr:r < m) (hc:c < n):
 ∃A1 n1 c1 A2 n2 c2,(w.cell? ⟨G r,c * 4,none⟩=some (.bool (canF (M r c)).num.neg)∧w.cell? ⟨G r,c * 4+1,none⟩=some (.slice A1 n1 c1)∧w.cell? ⟨G r,c * 4+2,none⟩=some (.bool (canF (M r c)).den.neg)∧w.cell? ⟨G r,c * 4+3,none⟩=some (.slice A2 n2 c2))∧Zm w (.agg #[.bool (canF (M r c)).num.neg,.slice A1 n1 c1,.bool (canF (M r c)).den.neg,.slice A2 n2 c2]) (canF (M r c)):=by
 obtain ⟨b,d,A1,n1,c1,A2,n2,c2,hA,_,a,hm⟩:=(h.2.1 r hr).frs.elem (JR _ _) (Z7 hc);injection hA with hA;injection hA with e1 e2;subst e1 e2;simp only [Nat.zero_add] at a;exact ⟨A1,n1,c1,A2,n2,c2,a,hm⟩
theorem WJ.frozen [Old] {base:Nat} {w:World} {v:Value} {m n:Nat} {M:Mx} {G C:Nat→Nat} (h:WJ base w v m n M G C) {r c:Nat} (hr:r < m) (hc:c < n):
 w.frozen? ⟨G r,c * 4,none⟩=false∧w.frozen? ⟨G r,c * 4+1,none⟩=false∧w.frozen? ⟨G r,c * 4+2,none⟩=false∧w.frozen? ⟨G r,c * 4+3,none⟩=false:=by
 obtain ⟨_,_,_,_,_,hf,_⟩:=(h.2.1 r hr).at_ (Z7 hc);exact hf
theorem Yb {w:World} {g i j k l:Nat} {x y z u:Value}:ZN (some g) w ((((w.setCell ⟨g,i,none⟩ x).setCell ⟨g,j,none⟩ y).setCell ⟨g,k,none⟩ z).setCell ⟨g,l,none⟩ u):=
 ((ZN.of_set.trans ZN.of_set).trans ZN.of_set).trans ZN.of_set
theorem WJ.set_ [Old] {base:Nat} {w:World} {v:Value} {m n:Nat} {M:Mx} {G C:Nat→Nat} (h:WJ base w v m n M G C) {r c:Nat} (hr:r < m) (hc:c < n) {x y z u:Value} {q:Rat} (hf:Zm w (.agg #[x,y,z,u]) (canF q)) (hO:Old.n≤base:=by first | assumption | exact Nat.zero_le _ | omega | ((first | with_reducible refine Zb.le ?_ | with_reducible refine Zb.le1 ?_ | with_reducible refine Zb.le2 ?_ | with_reducible refine Zb.le3 ?_);repeat (first | assumption | exact Zb.up (by assumption) hOl | exact Zb.up (Hid.out (by assumption)) hOl | with_reducible refine Zb.set ?_ _ _ | with_reducible refine Zb.mk_ ?_ _ | with_reducible refine Zb.dr ?_ | with_reducible refine Zb.drN ?_ | refine Zb.up (by assumption) ?_ | refine Zb.up (Hid.out (by assumption)) ?_))):
 WJ base ((((w.setCell ⟨G r,c * 4,none⟩ x).setCell ⟨G r,c * 4+1,none⟩ y).setCell ⟨G r,c * 4+2,none⟩ z).setCell ⟨G r,c * 4+3,none⟩ u) v m n (Ztn M r c q) G C∧
 Zk 36 w ((((w.setCell ⟨G r,c * 4,none⟩ x).setCell ⟨G r,c * 4+1,none⟩ y).setCell ⟨G r,c * 4+2,none⟩ z).setCell ⟨G r,c * 4+3,none⟩ u):=by
 obtain ⟨hs,hk⟩:=YL.set_ (h.2.1 r hr) (k:=c) (by rw [Zu];exact hc) hf;rw [V9 hc] at hs;refine ⟨⟨hk.own h.1 (by decide),fun s hs'=>?_,h.2.2⟩,hk⟩;by_cases e:s=r
 ·subst e;have:YT n (Ztn M s c q s)=YT n (fun i=>if i=c then q else M s i):=Yf fun i _=>by
   unfold Ztn;by_cases e:i=c
   ·rw [if_pos ⟨rfl,e⟩,if_pos e]
   ·rw [if_neg (by omega),if_neg e]
  rw [this];exact hs
 ·have:YT n (Ztn M r c q s)=YT n (M s):=Yf fun i _=>by unfold Ztn;rw [if_neg (by omega)]
  rw [this];refine (h.2.1 s hs').others Yb (hk.keep (by decide)) fun b hb hne=>?_
  simp [YP,Value.ownBlock] at hb;injection hne with hne;exact e (h.2.2 s r hs' hr (by omega))
theorem WJ.far [Old] {base:Nat} {w w':World} {v:Value} {m n:Nat} {M:Mx} {G C:Nat→Nat} (h:WJ base w v m n M G C) {g:Nat} (ho:ZN (some g) w w') (hk:Zk 36 w w') (hne:∀r,r < m→G r≠g):WJ base w' v m n M G C:=
 ⟨hk.own h.1 (by decide),fun r hr=>(h.2.1 r hr).others ho (hk.keep (by decide)) fun b hb e=>by
  simp [YP,Value.ownBlock] at hb
  injection e with e
  exact hne r hr (by omega),h.2.2⟩
def Uf (F:Nat→Nat) (k t:Nat):Nat→Nat:=fun r=>if r=k then F t else if r=t then F k else F r
theorem WJ.swap [Old] {base:Nat} {w:World} {m n:Nat} {M:Mx} {G C:Nat→Nat} {g c:Nat} (h:WJ base w (.slice (some ⟨g,0,none⟩) m c) m n M G C) {k t:Nat} (hk:k < m) (ht:t < m) (hO:Old.n≤base:=by first | assumption | exact Nat.zero_le _ | omega | ((first | with_reducible refine Zb.le ?_ | with_reducible refine Zb.le1 ?_ | with_reducible refine Zb.le2 ?_ | with_reducible refine Zb.le3 ?_);repeat (first | assumption | exact Zb.up (by assumption) hOl | exact Zb.up (Hid.out (by assumption)) hOl | with_reducible refine Zb.set ?_ _ _ | with_reducible refine Zb.mk_ ?_ _ | with_reducible refine Zb.dr ?_ | with_reducible refine Zb.drN ?_ | refine Zb.up (by assumption) ?_ | refine Zb.up (Hid.out (by assumption)) ?_))):
 WJ base ((w.setCell ⟨g,k,none⟩ (YP n G C t)).setCell ⟨g,t,none⟩ (YP n G C k)) (.slice (some ⟨g,0,none⟩) m c) m n (swapM M k t) (Uf G k t) (Uf C k t)∧
 Zk 77 w ((w.setCell ⟨g,k,none⟩ (YP n G C t)).setCell ⟨g,t,none⟩ (YP n G C k)):=by
 have o1:=YJ h.1 k (YP n G C t) (by rw [Yq];exact hk);have o2:=YJ o1 t (YP n G C k) (by rw [List.length_set,Yq];exact ht);obtain ⟨_,b0,_⟩:=ZI h.1;obtain ⟨_,b1,_⟩:=ZI o1;have kp:=(Zk.setCell b0 k (YP n G C t)).trans (Zk.setCell b1 t (YP n G C k));have b:∀r,YP n (Uf G k t) (Uf C k t) r=if r=k then YP n G C t else if r=t then YP n G C k else YP n G C r:=fun r=>by
  unfold YP Uf;by_cases e:r=k
  ·simp only [if_pos e]
  ·simp only [if_neg e];by_cases e2:r=t
   ·simp only [if_pos e2]
   ·simp only [if_neg e2]
 refine ⟨⟨?_,fun r hr=>?_,fun r s hr hs e=>?_⟩,kp⟩
 ·have:((Zam m n G C).set k (YP n G C t)).set t (YP n G C k)=Zam m n (Uf G k t) (Uf C k t):=by
   apply List.ext_getElem?;intro i;rcases JX i m with hi | hi
   ·rw [Y6 hi,b,List.getElem?_set,List.getElem?_set];simp only [List.length_set,Yq];by_cases e1:t=i
    ·subst e1;rw [if_pos rfl,if_pos ht];by_cases e2:t=k
     ·subst e2;rw [if_pos rfl]
     ·rw [if_neg e2,if_pos rfl]
    ·rw [if_neg e1];by_cases e2:k=i
     ·subst e2;rw [if_pos rfl,if_pos hk,if_pos rfl]
     ·rw [if_neg e2,if_neg (fun h=>e2 h.symm),if_neg (fun h=>e1 h.symm),Y6 hi]
   ·rw [JU (by simp [Yq];exact hi),JU (by rw [Yq];exact hi)]
  rw [← this];exact o2
 ·rw [b];unfold swapM;split
  ·exact (h.2.1 t ht).but kp (by decide) (by decide)
  ·split
   ·exact (h.2.1 k hk).but kp (by decide) (by decide)
   ·exact (h.2.1 r hr).but kp (by decide) (by decide)
 ·have d:∀a,a < m→∃a',a' < m∧Uf G k t a=G a'∧((a=k∧a'=t)∨(a≠k∧a=t∧a'=k)∨(a≠k∧a≠t∧a'=a)):=fun a ha=>by
   unfold Uf;by_cases e1:a=k
   ·exact ⟨t,ht,by rw [if_pos e1],.inl ⟨e1,rfl⟩⟩
   ·by_cases e2:a=t
    ·exact ⟨k,hk,by rw [if_neg e1,if_pos e2],.inr (.inl ⟨e1,e2,rfl⟩)⟩
    ·exact ⟨a,ha,by rw [if_neg e1,if_neg e2],.inr (.inr ⟨e1,e2,rfl⟩)⟩
  obtain ⟨r',f,er,cr⟩:=d r hr;obtain ⟨s',j,es,cs⟩:=d s hs;rw [er,es] at e;have:=h.2.2 _ _ f j e;omega
theorem WJ.cellAt [Old] {base:Nat} {w:World} {m n:Nat} {M:Mx} {G C:Nat→Nat} {g c:Nat} (h:WJ base w (.slice (some ⟨g,0,none⟩) m c) m n M G C) {r:Nat} (hr:r < m):w.cell? ⟨g,r,none⟩=some (YP n G C r)∧w.frozen? ⟨g,r,none⟩=false:=Zw h.1 (Y6 hr)
theorem WJ.swap1 [Old] {base:Nat} {w:World} {m n:Nat} {M:Mx} {G C:Nat→Nat} {g c:Nat} (h:WJ base w (.slice (some ⟨g,0,none⟩) m c) m n M G C) {k t:Nat} {u:Value} (ht:t < m) (hO:Old.n≤base:=by first | assumption | exact Nat.zero_le _ | omega | ((first | with_reducible refine Zb.le ?_ | with_reducible refine Zb.le1 ?_ | with_reducible refine Zb.le2 ?_ | with_reducible refine Zb.le3 ?_);repeat (first | assumption | exact Zb.up (by assumption) hOl | exact Zb.up (Hid.out (by assumption)) hOl | with_reducible refine Zb.set ?_ _ _ | with_reducible refine Zb.mk_ ?_ _ | with_reducible refine Zb.dr ?_ | with_reducible refine Zb.drN ?_ | refine Zb.up (by assumption) ?_ | refine Zb.up (Hid.out (by assumption)) ?_))):∃y,(w.setCell ⟨g,k,none⟩ u).cell? ⟨g,t,none⟩=some y∧(w.setCell ⟨g,k,none⟩ u).frozen? ⟨g,t,none⟩=false:=by
 rcases JX k m with hk | hk
 ·have o1:=YJ h.1 k u (by rw [Yq];exact hk);obtain ⟨y,hy⟩:∃y,((Zam m n G C).set k u)[t]? =some y:=⟨_,JQ (by rw [List.length_set,Yq];exact ht)⟩;exact ⟨y,Zw o1 hy⟩
 ·obtain ⟨a,b0,_⟩:=ZI h.1;have hb:=heap_setCell_same w g k a 77 u b0;obtain ⟨c0,_⟩:=h.cellAt ht;rw [cell_of_row w g t a _ _ b0] at c0;have b:t < a.size:=by
   rcases JX t a.size with h9 | h9
   ·exact h9
   ·rw [Array.getElem?_eq_none (by omega)] at c0;cases c0
  refine ⟨(a.setIfInBounds k u)[t]'(by simpa using b),?_,frozen_of_row _ g t _ _ hb⟩;rw [cell_of_row _ g t _ _ _ hb];exact Array.getElem?_eq_getElem (by simpa using b)
def Zmv [Old] (w:World) (v:Value) (m n:Nat) (M:Mx):Prop:=∃vs:Nat→Value,X9 w 77 1 v m ((List.range m).map vs)∧∀k,k < m→Zbn w (vs k) (YT n (M k))
theorem Zmv.shape [Old] {w:World} {v:Value} {m n:Nat} {M:Mx} (h:Zmv w v m n M):∃A c,v= .slice A m c∧m≤c∧c≤9223372036854775807:=by
 obtain ⟨vs,h1,h2⟩:=h;exact h1.shape
theorem Zmv.at_ [Old] {w w0:World} {A:Option Addr} {m n c:Nat} {M:Mx} (h0:Zmv w0 (.slice A m c) m n M) (hb0:Below w0.heap.size w0 w) {k:Nat} (hk:k < m) {r:Nat} (hr:r < n):
 ∃b off B cB b' off' A1 n1 c1 A2 n2 c2,A=some ⟨b,off,none⟩∧b < w0.heap.size∧w.cell? ⟨b,off+k,none⟩=some (.slice (some ⟨b',off',none⟩) n cB)∧n≤cB∧cB≤9223372036854775807∧B=(some ⟨b',off',none⟩:Option Addr)∧
 (w.cell? ⟨b',off'+r * 4,none⟩=some (.bool (canF (M k r)).num.neg)∧w.cell? ⟨b',off'+r * 4+1,none⟩=some (.slice A1 n1 c1)∧w.cell? ⟨b',off'+r * 4+2,none⟩=some (.bool (canF (M k r)).den.neg)∧w.cell? ⟨b',off'+r * 4+3,none⟩=some (.slice A2 n2 c2))∧Zm w (.agg #[.bool (canF (M k r)).num.neg,.slice A1 n1 c1,.bool (canF (M k r)).den.neg,.slice A2 n2 c2]) (canF (M k r)):=by
 obtain ⟨vs,h1,h2⟩:=h0;obtain ⟨b,off,hA,d,hc⟩:=h1.at_ (by omega);obtain ⟨B,cB,hv,a,e⟩:=(h2 k hk).shape;rw [Zu] at hv a;have h3:=h2 k hk;rw [hv] at h3;obtain ⟨b',off',A1,n1,c1,A2,n2,c2,f,_,h4,hm⟩:=h3.elem hb0 (Z7 hr);subst f;refine ⟨b,off,_,cB,b',off',A1,n1,c1,A2,n2,c2,hA,d,?_,a,e,rfl,h4,hm⟩;have:=hc k (vs k) (by simp [hk]);rw [← hv];exact cell_later hb0 this
theorem info_rowT:(Tryz.prog.info? 77).map (fun i=>(i.zero,i.size,i.bytes))=some (some (.slice none 0 0),1,24):=by kernel_rfl
def Zqa [Old] (base:Nat) (w:World) (v:Value) (m n:Nat) (M:Mx):Prop:=∃vs:Nat→Value,w.ownsRow base 77 1 v m ((List.range m).map vs)∧∀k,k < m→Zbn w (vs k) (YT n (M k))
theorem Zqa.cols [Old] {base:Nat} {w:World} {v:Value} {m n:Nat} {M:Mx} (h:Zqa base w v m n M):Zmv w v m n M:=by
 obtain ⟨vs,h1,h2⟩:=h;exact ⟨vs,X9.of_own h1,h2⟩
theorem Zqa.nil [Old] (base:Nat) (w:World) (n:Nat) (M:Mx):Zqa base w (.slice none 0 0) 0 n M:=⟨fun _=> .slice none 0 0,World.ownsRow_nil _ _ _ _,fun k hk=>absurd hk (by omega)⟩
namespace Pl
structure LSt where
 phase:Int
 basis:List Int
 pivots:Int
def LSt.In (p:LPd) (s:LSt):Prop:=∀(i:Nat) (z:Int),s.basis[i]? =some z→ -(p.right.length:Int)≤z∧z < p.cols.length
def LSt.at_ (s:LSt) (i:Nat):Int:=s.basis.getD i 0
end Pl
theorem Vi.len {w:World} {A:Option Addr} {n c:Nat} {zs:List Int} (h:Vi w (.slice A n c) zs):n=zs.length∧n≤c∧c≤9223372036854775807:=by
 obtain ⟨a,cap,h1,h2,h3⟩:=h.shape;injection h1 with e1 e2 e3;subst e2 e3;exact ⟨rfl,h2,h3⟩
namespace Pl
def LPd.Fit (p:LPd) (K:Nat):Prop:=p.Ok K∧p.In∧p.right.length≤64∧p.cost.length=p.cols.length∧p.cols.length≤1200∧1≤K∧130 * (5^p.right.length * K)+200≤8589934592
theorem LPd.Fit.k1 {p:LPd} {K:Nat} (h:p.Fit K):1≤K:=h.2.2.2.2.2.1
theorem LPd.Fit.le {p:LPd} {K:Nat} (_h:p.Fit K):K≤5^p.right.length * K:=by
 have:=JS K (Nat.pow_le_pow_right (show 0 < 5 by decide) (Nat.zero_le p.right.length));simpa using this
theorem LPd.Fit.ok {p:LPd} {K:Nat} (h:p.Fit K):p.Ok K:=h.1
theorem LPd.Fit.cols {p:LPd} {K:Nat} (h:p.Fit K):p.cols.length≤1200:=h.2.2.2.2.1
theorem LPd.Fit.cs {p:LPd} {K:Nat} (h:p.Fit K):RsL K p.cost:=h.1.1
def LSt.Fit (p:LPd) (s:LSt):Prop:=s.In p∧s.basis.length=p.right.length
theorem LSt.Fit.len {p:LPd} {s:LSt} (h:s.Fit p):s.basis.length=p.right.length:=h.2
end Pl
end Go.Proofs.YtidgdpkcloaheaaGreat
