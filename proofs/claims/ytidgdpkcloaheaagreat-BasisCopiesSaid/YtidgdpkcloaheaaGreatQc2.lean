/- Lemmas of the claim; no condition. -/
import Derived.Test.YtidgdpkcloaheaaGreatQ25
import Derived.Test.YtidgdpkcloaheaaGreatOLbZJ
set_option linter.all false
set_option maxRecDepth 100000
set_option maxHeartbeats 40000000
namespace Go.Proofs.YtidgdpkcloaheaaGreat
open Go.RowKit
open Pl
attribute [local go_sem ↓] Go.wp_at_zero Go.wp_at_succ
section
theorem Wz.geB [Old] {base:Nat} {w:World} {v:Value} {es:List En} (h:Wz base w v es):∀b,v.ownBlock=some b→base≤b:=by
 intro b hb;obtain ⟨cs,h1,_⟩:=h;rcases h1.2 with ⟨rfl,_⟩ | ⟨g',cap,cur,rfl,hb',_⟩
 ·simp [Value.ownBlock] at hb
 ·simp [Value.ownBlock] at hb;omega
namespace Dp
def Yl [Old] (base:Nat) (w:World) (v:Value) (cols:List (List En)):Prop:=∃cs,w.ownsRow base 28 1 v cols.length cs∧∀(k:Nat) (c:List En),cols[k]? =some c→∃u,cs[k]? =some u∧Wy w u c∧∀b,u.ownBlock=some b→base≤b
theorem Yl.out [Old] {base:Nat} {w:World} {v:Value} {cols:List (List En)} (h:Yl base w v cols):Go.Proofs.YtidgdpkcloaheaaGreat.Yl base w v cols:=by
 obtain ⟨cs,h1,h2⟩:=h;exact ⟨cs,h1,fun k c hc=>by obtain ⟨u,e,hm,_⟩:=h2 k c hc;exact ⟨u,e,hm⟩⟩
theorem Yl.vecs [Old] {base:Nat} {w:World} {v:Value} {cols:List (List En)} (h:Yl base w v cols):Xf w v cols:=h.out.vecs
theorem Yl.below [Old] {base:Nat} {w w':World} {v:Value} {cols:List (List En)} (h:Yl base w v cols) (hb:Below w.heap.size w w'):Yl base w' v cols:=by
 obtain ⟨cs,h1,h2⟩:=h;exact ⟨cs,own_below h1 hb,fun k c hc=>by obtain ⟨u,e,hm,hq⟩:=h2 k c hc;exact ⟨u,e,hm.below hb,hq⟩⟩
theorem Yl.but [Old] {base:Nat} {w w':World} {e:TypeId} {v:Value} {cols:List (List En)} (h:Yl base w v cols) (hk:Zk e w w') (h0:28≠e) (h1:39≠e) (h2:106≠e):Yl base w' v cols:=by
 obtain ⟨cs,g1,g2⟩:=h;exact ⟨cs,hk.own g1 h0,fun k c hc=>by obtain ⟨u,e,hm,hq⟩:=g2 k c hc;exact ⟨u,e,hm.but hk h1 h2,hq⟩⟩
theorem Yl.nshape [Old] {base:Nat} {w:World} {v:Value} {n:Nat} {L:Mx} (h:Yl base w v (vcL n L)):∃A c,v= .slice A n c:=h.out.nshape
theorem Yl.base [Old] {base:Nat} {w:World} {g n c:Nat} {cols:List (List En)} (h:Yl base w (.slice (some ⟨g,0,none⟩) n c) cols):base≤g:=h.out.base
theorem Yl.monoB [Old] {base base':Nat} {w:World} {v:Value} {cols:List (List En)} (h:Yl base w v cols) (hb:base'≤base):Yl base' w v cols:=by
 obtain ⟨cs,h1,h2⟩:=h;exact ⟨cs,WX h1 hb,fun k c hc=>by obtain ⟨u,e,hm,hq⟩:=h2 k c hc;exact ⟨u,e,hm,fun b h=>JW hb (hq b h)⟩⟩
theorem Yl.others [Old] {base:Nat} {w w':World} {g:Option Nat} {v:Value} {cols:List (List En)} (h:Yl base w v cols) (ho:ZN g w w') (hk:Zk 28 w w') (hne:∀b,v.ownBlock=some b→some b≠g):Yl base w' v cols:=by
 obtain ⟨cs,h1,h2⟩:=h;exact ⟨cs,UE h1 ho hne,fun k c hc=>by
  obtain ⟨u,hu,hm,hq⟩:=h2 k c hc;exact ⟨u,hu,hm.but hk (by decide) (by decide),hq⟩⟩
theorem Yl.at_ [Old] {base:Nat} {w:World} {g n c:Nat} {cols:List (List En)} (h:Yl base w (.slice (some ⟨g,0,none⟩) n c) cols) {k:Nat} {es:List En} (he:cols[k]? =some es):
 ∃u,w.cell? ⟨g,k,none⟩=some u∧w.frozen? ⟨g,k,none⟩=false∧Wy w u es:=by
 obtain ⟨cs,h1,h2⟩:=h;have hn:n=cols.length:=(X9.of_own h1).len;subst hn;obtain ⟨u,c0,hm,-⟩:=h2 k es he;exact ⟨u,(Zw h1 c0).1,(Zw h1 c0).2,hm⟩
theorem Yl.set_ [Old] {base:Nat} {w:World} {g n c:Nat} {cols:List (List En)} (h:Yl base w (.slice (some ⟨g,0,none⟩) n c) cols) {k:Nat} (hk:k < cols.length) {u:Value} {es:List En} (hu:Wy w u es) (hd:∀b,u.ownBlock=some b→base≤b) (hO:Old.n≤base:=by first | assumption | exact Nat.zero_le _ | omega | ((first | with_reducible refine Zb.le ?_ | with_reducible refine Zb.le1 ?_ | with_reducible refine Zb.le2 ?_ | with_reducible refine Zb.le3 ?_);repeat (first | assumption | exact Zb.up (by assumption) hOl | exact Zb.up (Hid.out (by assumption)) hOl | with_reducible refine Zb.set ?_ _ _ | with_reducible refine Zb.mk_ ?_ _ | with_reducible refine Zb.dr ?_ | with_reducible refine Zb.drN ?_ | refine Zb.up (by assumption) ?_ | refine Zb.up (Hid.out (by assumption)) ?_))):
 Yl base (w.setCell ⟨g,k,none⟩ u) (.slice (some ⟨g,0,none⟩) n c) (cols.set k es)∧Zk 28 w (w.setCell ⟨g,k,none⟩ u):=by
 obtain ⟨cs,h1,h2⟩:=h;have hn:n=cols.length:=(X9.of_own h1).len;subst hn;have hl:cs.length=cols.length * 1:=h1.1;have o1:=YJ h1 k u (by omega);obtain ⟨_,b0,_⟩:=ZI h1;have kp:=Zk.setCell b0 k u;refine ⟨⟨cs.set k u,by rw [List.length_set];exact o1,fun j d hdd=>?_⟩,kp⟩;rw [List.getElem?_set] at hdd;by_cases c:k=j
 ·subst c;rw [if_pos rfl,if_pos hk] at hdd;injection hdd with hdd;subst hdd;exact ⟨u,List.getElem?_set_self (by omega),hu.but kp (by decide) (by decide),hd⟩
 ·rw [if_neg c] at hdd;obtain ⟨u',hc,hm,hq⟩:=h2 j d hdd;exact ⟨u',by rw [List.getElem?_set_ne c];exact hc,hm.but kp (by decide) (by decide),hq⟩
theorem Yl.zeros [Old] (w:World) (n:Nat) (hn:n≤maxLen):Yl w.heap.size (w.alloc (.cells (zvc n) 28)) (.slice (some ⟨w.heap.size,0,none⟩) n n) (List.replicate n []):=by
 have a:(zvc n).size=n * 1:=size_madeCells _ _;refine ⟨(zvc n).toList,⟨by simp [a],.inr ⟨w.heap.size,n,zvc n,by simp,JY _,heap_alloc_new w _,by simp,hn,a,?_⟩⟩,fun k f hf=>?_⟩
 ·rw [List.take_of_length_le (by simp [a])]
 ·rw [List.getElem?_replicate] at hf;split at hf
  ·rename_i hk
   injection hf with hf;subst hf;exact ⟨_,by have:=Zsd hk;simpa using this,(Wz.nil 0 _).vec,fun b hb=>by simp [Value.ownBlock] at hb⟩
  ·cases hf
section
variable {U wr w':World} {ge ga gr gc gf g0 g1 gt gl gu go n J tl tu:Nat} {G D R C F E:Nat→Nat} {a m:Mx}
def LuM [Old] (U:World) (ge ga gr gc gf g0 g1 gt gl gu go n J tl tu:Nat) (G D R C F E:Nat→Nat) (a m:Mx) (wr:World):Prop:=
 Y1 U ge ga gr gc n G D (Ww n n R) (Ww n n C) a wr∧Y9 U gf g0 g1 gt n n J (.slice (some ⟨gl,0,none⟩) n n) (.slice (some ⟨gu,0,none⟩) n n) (Zdg n R) (Zdg n C) F E m G wr∧
  (∃A k c A' k' c',Bk wr go 36 [.bool (canF 1).num.neg,.slice A k c,.bool (canF 1).den.neg,.slice A' k' c']∧Zm wr (.agg #[.bool (canF 1).num.neg,.slice A k c,.bool (canF 1).den.neg,.slice A' k' c']) (canF 1))∧
  Yl U.heap.size wr (.slice (some ⟨gl,0,none⟩) n n) (Zkq n tl (luL R m))∧Yl U.heap.size wr (.slice (some ⟨gu,0,none⟩) n n) (Zkq n tu (luU R C a))
theorem LuM.below [Old] (h:LuM U ge ga gr gc gf g0 g1 gt gl gu go n J tl tu G D R C F E a m wr) (hb:Below wr.heap.size wr w'):LuM U ge ga gr gc gf g0 g1 gt gl gu go n J tl tu G D R C F E a m w':=by
 obtain ⟨h1,h2,⟨A,k,c,A',k',c',h3,h4⟩,h5,h6⟩:=h;exact ⟨h1.below hb,h2.below hb,⟨A,k,c,A',k',c',h3.later hb,h4.below hb⟩,h5.below hb,h6.below hb⟩
theorem LuM.size_ [Old] (h:LuM U ge ga gr gc gf g0 g1 gt gl gu go n J tl tu G D R C F E a m wr):U.heap.size≤wr.heap.size:=by
 obtain ⟨h1,_⟩:=h;obtain ⟨_,_,_,hb⟩:=h1;exact hb.size
theorem LuM.setL [Old] (h:LuM U ge ga gr gc gf g0 g1 gt gl gu go n J tl tu G D R C F E a m wr) (hne:gl≠gu) (ht:tl < n) {v:Value} (hv:Wy wr v (spV (luL R m tl) n)) (hd:∀b,v.ownBlock=some b→U.heap.size≤b) (hOU:Old.n≤U.heap.size:=by first | assumption | exact Nat.zero_le _ | omega | ((first | with_reducible refine Zb.le ?_ | with_reducible refine Zb.le1 ?_ | with_reducible refine Zb.le2 ?_ | with_reducible refine Zb.le3 ?_);repeat (first | assumption | exact Zb.up (by assumption) hOl | exact Zb.up (Hid.out (by assumption)) hOl | with_reducible refine Zb.set ?_ _ _ | with_reducible refine Zb.mk_ ?_ _ | with_reducible refine Zb.dr ?_ | with_reducible refine Zb.drN ?_ | refine Zb.up (by assumption) ?_ | refine Zb.up (Hid.out (by assumption)) ?_))):
 LuM U ge ga gr gc gf g0 g1 gt gl gu go n J (tl+1) tu G D R C F E a m (wr.setCell ⟨gl,tl,none⟩ v):=by
 obtain ⟨h1,h2,⟨A,k,c,A',k',c',h3,h4⟩,h5,h6⟩:=h;obtain ⟨h7,hk⟩:=h5.set_ (k:=tl) (by rw [XK];exact ht) hv hd;rw [Zdl ht] at h7;have ho:=ZN.of_set (g:=gl) (i:=tl) (v:=v) (w:=wr);have hb:Below U.heap.size U (wr.setCell ⟨gl,tl,none⟩ v):=by
  obtain ⟨_,_,_,hb⟩:=h1;exact hb.setCell (p:=⟨gl,tl,none⟩) h5.base v
 exact ⟨h1.but hk hb (by decide) (by decide) (by decide) (by decide) (by decide),h2.but hk (by decide) (by decide) (by decide) (by decide) (by decide),⟨A,k,c,A',k',c',hk.bk h3 (by decide),h4.keep (hk.keep (by decide))⟩,h7,h6.others ho hk fun b hb e=>by simp [Value.ownBlock] at hb;injection e with e;omega⟩
theorem LuM.setU [Old] (h:LuM U ge ga gr gc gf g0 g1 gt gl gu go n J tl tu G D R C F E a m wr) (hne:gl≠gu) (ht:tu < n) {v:Value} (hv:Wy wr v (spV (luU R C a tu) n)) (hd:∀b,v.ownBlock=some b→U.heap.size≤b) (hOU:Old.n≤U.heap.size:=by first | assumption | exact Nat.zero_le _ | omega | ((first | with_reducible refine Zb.le ?_ | with_reducible refine Zb.le1 ?_ | with_reducible refine Zb.le2 ?_ | with_reducible refine Zb.le3 ?_);repeat (first | assumption | exact Zb.up (by assumption) hOl | exact Zb.up (Hid.out (by assumption)) hOl | with_reducible refine Zb.set ?_ _ _ | with_reducible refine Zb.mk_ ?_ _ | with_reducible refine Zb.dr ?_ | with_reducible refine Zb.drN ?_ | refine Zb.up (by assumption) ?_ | refine Zb.up (Hid.out (by assumption)) ?_))):
 LuM U ge ga gr gc gf g0 g1 gt gl gu go n J tl (tu+1) G D R C F E a m (wr.setCell ⟨gu,tu,none⟩ v):=by
 obtain ⟨h1,h2,⟨A,k,c,A',k',c',h3,h4⟩,h5,h6⟩:=h;obtain ⟨h7,hk⟩:=h6.set_ (k:=tu) (by rw [XK];exact ht) hv hd;rw [Zdl ht] at h7;have ho:=ZN.of_set (g:=gu) (i:=tu) (v:=v) (w:=wr);have hb:Below U.heap.size U (wr.setCell ⟨gu,tu,none⟩ v):=by
  obtain ⟨_,_,_,hb⟩:=h1;exact hb.setCell (p:=⟨gu,tu,none⟩) h6.base v
 exact ⟨h1.but hk hb (by decide) (by decide) (by decide) (by decide) (by decide),h2.but hk (by decide) (by decide) (by decide) (by decide) (by decide),⟨A,k,c,A',k',c',hk.bk h3 (by decide),h4.keep (hk.keep (by decide))⟩,h5.others ho hk fun b hb e=>by simp [Value.ownBlock] at hb;injection e with e;omega,h7⟩
end
def Zvs [Old] (n K:Nat) (Cs:Mx) (w:World) (o:Ending) (w':World):Prop:=
 Below w.heap.size w w'∧((∃(R C:Nat→Nat) (L Um:Mx) (s0 s1 s2 s3:Value),o= .returned (.tuple #[.agg #[s0,s1,s2,s3],.bool true])∧Znq n (5^n * K) (trM Cs) R C L Um∧ZJ w.heap.size w' s0 (Zdg n R)∧ZJ w.heap.size w' s1 (Zdg n C)∧Yl w.heap.size w' s2 (vcL n L)∧Yl w.heap.size w' s3 (vcL n Um))∨
  (o= .returned (.tuple #[.agg #[.slice none 0 0,.slice none 0 0,.slice none 0 0,.slice none 0 0],.bool false])∧¬XA n Cs))
attribute [local irreducible] Yi
theorem Zdm [Old] (v:Value) (n K:Nat) (Cs:Mx) (w:World) (h:Xf w v (vcL n Cs)) (hn:n≤7) (hK:1≤K) (hE:5^n * K≤4000000) (hs:∀r c,r < n→c < n→Sz K (Cs c r)) (hOl:Zb w:=by (repeat (first | assumption | exact Zb.up (by assumption) hOl | exact Zb.up (Hid.out (by assumption)) hOl | with_reducible refine Zb.set ?_ _ _ | with_reducible refine Zb.mk_ ?_ _ | with_reducible refine Zb.dr ?_ | with_reducible refine Zb.drN ?_ | refine Zb.up (by assumption) ?_ | refine Zb.up (Hid.out (by assumption)) ?_))):
 Calls Tryz.prog 38 #[v] w (Zvs n K Cs w):=by
 have hg:=hOl.le;obtain ⟨A,c,rfl,gn,hu⟩:=h.shape;rw [UI] at h gn ⊢;have HV:=JZ h;have fs:=JZ hs;have HK:=JZ hK;have HE:=JZ hE;have h6:=Zfh n (by omega);have h7:=Zez n (by omega);obtain ⟨W,hW,b4,O⟩:∃W,w.alloc (.cells #[.slice none 0 0,.slice none 0 0,.slice none 0 0,.slice none 0 0] 69)=W∧Bk W w.heap.size 69 [.slice none 0 0,.slice none 0 0,.slice none 0 0,.slice none 0 0]∧Below w.heap.size w W:=⟨_,rfl,Bk.new w _ _,Zd w _⟩;have ag:=Zb.up O hOl;have e4:=JZ b4;have bt:Hid (W.heap.size≤W.heap.size):=JZ (JY _);clear h hs b4 hK hE;go_enter Tryz.func38,Tryz.ntmps38
 go_upto_region 2 with (fail)
 clear hW
 go_cut [5] (fun s5 wx=>Zvp W n s5 wx)
 case first=>
  refine Xg 9 (.go 0 (.go 1 (.go 3 (.go 5 (.bag [2,4,6,7,8] (.go 9 .done)))))) (by kernel_rfl) (by kernel_rfl) ?_;repeat ((first | (refine Yg (v:=?_) rfl rfl rfl ?_ ?_;rotate_left;(· (intro _ u;go_simp;(try go_bits);(try with_reducible rfl)))) | (refine YA (v:=?_) rfl rfl rfl ?_ ?_;rotate_left;(· (intro _ u;go_simp;(try go_bits);(try with_reducible rfl)))) | refine YB rfl rfl rfl ?_ | refine Yh rfl rfl rfl (by assumption) ?_);(try simp only [Act.put,pu1,pu2,pu3,pu4,pu5,pu6]))
  refine Zbd 29 31 33 34 5 _ _ _ _ _ (MkR W n) rfl (by decide) ⟨Zj W,fun h=>h.elim,fun h=>h.elim,fun h=>h.elim,fun h=>h.elim,fun h=>h.elim,fun h=>h.elim⟩ (List.forall_mem_cons.2 ⟨?_,List.forall_mem_cons.2 ⟨?_,List.forall_mem_cons.2 ⟨?_,List.forall_mem_cons.2 ⟨?_,List.forall_mem_cons.2 ⟨?_,fun _ h=>absurd h List.not_mem_nil⟩⟩⟩⟩⟩) ?_
  ·refine YR.mk rfl fun D s1 s2 s3 s4 s5 wx b d hnd o hR KR hKR=>?_
   simp only [Us,Act.put,List.setIfInBounds_toArray,List.set_cons_zero,List.set_cons_succ] at d;subst d;go_simp;have hN:=hR.set2 (by unfold maxLen;omega) hnd;exact hKR.out _ _ (Or.inr hN.1) ⟨_,s2,s3,s4,s5,rfl,hN⟩
  ·refine YR.mk rfl fun D s1 s2 s3 s4 s5 wx b d hnd o hR KR hKR=>?_
   simp only [Us,Act.put,List.setIfInBounds_toArray,List.set_cons_zero,List.set_cons_succ] at d;subst d;go_simp;have hN:=hR.set4 (by unfold maxLen;omega) hnd;exact hKR.out _ _ (Or.inr hN.1) ⟨s1,_,s3,s4,s5,rfl,hN⟩
  ·refine YR.mk rfl fun D s1 s2 s3 s4 s5 wx b d hnd o hR KR hKR=>?_
   simp only [Us,Act.put,List.setIfInBounds_toArray,List.set_cons_zero,List.set_cons_succ] at d;subst d;go_simp;have hN:=hR.set6 (by unfold maxLen;omega) hnd;exact hKR.out _ _ (Or.inr hN.1) ⟨s1,s2,_,s4,s5,rfl,hN⟩
  ·refine YR.mk rfl fun D s1 s2 s3 s4 s5 wx b d hnd o hR KR hKR=>?_
   have d2:D 2:=o 2 (by decide) (by kernel_rfl);have d4:D 4:=o 4 (by decide) (by kernel_rfl);have d6:D 6:=o 6 (by decide) (by kernel_rfl);clear o;obtain ⟨ga,rfl,_⟩:=hR.2.1 d2;obtain ⟨gr,rfl,_⟩:=hR.2.2.1 d4;obtain ⟨gc,rfl,_⟩:=hR.2.2.2.1 d6;simp only [Us,Act.put,List.setIfInBounds_toArray,List.set_cons_zero,List.set_cons_succ] at d;subst d;go_simp;have hN:=hR.set7 d2 d4 d6;exact hKR.out _ _ (Or.inr hN.1) ⟨_,_,_,_,s5,rfl,hN⟩
  ·refine YR.mk rfl fun D s1 s2 s3 s4 s5 wx b d hnd o hR KR hKR=>?_
   simp only [Us,Act.put,List.setIfInBounds_toArray,List.set_cons_zero,List.set_cons_succ] at d;subst d;go_simp;have hN:=hR.set8;exact hKR.out _ _ (Or.inr hN.1) ⟨s1,s2,s3,s4,_,rfl,hN⟩
  ·intro D s1 s2 s3 s4 s5 wx B hR;obtain ⟨hb,p1,p2,p3,p4,p5,p6⟩:=hR;obtain ⟨ga,rfl,hA⟩:=p1 (B 2 (by decide));obtain ⟨gr,rfl,_,hI⟩:=p2 (B 4 (by decide));obtain ⟨gc,rfl,_,hJ⟩:=p3 (B 6 (by decide));obtain rfl:=(p4 (B 7 (by decide))).2;obtain ⟨ge,rfl,cd,hB⟩:=p5 (B 8 (by decide));have cz:=p6 (B 4 (by decide)) (B 6 (by decide));obtain ⟨t0,t1,t2,t3⟩:=hB.four;obtain ⟨f0,f1,f2,f3⟩:=hB.fourF;simp only [Us,Act.put,List.setIfInBounds_toArray,List.set_cons_zero,List.set_cons_succ];refine ZQ rfl rfl (fun KR hKR=>?_);go_simp;refine hKR.out _ _ (Or.inl (by decide)) ?_;clear hKR KR;refine Y7 ?_;go_wp2_with fail
   go_meet
   have hh:Old.n≤ge:=JW ag.le cd;have k1:=hB.but4 (.int .i64 (n:Int)) (.slice (some ⟨ga,0,none⟩) n n) (.slice (some ⟨gr,0,none⟩) n n) (.slice (some ⟨gc,0,none⟩) n n);exact ⟨ge,ga,gr,gc,rfl,fun e=>cz (by rw [e]),hB.set4 _ _ _ _,k1.own hA (by decide),hI.but k1 (by decide),hJ.but k1 (by decide),Z5 hb cd _ _ _ _,cd⟩
 case rest=>
  obtain ⟨ge,ga,gr,gc,rfl,cu,hB,hA,hI,hJ,l,cd⟩:=hcut;have e5:Zua W ge ga gr gc n 0 wc:=⟨fun _=>0,fun _=>0,hB,by rw [Zfi];exact hA,fun r hr=>absurd hr (by omega),fun r s hr=>absurd hr (by omega),by rw [Zfj];exact hI,by rw [Zfj];exact hJ,l⟩;have cl:=X5 n (by omega);clear hB hA hI hJ l;go_wp2
  go_loopw [36] (fun x wr=>∃i:Nat,i≤n∧x= .int .i64 i∧Zua W ge ga gr gc n i wr) (fun x _=>n - (intOf x).toNat)
  case atStart=>exact ⟨0,by omega,rfl,e5⟩
  case round=>
   clear e5;obtain ⟨i,hi,rfl,G,D,hB,hA,hR,af,hI,hJ,l⟩:=hrel;rcases JX i n with hil | hil
   ·have ft:(i:Int) < n:=(by omega);obtain ⟨_,b1,_,_⟩:=hB.four;obtain ⟨_,_,gp⟩:=ZI hA;have HA:=JZ hA;have HB:=JZ hB;have e7:=JZ hR;have fu:=JZ af;have HI:=JZ hI;have HJ:=JZ hJ;have F:=Zd wr.drew (.cells (zfc n) 36);have d0:=YL.zeros wr.drew n (by unfold maxLen;omega);obtain ⟨W1,ce⟩:∃W1,wr.drew.alloc (.cells (zfc n) 36)=W1:=⟨_,rfl⟩;rw [ce] at F d0;have Y:Below wr.heap.size wr W1:=Za (Zj wr) F (JY _);obtain ⟨m0,m1⟩:=Zw (own_below hA Y) (Zip (G:=G) (D:=D) hil);clear hA hB hR af hI hJ F
    go_upto_region 6 with (fail)
    have C1:=Zr b1;have y:=Zj wr;clear b1;refine Zt 6 [0,1,2,3,4,5,6] (by kernel_rfl) (by kernel_rfl) ?_;repeat ((first | (refine Zc (v:=?_) rfl rfl rfl ?_ ?_;rotate_left;(· (intro _ u;go_simp;(try go_bits);(try with_reducible rfl)))) | (refine Ze (v:=?_) rfl rfl rfl ?_ ?_;rotate_left;(· (intro _ u;go_simp;(try go_bits);(try with_reducible rfl)))) | refine Zf rfl rfl rfl ?_);(try simp only [Act.put,pu1,pu2,pu3,pu4,pu5,pu6]))
    refine Zg rfl rfl (fun KR hKR=>?_);go_simp;refine hKR.out _ _ (Or.inr Y) ?_;clear hKR KR ce;(try simp only [Act.put,pu1,pu2,pu3,pu4,pu5,pu6]);repeat ((first | (refine Zc (v:=?_) rfl rfl rfl ?_ ?_;rotate_left;(· (intro _ u;go_simp;(try go_bits);(try with_reducible rfl)))) | (refine Ze (v:=?_) rfl rfl rfl ?_ ?_;rotate_left;(· (intro _ u;go_simp;(try go_bits);(try with_reducible rfl)))) | refine Zf rfl rfl rfl ?_);(try simp only [Act.put,pu1,pu2,pu3,pu4,pu5,pu6]))
    refine Zg rfl rfl (fun KR hKR=>?_);go_simp;refine hKR.out _ _ (Or.inl (by decide)) ?_;clear hKR KR;(try simp only [Act.put,pu1,pu2,pu3,pu4,pu5,pu6]);refine Zv ?_;clear C1;have aw:=own_below HA.out Y;have ax:=YJ aw i (.slice (some ⟨wr.heap.size,0,none⟩) n n) (by rw [Xi];exact hil);rw [Ziq hil] at ax;obtain ⟨_,ew,gs⟩:=ZI aw;have h8:Old.n≤ga:=JW ag.le gs;have kb:=Zk.setCell ew i (.slice (some ⟨wr.heap.size,0,none⟩) n n);have S:=kb.bk (HB.out.later Y) (by decide);have bu:=(HI.out.below Y).but kb (by decide);have bv:=(HJ.out.below Y).but kb (by decide);have J:=(Za l Y l.size).setCell (p:=⟨ga,i,none⟩) gp (.slice (some ⟨wr.heap.size,0,none⟩) n n);have a5:∀r,r < i+1→YL W.heap.size (W1.setCell ⟨ga,i,none⟩ (.slice (some ⟨wr.heap.size,0,none⟩) n n)) (YP n (putN G i wr.heap.size) (putN D i n) r) (rfL n fun _=>zeroF):=fun r hr=>by
     by_cases e:r=i
     ·subst e;unfold YP;rw [ZP,ZP,← Zbe];exact (YL.monoB d0 l.size).but kb (by decide) (by decide)
     ·unfold YP;rw [ZM (by omega),ZM (by omega)];exact ((e7.out r (by omega)).below Y).but kb (by decide) (by decide)
    have cm:∀r s,r < i+1→s < i+1→putN G i wr.heap.size r=putN G i wr.heap.size s→r=s:=fun r s hr hs e=>by
     have e8:∀q,q < i→G q < wr.heap.size:=fun q hq=>by
      obtain ⟨g,c,hv,_,h2,_⟩:=(e7.out q hq).shape (by rw [Zq];omega);unfold YP at hv;injection hv with e1;injection e1 with e1;injection e1 with e1;omega
     by_cases e1:r=i
     ·by_cases e2:s=i
      ·omega
      ·rw [e1,ZP,ZM (show s < i by omega)] at e;have:=e8 s (by omega);omega
     ·by_cases e2:s=i
      ·rw [e2,ZP,ZM (show r < i by omega)] at e;have:=e8 r (by omega);omega
      ·rw [ZM (show r < i by omega),ZM (show s < i by omega)] at e;exact fu.out r s (by omega) (by omega) e
    have fv:=JZ a5;have ea:=JZ cm;clear aw ew kb m0 m1 Y d0 a5 cm l;generalize W1.setCell ⟨ga,i,none⟩ (.slice (some ⟨wr.heap.size,0,none⟩) n n)=W3 at *;obtain ⟨_,_,b2,b3⟩:=S.four;obtain ⟨x0,x1,_,_⟩:=bu.at_ (Zdh hil);obtain ⟨y0,y1,_,_⟩:=bv.at_ (Zdh hil);obtain ⟨ex,k3⟩:=bu.set_ (k:=i) (z:= -1) (by rw [YX];exact hil) (by omega) (by omega);have d5:=bv.others (ZN.of_set (g:=gr) (i:=i) (v:= .int .i64 (-1)) (w:=W3)) (fun b hb e=>by simp [Value.ownBlock] at hb;injection e with e;omega);obtain ⟨aq,k4⟩:=d5.set_ (k:=i) (z:= -1) (by rw [YX];exact hil) (by omega) (by omega);have d7:=ex.others (ZN.of_set (g:=gc) (i:=i) (v:= .int .i64 (-1)) (w:=W3.setCell ⟨gr,i,none⟩ (.int .i64 (-1)))) (fun b hb e=>by simp [Value.ownBlock] at hb;injection e with e;omega);rw [Zqr hil] at d7 aq;have k5:=k3.trans k4;have a2:=(J.setCell (p:=⟨gr,i,none⟩) bu.base (.int .i64 (-1))).setCell (p:=⟨gc,i,none⟩) bv.base (.int .i64 (-1));have fw:Zua W ge ga gr gc n (i+1) ((W3.setCell ⟨gr,i,none⟩ (.int .i64 (-1))).setCell ⟨gc,i,none⟩ (.int .i64 (-1))):=
     ⟨_,_,k5.bk S (by decide),k5.own ax (by decide),fun r hr=>(fv.out r hr).but k5 (by decide) (by decide),ea.out,d7,aq,a2⟩
    obtain ⟨hw,hx,_,_⟩:=d5.at_ (Zdh hil);clear ax bu bv ex d5 d7 aq k3 k4 k5 J a2 S;go_wp2;go_roundw
    case rel=>exact ⟨i+1,by omega,by go_num,fw⟩
    case measure=>simp [intOf];omega
   ·obtain rfl:n=i:=by omega
    have hM:VC W.heap.size wr (.slice (some ⟨ga,0,none⟩) n n) n n (fun _ _=>zeroF) G D:=⟨by rw [← Zio];exact hA,hR,af⟩;rw [Zqs,← Zoa (R:=fun _=>0)] at hI hJ;have hF:Y1 W ge ga gr gc n G D (Ww n 0 fun _=>0) (Ww n 0 fun _=>0) (Vj (vcL n Cs) 0 0) wr:=⟨_,⟨hB,hM,hI,hJ,Xj,Xj⟩,fun i j _ _=> .inr ⟨rfl,Zhb _ _ _⟩,l⟩;clear hA hR af hI hJ hM hB cl l;go_wp2
    go_loopw [56] (fun x wr=>∃k:Nat,k≤n∧x= .int .i64 k∧Y1 W ge ga gr gc n G D (Ww n 0 fun _=>0) (Ww n 0 fun _=>0) (Vj (vcL n Cs) k 0) wr) (fun x _=>n - (intOf x).toNat)
    case atStart=>exact ⟨0,by omega,rfl,hF⟩
    case round=>
     clear hF;obtain ⟨k,hk,rfl,hF⟩:=hrel;rcases JX k n with hkl | hkl
     ·obtain ⟨bc,oc,A1,c1,rfl,x0,hL⟩:=HV.out.vc (JR _ _) hkl;have I:=Za O hF.choose_spec.2.2 O.size;have y0:=ZH I x0;have eb:(k:Int) < n:=(by omega);have ec:0 < n:=(by omega);obtain ⟨ln,dl⟩:∃ln,ln=(spV (Cs k) n).length:=⟨_,rfl⟩;have ed:=JZ dl;rw [← dl] at x0 y0 hL;obtain ⟨-,ey,ez⟩:=hL.len;have HL:=JZ hL;clear hL dl I x0;go_wp2;clear y0
      go_loopw [63] (fun x wr=>∃t:Nat,t≤ln∧x= .int .i64 t∧Y1 W ge ga gr gc n G D (Ww n 0 fun _=>0) (Ww n 0 fun _=>0) (Vj (vcL n Cs) k t) wr) (fun x _=>ln - (intOf x).toNat)
      case atStart=>exact ⟨0,by omega,rfl,hF⟩
      case round=>
       clear hF;obtain ⟨t,ht,rfl,hF⟩:=hrel;rcases JX t ln with htl | htl
       ·obtain ⟨e,he⟩:=YS (es:=spV (Cs k) n) (i:=t) (by rw [← ed.out];exact htl);obtain ⟨i0,be,f4,f5,f6⟩:=VB he;obtain ⟨b,hy,A2,n2,c2,A3,n3,c3,rfl,_,⟨x0,x1,x2,x3,x4⟩,f7⟩:=HL.out.elem (Za O hF.choose_spec.2.2 O.size) he;have fx:Hid (∀i j,i < n→j < n→Vj (vcL n Cs) k (t+1) i j=if i=i0∧j=k then Cs k i0 else Vj (vcL n Cs) k t i j):=JZ fun i j _ _=>by
         rw [Zkl (Zbb hkl) (Zcy _ _) he f4,f5,ZG]
        obtain ⟨ei,f⟩:=e;simp only at *;subst f4 f5;obtain ⟨W1,ce,hV,dm⟩:=Zid wr (.int .i64 (i0:Int)) (.bool (canF (Cs k i0)).num.neg) (.slice A2 n2 c2) (.bool (canF (Cs k i0)).den.neg) (.slice A3 n3 c3);obtain ⟨v0,v1,v2,v3,v4⟩:=hV.five;have Z:=hF.below dm;have ee:=f7.below dm;obtain ⟨M,⟨hB,hM,_⟩,_⟩:=id Z;obtain ⟨_,b1,_,_⟩:=hB.four;obtain ⟨m1,_⟩:=hM.cellAt be;unfold YP at m1;obtain ⟨l1,l2,l3,l4⟩:=hM.lt be ec;obtain ⟨_,_,_,_,_,_,⟨c0,gv,gw,gx⟩,_⟩:=hM.at_ be hkl;obtain ⟨f0,f1,f2,f3⟩:=hM.frozen be hkl;have ft:(i0:Int) < n:=(by omega);clear hF f7 he f6 hM hB hV dm
        go_upto_region 15 with (fail)
        clear ce;have C0:=Zr v0;have C1:=Zr v1;have C2:=Zr v2;have C3:=Zr v3;have C4:=Zr v4;have D1:=Zr b1;have D2:=Zr m1;have y:=Zj W1;clear v0 v1 v2 v3 v4 x0 x1 x2 x3 x4 b1 m1;refine Zt 10 [0,1,2,3,4,5,6,7,8,9,10] (by kernel_rfl) (by kernel_rfl) ?_;repeat ((first | (refine Zc (v:=?_) rfl rfl rfl ?_ ?_;rotate_left;(· (intro _ u;go_simp;(try go_bits);(try with_reducible rfl)))) | (refine Ze (v:=?_) rfl rfl rfl ?_ ?_;rotate_left;(· (intro _ u;go_simp;(try go_bits);(try with_reducible rfl)))) | refine Zf rfl rfl rfl ?_);(try simp only [Act.put,pu1,pu2,pu3,pu4,pu5,pu6]))
        refine Zg rfl rfl (fun KR hKR=>?_);go_simp;refine hKR.out _ _ (Or.inl (by decide)) ?_;clear hKR KR;(try simp only [Act.put,pu1,pu2,pu3,pu4,pu5,pu6]);refine Zv ?_;clear C0 C1 C2 C3 C4 D1 D2;have ah:=(Z.below y).setM be hkl (ee.below y) fx.out;clear Z ee y c0 gv gw gx f0 f1 f2 f3;go_wp2;go_roundw
        case rel=>exact ⟨t+1,by omega,by go_num,ah⟩
        case measure=>simp [intOf];omega
       ·obtain rfl:ln=t:=by omega
        have ah:=hF.congr (Q':=Vj (vcL n Cs) (k+1) 0) fun i j _ _=>by rw [ed.out];exact Zkm (Zbb hkl)
        clear hF;go_wp2;go_roundw
        case rel=>exact ⟨k+1,by omega,by go_num,ah⟩
        case measure=>simp [intOf];omega
     ·obtain rfl:n=k:=by omega
      go_upto_region 18 with (fail)
      go_cut [11] (fun s11 wx=>Zvr wr n s11 wx)
      case first=>
       refine Xg 6 (.go 0 (.go 2 (.bag [1,3,4,5] (.go 6 .done)))) (by kernel_rfl) (by kernel_rfl) ?_;repeat ((first | (refine Yg (v:=?_) rfl rfl rfl ?_ ?_;rotate_left;(· (intro _ u;go_simp;(try go_bits);(try with_reducible rfl)))) | (refine YA (v:=?_) rfl rfl rfl ?_ ?_;rotate_left;(· (intro _ u;go_simp;(try go_bits);(try with_reducible rfl)))) | refine YB rfl rfl rfl ?_ | refine Yh rfl rfl rfl (by assumption) ?_);(try simp only [Act.put,pu1,pu2,pu3,pu4,pu5,pu6]))
       refine Zbd 80 82 83 11 4 _ _ _ _ _ (MkF wr n) rfl (by decide) ⟨Zj wr,fun h=>h.elim,fun h=>h.elim,fun h=>h.elim,fun h=>h.elim,fun h=>h.elim,rfl⟩ (List.forall_mem_cons.2 ⟨?_,List.forall_mem_cons.2 ⟨?_,List.forall_mem_cons.2 ⟨?_,List.forall_mem_cons.2 ⟨?_,fun _ h=>absurd h List.not_mem_nil⟩⟩⟩⟩) ?_
       ·refine YR.mk rfl fun D s1 s2 s3 s4 s5 wx b d hnd o hR KR hKR=>?_
        obtain rfl:=hR.2.2.2.2.2.2;simp only [Us,Act.put,List.setIfInBounds_toArray,List.set_cons_zero,List.set_cons_succ] at d;subst d;go_simp;have hN:=hR.set1 (by unfold maxLen;omega) hnd;exact hKR.out _ _ (Or.inr hN.1) ⟨_,s2,s3,s4,_,rfl,hN⟩
       ·refine YR.mk rfl fun D s1 s2 s3 s4 s5 wx b d hnd o hR KR hKR=>?_
        obtain rfl:=hR.2.2.2.2.2.2;simp only [Us,Act.put,List.setIfInBounds_toArray,List.set_cons_zero,List.set_cons_succ] at d;subst d;go_simp;have hN:=hR.set3 (by unfold maxLen;omega) hnd;exact hKR.out _ _ (Or.inr hN.1) ⟨s1,_,s3,s4,_,rfl,hN⟩
       ·refine YR.mk rfl fun D s1 s2 s3 s4 s5 wx b d hnd o hR KR hKR=>?_
        obtain rfl:=hR.2.2.2.2.2.2;have d1:D 1:=o 1 (by decide) (by kernel_rfl);have d3:D 3:=o 3 (by decide) (by kernel_rfl);clear o;obtain ⟨i1,rfl,_⟩:=hR.2.1 d1;obtain ⟨i2,rfl,_⟩:=hR.2.2.1 d3;simp only [Us,Act.put,List.setIfInBounds_toArray,List.set_cons_zero,List.set_cons_succ] at d;subst d;go_simp;have hN:=hR.set4 d1 d3;exact hKR.out _ _ (Or.inr hN.1) ⟨_,_,_,s4,_,rfl,hN⟩
       ·refine YR.mk rfl fun D s1 s2 s3 s4 s5 wx b d hnd o hR KR hKR=>?_
        obtain rfl:=hR.2.2.2.2.2.2;simp only [Us,Act.put,List.setIfInBounds_toArray,List.set_cons_zero,List.set_cons_succ] at d;subst d;go_simp;have hN:=hR.set5;exact hKR.out _ _ (Or.inr hN.1) ⟨s1,s2,s3,_,_,rfl,hN⟩
       ·intro D s1 s2 s3 s4 s5 wx B hR;obtain ⟨hb,p1,p2,p3,p4,p5,rfl⟩:=hR;obtain ⟨g0,rfl,_,hI⟩:=p1 (B 1 (by decide));obtain ⟨g1,rfl,_,hJ⟩:=p2 (B 3 (by decide));obtain rfl:=(p3 (B 4 (by decide))).2;obtain ⟨gf,rfl,bf,hB⟩:=p4 (B 5 (by decide));have cz:=p5 (B 1 (by decide)) (B 3 (by decide));obtain ⟨t0,t1,t2,t3⟩:=hB.four;obtain ⟨f0,f1,f2,f3⟩:=hB.fourF;simp only [Us,Act.put,List.setIfInBounds_toArray,List.set_cons_zero,List.set_cons_succ];refine ZQ rfl rfl (fun KR hKR=>?_);go_simp;refine hKR.out _ _ (Or.inl (by decide)) ?_;clear hKR KR;refine Y7 ?_;go_wp2_with fail
        go_meet
        have fy:Old.n≤gf:=JW (Zb.up hF.choose_spec.2.2 ag).le bf;have k1:=hB.but4 (.slice (some ⟨g0,0,none⟩) n n) (.slice (some ⟨g1,0,none⟩) n n) (.slice none 0 0) (.slice none 0 0);exact ⟨gf,g0,g1,rfl,fun e=>cz (by rw [e]),hB.set4 _ _ _ _,hI.but k1 (by decide),hJ.but k1 (by decide),Z5 hb bf _ _ _ _,bf⟩
      case rest=>
       obtain ⟨gf,g0,g1,rfl,cv,hB,hI,hJ,l,bf⟩:=hcut;have Z:=hF.below l;obtain ⟨_,⟨bw,f8,a4,dn,ey,ez⟩,_,P⟩:=id hF;have ai:Hid (W.heap.size≤g0∧wr.heap.size≤g0∧gr < wr.heap.size∧gc < wr.heap.size):=JZ ⟨JW P.size hI.base,hI.base,Vz a4.1 gr rfl,Vz dn.1 gc rfl⟩;have aj:Hid (W.heap.size≤g1∧wr.heap.size≤g1∧gr < wr.heap.size∧gc < wr.heap.size):=JZ ⟨JW P.size hJ.base,hJ.base,Vz a4.1 gr rfl,Vz dn.1 gc rfl⟩;have g2:=Vz f8.1 ga rfl;have d8:Hid (W.heap.size≤gf):=JZ (JW P.size bf);have fy:Old.n≤gf:=JW ag.le d8.out;have ef:=l.size;have eg:Hid (W.heap.size≤wc.heap.size∧ga < wc.heap.size):=JZ ⟨by have:=P.size;omega,by omega⟩;have hz:=UZ 77 wc n (by unfold maxLen;omega);have F:=Zd wc (.cells (zvc n) 77);have ay:Zuf W ge ga gr gc gf g0 g1 wc.heap.size n K 0 G D (trM Cs) (wc.alloc (.cells (zvc n) 77)):=by
        refine ⟨trM Cs,fun _ _=>0,fun _=>0,fun _=>0,fun _=>0,fun _=>0,(Z.below F).congr fun i j hi hj=>?_,VA.start _ _ _ _ _,fun i j hi hj=>by rw [Nat.pow_zero,Nat.one_mul];exact fs.out i j hi hj,fun s i hs=>absurd hs (by omega),hB.later F,?_,?_,?_,fun _ _=>zeroF,fun s hs=>absurd hs (by omega)⟩
        ·rw [Znz hj,show (vcL n Cs).getD j []=spV (Cs j) n by simp [List.getD,Zbb hj],Zsb,if_pos hi];rfl
        ·rw [← Zfl];exact (hI.below F).monoB P.size
        ·rw [← Zfl];exact (hJ.below F).monoB P.size
        ·rw [Zfi];exact WX hz (JW P.size ef)
       clear hB hI hJ l Z bw f8 a4 dn ey ez P hz F hF g2 ef;go_wp2;generalize wc.heap.size=gt at *;generalize wc.alloc (.cells (zvc n) 77)=W5 at *
       go_loopw [87] (fun x wr=>∃t:Nat,t≤n∧x= .int .i64 t∧Zuf W ge ga gr gc gf g0 g1 gt n K t G D (trM Cs) wr) (fun x _=>n - (intOf x).toNat)
       case atStart=>exact ⟨0,by omega,rfl,ay⟩
       case round=>
        clear ay;obtain ⟨t,ht,rfl,hL⟩:=hrel;rcases JX t n with htl | htl
        ·obtain ⟨a,m,R,C,Ff,E,hF,bg,bh,bi,hR⟩:=hL;obtain ⟨M,hE,hT,hb⟩:=id hF;have HF:=JZ hF;have HR:=JZ hR;have L:=JZ bg;have az:=JZ bh;have d9:=JZ bi;have HT:=JZ hT;have g3:Hid (∀i,i < n→G i < wr.heap.size):=JZ fun i hi=>(hE.2.1.lt hi (by omega)).2.1
         have a3:=Za O hb O.size;have g4:(t:Int) < n:=(by omega);clear hF bg bh bi hR hT hb;go_wp2_with fail;refine (Zkk W.heap.size ge n _ _ _ M G D _ _ _ hE (by omega)).mono ?_;rintro _ w1 ⟨r0,c0,ok,rfl,dz,e0,ae⟩;clear hE
         cases ok with
         | false=>
          have o:¬XA n Cs:=L.out.dep htl fun i j hi hj h1 h2=>by
           have hz:=e0 rfl i j hi hj;unfold Zki at hz;rw [WP hi,WP hj,decide_eq_true (Vg.2 h1),decide_eq_true (Vg.2 h2)] at hz;simp only [Bool.true_and,decide_eq_false_iff_not] at hz;by_cases e:a i j=0
           ·exact e
           ·exact absurd ((HT.out i j hi hj).len.2 e) hz
          have da:=e4.out.later (Za (HF.out.choose_spec.2.2.mono bt.out) ae (JW bt.out HF.out.choose_spec.2.2.size));have F:=Za a3 ae a3.size;obtain ⟨t0,t1,t2,t3⟩:=da.four;obtain ⟨f0,f1,f2,f3⟩:=da.fourF;clear dz e0 a3;go_wp2;refine XN Tryz.results38 Tryz.underlying69 (by kernel_rfl) rfl (da.set4 _ _ _ _) rfl ?_;exact ⟨Z5 F (JY _) _ _ _ _,.inr ⟨rfl,o⟩⟩
         | true=>
          obtain ⟨r,c,rfl,rfl,hr,hc,bj⟩:=dz rfl;unfold Zki at bj;rw [WP hr,WP hc,Bool.and_eq_true,Bool.and_eq_true,decide_eq_true_eq,decide_eq_true_eq,decide_eq_true_eq] at bj;obtain ⟨f9,fa,fb⟩:=bj;have eh:=JZ (Vg.1 f9);have ej:=JZ (Vg.1 fa);have HP:=JZ ((HT.out r c hr hc).len.1 fb);have g5:(r:Int) < n:=(by omega);have g6:(c:Int) < n:=(by omega);clear f9 fa fb dz e0;have Z:=HF.out.below ae;have ak:=HR.out.below ae;obtain ⟨a5,k2⟩:=ak.set0 cv (k:=t) (z:=(r:Int)) (by rw [Wt];exact htl) (by omega) (by omega);obtain ⟨a6,k3⟩:=a5.set1 cv (k:=t) (z:=(c:Int)) (by rw [Wt];exact htl) (by omega) (by omega);rw [Ziu htl] at a5 a6;rw [Ziu htl] at a6;have ah:=Z.farI k2 ai.out.1 (by have:=ai.out;omega) (by have:=ai.out;omega);have b0:=ah.farI k3 aj.out.1 (by have:=aj.out;omega) (by have:=aj.out;omega);obtain ⟨y0,y1,_,_⟩:=ak.2.1.at_ (U2 htl);obtain ⟨z0,z1,_,_⟩:=ak.2.2.1.at_ (U2 htl);have ek:=ak.1;have bw:=a5.1;have b4:=a6.1;obtain ⟨s0,s1,_,_⟩:=ak.1.four;have b0:=b0.below (Zj _);have a6:=a6.below (Zj _);clear Z ak a5 ah k2 k3
          go_upto_region 26 with (fail)
          clear s0 s1;have C0:∀w',Bk w' gf 69 [.slice (some ⟨g0,0,none⟩) n n,.slice (some ⟨g1,0,none⟩) n n,.slice none 0 0,.slice none 0 0]→w'.cell? ⟨gf,0,none⟩=some (.slice (some ⟨g0,0,none⟩) n n):=fun w' h=>h.four.1
          have C1:∀w',Bk w' gf 69 [.slice (some ⟨g0,0,none⟩) n n,.slice (some ⟨g1,0,none⟩) n n,.slice none 0 0,.slice none 0 0]→w'.cell? ⟨gf,1,none⟩=some (.slice (some ⟨g1,0,none⟩) n n):=fun w' h=>h.four.2.1
          refine Zhe (fun w'=>Bk w' gf 69 [.slice (some ⟨g0,0,none⟩) n n,.slice (some ⟨g1,0,none⟩) n n,.slice none 0 0,.slice none 0 0]) ek 12 [0,1,2,3,4,5,6,7,8,9,10,11] (by kernel_rfl) (by kernel_rfl) ?_;repeat ((first | (refine Zc (v:=?_) rfl rfl rfl ?_ ?_;rotate_left;(· (intro _ u;go_simp;(try go_bits);(try with_reducible rfl)))) | (refine Ze (v:=?_) rfl rfl rfl ?_ ?_;rotate_left;(· (intro _ u;go_simp;(try go_bits);(try with_reducible rfl)))) | refine Zf rfl rfl rfl ?_);(try simp only [Act.put,pu1,pu2,pu3,pu4,pu5,pu6]))
          refine Zg rfl rfl (fun KR hKR=>?_);go_simp;refine hKR.out _ _ (Or.inr bw) ?_;clear hKR KR;(try simp only [Act.put,pu1,pu2,pu3,pu4,pu5,pu6]);repeat ((first | (refine Zc (v:=?_) rfl rfl rfl ?_ ?_;rotate_left;(· (intro _ u;go_simp;(try go_bits);(try with_reducible rfl)))) | (refine Ze (v:=?_) rfl rfl rfl ?_ ?_;rotate_left;(· (intro _ u;go_simp;(try go_bits);(try with_reducible rfl)))) | refine Zf rfl rfl rfl ?_);(try simp only [Act.put,pu1,pu2,pu3,pu4,pu5,pu6]))
          refine Zg rfl rfl (fun KR hKR=>?_);go_simp;refine hKR.out _ _ (Or.inr b4) ?_;clear hKR KR;(try simp only [Act.put,pu1,pu2,pu3,pu4,pu5,pu6]);refine Zv ?_;clear C0 C1 ek bw b4 y0 y1 z0 z1;have F:=Za a3 ae a3.size;have h9:=((F.setCell (p:=⟨g0,t,none⟩) (JW O.size ai.out.1) (.int .i64 (r:Int))).setCell (p:=⟨g1,t,none⟩) (JW O.size aj.out.1) (.int .i64 (c:Int))).drew;have el:wr.heap.size≤((w1.setCell ⟨g0,t,none⟩ (.int .i64 (r:Int))).setCell ⟨g1,t,none⟩ (.int .i64 (c:Int))).drew.heap.size:=(by simpa using ae.size);clear ae a3 F;generalize ((w1.setCell ⟨g0,t,none⟩ (.int .i64 (r:Int))).setCell ⟨g1,t,none⟩ (.int .i64 (c:Int))).drew=W2 at *;obtain ⟨_,⟨⟨hB,_,hI,hJ,_,_⟩,_,_⟩⟩:=id b0;obtain ⟨_,_,b2,b3⟩:=hB.four;obtain ⟨cf,k4⟩:=b0.setR cu hr (z:=(t:Int)) (by omega) (by omega);obtain ⟨am,k5⟩:=cf.setC cu hc (z:=(t:Int)) (by omega) (by omega);rw [Zit eh.out] at cf am;rw [Zit ej.out] at am;have em:=a6.farI k4 (by have:=ai.out;omega) (by have:=aj.out;omega);have a7:=em.farI k5 (by have:=ai.out;omega) (by have:=aj.out;omega);obtain ⟨y0,y1,_,_⟩:=hI.at_ (XR hr);obtain ⟨_,⟨⟨_,_,_,aq,_,_⟩,_,_⟩⟩:=id cf;obtain ⟨z0,z1,_,_⟩:=hJ.at_ (XR hc);obtain ⟨gy,gz,_,_⟩:=aq.at_ (XR hc);have ha:wr.heap.size≤((W2.setCell ⟨gr,r,none⟩ (.int .i64 (t:Int))).setCell ⟨gc,c,none⟩ (.int .i64 (t:Int))).heap.size:=(by simpa using el);clear b0 cf a6 em k4 k5 hB hI hJ aq;go_wp2_with fail;clear b2 b3 y0 y1 z0 z1 gy gz;generalize (W2.setCell ⟨gr,r,none⟩ (.int .i64 (t:Int))).setCell ⟨gc,c,none⟩ (.int .i64 (t:Int))=W4 at *;obtain ⟨M4,fc,fd,ch⟩:=am;have en:5^t * K≤5^n * K:=JS K (Nat.pow_le_pow_right (by decide) (by omega));have eo:¬(Ww n (t+1) (putN R t r)).getD r 0 < 0:=fun g=>((XJ hr).1 g).2 rfl
          refine (Zdi W.heap.size ge n _ _ _ M4 G D _ _ a r c (5^t * K) _ fc fd (by omega) hr hc eo HP.out az.out (by have:=HE.out;omega) ch.size).mono ?_;rintro _ w5 ⟨v',rfl,M5,H,fo,fp,e3,hH,fq,fr,a2⟩;obtain ⟨cw,cx,cy⟩:=Zqv L.out hr hc eh.out ej.out HP.out HK.out az.out;obtain ⟨g,cg,fe,i3,i4,h3,i5⟩:=e3.shape (by rw [Zq];omega);rw [Zq] at fe h3;subst fe;have al:Y1 W ge ga gr gc n G D (Ww n (t+1) (putN R t r)) (Ww n (t+1) (putN C t c)) (elQ (Ww n (t+1) (putN R t r)) (Ww n (t+1) (putN C t c)) a r c n 0) w5:=⟨M5,fo,fp,ch.trans a2⟩;have a8:=a7.othP fr fq;obtain ⟨m0,m1⟩:=Zw a8.2.2.2.1 (Zip (G:=Ff) (D:=E) htl);obtain ⟨a9,k7⟩:=a8.push htl (YL.monoB e3 ch.size) (fun i hi=>⟨(hH i hi).1,(hH i hi).2.mono (by omega)⟩) (fun i hi=>by have:=g3.out i hi;omega);have b5:=al.farT k7 (v:= .slice (some ⟨g,0,none⟩) n cg) eg.out.1 (by have:=eg.out;omega);have g7:Zuf W ge ga gr gc gf g0 g1 gt n K (t+1) G D (trM Cs) (w5.setCell ⟨gt,t,none⟩ (.slice (some ⟨g,0,none⟩) n cg)):=⟨_,_,_,_,_,_,b5,cw,cy,fun s i hs hi=>by
           by_cases e:s=t
           ·subst e;rw [ZP];exact (cx i hi).mono (by omega)
           ·rw [ZM (by omega)];exact d9.out s i (by omega) hi,a9⟩
          clear fc fd ch fo fp e3 hH fq fr a2 cw cx cy al a8 a9 k7 b5 a7 eo en;go_wp2;go_roundw
          case rel=>exact ⟨t+1,by omega,by go_num,g7⟩
          case measure=>simp [intOf];omega
        ·obtain rfl:n=t:=by omega
         obtain ⟨a,m,R,C,Ff,E,hF,bg,bh,bi,hR⟩:=hL;rw [Ziv,Ziv] at hR;have L:=JZ bg;have az:=JZ bh;have d9:=JZ bi;have db:Hid (1≤5^n * K):=JZ (Nat.mul_pos (Nat.pow_pos (by decide)) HK.out);have ep:=Zey n (by omega);have bx:=Zd wr (.cells (zvc n) 28);have er:=Yl.zeros wr n (by unfold maxLen;omega);have am:=hF.below bx;have a7:=hR.below bx;obtain ⟨a8,k6⟩:=a7.set2 (.slice (some ⟨wr.heap.size,0,none⟩) n n);obtain ⟨s0,s1,s2,s3⟩:=a7.1.four;obtain ⟨f0,f1,f2,f3⟩:=a7.1.fourF;have c4:=hF.choose_spec.2.2;have N:=(Za c4 bx c4.size).setCell (p:=⟨gf,2,none⟩) d8.out (.slice (some ⟨wr.heap.size,0,none⟩) n n);have al:=am.but k6 N (by decide) (by decide) (by decide) (by decide) (by decide);have dc:=er.but k6 (by decide) (by decide) (by decide);have g8:=c4.size;obtain ⟨gl,dp⟩:∃gl,gl=wr.heap.size:=⟨_,rfl⟩;have et:Hid (W.heap.size≤gl):=JZ (by omega);clear bg bh bi hF hR am a7 er k6 c4 bx
         go_upto_region 31 with (fail)
         clear s0 s1 s2 s3 f0 f1 f2 f3;have b6:((wr.alloc (.cells (zvc n) 28)).setCell ⟨gf,2,none⟩ (.slice (some ⟨wr.heap.size,0,none⟩) n n)).heap.size=gl+1:=(by rw [dp];simp);rw [← dp] at a8 dc N al b6 ⊢;generalize (wr.alloc (.cells (zvc n) 28)).setCell ⟨gf,2,none⟩ (.slice (some ⟨gl,0,none⟩) n n)=W6 at *;have g9:=JZ b6;clear b6 dp g8;have b7:=Zd W6 (.cells (zvc n) 28);have eu:=Yl.zeros W6 n (by unfold maxLen;omega);have b5:=al.below b7;have a9:=a8.below b7;have cn:=dc.below b7;obtain ⟨dq,k8⟩:=a9.set3 (.slice (some ⟨W6.heap.size,0,none⟩) n n);obtain ⟨s0,s1,s2,s3⟩:=a9.1.four;obtain ⟨f0,f1,f2,f3⟩:=a9.1.fourF;have dd:=(Za N b7 N.size).setCell (p:=⟨gf,3,none⟩) d8.out (.slice (some ⟨W6.heap.size,0,none⟩) n n);have de:=b5.but k8 dd (by decide) (by decide) (by decide) (by decide) (by decide);have df:=(cn.but k8 (by decide) (by decide) (by decide)).monoB et.out;have dg:=(eu.but k8 (by decide) (by decide) (by decide)).monoB (show W.heap.size≤W6.heap.size from N.size);obtain ⟨gu,ff⟩:∃gu,gu=W6.heap.size:=⟨_,rfl⟩;have cp:gl≠gu:=(by have:=g9.out;omega);have gb:=JZ ff;clear ff;clear al a8 dc b5 a9 eu cn k8 N b7;go_wp2_with fail;clear s0 s1 s2 s3 f0 f1 f2 f3;rw [← gb.out] at dq dg de dd df ⊢;generalize (W6.alloc (.cells (zvc n) 28)).setCell ⟨gf,3,none⟩ (.slice (some ⟨gu,0,none⟩) n n)=W8 at *;refine (Zfm _).mono ?_;rintro _ w9 ⟨v9,rfl,e9,a1⟩;obtain ⟨Ao,ko,co,aa,ab,ac,rfl,_,_⟩:=id e9;have b8:=Bk.new w9 36 [.bool (canF 1).num.neg,.slice Ao ko co,.bool (canF 1).den.neg,.slice aa ab ac];have an:=Zd w9 (.cells #[.bool (canF 1).num.neg,.slice Ao ko co,.bool (canF 1).den.neg,.slice aa ab ac] 36);have d:=Za a1 an a1.size;have ay:LuM W ge ga gr gc gf g0 g1 gt gl gu w9.heap.size n (2 * (5^n * K)) 0 0 G D R C Ff E a m (w9.alloc (.cells #[.bool (canF 1).num.neg,.slice Ao ko co,.bool (canF 1).den.neg,.slice aa ab ac] 36)):=
          ⟨de.below d,dq.below d,⟨_,_,_,_,_,_,b8,e9.below an⟩,by rw [← Zbf];exact df.below d,by rw [← Zbf];exact dg.below d⟩
         clear de dq df dg b8 an d e9 a1 dd;go_wp2;generalize w9.heap.size=go at *;generalize w9.alloc (.cells #[.bool (canF 1).num.neg,.slice Ao ko co,.bool (canF 1).den.neg,.slice aa ab ac] 36)=W9 at *;clear ep
         go_loopw [136] (fun x wr=>∃t:Nat,t≤n∧x= .int .i64 t∧LuM W ge ga gr gc gf g0 g1 gt gl gu go n (2 * (5^n * K)) t t G D R C Ff E a m wr) (fun x _=>n - (intOf x).toNat)
         case atStart=>exact ⟨0,by omega,rfl,ay⟩
         case round=>
          clear ay;obtain ⟨t,ht,rfl,cj⟩:=hrel;rcases JX t n with htl | htl
          ·have c8:=JZ cj;have hl:=Zb.up cj.1.choose_spec.2.2 ag;obtain ⟨-,bl,⟨Ao,ko,co,aa,ab,ac,b8,fg⟩,-⟩:=cj;have cl:=X5 n (by omega);have ao:=YL.zeros wr n (by unfold maxLen;omega);have T:=Zd wr (.cells (zfc n) 36);have an:=b8.later T;have cr:=fg.below T;obtain ⟨o0,o1,o2,o3⟩:=an.four;have g4:(t:Int) < n:=(by omega);obtain ⟨_,_,_,_,⟨c0,c1,c2,c3⟩,⟨f0,f1,f2,f3⟩,-⟩:=ao.at_ (k:=t) (f:=zeroF) (by simp [htl]);obtain ⟨ds,k1⟩:=ao.set_ (k:=t) (by simpa using htl) cr;rw [Zbe,WN htl] at ds;have b9:=ZB T (JY _) (t * 4) (t * 4+1) (t * 4+2) (t * 4+3) (.bool (canF 1).num.neg) (.slice Ao ko co) (.bool (canF 1).den.neg) (.slice aa ab ac);obtain ⟨m0,_⟩:=Zw (own_below bl.2.2.2.1 b9) (by rw [Zio];exact Y6 htl);unfold YP at m0;obtain ⟨_,bm⟩:=bl.2.2.2.2;obtain ⟨gq,cq,ar,-,-,fh,h4⟩:=(bm t htl).1.shape (by rw [Zq];omega);rw [Zq] at ar fh;unfold YP at ar;injection ar with hv1 hv2 ar;clear hv1 hv2;rw [← ar] at fh h4;clear bl b8 fg an cr ao bm ar
           go_upto_region 37 with (fail)
           generalize wr.alloc (.cells (zfc n) 36)=W6 at *
           go_upto_region 38 with (fail)
           clear o0 o1 o2 o3 c0 c1 c2 c3 f0 f1 f2 f3 k1 T;generalize (((W6.setCell ⟨wr.heap.size,t * 4,none⟩ (.bool (canF 1).num.neg)).setCell ⟨wr.heap.size,t * 4+1,none⟩ (.slice Ao ko co)).setCell ⟨wr.heap.size,t * 4+2,none⟩ (.bool (canF 1).den.neg)).setCell ⟨wr.heap.size,t * 4+3,none⟩ (.slice aa ab ac)=W8 at *;go_wp2;clear m0;generalize wr=V at *
           go_loopw [150] (fun x wr=>∃k:Nat,k≤n∧x= .int .i64 k∧Below V.heap.size V wr∧∃L':Nat→RF,YL V.heap.size wr (.slice (some ⟨V.heap.size,0,none⟩) n n) (rfL n L')∧∀p,p < n→(L' p).q=Zhd R m t k p∧(L' p).Rs (2 * (5^n * K))) (fun x _=>n - (intOf x).toNat)
           case atStart=>exact ⟨0,by omega,rfl,b9,_,ds,fun p hp=>by
            rw [Zkn];by_cases e:p=t
            ·simp only [if_pos e];exact ⟨ZG _,Sz_one.rs.mono (by have:=db.out;omega)⟩
            ·simp only [if_neg e];exact ⟨zeroF_q,(Ua 1).mono (by have:=db.out;omega)⟩⟩
           case round=>
            clear ds b9;obtain ⟨k,hk,rfl,l,L',hO,U⟩:=hrel;rcases JX k n with hkl | hkl
            ·obtain ⟨-,fi,-⟩:=c8.out;obtain ⟨H0,bm⟩:=fi.2.2.2.2;obtain ⟨fj,fk,-⟩:=bm t htl;obtain ⟨bn,bo⟩:=fk k hkl;obtain ⟨bz,oz,A5,n5,c5,A6,n6,c6,dt,_,⟨x0,x1,x2,x3⟩,au⟩:=fj.frs.elem l (Yt hkl);injection dt with dt;injection dt with aw ax;subst aw;subst ax;simp only [Nat.zero_add] at x0 x1 x2 x3;obtain ⟨sx,bp,du⟩:=L.out.ri.onto hkl;obtain ⟨fz,fl⟩:∃fz,fz=H0 t k:=⟨_,rfl⟩;rw [← fl] at x0 x2 au bn bo;have ev:=JZ bn;have gd:=JZ bo;have eb:(k:Int) < n:=(by omega);have hm:(sx:Int) < n:=(by omega);have gg:Hid (m t k≠0→∀p,p < n→Zhd R m t (k+1) p=if p=sx then m t k else Zhd R m t k p):=JZ fun h0 p hp=>Zoc L.out.ri htl hp bp du h0 (L.out.m0 t t htl (JY _))
             have gh:Hid (m t k=0→∀p,p < n→Zhd R m t k p=Zhd R m t (k+1) p):=JZ fun h0 p hp=>Zob (n:=n) h0
             have gi:Hid ((Ww n n R)[k]? =some (sx:Int)):=JZ (by rw [XR hkl,← du,Zuc L.out.ri bp]);clear fi bm fj fk fl du bn bo;obtain ⟨W9,h5,dv,a1⟩:=Zah wr (.bool fz.num.neg) (.slice A5 n5 c5) (.bool fz.den.neg) (.slice A6 n6 c6);obtain ⟨v0,v1,v2,v3⟩:=dv.four;have dh:=au.below a1;go_wp2_with fail;clear h5;refine (Yd _ fz _ dh).mono ?_;rw [ev.out];rintro _ w2 ⟨rfl,bs⟩;have J:=Za (Za l a1 l.size) bs (JW l.size a1.size);have c9:=(hO.below a1).below bs;have di:=dh.below bs;have S:=dv.later bs;clear hO au dh dv l a1 bs v0 v1 v2 v3 x0 x1 x2 x3;by_cases av:qs (m t k)=0
             ·have dj:=JZ (Yz.1 av);rw [av];clear di S av;go_wp2;go_roundw
              case rel=>exact ⟨k+1,by omega,by go_num,J,L',c9,fun p hp=>⟨by rw [(U p hp).1,gh.out dj.out p hp],(U p hp).2⟩⟩
              case measure=>simp [intOf];omega
             ·have dj:Hid (m t k≠0):=JZ fun e=>av (Yz.2 e)
              have gj:(qs (m t k) !=0)=true:=(by simpa using av);clear av;obtain ⟨v0,v1,v2,v3⟩:=S.four;obtain ⟨⟨M0,⟨bq,-,ad,-⟩,-⟩,-⟩:=c8.out.below J;obtain ⟨_,_,b2,_⟩:=bq.four;obtain ⟨p0,_,_,_⟩:=ad.at_ gi.out;obtain ⟨_,_,_,_,⟨c0,c1,c2,c3⟩,⟨f0,f1,f2,f3⟩,_⟩:=c9.at_ (Yt (f:=L') bp);clear bq ad S
              go_upto_region 42 with (fail)
              clear gj;have C0:=Zr v0;have C1:=Zr v1;have C2:=Zr v2;have C3:=Zr v3;have D0:=Zr b2;have D1:=Zr p0;have y:=Zj w2;clear v0 v1 v2 v3 b2 p0;refine Zt 8 [0,1,2,3,4,5,6,7,8] (by kernel_rfl) (by kernel_rfl) ?_;repeat ((first | (refine Zc (v:=?_) rfl rfl rfl ?_ ?_;rotate_left;(· (intro _ u;go_simp;(try go_bits);(try with_reducible rfl)))) | (refine Ze (v:=?_) rfl rfl rfl ?_ ?_;rotate_left;(· (intro _ u;go_simp;(try go_bits);(try with_reducible rfl)))) | refine Zf rfl rfl rfl ?_);(try simp only [Act.put,pu1,pu2,pu3,pu4,pu5,pu6]))
              refine Zg rfl rfl (fun KR hKR=>?_);go_simp;refine hKR.out _ _ (Or.inl (by decide)) ?_;clear hKR KR;(try simp only [Act.put,pu1,pu2,pu3,pu4,pu5,pu6]);refine Zv ?_;clear C0 C1 C2 C3 D0 D1;obtain ⟨br,_⟩:=(c9.below y).set_ (k:=sx) (by rw [Zq];exact bp) (di.below y);rw [WN bp] at br;have ba:=ZB (Za J y J.size) (JY _) (sx * 4) (sx * 4+1) (sx * 4+2) (sx * 4+3);clear c9 di J y c0 c1 c2 c3 f0 f1 f2 f3;go_wp2;go_roundw
              case rel=>
               refine ⟨k+1,by omega,by go_num,ba _ _ _ _,_,br,fun p hp=>?_⟩;rw [gg.out dj.out p hp];by_cases e:p=sx
               ·simp only [if_pos e];exact ⟨ev.out,gd.out⟩
               ·simp only [if_neg e];exact U p hp
              case measure=>simp [intOf];omega
            ·obtain rfl:n=k:=by omega
             have I:=c8.out.below l;obtain ⟨-,⟨X,-⟩,-,-,-⟩:=id I;obtain ⟨-,-,s2,-⟩:=X.four;have bb:RsL (2 * (5^n * K)) (rfL n L'):=fun i f hf=>by
              have hi:i < n:=(by have:=(List.getElem?_eq_some_iff.1 hf).1;rwa [Zq] at this);rw [Yt hi] at hf;injection hf with hf;subst hf;exact (U i hi).2
             have dk:Hid (spV (qAt (rfL n L')) (rfL n L').length=spV (luL R m t) n):=JZ (by
              rw [Zq];exact WM fun i hi=>by rw [Zng hi,(U i hi).1,Zqw L.out.ri hi fun q hq=>L.out.m0 t q htl hq])
             clear U X
             go_upto_region 44 with (fail)
             have D0:=Zr s2;have y:=Zj wr;clear s2;refine Zt 9 [0,1,2,3,4,5,6,7,8,9] (by kernel_rfl) (by kernel_rfl) ?_;repeat ((first | (refine Zc (v:=?_) rfl rfl rfl ?_ ?_;rotate_left;(· (intro _ u;go_simp;(try go_bits);(try with_reducible rfl)))) | (refine Ze (v:=?_) rfl rfl rfl ?_ ?_;rotate_left;(· (intro _ u;go_simp;(try go_bits);(try with_reducible rfl)))) | refine Zf rfl rfl rfl ?_);(try simp only [Act.put,pu1,pu2,pu3,pu4,pu5,pu6]))
             refine Zg rfl rfl (fun KR hKR=>?_);go_simp;(with_reducible refine (Wq _ _ (2 * (5^n * K)) _ (hO.frs.below y) (by rw [Zq];omega) bb (by have:=HE.out;omega)).mono ?_);rintro _ w6 ⟨v6,rfl,e6,N⟩;have a0:=Za y N y.size;rw [dk.out] at e6;obtain ⟨A7,n7,c7,rfl⟩:∃A n c,v6= .slice A n c:=by obtain ⟨A,c,e,_⟩:=e6.vec.shape;exact ⟨A,_,c,e⟩
             obtain ⟨_,dw,dx,_⟩:=(I.below a0).2.2.2.1.at_ (Uo htl);refine hKR.out _ _ (Or.inr a0) ?_;clear hKR KR;(try simp only [Act.put,pu1,pu2,pu3,pu4,pu5,pu6]);repeat ((first | (refine Zc (v:=?_) rfl rfl rfl ?_ ?_;rotate_left;(· (intro _ u;go_simp;(try go_bits);(try with_reducible rfl)))) | (refine Ze (v:=?_) rfl rfl rfl ?_ ?_;rotate_left;(· (intro _ u;go_simp;(try go_bits);(try with_reducible rfl)))) | refine Zf rfl rfl rfl ?_);(try simp only [Act.put,pu1,pu2,pu3,pu4,pu5,pu6]))
             refine Zg rfl rfl (fun KR hKR=>?_);go_simp;refine hKR.out _ _ (Or.inl (by decide)) ?_;clear hKR KR;(try simp only [Act.put,pu1,pu2,pu3,pu4,pu5,pu6]);refine Zv ?_;clear D0;have F:=(I.below a0).setL cp htl e6.vec (fun b hb=>JW I.size_ (e6.geB b hb));clear I hO l y a0 N e6 dw dx c8;generalize w6.setCell ⟨gl,t,none⟩ (.slice A7 n7 c7)=W7 at *;have ao:=YL.zeros W7 n (by unfold maxLen;omega);have T:=Zd W7 (.cells (zfc n) 36);have cs:=JZ F;have hd:=Zb.up F.1.choose_spec.2.2 ag;clear F;go_wp2
             go_loopw [180] (fun x wr=>∃k:Nat,k≤t+1∧x= .int .i64 k∧Below W7.heap.size W7 wr∧∃L':Nat→RF,YL W7.heap.size wr (.slice (some ⟨W7.heap.size,0,none⟩) n n) (rfL n L')∧∀p,p < n→(L' p).q=upP R C a t k p∧(L' p).Rs (2 * (5^n * K))) (fun x _=>t+1 - (intOf x).toNat)
             case atStart=>exact ⟨0,by omega,rfl,T,fun _=>zeroF,by rw [← Zbe];exact ao,fun p hp=>⟨by unfold upP;rw [if_neg (by omega)];exact zeroF_q,(Ua 1).mono (by have:=db.out;omega)⟩⟩
             case round=>
              clear ao T;obtain ⟨k,hk,rfl,l,L',hO,U⟩:=hrel;rcases JX k (t+1) with hkl | hkl
              ·have I:=cs.out.below l;obtain ⟨⟨M0,⟨bq,ck,-⟩,dy,-⟩,⟨X,ad,a4,-⟩,-⟩:=I;have bd:k < n:=(by omega);have ap:R k < n:=L.out.ri.1 k bd;have ca:C t < n:=L.out.ci.1 t htl;obtain ⟨_,b1,_,_⟩:=bq.four;obtain ⟨s0,s1,_,_⟩:=X.four;obtain ⟨y0,_,_,_⟩:=ad.at_ (UY bd);obtain ⟨z0,_,_,_⟩:=a4.at_ (UY htl);obtain ⟨m1,_⟩:=ck.cellAt ap;unfold YP at m1;obtain ⟨l1,l2,l3,l4⟩:=ck.lt ap (by omega);obtain ⟨A5,n5,c5,A6,n6,c6,⟨x0,x1,x2,x3⟩,au⟩:=ck.at_ ap ca;have gk:Hid ((M0 (R k) (C t)).q=a (R k) (C t)∧(M0 (R k) (C t)).Rs (2 * (5^n * K))):=JZ ⟨(dy _ _ ap ca).q,((dy _ _ ap ca).rs (az.out _ _ ap ca)).mono (by omega)⟩;have gm:Hid (∀p,upP R C a t (k+1) p=if p=k then a (R k) (C t) else upP R C a t k p):=JZ fun p=>Zqx p
               obtain ⟨_,_,_,_,⟨c0,c1,c2,c3⟩,⟨f0,f1,f2,f3⟩,_⟩:=hO.at_ (Yt (f:=L') bd);generalize M0 (R k) (C t)=fz at *;generalize a (R k) (C t)=qz at *;generalize R k=rk at *;generalize C t=ct at *;have eb:(k:Int) < n:=(by omega);have g5:(rk:Int) < n:=(by omega);have g6:(ct:Int) < n:=(by omega);clear bq ck dy X ad a4
               go_upto_region 49 with (fail)
               have C0:=Zr x0;have C1:=Zr x1;have C2:=Zr x2;have C3:=Zr x3;have D0:=Zr b1;have D1:=Zr s0;have D2:=Zr s1;have D3:=Zr y0;have D4:=Zr z0;have D5:=Zr m1;have y:=Zj wr;clear x0 x1 x2 x3 b1 s0 s1 y0 z0 m1;refine Zt 19 [0,1,2,3,4,5,6,7,8,9,10,11,12,13,14,15,16,17,18,19] (by kernel_rfl) (by kernel_rfl) ?_;repeat ((first | (refine Zc (v:=?_) rfl rfl rfl ?_ ?_;rotate_left;(· (intro _ u;go_simp;(try go_bits);(try with_reducible rfl)))) | (refine Ze (v:=?_) rfl rfl rfl ?_ ?_;rotate_left;(· (intro _ u;go_simp;(try go_bits);(try with_reducible rfl)))) | refine Zf rfl rfl rfl ?_);(try simp only [Act.put,pu1,pu2,pu3,pu4,pu5,pu6]))
               refine Zg rfl rfl (fun KR hKR=>?_);go_simp;refine hKR.out _ _ (Or.inl (by decide)) ?_;clear hKR KR;(try simp only [Act.put,pu1,pu2,pu3,pu4,pu5,pu6]);refine Zv ?_;clear C0 C1 C2 C3 D0 D1 D2 D3 D4 D5;obtain ⟨br,_⟩:=(hO.below y).set_ (k:=k) (by rw [Zq];exact bd) (au.below y);rw [WN bd] at br;have ba:=ZB (Za l y l.size) (JY _) (k * 4) (k * 4+1) (k * 4+2) (k * 4+3);clear hO au l y c0 c1 c2 c3 f0 f1 f2 f3;go_wp2;go_roundw
               case rel=>
                refine ⟨k+1,by omega,by go_num,ba _ _ _ _,_,br,fun p hp=>?_⟩;rw [gm.out p];by_cases e:p=k
                ·simp only [if_pos e];exact gk.out
                ·simp only [if_neg e];exact U p hp
               case measure=>simp [intOf];omega
              ·obtain rfl:k=t+1:=by omega
               have I:=cs.out.below l;obtain ⟨-,⟨X,-⟩,-,-,-⟩:=id I;obtain ⟨-,-,-,s3⟩:=X.four;have bb:RsL (2 * (5^n * K)) (rfL n L'):=fun i f hf=>by
                have hi:i < n:=(by have:=(List.getElem?_eq_some_iff.1 hf).1;rwa [Zq] at this);rw [Yt hi] at hf;injection hf with hf;subst hf;exact (U i hi).2
               have dk:Hid (spV (qAt (rfL n L')) (rfL n L').length=spV (luU R C a t) n):=JZ (by
                rw [Zq];exact WM fun i hi=>by rw [Zng hi,(U i hi).1,Zud])
               clear U X
               go_upto_region 51 with (fail)
               have D0:=Zr s3;have y:=Zj wr;clear s3;refine Zt 9 [0,1,2,3,4,5,6,7,8,9] (by kernel_rfl) (by kernel_rfl) ?_;repeat ((first | (refine Zc (v:=?_) rfl rfl rfl ?_ ?_;rotate_left;(· (intro _ u;go_simp;(try go_bits);(try with_reducible rfl)))) | (refine Ze (v:=?_) rfl rfl rfl ?_ ?_;rotate_left;(· (intro _ u;go_simp;(try go_bits);(try with_reducible rfl)))) | refine Zf rfl rfl rfl ?_);(try simp only [Act.put,pu1,pu2,pu3,pu4,pu5,pu6]))
               refine Zg rfl rfl (fun KR hKR=>?_);go_simp;(with_reducible refine (Wq _ _ (2 * (5^n * K)) _ (hO.frs.below y) (by rw [Zq];omega) bb (by have:=HE.out;omega)).mono ?_);rintro _ w6 ⟨v6,rfl,e6,N⟩;have a0:=Za y N y.size;rw [dk.out] at e6;obtain ⟨A7,n7,c7,rfl⟩:∃A n c,v6= .slice A n c:=by obtain ⟨A,c,e,_⟩:=e6.vec.shape;exact ⟨A,_,c,e⟩
               obtain ⟨_,dw,dx,_⟩:=(I.below a0).2.2.2.2.at_ (Uo htl);refine hKR.out _ _ (Or.inr a0) ?_;clear hKR KR;(try simp only [Act.put,pu1,pu2,pu3,pu4,pu5,pu6]);repeat ((first | (refine Zc (v:=?_) rfl rfl rfl ?_ ?_;rotate_left;(· (intro _ u;go_simp;(try go_bits);(try with_reducible rfl)))) | (refine Ze (v:=?_) rfl rfl rfl ?_ ?_;rotate_left;(· (intro _ u;go_simp;(try go_bits);(try with_reducible rfl)))) | refine Zf rfl rfl rfl ?_);(try simp only [Act.put,pu1,pu2,pu3,pu4,pu5,pu6]))
               refine Zg rfl rfl (fun KR hKR=>?_);go_simp;refine hKR.out _ _ (Or.inl (by decide)) ?_;clear hKR KR;(try simp only [Act.put,pu1,pu2,pu3,pu4,pu5,pu6]);refine Zv ?_;clear D0;have F:=(I.below a0).setU cp htl e6.vec (fun b hb=>JW I.size_ (e6.geB b hb));clear I hO l y a0 N e6 dw dx;go_wp2;go_roundw
               case rel=>exact ⟨t+1,by omega,by go_num,F⟩
               case measure=>simp [intOf];omega
          ·obtain rfl:n=t:=by omega
           obtain ⟨⟨_,-,-,P⟩,⟨X,ad,a4,-,-⟩,-,fm,fn⟩:=cj;rw [Ziw] at fm fn;obtain ⟨s0,s1,s2,s3⟩:=X.four;have ho:=(P.mono bt.out);have cb:=e4.out.later (P.mono bt.out);have a3:=Za O P O.size;have cc:=O.size;obtain ⟨t0,t1,t2,t3⟩:=cb.four;obtain ⟨f0,f1,f2,f3⟩:=cb.fourF;go_wp2;have kk:=cb.but4 (.slice (some ⟨g0,0,none⟩) n n) (.slice (some ⟨g1,0,none⟩) n n) (.slice (some ⟨gl,0,none⟩) n n) (.slice (some ⟨gu,0,none⟩) n n);refine XN Tryz.results38 Tryz.underlying69 (by kernel_rfl) rfl (cb.set4 _ _ _ _) rfl ?_;exact ⟨Z5 a3 (JY _) _ _ _ _,.inl ⟨R,C,luL R m,luU R C a,_,_,_,_,rfl,L.out.facS (by omega) HK.out HE.out az.out d9.out,(ad.but kk (by decide)).monoB cc,(a4.but kk (by decide)).monoB cc,(fm.but kk (by decide) (by decide) (by decide)).monoB cc,(fn.but kk (by decide) (by decide) (by decide)).monoB cc⟩⟩
def Zse [Old] (base bi:Nat) (w:World) (g n K:Nat) (Cs:Mx):Prop:=
 ∃(T gc cc:Nat) (k R C:Nat→Nat) (im V L Um:Mx) (CC:Nat→Mx) (s0 s1 s2 s3 vu:Value),
  Bk w g 74 [.int .i64 (n:Int),.slice (some ⟨gc,0,none⟩) n cc,s0,s1,s2,s3,vu]∧(base≤g∧T≤16∧5^n * K≤4000000∧CC T=Cs)∧Ups n K T k im V CC∧Znq n (5^n * K) (trM (CC 0)) R C L Um∧
  Yl base w (.slice (some ⟨gc,0,none⟩) n cc) (vcL n Cs)∧ZJ base w s0 (Zdg n R)∧ZJ base w s1 (Zdg n C)∧Yl (gc+1) w s2 (vcL n L)∧Yl (gc+1) w s3 (vcL n Um)∧Zlc base bi w vu T n k im
def Zxa [Old] (n K:Nat) (Cs:Mx) (w:World) (o:Ending) (w':World):Prop:=
 Below w.heap.size w w'∧((∃g,o= .returned (.tuple #[.pointer (some ⟨g,0,none⟩),.int .i64 0])∧XA n Cs∧∀bi,Zse w.heap.size bi w' g n K Cs)∨(o= .returned (.tuple #[.pointer none,.int .i64 13])∧¬XA n Cs))
theorem Zqz [Old] (v:Value) (n K:Nat) (cols:List (List En)) (Cs:Mx) (w:World) (h:Xf w v cols) (hl:cols.length=n) (hn:n≤7) (hK:1≤K) (hE:5^n * K≤4000000) (hg:∀(k:Nat) (c:List En),cols[k]? =some c→Pl.Good n c∧∀(j:Nat) (e:En),c[j]? =some e→e.f.Rs K) (hCs:∀(k:Nat) (c:List En),cols[k]? =some c→Cs k=XZ c) (hOl:Zb w:=by (repeat (first | assumption | exact Zb.up (by assumption) hOl | exact Zb.up (Hid.out (by assumption)) hOl | with_reducible refine Zb.set ?_ _ _ | with_reducible refine Zb.mk_ ?_ _ | with_reducible refine Zb.dr ?_ | with_reducible refine Zb.drN ?_ | refine Zb.up (by assumption) ?_ | refine Zb.up (Hid.out (by assumption)) ?_))):
 Calls Tryz.prog 13 #[.int .i64 (n:Int),v] w (Zxa n K Cs w):=by
 have a2:=hOl.le;obtain ⟨A,c,rfl,Z,a6⟩:=h.shape;rw [hl] at h Z ⊢;have HV:=JZ h;have HG:=JZ hg;have HL:=JZ hl;have HK:=JZ hK;have HE:=JZ hE;have F:Hid (∀r c,r < n→c < n→Sz K (Cs c r)):=JZ fun r c hr hc=>by
  obtain ⟨d,hd⟩:=XI (cs:=cols) (i:=c) (by omega);rw [hCs c d hd];exact Sz_col (hg c d hd).2 hK r
 have a3:K≤4000000:=JW (Nat.le_mul_of_pos_left K (Nat.pow_pos (by decide))) hE;have a4:=Zey n (by omega);have B:=Yl.zeros w n (by unfold maxLen;omega);have G:=Zd w (.cells (zvc n) 28);rw [Zbf (L:=Cs)] at B;have T:=JZ hCs;clear h hg hl hK hE hCs;go_enter Tryz.func13,Tryz.ntmps13;go_wp2;generalize w.alloc (.cells (zvc n) 28)=W at *
 go_loopw [26] (fun x wr=>∃k:Nat,k≤n∧x= .int .i64 k∧Yl w.heap.size wr (.slice (some ⟨w.heap.size,0,none⟩) n n) (Zkq n k Cs)∧Below w.heap.size w wr) (fun x _=>n - (intOf x).toNat)
 case atStart=>exact ⟨0,by omega,rfl,B,G⟩
 case round=>
  clear B G;obtain ⟨k,hk,rfl,hO,g⟩:=hrel;rcases JX k n with hkl | hkl
  ·obtain ⟨es,u⟩:=XI (cs:=cols) (i:=k) (by rw [HL.out];exact hkl);obtain ⟨q,P⟩:=HG.out k es u;obtain ⟨b,a7,A1,c1,rfl,_,x0,hv⟩:=HV.out.elem g u;have a5:(k:Int) < n:=(by omega);have HM:=JZ (T.out k es u);have HC:=JZ (cpyV_spV q);have U:Hid (vecErr es (n:Int)=0):=JZ (q.err (by omega));have V:=JZ P;have H:=q.enI (by omega);have X:Hid (es.length≤1099511627776):=JZ (by
    have e1:(Zla es).length=es.length:=(by simp [Zla]);rw [cpyV_spV q] at e1;have:=Ve (f:=XZ es) n;omega)
   clear u q P;go_wp2_with fail;refine (XP _ es (n:Int) _ hv H (by omega) (by omega)).mono ?_;rw [U.out];rintro _ w1 ⟨rfl,l⟩;have I:=hv.below l;have s:=hO.below l;have a:=Za g l g.size;clear hv hO g l x0 H;go_wp2_with fail;refine (Zbp _ es K _ I V.out (by omega) X.out).mono ?_;rintro _ w2 ⟨v2,rfl,e2,E⟩;rw [HC.out,← HM.out] at e2;have D:=s.below E;have y:=Za a E a.size;obtain ⟨_,m0,m1,-⟩:=D.at_ (Uo (t:=k) (L:=Cs) hkl);obtain ⟨S,_⟩:=D.set_ (k:=k) (by rw [XK];exact hkl) e2.vec (fun b hb=>JW a.size (e2.geB b hb));rw [Zdl hkl] at S;have J:=y.setCell (p:=⟨w.heap.size,k,none⟩) (JY _) v2;obtain ⟨A2,n2,c2,rfl⟩:∃A n c,v2= .slice A n c:=by obtain ⟨A,c,e,_⟩:=e2.vec.shape;exact ⟨A,_,c,e⟩
   clear I s D a y e2 E;go_wp2;go_roundw
   case rel=>exact ⟨k+1,by omega,by go_num,S,J⟩
   case measure=>simp [intOf];omega
  ·obtain rfl:n=k:=by omega
   rw [Ziw] at hO;have HO:=JZ hO;go_wp2_with fail;refine (Zdm _ n K _ _ hO.vecs (by omega) HK.out HE.out F.out).mono ?_;clear hO;rintro _ w1 ⟨l,⟨R,C,L,Um,s0,s1,s2,s3,rfl,hF,h0,h1,h2,h3⟩ | ⟨rfl,a1⟩⟩
   ·have s:=HO.out.below l;have a:=Za g l g.size;have M:=g.size;have N:w.heap.size < wr.heap.size:=by
     obtain ⟨cs,hh,_⟩:=HO.out;exact Vz hh w.heap.size rfl
    have z:XA n Cs:=hF.fac.indep;have O:=JZ z;have HF:=JZ hF;obtain ⟨A0,c0,rfl⟩:=h0.nshape;obtain ⟨A1,c1,rfl⟩:=h1.nshape;obtain ⟨A2,c2,rfl⟩:=h2.nshape;obtain ⟨A3,c3,rfl⟩:=h3.nshape;have hX:=Bk.new w1 69 [.slice A0 n c0,.slice A1 n c1,.slice A2 n c2,.slice A3 n c3];have o:=Zd w1 (.cells #[.slice A0 n c0,.slice A1 n c1,.slice A2 n c2,.slice A3 n c3] 69);clear hF z g;obtain ⟨W2,a0,hX,o⟩:∃W2,w1.alloc (.cells #[.slice A0 n c0,.slice A1 n c1,.slice A2 n c2,.slice A3 n c3] 69)=W2∧Bk W2 w1.heap.size 69 [.slice A0 n c0,.slice A1 n c1,.slice A2 n c2,.slice A3 n c3]∧Below w1.heap.size w1 W2:=⟨_,rfl,hX,o⟩;obtain ⟨x0,x1,x2,x3⟩:=hX.four;go_wp2;clear a0 x0 x1 x2 x3 hX;have hY:=Bk.new W2 74 [.int .i64 (n:Int),.slice (some ⟨w.heap.size,0,none⟩) n n,.slice A0 n c0,.slice A1 n c1,.slice A2 n c2,.slice A3 n c3,.slice none 0 0];have Y:=Zd W2 (.cells #[.int .i64 (n:Int),.slice (some ⟨w.heap.size,0,none⟩) n n,.slice A0 n c0,.slice A1 n c1,.slice A2 n c2,.slice A3 n c3,.slice none 0 0] 74);have m:=Za o Y o.size;go_ret2;refine ⟨Za a m a.size,.inl ⟨_,rfl,O.out,fun bi=>⟨0,w.heap.size,n,fun _=>0,R,C,fun _ _=>0,fun _ _=>0,L,Um,fun _=>Cs,_,_,_,_,_,hY,⟨JW a.size o.size,by omega,HE.out,rfl⟩,Ups.zero F.out O.out _ _ _,HF.out,s.below m,(h0.below m).monoB M,(h1.below m).monoB M,(h2.below m).monoB N,(h3.below m).monoB N,Zlc.nil _ _ _ _ _ _⟩⟩⟩
   ·have a:=Za g l g.size;clear g l;go_wp2;go_ret2;exact ⟨Za a (Zd _ _) a.size,.inr ⟨rfl,a1⟩⟩
theorem Zse.out [Old] {base bi g n K:Nat} {w:World} {Cs:Mx} (h:Zse base bi w g n K Cs):Go.Proofs.YtidgdpkcloaheaaGreat.Zse base bi w g n K Cs:=by
 obtain ⟨T,gc,cc,k,R,C,im,V,L,Um,CC,s0,s1,s2,s3,vu,h1,h2,h3,h4,h5,h6,h7,h8,h9,a⟩:=h;exact ⟨T,gc,cc,k,R,C,im,V,L,Um,CC,s0,s1,s2,s3,vu,h1,h2,h3,h4,h5.out,h6,h7,h8.out,h9.out,a⟩
end Dp
end
end Go.Proofs.YtidgdpkcloaheaaGreat
