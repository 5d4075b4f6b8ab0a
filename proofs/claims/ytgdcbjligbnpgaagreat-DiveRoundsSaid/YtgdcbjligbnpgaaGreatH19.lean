/- Lemmas of the claim; no condition. -/
import Derived.Test.YtgdcbjligbnpgaaGreatH16
set_option linter.all false
set_option maxRecDepth 100000
set_option maxHeartbeats 40000000
namespace Go.Proofs.YtgdcbjligbnpgaaGreat
open Go.RowKit
open Pl
attribute [local go_sem ↓] Go.wp_at_zero Go.wp_at_succ
section
open Pl
namespace Pl
def Bf (lt:Dc→Dc→Bool) (x y:Dc):Prop:=lt x y=true∨(lt y x=false∧x.idx < y.idx)
structure LtOK (lt:Dc→Dc→Bool):Prop where
 ir:∀x,lt x x=false
 tr:∀x y z,lt x y=true→lt y z=true→lt x z=true
 tr':∀x y z,lt x y=false→lt y z=false→lt x z=false
theorem LtOK.left {lt:Dc→Dc→Bool} (h:LtOK lt) {x y z:Dc} (h1:lt x y=true) (h2:lt z y=false):lt x z=true:=by
 cases hc:lt x z with
 | true=>rfl
 | false=>rw [h.tr' x z y hc h2] at h1;cases h1
theorem LtOK.asym {lt:Dc→Dc→Bool} (h:LtOK lt) {x y:Dc} (h1:lt x y=true):lt y x=false:=by
 cases hc:lt y x with
 | false=>rfl
 | true=>have:=h.tr x y x h1 hc;rw [h.ir] at this;cases this
theorem ltH_ok (fs:List RF):LtOK (ltH fs):=⟨ltH_ir fs,ltH_tr fs,ltH_tr' fs⟩
theorem ltL_ok:LtOK ltL:=⟨ltL_ir,ltL_tr,ltL_tr'⟩
theorem Bf.asymm {lt:Dc→Dc→Bool} (h:LtOK lt) {x y:Dc} (a:Bf lt x y) (b:Bf lt y x):False:=by
 rcases a with a | ⟨a,a'⟩ <;> rcases b with b | ⟨b,b'⟩
 ·rw [h.asym a] at b;cases b
 ·rw [b] at a;cases a
 ·rw [a] at b;cases b
 ·omega
theorem insB_bf {lt:Dc→Dc→Bool} (h:LtOK lt) {x:Dc} {l:List Dc} (hp:l.Pairwise (Bf lt)) (hx:∀y∈l,y.idx < x.idx):(insB lt x l).Pairwise (Bf lt):=by
 induction l with
 | nil=>simp [insB]
 | cons y l ih=>
  rw [List.pairwise_cons] at hp
  unfold insB
  split
  ·rename_i hc
   refine List.pairwise_cons.2 ⟨fun z hz=>?_,List.pairwise_cons.2 hp⟩
   rcases List.mem_cons.1 hz with rfl | hz
   ·exact .inl hc
   ·rcases hp.1 z hz with e | ⟨e,_⟩
    ·exact .inl (h.tr _ _ _ hc e)
    ·exact .inl (h.left hc e)
  ·rename_i hc
   refine List.pairwise_cons.2 ⟨fun z hz=>?_,ih hp.2 fun z hz=>hx z (List.mem_cons_of_mem _ hz)⟩
   rcases (insB_mem lt).1 hz with rfl | hz
   ·exact .inr ⟨by simpa using hc,hx y (List.mem_cons_self ..)⟩
   ·exact hp.1 z hz
theorem sortB_bf {lt:Dc→Dc→Bool} (h:LtOK lt) {l:List Dc} (hp:l.Pairwise fun x y=>x.idx < y.idx):(sortB lt l).Pairwise (Bf lt):=by
 have key:∀n,(sortB lt (l.take n)).Pairwise (Bf lt):=fun n=>by
  induction n with
  | zero=>simp [sortB]
  | succ n ih=>
   rcases Nat.lt_or_ge n l.length with hn | hn
   ·rw [sortB_take lt l n _ (List.getElem?_eq_getElem hn)]
    refine insB_bf h ih fun y hy=>?_
    obtain ⟨i,hi⟩:=List.mem_iff_getElem?.1 ((sortB_mem lt).1 hy)
    rw [List.getElem?_take] at hi
    split at hi
    ·rename_i hin
     obtain ⟨hil,rfl⟩:=List.getElem?_eq_some_iff.1 hi
     exact List.pairwise_iff_getElem.1 hp i n hil hn hin
    ·cases hi
   ·rw [List.take_of_length_le (by omega)]
    rw [List.take_of_length_le hn] at ih
    exact ih
 have:=key l.length
 rwa [List.take_length] at this
def PickAt (lt:Dc→Dc→Bool) (L:List Dc) (C:Dc→Prop) (j:Nat) (b:Int):Prop:=
 (b= -1∧∀(i:Nat) (x:Dc),i < j→L[i]? =some x→¬C x)∨
 ∃x,b=(x.idx:Int)∧L[x.idx]? =some x∧x.idx < j∧C x∧∀(i:Nat) (y:Dc),i < j→L[i]? =some y→C y→y=x∨Bf lt x y
theorem PickAt.zero (lt:Dc→Dc→Bool) (L:List Dc) (C:Dc→Prop):PickAt lt L C 0 (-1):= .inl ⟨rfl,fun i x h=>by omega⟩
theorem PickAt.skip {lt:Dc→Dc→Bool} {L:List Dc} {C:Dc→Prop} {j:Nat} {b:Int} (h:PickAt lt L C j b) {x:Dc} (hx:L[j]? =some x) (hc:¬C x):PickAt lt L C (j+1) b:=by
 rcases h with ⟨h1,h2⟩ | ⟨y,h1,h2,h3,h4,h5⟩
 ·refine .inl ⟨h1,fun i z hi hz=>?_⟩
  rcases Nat.lt_or_ge i j with e | e
  ·exact h2 i z e hz
  ·obtain rfl:i=j:=by omega
   rw [hx] at hz;injection hz with hz;exact hz▸hc
 ·refine .inr ⟨y,h1,h2,by omega,h4,fun i z hi hz hC=>?_⟩
  rcases Nat.lt_or_ge i j with e | e
  ·exact h5 i z e hz hC
  ·obtain rfl:i=j:=by omega
   rw [hx] at hz;injection hz with hz;exact absurd (hz▸hC) hc
theorem PickAt.keep {lt:Dc→Dc→Bool} {L:List Dc} {C:Dc→Prop} {j:Nat} {b:Nat} (h:PickAt lt L C j (b:Int)) {x y:Dc} (hx:L[j]? =some x) (hj:x.idx=j) (hb:L[b]? =some y) (hn:lt x y=false):PickAt lt L C (j+1) (b:Int):=by
 rcases h with ⟨h1,_⟩ | ⟨z,h1,h2,h3,h4,h5⟩
 ·omega
 ·have hbz:b=z.idx:=by omega
  subst hbz
  rw [h2] at hb;injection hb with hb;subst hb
  refine .inr ⟨z,h1,h2,by omega,h4,fun i u hi hu hC=>?_⟩
  rcases Nat.lt_or_ge i j with e | e
  ·exact h5 i u e hu hC
  ·obtain rfl:i=j:=by omega
   rw [hx] at hu;injection hu with hu;subst hu
   exact .inr (.inr ⟨hn,by omega⟩)
theorem PickAt.first {lt:Dc→Dc→Bool} {L:List Dc} {C:Dc→Prop} {j:Nat} (h:PickAt lt L C j (-1)) {x:Dc} (hx:L[j]? =some x) (hj:x.idx=j) (hC:C x):PickAt lt L C (j+1) (j:Int):=by
 rcases h with ⟨_,h2⟩ | ⟨z,h1,_⟩
 ·refine .inr ⟨x,by omega,by rw [hj];exact hx,by omega,hC,fun i z hi hz hCz=>?_⟩
  rcases Nat.lt_or_ge i j with e | e
  ·exact absurd hCz (h2 i z e hz)
  ·obtain rfl:i=j:=by omega
   rw [hx] at hz;injection hz with hz;exact .inl hz.symm
 ·omega
theorem PickAt.put {lt:Dc→Dc→Bool} (ok:LtOK lt) {L:List Dc} {C:Dc→Prop} {j b:Nat} (h:PickAt lt L C j (b:Int)) {x y:Dc} (hx:L[j]? =some x) (hj:x.idx=j) (hb:L[b]? =some y) (hC:C x) (hn:lt x y=true):PickAt lt L C (j+1) (j:Int):=by
 rcases h with ⟨h1,_⟩ | ⟨z,h1,h2,h3,h4,h5⟩
 ·omega
 ·have hbz:b=z.idx:=by omega
  subst hbz
  rw [h2] at hb;injection hb with hb;subst hb
  refine .inr ⟨x,by omega,by rw [hj];exact hx,by omega,hC,fun i u hi hu hCu=>?_⟩
  rcases Nat.lt_or_ge i j with e | e
  ·rcases h5 i u e hu hCu with rfl | g | ⟨g,_⟩
   ·exact .inr (.inl hn)
   ·exact .inr (.inl (ok.tr _ _ _ hn g))
   ·exact .inr (.inl (ok.left hn g))
  ·obtain rfl:i=j:=by omega
   rw [hx] at hu;injection hu with hu;exact .inl hu.symm
theorem PickAt.done {lt:Dc→Dc→Bool} (ok:LtOK lt) {n:Nat} {L:List Dc} (hL:LsOK n L) {O:List Dc} (hO:O.Pairwise (Bf lt)) (hOL:∀x∈O,x∈L) {k:Nat} {b:Int} (h:PickAt lt L (fun x=>x∈O.drop k) L.length b):
 (b= -1∧O.length≤k)∨∃x,O[k]? =some x∧b=(x.idx:Int)∧L[x.idx]? =some x:=by
 rcases Nat.lt_or_ge k O.length with hk | hk
 ·obtain ⟨z,hz⟩:∃z,O[k]? =some z:=⟨_,List.getElem?_eq_getElem hk⟩
  have hzd:z∈O.drop k:=List.mem_iff_getElem?.2 ⟨0,by rw [List.getElem?_drop];exact hz⟩
  have hzL:=hL.at_ (hOL z (List.mem_of_getElem? hz))
  have hzl:=(List.getElem?_eq_some_iff.1 hzL).1
  rcases h with ⟨_,h2⟩ | ⟨x,h1,h2,h3,h4,h5⟩
  ·exact absurd hzd (h2 _ _ hzl hzL)
  ·refine .inr ⟨z,hz,?_,hzL⟩
   rcases h5 _ _ hzl hzL hzd with e | e
   ·rw [h1,e]
   ·exfalso
    have hx:x≠z:=fun e2=>by subst e2;exact e.asymm ok e
    obtain ⟨i,hi⟩:=List.mem_iff_getElem?.1 h4
    rw [List.getElem?_drop] at hi
    obtain ⟨hil,hi'⟩:=List.getElem?_eq_some_iff.1 hi
    have hi0:0 < i:=by
     rcases Nat.eq_zero_or_pos i with e2 | e2
     ·subst e2;rw [Nat.add_zero,hz] at hi;injection hi with hi;exact absurd hi.symm hx
     ·exact e2
    obtain ⟨hkl,hz'⟩:=List.getElem?_eq_some_iff.1 hz
    have:=List.pairwise_iff_getElem.1 hO k (k+i) hkl hil (by omega)
    rw [hz',hi'] at this
    exact e.asymm ok this
 ·rcases h with ⟨h1,_⟩ | ⟨x,h1,h2,h3,h4,h5⟩
  ·exact .inl ⟨h1,hk⟩
  ·rw [List.drop_of_length_le hk] at h4;simp at h4
def inB (l:List Dc) (x:Dc):Bool:=l.any fun y=>decide (y.idx=x.idx)
theorem inB_iff {n:Nat} {L:List Dc} (hL:LsOK n L) {l:List Dc} (hl:∀y∈l,y∈L) {x:Dc} (hx:x∈L):inB l x=true↔x∈l:=by
 unfold inB
 rw [List.any_eq_true]
 constructor
 ·rintro ⟨y,hy,e⟩
  have h1:=hL.at_ (hl y hy)
  have h2:=hL.at_ hx
  rw [of_decide_eq_true e,h2] at h1
  injection h1 with h1
  exact h1▸hy
 ·intro h;exact ⟨x,h,by simp⟩
def seenP (L O:List Dc) (k:Nat):List Bool:=L.map (inB (O.take k))
theorem seenP_zero (L O:List Dc):seenP L O 0=List.replicate L.length false:=by
 unfold seenP
 rw [List.take_zero]
 induction L with
 | nil=>rfl
 | cons x L ih=>rw [List.map_cons,ih,List.length_cons,List.replicate_succ];simp [inB]
theorem seenP_at {L O:List Dc} {k j:Nat} {x:Dc} (hx:L[j]? =some x):(seenP L O k)[j]? =some (inB (O.take k) x):=by simp [seenP,hx]
theorem seenP_len (L O:List Dc) (k:Nat):(seenP L O k).length=L.length:=by simp [seenP]
theorem seenP_set {n:Nat} {L O:List Dc} (hL:LsOK n L) {k:Nat} {x:Dc} (hO:O[k]? =some x):(seenP L O k).set x.idx true=seenP L O (k+1):=by
 refine List.ext_getElem? fun i=>?_
 rw [List.getElem?_set]
 rcases Nat.lt_or_ge i L.length with hi | hi
 ·have hy:L[i]? =some L[i]:=List.getElem?_eq_getElem hi
  have hyi:=hL.idx i _ hy
  rw [seenP_at hy,seenP_at hy]
  have hm:inB (O.take (k+1)) L[i]=(inB (O.take k) L[i] || decide (x.idx=(L[i]).idx)):=by unfold inB;rw [List.take_add_one,hO];simp
  rw [hm]
  split
  ·rename_i e
   rw [if_pos (by rw [seenP_len,e];exact hi),hyi,decide_eq_true e,Bool.or_true]
  ·rename_i e
   rw [hyi,decide_eq_false e,Bool.or_false]
 ·have h1:(seenP L O k)[i]? =none:=List.getElem?_eq_none (by rw [seenP_len];exact hi)
  have h2:(seenP L O (k+1))[i]? =none:=List.getElem?_eq_none (by rw [seenP_len];exact hi)
  rw [h1,h2]
  split
  ·rw [if_neg (by rw [seenP_len];omega)]
  ·rfl
theorem nodup_bf {lt:Dc→Dc→Bool} (h:LtOK lt) {O:List Dc} (hO:O.Pairwise (Bf lt)):O.Nodup:=hO.imp fun {a b} hab e=>by subst e;exact hab.asymm h hab
theorem mem_drop_iff {α:Type} {O:List α} (hn:O.Nodup) (k:Nat) (x:α):x∈O.drop k↔x∈O∧x ∉ O.take k:=by
 have e:=List.take_append_drop k O
 have hn':=hn
 rw [← e,List.nodup_append] at hn'
 constructor
 ·intro h;exact ⟨List.mem_of_mem_drop h,fun h'=>hn'.2.2 x h' x h rfl⟩
 ·rintro ⟨h1,h2⟩
  rw [← e,List.mem_append] at h1
  rcases h1 with h1 | h1
  ·exact absurd h1 h2
  ·exact h1
def ordP (lt:Dc→Dc→Bool) (p:Dc→Bool) (L:List Dc):List Dc:=sortB lt (L.filter p)
structure OrdOK (lt:Dc→Dc→Bool) (p:Dc→Bool) (L O:List Dc):Prop where
 bf:O.Pairwise (Bf lt)
 sub:∀x∈O,x∈L
 cand:∀(k:Nat) (x:Dc),x∈L→(x∈O.drop k↔p x=true∧inB (O.take k) x=false)
 len:O.length≤L.length
theorem ord_ok {lt:Dc→Dc→Bool} (h:LtOK lt) {n:Nat} {L:List Dc} (hL:LsOK n L) (p:Dc→Bool):OrdOK lt p L (ordP lt p L):=by
 have hb:(ordP lt p L).Pairwise (Bf lt):=sortB_bf h (hL.asc.filter _)
 refine ⟨hb,fun x hx=>(List.mem_filter.1 ((sortB_mem lt).1 hx)).1,fun k x hx=>?_,?_⟩
 ·rw [mem_drop_iff (nodup_bf h hb)]
  have:x∈ordP lt p L↔p x=true:=by unfold ordP;rw [sortB_mem,List.mem_filter];exact ⟨fun h=>h.2,fun h=>⟨hx,h⟩⟩
  have hi:=inB_iff hL (l:=(ordP lt p L).take k) (fun y hy=>(List.mem_filter.1 ((sortB_mem lt).1 (List.mem_of_mem_take hy))).1) hx
  rw [this,← Bool.not_eq_true,hi]
 ·unfold ordP;rw [sortB_length];exact List.length_filter_le _ _
theorem fill_now {n:Nat} {L:List Dc} (hL:LsOK n L):∀(l:List Dc),(∀x∈l,x∈L)→∀(a:Nat × List Int) (c:Int),Now L 0 [] a.2 a.1 c→∃c',Now L 0 [] (fillP l a).2 (fillP l a).1 c':=by
 intro l
 induction l with
 | nil=>intro _ a c h;exact ⟨c,h⟩
 | cons x l ih=>
  intro hl a c h
  show ∃c',Now L 0 [] (fillP l (fillS a x)).2 (fillP l (fillS a x)).1 c'
  have hl':∀y∈l,y∈L:=fun y hy=>hl y (List.mem_cons_of_mem _ hy)
  unfold fillS
  split
  ·rename_i hm
   exact ih hl' (a.1 ||| x.mask,a.2++[(x.idx:Int)]) _ (h.snoc hL (hl x (List.mem_cons_self ..)) hm)
  ·exact ih hl' a c h
theorem now_nil (L:List Dc):Now L 0 [] [] 0 0:=⟨by simp,by simp [InR],by simp [Dj],by simp [orI],by simp [sumI]⟩
theorem fill_up {l:List Dc} {a:Nat × List Int} {m:Nat} (h:m &&& a.1≠0):m &&& (fillP l a).1≠0:=by
 induction l generalizing a with
 | nil=>exact h
 | cons x l ih=>
  refine ih (a:=fillS a x) ?_
  unfold fillS
  split
  ·intro e;exact h (and_or_zero.1 e).1
  ·exact h
theorem fill_hit {l:List Dc} {a:Nat × List Int} {x:Dc} (hx:x∈l) (h0:x.mask≠0):x.mask &&& (fillP l a).1≠0:=by
 induction l generalizing a with
 | nil=>simp at hx
 | cons y l ih=>
  rcases List.mem_cons.1 hx with rfl | hx
  ·refine fill_up (l:=l) (a:=fillS a x) ?_
   unfold fillS
   split
   ·intro e
    have:=(and_or_zero.1 e).2
    rw [Nat.and_self] at this
    exact h0 this
   ·rename_i hc;exact hc
  ·exact ih hx
theorem greedyL_eq (m:Ms) (fs:List RF):greedyL m fs=(fillP (ordP ltL loB (dcs m)) (fillP (ordP (ltH fs) (hiB fs) (dcs m)) (0,[]))).2:=rfl
theorem greedy_now {m:Ms} (ok:MsOK m) (fs:List RF):∃c,Now (dcs m) 0 [] (greedyL m fs) (fillP (ordP ltL loB (dcs m)) (fillP (ordP (ltH fs) (hiB fs) (dcs m)) (0,[]))).1 c:=by
 obtain ⟨c1,h1⟩:=fill_now (dcs_ok ok) (ordP (ltH fs) (hiB fs) (dcs m)) (ord_ok (ltH_ok fs) (dcs_ok ok) _).sub (0,[]) 0 (now_nil _)
 exact fill_now (dcs_ok ok) (ordP ltL loB (dcs m)) (ord_ok ltL_ok (dcs_ok ok) _).sub _ c1 h1
theorem greedy_sel {m:Ms} (ok:MsOK m) (fs:List RF):Sel (dcs m) (greedyP m fs):=by
 obtain ⟨c,h⟩:=greedy_now ok fs
 have:=h.sel.1
 rw [List.nil_append] at this
 exact this
theorem greedy_hit {m:Ms} (ok:MsOK m) (fs:List RF) {x:Dc} (hx:x∈dcs m) (hc:hiB fs x=true∨loB x=true):x.mask &&& orI (dcs m) (greedyP m fs)≠0:=by
 obtain ⟨c,h⟩:=greedy_now ok fs
 have h0:=((dcs_ok ok).ok x hx).mask_ne
 have ht:=h.t_eq
 rw [List.nil_append] at ht
 have e:orI (dcs m) (greedyP m fs)=orI (dcs m) (greedyL m fs):=orI_perm (sortB_perm ltI _)
 rw [e,← ht]
 rcases hc with hc | hc
 ·refine fill_up (fill_hit ?_ h0)
  unfold ordP;rw [sortB_mem,List.mem_filter];exact ⟨hx,hc⟩
 ·refine fill_hit ?_ h0
  unfold ordP;rw [sortB_mem,List.mem_filter];exact ⟨hx,hc⟩
end Pl
end
def BlsO (base:Nat) (w:World) (v:Value) (bs:List Bool):Prop:=w.ownsRow base 4 1 v bs.length (bs.map Value.bool)
theorem BlsO.below {base:Nat} {w w':World} {v:Value} {bs:List Bool} (h:BlsO base w v bs) (hb:Below w.heap.size w w'):BlsO base w' v bs:=own_below h hb
theorem BlsO.monoB {base base':Nat} {w:World} {v:Value} {bs:List Bool} (h:BlsO base w v bs) (hb:base'≤base):BlsO base' w v bs:=row_mono h hb
theorem BlsO.but {base:Nat} {w w':World} {e:TypeId} {v:Value} {bs:List Bool} (h:BlsO base w v bs) (hk:KeepBut e w w') (h1:4≠e):BlsO base w' v bs:=hk.own h h1
theorem BlsO.len {base:Nat} {w:World} {A:Option Addr} {n c:Nat} {bs:List Bool} (h:BlsO base w (.slice A n c) bs):n=bs.length:=(RowM.of_own h).len
theorem BlsO.at_ {base:Nat} {w:World} {g n c:Nat} {bs:List Bool} (h:BlsO base w (.slice (some ⟨g,0,none⟩) n c) bs) {k:Nat} {b:Bool} (hk:bs[k]? =some b):w.cell? ⟨g,k,none⟩=some (.bool b)∧w.frozen? ⟨g,k,none⟩=false:=by
 obtain rfl:n=bs.length:=h.len
 exact row_cell h (by simp [hk])
theorem BlsO.base {base:Nat} {w:World} {g n c:Nat} {bs:List Bool} (h:BlsO base w (.slice (some ⟨g,0,none⟩) n c) bs):base≤g:=by
 obtain rfl:n=bs.length:=h.len
 obtain ⟨_,_,h3⟩:=row_block h
 exact h3
theorem BlsO.set_ {base:Nat} {w:World} {g n c:Nat} {bs:List Bool} (h:BlsO base w (.slice (some ⟨g,0,none⟩) n c) bs) {k:Nat} (hk:k < bs.length):
 BlsO base (w.setCell ⟨g,k,none⟩ (.bool true)) (.slice (some ⟨g,0,none⟩) n c) (bs.set k true)∧KeepBut 4 w (w.setCell ⟨g,k,none⟩ (.bool true)):=by
 obtain rfl:n=bs.length:=h.len
 have o1:=row_set h k (.bool true) (by simpa using hk)
 obtain ⟨_,b0,_⟩:=row_block h
 refine ⟨?_,KeepBut.setCell b0 k _⟩
 unfold BlsO
 rw [List.length_set,List.map_set]
 exact o1
def zbl (n:Nat):Array Value:=madeCells (Value.cells (.bool false)) (n * 1)
theorem zbl_at {n k:Nat} (hk:k < n):(zbl n)[k]? =some (.bool false):=by
 unfold zbl madeCells
 simp [hk,Value.cells,Nat.mod_one]
theorem BlsO.zeros (w:World) (n:Nat) (hn:n≤maxLen):BlsO w.heap.size (w.alloc (.cells (zbl n) 4)) (.slice (some ⟨w.heap.size,0,none⟩) n n) (List.replicate n false):=by
 have hsz:(zbl n).size=n * 1:=size_madeCells _ _
 refine ⟨by simp,.inr ⟨w.heap.size,n,zbl n,by simp,Nat.le_refl _,heap_alloc_new w _,by simp,hn,by simpa using hsz,?_⟩⟩
 refine List.ext_getElem? fun i=>?_
 rcases Nat.lt_or_ge i n with e | e
 ·have:=zbl_at e
  simp [List.getElem?_take,e,this]
 ·rw [List.getElem?_eq_none (by simp [hsz];omega),List.getElem?_eq_none (by simp;omega)]
theorem info_bl:(Tryz.prog.info? 4).map (fun i=>(i.zero,i.size,i.bytes))=some (some (.bool false),1,1):=by kernel_rfl
theorem make_bls (n:Nat) (hn:n≤1099511627776) (w:World):
 (Instr.makeSlice 87 (.int .i64 (n:Int)) (.int .i64 (n:Int))).run Tryz.prog w= .ok (.slice (some ⟨w.heap.size,0,none⟩) n n) (w.alloc (.cells (zbl n) 4)):=by
 obtain ⟨i0,hi,hz0,hz1,hz2⟩:=info_parts info_bl
 have hb:(i0.bytes:Int) * (n:Int)≤281474976710656:=by rw [hz2];omega
 have hr:=run_make (P:=Tryz.prog) w 87 4 i0 _ Tryz.underlying87 hi hz0 .i64 .i64 n n (by omega) (by omega) hb (by omega)
 simp only [Int.toNat_natCast,hz1] at hr
 exact hr
theorem Pl.VOK.shs {f:RF} (h:VOK f):f.Sh∧ShH f:=by
 obtain ⟨q,rfl,h2⟩:=h
 exact ⟨h2.sh (by decide),Sz.shH (k:=2) h2 (by decide)⟩
namespace Pl
theorem fill_step {m:Ms} (ok:MsOK m) {O:List Dc} {a:Nat × List Int} {k:Nat} {x:Dc} {T:Nat} {ys:List Int} {z:Int} (hO:O[k]? =some x) (hx:(dcs m)[x.idx]? =some x) {cl:Cl} (hc:m.cols[x.idx]? =some cl) (hf:fillP (O.take k) a=(T,ys)) (hn:Now (dcs m) 0 [] ys T z):
 ((∃f∈cl.ops,f∈usedL m ys)→fillP (O.take (k+1)) a=(T,ys))∧
 ((¬∃f∈cl.ops,f∈usedL m ys)→fillP (O.take (k+1)) a=(T ||| x.mask,ys++[(x.idx:Int)])∧Now (dcs m) 0 [] (ys++[(x.idx:Int)]) (T ||| x.mask) (z+x.sur)∧usedL m (ys++[(x.idx:Int)])=usedL m ys++cl.ops∧sortI (ys++[(x.idx:Int)])=insB ltI (x.idx:Int) (sortI ys)):=by
 have hc':m.cols[((x.idx:Nat):Int).toNat]? =some cl:=by simpa using hc
 have hr:InR (dcs m).length ys:=by have:=hn.rg;rwa [List.nil_append] at this
 have ht:=hn.t_eq
 rw [List.nil_append] at ht
 have hu:=used_iff ok hr hc'
 rw [mkI_of hx,← ht] at hu
 rw [fillP_succ hO,hf]
 unfold fillS
 constructor
 ·rintro ⟨f,h1,h2⟩
  rw [if_neg fun e=>hu.1 e f h1 h2]
 ·intro h
  have hm:x.mask &&& T=0:=hu.2 fun f h1 h2=>h ⟨f,h1,h2⟩
  rw [if_pos hm]
  refine ⟨rfl,hn.snoc (dcs_ok ok) (List.mem_of_getElem? hx) hm,?_,sortI_snoc _ _⟩
  unfold usedL
  rw [List.flatMap_append]
  simp [opI_of hc']
theorem now_len {L:List Dc} {ys:List Int} {T:Nat} {z:Int} (h:Now L 0 [] ys T z):ys.length≤L.length:=by
 have:=asc_len h.sel.1.rg h.sel.1.asc
 unfold sortI at this
 rw [sortB_length,List.nil_append] at this
 exact this
theorem usedL_len {m:Ms} (ok:MsOK m) (ys:List Int):(usedL m ys).length≤6 * ys.length:=by
 unfold usedL
 induction ys with
 | nil=>simp
 | cons y ys ih=>
  rw [List.flatMap_cons,List.length_append,List.length_cons]
  have:(opI m y).length≤6:=by
   unfold opI
   cases hc:m.cols[y.toNat]? with
   | none=>simp
   | some c=>simpa using ok.opl (List.mem_of_getElem? hc)
  omega
theorem ltH_at {fs:List RF} {x y:Dc} {f g:RF} (hx:fs[x.idx]? =some f) (hy:fs[y.idx]? =some g):ltH fs x y=decide (g.q < f.q):=by unfold ltH qAt;rw [hx,hy]
theorem hiB_at {fs:List RF} {x:Dc} {f:RF} (hx:fs[x.idx]? =some f):hiB fs x=decide (0 < qs f.q):=by unfold hiB qAt;rw [hx]
end Pl
def GrI (base g n:Nat) (m:Ms) (O:List Dc) (a:Nat × List Int) (k:Nat) (w:World) (s7 s8:Value):Prop:=
 ∃T ys z,fillP (O.take k) a=(T,ys)∧Now (dcs m) 0 [] ys T z∧IntsO base w s7 (sortI ys)∧IntsO base w s8 (usedL m ys)∧(∀b,s8.ownBlock=some b→some b≠s7.ownBlock)∧BlsO base w (.slice (some ⟨g,0,none⟩) n n) (seenP (dcs m) O k)
theorem valued27_any (v1 v2:Value) (m:Ms) (fs:List RF) (w:World) (h:MsM w v1 m) (ok:MsOK m) (h2:FrsM w v2 fs):
 Calls Tryz.prog 41 #[v1,v2] w fun e w'=>e= .returned (.int .i64 (if fs.length=m.cols.length then 0 else 12))∧Below w.heap.size w w':=by
 obtain ⟨A,n,c,A',n',c',A'',n'',c'',rfl,hR,hC,hT⟩:=id h
 obtain ⟨s1,s2,s3⟩:=RdM.len hC
 obtain ⟨B,d,rfl,hd1,hd2⟩:=h2.shape
 rw [← s1]
 generalize fs.length=q at *
 obtain ⟨E,hE⟩:∃E:Int,E=(if q=n' then 0 else 12):=⟨_,rfl⟩
 rw [← hE]
 have HE:=Lib.hid hE
 clear hE
 obtain ⟨W,hW,hX,hbe⟩:=box_ms w (.int .i64 m.fl) (.slice A n c) (.int .i64 m.pen) (.slice A' n' c') (.slice A'' n'' c'')
 have HM:=Lib.hid (h.below hbe)
 have HOK:=Lib.hid ok
 clear h hR hC hT ok h2 s1
 generalize m.fl=F at *
 generalize m.pen=P at *
 obtain ⟨x0,x1,x2,x3,x4⟩:=hX.five
 go_enter Tryz.func41,Tryz.ntmps41
 go_wp2_with fail
 clear hW x0 x1 x2 x3 x4
 refine (validateMaster27_ok _ m _ HM.out HOK.out).mono ?_
 rintro _ w1 ⟨rfl,hb1⟩
 have hX1:=hX.later hb1
 have hbe1:=below_then hbe hb1 hbe.size
 clear hX hbe hb1 HM
 obtain ⟨x0,x1,x2,x3,x4⟩:=hX1.five
 by_cases hqn:q=n'
 ·subst hqn
  have e1:((q:Int) !=(q:Int))=false:=by simp
  obtain rfl:E=0:=by rw [HE.out,if_pos rfl]
  clear HE
  go_wp2
  go_ret
  exact ⟨rfl,hbe1⟩
 ·have e1:((q:Int) !=(n':Int))=true:=by simp;omega
  obtain rfl:E=12:=by rw [HE.out,if_neg hqn]
  clear hqn HE
  go_wp2
  go_ret
  exact ⟨rfl,hbe1⟩
theorem greedy27_own (v1 v2:Value) (m:Ms) (fs:List RF) (w:World) (h:MsM w v1 m) (ok:MsOK m) (h2:FrsM w v2 fs) (hf:fs.length=m.cols.length) (hv:∀f∈fs,VOK f):
 Calls Tryz.prog 15 #[v1,v2] w (GrPost m fs w):=by
 obtain ⟨A,n,c,A',n',c',A'',n'',c'',rfl,hR,hC,hT⟩:=id h
 obtain ⟨s1,s2,s3⟩:=RdM.len hC
 obtain ⟨B,d,rfl,hd1,hd2⟩:=h2.shape
 have HVL:=Lib.hid (fun w hm hff=>valued27_any (.agg #[.int .i64 m.fl,.slice A n c,.int .i64 m.pen,.slice A' n' c',.slice A'' n'' c'']) (.slice B fs.length d) m fs w hm ok hff)
 rw [if_pos hf] at HVL
 rw [hf,← s1] at h2 HVL ⊢
 obtain ⟨W,hW,hX,hbe⟩:=box_ms w (.int .i64 m.fl) (.slice A n c) (.int .i64 m.pen) (.slice A' n' c') (.slice A'' n'' c'')
 have HM:=Lib.hid (h.below hbe)
 have HC:=Lib.hid hC
 have HOK:=Lib.hid ok
 have HF:=Lib.hid h2
 have HV:=Lib.hid hv
 have HFN:=Lib.hid hf
 have HCN:=Lib.hid s1
 have hn6':n'≤6:=by have:=ok.ncol;omega
 have HDN:Hid ((dcs m).length=n'):=Lib.hid (by rw [dcs_len,s1])
 have HGL:=Lib.hid (greedyL_eq m fs)
 have HO1:=Lib.hid (ord_ok (ltH_ok fs) (dcs_ok ok) (hiB fs))
 have HO2:=Lib.hid (ord_ok ltL_ok (dcs_ok ok) loB)
 clear h hR hC hT ok h2 hf hv s1 hd1
 generalize ordP (ltH fs) (hiB fs) (dcs m)=O1 at *
 generalize ordP ltL loB (dcs m)=O2 at *
 generalize hFl:m.fl=F at *
 generalize hPn:m.pen=P at *
 have HPN:=Lib.hid hPn
 clear hFl hPn
 obtain ⟨x0,x1,x2,x3,x4⟩:=hX.five
 go_enter Tryz.func15,Tryz.ntmps15
 go_wp2_with fail
 clear hW x0 x1 x2 x3 x4
 refine (HVL.out _ HM.out (HF.out.below hbe)).mono ?_
 rintro _ w1 ⟨rfl,hb1⟩
 have hX1:=hX.later hb1
 have hbe1:=below_then hbe hb1 hbe.size
 have hgl:w.heap.size < w1.heap.size:=hX1.lt
 have hmk:=make_bls n' (by omega) w1
 clear hX hbe hb1 HM HVL
 go_wp2
 clear hmk
 have hb2:=below_new w1 (.cells (zbl n') 4)
 have hz2:=(BlsO.zeros w1 n' (by unfold maxLen;omega)).monoB hbe1.size
 have hX2:=hX1.later hb2
 have hbe2:=below_then hbe1 hb2 hbe1.size
 have hO0:=IntsO.nil w.heap.size (w1.alloc (.cells (zbl n') 4))
 have HST:Hid (GrI w.heap.size w1.heap.size n' m O1 (0,[]) 0 (w1.alloc (.cells (zbl n') 4)) (.slice none 0 0) (.slice none 0 0)):=Lib.hid ⟨0,[],0,by simp [fillP],now_nil _,hO0,hO0,by simp [Value.ownBlock],by rw [seenP_zero,HDN.out];exact hz2⟩
 clear hX1 hbe1 hb2 hz2 hO0
 generalize w1.alloc (.cells (zbl n') 4)=w2 at *
 generalize w1.heap.size=g at *
 go_loopg [7,8] O1.length (fun gk s7 s8 wr=>∃k:Nat,k+gk=O1.length∧Below w.heap.size w wr∧Bk wr w.heap.size 26 [.int .i64 F,.slice A n c,.int .i64 P,.slice A' n' c',.slice A'' n'' c'']∧Hid (GrI w.heap.size g n' m O1 (0,[]) k wr s7 s8))
 case atStart=>exact ⟨0,by omega,hbe2,hX2,HST⟩
 case round=>
  clear hbe2 hX2 HST
  obtain ⟨k,hk,hb,hB,HS⟩:=hrel
  have HKO:Hid (k≤O1.length):=Lib.hid (by omega)
  have HGK:=Lib.hid hk
  clear hk
  obtain ⟨T,ys,z,f1,f2,f3,f4,f5,f6⟩:=HS.out
  have HFL:=Lib.hid (And.intro f1 f2)
  have HI7:=Lib.hid (And.intro f3 (And.intro f4 (And.intro f5 f6)))
  clear HS f1 f2 f3 f4 f5 f6
  obtain ⟨A7,n7,c7,h7e⟩:=HI7.out.1.sliceN
  obtain ⟨A8,n8,c8,h8e⟩:=HI7.out.2.1.sliceN
  subst h7e h8e
  go_wp2
  generalize wr=wo at *
  go_loopw [10,11] (fun s10 x wq=>∃(j:Nat) (b:Int),j≤n'∧x= .int .i64 j∧s10= .int .i64 b∧ -1≤b∧b < n'∧Below wo.heap.size wo wq∧Hid (PickAt (ltH fs) (dcs m) (fun x=>x∈O1.drop k) j b)) (fun _ x _=>n' - (intOf x).toNat)
  case atStart=>exact ⟨0,-1,by omega,rfl,rfl,by omega,by omega,Below.refl _ _,Lib.hid (PickAt.zero _ _ _)⟩
  case round=>
   obtain ⟨j,b,hj,rfl,rfl,hb0,hb1,hbq,HP⟩:=hrel
   have hbt:=below_then hb hbq hb.size
   rcases Nat.lt_or_ge j n' with hjl | hjl
   ·have hjz:(j:Int) < n':=by omega
    obtain ⟨xj,hxj⟩:∃x,(dcs m)[j]? =some x:=⟨(dcs m)[j]'(by rw [HDN.out];exact hjl),List.getElem?_eq_getElem _⟩
    have hij:=(dcs_ok HOK.out).idx j xj hxj
    obtain ⟨fj,hfj⟩:∃f,fs[j]? =some f:=⟨fs[j]'(by rw [HFN.out,← HCN.out];exact hjl),List.getElem?_eq_getElem _⟩
    obtain ⟨b',off',A3,n3,c3,A4,n4,c4,hA',hbl,⟨q0,q1,q2,q3⟩,ey⟩:=HF.out.elem hbt hfj
    subst hA'
    have hsc:=((HI7.out.2.2.2.below hbq).at_ (seenP_at hxj)).1
    have HEJ:=Lib.hid ey
    have HVJ:=Lib.hid (HV.out fj (List.mem_of_getElem? hfj)).shs
    have HCA:Hid (xj∈O1.drop k↔decide (0 < qs fj.q)=true∧inB (O1.take k) xj=false):=Lib.hid (by rw [← hiB_at (x:=xj) (by rw [hij];exact hfj)];exact HO1.out.cand k xj (List.mem_of_getElem? hxj))
    have HJ:=Lib.hid (And.intro hxj (And.intro hij hfj))
    clear hxj hij hfj ey
    cases hsj:inB (O1.take k) xj with
    | true=>
     rw [hsj] at hsc
     have HNX:Hid (PickAt (ltH fs) (dcs m) (fun x=>x∈O1.drop k) (j+1) b):=Lib.hid (HP.out.skip HJ.out.1 (by rw [HCA.out,hsj];simp))
     clear hsj
     go_upto_region 10 with (fail)
     have C0:=stab hsc
     have Q0:=stab q0
     have Q1:=stab q1
     have Q2:=stab q2
     have Q3:=stab q3
     have hS0:=below_drew' wr
     clear hsc q0 q1 q2 q3
     refine region_seq 29 [0,1,2,3,4,5,6,7,8,9,10,11,12,13,14,15,16,17,18,19,20,21,22,23,24,25,26,27,28] (by kernel_rfl) (by kernel_rfl) ?_
     repeat ((first | (refine seq_takeP (v:=?_) rfl rfl rfl ?_ ?_;rotate_left;(· (intro _ hSw;go_simp;(try go_bits);(try with_reducible rfl)))) | (refine seq_take (v:=?_) rfl rfl rfl ?_ ?_;rotate_left;(· (intro _ hSw;go_simp;(try go_bits);(try with_reducible rfl)))) | refine seq_skip rfl rfl rfl ?_ | refine seq_skipc rfl rfl rfl (by assumption) ?_);(try simp only [Act.put,pu1,pu2,pu3,pu4,pu5,pu6]))
     refine seq_done ?_
     have hbq7:=below_then hbq hS0 hbq.size
     clear C0 Q0 Q1 Q2 Q3 hS0 hbq hbt
     go_wp2
     go_roundw
     case rel=>exact ⟨j+1,b,by omega,by go_num,rfl,hb0,hb1,hbq7,HNX⟩
     case measure=>simp [intOf];omega
    | false=>
     rw [hsj] at hsc
     have HSJ:=Lib.hid hsj
     clear hsj
     by_cases hq:0 < qs fj.q
     ·have d0:decide (0 < qs fj.q)=true:=decide_eq_true hq
      have HCJ:Hid (xj∈O1.drop k):=Lib.hid (HCA.out.2 ⟨d0,HSJ.out⟩)
      by_cases hbn:b= -1
      ·subst hbn
       have HNX:Hid (PickAt (ltH fs) (dcs m) (fun x=>x∈O1.drop k) (j+1) (j:Int)):=Lib.hid (HP.out.first HJ.out.1 HJ.out.2.1 HCJ.out)
       go_upto_region 10 with (fail)
       have C0:=stab hsc
       have Q0:=stab q0
       have Q1:=stab q1
       have Q2:=stab q2
       have Q3:=stab q3
       have hS0:=below_drew' wr
       clear hsc q0 q1 q2 q3
       refine region_seq 29 [0,1,2,3,4,5,6,7,8,9,10,11,12,13,14,15,16,17,18,19,20,21,22,23,24,25,26,27,28] (by kernel_rfl) (by kernel_rfl) ?_
       repeat ((first | (refine seq_takeP (v:=?_) rfl rfl rfl ?_ ?_;rotate_left;(· (intro _ hSw;go_simp;(try go_bits);(try with_reducible rfl)))) | (refine seq_take (v:=?_) rfl rfl rfl ?_ ?_;rotate_left;(· (intro _ hSw;go_simp;(try go_bits);(try with_reducible rfl)))) | refine seq_skip rfl rfl rfl ?_ | refine seq_skipc rfl rfl rfl (by assumption) ?_);(try simp only [Act.put,pu1,pu2,pu3,pu4,pu5,pu6]))
       refine seq_step rfl rfl (fun KR hKR=>?_)
       go_simp
       with_reducible refine (rsignF_any _ fj _ (HEJ.out.below hS0) HVJ.out.1).mono ?_
       rintro _ w5 ⟨rfl,hb5⟩
       have hS5:=below_then hS0 hb5 hS0.size
       refine hKR.out _ _ (Or.inr hS5) ?_
       clear hKR KR
       (try simp only [Act.put,pu1,pu2,pu3,pu4,pu5,pu6])
       repeat ((first | (refine seq_takeP (v:=?_) rfl rfl rfl ?_ ?_;rotate_left;(· (intro _ hSw;go_simp;(try go_bits);(try with_reducible rfl)))) | (refine seq_take (v:=?_) rfl rfl rfl ?_ ?_;rotate_left;(· (intro _ hSw;go_simp;(try go_bits);(try with_reducible rfl)))) | refine seq_skip rfl rfl rfl ?_ | refine seq_skipc rfl rfl rfl (by assumption) ?_);(try simp only [Act.put,pu1,pu2,pu3,pu4,pu5,pu6]))
       refine seq_done ?_
       have hbq7:=below_then hbq hS5 hbq.size
       clear C0 Q0 Q1 Q2 Q3 hS0 hbq hbt hb5 hS5
       go_wp2
       go_roundw
       case rel=>exact ⟨j+1,(j:Int),by omega,by go_num,rfl,by omega,by omega,hbq7,HNX⟩
       case measure=>simp [intOf];omega
      ·obtain ⟨bn,rfl⟩:=Int.eq_ofNat_of_zero_le (show 0≤b by omega)
       have hbl2:bn < n':=by omega
       have hbz:decide ((bn:Int) < 0)=false:=by simp
       obtain ⟨xb,hxb⟩:∃x,(dcs m)[bn]? =some x:=⟨(dcs m)[bn]'(by rw [HDN.out];exact hbl2),List.getElem?_eq_getElem _⟩
       have hib:=(dcs_ok HOK.out).idx bn xb hxb
       obtain ⟨fb,hfb⟩:∃f,fs[bn]? =some f:=⟨fs[bn]'(by rw [HFN.out,← HCN.out];exact hbl2),List.getElem?_eq_getElem _⟩
       obtain ⟨b2',off2',B3,l3,e3,B4,l4,e4,hB',hbl3,⟨p0,p1,p2,p3⟩,ez⟩:=HF.out.elem hbt hfb
       injection hB' with hB'
       injection hB' with t1 t2 _
       subst t1 t2
       have HEB:=Lib.hid ez
       have HVB:=Lib.hid (HV.out fb (List.mem_of_getElem? hfb)).shs
       have HLT:Hid (ltH fs xj xb=decide (fb.q < fj.q)):=Lib.hid (ltH_at (by rw [HJ.out.2.1];exact HJ.out.2.2) (by rw [hib];exact hfb))
       have HXB:=Lib.hid hxb
       clear hxb hib hfb ez hbn
       by_cases hlt:fb.q < fj.q
       ·have d1:decide (0 < qs (fj.q - fb.q))=true:=decide_eq_true (qs_pos.2 (by grind))
        have HNX:Hid (PickAt (ltH fs) (dcs m) (fun x=>x∈O1.drop k) (j+1) (j:Int)):=Lib.hid (HP.out.put (ltH_ok fs) HJ.out.1 HJ.out.2.1 HXB.out HCJ.out (by rw [HLT.out];exact decide_eq_true hlt))
        clear hlt
        go_upto_region 10 with (fail)
        have C0:=stab hsc
        have Q0:=stab q0
        have Q1:=stab q1
        have Q2:=stab q2
        have Q3:=stab q3
        have P0:=stab p0
        have P1:=stab p1
        have P2:=stab p2
        have P3:=stab p3
        have hS0:=below_drew' wr
        clear hsc q0 q1 q2 q3 p0 p1 p2 p3
        refine region_seq 29 [0,1,2,3,4,5,6,7,8,9,10,11,12,13,14,15,16,17,18,19,20,21,22,23,24,25,26,27,28] (by kernel_rfl) (by kernel_rfl) ?_
        repeat ((first | (refine seq_takeP (v:=?_) rfl rfl rfl ?_ ?_;rotate_left;(· (intro _ hSw;go_simp;(try go_bits);(try with_reducible rfl)))) | (refine seq_take (v:=?_) rfl rfl rfl ?_ ?_;rotate_left;(· (intro _ hSw;go_simp;(try go_bits);(try with_reducible rfl)))) | refine seq_skip rfl rfl rfl ?_ | refine seq_skipc rfl rfl rfl (by assumption) ?_);(try simp only [Act.put,pu1,pu2,pu3,pu4,pu5,pu6]))
        refine seq_step rfl rfl (fun KR hKR=>?_)
        go_simp
        with_reducible refine (rsignF_any _ fj _ (HEJ.out.below hS0) HVJ.out.1).mono ?_
        rintro _ w5 ⟨rfl,hb5⟩
        have hS5:=below_then hS0 hb5 hS0.size
        refine hKR.out _ _ (Or.inr hS5) ?_
        clear hKR KR
        (try simp only [Act.put,pu1,pu2,pu3,pu4,pu5,pu6])
        repeat ((first | (refine seq_takeP (v:=?_) rfl rfl rfl ?_ ?_;rotate_left;(· (intro _ hSw;go_simp;(try go_bits);(try with_reducible rfl)))) | (refine seq_take (v:=?_) rfl rfl rfl ?_ ?_;rotate_left;(· (intro _ hSw;go_simp;(try go_bits);(try with_reducible rfl)))) | refine seq_skip rfl rfl rfl ?_ | refine seq_skipc rfl rfl rfl (by assumption) ?_);(try simp only [Act.put,pu1,pu2,pu3,pu4,pu5,pu6]))
        refine seq_step rfl rfl (fun KR hKR=>?_)
        go_simp
        with_reducible refine (rcompareF_any _ _ fj fb _ (HEJ.out.below hS5) (HEB.out.below hS5) HVJ.out.2 HVB.out.2).mono ?_
        rintro _ w6 ⟨rfl,hb6⟩
        have hS6:=below_then hS5 hb6 hS5.size
        refine hKR.out _ _ (Or.inr hS6) ?_
        clear hKR KR
        (try simp only [Act.put,pu1,pu2,pu3,pu4,pu5,pu6])
        repeat ((first | (refine seq_takeP (v:=?_) rfl rfl rfl ?_ ?_;rotate_left;(· (intro _ hSw;go_simp;(try go_bits);(try with_reducible rfl)))) | (refine seq_take (v:=?_) rfl rfl rfl ?_ ?_;rotate_left;(· (intro _ hSw;go_simp;(try go_bits);(try with_reducible rfl)))) | refine seq_skip rfl rfl rfl ?_ | refine seq_skipc rfl rfl rfl (by assumption) ?_);(try simp only [Act.put,pu1,pu2,pu3,pu4,pu5,pu6]))
        refine seq_done ?_
        have hbq7:=below_then hbq hS6 hbq.size
        clear C0 Q0 Q1 Q2 Q3 hS0 hbq hbt hb5 hS5 P0 P1 P2 P3 hb6 hS6
        go_wp2
        go_roundw
        case rel=>exact ⟨j+1,(j:Int),by omega,by go_num,rfl,by omega,by omega,hbq7,HNX⟩
        case measure=>simp [intOf];omega
       ·have d1:decide (0 < qs (fj.q - fb.q))=false:=decide_eq_false fun e=>hlt (by have:=qs_pos.1 e;grind)
        have HNX:Hid (PickAt (ltH fs) (dcs m) (fun x=>x∈O1.drop k) (j+1) (bn:Int)):=Lib.hid (HP.out.keep HJ.out.1 HJ.out.2.1 HXB.out (by rw [HLT.out];exact decide_eq_false hlt))
        clear hlt
        go_upto_region 10 with (fail)
        have C0:=stab hsc
        have Q0:=stab q0
        have Q1:=stab q1
        have Q2:=stab q2
        have Q3:=stab q3
        have P0:=stab p0
        have P1:=stab p1
        have P2:=stab p2
        have P3:=stab p3
        have hS0:=below_drew' wr
        clear hsc q0 q1 q2 q3 p0 p1 p2 p3
        refine region_seq 29 [0,1,2,3,4,5,6,7,8,9,10,11,12,13,14,15,16,17,18,19,20,21,22,23,24,25,26,27,28] (by kernel_rfl) (by kernel_rfl) ?_
        repeat ((first | (refine seq_takeP (v:=?_) rfl rfl rfl ?_ ?_;rotate_left;(· (intro _ hSw;go_simp;(try go_bits);(try with_reducible rfl)))) | (refine seq_take (v:=?_) rfl rfl rfl ?_ ?_;rotate_left;(· (intro _ hSw;go_simp;(try go_bits);(try with_reducible rfl)))) | refine seq_skip rfl rfl rfl ?_ | refine seq_skipc rfl rfl rfl (by assumption) ?_);(try simp only [Act.put,pu1,pu2,pu3,pu4,pu5,pu6]))
        refine seq_step rfl rfl (fun KR hKR=>?_)
        go_simp
        with_reducible refine (rsignF_any _ fj _ (HEJ.out.below hS0) HVJ.out.1).mono ?_
        rintro _ w5 ⟨rfl,hb5⟩
        have hS5:=below_then hS0 hb5 hS0.size
        refine hKR.out _ _ (Or.inr hS5) ?_
        clear hKR KR
        (try simp only [Act.put,pu1,pu2,pu3,pu4,pu5,pu6])
        repeat ((first | (refine seq_takeP (v:=?_) rfl rfl rfl ?_ ?_;rotate_left;(· (intro _ hSw;go_simp;(try go_bits);(try with_reducible rfl)))) | (refine seq_take (v:=?_) rfl rfl rfl ?_ ?_;rotate_left;(· (intro _ hSw;go_simp;(try go_bits);(try with_reducible rfl)))) | refine seq_skip rfl rfl rfl ?_ | refine seq_skipc rfl rfl rfl (by assumption) ?_);(try simp only [Act.put,pu1,pu2,pu3,pu4,pu5,pu6]))
        refine seq_step rfl rfl (fun KR hKR=>?_)
        go_simp
        with_reducible refine (rcompareF_any _ _ fj fb _ (HEJ.out.below hS5) (HEB.out.below hS5) HVJ.out.2 HVB.out.2).mono ?_
        rintro _ w6 ⟨rfl,hb6⟩
        have hS6:=below_then hS5 hb6 hS5.size
        refine hKR.out _ _ (Or.inr hS6) ?_
        clear hKR KR
        (try simp only [Act.put,pu1,pu2,pu3,pu4,pu5,pu6])
        repeat ((first | (refine seq_takeP (v:=?_) rfl rfl rfl ?_ ?_;rotate_left;(· (intro _ hSw;go_simp;(try go_bits);(try with_reducible rfl)))) | (refine seq_take (v:=?_) rfl rfl rfl ?_ ?_;rotate_left;(· (intro _ hSw;go_simp;(try go_bits);(try with_reducible rfl)))) | refine seq_skip rfl rfl rfl ?_ | refine seq_skipc rfl rfl rfl (by assumption) ?_);(try simp only [Act.put,pu1,pu2,pu3,pu4,pu5,pu6]))
        refine seq_done ?_
        have hbq7:=below_then hbq hS6 hbq.size
        clear C0 Q0 Q1 Q2 Q3 hS0 hbq hbt hb5 hS5 P0 P1 P2 P3 hb6 hS6
        go_wp2
        go_roundw
        case rel=>exact ⟨j+1,(bn:Int),by omega,by go_num,rfl,by omega,by omega,hbq7,HNX⟩
        case measure=>simp [intOf];omega
     ·have d0:decide (0 < qs fj.q)=false:=decide_eq_false hq
      have HNX:Hid (PickAt (ltH fs) (dcs m) (fun x=>x∈O1.drop k) (j+1) b):=Lib.hid (HP.out.skip HJ.out.1 (by rw [HCA.out,d0];simp))
      clear hq
      go_upto_region 10 with (fail)
      have C0:=stab hsc
      have Q0:=stab q0
      have Q1:=stab q1
      have Q2:=stab q2
      have Q3:=stab q3
      have hS0:=below_drew' wr
      clear hsc q0 q1 q2 q3
      refine region_seq 29 [0,1,2,3,4,5,6,7,8,9,10,11,12,13,14,15,16,17,18,19,20,21,22,23,24,25,26,27,28] (by kernel_rfl) (by kernel_rfl) ?_
      repeat ((first | (refine seq_takeP (v:=?_) rfl rfl rfl ?_ ?_;rotate_left;(· (intro _ hSw;go_simp;(try go_bits);(try with_reducible rfl)))) | (refine seq_take (v:=?_) rfl rfl rfl ?_ ?_;rotate_left;(· (intro _ hSw;go_simp;(try go_bits);(try with_reducible rfl)))) | refine seq_skip rfl rfl rfl ?_ | refine seq_skipc rfl rfl rfl (by assumption) ?_);(try simp only [Act.put,pu1,pu2,pu3,pu4,pu5,pu6]))
      refine seq_step rfl rfl (fun KR hKR=>?_)
      go_simp
      with_reducible refine (rsignF_any _ fj _ (HEJ.out.below hS0) HVJ.out.1).mono ?_
      rintro _ w5 ⟨rfl,hb5⟩
      have hS5:=below_then hS0 hb5 hS0.size
      refine hKR.out _ _ (Or.inr hS5) ?_
      clear hKR KR
      (try simp only [Act.put,pu1,pu2,pu3,pu4,pu5,pu6])
      repeat ((first | (refine seq_takeP (v:=?_) rfl rfl rfl ?_ ?_;rotate_left;(· (intro _ hSw;go_simp;(try go_bits);(try with_reducible rfl)))) | (refine seq_take (v:=?_) rfl rfl rfl ?_ ?_;rotate_left;(· (intro _ hSw;go_simp;(try go_bits);(try with_reducible rfl)))) | refine seq_skip rfl rfl rfl ?_ | refine seq_skipc rfl rfl rfl (by assumption) ?_);(try simp only [Act.put,pu1,pu2,pu3,pu4,pu5,pu6]))
      refine seq_done ?_
      have hbq7:=below_then hbq hS5 hbq.size
      clear C0 Q0 Q1 Q2 Q3 hS0 hbq hbt hb5 hS5
      go_wp2
      go_roundw
      case rel=>exact ⟨j+1,b,by omega,by go_num,rfl,hb0,hb1,hbq7,HNX⟩
      case measure=>simp [intOf];omega
   ·obtain rfl:n'=j:=by omega
    have HPD:Hid ((b= -1∧O1.length≤k)∨∃x,O1[k]? =some x∧b=(x.idx:Int)∧(dcs m)[x.idx]? =some x):=Lib.hid (PickAt.done (ltH_ok fs) (dcs_ok HOK.out) HO1.out.bf HO1.out.sub (by rw [HDN.out];exact HP.out))
    have hBq:=hB.later hbq
    have HI9:=Lib.hid (And.intro (HI7.out.1.below hbq) (And.intro (HI7.out.2.1.below hbq) (HI7.out.2.2.2.below hbq)))
    have HSEP:=Lib.hid HI7.out.2.2.1
    clear hb hB hbq HI7 HP
    by_cases hbn:b= -1
    ·subst hbn
     have HDONE:Hid (O1.take k=O1):=Lib.hid (by
      rcases HPD.out with ⟨_,h⟩ | ⟨x,_,h,_⟩
      ·exact List.take_of_length_le h
      ·omega)
     have HFP:Hid (fillP O1 (0,[])=(T,ys)∧Now (dcs m) 0 [] ys T z):=Lib.hid ⟨by have:=HFL.out.1;rw [HDONE.out] at this;exact this,HFL.out.2⟩
     have hgl2:w.heap.size < wr.heap.size:=hBq.lt
     have hmk:=make_bls n' (by omega) wr
     clear HPD
     go_wp2
     clear hmk
     have hb2:=below_new wr (.cells (zbl n') 4)
     have hz2:=(BlsO.zeros wr n' (by unfold maxLen;omega)).monoB hbt.size
     have hX5:=hBq.later hb2
     have hbe5:=below_then hbt hb2 hbt.size
     have HST2:Hid (GrI w.heap.size wr.heap.size n' m O2 (fillP O1 (0,[])) 0 (wr.alloc (.cells (zbl n') 4)) (.slice A7 n7 c7) (.slice A8 n8 c8)):=Lib.hid ⟨T,ys,z,by rw [HFP.out.1];simp [fillP],HFP.out.2,HI9.out.1.below hb2,HI9.out.2.1.below hb2,HSEP.out,by rw [seenP_zero,HDN.out];exact hz2⟩
     clear hBq hbt hb2 hz2 HI9 HSEP HFL HDONE HKO HGK
     generalize wr.alloc (.cells (zbl n') 4)=w5 at *
     generalize wr.heap.size=g2 at *
     go_loopg [7,8] O2.length (fun gk s7 s8 wr=>∃k:Nat,k+gk=O2.length∧Below w.heap.size w wr∧Bk wr w.heap.size 26 [.int .i64 F,.slice A n c,.int .i64 P,.slice A' n' c',.slice A'' n'' c'']∧Hid (GrI w.heap.size g2 n' m O2 (fillP O1 (0,[])) k wr s7 s8))
     case atStart=>exact ⟨0,by omega,hbe5,hX5,HST2⟩
     case round=>
      clear hbe5 hX5 HST2
      obtain ⟨k,hk,hb,hB,HS⟩:=hrel
      have HKO:Hid (k≤O2.length):=Lib.hid (by omega)
      have HGK:=Lib.hid hk
      clear hk
      obtain ⟨T,ys,z,f1,f2,f3,f4,f5,f6⟩:=HS.out
      have HFL:=Lib.hid (And.intro f1 f2)
      have HI7:=Lib.hid (And.intro f3 (And.intro f4 (And.intro f5 f6)))
      clear HS f1 f2 f3 f4 f5 f6
      obtain ⟨A7,n7,c7,h7e⟩:=HI7.out.1.sliceN
      obtain ⟨A8,n8,c8,h8e⟩:=HI7.out.2.1.sliceN
      subst h7e h8e
      go_wp2
      generalize wr=wo at *
      go_loopw [13,14,15] (fun s13 s14 x wq=>∃(j:Nat) (b lw:Int),j≤n'∧x= .int .i64 j∧s13= .int .i64 b∧s14= .int .i64 lw∧ -1≤b∧b < n'∧ -1000≤lw∧lw≤1000∧Below wo.heap.size wo wq∧Hid (PickAt ltL (dcs m) (fun x=>x∈O2.drop k) j b∧(∀y,0≤b→(dcs m)[b.toNat]? =some y→lw=y.sur))) (fun _ _ x _=>n' - (intOf x).toNat)
      case atStart=>exact ⟨0,-1,0,by omega,rfl,rfl,rfl,by omega,by omega,by omega,by omega,Below.refl _ _,Lib.hid ⟨PickAt.zero _ _ _,fun y h=>by omega⟩⟩
      case round=>
       obtain ⟨j,b,lw,hj,rfl,rfl,rfl,hb0,hb1,hl0,hl1,hbq,HP⟩:=hrel
       have hbt:=below_then hb hbq hb.size
       have hBq:=hB.later hbq
       rcases Nat.lt_or_ge j n' with hjl | hjl
       ·have hjz:(j:Int) < n':=by omega
        obtain ⟨cl,hcl⟩:∃cl,m.cols[j]? =some cl:=⟨m.cols[j]'(by rw [← HCN.out];exact hjl),List.getElem?_eq_getElem _⟩
        have hxj:=dcs_at hcl
        have hij:(dcol m j cl).idx=j:=rfl
        have hsur:(dcol m j cl).sur=cl.cost - P * cl.ops.length:=by show cl.cost - m.pen * cl.ops.length=_;rw [HPN.out]
        have hsb:=sur_bd HOK.out (i:=j) (List.mem_of_getElem? hcl)
        have hop6:=HOK.out.opl (List.mem_of_getElem? hcl)
        have hcb:=HOK.out.cost cl (List.mem_of_getElem? hcl)
        have hp0:=Int.mul_nonneg (show 0≤P by rw [← HPN.out];exact HOK.out.pen0) (show (0:Int)≤cl.ops.length by omega)
        have hpm:0≤P * cl.ops.length∧P * cl.ops.length≤1000:=by rw [hsur] at hsb;omega
        obtain ⟨b',off',sb',A3,n3,c3,hA',hbl,q0,q1,q2,hD⟩:=HC.out.elem hbt hcl
        subst hA'
        have hsc:=((HI7.out.2.2.2.below hbq).at_ (seenP_at hxj)).1
        have HD:=Lib.hid hD
        have HCA:Hid (dcol m j cl∈O2.drop k↔decide ((dcol m j cl).sur < 0)=true∧inB (O2.take k) (dcol m j cl)=false):=Lib.hid (HO2.out.cand k _ (List.mem_of_getElem? hxj))
        have HJ:=Lib.hid (And.intro hxj (And.intro hij hsur))
        have hsb2: -1000≤cl.cost - P * cl.ops.length∧cl.cost - P * cl.ops.length≤1000:=by rw [← hsur];omega
        have HOL:=Lib.hid hop6
        obtain ⟨x0,x1,x2,x3,x4⟩:=hBq.five
        clear hxj hij hsur hD hcl hop6 hsb
        generalize hcc:inB (O2.take k) (dcol m j cl)=sj at *
        have HSJ:=Lib.hid hcc
        clear hcc
        go_upto_region 22 with (fail)
        have C2:=stab x2
        have C3:=stab x3
        have Q0:=stab q0
        have Q1:=stab q1
        have Q2:=stab q2
        have hS0:=below_drew' wr
        clear x0 x1 x2 x3 x4 q0 q1 q2
        refine region_seq 19 [0,1,2,3,4,5,6,7,8,9,10,11,12,13,14,15,16,17,18] (by kernel_rfl) (by kernel_rfl) ?_
        repeat ((first | (refine seq_takeP (v:=?_) rfl rfl rfl ?_ ?_;rotate_left;(· (intro _ hSw;go_simp;(try go_bits);(try with_reducible rfl)))) | (refine seq_take (v:=?_) rfl rfl rfl ?_ ?_;rotate_left;(· (intro _ hSw;go_simp;(try go_bits);(try with_reducible rfl)))) | refine seq_skip rfl rfl rfl ?_);(try simp only [Act.put,pu1,pu2,pu3,pu4,pu5,pu6]))
        refine seq_step rfl rfl (fun KR hKR=>?_)
        go_simp
        with_reducible refine (operated27_own sb' A3 n3 c3 cl.dut _ (HD.out.below hS0) (by have:=HOL.out;unfold Cl.ops at this;omega)).mono ?_
        rintro _ w5 ⟨v5,rfl,h5,hb5⟩
        obtain ⟨A5,n5,c5,rfl⟩:=h5.sliceN
        have hn5:n5=cl.ops.length:=h5.len
        subst hn5
        have hS5:=below_then hS0 hb5 hS0.size
        refine hKR.out _ _ (Or.inr hS5) ?_
        clear hKR KR
        (try simp only [Act.put,pu1,pu2,pu3,pu4,pu5,pu6])
        repeat ((first | (refine seq_takeP (v:=?_) rfl rfl rfl ?_ ?_;rotate_left;(· (intro _ hSw;go_simp;(try go_bits);(try with_reducible rfl)))) | (refine seq_take (v:=?_) rfl rfl rfl ?_ ?_;rotate_left;(· (intro _ hSw;go_simp;(try go_bits);(try with_reducible rfl)))) | refine seq_skip rfl rfl rfl ?_);(try simp only [Act.put,pu1,pu2,pu3,pu4,pu5,pu6]))
        refine seq_done ?_
        have hbq7:=below_then hbq hS5 hbq.size
        have hsc7:=cell_keep hS5 hsc
        have HJ2:=Lib.hid (HJ.out.2.2)
        clear C2 C3 Q0 Q1 Q2 hS0 hbq hb5 hS5 h5 hbt hBq hsc
        generalize hsz:cl.cost - P * cl.ops.length=sz at *
        have HSZ:Hid ((dcol m j cl).sur=sz):=Lib.hid HJ2.out
        clear hsz HJ2 hpm hcb hp0
        have fin:∀b' lw',(b'=b∧lw'=lw)∨True→True:=fun _ _ _=>trivial
        cases sj with
        | true=>
         have HNX:Hid (PickAt ltL (dcs m) (fun x=>x∈O2.drop k) (j+1) b∧(∀y,0≤b→(dcs m)[b.toNat]? =some y→lw=y.sur)):=Lib.hid ⟨HP.out.1.skip HJ.out.1 (by rw [HCA.out];simp),HP.out.2⟩
         go_wp2
         go_roundw
         case rel=>exact ⟨j+1,b,lw,by omega,by go_num,rfl,rfl,hb0,hb1,hl0,hl1,hbq7,HNX⟩
         case measure=>simp [intOf];omega
        | false=>
         by_cases hneg:sz < 0
         ·have HCJ:Hid (dcol m j cl∈O2.drop k):=Lib.hid (HCA.out.2 ⟨by rw [HSZ.out];exact decide_eq_true hneg,rfl⟩)
          have HNJ:Hid (∀y,0≤(j:Int)→(dcs m)[(j:Int).toNat]? =some y→sz=y.sur):=Lib.hid (fun y _ hy=>by rw [Int.toNat_natCast,HJ.out.1] at hy;injection hy with hy;rw [← hy];exact HSZ.out.symm)
          by_cases hbn:b= -1
          ·subst hbn
           have HNX:=Lib.hid (HP.out.1.first HJ.out.1 HJ.out.2.1 HCJ.out)
           go_wp2
           go_roundw
           case rel=>exact ⟨j+1,(j:Int),sz,by omega,by go_num,rfl,rfl,by omega,by omega,by omega,by omega,hbq7,Lib.hid ⟨HNX.out,HNJ.out⟩⟩
           case measure=>simp [intOf];omega
          ·obtain ⟨bn,rfl⟩:=Int.eq_ofNat_of_zero_le (show 0≤b by omega)
           have hbl2:bn < n':=by omega
           have hbz:¬(bn:Int) < 0:=by omega
           obtain ⟨xb,hxb⟩:∃x,(dcs m)[bn]? =some x:=⟨(dcs m)[bn]'(by rw [HDN.out];exact hbl2),List.getElem?_eq_getElem _⟩
           have HXB:=Lib.hid hxb
           have HLW:Hid (lw=xb.sur):=Lib.hid (HP.out.2 xb (by omega) (by simpa using hxb))
           clear hxb hbn
           by_cases hlt:sz < lw
           ·have HNX:=Lib.hid (HP.out.1.put ltL_ok HJ.out.1 HJ.out.2.1 HXB.out HCJ.out (by unfold ltL;rw [HSZ.out,← HLW.out];exact decide_eq_true hlt))
            go_wp2
            go_roundw
            case rel=>exact ⟨j+1,(j:Int),sz,by omega,by go_num,rfl,rfl,by omega,by omega,by omega,by omega,hbq7,Lib.hid ⟨HNX.out,HNJ.out⟩⟩
            case measure=>simp [intOf];omega
           ·have HNX:=Lib.hid (And.intro (HP.out.1.keep HJ.out.1 HJ.out.2.1 HXB.out (by unfold ltL;rw [HSZ.out,← HLW.out];exact decide_eq_false hlt)) HP.out.2)
            go_wp2
            go_roundw
            case rel=>exact ⟨j+1,(bn:Int),lw,by omega,by go_num,rfl,rfl,hb0,hb1,hl0,hl1,hbq7,HNX⟩
            case measure=>simp [intOf];omega
         ·have HNX:Hid (PickAt ltL (dcs m) (fun x=>x∈O2.drop k) (j+1) b∧(∀y,0≤b→(dcs m)[b.toNat]? =some y→lw=y.sur)):=Lib.hid ⟨HP.out.1.skip HJ.out.1 (by rw [HCA.out,HSZ.out,decide_eq_false hneg];simp),HP.out.2⟩
          go_wp2
          go_roundw
          case rel=>exact ⟨j+1,b,lw,by omega,by go_num,rfl,rfl,hb0,hb1,hl0,hl1,hbq7,HNX⟩
          case measure=>simp [intOf];omega
       ·obtain rfl:n'=j:=by omega
        have HPD:Hid ((b= -1∧O2.length≤k)∨∃x,O2[k]? =some x∧b=(x.idx:Int)∧(dcs m)[x.idx]? =some x):=Lib.hid (PickAt.done ltL_ok (dcs_ok HOK.out) HO2.out.bf HO2.out.sub (by rw [HDN.out];exact HP.out.1))
        skip
        have HI9:=Lib.hid (And.intro (HI7.out.1.below hbq) (And.intro (HI7.out.2.1.below hbq) (HI7.out.2.2.2.below hbq)))
        have HSEP:=Lib.hid HI7.out.2.2.1
        clear hb hB hbq HI7 HP
        by_cases hbn:b= -1
        ·subst hbn
         have HFIN:Hid (IntsO w.heap.size wr (.slice A7 n7 c7) (greedyP m fs)):=Lib.hid (by
          have hd:O2.take k=O2:=by
           rcases HPD.out with ⟨_,h⟩ | ⟨x,_,h,_⟩
           ·exact List.take_of_length_le h
           ·omega
          have h1:=HFL.out.1
          rw [hd] at h1
          unfold greedyP
          rw [HGL.out,h1]
          exact HI9.out.1)
         go_wp2
         go_ret2
         exact ⟨_,rfl,HFIN.out,hbt⟩
        ·obtain ⟨xp,hxo,rfl,hxd⟩:∃x,O2[k]? =some x∧b=(x.idx:Int)∧(dcs m)[x.idx]? =some x:=by
          rcases HPD.out with ⟨h,_⟩ | h
          ·exact absurd h hbn
          ·exact h
         obtain ⟨cl,hcl,hxe⟩:=dcs_get hxd
         have hpl:xp.idx < n':=by have:=(List.getElem?_eq_some_iff.1 hxd).1;rw [HDN.out] at this;exact this
         have hpz:(xp.idx:Int) < n':=by omega
         have hpn:¬(xp.idx:Int) < 0:=by omega
         have hp6:xp.idx≤6:=by omega
         have HFS:=Lib.hid (fill_step HOK.out hxo hxd hcl HFL.out.1 HFL.out.2)
         have HSE:Hid ((seenP (dcs m) O2 k).set xp.idx true=seenP (dcs m) O2 (k+1)):=Lib.hid (seenP_set (dcs_ok HOK.out) hxo)
         have HK1:Hid (k+1≤O2.length):=Lib.hid (List.getElem?_eq_some_iff.1 hxo).1
         have HYL:Hid (ys.length≤6∧(usedL m ys).length≤36):=Lib.hid (by
          have h1:=now_len HFL.out.2
          have h2:=usedL_len HOK.out ys
          rw [HDN.out] at h1
          omega)
         have HNOW:=Lib.hid HFL.out.2
         have hsl:xp.idx < (seenP (dcs m) O2 k).length:=by rw [seenP_len,HDN.out];exact hpl
         obtain ⟨y0,y1⟩:=HI9.out.2.2.at_ (List.getElem?_eq_getElem hsl)
         obtain ⟨hS1,hS2⟩:=HI9.out.2.2.set_ hsl
         rw [HSE.out] at hS1
         have hgb:=HI9.out.2.2.base
         have hbt2:=hbt.setCell (p:=⟨g2,xp.idx,none⟩) hgb (.bool true)
         have hB2:=hS2.bk hBq (by decide)
         have HI10:=Lib.hid (And.intro (HI9.out.1.but hS2 (by decide)) (And.intro (HI9.out.2.1.but hS2 (by decide)) hS1))
         have HCL:=Lib.hid hcl
         generalize (seenP (dcs m) O2 k)[xp.idx]=sv at *
         clear hbn HPD hxo hxd hcl hxe hsl hS1 hS2 HI9 hbt hBq HFL
         go_upto_region 28 with (fail)
         clear y0 y1
         generalize wr.setCell ⟨g2,xp.idx,none⟩ (.bool true)=wp at *
         obtain ⟨x0,x1,x2,x3,x4⟩:=hB2.five
         obtain ⟨b',off',sb',A3,n3,c3,hA',hbl,q0,q1,q2,hD⟩:=HC.out.elem hbt2 HCL.out
         subst hA'
         have HOL:=Lib.hid (HOK.out.opl (List.mem_of_getElem? HCL.out))
         go_wp2_with fail
         refine (operated27_own sb' A3 n3 c3 cl.dut _ hD (by have:=HOL.out;unfold Cl.ops at this;omega)).mono ?_
         rintro _ w5 ⟨v5,rfl,h5,hb5⟩
         have hB5:=hB2.later hb5
         have hbt5:=below_then hbt2 hb5 hbt2.size
         have HI11:=Lib.hid (And.intro (HI10.out.1.below hb5) (And.intro (HI10.out.2.1.below hb5) (And.intro (HI10.out.2.2.below hb5) h5.ints)))
         have HO5:Hid (IntsM w5 v5 cl.ops):=Lib.hid h5.ints
         clear x0 x1 x2 x3 x4 q0 q1 q2 hD hb5 h5 hB2 hbt2 HI10
         go_wp2_with fail
         refine (meets_any _ _ cl.ops (usedL m ys) _ HO5.out HI11.out.2.1.ints).mono ?_
         rintro _ w6 ⟨rfl,hb6⟩
         have hB6:=hB5.later hb6
         have hbt6:=below_then hbt5 hb6 hbt5.size
         have HI12:=Lib.hid (And.intro (HI11.out.1.below hb6) (And.intro (HI11.out.2.1.below hb6) (And.intro (HI11.out.2.2.1.below hb6) (HO5.out.below hb6))))
         clear hB5 hbt5 hb6 HI11 HO5
         by_cases hme:∃f∈cl.ops,f∈usedL m ys
         ·have HN:=Lib.hid (HFS.out.1 hme)
          rw [decide_eq_true hme]
          clear hme
          go_wp2
          go_roundg (gk - 1)
          case measure=>have:=HGK.out;have:=HK1.out;omega
          case rel=>exact ⟨k+1,by have:=HGK.out;have:=HK1.out;omega,hbt6,hB6,Lib.hid ⟨T,ys,z,HN.out,HNOW.out,HI12.out.1,HI12.out.2.1,HSEP.out,HI12.out.2.2.1⟩⟩
         ·have HN:=Lib.hid (HFS.out.2 hme)
          rw [decide_eq_false hme]
          clear hme
          go_wp2_with fail
          refine (place_own _ (sortI ys) (xp.idx:Int) _ HI12.out.1.ints (by omega) (by omega) (by unfold sortI;rw [sortB_length];have:=HYL.out.1;omega)).mono ?_
          rintro _ w7 ⟨v7,rfl,h7,hb7⟩
          have hB7:=hB6.later hb7
          have hbt7:=below_then hbt6 hb7 hbt6.size
          have h8:=HI12.out.2.1.below hb7
          have h9:=HI12.out.2.2.1.below hb7
          have h10:=HI12.out.2.2.2.below hb7
          obtain ⟨v8,w8,hrun,hown8,hk8,hb8,hot8,hor8⟩:=run_append_intsL 22 w7 w.heap.size (.slice A8 n8 c8) _ (usedL m ys) cl.ops h8 h10 (by have:=HOL.out;have:=HYL.out.2;omega) hbt7.size
          have hq8:∀b,(Value.slice A8 n8 c8).ownBlock=some b→b < w6.heap.size:=fun b hb=>(HI12.out.2.1.ownB b hb).2
          have h78:∀b,v7.ownBlock=some b→some b≠(Value.slice A8 n8 c8).ownBlock:=fun b hb e=>by
           have h1:=(h7.ownB b hb).1
           have h2:=hq8 b e.symm
           omega
          have hS8:=(h7.monoB hbt6.size).others hot8 h78
          have hq7:∀b,v7.ownBlock=some b→b < w7.heap.size:=fun b hb=>(h7.ownB b hb).2
          have hsep:∀b,v8.ownBlock=some b→some b≠v7.ownBlock:=fun b hb e=>by
           rcases hor8 with h | h
           ·exact h78 b e.symm (by rw [← hb,h])
           ·have h1:=h b hb
            have h2:=hq7 b e.symm
            omega
          have hB8:=hk8.bk hB7 (by decide)
          have hbt8:=hbt7.trans hb8
          have h9':=h9.but hk8 (by decide)
          have HNX:Hid (GrI w.heap.size g2 n' m O2 (fillP O1 (0,[])) (k+1) w8 v7 v8):=Lib.hid ⟨_,_,_,HN.out.1,HN.out.2.1,by rw [HN.out.2.2.2];exact hS8,by rw [HN.out.2.2.1];exact hown8,hsep,h9'⟩
          clear hown8 hk8 hb8 hot8 hor8 hq8 h78 hS8 hq7 hsep h9' h8 h9 h10 hbt7 hB7 h7 hb7 HI12 hB6 hbt6
          go_wp2_with (at_builtin;refine wpList_append_run hrun rfl rfl rfl rfl rfl ?_)
          go_wp2
          go_roundg (gk - 1)
          case measure=>have:=HGK.out;have:=HK1.out;omega
          case rel=>exact ⟨k+1,by have:=HGK.out;have:=HK1.out;omega,hbt8,hB8,HNX⟩
    ·obtain ⟨xp,hxo,rfl,hxd⟩:∃x,O1[k]? =some x∧b=(x.idx:Int)∧(dcs m)[x.idx]? =some x:=by
      rcases HPD.out with ⟨h,_⟩ | h
      ·exact absurd h hbn
      ·exact h
     obtain ⟨cl,hcl,hxe⟩:=dcs_get hxd
     have hpl:xp.idx < n':=by have:=(List.getElem?_eq_some_iff.1 hxd).1;rw [HDN.out] at this;exact this
     have hpz:(xp.idx:Int) < n':=by omega
     have hpn:¬(xp.idx:Int) < 0:=by omega
     have hp6:xp.idx≤6:=by omega
     have HFS:=Lib.hid (fill_step HOK.out hxo hxd hcl HFL.out.1 HFL.out.2)
     have HSE:Hid ((seenP (dcs m) O1 k).set xp.idx true=seenP (dcs m) O1 (k+1)):=Lib.hid (seenP_set (dcs_ok HOK.out) hxo)
     have HK1:Hid (k+1≤O1.length):=Lib.hid (List.getElem?_eq_some_iff.1 hxo).1
     have HYL:Hid (ys.length≤6∧(usedL m ys).length≤36):=Lib.hid (by
      have h1:=now_len HFL.out.2
      have h2:=usedL_len HOK.out ys
      rw [HDN.out] at h1
      omega)
     have HNOW:=Lib.hid HFL.out.2
     have hsl:xp.idx < (seenP (dcs m) O1 k).length:=by rw [seenP_len,HDN.out];exact hpl
     obtain ⟨y0,y1⟩:=HI9.out.2.2.at_ (List.getElem?_eq_getElem hsl)
     obtain ⟨hS1,hS2⟩:=HI9.out.2.2.set_ hsl
     rw [HSE.out] at hS1
     have hgb:=HI9.out.2.2.base
     have hbt2:=hbt.setCell (p:=⟨g,xp.idx,none⟩) hgb (.bool true)
     have hB2:=hS2.bk hBq (by decide)
     have HI10:=Lib.hid (And.intro (HI9.out.1.but hS2 (by decide)) (And.intro (HI9.out.2.1.but hS2 (by decide)) hS1))
     have HCL:=Lib.hid hcl
     generalize (seenP (dcs m) O1 k)[xp.idx]=sv at *
     clear hbn HPD hxo hxd hcl hxe hsl hS1 hS2 HI9 hbt hBq HFL
     go_upto_region 14 with (fail)
     clear y0 y1
     generalize wr.setCell ⟨g,xp.idx,none⟩ (.bool true)=wp at *
     obtain ⟨x0,x1,x2,x3,x4⟩:=hB2.five
     obtain ⟨b',off',sb',A3,n3,c3,hA',hbl,q0,q1,q2,hD⟩:=HC.out.elem hbt2 HCL.out
     subst hA'
     have HOL:=Lib.hid (HOK.out.opl (List.mem_of_getElem? HCL.out))
     go_wp2_with fail
     refine (operated27_own sb' A3 n3 c3 cl.dut _ hD (by have:=HOL.out;unfold Cl.ops at this;omega)).mono ?_
     rintro _ w5 ⟨v5,rfl,h5,hb5⟩
     have hB5:=hB2.later hb5
     have hbt5:=below_then hbt2 hb5 hbt2.size
     have HI11:=Lib.hid (And.intro (HI10.out.1.below hb5) (And.intro (HI10.out.2.1.below hb5) (And.intro (HI10.out.2.2.below hb5) h5.ints)))
     have HO5:Hid (IntsM w5 v5 cl.ops):=Lib.hid h5.ints
     clear x0 x1 x2 x3 x4 q0 q1 q2 hD hb5 h5 hB2 hbt2 HI10
     go_wp2_with fail
     refine (meets_any _ _ cl.ops (usedL m ys) _ HO5.out HI11.out.2.1.ints).mono ?_
     rintro _ w6 ⟨rfl,hb6⟩
     have hB6:=hB5.later hb6
     have hbt6:=below_then hbt5 hb6 hbt5.size
     have HI12:=Lib.hid (And.intro (HI11.out.1.below hb6) (And.intro (HI11.out.2.1.below hb6) (And.intro (HI11.out.2.2.1.below hb6) (HO5.out.below hb6))))
     clear hB5 hbt5 hb6 HI11 HO5
     by_cases hme:∃f∈cl.ops,f∈usedL m ys
     ·have HN:=Lib.hid (HFS.out.1 hme)
      rw [decide_eq_true hme]
      clear hme
      go_wp2
      go_roundg (gk - 1)
      case measure=>have:=HGK.out;have:=HK1.out;omega
      case rel=>exact ⟨k+1,by have:=HGK.out;have:=HK1.out;omega,hbt6,hB6,Lib.hid ⟨T,ys,z,HN.out,HNOW.out,HI12.out.1,HI12.out.2.1,HSEP.out,HI12.out.2.2.1⟩⟩
     ·have HN:=Lib.hid (HFS.out.2 hme)
      rw [decide_eq_false hme]
      clear hme
      go_wp2_with fail
      refine (place_own _ (sortI ys) (xp.idx:Int) _ HI12.out.1.ints (by omega) (by omega) (by unfold sortI;rw [sortB_length];have:=HYL.out.1;omega)).mono ?_
      rintro _ w7 ⟨v7,rfl,h7,hb7⟩
      have hB7:=hB6.later hb7
      have hbt7:=below_then hbt6 hb7 hbt6.size
      have h8:=HI12.out.2.1.below hb7
      have h9:=HI12.out.2.2.1.below hb7
      have h10:=HI12.out.2.2.2.below hb7
      obtain ⟨v8,w8,hrun,hown8,hk8,hb8,hot8,hor8⟩:=run_append_intsL 22 w7 w.heap.size (.slice A8 n8 c8) _ (usedL m ys) cl.ops h8 h10 (by have:=HOL.out;have:=HYL.out.2;omega) hbt7.size
      have hq8:∀b,(Value.slice A8 n8 c8).ownBlock=some b→b < w6.heap.size:=fun b hb=>(HI12.out.2.1.ownB b hb).2
      have h78:∀b,v7.ownBlock=some b→some b≠(Value.slice A8 n8 c8).ownBlock:=fun b hb e=>by
       have h1:=(h7.ownB b hb).1
       have h2:=hq8 b e.symm
       omega
      have hS8:=(h7.monoB hbt6.size).others hot8 h78
      have hq7:∀b,v7.ownBlock=some b→b < w7.heap.size:=fun b hb=>(h7.ownB b hb).2
      have hsep:∀b,v8.ownBlock=some b→some b≠v7.ownBlock:=fun b hb e=>by
       rcases hor8 with h | h
       ·exact h78 b e.symm (by rw [← hb,h])
       ·have h1:=h b hb
        have h2:=hq7 b e.symm
        omega
      have hB8:=hk8.bk hB7 (by decide)
      have hbt8:=hbt7.trans hb8
      have h9':=h9.but hk8 (by decide)
      have HNX:Hid (GrI w.heap.size g n' m O1 (0,[]) (k+1) w8 v7 v8):=Lib.hid ⟨_,_,_,HN.out.1,HN.out.2.1,by rw [HN.out.2.2.2];exact hS8,by rw [HN.out.2.2.1];exact hown8,hsep,h9'⟩
      clear hown8 hk8 hb8 hot8 hor8 hq8 h78 hS8 hq7 hsep h9' h8 h9 h10 hbt7 hB7 h7 hb7 HI12 hB6 hbt6
      go_wp2_with (at_builtin;refine wpList_append_run hrun rfl rfl rfl rfl rfl ?_)
      go_wp2
      go_roundg (gk - 1)
      case measure=>have:=HGK.out;have:=HK1.out;omega
      case rel=>exact ⟨k+1,by have:=HGK.out;have:=HK1.out;omega,hbt8,hB8,HNX⟩
def Pl.grE (m:Ms) (fs:List RF):Int:=if fs.length=m.cols.length then 0 else 12
def Pl.grL (m:Ms) (fs:List RF):List Int:=if fs.length=m.cols.length then greedyP m fs else []
def GrQ (m:Ms) (fs:List RF) (w:World) (e:Ending) (w':World):Prop:=∃v',e= .returned (.tuple #[v',.int .i64 (grE m fs)])∧IntsM w' v' (grL m fs)∧Below w.heap.size w w'
theorem greedy_all (v1 v2:Value) (m:Ms) (fs:List RF) (w:World) (h:MsM w v1 m) (ok:MsOK m) (h2:FrsM w v2 fs) (hv:∀f∈fs,VOK f):
 Calls Tryz.prog 14 #[v1,v2] w (GrQ m fs w):=by
 by_cases hf:fs.length=m.cols.length
 ·refine (greedy_own v1 v2 m fs w h ok h2 hf hv).mono ?_
  rintro _ w' ⟨v',rfl,h',hb⟩
  exact ⟨v',by unfold grE;rw [if_pos hf],by unfold grL;rw [if_pos hf];exact h'.ints,hb⟩
 ·have HE:Hid (grE m fs=12∧grL m fs=[]):=Lib.hid ⟨if_neg hf,if_neg hf⟩
  obtain ⟨A,n,c,A',n',c',A'',n'',c'',rfl,hR,hC,hT⟩:=id h
  obtain ⟨s1,s2,s3⟩:=RdM.len hC
  obtain ⟨B,d,rfl,hd1,hd2⟩:=h2.shape
  rw [← s1] at hf
  obtain ⟨W,hW,hsz,hX,hY,hbe⟩:=box_msv w (.int .i64 m.fl) (.slice A n c) (.int .i64 m.pen) (.slice A' n' c') (.slice A'' n'' c'') (.slice B fs.length d)
  have HM:=Lib.hid (h.below hbe)
  have HOK:=Lib.hid ok
  clear h hR hC hT ok h2 hv s1
  generalize m.fl=F at *
  generalize m.pen=P at *
  generalize fs.length=q at *
  have e1:((q:Int) !=(n':Int))=true:=by simp;omega
  clear hf
  obtain ⟨x0,x1,x2,x3,x4⟩:=hX.five
  have y0:=hY.cellAt 0 rfl
  go_enter Tryz.func14,Tryz.ntmps14
  go_wp2_with fail
  clear hW hsz x0 x1 x2 x3 x4 y0
  refine (validateMaster_ok _ m _ HM.out HOK.out).mono ?_
  rintro _ w1 ⟨rfl,hb1⟩
  have hX1:=hX.later hb1
  have hY1:=hY.later hb1
  have hbe1:=below_then hbe hb1 hbe.size
  clear hX hY hbe hb1 HM
  obtain ⟨x0,x1,x2,x3,x4⟩:=hX1.five
  have y0:=hY1.cellAt 0 rfl
  go_wp2
  go_ret2
  exact ⟨_,by rw [HE.out.1];rfl,by rw [HE.out.2];exact (IntsO.nil 0 w1).ints,hbe1⟩
theorem greedy27_all (v1 v2:Value) (m:Ms) (fs:List RF) (w:World) (h:MsM w v1 m) (ok:MsOK m) (h2:FrsM w v2 fs) (hv:∀f∈fs,VOK f):
 Calls Tryz.prog 15 #[v1,v2] w (GrQ m fs w):=by
 by_cases hf:fs.length=m.cols.length
 ·refine (greedy27_own v1 v2 m fs w h ok h2 hf hv).mono ?_
  rintro _ w' ⟨v',rfl,h',hb⟩
  exact ⟨v',by unfold grE;rw [if_pos hf],by unfold grL;rw [if_pos hf];exact h'.ints,hb⟩
 ·have HE:Hid (grE m fs=12∧grL m fs=[]):=Lib.hid ⟨if_neg hf,if_neg hf⟩
  have HVL:=Lib.hid (fun w' h' h2'=>valued27_any v1 v2 m fs w' h' ok h2')
  rw [if_neg hf] at HVL
  obtain ⟨A,n,c,A',n',c',A'',n'',c'',rfl,hR,hC,hT⟩:=id h
  obtain ⟨B,d,rfl,hd1,hd2⟩:=h2.shape
  obtain ⟨W,hW,hX,hbe⟩:=box_ms w (.int .i64 m.fl) (.slice A n c) (.int .i64 m.pen) (.slice A' n' c') (.slice A'' n'' c'')
  have HM:=Lib.hid (And.intro (h.below hbe) (h2.below hbe))
  clear h hR hC hT ok h2 hv hf
  generalize m.fl=F at *
  generalize m.pen=P at *
  obtain ⟨x0,x1,x2,x3,x4⟩:=hX.five
  go_enter Tryz.func15,Tryz.ntmps15
  go_wp2_with fail
  clear hW x0 x1 x2 x3 x4
  refine (HVL.out _ HM.out.1 HM.out.2).mono ?_
  rintro _ w1 ⟨rfl,hb1⟩
  have hbe1:=below_then hbe hb1 hbe.size
  clear hX hbe hb1 HM HVL
  go_wp2
  go_ret2
  exact ⟨_,by rw [HE.out.1];rfl,by rw [HE.out.2];exact (IntsO.nil 0 w1).ints,hbe1⟩
theorem diveGreedy_any (v1 v2:Value) (z1 z2:List Int) (N:Int) (w:World) (h1:IntsM w v1 z1) (h2:IntsM w v2 z2):
 Calls Tryz.prog 4 #[v1,v2,.int .i64 N] w fun e w'=>e= .returned (.bool true)∧Below w.heap.size w w':=by
 have H2:=Lib.hid h2
 have m15:=i64_and15 N
 have r1:0≤N % 16:=by omega
 have r2:N % 16≤15:=by omega
 clear h2
 go_enter Tryz.func4,Tryz.ntmps4
 go_wp2_with fail
 refine (master_own v1 z1 w h1).mono ?_
 rintro _ w1 ⟨vm,m,rfl,hm,ok,_,hb1⟩
 obtain ⟨A,nr,c,A',n',c',A'',n'',c'',rfl,hR,hC,hT⟩:=id hm
 obtain ⟨s1,s2,s3⟩:=RdM.len hC
 have hn6':n'≤6:=by have:=ok.ncol;omega
 have HM1:=Lib.hid hm
 have HOK:=Lib.hid ok
 clear hm ok hR hC hT s1
 generalize m.fl=F at *
 generalize m.pen=P at *
 go_upto_region 2 with (fail)
 have hbm:=below_new w1 (.cells #[.int .i64 F,.slice A nr c,.int .i64 P,.slice A' n' c',.slice A'' n'' c''] 26)
 have hX:=Bk.new w1 26 [.int .i64 F,.slice A nr c,.int .i64 P,.slice A' n' c',.slice A'' n'' c'']
 have e:(#[.int .i64 F,.slice A nr c,.int .i64 P,.slice A' n' c',.slice A'' n'' c'']:Array Value)=[.int .i64 F,.slice A nr c,.int .i64 P,.slice A' n' c',.slice A'' n'' c''].toArray:=rfl
 rw [← e] at hX
 clear e
 have HM:=Lib.hid (HM1.out.below hbm)
 have hbe:=below_then hb1 hbm hb1.size
 clear HM1 hb1 hbm
 generalize w1.alloc (.cells #[.int .i64 F,.slice A nr c,.int .i64 P,.slice A' n' c',.slice A'' n'' c''] 26)=W at *
 generalize w1.heap.size=gm at *
 generalize N % 16=y at *
 obtain ⟨x0,x1,x2,x3,x4⟩:=hX.five
 go_wp2_with fail
 refine (values_own v2 z2 _ _ (H2.out.below hbe) (by omega) (by omega)).mono ?_
 rintro _ w2 ⟨v2',fs,rfl,hfs,hfl,hvs,hb2⟩
 obtain ⟨B,d,rfl,hd1,hd2⟩:=hfs.frs.shape
 clear hfl hd1 hd2
 have hX2:=hX.later hb2
 have HM2:=Lib.hid (And.intro (HM.out.below hb2) hfs.frs)
 have HVS:=Lib.hid hvs
 have hbe2:=below_then hbe hb2 hbe.size
 clear x0 x1 x2 x3 x4 hX HM hbe hb2 hfs hvs r1 r2 m15
 generalize fs.length=q at *
 obtain ⟨x0,x1,x2,x3,x4⟩:=hX2.five
 go_wp2_with fail
 refine (greedy_all _ _ m fs _ HM2.out.1 HOK.out HM2.out.2 HVS.out).mono ?_
 rintro _ w3 ⟨v3,rfl,h3,hb3⟩
 have hX3:=hX2.later hb3
 have HM3:=Lib.hid (And.intro (HM2.out.1.below hb3) (HM2.out.2.below hb3))
 have hbe3:=below_then hbe2 hb3 hbe2.size
 have H3:=Lib.hid h3
 clear x0 x1 x2 x3 x4 hX2 HM2 hbe2 hb3 h3
 obtain ⟨x0,x1,x2,x3,x4⟩:=hX3.five
 go_wp2_with fail
 refine (greedy27_all _ _ m fs _ HM3.out.1 HOK.out HM3.out.2 HVS.out).mono ?_
 rintro _ w4 ⟨v4,rfl,h4,hb4⟩
 have hbe4:=below_then hbe3 hb4 hbe3.size
 have H4:=Lib.hid (And.intro (H3.out.below hb4) h4)
 clear x0 x1 x2 x3 x4 hX3 HM3 hbe3 hb4 H3 h4
 generalize grE m fs=ge at *
 generalize grL m fs=gl at *
 have b1:(ge==ge)=true:=by simp
 go_wp2_with fail
 refine (sameInts_any _ _ gl gl _ H4.out.1 H4.out.2).mono ?_
 rw [show decide (gl=gl)=true by simp]
 rintro _ w5 ⟨rfl,hb5⟩
 have hbe5:=below_then hbe4 hb5 hbe4.size
 go_wp2_with fail
 refine (known_any _).mono ?_
 rintro _ w6 ⟨rfl,hb6⟩
 have hbe6:=below_then hbe5 hb6 hbe5.size
 go_wp2
 go_ret
 exact ⟨rfl,hbe6⟩
end Go.Proofs.YtgdcbjligbnpgaaGreat
