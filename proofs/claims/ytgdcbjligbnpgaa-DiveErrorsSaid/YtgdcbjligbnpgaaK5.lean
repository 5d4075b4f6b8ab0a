/- Lemmas of the claim; no condition. -/
import Derived.Test.YtgdcbjligbnpgaaK4
set_option linter.all false
set_option maxRecDepth 100000
set_option maxHeartbeats 40000000
namespace Go.Proofs.Ytgdcbjligbnpgaa
open Go.RowKit
open Pl
attribute [local go_sem ↓] Go.wp_at_zero Go.wp_at_succ
theorem boxes4 (w:World) (x y x' y':Value):∃W,(((w.alloc (.cells #[x,y] 68)).alloc (.cells #[x',y'] 68)).alloc (.cells #[.bool false,.slice none 0 0] 68)).alloc (.cells #[.bool false,.slice none 0 0] 68)=W∧
 Bk W w.heap.size 68 [x,y]∧Bk W (w.heap.size+1) 68 [x',y']∧Bk W (w.heap.size+1+1) 68 [.bool false,.slice none 0 0]∧Bk W (w.heap.size+1+1+1) 68 [.bool false,.slice none 0 0]∧Below w.heap.size w W:=by
 obtain ⟨W,hW,h1,h2,h3,h4⟩:=box2 w x y x' y'
 refine ⟨_,by rw [hW],h1.alloc _,h2.alloc _,h3.alloc _,?_,h4.alloc h4.size _⟩
 have:=Bk.new W 68 [.bool false,.slice none 0 0]
 rwa [← hW,size_alloc,size_alloc,size_alloc,hW] at this
theorem Bk.far2 {w:World} {g g':Nat} {t:TypeId} {cs:List Value} (h:Bk w g t cs) (hne:g≠g') (c d:Value):Bk ((w.setCell ⟨g',0,none⟩ c).setCell ⟨g',1,none⟩ d) g t cs:=
 (h.far (p:=⟨g',0,none⟩) hne c).far (p:=⟨g',1,none⟩) hne d
theorem fin_div {w w4:World} {g g':Nat} {x y x' y' b s b' s':Value} {q r:RI} (hR:Bk w4 g 68 [x,y]) (hR':Bk w4 g' 68 [x',y']) (hne:g≠g') (dq:IntM w4 (.agg #[b,s]) q) (dr:IntM w4 (.agg #[b',s']) r) {m:Nat} (hbe:Below m w w4) (hg:m≤g) (hg':m≤g'):
 Bk ((((w4.setCell ⟨g,0,none⟩ b).setCell ⟨g,1,none⟩ s).setCell ⟨g',0,none⟩ b').setCell ⟨g',1,none⟩ s') g 68 [b,s]∧Bk ((((w4.setCell ⟨g,0,none⟩ b).setCell ⟨g,1,none⟩ s).setCell ⟨g',0,none⟩ b').setCell ⟨g',1,none⟩ s') g' 68 [b',s']∧
 IntM ((((w4.setCell ⟨g,0,none⟩ b).setCell ⟨g,1,none⟩ s).setCell ⟨g',0,none⟩ b').setCell ⟨g',1,none⟩ s') (.agg #[b,s]) q∧IntM ((((w4.setCell ⟨g,0,none⟩ b).setCell ⟨g,1,none⟩ s).setCell ⟨g',0,none⟩ b').setCell ⟨g',1,none⟩ s') (.agg #[b',s']) r∧Below m w ((((w4.setCell ⟨g,0,none⟩ b).setCell ⟨g,1,none⟩ s).setCell ⟨g',0,none⟩ b').setCell ⟨g',1,none⟩ s'):=by
 have h1:=hR.set2 b s
 have h2:Bk ((w4.setCell ⟨g,0,none⟩ b).setCell ⟨g,1,none⟩ s) g' 68 [x',y']:=(hR'.far (p:=⟨g,0,none⟩) (Ne.symm hne) b).far (p:=⟨g,1,none⟩) (Ne.symm hne) s
 have k1:=hR.keep2 (by decide) b s
 have k2:=h2.keep2 (by decide) b' s'
 exact ⟨(h1.far (p:=⟨g',0,none⟩) hne b').far (p:=⟨g',1,none⟩) hne s',h2.set2 b' s',dq.keep (k1.trans k2),dr.keep (k1.trans k2),below_set2 (below_set2 hbe hg _ _) hg' _ _⟩
theorem Bk.next {w W:World} {n:Nat} (h:W.heap.size=n) (t:TypeId) (cs:List Value) (_hb:Below w.heap.size w W):Bk (W.alloc (.cells cs.toArray t)) n t cs:=by
 have:=Bk.new W t cs
 rwa [h] at this
theorem boxF2 (w:World) (x1 x2 x3 x4 y1 y2 y3 y4:Value):∃W,(w.alloc (.cells #[x1,x2,x3,x4] 70)).alloc (.cells #[y1,y2,y3,y4] 70)=W∧W.heap.size=w.heap.size+1+1∧Bk W w.heap.size 70 [x1,x2,x3,x4]∧Bk W (w.heap.size+1) 70 [y1,y2,y3,y4]∧Below w.heap.size w W:=by
 refine ⟨_,rfl,by simp,(Bk.new w _ [x1,x2,x3,x4]).alloc _,?_,(below_new w _).alloc (by simp) _⟩
 have:=Bk.new (w.alloc (.cells #[x1,x2,x3,x4] 70)) 70 [y1,y2,y3,y4]
 rwa [size_alloc] at this
theorem boxF2s (w:World) (x1 x2 x3 x4 y1 y2 y3 y4:Value):∃W,(((w.alloc (.cells #[x1,x2,x3,x4] 70)).alloc (.cells #[y1,y2,y3,y4] 70)).alloc (.cells #[.int .i64 0,.int .i64 0] 107)).alloc (.cells #[.int .i64 0,.int .i64 0] 107)=W∧Bk W w.heap.size 70 [x1,x2,x3,x4]∧Bk W (w.heap.size+1) 70 [y1,y2,y3,y4]∧
 Bk W (w.heap.size+1+1) 107 [.int .i64 0,.int .i64 0]∧Bk W (w.heap.size+1+1+1) 107 [.int .i64 0,.int .i64 0]∧Below w.heap.size w W:=by
 obtain ⟨W,hW,hs,h1,h2,hb⟩:=boxF2 w x1 x2 x3 x4 y1 y2 y3 y4
 refine ⟨_,by rw [hW],(h1.alloc _).alloc _,(h2.alloc _).alloc _,(Bk.next hs _ _ hb).alloc _,?_,(hb.alloc hb.size _).alloc (hb.alloc hb.size _).size _⟩
 have:=Bk.new (W.alloc (.cells #[.int .i64 0,.int .i64 0] 107)) 107 [.int .i64 0,.int .i64 0]
 rwa [size_alloc,hs] at this
def SmallPost (a b:RF) (w:World) (e:Ending) (w':World):Prop:=∃(n d m k:Int) (ok:Bool),e= .returned (.tuple #[.agg #[.int .i64 n,.int .i64 d],.agg #[.int .i64 m,.int .i64 k],.bool ok])∧(ok=true→okq n d a.q∧okq m k b.q)∧Below w.heap.size w w'
theorem small_any (v1 v2:Value) (a b:RF) (w:World) (h1:FracM w v1 a) (h2:FracM w v2 b):
 Calls Try.prog 54 #[v1,v2] w (SmallPost a b w):=by
 obtain ⟨A,n,c,A',n',c',rfl,hd,hd'⟩:=h1
 obtain ⟨B,m,d,B',m',d',rfl,ke,ke'⟩:=h2
 obtain ⟨⟨neg,ds⟩,⟨neg',ds'⟩⟩:=a
 obtain ⟨⟨neh,es⟩,⟨neh',es'⟩⟩:=b
 simp only at hd hd' ke ke' ⊢
 obtain ⟨W,hW,hX,hY,hR,hR',hbe⟩:=boxF2s w (.bool neg) (.slice A n c) (.bool neg') (.slice A' n' c') (.bool neh) (.slice B m d) (.bool neh') (.slice B' m' d')
 have e1:FracM W (.agg #[.bool neg,.slice A n c,.bool neg',.slice A' n' c']) ⟨⟨neg,ds⟩,⟨neg',ds'⟩⟩:=⟨_,_,_,_,_,_,rfl,hd.below hbe,hd'.below hbe⟩
 have e2:FracM W (.agg #[.bool neh,.slice B m d,.bool neh',.slice B' m' d']) ⟨⟨neh,es⟩,⟨neh',es'⟩⟩:=⟨_,_,_,_,_,_,rfl,ke.below hbe,ke'.below hbe⟩
 obtain ⟨p1,p2,p3,p4⟩:=hX.four
 go_enter Try.func54,Try.ntmps54
 go_wp2_with fail
 clear hW
 refine (smallParts_any _ ⟨⟨neg,ds⟩,⟨neg',ds'⟩⟩ _ e1).mono ?_
 rintro e w1 ⟨x,y,ok,rfl,hq,hb1⟩
 have HQ:=Lib.hid hq
 have hY1:=hY.later hb1
 have hR1:=hR.later hb1
 have hR1':=hR'.later hb1
 have hbe1:=below_then hbe hb1 hbe.size
 have e21:=e2.below hb1
 clear hq hX hY hR hR' hbe e1 e2 hb1 p1 p2 p3 p4
 have hn1:w.heap.size+1+1≠w.heap.size+1+1+1:=by omega
 have hn2:w.heap.size+1≠w.heap.size+1+1:=by omega
 obtain ⟨c0,c1,f0,f1⟩:=hR1.two
 obtain ⟨c0',c1',f0',f1'⟩:=hR1'.two
 have hRs:=hR1.set2 (.int .i64 x) (.int .i64 y)
 have hRs':=hR1'.far2 hn1.symm (.int .i64 x) (.int .i64 y)
 have hYs:=hY1.far2 hn2 (.int .i64 x) (.int .i64 y)
 have hbs:=below_set2 hbe1 (show w.heap.size≤w.heap.size+1+1 by omega) (.int .i64 x) (.int .i64 y)
 have e22:=e21.keep (hR1.keep2 (by decide) (.int .i64 x) (.int .i64 y))
 clear hY1 hR1 hR1' hbe1 e21
 cases ok
 ·go_wp2_with fail
  clear c0 c1 f0 f1 c0' c1' f0' f1'
  generalize (w1.setCell _ _).setCell _ _=W3 at *
  obtain ⟨c0,c1,f0,f1⟩:=hRs.two
  obtain ⟨c0',c1',f0',f1'⟩:=hRs'.two
  go_region_held3 (fun w'=>(w'.cell? ⟨w.heap.size+1+1,0,none⟩=some (.int .i64 x)∧w'.cell? ⟨w.heap.size+1+1,1,none⟩=some (.int .i64 y))∧(w'.cell? ⟨w.heap.size+1+1+1,0,none⟩=some (.int .i64 0)∧w'.cell? ⟨w.heap.size+1+1+1,1,none⟩=some (.int .i64 0)))
   (first | with_reducible exact ⟨hRs.pair,hRs'.pair⟩ | with_reducible exact ⟨hRs.drew.pair,hRs'.drew.pair⟩ | with_reducible exact ⟨(hRs.set2 _ _).drew.pair,(hRs'.far2 hn1.symm _ _).drew.pair⟩ | with_reducible exact ⟨((hRs.set2 _ _).far2 hn1 _ _).drew.pair,((hRs'.far2 hn1.symm _ _).set2 _ _).drew.pair⟩)
   (fail)
  go_wp2
  refine ret_cct Try.results54 Try.underlying107 Try.underlying107 (by kernel_rfl) (by kernel_rfl) rfl rfl ((hRs.set2 _ _).far2 hn1 _ _).drew ((hRs'.far2 hn1.symm _ _).set2 _ _).drew rfl ?_
  exact ⟨_,_,_,_,_,rfl,by simp,(below_set2 (below_set2 hbs (by omega) _ _) (by omega) _ _).drew⟩
 ·have hy4:=hYs.four
  go_wp2_with fail
  clear c0 c1 f0 f1 c0' c1' f0' f1' hy4
  generalize (w1.setCell _ _).setCell _ _=W3 at *
  obtain ⟨p1,p2,p3,p4⟩:=hYs.four
  refine (smallParts_any _ ⟨⟨neh,es⟩,⟨neh',es'⟩⟩ _ e22).mono ?_
  rintro e w4 ⟨z,u,ok,rfl,hq,hb4⟩
  have HQ':=Lib.hid hq
  have hR4:=hRs.later hb4
  have hR4':=hRs'.later hb4
  have hbe4:=below_then hbs hb4 hbs.size
  clear hq hYs hRs hRs' hbs e22 hb4 p1 p2 p3 p4
  obtain ⟨c0,c1,f0,f1⟩:=hR4.two
  obtain ⟨c0',c1',f0',f1'⟩:=hR4'.two
  have hRs:=hR4.far2 hn1 (.int .i64 z) (.int .i64 u)
  have hRs':=hR4'.set2 (.int .i64 z) (.int .i64 u)
  have hbs:=below_set2 hbe4 (show w.heap.size≤w.heap.size+1+1+1 by omega) (.int .i64 z) (.int .i64 u)
  go_wp2_with fail
  clear c0 c1 f0 f1 c0' c1' f0' f1'
  generalize (w4.setCell _ _).setCell _ _=W5 at *
  obtain ⟨c0,c1,f0,f1⟩:=hRs.two
  obtain ⟨c0',c1',f0',f1'⟩:=hRs'.two
  go_region_held3 (fun w'=>(w'.cell? ⟨w.heap.size+1+1,0,none⟩=some (.int .i64 x)∧w'.cell? ⟨w.heap.size+1+1,1,none⟩=some (.int .i64 y))∧(w'.cell? ⟨w.heap.size+1+1+1,0,none⟩=some (.int .i64 z)∧w'.cell? ⟨w.heap.size+1+1+1,1,none⟩=some (.int .i64 u)))
   (first | with_reducible exact ⟨hRs.pair,hRs'.pair⟩ | with_reducible exact ⟨hRs.drew.pair,hRs'.drew.pair⟩ | with_reducible exact ⟨(hRs.set2 _ _).drew.pair,(hRs'.far2 hn1.symm _ _).drew.pair⟩ | with_reducible exact ⟨((hRs.set2 _ _).far2 hn1 _ _).drew.pair,((hRs'.far2 hn1.symm _ _).set2 _ _).drew.pair⟩)
   (fail)
  go_wp2
  refine ret_cct Try.results54 Try.underlying107 Try.underlying107 (by kernel_rfl) (by kernel_rfl) rfl rfl ((hRs.set2 _ _).far2 hn1 _ _).drew ((hRs'.far2 hn1.symm _ _).set2 _ _).drew rfl ?_
  exact ⟨_,_,_,_,ok,rfl,fun h=>⟨by simpa using HQ.out,HQ'.out h⟩,(below_set2 (below_set2 hbs (by omega) _ _) (by omega) _ _).drew⟩
namespace Pl
theorem mul_len (m n:Nat):(digs (m * n)).length≤(digs m).length+(digs n).length:=by
 apply digs_lt
 rw [Nat.pow_add]
 have h1:=digs_lt_pow m
 have h2:=digs_lt_pow n
 exact Nat.mul_lt_mul'' h1 h2
theorem val_canI (z:Int):val (canI z).ds=z.natAbs:=val_digs _
theorem RI.Sm.two {a b:RI} (h1:a.Sm) (h2:b.Sm):(digs (val a.ds)).length+(digs (val b.ds)).length≤1099511627776:=by
 unfold RI.Sm at h1 h2
 omega
theorem okq_mul {n d m k:Int} {p q:Rat} (h:okq n d p) (g:okq m k q):(-9223372036854775807≤n * m∧n * m≤9223372036854775807)∧(0 < d * k∧d * k≤9223372036854775807)∧Rat.divInt (n * m) (d * k)=p * q:=by
 obtain ⟨⟨a1,a2⟩,a3,a4,rfl⟩:=h
 obtain ⟨⟨b1,b2⟩,b3,b4,rfl⟩:=g
 refine ⟨?_,⟨Int.mul_pos a3 b3,?_⟩,(Rat.divInt_mul_divInt _ _).symm⟩
 ·exact prod_bd (by omega) (by omega) (by omega) (by omega)
 ·exact (prod_bd (by omega) (by omega) (by omega) (by omega)).2
 where
  prod_bd {x y:Int} (h1: -2147483648≤x) (h2:x≤2147483648) (h3: -2147483648≤y) (h4:y≤2147483648): -9223372036854775807≤x * y∧x * y≤9223372036854775807:=by
   have e:(x * y).natAbs≤2147483648 * 2147483648:=by rw [Int.natAbs_mul];exact Nat.mul_le_mul (by omega) (by omega)
   omega
end Pl
theorem boxF3 (w:World) (x1 x2 x3 x4 y1 y2 y3 y4:Value):∃W,((w.alloc (.cells #[x1,x2,x3,x4] 70)).alloc (.cells #[y1,y2,y3,y4] 70)).alloc (.cells #[.bool false,.slice none 0 0,.bool false,.slice none 0 0] 70)=W∧Bk W w.heap.size 70 [x1,x2,x3,x4]∧Bk W (w.heap.size+1) 70 [y1,y2,y3,y4]∧
 Bk W (w.heap.size+1+1) 70 [.bool false,.slice none 0 0,.bool false,.slice none 0 0]∧Below w.heap.size w W:=by
 obtain ⟨W,hW,hs,h1,h2,hb⟩:=boxF2 w x1 x2 x3 x4 y1 y2 y3 y4
 exact ⟨_,by rw [hW],h1.alloc _,h2.alloc _,Bk.next hs _ _ hb,hb.alloc hb.size _⟩
theorem words2 (w:World) (x y z u:Int):∃W,(w.alloc (.cells #[.int .i64 x,.int .i64 y] 107)).alloc (.cells #[.int .i64 z,.int .i64 u] 107)=W∧Bk W w.heap.size 107 [.int .i64 x,.int .i64 y]∧Bk W (w.heap.size+1) 107 [.int .i64 z,.int .i64 u]∧Below w.heap.size w W:=by
 refine ⟨_,rfl,(Bk.new w _ [.int .i64 x,.int .i64 y]).alloc _,?_,(below_new w _).alloc (by simp) _⟩
 have:=Bk.new (w.alloc (.cells #[.int .i64 x,.int .i64 y] 107)) 107 [.int .i64 z,.int .i64 u]
 rwa [size_alloc] at this
theorem rtrim_fin {w:World} {A:Option Addr} {n c k:Nat} {ds:List Nat} (h:DigM w (.slice A n c) ds) (hk:k≤n) (hz:∀i,k≤i→dg ds i=0) (hl:k=0∨dg ds (k - 1)≠0):
 DigM w (.slice A k c) (digs (val ds)):=by
 obtain ⟨h1,h2,h3,h4⟩:=h.len
 rw [digs_take h.ok (by omega) hz hl]
 exact h.take hk (by omega) (by unfold maxLen;omega)
theorem rtrim_at (A:Option Addr) (n c:Nat) (ds:List Nat) (w:World) (h:DigM w (.slice A n c) ds):
 Calls Try.prog 69 #[.slice A n c] w fun e w'=>∃k,e= .returned (.slice A k c)∧DigM w (.slice A k c) (digs (val ds))∧w=w':=by
 obtain ⟨hl,hl',hnc,hc⟩:=h.len
 go_enter Try.func69,Try.ntmps69
 go_wp2
 go_loop [3] (fun x=>∃k:Nat,k≤n∧x= .int .i64 k∧∀i,k≤i→dg ds i=0) (fun x=>(intOf x).toNat)
 case atStart=>exact ⟨n,Nat.le_refl _,rfl,fun i hi=>dg_ge (by omega)⟩
 case round=>
  obtain ⟨k,hk,rfl,hz⟩:=hrel
  have HZ:=Lib.hid hz
  clear hz
  rcases Nat.eq_zero_or_pos k with h0 | h0
  ·subst h0
   go_wp2
   go_ret
   exact ⟨_,rfl,rtrim_fin h hk HZ.out (.inl rfl),rfl⟩
  ·obtain ⟨j,rfl⟩:∃j,k=j+1:=⟨k - 1,by omega⟩
   obtain ⟨b,off,rfl,_,hcell⟩:=h.at_ (by omega)
   have hcj:=hcell j (by omega)
   clear hcell
   by_cases hd:dg ds j=0
   ·have hb:=di_beq_true hd
    have HD:=Lib.hid hd
    clear hd
    go_wp2
    go_round
    case rel=>exact ⟨j,by omega,by go_num,fun i hi=>by
     rcases Nat.eq_or_lt_of_le hi with e | e
     ·exact e▸HD.out
     ·exact HZ.out i e⟩
    case measure=>simp [intOf]
   ·have hb:=di_beq_false hd
    have HD:=Lib.hid hd
    clear hd
    go_wp2
    go_ret
    exact ⟨_,rfl,rtrim_fin h hk HZ.out (.inr (by simpa using HD.out)),rfl⟩
theorem rtrim_any (v:Value) (ds:List Nat) (w:World) (h:DigM w v ds):
 Calls Try.prog 69 #[v] w fun e w'=>∃v',e= .returned v'∧DigM w v' (digs (val ds))∧w=w':=by
 obtain ⟨A,n,c,rfl⟩:=h.shape
 exact (rtrim_at A n c ds w h).mono fun _ _ ⟨_,h1,h2,h3⟩=>⟨_,h1,h2,h3⟩
theorem make_any (neg:Bool) (v:Value) (ds:List Nat) (w:World) (h:DigM w v ds) (hs:(digs (val ds)).length≤549755813888):
 Calls Try.prog 50 #[.bool neg,v] w fun e w'=>∃v',e= .returned v'∧IntM w' v' (canI (sm neg (val ds)))∧Below w.heap.size w w':=by
 have hR:=Bk.new w 68 [.bool false,.slice none 0 0]
 have hbe:=below_new w (.cells [.bool false,.slice none 0 0].toArray 68)
 have h':=h.below hbe
 obtain ⟨i0,hi,hz0,hz1,hz2⟩:=info_parts info_u32
 have HI:=Lib.hid hi
 have HZ0:=Lib.hid hz0
 have HZ1:=Lib.hid hz1
 have HZ2:=Lib.hid hz2
 clear hi hz0 hz1 hz2
 go_enter Try.func50,Try.ntmps50
 go_wp2_with fail
 generalize w.alloc _=W at *
 refine (rtrim_any _ ds _ h').mono ?_
 rintro e w1 ⟨v1,rfl,h1,rfl⟩
 obtain ⟨A,n,c,rfl⟩:=h1.shape
 obtain ⟨kl,kl',knc,kc⟩:=h1.len
 obtain ⟨c0,c1,f0,f1⟩:=hR.two
 rcases Nat.eq_zero_or_pos n with h0 | h0
 ·have hv:val ds=0:=len_zero (by omega)
  subst h0
  have HV:=Lib.hid hv
  clear hv kl kl' hs
  go_wp2
  refine ret_cell Try.results50 Try.underlying68 (by kernel_rfl) rfl (hR.set2 _ _) rfl ?_
  exact ⟨_,rfl,by rw [HV.out,sm_zero];exact IntM.zero _,below_set2 hbe (Nat.le_refl _) _ _⟩
 ·have hv:val ds≠0:=len_pos (by omega)
  have HV:=Lib.hid hv
  have HS:=Lib.hid hs
  obtain ⟨b,off,rfl,hb1,hcell1⟩:=h1.at_ h0
  clear hv hcell1 hs c0 c1 f0 f1
  have hln:(digs (val ds)).length=n:=by omega
  have HLN:=Lib.hid hln
  clear hln kl kl' kc knc
  go_wp2_with (at_builtin;refine wpList_append_own_at _ rfl (.const (.slice none 0 0)) (.tmp 12) _ rfl w.heap.size 50 i0 _ 1 4 Try.underlying66 HI.out HZ0.out HZ1.out HZ2.out rfl (by decide) (.slice none 0 0) 0 [] rfl ?c0 ⟨b,off,none⟩ n c ((digs (val ds)).map uc) rfl ?c1 ?c2 (uc_oneCell _) ?c3 ?c4 ?c5 ?_)
  case c0=>exact World.ownsRow_nil _ _ _ _
  case c1=>simp;exact HLN.out
  case c2=>exact h1.news
  case c3=>have:=HS.out;have:=HLN.out;unfold maxLen;omega
  case c4=>have:=HS.out;have:=HLN.out;omega
  case c5=>exact hbe.size
  ·intro v' w1 hown hgrow _ _
   have dg':=own_dig (by simpa using hown) (okD_digs (val ds))
   have hR1:=hR.grown hgrow (by simp [Value.ownBlock])
   have hbe1:Below w.heap.size w w1:=hbe.grown hgrow hbe.size (fun k hk=>by simp [Value.ownBlock] at hk)
   obtain ⟨A1,n1,k1,rfl⟩:=dg'.shape
   obtain ⟨c0,c1,f0,f1⟩:=hR1.two
   clear hown hgrow
   go_wp2
   refine ret_cell Try.results50 Try.underlying68 (by kernel_rfl) rfl (hR1.set2 _ _) rfl ?_
   rw [canI_sm _ _ HV.out]
   exact fin_int hR1 ⟨_,rfl,dg'⟩ hbe1 (Nat.le_refl _)
theorem make_dig (neg:Bool) (v:Value) (n:Nat) (w:World) (h:DigM w v (digs n)) (hs:(digs n).length≤549755813888):
 Calls Try.prog 50 #[.bool neg,v] w fun e w'=>∃v',e= .returned v'∧IntM w' v' (canI (sm neg n))∧Below w.heap.size w w':=by
 have:=make_any neg v (digs n) w h (by rwa [val_digs])
 rwa [val_digs] at this
theorem canonI_any (v:Value) (a:RI) (w:World) (h:IntM w v a) (hs:(digs (val a.ds)).length≤549755813888):
 Calls Try.prog 49 #[v] w fun e w'=>∃v',e= .returned v'∧IntM w' v' (canI a.z)∧Below w.heap.size w w':=by
 obtain ⟨A,n,c,rfl,hd⟩:=h.shape
 obtain ⟨W,hW,hX,hR,hbe⟩:=box1 w (.bool a.neg) (.slice A n c)
 have hdX:=hd.below hbe
 obtain ⟨x0,x1,y0,y1⟩:=hX.two
 go_enter Try.func49,Try.ntmps49
 go_wp2_with fail
 clear hW
 refine (make_any _ _ a.ds _ hdX hs).mono ?_
 rw [← RI.z_eq]
 rintro e w1 ⟨v1,rfl,e1,hb1⟩
 obtain ⟨A1,n1,k1,rfl,_⟩:=e1.shape
 have hR1:=hR.later hb1
 obtain ⟨c0,c1,f0,f1⟩:=hR1.two
 go_wp2
 refine ret_cell Try.results49 Try.underlying68 (by kernel_rfl) rfl (hR1.set2 _ _) rfl ?_
 exact fin_int hR1 e1 (below_then hbe hb1 hbe.size) (by omega)
theorem rnegate_any (v:Value) (a:RI) (w:World) (h:IntM w v a) (hs:(digs (val a.ds)).length≤549755813888):
 Calls Try.prog 46 #[v] w fun e w'=>∃v',e= .returned v'∧IntM w' v' (canI (- a.z))∧Below w.heap.size w w':=by
 obtain ⟨A,n,c,rfl,hd⟩:=h.shape
 obtain ⟨W,hW,hX,hR,hbe⟩:=box1 w (.bool a.neg) (.slice A n c)
 have hdX:=hd.below hbe
 obtain ⟨x0,x1,y0,y1⟩:=hX.two
 go_enter Try.func46,Try.ntmps46
 go_wp2_with fail
 clear hW
 refine (make_any _ _ a.ds _ hdX hs).mono ?_
 rw [sm_not,← RI.z_eq]
 rintro e w1 ⟨v1,rfl,e1,hb1⟩
 obtain ⟨A1,n1,k1,rfl,_⟩:=e1.shape
 have hR1:=hR.later hb1
 obtain ⟨c0,c1,f0,f1⟩:=hR1.two
 go_wp2
 refine ret_cell Try.results46 Try.underlying68 (by kernel_rfl) rfl (hR1.set2 _ _) rfl ?_
 exact fin_int hR1 e1 (below_then hbe hb1 hbe.size) (by omega)
theorem rdigit_any (v:Value) (ds:List Nat) (k:Nat) (w:World) (h:DigM w v ds) (hk:(k:Int)≤9223372036854775807):
 Calls Try.prog 98 #[v,.int .i64 k] w fun e w'=>e= .returned (.int .u64 (di ds k))∧w=w':=by
 obtain ⟨A,n,c,rfl⟩:=h.shape
 obtain ⟨hl,hl',hnc,hc⟩:=h.len
 rcases Nat.lt_or_ge k n with hlt | hge
 ·obtain ⟨b,off,rfl,hb1,hcell⟩:=h.at_ (by omega)
  have hx:=hcell k hlt
  have x0:=di_nonneg ds k
  have x1:=di_le h.ok k
  clear hcell
  go_enter Try.func98,Try.ntmps98
  go_wp2
  go_ret
  exact ⟨rfl,rfl⟩
 ·have hz:di ds k=0:=by rw [di_eq,dg_ge (by omega)];rfl
  have HZ:=Lib.hid hz
  clear hz hl hl'
  go_enter Try.func98,Try.ntmps98
  go_wp2
  go_ret
  exact ⟨by rw [HZ.out];rfl,rfl⟩
theorem dig_pair (w:World) (z:Int) (h:0≤z) (h2:z≤18446744073709551615):
 ∃ds,DigM (w.alloc (.cells #[.int .u32 (z % 4294967296),.int .u32 (z / 4294967296)] 50)) (.slice (some ⟨w.heap.size,0,none⟩) 2 2) ds∧val ds=z.toNat:=by
 obtain ⟨n,rfl⟩:=Int.eq_ofNat_of_zero_le h
 refine ⟨[n % B32,n / B32],?_,?_⟩
 ·have:=DigB.dig (DigB.new w [n % B32,n / B32]) (by simp [okD,B32];omega) (c:=2) (by simp) (by simp [maxLen])
  simpa [uc,B32] using this
 ·simp only [val,B32,Int.toNat_natCast];omega
theorem rfromInt64_any (z:Int) (w:World) (h0: -9223372036854775808≤z) (h1:z≤9223372036854775807):
 Calls Try.prog 34 #[.int .i64 z] w fun e w'=>∃v',e= .returned v'∧IntM w' v' (canI z)∧Below w.heap.size w w':=by
 have hR:=Bk.new w 68 [.bool false,.slice none 0 0]
 have hbe:=below_new w (.cells [.bool false,.slice none 0 0].toArray 68)
 rcases Int.lt_or_le z 0 with hn | hn
 ·have e1:IntKind.u64.wrap z=z+18446744073709551616:=by simp [IntKind.wrap,IntKind.bits,IntKind.signed];omega
  have e2:IntKind.u64.wrap (-(z+18446744073709551616))= -z:=by simp [IntKind.wrap,IntKind.bits,IntKind.signed];omega
  obtain ⟨y,hy⟩:∃y,y= -z:=⟨_,rfl⟩
  have y0:0≤y:=by omega
  have y1:y≤18446744073709551615:=by omega
  rw [← hy] at e2
  have HY:=Lib.hid hy
  clear hy
  go_enter Try.func34,Try.ntmps34
  obtain ⟨ds,hds,hv⟩:=dig_pair (w.alloc (.cells #[.bool false,.slice none 0 0] 68)) y (by omega) (by omega)
  rw [size_alloc] at hds
  have HV:=Lib.hid hv
  have hbn:=below_new (w.alloc (.cells #[.bool false,.slice none 0 0] 68)) (.cells #[.int .u32 (y % 4294967296),.int .u32 (y / 4294967296)] 50)
  have hR1:=hR.later hbn
  have hbe1:=below_then hbe hbn hbe.size
  clear hv hbn hbe hR
  go_wp2_with fail
  generalize (w.alloc _).alloc _=W at *
  refine (make_any _ _ ds _ hds (by rw [HV.out];exact Nat.le_trans (digs_lt (k:=2) (by unfold B32;omega)) (by decide))).mono ?_
  rw [HV.out,show sm true (y).toNat=z from by have:=HY.out;simp [sm];omega]
  rintro e w2 ⟨v2,rfl,d2,hb2⟩
  obtain ⟨A,n,c,rfl,_⟩:=d2.shape
  have hR2:=hR1.later hb2
  obtain ⟨c0,c1,f0,f1⟩:=hR2.two
  go_wp2
  refine ret_cell Try.results34 Try.underlying68 (by kernel_rfl) rfl (hR2.set2 _ _) rfl ?_
  exact fin_int hR2 d2 (below_then hbe1 hb2 hbe1.size) (Nat.le_refl _)
 ·have e1:IntKind.u64.wrap z=z:=u64_in _ hn (by omega)
  go_enter Try.func34,Try.ntmps34
  obtain ⟨ds,hds,hv⟩:=dig_pair (w.alloc (.cells #[.bool false,.slice none 0 0] 68)) z (by omega) (by omega)
  rw [size_alloc] at hds
  have HV:=Lib.hid hv
  have hbn:=below_new (w.alloc (.cells #[.bool false,.slice none 0 0] 68)) (.cells #[.int .u32 (z % 4294967296),.int .u32 (z / 4294967296)] 50)
  have hR1:=hR.later hbn
  have hbe1:=below_then hbe hbn hbe.size
  clear hv hbn hbe hR
  go_wp2_with fail
  generalize (w.alloc _).alloc _=W at *
  refine (make_any _ _ ds _ hds (by rw [HV.out];exact Nat.le_trans (digs_lt (k:=2) (by unfold B32;omega)) (by decide))).mono ?_
  rw [HV.out,show sm (decide (z < 0)) (z).toNat=z from by rw [decide_eq_false (by omega)];simp [sm];omega]
  rintro e w2 ⟨v2,rfl,d2,hb2⟩
  obtain ⟨A,n,c,rfl,_⟩:=d2.shape
  have hR2:=hR1.later hb2
  obtain ⟨c0,c1,f0,f1⟩:=hR2.two
  go_wp2
  refine ret_cell Try.results34 Try.underlying68 (by kernel_rfl) rfl (hR2.set2 _ _) rfl ?_
  exact fin_int hR2 d2 (below_then hbe1 hb2 hbe1.size) (Nat.le_refl _)
theorem rcompareDigits_any (v1 v2:Value) (xs ys:List Nat) (w:World) (h1:DigM w v1 xs) (h2:DigM w v2 ys):
 Calls Try.prog 87 #[v1,v2] w fun e w'=>e= .returned (.int .i64 (cmpN (val xs) (val ys)))∧Below w.heap.size w w':=by
 go_enter Try.func87,Try.ntmps87
 go_wp2_with fail
 refine (rtrim_any _ xs _ h1).mono ?_
 rintro e w1 ⟨u1,rfl,g1,rfl⟩
 go_wp2_with fail
 refine (rtrim_any _ ys _ h2).mono ?_
 rintro e w1 ⟨u2,rfl,g2,rfl⟩
 clear h1 h2
 obtain ⟨a,ha⟩:∃a,a=val xs:=⟨_,rfl⟩
 obtain ⟨b,hb⟩:∃b,b=val ys:=⟨_,rfl⟩
 rw [← ha] at g1
 rw [← hb] at g2
 have HA:=Lib.hid ha
 have HB:=Lib.hid hb
 clear ha hb
 obtain ⟨A,l,c,rfl⟩:=g1.shape
 obtain ⟨hl,hl',hnc,hc⟩:=g1.len
 obtain ⟨A2,l2,c2,rfl⟩:=g2.shape
 obtain ⟨kl,kl',knc,kc⟩:=g2.len
 rcases Nat.lt_trichotomy l l2 with hlt | heq | hgt
 ·have e:cmpN a b= -1:=cmpN_lt (lt_of_len (by omega))
  have HE:=Lib.hid e
  clear e
  go_wp2
  go_ret
  exact ⟨by rw [← HA.out,← HB.out,HE.out];rfl,Below.refl _ _⟩
 ·subst heq
  go_wp2
  go_loopw [5] (fun x wr=>∃(z:Int) (q:Nat),-1≤z∧z < l∧x= .int .i64 z∧wr=w.drewN q∧∀i:Nat,z < i→dg (digs a) i=dg (digs b) i) (fun x _=>(intOf x+1).toNat)
  case atStart=>exact ⟨(l:Int) - 1,0,by omega,by omega,rfl,rfl,fun i hi=>by rw [dg_ge (by omega),dg_ge (by omega)]⟩
  case round=>
   obtain ⟨z,q,hk0,hk,rfl,rfl,hz⟩:=hrel
   have HZ:=Lib.hid hz
   clear hz
   rcases Int.lt_or_le z 0 with h0 | h0
   ·go_wp2
    go_ret
    exact ⟨by rw [← HA.out,← HB.out,← cmp_all (l:=l) (by omega) (by omega) hk0 h0 HZ.out];rfl,below_drewN' _ _⟩
   ·obtain ⟨j,rfl⟩:=Int.eq_ofNat_of_zero_le h0
    obtain ⟨b1,off1,rfl,_,hcell1⟩:=g1.at_ (by omega)
    obtain ⟨b2,off2,rfl,_,hcell2⟩:=g2.at_ (by omega)
    have hc1:=hcell1 j (by omega)
    have hc2:=hcell2 j (by omega)
    clear hcell1 hcell2
    rcases Nat.lt_trichotomy (dg (digs a) j) (dg (digs b) j) with g | g | g
    ·have t2:decide (di (digs a) j < di (digs b) j)=true:=by simp [di];omega
     have HG:=Lib.hid g
     clear g
     go_wp2
     go_quiet (fail)
     go_wp2
     go_ret
     exact ⟨by rw [← HA.out,← HB.out,cmp_less (l:=l) (by omega) (by omega) HZ.out HG.out];rfl,by simp only [World.drewN_drewN];exact below_drewN' _ _⟩
    ·have t1:decide (di (digs a) j < di (digs b) j)=false:=by simp [di];omega
     have t2:decide (di (digs b) j < di (digs a) j)=false:=by simp [di];omega
     have HG:=Lib.hid g
     clear g
     go_wp2
     go_quiet (fail)
     go_wp2
     go_quiet (fail)
     go_wp2
     go_roundw
     case rel=>exact ⟨(j:Int) - 1,_,by omega,by omega,rfl,rfl,fun i hi=>by
      rcases Nat.eq_or_lt_of_le (show j≤i by omega) with e | e
      ·exact e▸HG.out
      ·exact HZ.out i (by omega)⟩
     case measure=>simp [intOf]
    ·have t1:decide (di (digs a) j < di (digs b) j)=false:=by simp [di];omega
     have t2:decide (di (digs b) j < di (digs a) j)=true:=by simp [di];omega
     have HG:=Lib.hid g
     clear g
     go_wp2
     go_quiet (fail)
     go_wp2
     go_quiet (fail)
     go_wp2
     go_ret
     exact ⟨by rw [← HA.out,← HB.out,cmp_more (l:=l) (by omega) (by omega) HZ.out HG.out];rfl,by simp only [World.drewN_drewN];exact below_drewN' _ _⟩
 ·have e:cmpN a b=1:=cmpN_gt (lt_of_len (by omega))
  have HE:=Lib.hid e
  clear e
  go_wp2
  go_ret
  exact ⟨by rw [← HA.out,← HB.out,HE.out];rfl,Below.refl _ _⟩
theorem rsubDigits_own (v1 v2:Value) (xs ys:List Nat) (w:World) (h1:DigM w v1 xs) (h2:DigM w v2 ys) (hle:val ys≤val xs) (hlen:ys.length≤xs.length) (hs:xs.length≤549755813888):
 Calls Try.prog 90 #[v1,v2] w fun e w'=>∃k l,e= .returned (.slice (some ⟨w.heap.size,0,none⟩) k l)∧DigM w' (.slice (some ⟨w.heap.size,0,none⟩) k l) (digs (val xs - val ys))∧Below w.heap.size w w':=by
 have HL:=Lib.hid hle
 clear hle
 obtain ⟨A,l,c,rfl⟩:=h1.shape
 obtain ⟨hl,hl',hnc,hc⟩:=h1.len
 have hmk:=make_u32 l (by omega)
 have HX:Hid (xs.length≤l):=Lib.hid (by omega)
 have HY:Hid (ys.length≤l):=Lib.hid (by omega)
 have hm4:(l:Int)≤549755813888:=by omega
 have ok1:=h1.ok
 have ok2:=h2.ok
 clear hl hl' hlen hs
 go_enter Try.func90,Try.ntmps90
 go_wp2
 clear hmk
 go_loopw [6,7] (fun cy i wr=>∃(k:Nat) (O:List Nat) (z:Int),k≤l∧i= .int .i64 k∧cy= .int .u64 z∧0≤z∧z≤1∧l≤O.length∧O.length≤l∧DigB wr w.heap.size O∧okD O∧Below w.heap.size w wr∧
  (vt O k:Int) - z * ((B32^k:Nat):Int)=vt xs k - vt ys k) (fun _ i _=>l - (intOf i).toNat)
 case atStart=>exact ⟨0,List.replicate l 0,0,by omega,rfl,rfl,by omega,by omega,by simp,by simp,DigB.zeros w _,okD_replicate _,(Below.refl _ _).alloc (Nat.le_refl _) _,by simp [vt_zero]⟩
 case round=>
  obtain ⟨k,O,z,hk,rfl,rfl,z0,z1,hO,hO',hB,ok,hbe,heq⟩:=hrel
  have HE:=Lib.hid heq
  clear heq
  rcases Nat.lt_or_ge k l with hkl | hkl
  ·have x0:=di_nonneg xs k
   have x1:=di_le ok1 k
   have y0:=di_nonneg ys k
   have y1:=di_le ok2 k
   have ho:=hB.cell (k:=k) (by omega)
   have hf:=hB.frozen k
   go_wp2_with fail
   refine (rdigit_any _ xs k _ (h1.below hbe) (by omega)).mono ?_
   rintro e w1 ⟨rfl,rfl⟩
   go_wp2_with fail
   refine (rdigit_any _ ys k _ (h2.below hbe) (by omega)).mono ?_
   rintro e w1 ⟨rfl,rfl⟩
   obtain ⟨x,hx⟩:∃x,x=di xs k+4294967296 - di ys k - z:=⟨_,rfl⟩
   have HX2:=Lib.hid hx
   have q1:IntKind.u64.wrap (di xs k+4294967296)=di xs k+4294967296:=u64_in _ (by omega) (by omega)
   have q2:IntKind.u64.wrap (di xs k+4294967296 - di ys k)=di xs k+4294967296 - di ys k:=u64_in _ (by omega) (by omega)
   have q3:IntKind.u64.wrap (di xs k+4294967296 - di ys k - z)=x:=by rw [hx];exact u64_in _ (by omega) (by omega)
   have r0:0≤x:=by omega
   have r1:x≤8589934591:=by omega
   clear hx
   have q4:IntKind.u64.wrap (1 - x / 4294967296)=1 - x / 4294967296:=u64_in _ (by omega) (by omega)
   go_wp2
   go_roundw
   case rel=>exact ⟨k+1,O.set k (x % 4294967296).toNat,1 - x / 4294967296,by omega,by go_num,rfl,by omega,by omega,by simpa using hO,by simpa using hO',hB.setI k (by omega),okD_set ok k (by unfold B32;omega),hbe.setCell (Nat.le_refl _) _,sub_step (by omega) rfl (by omega) (by have:=HX2.out;omega) HE.out⟩
   case measure=>simp [intOf];omega
  ·obtain rfl:k=l:=by omega
   go_wp2_with fail
   refine (rtrim_at _ _ _ O _ ?_).mono ?_
   ·have:=hB.dig ok (c:=k) hO' (by unfold maxLen;omega)
    rwa [show O.length=k from by omega] at this
   rintro e w1 ⟨k',rfl,hv,rfl⟩
   go_wp2_with fail
   go_ret
   refine ⟨_,_,rfl,?_,hbe⟩
   rwa [sub_fin (show O.length=k by omega) ok z0 HX.out HY.out HL.out HE.out] at hv
theorem rmulDigits_any (v1 v2:Value) (xs ys:List Nat) (w:World) (h1:DigM w v1 xs) (h2:DigM w v2 ys) (hs:xs.length+ys.length≤1099511627776):
 Calls Try.prog 51 #[v1,v2] w fun e w'=>∃v',e= .returned v'∧DigM w' v' (digs (val xs * val ys))∧Below w.heap.size w w':=by
 obtain ⟨A,l,c,rfl⟩:=h1.shape
 obtain ⟨hl,hl',hnc,hc⟩:=h1.len
 obtain ⟨A2,l2,c2,rfl⟩:=h2.shape
 obtain ⟨kl,kl',knc,kc⟩:=h2.len
 have ok1:=h1.ok
 have ok2:=h2.ok
 have hmk:=make_u32 (l+l2) (by omega)
 push_cast at hmk
 have hm4:(l:Int)+(l2:Int)≤1099511627776:=by omega
 have HX:Hid (xs.length≤l):=Lib.hid (by omega)
 have HY:Hid (ys.length=l2):=Lib.hid (by omega)
 clear hl hl' kl kl' hs
 go_enter Try.func51,Try.ntmps51
 go_wp2
 clear hmk
 go_loopw [6] (fun i wr=>∃(k:Nat) (O:List Nat),k≤l∧i= .int .i64 k∧l+l2≤O.length∧O.length≤l+l2∧DigB wr w.heap.size O∧okD O∧Below w.heap.size w wr∧
  (val O:Int)=(vt xs k:Int) * val ys∧(∀j,k+l2≤j→dg O j=0)) (fun i _=>l - (intOf i).toNat)
 case atStart=>exact ⟨0,List.replicate (l+l2) 0,by omega,rfl,by simp,by simp,DigB.zeros w _,okD_replicate _,(Below.refl _ _).alloc (Nat.le_refl _) _,by simp [vt_zero,val_replicate],fun j _=>dg_replicate _ _⟩
 case round=>
  obtain ⟨k,O,hk,rfl,hO,hO',hB,ok,hbe,heq,hzz⟩:=hrel
  have HE:=Lib.hid heq
  have HZ:=Lib.hid hzz
  clear heq hzz
  rcases Nat.lt_or_ge k l with hkl | hkl
  ·obtain ⟨b1,off1,rfl,hb1,hcell1⟩:=h1.at_ (by omega)
   have HC1:=Lib.hid hcell1
   clear hcell1
   have x0:=di_nonneg xs k
   have x1:=di_le ok1 k
   obtain ⟨wo,hwo⟩:∃wo:World,wo=wr:=⟨_,rfl⟩
   subst hwo
   go_wp2
   go_loopw [7,8] (fun cy i wr=>∃(j:Nat) (O':List Nat) (z:Int),j≤l2∧i= .int .i64 j∧cy= .int .u64 z∧0≤z∧z≤4294967295∧l+l2≤O'.length∧O'.length≤l+l2∧DigB wr w.heap.size O'∧okD O'∧Below w.heap.size w wr∧
    (val O':Int)+z * ((B32^(k+j):Nat):Int)=(val O:Int)+di xs k * ((B32^k:Nat):Int) * vt ys j∧(∀i,k+l2≤i→dg O' i=0)) (fun _ i _=>l2 - (intOf i).toNat)
   case atStart=>exact ⟨0,O,0,by omega,rfl,rfl,by omega,by omega,hO,hO',hB,ok,hbe,by simp [vt_zero],HZ.out⟩
   case round=>
    clear hbe hB
    obtain ⟨j,O',z,hj,rfl,rfl,z0,z1,hP,hP',hB',okP,hbe',heq',hzz'⟩:=hrel
    have HE':=Lib.hid heq'
    have HZ':=Lib.hid hzz'
    clear heq' hzz'
    rcases Nat.lt_or_ge j l2 with hjl | hjl
    ·obtain ⟨b2,off2,rfl,hb2,hcell2⟩:=h2.at_ (by omega)
     have hx:=dig_in hbe' hb1 HC1.out hkl
     have hy:=dig_in hbe' hb2 hcell2 hjl
     clear hcell2
     have y0:=di_nonneg ys j
     have y1:=di_le ok2 j
     have p0:0≤di xs k * di ys j:=Int.mul_nonneg x0 y0
     have p1:di xs k * di ys j≤4294967295 * 4294967295:=Int.mul_le_mul x1 y1 y0 (by omega)
     have ho:=hB'.cell (k:=k+j) (by omega)
     have hf:=hB'.frozen (k+j)
     have o0:=di_nonneg O' (k+j)
     have o1:=di_le okP (k+j)
     have g1:IntKind.u64.wrap (di O' (k+j))=di O' (k+j):=u64_in _ o0 (by omega)
     have g2:IntKind.u64.wrap (z+di O' (k+j))=z+di O' (k+j):=u64_in _ (by omega) (by omega)
     have g3:IntKind.u64.wrap (di xs k)=di xs k:=u64_in _ x0 (by omega)
     have g4:IntKind.u64.wrap (di ys j)=di ys j:=u64_in _ y0 (by omega)
     have g5:IntKind.u64.wrap (di xs k * di ys j)=di xs k * di ys j:=u64_in _ p0 (by omega)
     have g6:IntKind.u64.wrap (z+di O' (k+j)+di xs k * di ys j)=z+di O' (k+j)+di xs k * di ys j:=u64_in _ (by omega) (by omega)
     have g7:IntKind.i64.wrap ((k:Int)+j)=(k:Int)+j:=by simp only [IntKind.wrap,IntKind.bits,IntKind.signed];simp;omega
     have g8:((k:Int)+j).toNat=k+j:=by omega
     have g9:(k:Int)+j < (l:Int)+l2:=by omega
     go_wp2
     go_quiet (fail)
     obtain ⟨T,hT⟩:∃T,T=z+di O' (k+j)+di xs k * di ys j:=⟨_,rfl⟩
     have T0:0≤T:=by omega
     have T1:T≤18446744073709551615:=by omega
     rw [← hT]
     have HT:=Lib.hid hT
     clear hT g1 g2 g3 g4 g5 g6 p0 p1
     go_wp2
     go_roundw
     case rel=>exact ⟨j+1,O'.set (k+j) (T % 4294967296).toNat,T / 4294967296,by omega,by go_num,rfl,by omega,by omega,by simpa using hP,by simpa using hP',(show DigB (wr.drewN nq) w.heap.size O' from hB').setI _ (by omega),okD_set okP _ (by unfold B32;omega),(below_drewN hbe' nq).setCell (Nat.le_refl _) _,mul_step (by omega) (by omega) (by have:=HT.out;omega) HE'.out,fun i hi=>by rw [dg_set_ne (by omega)];exact HZ'.out i hi⟩
     case measure=>simp [intOf];omega
    ·obtain rfl:j=l2:=by omega
     have ho:=hB'.cell (k:=k+j) (by omega)
     have hf:=hB'.frozen (k+j)
     go_wp2
     go_roundw
     case rel=>exact ⟨k+1,O'.set (k+j) z.toNat,by omega,by go_num,by simpa using hP,by simpa using hP',hB'.setI _ (by omega),okD_set okP _ (by unfold B32;omega),hbe'.setCell (Nat.le_refl _) _,mul_outer HE.out (mul_carry' HY.out (by omega) z0 (HZ'.out _ (Nat.le_refl _)) HE'.out),fun i hi=>by rw [dg_set_ne (by omega)];exact HZ'.out i (by omega)⟩
     case measure=>simp [intOf];omega
  ·obtain rfl:k=l:=by omega
   go_wp2_with fail
   refine (rtrim_any _ O _ ?_).mono ?_
   ·have:=hB.dig ok (c:=k+l2) hO' (by unfold maxLen;omega)
    rwa [show O.length=k+l2 from by omega] at this
   rintro e w1 ⟨v',rfl,hv,rfl⟩
   go_wp2_with fail
   go_ret
   refine ⟨_,rfl,?_,hbe⟩
   rwa [mul_fin HX.out HE.out] at hv
theorem rmul_any (v1 v2:Value) (a b:RI) (w:World) (h1:IntM w v1 a) (h2:IntM w v2 b) (hs:a.ds.length+b.ds.length≤549755813888):
 Calls Try.prog 33 #[v1,v2] w fun e w'=>∃v',e= .returned v'∧IntM w' v' (canI (a.z * b.z))∧Below w.heap.size w w':=by
 obtain ⟨A,n,c,rfl,hd⟩:=h1.shape
 obtain ⟨A',n',c',rfl,hd'⟩:=h2.shape
 obtain ⟨W,hW,hX,hY,hR,hbe⟩:=box2 w (.bool a.neg) (.slice A n c) (.bool b.neg) (.slice A' n' c')
 have d1:=hd.below hbe
 have d2:=hd'.below hbe
 have hlen:(digs (val a.ds * val b.ds)).length≤549755813888:=by
  have q1:=digs_len_le hd.ok
  have q2:=digs_len_le hd'.ok
  exact Nat.le_trans (mul_len _ _) (by omega)
 go_enter Try.func33,Try.ntmps33
 go_wp2_with fail
 clear hW
 have hn1:w.heap.size≠w.heap.size+1+1:=by omega
 have hn2:w.heap.size+1≠w.heap.size+1+1:=by omega
 go_region_held3 (fun w'=>(w'.cell? ⟨w.heap.size,0,none⟩=some (.bool a.neg)∧w'.cell? ⟨w.heap.size,1,none⟩=some (.slice A n c))∧(w'.cell? ⟨w.heap.size+1,0,none⟩=some (.bool b.neg)∧w'.cell? ⟨w.heap.size+1,1,none⟩=some (.slice A' n' c')))
  (first | with_reducible exact ⟨hX.drew.pair,hY.drew.pair⟩ | with_reducible exact ⟨(hX.drew.later hb1).pair,(hY.drew.later hb1).pair⟩ | with_reducible exact ⟨((hX.drew.later hb1).later hb2).pair,((hY.drew.later hb1).later hb2).pair⟩ | with_reducible exact ⟨((hX.drew.later hb1).later hb2).two_far hn1 _ _,((hY.drew.later hb1).later hb2).two_far hn2 _ _⟩)
  (first
   | (go_at_call 51;refine (rmulDigits_any _ _ a.ds b.ds _ (d1.keep (Keep.drew _)) (d2.keep (Keep.drew _)) (by omega)).mono ?_;rintro e w1 ⟨v1,rfl,e1,hb1⟩)
   | (go_at_call 50;refine (make_dig (a.neg !=b.neg) _ _ _ e1 hlen).mono ?_;rintro e w2 ⟨v2,rfl,e2,hb2⟩;obtain ⟨A3,n3,k3,rfl,_⟩:=e2.shape;obtain ⟨c0,c1,f0,f1⟩:=((hR.drew.later hb1).later hb2).two))
 go_wp2
 refine ret_cell Try.results33 Try.underlying68 (by kernel_rfl) rfl (((hR.drew.later hb1).later hb2).set2 _ _) rfl ?_
 rw [RI.z_eq,RI.z_eq,← sm_mul]
 exact fin_int ((hR.drew.later hb1).later hb2) e2 (below_then (below_then hbe.drew hb1 hbe.size) hb2 (Nat.le_trans hbe.size hb1.size)) (by omega)
theorem own_keep {w w':World} {base:Nat} {v:Value} {n:Nat} {xs:List Value} (h:w.ownsRow base 50 1 v n xs) (hk:Keep w w'):w'.ownsRow base 50 1 v n xs:=by
 refine ⟨h.1,?_⟩
 rcases h.2 with hn | ⟨g,cap,cur,rfl,hb,hgg,rest⟩
 ·exact .inl hn
 ·exact .inr ⟨g,cap,cur,rfl,hb,hk g _ _ hgg,rest⟩
theorem own_mono {w:World} {base base':Nat} {v:Value} {n:Nat} {xs:List Value} (h:w.ownsRow base 50 1 v n xs) (hb:base'≤base):w.ownsRow base' 50 1 v n xs:=by
 refine ⟨h.1,?_⟩
 rcases h.2 with hn | ⟨g,cap,cur,rfl,hb',rest⟩
 ·exact .inl hn
 ·exact .inr ⟨g,cap,cur,rfl,Nat.le_trans hb hb',rest⟩
def IntO (base:Nat) (w:World) (v:Value) (a:RI):Prop:=∃s,v= .agg #[.bool a.neg,s]∧w.ownsRow base 50 1 s a.ds.length (a.ds.map uc)∧okD a.ds
theorem IntO.int {base:Nat} {w:World} {v:Value} {a:RI} (h:IntO base w v a):IntM w v a:=by
 obtain ⟨s,h1,h2,h3⟩:=h
 exact ⟨s,h1,own_dig h2 h3⟩
theorem IntO.keep {base:Nat} {w w':World} {v:Value} {a:RI} (h:IntO base w v a) (hk:Keep w w'):IntO base w' v a:=by
 obtain ⟨s,h1,h2,h3⟩:=h
 exact ⟨s,h1,own_keep h2 hk,h3⟩
theorem IntO.below {base:Nat} {w w':World} {v:Value} {a:RI} (h:IntO base w v a) (hb:Below w.heap.size w w'):IntO base w' v a:=h.keep (Keep.of_below hb)
theorem IntO.mono {base base':Nat} {w:World} {v:Value} {a:RI} (h:IntO base w v a) (hb:base'≤base):IntO base' w v a:=by
 obtain ⟨s,h1,h2,h3⟩:=h
 exact ⟨s,h1,own_mono h2 hb,h3⟩
theorem IntO.zero (base:Nat) (w:World):IntO base w (.agg #[.bool false,.slice none 0 0]) (canI 0):=by
 rw [canI_zero];exact ⟨_,rfl,World.ownsRow_nil _ _ _ _,okD_nil⟩
theorem IntO.shape {base:Nat} {w:World} {v:Value} {a:RI} (h:IntO base w v a):∃A n c,v= .agg #[.bool a.neg,.slice A n c]:=by
 obtain ⟨A,n,c,hv,_⟩:=h.int.shape
 exact ⟨A,n,c,hv⟩
theorem fin_intO {w w2:World} {base m g:Nat} {x y b s:Value} {a:RI} (hR:Bk w2 g 68 [x,y]) (d:IntO base w2 (.agg #[b,s]) a) (hbe:Below m w w2) (hg:m≤g):
 ∃v',Ending.returned (.agg [b,s].toArray)= .returned v'∧IntO base ((w2.setCell ⟨g,0,none⟩ b).setCell ⟨g,1,none⟩ s) v' a∧Below m w ((w2.setCell ⟨g,0,none⟩ b).setCell ⟨g,1,none⟩ s):=
 ⟨_,rfl,d.keep (hR.keep2 (by decide) _ _),below_set2 hbe hg _ _⟩
theorem make_own (neg:Bool) (v:Value) (ds:List Nat) (w:World) (h:DigM w v ds) (hs:(digs (val ds)).length≤549755813888):
 Calls Try.prog 50 #[.bool neg,v] w fun e w'=>∃v',e= .returned v'∧IntO w.heap.size w' v' (canI (sm neg (val ds)))∧Below w.heap.size w w':=by
 have hR:=Bk.new w 68 [.bool false,.slice none 0 0]
 have hbe:=below_new w (.cells [.bool false,.slice none 0 0].toArray 68)
 have h':=h.below hbe
 obtain ⟨i0,hi,hz0,hz1,hz2⟩:=info_parts info_u32
 have HI:=Lib.hid hi
 have HZ0:=Lib.hid hz0
 have HZ1:=Lib.hid hz1
 have HZ2:=Lib.hid hz2
 clear hi hz0 hz1 hz2
 go_enter Try.func50,Try.ntmps50
 go_wp2_with fail
 generalize w.alloc _=W at *
 refine (rtrim_any _ ds _ h').mono ?_
 rintro e w1 ⟨v1,rfl,h1,rfl⟩
 obtain ⟨A,n,c,rfl⟩:=h1.shape
 obtain ⟨kl,kl',knc,kc⟩:=h1.len
 obtain ⟨c0,c1,f0,f1⟩:=hR.two
 rcases Nat.eq_zero_or_pos n with h0 | h0
 ·have hv:val ds=0:=len_zero (by omega)
  subst h0
  have HV:=Lib.hid hv
  clear hv kl kl' hs
  go_wp2
  refine ret_cell Try.results50 Try.underlying68 (by kernel_rfl) rfl (hR.set2 _ _) rfl ?_
  exact ⟨_,rfl,by rw [HV.out,sm_zero];exact IntO.zero _ _,below_set2 hbe (Nat.le_refl _) _ _⟩
 ·have hv:val ds≠0:=len_pos (by omega)
  have HV:=Lib.hid hv
  have HS:=Lib.hid hs
  obtain ⟨b,off,rfl,hb1,hcell1⟩:=h1.at_ h0
  clear hv hcell1 hs c0 c1 f0 f1
  have hln:(digs (val ds)).length=n:=by omega
  have HLN:=Lib.hid hln
  clear hln kl kl' kc knc
  go_wp2_with (at_builtin;refine wpList_append_own_at _ rfl (.const (.slice none 0 0)) (.tmp 12) _ rfl w.heap.size 50 i0 _ 1 4 Try.underlying66 HI.out HZ0.out HZ1.out HZ2.out rfl (by decide) (.slice none 0 0) 0 [] rfl ?c0 ⟨b,off,none⟩ n c ((digs (val ds)).map uc) rfl ?c1 ?c2 (uc_oneCell _) ?c3 ?c4 ?c5 ?_)
  case c0=>exact World.ownsRow_nil _ _ _ _
  case c1=>simp;exact HLN.out
  case c2=>exact h1.news
  case c3=>have:=HS.out;have:=HLN.out;unfold maxLen;omega
  case c4=>have:=HS.out;have:=HLN.out;omega
  case c5=>exact hbe.size
  ·intro v' w1 hown hgrow _ _
   have hown':w1.ownsRow w.heap.size 50 1 v' (digs (val ds)).length ((digs (val ds)).map uc):=by have:=HLN.out;simpa [this] using hown
   have dg':=own_dig hown' (okD_digs (val ds))
   have hR1:=hR.grown hgrow (by simp [Value.ownBlock])
   have hbe1:Below w.heap.size w w1:=hbe.grown hgrow hbe.size (fun k hk=>by simp [Value.ownBlock] at hk)
   obtain ⟨A1,n1,k1,rfl⟩:=dg'.shape
   obtain ⟨c0,c1,f0,f1⟩:=hR1.two
   clear hown hgrow
   go_wp2
   refine ret_cell Try.results50 Try.underlying68 (by kernel_rfl) rfl (hR1.set2 _ _) rfl ?_
   rw [canI_sm _ _ HV.out]
   exact fin_intO hR1 ⟨_,rfl,hown',okD_digs _⟩ hbe1 (Nat.le_refl _)
theorem canonI_own (v:Value) (a:RI) (w:World) (h:IntM w v a) (hs:(digs (val a.ds)).length≤549755813888):
 Calls Try.prog 49 #[v] w fun e w'=>∃v',e= .returned v'∧IntO w.heap.size w' v' (canI a.z)∧Below w.heap.size w w':=by
 obtain ⟨A,n,c,rfl,hd⟩:=h.shape
 obtain ⟨W,hW,hX,hR,hbe⟩:=box1 w (.bool a.neg) (.slice A n c)
 have hdX:=hd.below hbe
 obtain ⟨x0,x1,y0,y1⟩:=hX.two
 go_enter Try.func49,Try.ntmps49
 go_wp2_with fail
 clear hW
 refine (make_own _ _ a.ds _ hdX hs).mono ?_
 rw [← RI.z_eq]
 rintro e w1 ⟨v1,rfl,e1,hb1⟩
 obtain ⟨A1,n1,k1,rfl⟩:=e1.shape
 have hR1:=hR.later hb1
 obtain ⟨c0,c1,f0,f1⟩:=hR1.two
 go_wp2
 refine ret_cell Try.results49 Try.underlying68 (by kernel_rfl) rfl (hR1.set2 _ _) rfl ?_
 exact fin_intO hR1 (e1.mono hbe.size) (below_then hbe hb1 hbe.size) (by omega)
end Go.Proofs.Ytgdcbjligbnpgaa
