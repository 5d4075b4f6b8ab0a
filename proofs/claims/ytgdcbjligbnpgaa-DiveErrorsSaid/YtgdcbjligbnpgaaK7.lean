/- Lemmas of the claim; no condition. -/
import Derived.StillTail
import Derived.Test.YtgdcbjligbnpgaaK3
import Derived.Test.YtgdcbjligbnpgaaK6
set_option linter.all false
set_option maxRecDepth 100000
set_option maxHeartbeats 40000000
namespace Go.Proofs.Ytgdcbjligbnpgaa
open Go.RowKit
open Pl
attribute [local go_sem ↓] Go.wp_at_zero Go.wp_at_succ
theorem canI_neg (z:Int):(canI z).neg=decide (z < 0):=rfl
namespace Pl
theorem cmp_nn {x y:Int} (hx:x < 0) (hy:y < 0):cmpN y.natAbs x.natAbs=sgn (x - y):=by unfold cmpN sgn;split <;> split <;> (try split) <;> (try split) <;> omega
theorem cmp_pp {x y:Int} (hx:¬x < 0) (hy:¬y < 0):cmpN x.natAbs y.natAbs=sgn (x - y):=by unfold cmpN sgn;split <;> split <;> (try split) <;> (try split) <;> omega
end Pl
def CanAt (x y:Int) (w:World) (wx:World) (A A':Option Addr) (n c n' c':Nat):Prop:=
 Bk wx w.heap.size 68 [.bool (decide (x < 0)),.slice A n c]∧Bk wx (w.heap.size+1) 68 [.bool (decide (y < 0)),.slice A' n' c']∧DigM wx (.slice A n c) (digs x.natAbs)∧DigM wx (.slice A' n' c') (digs y.natAbs)∧Below w.heap.size w wx
theorem IntM.dig {w:World} {b:Bool} {A:Option Addr} {n c:Nat} {a:RI} (h:IntM w (.agg #[.bool b,.slice A n c]) a):DigM w (.slice A n c) a.ds∧b=a.neg:=by
 obtain ⟨s,e,d⟩:=h
 simp at e
 obtain ⟨rfl,rfl⟩:=e
 exact ⟨d,rfl⟩
theorem boxes_i (w:World) (x y x' y':Value):∃W,(w.alloc (.cells #[x,y] 68)).alloc (.cells #[x',y'] 68)=W∧Bk W w.heap.size 68 [x,y]∧Bk W (w.heap.size+1) 68 [x',y']∧Below w.heap.size w W:=boxes w x y x' y'
theorem rcompare_any (v1 v2:Value) (a b:RI) (w:World) (h1:IntM w v1 a) (h2:IntM w v2 b) (hs:(digs (val a.ds)).length≤549755813888) (hs2:(digs (val b.ds)).length≤549755813888):
 Calls Try.prog 68 #[v1,v2] w fun e w'=>e= .returned (.int .i64 (sgn (a.z - b.z)))∧Below w.heap.size w w':=by
 obtain ⟨A,n,c,rfl,hd⟩:=h1.shape
 obtain ⟨A',n',c',rfl,hd'⟩:=h2.shape
 obtain ⟨W,hW,hX,hY,hbe⟩:=boxes_i w (.bool a.neg) (.slice A n c) (.bool b.neg) (.slice A' n' c')
 have i1:=h1.below hbe
 have i2:=h2.below hbe
 have hn1:w.heap.size≠w.heap.size+1:=by omega
 have tok:True:=trivial
 obtain ⟨x0,x1,f0,f1⟩:=hX.two
 obtain ⟨y0,y1,k0,k1⟩:=hY.two
 go_enter Try.func68,Try.ntmps68
 go_wp2_with fail
 clear hW
 go_upto_region 1 with (fail)
 go_cut [] (fun wx=>∃(A A':Option Addr) (n c n' c':Nat),CanAt a.z b.z w wx A A' n c n' c')
 case first=>
  go_region_with (first
   | (go_at_call 49;have _t:=tok;refine (canonI_any _ a _ (i1.keep (Keep.drew _)) hs).mono ?_;clear tok _t;rintro e w6 ⟨v6,rfl,e6,hb6⟩;obtain ⟨A6,n6,k6,rfl,_⟩:=e6.shape;obtain ⟨y0',y1',_,_⟩:=(hY.drew.later hb6).two)
   | (go_at_call 49;refine (canonI_any _ b _ ((i2.keep (Keep.drew _)).below hb6) hs2).mono ?_;rintro e w7 ⟨v7,rfl,e7,hb7⟩;obtain ⟨A7,n7,k7,rfl,_⟩:=e7.shape;obtain ⟨c0,c1,r0,r1⟩:=((hX.drew.later hb6).later hb7).two;obtain ⟨c0',c1',r0',r1'⟩:=((hY.drew.later hb6).later hb7).two))
  all_goals
   go_wp2_with fail
   go_meet
   obtain ⟨a1,a2,a3,a4,a5⟩:=fin_div ((hX.drew.later hb6).later hb7) ((hY.drew.later hb6).later hb7) hn1 (e6.below hb7) e7 (below_then (below_then hbe.drew hb6 hbe.size) hb7 (Nat.le_trans hbe.size hb6.size)) (by omega) (by omega)
   exact ⟨A6,A7,n6,k6,n7,k7,a1,a2,a3.dig.1,a4.dig.1,a5⟩
 case rest=>
  obtain ⟨B,B',m,d,m',d',bX,bY,dX,dY,be⟩:=hcut
  clear x0 x1 f0 f1 y0 y1 k0 k1 hX hY hbe i1 i2 h1 h2 hd hd'
  obtain ⟨x0,x1,_,_⟩:=bX.two
  obtain ⟨y0,y1,_,_⟩:=bY.two
  by_cases hx:a.z < 0
  ·by_cases hy:b.z < 0
   ·have HC:=Lib.hid (cmp_nn hx hy)
    rw [decide_eq_true hx] at x0
    rw [decide_eq_true hy] at y0
    clear hx hy
    go_wp2_with fail
    refine (rcompareDigits_any _ _ _ _ _ dY dX).mono ?_
    rw [val_digs,val_digs,HC.out]
    rintro e w3 ⟨rfl,hb3⟩
    go_wp2
    go_ret
    exact ⟨rfl,below_then be hb3 be.size⟩
   ·have HC:Hid (sgn (a.z - b.z)= -1):=Lib.hid (sgn_neg (by omega))
    rw [decide_eq_true hx] at x0
    rw [decide_eq_false hy] at y0
    clear hx hy
    go_wp2
    go_ret
    exact ⟨by rw [HC.out];rfl,be⟩
  ·by_cases hy:b.z < 0
   ·have HC:Hid (sgn (a.z - b.z)=1):=Lib.hid (sgn_pos (by omega))
    rw [decide_eq_false hx] at x0
    rw [decide_eq_true hy] at y0
    clear hx hy
    go_wp2
    go_ret
    exact ⟨by rw [HC.out];rfl,be⟩
   ·have HC:=Lib.hid (cmp_pp hx hy)
    rw [decide_eq_false hx] at x0
    rw [decide_eq_false hy] at y0
    clear hx hy
    go_wp2_with fail
    refine (rcompareDigits_any _ _ _ _ _ dX dY).mono ?_
    rw [val_digs,val_digs,HC.out]
    rintro e w3 ⟨rfl,hb3⟩
    go_wp2
    go_ret
    exact ⟨rfl,below_then be hb3 be.size⟩
theorem rsign_any (v:Value) (a:RI) (w:World) (h:IntM w v a) (hs:(digs (val a.ds)).length≤549755813888):
 Calls Try.prog 45 #[v] w fun e w'=>e= .returned (.int .i64 (sgn a.z))∧Below w.heap.size w w':=by
 obtain ⟨A,n,c,rfl,hd⟩:=h.shape
 have hX:=Bk.new w 68 [.bool a.neg,.slice A n c]
 have hbe:=below_new w (.cells [.bool a.neg,.slice A n c].toArray 68)
 have h':=h.below hbe
 obtain ⟨x0,x1,_,_⟩:=hX.two
 go_enter Try.func45,Try.ntmps45
 go_wp2_with fail
 generalize w.alloc _=W at *
 refine (rcompare_any _ _ a (canI 0) _ h' (IntM.zero _) hs (by rw [val_canI,Int.natAbs_zero,digs_zero];decide)).mono ?_
 rw [canI_z,Int.sub_zero]
 rintro e w1 ⟨rfl,hb1⟩
 go_wp2
 go_ret
 exact ⟨rfl,below_then hbe hb1 hbe.size⟩
namespace Pl
theorem sm_exact {x y:Int} (hy:y≠0) (h:y∣x):sm (decide (x < 0) !=decide (y < 0)) (x.natAbs / y.natAbs)=x / y∧x.natAbs % y.natAbs=0:=by
 obtain ⟨k,rfl⟩:=h
 rw [Int.natAbs_mul,Nat.mul_div_cancel_left _ (by omega),Int.mul_ediv_cancel_left _ hy,Nat.mul_mod_right]
 refine ⟨?_,rfl⟩
 rcases Int.lt_or_gt_of_ne hy with h | h <;> rcases Int.lt_trichotomy k 0 with g | g | g
 ·have:=Int.mul_pos_of_neg_of_neg h g
  rw [decide_eq_false (by omega),decide_eq_true h];simp [sm];omega
 ·subst g;simp [sm]
 ·have:=Int.mul_neg_of_neg_of_pos h g
  rw [decide_eq_true this,decide_eq_true h];simp [sm];omega
 ·have:=Int.mul_neg_of_pos_of_neg h g
  rw [decide_eq_true this,decide_eq_false (by omega)];simp [sm];omega
 ·subst g;simp [sm]
 ·have:=Int.mul_pos h g
  rw [decide_eq_false (by omega),decide_eq_false (by omega)];simp [sm];omega
end Pl
def CanAt4 (x y:Int) (w:World) (wx:World) (A A':Option Addr) (n c n' c':Nat):Prop:=
 CanAt x y w wx A A' n c n' c'∧Bk wx (w.heap.size+1+1) 68 [.bool false,.slice none 0 0]∧Bk wx (w.heap.size+1+1+1) 68 [.bool false,.slice none 0 0]
theorem IntM.zero_len {w:World} {b:Bool} {A:Option Addr} {n c:Nat} (h:IntM w (.agg #[.bool b,.slice A n c]) (canI 0)):n=0:=by
 obtain ⟨d,_⟩:=h.dig
 have:=d.len
 rw [canI_zero] at this
 simp at this
 omega
theorem size_drew (w:World):w.drew.heap.size=w.heap.size:=rfl
theorem ext_alloc {w w':World} (h:Below w.heap.size w w') (o:Obj):Below w.heap.size w (w'.alloc o):=h.alloc h.size o
theorem ext_call {w w1 w2:World} (h:Below w.heap.size w w1) (h2:Below w1.heap.size w1 w2):Below w.heap.size w w2:=below_then h h2 h.size
theorem ext_drew {w w':World} (h:Below w.heap.size w w'):Below w.heap.size w w'.drew:=h.drew
theorem ext_set {w w':World} (h:Below w.heap.size w w') {g:Nat} (hg:w.heap.size≤g) (k:Nat) (u:Value):Below w.heap.size w (w'.setCell ⟨g,k,none⟩ u):=h.setCell hg u
theorem keep_alloc {w w':World} (h:Keep w w') (o:Obj):Keep w (w'.alloc o):=h.trans (Keep.alloc _ _)
theorem keep_call {w w1 w2:World} (h:Keep w w1) (h2:Below w1.heap.size w1 w2):Keep w w2:=h.trans (Keep.of_below h2)
theorem keep_set2 {w w':World} {g:Nat} {t:TypeId} {x y:Value} (h:Keep w w') (hb:Bk w' g t [x,y]) (ht:t≠50) (c d:Value):Keep w ((w'.setCell ⟨g,0,none⟩ c).setCell ⟨g,1,none⟩ d):=h.trans (hb.keep2 ht c d)
theorem size_ss (w:World) (a b:Addr) (u v:Value):w.heap.size=((w.setCell a u).setCell b v).heap.size:=by simp
theorem Bk.made {w:World} {g:Nat} {t:TypeId} {cs:List Value} (h:g=w.heap.size):Bk (w.alloc (.cells cs.toArray t)) g t cs:=by subst h;exact Bk.new w t cs
theorem Bk.on {w w':World} {g:Nat} {t:TypeId} {cs:List Value} (h:Bk w g t cs) (hb:Below w.heap.size w w'):Bk w' g t cs:=h.later hb
theorem rdivMod_exact (v1 v2:Value) (a b:RI) (w:World) (h1:IntM w v1 a) (h2:IntM w v2 b) (hs:(digs (val a.ds)).length≤137438953472) (hs2:(digs (val b.ds)).length≤137438953472) (hz:b.z≠0) (hdv:b.z∣a.z):
 Calls Try.prog 48 #[v1,v2] w (DivExPost (a.z / b.z) w):=by
 obtain ⟨A,n,c,rfl,hd⟩:=h1.shape
 obtain ⟨A',n',c',rfl,hd'⟩:=h2.shape
 obtain ⟨W,hW,hX,hY,hR,hR',hbe⟩:=boxes4 w (.bool a.neg) (.slice A n c) (.bool b.neg) (.slice A' n' c')
 have i1:=h1.below hbe
 have i2:=h2.below hbe
 have hn1:w.heap.size≠w.heap.size+1:=by omega
 have hn2:w.heap.size+1+1≠w.heap.size:=by omega
 have hn3:w.heap.size+1+1≠w.heap.size+1:=by omega
 have hn4:w.heap.size+1+1+1≠w.heap.size:=by omega
 have hn5:w.heap.size+1+1+1≠w.heap.size+1:=by omega
 have tok:True:=trivial
 have HS:=Lib.hid (sm_exact hz hdv)
 have HNZ:=Lib.hid hz
 have la:(digs a.z.natAbs).length≤137438953472:=by rw [z_natAbs];exact hs
 have lb:(digs b.z.natAbs).length≤137438953472:=by rw [z_natAbs];exact hs2
 obtain ⟨x0,x1,f0,f1⟩:=hX.two
 obtain ⟨y0,y1,k0,k1⟩:=hY.two
 clear hz hdv
 go_enter Try.func48,Try.ntmps48
 go_wp2_with fail
 clear hW
 go_upto_region 1 with (fail)
 go_cut [] (fun wx=>∃(A A':Option Addr) (n c n' c':Nat),CanAt4 a.z b.z w wx A A' n c n' c')
 case first=>
  go_region_with (first
   | (go_at_call 49;have _t:=tok;refine (canonI_any _ a _ (i1.keep (Keep.drew _)) (by omega)).mono ?_;clear tok _t;rintro e w6 ⟨v6,rfl,e6,hb6⟩;obtain ⟨A6,n6,k6,rfl,_⟩:=e6.shape;obtain ⟨y0',y1',_,_⟩:=(hY.drew.later hb6).two)
   | (go_at_call 49;refine (canonI_any _ b _ ((i2.keep (Keep.drew _)).below hb6) (by omega)).mono ?_;rintro e w7 ⟨v7,rfl,e7,hb7⟩;obtain ⟨A7,n7,k7,rfl,_⟩:=e7.shape;obtain ⟨c0,c1,r0,r1⟩:=((hX.drew.later hb6).later hb7).two;obtain ⟨c0',c1',r0',r1'⟩:=((hY.drew.later hb6).later hb7).two))
  all_goals
   go_wp2_with fail
   go_meet
   obtain ⟨a1,a2,a3,a4,a5⟩:=fin_div ((hX.drew.later hb6).later hb7) ((hY.drew.later hb6).later hb7) hn1 (e6.below hb7) e7 (below_then (below_then hbe.drew hb6 hbe.size) hb7 (Nat.le_trans hbe.size hb6.size)) (by omega) (by omega)
   exact ⟨A6,A7,n6,k6,n7,k7,⟨a1,a2,a3.dig.1,a4.dig.1,a5⟩,(((hR.drew.later hb6).later hb7).far2 hn2 _ _).far2 hn3 _ _,(((hR'.drew.later hb6).later hb7).far2 hn4 _ _).far2 hn5 _ _⟩
 case rest=>
  obtain ⟨B,B',m,d,m',d',⟨bX,bY,dX,dY,be⟩,bR,bR'⟩:=hcut
  clear x0 x1 f0 f1 y0 y1 k0 k1 hX hY hbe i1 i2 h1 h2 hd hd' hR hR' hs hs2
  obtain ⟨x0,x1,_,_⟩:=bX.two
  obtain ⟨y0,y1,_,_⟩:=bY.two
  obtain ⟨kl,kl',knc,kc⟩:=dY.len
  have hm0:0 < m':=by
   have:=digs_len_pos (n:=b.z.natAbs) (by have:=HNZ.out;omega)
   omega
  have hmb:((m':Int)==0)=false:=by simp;omega
  clear kl kl' knc kc
  go_wp2_with fail
  have hc:=rdivDigits_any _ _ _ _ _ dX dY (by rw [val_digs];have:=HNZ.out;omega) (by rw [val_digs];exact la) lb
  rw [val_digs,val_digs] at hc
  refine hc.mono ?_
  clear hc
  rintro e w3 ⟨v3,v4,rfl,d3,d4,hb3⟩
  rw [HS.out.2] at d4
  have bX3:=bX.later hb3
  have bY3:=bY.later hb3
  have bR3:=bR.later hb3
  have bR3':=bR'.later hb3
  have be3:=below_then be hb3 be.size
  have lq:(digs (a.z.natAbs / b.z.natAbs)).length≤549755813888:=Nat.le_trans (digs_len_mono (Nat.div_le_self _ _)) (by omega)
  have l0:(digs 0).length≤549755813888:=by rw [digs_zero];decide
  clear bX bY bR bR' be dX dY hb3 x0 x1 y0 y1 hmb
  go_wp2_with fail
  go_upto_region 5 with (fail)
  go_cut [9,10] (fun s9 s10 wx=>∃(g9 g10:Nat) (A6 A7:Option Addr) (n6 k6 n7 k7:Nat) (nb nb':Bool),s9= .pointer (some ⟨g9,0,none⟩)∧s10= .pointer (some ⟨g10,0,none⟩)∧Bk wx g9 68 [.bool nb,.slice A6 n6 k6]∧Bk wx g10 68 [.bool nb',.slice A7 n7 k7]∧IntM wx (.agg #[.bool nb,.slice A6 n6 k6]) (canI (a.z / b.z))∧IntM wx (.agg #[.bool nb',.slice A7 n7 k7]) (canI 0)∧Below w3.heap.size w3 wx∧w3.heap.size≤g9∧w3.heap.size≤g10)
  case first=>
   go_region_held3 (fun w'=>w'.cell? ⟨w.heap.size,0,none⟩=some (.bool (decide (a.z < 0)))∧w'.cell? ⟨w.heap.size+1,0,none⟩=some (.bool (decide (b.z < 0))))
    (exact ⟨(bX3.later (by (repeat (first | (with_reducible exact Below.refl _ _) | (with_reducible refine ext_alloc ?_ _) | (with_reducible refine ext_drew ?_) | (with_reducible refine ext_call ?_ hb7) | (with_reducible refine ext_call ?_ hb6) | (with_reducible refine ext_set ?_ (by first | omega | (simp;omega)) _ _))))).two.1,(bY3.later (by (repeat (first | (with_reducible exact Below.refl _ _) | (with_reducible refine ext_alloc ?_ _) | (with_reducible refine ext_drew ?_) | (with_reducible refine ext_call ?_ hb7) | (with_reducible refine ext_call ?_ hb6) | (with_reducible refine ext_set ?_ (by first | omega | (simp;omega)) _ _))))).two.1⟩)
    (first
     | (go_at_call 50;have _t:=tok;refine (make_dig _ _ _ _ (d3.below (by (repeat (first | (with_reducible exact Below.refl _ _) | (with_reducible refine ext_alloc ?_ _) | (with_reducible refine ext_drew ?_) | (with_reducible refine ext_call ?_ hb7) | (with_reducible refine ext_call ?_ hb6))))) lq).mono ?_;clear tok _t;rintro e w6 ⟨v6,rfl,e6,hb6⟩;obtain ⟨A6,n6,k6,rfl,_⟩:=e6.shape;have s6:w3.heap.size≤w6.heap.size:=(by have:=hb6.size;first | exact this | omega | (simp at this;omega));(try ((first | (with_reducible have bA:=Bk.on (Bk.made (cs:=[.bool false,.slice none 0 0]) rfl) hb6) | (with_reducible have bA:=Bk.on (Bk.drew (Bk.made (cs:=[.bool false,.slice none 0 0]) rfl)) hb6));obtain ⟨za0,za1,za2,za3⟩:=bA.two;have zal:=bA.lt;(try simp only [size_alloc,size_drew] at za0 za1 za2 za3 zal)));(try ((first | (with_reducible have bB:=Bk.on (Bk.alloc (Bk.made (cs:=[.bool false,.slice none 0 0]) rfl) _) hb6) | (with_reducible have bB:=Bk.on (Bk.drew (Bk.alloc (Bk.made (cs:=[.bool false,.slice none 0 0]) rfl) _)) hb6));obtain ⟨zb0,zb1,zb2,zb3⟩:=bB.two;have zbl:=bB.lt;(try simp only [size_alloc,size_drew] at zb0 zb1 zb2 zb3 zbl))))
     | (go_at_call 50;refine (make_dig _ _ _ _ (d4.below (by (repeat (first | (with_reducible exact Below.refl _ _) | (with_reducible refine ext_alloc ?_ _) | (with_reducible refine ext_drew ?_) | (with_reducible refine ext_call ?_ hb7) | (with_reducible refine ext_call ?_ hb6))))) l0).mono ?_;rw [sm_zero];rintro e w7 ⟨v7,rfl,e7,hb7⟩;obtain ⟨A7,n7,k7,rfl,_⟩:=e7.shape;have s7:w6.heap.size≤w7.heap.size:=(by have:=hb7.size;first | exact this | omega | (simp at this;omega));(try ((with_reducible have bC:=Bk.on (Bk.made (cs:=[.bool false,.slice none 0 0]) rfl) hb7);obtain ⟨zc0,zc1,zc2,zc3⟩:=bC.two;have zcl:=bC.lt;(try simp only [size_alloc,size_drew] at zc0 zc1 zc2 zc3 zcl)));(try ((with_reducible have bD:=Bk.on (Bk.alloc (Bk.made (cs:=[.bool false,.slice none 0 0]) rfl) _) hb7);obtain ⟨zd0,zd1,zd2,zd3⟩:=bD.two;have zdl:=bD.lt;(try simp only [size_alloc,size_drew] at zd0 zd1 zd2 zd3 zdl)));(try (have bE:=bA.on (show Below w6.heap.size w6 w7 from by (repeat (first | (with_reducible exact Below.refl _ _) | (with_reducible refine ext_alloc ?_ _) | (with_reducible refine ext_drew ?_) | (with_reducible refine ext_call ?_ hb7) | (with_reducible refine ext_call ?_ hb6))));obtain ⟨ze0,ze1,ze2,ze3⟩:=bE.two;have zel:=bE.lt;(try simp only [size_alloc,size_drew] at ze0 ze1 ze2 ze3 zel)));(try (have bF:=bB.on (show Below w6.heap.size w6 w7 from by (repeat (first | (with_reducible exact Below.refl _ _) | (with_reducible refine ext_alloc ?_ _) | (with_reducible refine ext_drew ?_) | (with_reducible refine ext_call ?_ hb7) | (with_reducible refine ext_call ?_ hb6))));obtain ⟨zf0,zf1,zf2,zf3⟩:=bF.two;have zfl:=bF.lt;(try simp only [size_alloc,size_drew] at zf0 zf1 zf2 zf3 zfl)))))
   all_goals
    go_wp2_with fail
    go_meet
    have hq:canI (a.z / b.z)=canI (sm (!decide (a.z < 0)==decide (b.z < 0)) (a.z.natAbs / b.z.natAbs)):=by rw [← HS.out.1];rfl
    rw [hq]
    clear hq
    refine ⟨_,_,A6,A7,n6,k6,n7,k7,_,_,rfl,rfl,?_,?_,e6.keep ?_,e7.keep ?_,?_,by omega,by omega⟩
    ·(repeat (first | (with_reducible exact Bk.made rfl) | (with_reducible exact Bk.made (size_alloc _ _).symm) | (with_reducible exact Bk.made (size_ss _ _ _ _ _)) | (with_reducible refine Bk.set2 (a:= .bool false) (b:= .slice none 0 0) ?_ _ _) | (with_reducible refine Bk.far2 ?_ (by first | omega | (simp;omega)) _ _) | (with_reducible refine Bk.alloc ?_ _) | (with_reducible refine Bk.drew ?_) | (with_reducible refine Bk.on ?_ hb7) | (with_reducible refine Bk.on ?_ hb6)))
    ·(repeat (first | (with_reducible exact Bk.made rfl) | (with_reducible exact Bk.made (size_alloc _ _).symm) | (with_reducible exact Bk.made (size_ss _ _ _ _ _)) | (with_reducible refine Bk.set2 (a:= .bool false) (b:= .slice none 0 0) ?_ _ _) | (with_reducible refine Bk.far2 ?_ (by first | omega | (simp;omega)) _ _) | (with_reducible refine Bk.alloc ?_ _) | (with_reducible refine Bk.drew ?_) | (with_reducible refine Bk.on ?_ hb7) | (with_reducible refine Bk.on ?_ hb6)))
    ·(repeat (first | (with_reducible exact Keep.refl _) | (with_reducible refine keep_alloc ?_ _) | (with_reducible refine keep_call ?_ hb7) | with_reducible refine keep_set2 (t:=68) (x:= .bool false) (y:= .slice none 0 0) ?_ (by (repeat (first | (with_reducible exact Bk.made rfl) | (with_reducible exact Bk.made (size_alloc _ _).symm) | (with_reducible exact Bk.made (size_ss _ _ _ _ _)) | (with_reducible refine Bk.set2 (a:= .bool false) (b:= .slice none 0 0) ?_ _ _) | (with_reducible refine Bk.far2 ?_ (by first | omega | (simp;omega)) _ _) | (with_reducible refine Bk.alloc ?_ _) | (with_reducible refine Bk.drew ?_) | (with_reducible refine Bk.on ?_ hb7) | (with_reducible refine Bk.on ?_ hb6)))) (by decide) _ _))
    ·(repeat (first | (with_reducible exact Keep.refl _) | (with_reducible refine keep_alloc ?_ _) | (with_reducible refine keep_call ?_ hb7) | with_reducible refine keep_set2 (t:=68) (x:= .bool false) (y:= .slice none 0 0) ?_ (by (repeat (first | (with_reducible exact Bk.made rfl) | (with_reducible exact Bk.made (size_alloc _ _).symm) | (with_reducible exact Bk.made (size_ss _ _ _ _ _)) | (with_reducible refine Bk.set2 (a:= .bool false) (b:= .slice none 0 0) ?_ _ _) | (with_reducible refine Bk.far2 ?_ (by first | omega | (simp;omega)) _ _) | (with_reducible refine Bk.alloc ?_ _) | (with_reducible refine Bk.drew ?_) | (with_reducible refine Bk.on ?_ hb7) | (with_reducible refine Bk.on ?_ hb6)))) (by decide) _ _))
    ·(repeat (first | (with_reducible exact Below.refl _ _) | (with_reducible refine ext_alloc ?_ _) | (with_reducible refine ext_drew ?_) | (with_reducible refine ext_call ?_ hb7) | (with_reducible refine ext_call ?_ hb6) | (with_reducible refine ext_set ?_ (by first | omega | (simp;omega)) _ _)))
  case rest=>
   obtain ⟨g9,g10,A6,A7,n6,k6,n7,k7,nb,nb',rfl,rfl,bQ,bE,iQ,iE,hb6,hg9,hg10⟩:=hcut
   have hlt:=bR3'.lt
   have hn7:=iE.zero_len
   subst hn7
   have bX4:=bX3.later hb6
   have bY4:=bY3.later hb6
   have bR4:=bR3.later hb6
   have bR4':=bR3'.later hb6
   have be4:=below_then be3 hb6 be3.size
   clear bX3 bY3 bR3 bR3' be3 hb6 d3 d4 HS
   obtain ⟨q0,q1,_,_⟩:=bQ.two
   obtain ⟨r0,r1,_,_⟩:=bE.two
   obtain ⟨c0,c1,f0,f1⟩:=bR4.two
   obtain ⟨c0',c1',f0',f1'⟩:=bR4'.two
   have hq1:w.heap.size+1+1≠g9:=by omega
   have hq2:w.heap.size+1+1≠g10:=by omega
   have hq3:w.heap.size+1+1+1≠g9:=by omega
   have hq4:w.heap.size+1+1+1≠g10:=by omega
   have hq5:w.heap.size+1+1≠w.heap.size+1+1+1:=by omega
   clear hlt hg9 hg10
   go_wp2
   go_region_held3 (fun w'=>(w'.cell? ⟨g9,0,none⟩=some (.bool nb)∧w'.cell? ⟨g9,1,none⟩=some (.slice A6 n6 k6))∧(w'.cell? ⟨g10,0,none⟩=some (.bool nb')∧w'.cell? ⟨g10,1,none⟩=some (.slice A7 0 k7)))
    (first | with_reducible exact ⟨bQ.drew.pair,bE.drew.pair⟩ | with_reducible exact ⟨(bQ.far2 (Ne.symm hq1) _ _).drew.pair,(bE.far2 (Ne.symm hq2) _ _).drew.pair⟩ | with_reducible exact ⟨((bQ.far2 (Ne.symm hq1) _ _).far2 (Ne.symm hq3) _ _).drew.pair,((bE.far2 (Ne.symm hq2) _ _).far2 (Ne.symm hq4) _ _).drew.pair⟩)
    (fail)
   go_wp2
   obtain ⟨a1,a2,a3,a4,a5⟩:=fin_div bR4.drew bR4'.drew hq5 (iQ.keep (Keep.drew _)) (iE.keep (Keep.drew _)) be4.drew (by omega) (by omega)
   refine ret_cct Try.results48 Try.underlying68 Try.underlying68 (by kernel_rfl) (by kernel_rfl) rfl rfl a1 a2 rfl ?_
   exact ⟨_,_,rfl,a3,a4,a5⟩
def FracO (base:Nat) (w:World) (v:Value) (f:RF):Prop:=FracM w v f∧∃b s b' s',v= .agg #[b,s,b',s']∧w.ownsRow base 50 1 s f.num.ds.length (f.num.ds.map uc)
theorem FracO.keep {base:Nat} {w w':World} {v:Value} {f:RF} (h:FracO base w v f) (hk:Keep w w'):FracO base w' v f:=by
 obtain ⟨h0,b,s,b',s',h1,h2⟩:=h
 exact ⟨h0.keep hk,b,s,b',s',h1,own_keep h2 hk⟩
theorem FracO.below {base:Nat} {w w':World} {v:Value} {f:RF} (h:FracO base w v f) (hb:Below w.heap.size w w'):FracO base w' v f:=h.keep (Keep.of_below hb)
theorem FracO.mono {base base':Nat} {w:World} {v:Value} {f:RF} (h:FracO base w v f) (hb:base'≤base):FracO base' w v f:=by
 obtain ⟨h0,b,s,b',s',h1,h2⟩:=h
 exact ⟨h0,b,s,b',s',h1,own_mono h2 hb⟩
theorem FracO.mk {base:Nat} {w:World} {b b' s s':Value} {x y:RI} (h1:IntO base w (.agg #[b,s]) x) (h2:IntM w (.agg #[b',s']) y):FracO base w (.agg #[b,s,b',s']) ⟨x,y⟩:=by
 obtain ⟨A,n,c,e,d⟩:=h1.int.shape
 obtain ⟨A',n',c',e',d'⟩:=h2.shape
 simp at e e'
 obtain ⟨rfl,rfl⟩:=e
 obtain ⟨rfl,rfl⟩:=e'
 obtain ⟨t,e,o,_⟩:=h1
 simp at e
 subst e
 exact ⟨⟨_,_,_,_,_,_,rfl,d,d'⟩,_,_,_,_,rfl,o⟩
theorem fin_fracO {w w2:World} {base m g:Nat} {x y z u b s b' s':Value} {a:RF} (hR:Bk w2 g 70 [x,y,z,u]) (d:FracO base w2 (.agg #[b,s,b',s']) a) (hbe:Below m w w2) (hg:m≤g):
 ∃v',Ending.returned (.agg [b,s,b',s'].toArray)= .returned v'∧FracO base ((((w2.setCell ⟨g,0,none⟩ b).setCell ⟨g,1,none⟩ s).setCell ⟨g,2,none⟩ b').setCell ⟨g,3,none⟩ s') v' a∧Below m w ((((w2.setCell ⟨g,0,none⟩ b).setCell ⟨g,1,none⟩ s).setCell ⟨g,2,none⟩ b').setCell ⟨g,3,none⟩ s'):=
 ⟨_,rfl,d.keep (hR.keep4 (by decide) _ _ _ _),below_set4 hbe hg _ _ _ _⟩
namespace Pl
theorem canF_zero:canF 0=⟨canI 0,canI 1⟩:=by
 unfold canF
 rfl
theorem gcd_z (x y:RI):Nat.gcd (val x.ds) (val y.ds)=Int.gcd x.z y.z:=by
 unfold Int.gcd
 rw [z_natAbs,z_natAbs]
end Pl
def NewAt (a b:RI) (w:World) (x y:RI) (wx:World) (B B':Option Addr) (m d m' d':Nat):Prop:=
 Bk wx w.heap.size 68 [.bool x.neg,.slice B m d]∧Bk wx (w.heap.size+1) 68 [.bool y.neg,.slice B' m' d']∧Bk wx (w.heap.size+1+1) 70 [.bool false,.slice none 0 0,.bool false,.slice none 0 0]∧Below w.heap.size w wx∧
 IntM wx (.agg #[.bool x.neg,.slice B m d]) x∧IntM wx (.agg #[.bool y.neg,.slice B' m' d']) y∧0 < y.z∧Rat.divInt x.z y.z=Rat.divInt a.z b.z∧(digs (val x.ds)).length≤137438953472∧(digs (val y.ds)).length≤137438953472
theorem rnew_own (v1 v2:Value) (a b:RI) (w:World) (h1:IntM w v1 a) (h2:IntM w v2 b) (hs:(digs (val a.ds)).length≤137438953472) (hs2:(digs (val b.ds)).length≤137438953472):
 Calls Try.prog 32 #[v1,v2] w fun e w'=>∃v',e= .returned v'∧FracO w.heap.size w' v' (canF (Rat.divInt a.z b.z))∧Below w.heap.size w w':=by
 obtain ⟨A,n,c,rfl,hd⟩:=h1.shape
 obtain ⟨A',n',c',rfl,hd'⟩:=h2.shape
 obtain ⟨W,hW,hX,hX',hR,hbe⟩:=boxR w (.bool a.neg) (.slice A n c) (.bool b.neg) (.slice A' n' c')
 have e1:=h1.below hbe
 have e2:=h2.below hbe
 clear hd hd' h1 h2
 go_enter Try.func32,Try.ntmps32
 go_wp2_with fail
 clear hW
 refine (rfromInt64_any 1 _ (by omega) (by omega)).mono ?_
 rintro e w0 ⟨v0,rfl,iO,hb0⟩
 obtain ⟨A0,n0,k0,rfl,_⟩:=iO.shape
 have bO:=Bk.new w0 68 [.bool (canI 1).neg,.slice A0 n0 k0]
 have bn:=below_new w0 (.cells [.bool (canI 1).neg,.slice A0 n0 k0].toArray 68)
 have hb0':=below_then hb0 bn hb0.size
 have hX0:=hX.later hb0'
 have hX0':=hX'.later hb0'
 have hR0:=hR.later hb0'
 have hbe0:=below_then hbe hb0' hbe.size
 have e10:=e1.below hb0'
 have e20:=e2.below hb0'
 have iO0:=iO.below bn
 obtain ⟨y0,y1,_,_⟩:=hX0'.two
 clear hX hX' hR hbe e1 e2 hb0 hb0' bn iO
 generalize hO1:canI 1=ONE at *
 have HONE:=Lib.hid hO1
 clear hO1
 go_wp2_with fail
 generalize w0.alloc _=W0 at *
 refine (rsign_any _ b _ e20 (by omega)).mono ?_
 rintro e w1 ⟨rfl,hb1⟩
 have hX1:=hX0.later hb1
 have hX1':=hX0'.later hb1
 have hR1:=hR0.later hb1
 have bO1:=bO.later hb1
 have iO1:=iO0.below hb1
 have hbe1:=below_then hbe0 hb1 hbe0.size
 have e11:=e10.below hb1
 have e21:=e20.below hb1
 clear hX0 hX0' hR0 hbe0 e10 e20 hb1 y0 y1 bO iO0
 have zero_end:∀(W:World),Bk W (w.heap.size+1+1) 70 [.bool false,.slice none 0 0,.bool false,.slice none 0 0]→IntM W (.agg #[.bool ONE.neg,.slice A0 n0 k0]) ONE→Below w.heap.size w W→Rat.divInt a.z b.z=0→
  ∃v',Ending.returned (.agg [.bool false,.slice none 0 0,.bool ONE.neg,.slice A0 n0 k0].toArray)= .returned v'∧FracO w.heap.size ((((W.setCell ⟨w.heap.size+1+1,0,none⟩ (.bool false)).setCell ⟨w.heap.size+1+1,1,none⟩ (.slice none 0 0)).setCell ⟨w.heap.size+1+1,2,none⟩ (.bool ONE.neg)).setCell ⟨w.heap.size+1+1,3,none⟩ (.slice A0 n0 k0)) v' (canF (Rat.divInt a.z b.z))∧Below w.heap.size w ((((W.setCell ⟨w.heap.size+1+1,0,none⟩ (.bool false)).setCell ⟨w.heap.size+1+1,1,none⟩ (.slice none 0 0)).setCell ⟨w.heap.size+1+1,2,none⟩ (.bool ONE.neg)).setCell ⟨w.heap.size+1+1,3,none⟩ (.slice A0 n0 k0)):=by
  intro W hR hI hb hz
  refine fin_fracO hR ?_ hb (by omega)
  rw [hz,canF_zero,HONE.out]
  exact FracO.mk (IntO.zero _ _) hI
 have HZE:=Lib.hid zero_end
 clear zero_end
 by_cases hbz:b.z=0
 ·have hsb:sgn b.z=0:=by rw [hbz,sgn_zero]
  have HZ:Hid (Rat.divInt a.z b.z=0):=Lib.hid (by rw [hbz,Rat.divInt_zero])
  clear hbz
  obtain ⟨o0,o1,_,_⟩:=bO1.two
  obtain ⟨c0,c1,c2,c3⟩:=hR1.four
  obtain ⟨f0,f1,f2,f3⟩:=hR1.fourF
  go_wp2
  refine ret_cell Try.results32 Try.underlying70 (by kernel_rfl) rfl (hR1.set4 _ _ _ _) rfl ?_
  exact HZE.out _ hR1 iO1 hbe1 HZ.out
 ·have hsb:(sgn b.z==0)=false:=by unfold sgn;split;rfl;rfl
  have HB:=Lib.hid hbz
  clear hbz
  obtain ⟨x0,x1,_,_⟩:=hX1.two
  go_wp2_with fail
  refine (rsign_any _ a _ e11 (by omega)).mono ?_
  rintro e w2 ⟨rfl,hb2⟩
  have hX2:=hX1.later hb2
  have hX2':=hX1'.later hb2
  have hR2:=hR1.later hb2
  have bO2:=bO1.later hb2
  have iO2:=iO1.below hb2
  have hbe2:=below_then hbe1 hb2 hbe1.size
  have e12:=e11.below hb2
  have e22:=e21.below hb2
  clear hX1 hX1' hR1 hbe1 e11 e21 hb2 bO1 iO1 x0 x1
  by_cases haz:a.z=0
  ·have hsa:sgn a.z=0:=by rw [haz,sgn_zero]
   have HZ:Hid (Rat.divInt a.z b.z=0):=Lib.hid (by rw [haz,Rat.zero_divInt])
   clear haz
   obtain ⟨o0,o1,_,_⟩:=bO2.two
   obtain ⟨c0,c1,c2,c3⟩:=hR2.four
   obtain ⟨f0,f1,f2,f3⟩:=hR2.fourF
   go_wp2
   refine ret_cell Try.results32 Try.underlying70 (by kernel_rfl) rfl (hR2.set4 _ _ _ _) rfl ?_
   exact HZE.out _ hR2 iO2 hbe2 HZ.out
  ·have hsa:(sgn a.z==0)=false:=by unfold sgn;split;rfl;rfl
   have HA:=Lib.hid haz
   clear haz bO2 iO2 HZE HONE
   obtain ⟨y0,y1,_,_⟩:=hX2'.two
   go_wp2_with fail
   refine (rsign_any _ b _ e22 (by omega)).mono ?_
   rintro e w3 ⟨rfl,hb3⟩
   have hX3:=hX2.later hb3
   have hX3':=hX2'.later hb3
   have hR3:=hR2.later hb3
   have hbe3:=below_then hbe2 hb3 hbe2.size
   have e13:=e12.below hb3
   have e23:=e22.below hb3
   clear hX2 hX2' hR2 hbe2 e12 e22 hb3 y0 y1 hsb hsa
   have tok:True:=trivial
   go_upto_if 26 with (fail)
   go_cut [2,3] (fun s2 s3 wx=>s2= .pointer (some ⟨w.heap.size,0,none⟩)∧s3= .pointer (some ⟨w.heap.size+1,0,none⟩)∧∃(x y:RI) (B B':Option Addr) (m d m' d':Nat),NewAt a b w x y wx B B' m d m' d')
   case first=>
    rcases Int.lt_or_le b.z 0 with hz | hz
    ·have HN:=Lib.hid hz
     have hsg:sgn b.z= -1:=sgn_neg hz
     have hn1:w.heap.size≠w.heap.size+1:=by omega
     have hn2:w.heap.size+1+1≠w.heap.size:=by omega
     have hn3:w.heap.size+1+1≠w.heap.size+1:=by omega
     clear hz
     obtain ⟨x0,x1,f0,f1⟩:=hX3.two
     obtain ⟨y0,y1,k0,k1⟩:=hX3'.two
     go_wp2_with fail
     clear hsg
     go_region_with (first
      | (go_at_call 46;have _t:=tok;refine (rnegate_any _ a _ (e13.keep (Keep.drew _)) (by omega)).mono ?_;clear tok _t;rintro e w6 ⟨v6,rfl,e6,hb6⟩;obtain ⟨A6,n6,k6,rfl,_⟩:=e6.shape;obtain ⟨y0',y1',_,_⟩:=(hX3'.drew.later hb6).two)
      | (go_at_call 46;refine (rnegate_any _ b _ ((e23.keep (Keep.drew _)).below hb6) (by omega)).mono ?_;rintro e w7 ⟨v7,rfl,e7,hb7⟩;obtain ⟨A7,n7,k7,rfl,_⟩:=e7.shape;obtain ⟨c0,c1,r0,r1⟩:=((hX3.drew.later hb6).later hb7).two;obtain ⟨c0',c1',r0',r1'⟩:=((hX3'.drew.later hb6).later hb7).two))
     all_goals
      go_wp2_with fail
      go_meet
      obtain ⟨a1,a2,a3,a4,a5⟩:=fin_div ((hX3.drew.later hb6).later hb7) ((hX3'.drew.later hb6).later hb7) hn1 (e6.below hb7) e7 (below_then (below_then hbe3.drew hb6 hbe3.size) hb7 (Nat.le_trans hbe3.size hb6.size)) (by omega) (by omega)
      refine ⟨rfl,rfl,_,_,A6,A7,n6,k6,n7,k7,a1,a2,((((hR3.drew.later hb6).later hb7).far2 hn2 _ _).far2 hn3 _ _),a5,a3,a4,?_,?_,?_,?_⟩
      ·rw [canI_z];have:=HN.out;omega
      ·rw [canI_z,canI_z,Rat.neg_divInt_neg]
      ·simp only [canI,val_digs,Int.natAbs_neg,z_natAbs];exact hs
      ·simp only [canI,val_digs,Int.natAbs_neg,z_natAbs];exact hs2
    ·have hz':0 < b.z:=by have:=HB.out;omega
     have hsg:sgn b.z=1:=sgn_pos hz'
     have HZ:=Lib.hid hz'
     clear hz hz'
     go_wp2_with fail
     go_meet
     exact ⟨rfl,rfl,a,b,A,A',n,c,n',c',hX3,hX3',hR3,hbe3,e13,e23,HZ.out,rfl,hs,hs2⟩
   case rest=>
    obtain ⟨rfl,rfl,x,y,B,B',m,d,m',d',hX4,hX4',hR4,hbe4,e14,e24,hy,hxy,hl1,hl2⟩:=hcut
    have HZ:=Lib.hid hy
    have HXY:=Lib.hid hxy
    clear hy hxy hX3 hX3' hR3 hbe3 e13 e23 hs hs2 tok
    obtain ⟨x0,x1,_,_⟩:=hX4.two
    obtain ⟨y0,y1,_,_⟩:=hX4'.two
    go_wp2_with fail
    refine (rgcd_any _ _ x y _ e14 e24 hl1 hl2).mono ?_
    rw [gcd_z]
    rintro e w6 ⟨v6,rfl,e6,hb6⟩
    obtain ⟨A6,n6,k6,rfl,_⟩:=e6.shape
    have bX:=hX4.later hb6
    have bY:=hX4'.later hb6
    have bR:=hR4.later hb6
    have be6:=below_then hbe4 hb6 hbe4.size
    have i1:=e14.below hb6
    have i2:=e24.below hb6
    clear hX4 hX4' hR4 hbe4 e14 e24 hb6 x0 x1 y0 y1
    have gz:(canI (Int.gcd (RI.z x) (RI.z y):Nat)).z=(Int.gcd (RI.z x) (RI.z y):Nat):=canI_z _
    have gs:(digs (val (canI (Int.gcd (RI.z x) (RI.z y):Nat)).ds)).length≤137438953472:=by
     rw [show val (canI (Int.gcd (RI.z x) (RI.z y):Nat)).ds=Int.gcd (RI.z x) (RI.z y) from by simp [canI,val_digs]]
     refine Nat.le_trans (digs_len_mono (Nat.le_of_dvd ?_ (show Int.gcd (RI.z x) (RI.z y)∣val (RI.ds y) from by rw [← z_natAbs];exact Int.gcd_dvd_natAbs_right ..))) hl2
     have:=HZ.out
     have:=z_natAbs y
     omega
    generalize canI (Int.gcd (RI.z x) (RI.z y):Nat)=G at *
    have GZ:=Lib.hid gz
    clear gz
    have hG0:G.z≠0:=by
     rw [GZ.out]
     have:=Int.gcd_pos_of_ne_zero_right (RI.z x) (show RI.z y≠0 by have:=HZ.out;omega)
     omega
    have HG0:=Lib.hid hG0
    clear hG0
    have bG:=Bk.new w6 68 [.bool G.neg,.slice A6 n6 k6]
    have bn:=below_new w6 (.cells [.bool G.neg,.slice A6 n6 k6].toArray 68)
    have cX:=bX.later bn
    have cY:=bY.later bn
    have cR:=bR.later bn
    have be7:=below_then be6 bn be6.size
    have j1:=i1.below bn
    have j2:=i2.below bn
    have j3:=e6.below bn
    obtain ⟨x0,x1,_,_⟩:=cX.two
    obtain ⟨y0,y1,_,_⟩:=cY.two
    obtain ⟨g0,g1,_,_⟩:=bG.two
    clear bX bY bR be6 i1 i2 e6 bn
    go_wp2_with fail
    generalize w6.alloc _=W7 at *
    refine (rdivMod_exact _ _ x G _ j1 j3 hl1 gs HG0.out (by rw [GZ.out];exact Int.gcd_dvd_left ..)).mono ?_
    rintro e w8 ⟨q,r,rfl,dq,dr,hb8⟩
    obtain ⟨A8,n8,k8,rfl,_⟩:=dq.shape
    obtain ⟨A9,n9,k9,rfl,_⟩:=dr.shape
    have bX:=cX.later hb8
    have bY:=cY.later hb8
    have bR:=cR.later hb8
    have bG8:=bG.later hb8
    have be8:=below_then be7 hb8 be7.size
    have i2:=j2.below hb8
    have i3:=j3.below hb8
    clear cX cY cR be7 j1 j2 j3 bG hb8 x0 x1 y0 y1 g0 g1
    have ls1:(digs (val (canI (RI.z x / G.z)).ds)).length≤137438953472:=by
     rw [val_canI]
     refine Nat.le_trans (digs_len_mono (Int.natAbs_ediv_le_natAbs ..)) ?_
     rw [z_natAbs];exact hl1
    generalize canI 0=R1 at *
    generalize hQ1:canI ((RI.z x) / G.z)=Q1 at *
    have HQ1:=Lib.hid hQ1
    clear hQ1
    have bQ:=(Bk.new w8 68 [.bool Q1.neg,.slice A8 n8 k8]).alloc (.cells #[.bool R1.neg,.slice A9 n9 k9] 68)
    have bn:=(below_new w8 (.cells [.bool Q1.neg,.slice A8 n8 k8].toArray 68)).alloc (by simp) (.cells #[.bool R1.neg,.slice A9 n9 k9] 68)
    have cX:=bX.later bn
    have cY:=bY.later bn
    have cR:=bR.later bn
    have cG:=bG8.later bn
    have be9:=below_then be8 bn be8.size
    have j2:=i2.below bn
    have j3:=i3.below bn
    have j4:=dq.below bn
    obtain ⟨y0,y1,_,_⟩:=cY.two
    obtain ⟨g0,g1,_,_⟩:=cG.two
    obtain ⟨q0,q1,_,_⟩:=bQ.two
    clear bX bY bR bG8 be8 i2 i3 dq dr bn
    go_wp2_with fail
    generalize (w8.alloc _).alloc _=W9 at *
    refine (rdivMod_exact _ _ y G _ j2 j3 hl2 gs HG0.out (by rw [GZ.out];exact Int.gcd_dvd_right ..)).mono ?_
    rintro e w10 ⟨q',r',rfl,dq,dr,hb10⟩
    obtain ⟨A10,n10,k10,rfl,_⟩:=dq.shape
    obtain ⟨A11,n11,k11,rfl,_⟩:=dr.shape
    have bR:=cR.later hb10
    have bQ10:=bQ.later hb10
    have be10:=below_then be9 hb10 be9.size
    have i4:=j4.below hb10
    clear cX cY cR cG be9 j2 j3 j4 bQ hb10 y0 y1 g0 g1 q0 q1
    have ls2:(digs (val (canI (RI.z y / G.z)).ds)).length≤137438953472:=by
     rw [val_canI]
     refine Nat.le_trans (digs_len_mono (Int.natAbs_ediv_le_natAbs ..)) ?_
     rw [z_natAbs];exact hl2
    generalize canI 0=R2 at *
    generalize hQ2:canI ((RI.z y) / G.z)=Q2 at *
    have HQ2:=Lib.hid hQ2
    clear hQ2
    have bD:=(Bk.new w10 68 [.bool Q2.neg,.slice A10 n10 k10]).alloc (.cells #[.bool R2.neg,.slice A11 n11 k11] 68)
    have bn:=(below_new w10 (.cells [.bool Q2.neg,.slice A10 n10 k10].toArray 68)).alloc (by simp) (.cells #[.bool R2.neg,.slice A11 n11 k11] 68)
    have cR:=bR.later bn
    have cQ:=bQ10.later bn
    have be11:=below_then be10 bn be10.size
    have j4:=i4.below bn
    have j5:=dq.below bn
    clear bR bQ10 be10 i4 dq dr bn
    have hk1:w8.heap.size≠w.heap.size+1+1:=cQ.ne_of cR (by decide)
    have hk2:w10.heap.size≠w.heap.size+1+1:=bD.ne_of cR (by decide)
    have tok:True:=trivial
    go_wp2_with fail
    generalize (w10.alloc _).alloc _=W11 at *
    go_region_held3 (fun w'=>(w'.cell? ⟨w8.heap.size,0,none⟩=some (.bool Q1.neg)∧w'.cell? ⟨w8.heap.size,1,none⟩=some (.slice A8 n8 k8))∧(w'.cell? ⟨w10.heap.size,0,none⟩=some (.bool Q2.neg)∧w'.cell? ⟨w10.heap.size,1,none⟩=some (.slice A10 n10 k10)))
     (first | with_reducible exact ⟨cQ.drew.pair,bD.drew.pair⟩ | with_reducible exact ⟨(cQ.drew.later hb6).pair,(bD.drew.later hb6).pair⟩ | with_reducible exact ⟨((cQ.drew.later hb6).later hb7).pair,((bD.drew.later hb6).later hb7).pair⟩ | with_reducible exact ⟨(((cQ.drew.later hb6).later hb7).far4 hk1 _ _ _ _).pair,(((bD.drew.later hb6).later hb7).far4 hk2 _ _ _ _).pair⟩)
     (first
      | (go_at_call 49;have _t:=tok;refine (canonI_own _ Q1 _ (j4.keep (Keep.drew _)) (by omega)).mono ?_;clear tok _t;rintro e w6 ⟨v6,rfl,e6,hb6⟩;obtain ⟨A6,n6,k6,rfl⟩:=e6.shape)
      | (go_at_call 49;refine (canonI_own _ Q2 _ ((j5.keep (Keep.drew _)).below hb6) (by omega)).mono ?_;rintro e w7 ⟨v7,rfl,e7,hb7⟩;obtain ⟨A7,n7,k7,rfl⟩:=e7.shape;obtain ⟨c0,c1,c2,c3⟩:=((cR.drew.later hb6).later hb7).four;obtain ⟨f0,f1,f2,f3⟩:=((cR.drew.later hb6).later hb7).fourF))
    go_wp2
    refine ret_cell Try.results32 Try.underlying70 (by kernel_rfl) rfl (((cR.drew.later hb6).later hb7).set4 _ _ _ _) rfl ?_
    have bb0:=below_then be11.drew hb6 be11.size
    have hq1:canI (RI.z Q1)=Q1:=by rw [← HQ1.out,canI_z]
    have hq2:canI (RI.z Q2)=Q2:=by rw [← HQ2.out,canI_z]
    rw [← HXY.out,canF_words HZ.out,Int.gcd_comm,← GZ.out,HQ1.out,HQ2.out]
    rw [hq1] at e6 ⊢
    rw [hq2] at e7 ⊢
    exact fin_fracO ((cR.drew.later hb6).later hb7) (FracO.mk ((e6.below hb7).mono be11.size) e7.int) (below_then bb0 hb7 bb0.size) (by omega)
namespace Pl
def RF.Sh (f:RF):Prop:=(digs (val f.num.ds)).length≤34359738368∧(digs (val f.den.ds)).length≤34359738368
def Sz (k:Nat) (q:Rat):Prop:=(digs q.num.natAbs).length≤k∧(digs q.den).length≤k
theorem Sz.sh {k:Nat} {q:Rat} (h:Sz k q) (hk:k≤34359738368):(canF q).Sh:=by
 unfold RF.Sh canF
 simp only [val_canI]
 exact ⟨Nat.le_trans h.1 hk,Nat.le_trans h.2 hk⟩
theorem RF.Sh.sm {f:RF} (h:f.Sh):f.Sm:=by
 unfold RF.Sh at h
 unfold RF.Sm RI.Sm
 omega
theorem Sz_divInt {a b:Int} {k:Nat} (h1:(digs a.natAbs).length≤k) (h2:(digs b.natAbs).length≤k) (hk:1≤k):Sz k (Rat.divInt a b):=by
 unfold Sz
 rw [Rat.num_divInt,Rat.den_divInt]
 constructor
 ·refine Nat.le_trans (digs_len_mono ?_) h1
  refine Nat.le_trans (Int.natAbs_ediv_le_natAbs ..) ?_
  rw [Int.natAbs_mul]
  have:b.sign.natAbs≤1:=by rw [Int.natAbs_sign];split <;> omega
  exact Nat.le_trans (Nat.mul_le_mul_right _ this) (by omega)
 ·split
  ·exact Nat.le_trans (digs_lt (k:=1) (by unfold B32;omega)) hk
  ·exact Nat.le_trans (digs_len_mono (Nat.div_le_self _ _)) h2
theorem RF.Sh.sz {f:RF} (h:f.Sh):Sz 34359738368 f.q:=Sz_divInt (by rw [z_natAbs];exact h.1) (by rw [z_natAbs];exact h.2) (by decide)
theorem Sz_pos {k:Nat} {q:Rat} (h:Sz k q):1≤k:=by
 have:=h.2
 have:=digs_len_pos (n:=q.den) q.den_pos
 omega
theorem div_eq (p q:Rat):Rat.divInt (p.num * q.den) (p.den * q.num)=p / q:=by
 conv=>rhs;rw [← Rat.num_divInt_den p,← Rat.num_divInt_den q]
 rw [Rat.div_def,Rat.inv_divInt,Rat.divInt_mul_divInt]
theorem Sz_div {j k:Nat} {p q:Rat} (h:Sz j p) (g:Sz k q):Sz (j+k) (p / q):=by
 rw [← div_eq]
 refine Sz_divInt ?_ ?_ (by have:=Sz_pos h;omega)
 ·rw [Int.natAbs_mul];exact Nat.le_trans (mul_len _ _) (Nat.add_le_add h.1 g.2)
 ·rw [Int.natAbs_mul];exact Nat.le_trans (mul_len _ _) (Nat.add_le_add h.2 g.1)
theorem divInt_one' (z:Int):Rat.divInt z 1=(z:Rat):=Rat.mkRat_one z
end Pl
theorem FracM.num {w:World} {A A':Option Addr} {n c n' c':Nat} {b b':Bool} {f:RF} (h:FracM w (.agg #[.bool b,.slice A n c,.bool b',.slice A' n' c']) f):IntM w (.agg #[.bool b,.slice A n c]) f.num∧IntM w (.agg #[.bool b',.slice A' n' c']) f.den:=by
 obtain ⟨B,m,d,B',m',d',e,d1,d2⟩:=h
 simp at e
 obtain ⟨rfl,⟨rfl,rfl,rfl⟩,rfl,rfl,rfl,rfl⟩:=e
 exact ⟨⟨_,rfl,d1⟩,_,rfl,d2⟩
theorem boxF1 (w:World) (x1 x2 x3 x4:Value):∃W,w.alloc (.cells #[x1,x2,x3,x4] 70)=W∧Bk W w.heap.size 70 [x1,x2,x3,x4]∧Below w.heap.size w W:=
 ⟨_,rfl,Bk.new w _ [x1,x2,x3,x4],below_new w _⟩
theorem rcanon_own (v:Value) (a:RF) (w:World) (h:FracM w v a) (hs:a.Sh):
 Calls Try.prog 31 #[v] w fun e w'=>∃v',e= .returned v'∧FracO w.heap.size w' v' (canF a.q)∧Below w.heap.size w w':=by
 obtain ⟨A,n,c,A',n',c',rfl,_,_⟩:=id h
 obtain ⟨W,hW,hsz,hX,hR,hbe⟩:=boxF2 w (.bool a.num.neg) (.slice A n c) (.bool a.den.neg) (.slice A' n' c') (.bool false) (.slice none 0 0) (.bool false) (.slice none 0 0)
 obtain ⟨i1,i2⟩:=(h.below hbe).num
 obtain ⟨p1,p2,p3,p4⟩:=hX.four
 obtain ⟨hs1,hs2⟩:=hs
 go_enter Try.func31,Try.ntmps31
 go_wp2_with fail
 clear hW
 refine (rnew_own _ _ a.num a.den _ i1 i2 (by omega) (by omega)).mono ?_
 rintro e w1 ⟨v1,rfl,e1,hb1⟩
 obtain ⟨B,m,d,B',m',d',rfl,_,_⟩:=id e1.1
 have hR1:=hR.later hb1
 obtain ⟨c0,c1,c2,c3⟩:=hR1.four
 obtain ⟨f0,f1,f2,f3⟩:=hR1.fourF
 go_wp2
 refine ret_cell Try.results31 Try.underlying70 (by kernel_rfl) rfl (hR1.set4 _ _ _ _) rfl ?_
 exact fin_fracO hR1 (e1.mono hbe.size) (below_then hbe hb1 hbe.size) (by omega)
theorem rint_own (z:Int) (w:World) (h0: -9223372036854775808≤z) (h1:z≤9223372036854775807):
 Calls Try.prog 20 #[.int .i64 z] w fun e w'=>∃v',e= .returned v'∧FracO w.heap.size w' v' (canF (z:Rat))∧Below w.heap.size w w':=by
 obtain ⟨W,hW,hR,hbe⟩:=boxF1 w (.bool false) (.slice none 0 0) (.bool false) (.slice none 0 0)
 have l1:(digs (val (canI z).ds)).length≤137438953472:=by rw [val_canI];exact Nat.le_trans (digs_lt (k:=2) (by unfold B32;omega)) (by decide)
 have l2:(digs (val (canI 1).ds)).length≤137438953472:=by rw [val_canI];exact Nat.le_trans (digs_lt (k:=2) (by unfold B32;omega)) (by decide)
 go_enter Try.func20,Try.ntmps20
 go_wp2_with fail
 clear hW
 refine (rfromInt64_any z _ h0 h1).mono ?_
 rintro e w1 ⟨v1,rfl,i1,hb1⟩
 go_wp2_with fail
 refine (rfromInt64_any 1 _ (by omega) (by omega)).mono ?_
 rintro e w2 ⟨v2,rfl,i2,hb2⟩
 go_wp2_with fail
 refine (rnew_own _ _ (canI z) (canI 1) _ (i1.below hb2) i2 l1 l2).mono ?_
 rw [canI_z,canI_z,divInt_one']
 rintro e w3 ⟨v3,rfl,e3,hb3⟩
 obtain ⟨B,m,d,B',m',d',rfl,_,_⟩:=id e3.1
 have hR1:=((hR.later hb1).later hb2).later hb3
 have b1:=below_then hbe hb1 hbe.size
 have b2:=below_then b1 hb2 b1.size
 obtain ⟨c0,c1,c2,c3⟩:=hR1.four
 obtain ⟨f0,f1,f2,f3⟩:=hR1.fourF
 go_wp2
 refine ret_cell Try.results20 Try.underlying70 (by kernel_rfl) rfl (hR1.set4 _ _ _ _) rfl ?_
 exact fin_fracO hR1 (e3.mono b2.size) (below_then b2 hb3 b2.size) (by omega)
def CanF2 (p q:Rat) (w wx:World) (A A' B B':Option Addr) (n c n' c' m d m' d':Nat):Prop:=
 Bk wx w.heap.size 70 [.bool (canF p).num.neg,.slice A n c,.bool (canF p).den.neg,.slice A' n' c']∧Bk wx (w.heap.size+1) 70 [.bool (canF q).num.neg,.slice B m d,.bool (canF q).den.neg,.slice B' m' d']∧Bk wx (w.heap.size+1+1) 70 [.bool false,.slice none 0 0,.bool false,.slice none 0 0]∧
 FracM wx (.agg #[.bool (canF p).num.neg,.slice A n c,.bool (canF p).den.neg,.slice A' n' c']) (canF p)∧FracM wx (.agg #[.bool (canF q).num.neg,.slice B m d,.bool (canF q).den.neg,.slice B' m' d']) (canF q)∧Below w.heap.size w wx
theorem fin_two {w w4:World} {g g' h:Nat} {x y z u x' y' z' u':Value} {cs:List Value} {b1 s1 b2 s2 b3 s3 b4 s4:Value} {p q:RF} (hX:Bk w4 g 70 [x,y,z,u]) (hY:Bk w4 g' 70 [x',y',z',u']) (hR:Bk w4 h 70 cs) (hne:g≠g') (hr1:h≠g) (hr2:h≠g') (dq:FracM w4 (.agg #[b1,s1,b2,s2]) p) (dr:FracM w4 (.agg #[b3,s3,b4,s4]) q) {m:Nat} (hbe:Below m w w4) (hg:m≤g) (hg':m≤g'):
 ∀W,W=((((((((w4.setCell ⟨g,0,none⟩ b1).setCell ⟨g,1,none⟩ s1).setCell ⟨g,2,none⟩ b2).setCell ⟨g,3,none⟩ s2).setCell ⟨g',0,none⟩ b3).setCell ⟨g',1,none⟩ s3).setCell ⟨g',2,none⟩ b4).setCell ⟨g',3,none⟩ s4)→
 Bk W g 70 [b1,s1,b2,s2]∧Bk W g' 70 [b3,s3,b4,s4]∧Bk W h 70 cs∧FracM W (.agg #[b1,s1,b2,s2]) p∧FracM W (.agg #[b3,s3,b4,s4]) q∧Below m w W:=by
 rintro W rfl
 have h1:=hX.set4 b1 s1 b2 s2
 have h2:=hY.far4 (Ne.symm hne) b1 s1 b2 s2
 have k1:=hX.keep4 (by decide) b1 s1 b2 s2
 have k2:=h2.keep4 (by decide) b3 s3 b4 s4
 exact ⟨h1.far4 hne _ _ _ _,h2.set4 _ _ _ _,(hR.far4 hr1 _ _ _ _).far4 hr2 _ _ _ _,dq.keep (k1.trans k2),dr.keep (k1.trans k2),below_set4 (below_set4 hbe hg _ _ _ _) hg' _ _ _ _⟩
theorem szI {k:Nat} {q:Rat} (h:Sz k q):(canF q).num.ds.length≤k∧(canF q).den.ds.length≤k:=h
theorem szV {k:Nat} {z:Int} (h:(digs z.natAbs).length≤k):(digs (val (canI z).ds)).length≤k:=by rw [val_canI];exact h
theorem zN (q:Rat):(canF q).num.z=q.num:=canI_z _
theorem zD (q:Rat):(canF q).den.z=q.den:=canI_z _
theorem rdivF_own (v1 v2:Value) (a b:RF) (w:World) (h1:FracM w v1 a) (h2:FracM w v2 b) (hs:a.Sh) (hs2:b.Sh):
 Calls Try.prog 19 #[v1,v2] w fun e w'=>∃v',e= .returned v'∧FracO w.heap.size w' v' (canF (a.q / b.q))∧Below w.heap.size w w':=by
 obtain ⟨A,n,c,A',n',c',rfl,_,_⟩:=id h1
 obtain ⟨B,m,d,B',m',d',rfl,_,_⟩:=id h2
 obtain ⟨W,hW,hX,hY,hR,hbe⟩:=boxF3 w (.bool a.num.neg) (.slice A n c) (.bool a.den.neg) (.slice A' n' c') (.bool b.num.neg) (.slice B m d) (.bool b.den.neg) (.slice B' m' d')
 have i1:=h1.below hbe
 have i2:=h2.below hbe
 have hn1:w.heap.size≠w.heap.size+1:=by omega
 have hn2:w.heap.size+1+1≠w.heap.size:=by omega
 have hn3:w.heap.size+1+1≠w.heap.size+1:=by omega
 have tok:True:=trivial
 obtain ⟨p1,p2,p3,p4⟩:=hX.four
 obtain ⟨q1,q2,q3,q4⟩:=hY.four
 go_enter Try.func19,Try.ntmps19
 go_wp2_with fail
 clear hW
 go_upto_region 1 with (fail)
 go_cut [] (fun wx=>∃(A A' B B':Option Addr) (n c n' c' m d m' d':Nat),CanF2 a.q b.q w wx A A' B B' n c n' c' m d m' d')
 case first=>
  go_region_with (first
   | (go_at_call 31;have _t:=tok;refine (rcanon_own _ a _ (i1.keep (Keep.drew _)) hs).mono ?_;clear tok _t;rintro e w6 ⟨v6,rfl,e6,hb6⟩;obtain ⟨A6,n6,k6,A6',n6',k6',rfl,_,_⟩:=id e6.1;obtain ⟨q1',q2',q3',q4'⟩:=(hY.drew.later hb6).four)
   | (go_at_call 31;refine (rcanon_own _ b _ ((i2.keep (Keep.drew _)).below hb6) hs2).mono ?_;rintro e w7 ⟨v7,rfl,e7,hb7⟩;obtain ⟨A7,n7,k7,A7',n7',k7',rfl,_,_⟩:=id e7.1;obtain ⟨c0,c1,c2,c3⟩:=((hX.drew.later hb6).later hb7).four;obtain ⟨r0,r1,r2,r3⟩:=((hX.drew.later hb6).later hb7).fourF;obtain ⟨c0',c1',c2',c3'⟩:=((hY.drew.later hb6).later hb7).four;obtain ⟨r0',r1',r2',r3'⟩:=((hY.drew.later hb6).later hb7).fourF))
  all_goals
   go_wp2_with fail
   go_meet
   have b1:=below_then hbe.drew hb6 hbe.size
   obtain ⟨a1,a2,a3,a4,a5,a6⟩:=fin_two ((hX.drew.later hb6).later hb7) ((hY.drew.later hb6).later hb7) ((hR.drew.later hb6).later hb7) hn1 hn2 hn3 (e6.below hb7).1 e7.1 (below_then b1 hb7 b1.size) (by omega) (by omega) _ rfl
   exact ⟨A6,A6',A7,A7',n6,k6,n6',k6',n7,k7,n7',k7',a1,a2,a3,a4,a5,a6⟩
 case rest=>
  obtain ⟨A,A',B,B',n,c,n',c',m,d,m',d',bX,bY,bR,fX,fY,be⟩:=hcut
  clear p1 p2 p3 p4 q1 q2 q3 q4 hX hY hR hbe i1 i2 h1 h2 tok
  have sz1:=hs.sz
  have sz2:=hs2.sz
  obtain ⟨l1,l2⟩:=szI sz1
  obtain ⟨l3,l4⟩:=szI sz2
  have hz1:=zN a.q
  have hz2:=zD a.q
  have hz3:=zN b.q
  have hz4:=zD b.q
  generalize canF a.q=P at *
  generalize canF b.q=Q at *
  have HZ1:=Lib.hid hz1
  have HZ2:=Lib.hid hz2
  have HZ3:=Lib.hid hz3
  have HZ4:=Lib.hid hz4
  clear hz1 hz2 hz3 hz4
  obtain ⟨iN,iD⟩:=fX.num
  obtain ⟨jN,jD⟩:=fY.num
  have tok:True:=trivial
  have tok2:True:=trivial
  have hL1:(digs (val (canI (P.num.z * Q.den.z)).ds)).length≤137438953472:=(szV (by rw [HZ1.out,HZ4.out,Int.natAbs_mul];exact Nat.le_trans (mul_len _ _) (Nat.le_trans (Nat.add_le_add sz1.1 sz2.2) (by decide))))
  have hL2:(digs (val (canI (P.den.z * Q.num.z)).ds)).length≤137438953472:=(szV (by rw [HZ2.out,HZ3.out,Int.natAbs_mul];exact Nat.le_trans (mul_len _ _) (Nat.le_trans (Nat.add_le_add sz1.2 sz2.1) (by decide))))
  have HV:Hid (Rat.divInt (P.num.z * Q.den.z) (P.den.z * Q.num.z)=a.q / b.q):=Lib.hid (by rw [HZ1.out,HZ2.out,HZ3.out,HZ4.out];exact div_eq _ _)
  clear sz1 sz2 hs hs2 HZ1 HZ2 HZ3 HZ4
  go_wp2_with fail
  go_region_held3 (fun w'=>(w'.cell? ⟨w.heap.size,0,none⟩=some (.bool P.num.neg)∧w'.cell? ⟨w.heap.size,1,none⟩=some (.slice A n c)∧w'.cell? ⟨w.heap.size,2,none⟩=some (.bool P.den.neg)∧w'.cell? ⟨w.heap.size,3,none⟩=some (.slice A' n' c'))∧(w'.cell? ⟨w.heap.size+1,0,none⟩=some (.bool Q.num.neg)∧w'.cell? ⟨w.heap.size+1,1,none⟩=some (.slice B m d)∧w'.cell? ⟨w.heap.size+1,2,none⟩=some (.bool Q.den.neg)∧w'.cell? ⟨w.heap.size+1,3,none⟩=some (.slice B' m' d')))
   (first | with_reducible exact ⟨bX.drew.four,bY.drew.four⟩ | with_reducible exact ⟨(bX.drew.later hb8).four,(bY.drew.later hb8).four⟩ | with_reducible exact ⟨((bX.drew.later hb8).later hb9).four,((bY.drew.later hb8).later hb9).four⟩ | with_reducible exact ⟨(((bX.drew.later hb8).later hb9).later hb10).four,(((bY.drew.later hb8).later hb9).later hb10).four⟩ | with_reducible exact ⟨((((bX.drew.later hb8).later hb9).later hb10).far4 (Ne.symm hn2) _ _ _ _).four,((((bY.drew.later hb8).later hb9).later hb10).far4 (Ne.symm hn3) _ _ _ _).four⟩)
   (first
    | (go_at_call 33;have _t:=tok;refine (rmul_any _ _ P.num Q.den _ (iN.keep (Keep.drew _)) (jD.keep (Keep.drew _)) (by omega)).mono ?_;clear tok _t;rintro e w8 ⟨v8,rfl,e8,hb8⟩)
    | (go_at_call 33;refine (rmul_any _ _ P.den Q.num _ ((iD.keep (Keep.drew _)).below hb8) ((jN.keep (Keep.drew _)).below hb8) (by omega)).mono ?_;rintro e w9 ⟨v9,rfl,e9,hb9⟩)
    | (go_at_call 32;refine (rnew_own _ _ (canI (P.num.z * Q.den.z)) (canI (P.den.z * Q.num.z)) _ (e8.below hb9) e9 hL1 hL2).mono ?_;rw [canI_z,canI_z,HV.out];rintro e w10 ⟨v10,rfl,e10,hb10⟩;obtain ⟨C,l,f,C',l',f',rfl,_,_⟩:=id e10.1;obtain ⟨c0,c1,c2,c3⟩:=(((bR.drew.later hb8).later hb9).later hb10).four;obtain ⟨f0,f1,f2,f3⟩:=(((bR.drew.later hb8).later hb9).later hb10).fourF))
  go_wp2
  refine ret_cell Try.results19 Try.underlying70 (by kernel_rfl) rfl ((((bR.drew.later hb8).later hb9).later hb10).set4 _ _ _ _) rfl ?_
  have b0:=be.drew
  have b1:=below_then b0 hb8 b0.size
  have b2:=below_then b1 hb9 b1.size
  have b3:=below_then b2 hb10 b2.size
  exact fin_fracO (((bR.drew.later hb8).later hb9).later hb10) (e10.mono b2.size) b3 (by omega)
namespace Pl
theorem qs_neg {q:Rat}:qs q < 0↔q < 0:=by
 have h:qs q < 0↔q.num < 0:=by unfold qs sgn;split <;> rename_i h <;> (try split) <;> omega
 rw [h,← Rat.not_le,← Rat.num_nonneg];omega
theorem qs_pos {q:Rat}:0 < qs q↔0 < q:=by
 have h:0 < qs q↔0 < q.num:=by unfold qs sgn;split <;> rename_i h <;> (try split) <;> omega
 have h2:q.num=0↔q=0:=Rat.num_eq_zero
 have h3:0≤q.num↔0≤q:=Rat.num_nonneg
 rw [h]
 constructor
 ·intro g
  have:q≠0:=fun e=>by have:=h2.2 e;omega
  have:=h3.1 (by omega)
  grind
 ·intro g
  have h4:q.num≠0:=fun e=>by have:=h2.1 e;grind
  have:=h3.2 (by grind)
  omega
end Pl
end Go.Proofs.Ytgdcbjligbnpgaa
