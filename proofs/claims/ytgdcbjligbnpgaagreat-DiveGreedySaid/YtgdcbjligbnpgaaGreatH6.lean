/- Lemmas of the claim; no condition. -/
import Derived.Test.YtgdcbjligbnpgaaGreatH5
set_option linter.all false
set_option maxRecDepth 100000
set_option maxHeartbeats 40000000
namespace Go.Proofs.YtgdcbjligbnpgaaGreat
open Go.RowKit
open Pl
attribute [local go_sem ↓] Go.wp_at_zero Go.wp_at_succ
theorem rtrim_fin {w:World} {A:Option Addr} {n c k:Nat} {ds:List Nat} (h:DigM w (.slice A n c) ds) (hk:k≤n) (hz:∀i,k≤i→dg ds i=0) (hl:k=0∨dg ds (k - 1)≠0):
 DigM w (.slice A k c) (digs (val ds)):=by
 obtain ⟨h1,h2,h3,h4⟩:=h.len
 rw [digs_take h.ok (by omega) hz hl]
 exact h.take hk (by omega) (by unfold maxLen;omega)
theorem rtrim_at (A:Option Addr) (n c:Nat) (ds:List Nat) (w:World) (h:DigM w (.slice A n c) ds):
 Calls Tryz.prog 104 #[.slice A n c] w fun e w'=>∃k,e= .returned (.slice A k c)∧DigM w (.slice A k c) (digs (val ds))∧w=w':=by
 obtain ⟨hl,hl',hnc,hc⟩:=h.len
 go_enter Tryz.func104,Tryz.ntmps104
 go_wp2
 go_loop [3] (fun x=>∃k:Nat,k≤n∧x= .int .i64 k∧∀i,k≤i→dg ds i=0) (fun x=>(intOf x).toNat)
 case atStart=>exact ⟨n,Nat.le_refl _,rfl,fun i hi=>dg_ge (by omega)⟩
 case round=>
  obtain ⟨k,hk,rfl,hz⟩:=hrel
  have HZ:=Lib.hid hz
  clear hz
  rcases Nat.eq_zero_or_pos k with h0 | h0
  ·subst h0
   go_wp2
   go_ret
   exact ⟨_,rfl,rtrim_fin h hk HZ.out (.inl rfl),rfl⟩
  ·obtain ⟨j,rfl⟩:∃j,k=j+1:=⟨k - 1,by omega⟩
   obtain ⟨b,off,rfl,_,hcell⟩:=h.at_ (by omega)
   have hcj:=hcell j (by omega)
   clear hcell
   by_cases hd:dg ds j=0
   ·have hb:=di_beq_true hd
    have HD:=Lib.hid hd
    clear hd
    go_wp2
    go_round
    case rel=>exact ⟨j,by omega,by go_num,fun i hi=>by
     rcases Nat.eq_or_lt_of_le hi with e | e
     ·exact e▸HD.out
     ·exact HZ.out i e⟩
    case measure=>simp [intOf]
   ·have hb:=di_beq_false hd
    have HD:=Lib.hid hd
    clear hd
    go_wp2
    go_ret
    exact ⟨_,rfl,rtrim_fin h hk HZ.out (.inr (by simpa using HD.out)),rfl⟩
theorem rtrim_any (v:Value) (ds:List Nat) (w:World) (h:DigM w v ds):
 Calls Tryz.prog 104 #[v] w fun e w'=>∃v',e= .returned v'∧DigM w v' (digs (val ds))∧w=w':=by
 obtain ⟨A,n,c,rfl⟩:=h.shape
 exact (rtrim_at A n c ds w h).mono fun _ _ ⟨_,h1,h2,h3⟩=>⟨_,h1,h2,h3⟩
theorem make_any (neg:Bool) (v:Value) (ds:List Nat) (w:World) (h:DigM w v ds) (hs:(digs (val ds)).length≤549755813888):
 Calls Tryz.prog 80 #[.bool neg,v] w fun e w'=>∃v',e= .returned v'∧IntM w' v' (canI (sm neg (val ds)))∧Below w.heap.size w w':=by
 have hR:=Bk.new w 57 [.bool false,.slice none 0 0]
 have hbe:=below_new w (.cells [.bool false,.slice none 0 0].toArray 57)
 have h':=h.below hbe
 obtain ⟨i0,hi,hz0,hz1,hz2⟩:=info_parts info_u32
 have HI:=Lib.hid hi
 have HZ0:=Lib.hid hz0
 have HZ1:=Lib.hid hz1
 have HZ2:=Lib.hid hz2
 clear hi hz0 hz1 hz2
 go_enter Tryz.func80,Tryz.ntmps80
 go_wp2_with fail
 generalize w.alloc _=W at *
 refine (rtrim_any _ ds _ h').mono ?_
 rintro e w1 ⟨v1,rfl,h1,rfl⟩
 obtain ⟨A,n,c,rfl⟩:=h1.shape
 obtain ⟨kl,kl',knc,kc⟩:=h1.len
 obtain ⟨c0,c1,f0,f1⟩:=hR.two
 rcases Nat.eq_zero_or_pos n with h0 | h0
 ·have hv:val ds=0:=len_zero (by omega)
  subst h0
  have HV:=Lib.hid hv
  clear hv kl kl' hs
  go_wp2
  refine ret_cell Tryz.results80 Tryz.underlying57 (by kernel_rfl) rfl (hR.set2 _ _) rfl ?_
  exact ⟨_,rfl,by rw [HV.out,sm_zero];exact IntM.zero _,below_set2 hbe (Nat.le_refl _) _ _⟩
 ·have hv:val ds≠0:=len_pos (by omega)
  have HV:=Lib.hid hv
  have HS:=Lib.hid hs
  obtain ⟨b,off,rfl,hb1,hcell1⟩:=h1.at_ h0
  clear hv hcell1 hs c0 c1 f0 f1
  have hln:(digs (val ds)).length=n:=by omega
  have HLN:=Lib.hid hln
  clear hln kl kl' kc knc
  go_wp2_with (at_builtin;refine wpList_append_own_at _ rfl (.const (.slice none 0 0)) (.tmp 12) _ rfl w.heap.size 72 i0 _ 1 4 Tryz.underlying55 HI.out HZ0.out HZ1.out HZ2.out rfl (by decide) (.slice none 0 0) 0 [] rfl ?c0 ⟨b,off,none⟩ n c ((digs (val ds)).map uc) rfl ?c1 ?c2 (uc_oneCell _) ?c3 ?c4 ?c5 ?_)
  case c0=>exact World.ownsRow_nil _ _ _ _
  case c1=>simp;exact HLN.out
  case c2=>exact h1.news
  case c3=>have:=HS.out;have:=HLN.out;unfold maxLen;omega
  case c4=>have:=HS.out;have:=HLN.out;omega
  case c5=>exact hbe.size
  ·intro v' w1 hown hgrow _ _
   have dg':=own_dig (by simpa using hown) (okD_digs (val ds))
   have hR1:=hR.grown hgrow (by simp [Value.ownBlock])
   have hbe1:Below w.heap.size w w1:=hbe.grown hgrow hbe.size (fun k hk=>by simp [Value.ownBlock] at hk)
   obtain ⟨A1,n1,k1,rfl⟩:=dg'.shape
   obtain ⟨c0,c1,f0,f1⟩:=hR1.two
   clear hown hgrow
   go_wp2
   refine ret_cell Tryz.results80 Tryz.underlying57 (by kernel_rfl) rfl (hR1.set2 _ _) rfl ?_
   rw [canI_sm _ _ HV.out]
   exact fin_int hR1 ⟨_,rfl,dg'⟩ hbe1 (Nat.le_refl _)
theorem make_dig (neg:Bool) (v:Value) (n:Nat) (w:World) (h:DigM w v (digs n)) (hs:(digs n).length≤549755813888):
 Calls Tryz.prog 80 #[.bool neg,v] w fun e w'=>∃v',e= .returned v'∧IntM w' v' (canI (sm neg n))∧Below w.heap.size w w':=by
 have:=make_any neg v (digs n) w h (by rwa [val_digs])
 rwa [val_digs] at this
theorem canonI_any (v:Value) (a:RI) (w:World) (h:IntM w v a) (hs:(digs (val a.ds)).length≤549755813888):
 Calls Tryz.prog 79 #[v] w fun e w'=>∃v',e= .returned v'∧IntM w' v' (canI a.z)∧Below w.heap.size w w':=by
 obtain ⟨A,n,c,rfl,hd⟩:=h.shape
 obtain ⟨W,hW,hX,hR,hbe⟩:=box1 w (.bool a.neg) (.slice A n c)
 have hdX:=hd.below hbe
 obtain ⟨x0,x1,y0,y1⟩:=hX.two
 go_enter Tryz.func79,Tryz.ntmps79
 go_wp2_with fail
 clear hW
 refine (make_any _ _ a.ds _ hdX hs).mono ?_
 rw [← RI.z_eq]
 rintro e w1 ⟨v1,rfl,e1,hb1⟩
 obtain ⟨A1,n1,k1,rfl,_⟩:=e1.shape
 have hR1:=hR.later hb1
 obtain ⟨c0,c1,f0,f1⟩:=hR1.two
 go_wp2
 refine ret_cell Tryz.results79 Tryz.underlying57 (by kernel_rfl) rfl (hR1.set2 _ _) rfl ?_
 exact fin_int hR1 e1 (below_then hbe hb1 hbe.size) (by omega)
theorem rnegate_any (v:Value) (a:RI) (w:World) (h:IntM w v a) (hs:(digs (val a.ds)).length≤549755813888):
 Calls Tryz.prog 76 #[v] w fun e w'=>∃v',e= .returned v'∧IntM w' v' (canI (- a.z))∧Below w.heap.size w w':=by
 obtain ⟨A,n,c,rfl,hd⟩:=h.shape
 obtain ⟨W,hW,hX,hR,hbe⟩:=box1 w (.bool a.neg) (.slice A n c)
 have hdX:=hd.below hbe
 obtain ⟨x0,x1,y0,y1⟩:=hX.two
 go_enter Tryz.func76,Tryz.ntmps76
 go_wp2_with fail
 clear hW
 refine (make_any _ _ a.ds _ hdX hs).mono ?_
 rw [sm_not,← RI.z_eq]
 rintro e w1 ⟨v1,rfl,e1,hb1⟩
 obtain ⟨A1,n1,k1,rfl,_⟩:=e1.shape
 have hR1:=hR.later hb1
 obtain ⟨c0,c1,f0,f1⟩:=hR1.two
 go_wp2
 refine ret_cell Tryz.results76 Tryz.underlying57 (by kernel_rfl) rfl (hR1.set2 _ _) rfl ?_
 exact fin_int hR1 e1 (below_then hbe hb1 hbe.size) (by omega)
theorem rdigit_any (v:Value) (ds:List Nat) (k:Nat) (w:World) (h:DigM w v ds) (hk:(k:Int)≤9223372036854775807):
 Calls Tryz.prog 124 #[v,.int .i64 k] w fun e w'=>e= .returned (.int .u64 (di ds k))∧w=w':=by
 obtain ⟨A,n,c,rfl⟩:=h.shape
 obtain ⟨hl,hl',hnc,hc⟩:=h.len
 rcases Nat.lt_or_ge k n with hlt | hge
 ·obtain ⟨b,off,rfl,hb1,hcell⟩:=h.at_ (by omega)
  have hx:=hcell k hlt
  have x0:=di_nonneg ds k
  have x1:=di_le h.ok k
  clear hcell
  go_enter Tryz.func124,Tryz.ntmps124
  go_wp2
  go_ret
  exact ⟨rfl,rfl⟩
 ·have hz:di ds k=0:=by rw [di_eq,dg_ge (by omega)];rfl
  have HZ:=Lib.hid hz
  clear hz hl hl'
  go_enter Tryz.func124,Tryz.ntmps124
  go_wp2
  go_ret
  exact ⟨by rw [HZ.out];rfl,rfl⟩
theorem dig_pair (w:World) (z:Int) (h:0≤z) (h2:z≤18446744073709551615):
 ∃ds,DigM (w.alloc (.cells #[.int .u32 (z % 4294967296),.int .u32 (z / 4294967296)] 72)) (.slice (some ⟨w.heap.size,0,none⟩) 2 2) ds∧val ds=z.toNat:=by
 obtain ⟨n,rfl⟩:=Int.eq_ofNat_of_zero_le h
 refine ⟨[n % B32,n / B32],?_,?_⟩
 ·have:=DigB.dig (DigB.new w [n % B32,n / B32]) (by simp [okD,B32];omega) (c:=2) (by simp) (by simp [maxLen])
  simpa [uc,B32] using this
 ·simp only [val,B32,Int.toNat_natCast];omega
theorem rfromInt64_any (z:Int) (w:World) (h0: -9223372036854775808≤z) (h1:z≤9223372036854775807):
 Calls Tryz.prog 54 #[.int .i64 z] w fun e w'=>∃v',e= .returned v'∧IntM w' v' (canI z)∧Below w.heap.size w w':=by
 have hR:=Bk.new w 57 [.bool false,.slice none 0 0]
 have hbe:=below_new w (.cells [.bool false,.slice none 0 0].toArray 57)
 rcases Int.lt_or_le z 0 with hn | hn
 ·have e1:IntKind.u64.wrap z=z+18446744073709551616:=by simp [IntKind.wrap,IntKind.bits,IntKind.signed];omega
  have e2:IntKind.u64.wrap (-(z+18446744073709551616))= -z:=by simp [IntKind.wrap,IntKind.bits,IntKind.signed];omega
  obtain ⟨y,hy⟩:∃y,y= -z:=⟨_,rfl⟩
  have y0:0≤y:=by omega
  have y1:y≤18446744073709551615:=by omega
  rw [← hy] at e2
  have HY:=Lib.hid hy
  clear hy
  go_enter Tryz.func54,Tryz.ntmps54
  obtain ⟨ds,hds,hv⟩:=dig_pair (w.alloc (.cells #[.bool false,.slice none 0 0] 57)) y (by omega) (by omega)
  rw [size_alloc] at hds
  have HV:=Lib.hid hv
  have hbn:=below_new (w.alloc (.cells #[.bool false,.slice none 0 0] 57)) (.cells #[.int .u32 (y % 4294967296),.int .u32 (y / 4294967296)] 72)
  have hR1:=hR.later hbn
  have hbe1:=below_then hbe hbn hbe.size
  clear hv hbn hbe hR
  go_wp2_with fail
  generalize (w.alloc _).alloc _=W at *
  refine (make_any _ _ ds _ hds (by rw [HV.out];exact Nat.le_trans (digs_lt (k:=2) (by unfold B32;omega)) (by decide))).mono ?_
  rw [HV.out,show sm true (y).toNat=z from by have:=HY.out;simp [sm];omega]
  rintro e w2 ⟨v2,rfl,d2,hb2⟩
  obtain ⟨A,n,c,rfl,_⟩:=d2.shape
  have hR2:=hR1.later hb2
  obtain ⟨c0,c1,f0,f1⟩:=hR2.two
  go_wp2
  refine ret_cell Tryz.results54 Tryz.underlying57 (by kernel_rfl) rfl (hR2.set2 _ _) rfl ?_
  exact fin_int hR2 d2 (below_then hbe1 hb2 hbe1.size) (Nat.le_refl _)
 ·have e1:IntKind.u64.wrap z=z:=u64_in _ hn (by omega)
  go_enter Tryz.func54,Tryz.ntmps54
  obtain ⟨ds,hds,hv⟩:=dig_pair (w.alloc (.cells #[.bool false,.slice none 0 0] 57)) z (by omega) (by omega)
  rw [size_alloc] at hds
  have HV:=Lib.hid hv
  have hbn:=below_new (w.alloc (.cells #[.bool false,.slice none 0 0] 57)) (.cells #[.int .u32 (z % 4294967296),.int .u32 (z / 4294967296)] 72)
  have hR1:=hR.later hbn
  have hbe1:=below_then hbe hbn hbe.size
  clear hv hbn hbe hR
  go_wp2_with fail
  generalize (w.alloc _).alloc _=W at *
  refine (make_any _ _ ds _ hds (by rw [HV.out];exact Nat.le_trans (digs_lt (k:=2) (by unfold B32;omega)) (by decide))).mono ?_
  rw [HV.out,show sm (decide (z < 0)) (z).toNat=z from by rw [decide_eq_false (by omega)];simp [sm];omega]
  rintro e w2 ⟨v2,rfl,d2,hb2⟩
  obtain ⟨A,n,c,rfl,_⟩:=d2.shape
  have hR2:=hR1.later hb2
  obtain ⟨c0,c1,f0,f1⟩:=hR2.two
  go_wp2
  refine ret_cell Tryz.results54 Tryz.underlying57 (by kernel_rfl) rfl (hR2.set2 _ _) rfl ?_
  exact fin_int hR2 d2 (below_then hbe1 hb2 hbe1.size) (Nat.le_refl _)
theorem rcompareDigits_any (v1 v2:Value) (xs ys:List Nat) (w:World) (h1:DigM w v1 xs) (h2:DigM w v2 ys):
 Calls Tryz.prog 103 #[v1,v2] w fun e w'=>e= .returned (.int .i64 (cmpN (val xs) (val ys)))∧Below w.heap.size w w':=by
 go_enter Tryz.func103,Tryz.ntmps103
 go_wp2_with fail
 refine (rtrim_any _ xs _ h1).mono ?_
 rintro e w1 ⟨u1,rfl,g1,rfl⟩
 go_wp2_with fail
 refine (rtrim_any _ ys _ h2).mono ?_
 rintro e w1 ⟨u2,rfl,g2,rfl⟩
 clear h1 h2
 obtain ⟨a,ha⟩:∃a,a=val xs:=⟨_,rfl⟩
 obtain ⟨b,hb⟩:∃b,b=val ys:=⟨_,rfl⟩
 rw [← ha] at g1
 rw [← hb] at g2
 have HA:=Lib.hid ha
 have HB:=Lib.hid hb
 clear ha hb
 obtain ⟨A,l,c,rfl⟩:=g1.shape
 obtain ⟨hl,hl',hnc,hc⟩:=g1.len
 obtain ⟨A2,l2,c2,rfl⟩:=g2.shape
 obtain ⟨kl,kl',knc,kc⟩:=g2.len
 rcases Nat.lt_trichotomy l l2 with hlt | heq | hgt
 ·have e:cmpN a b= -1:=cmpN_lt (lt_of_len (by omega))
  have HE:=Lib.hid e
  clear e
  go_wp2
  go_ret
  exact ⟨by rw [← HA.out,← HB.out,HE.out];rfl,Below.refl _ _⟩
 ·subst heq
  go_wp2
  go_loopw [5] (fun x wr=>∃(z:Int) (q:Nat),-1≤z∧z < l∧x= .int .i64 z∧wr=w.drewN q∧∀i:Nat,z < i→dg (digs a) i=dg (digs b) i) (fun x _=>(intOf x+1).toNat)
  case atStart=>exact ⟨(l:Int) - 1,0,by omega,by omega,rfl,rfl,fun i hi=>by rw [dg_ge (by omega),dg_ge (by omega)]⟩
  case round=>
   obtain ⟨z,q,hk0,hk,rfl,rfl,hz⟩:=hrel
   have HZ:=Lib.hid hz
   clear hz
   rcases Int.lt_or_le z 0 with h0 | h0
   ·go_wp2
    go_ret
    exact ⟨by rw [← HA.out,← HB.out,← cmp_all (l:=l) (by omega) (by omega) hk0 h0 HZ.out];rfl,below_drewN' _ _⟩
   ·obtain ⟨j,rfl⟩:=Int.eq_ofNat_of_zero_le h0
    obtain ⟨b1,off1,rfl,_,hcell1⟩:=g1.at_ (by omega)
    obtain ⟨b2,off2,rfl,_,hcell2⟩:=g2.at_ (by omega)
    have hc1:=hcell1 j (by omega)
    have hc2:=hcell2 j (by omega)
    clear hcell1 hcell2
    rcases Nat.lt_trichotomy (dg (digs a) j) (dg (digs b) j) with g | g | g
    ·have t2:decide (di (digs a) j < di (digs b) j)=true:=by simp [di];omega
     have HG:=Lib.hid g
     clear g
     go_wp2
     go_quiet (fail)
     go_wp2
     go_ret
     exact ⟨by rw [← HA.out,← HB.out,cmp_less (l:=l) (by omega) (by omega) HZ.out HG.out];rfl,by simp only [World.drewN_drewN];exact below_drewN' _ _⟩
    ·have t1:decide (di (digs a) j < di (digs b) j)=false:=by simp [di];omega
     have t2:decide (di (digs b) j < di (digs a) j)=false:=by simp [di];omega
     have HG:=Lib.hid g
     clear g
     go_wp2
     go_quiet (fail)
     go_wp2
     go_quiet (fail)
     go_wp2
     go_roundw
     case rel=>exact ⟨(j:Int) - 1,_,by omega,by omega,rfl,rfl,fun i hi=>by
      rcases Nat.eq_or_lt_of_le (show j≤i by omega) with e | e
      ·exact e▸HG.out
      ·exact HZ.out i (by omega)⟩
     case measure=>simp [intOf]
    ·have t1:decide (di (digs a) j < di (digs b) j)=false:=by simp [di];omega
     have t2:decide (di (digs b) j < di (digs a) j)=true:=by simp [di];omega
     have HG:=Lib.hid g
     clear g
     go_wp2
     go_quiet (fail)
     go_wp2
     go_quiet (fail)
     go_wp2
     go_ret
     exact ⟨by rw [← HA.out,← HB.out,cmp_more (l:=l) (by omega) (by omega) HZ.out HG.out];rfl,by simp only [World.drewN_drewN];exact below_drewN' _ _⟩
 ·have e:cmpN a b=1:=cmpN_gt (lt_of_len (by omega))
  have HE:=Lib.hid e
  clear e
  go_wp2
  go_ret
  exact ⟨by rw [← HA.out,← HB.out,HE.out];rfl,Below.refl _ _⟩
theorem canI_neg (z:Int):(canI z).neg=decide (z < 0):=rfl
namespace Pl
theorem cmp_nn {x y:Int} (hx:x < 0) (hy:y < 0):cmpN y.natAbs x.natAbs=sgn (x - y):=by unfold cmpN sgn;split <;> split <;> (try split) <;> (try split) <;> omega
theorem cmp_pp {x y:Int} (hx:¬x < 0) (hy:¬y < 0):cmpN x.natAbs y.natAbs=sgn (x - y):=by unfold cmpN sgn;split <;> split <;> (try split) <;> (try split) <;> omega
end Pl
def CanAt (x y:Int) (w:World) (wx:World) (A A':Option Addr) (n c n' c':Nat):Prop:=
 Bk wx w.heap.size 57 [.bool (decide (x < 0)),.slice A n c]∧Bk wx (w.heap.size+1) 57 [.bool (decide (y < 0)),.slice A' n' c']∧DigM wx (.slice A n c) (digs x.natAbs)∧DigM wx (.slice A' n' c') (digs y.natAbs)∧Below w.heap.size w wx
theorem IntM.dig {w:World} {b:Bool} {A:Option Addr} {n c:Nat} {a:RI} (h:IntM w (.agg #[.bool b,.slice A n c]) a):DigM w (.slice A n c) a.ds∧b=a.neg:=by
 obtain ⟨s,e,d⟩:=h
 simp at e
 obtain ⟨rfl,rfl⟩:=e
 exact ⟨d,rfl⟩
theorem boxes_i (w:World) (x y x' y':Value):∃W,(w.alloc (.cells #[x,y] 57)).alloc (.cells #[x',y'] 57)=W∧Bk W w.heap.size 57 [x,y]∧Bk W (w.heap.size+1) 57 [x',y']∧Below w.heap.size w W:=boxes w x y x' y'
theorem rcompare_any (v1 v2:Value) (a b:RI) (w:World) (h1:IntM w v1 a) (h2:IntM w v2 b) (hs:(digs (val a.ds)).length≤549755813888) (hs2:(digs (val b.ds)).length≤549755813888):
 Calls Tryz.prog 75 #[v1,v2] w fun e w'=>e= .returned (.int .i64 (sgn (a.z - b.z)))∧Below w.heap.size w w':=by
 obtain ⟨A,n,c,rfl,hd⟩:=h1.shape
 obtain ⟨A',n',c',rfl,hd'⟩:=h2.shape
 obtain ⟨W,hW,hX,hY,hbe⟩:=boxes_i w (.bool a.neg) (.slice A n c) (.bool b.neg) (.slice A' n' c')
 have i1:=h1.below hbe
 have i2:=h2.below hbe
 have hn1:w.heap.size≠w.heap.size+1:=by omega
 have tok:True:=trivial
 obtain ⟨x0,x1,f0,f1⟩:=hX.two
 obtain ⟨y0,y1,k0,k1⟩:=hY.two
 go_enter Tryz.func75,Tryz.ntmps75
 go_wp2_with fail
 clear hW
 go_upto_region 1 with (fail)
 go_cut [] (fun wx=>∃(A A':Option Addr) (n c n' c':Nat),CanAt a.z b.z w wx A A' n c n' c')
 case first=>
  go_region_with (first
   | (go_at_call 79;have _t:=tok;refine (canonI_any _ a _ (i1.keep (Keep.drew _)) hs).mono ?_;clear tok _t;rintro e w6 ⟨v6,rfl,e6,hb6⟩;obtain ⟨A6,n6,k6,rfl,_⟩:=e6.shape;obtain ⟨y0',y1',_,_⟩:=(hY.drew.later hb6).two)
   | (go_at_call 79;refine (canonI_any _ b _ ((i2.keep (Keep.drew _)).below hb6) hs2).mono ?_;rintro e w7 ⟨v7,rfl,e7,hb7⟩;obtain ⟨A7,n7,k7,rfl,_⟩:=e7.shape;obtain ⟨c0,c1,r0,r1⟩:=((hX.drew.later hb6).later hb7).two;obtain ⟨c0',c1',r0',r1'⟩:=((hY.drew.later hb6).later hb7).two))
  all_goals
   go_wp2_with fail
   go_meet
   obtain ⟨a1,a2,a3,a4,a5⟩:=fin_div ((hX.drew.later hb6).later hb7) ((hY.drew.later hb6).later hb7) hn1 (e6.below hb7) e7 (below_then (below_then hbe.drew hb6 hbe.size) hb7 (Nat.le_trans hbe.size hb6.size)) (by omega) (by omega)
   exact ⟨A6,A7,n6,k6,n7,k7,a1,a2,a3.dig.1,a4.dig.1,a5⟩
 case rest=>
  obtain ⟨B,B',m,d,m',d',bX,bY,dX,dY,be⟩:=hcut
  clear x0 x1 f0 f1 y0 y1 k0 k1 hX hY hbe i1 i2 h1 h2 hd hd'
  obtain ⟨x0,x1,_,_⟩:=bX.two
  obtain ⟨y0,y1,_,_⟩:=bY.two
  by_cases hx:a.z < 0
  ·by_cases hy:b.z < 0
   ·have HC:=Lib.hid (cmp_nn hx hy)
    rw [decide_eq_true hx] at x0
    rw [decide_eq_true hy] at y0
    clear hx hy
    go_wp2_with fail
    refine (rcompareDigits_any _ _ _ _ _ dY dX).mono ?_
    rw [val_digs,val_digs,HC.out]
    rintro e w3 ⟨rfl,hb3⟩
    go_wp2
    go_ret
    exact ⟨rfl,below_then be hb3 be.size⟩
   ·have HC:Hid (sgn (a.z - b.z)= -1):=Lib.hid (sgn_neg (by omega))
    rw [decide_eq_true hx] at x0
    rw [decide_eq_false hy] at y0
    clear hx hy
    go_wp2
    go_ret
    exact ⟨by rw [HC.out];rfl,be⟩
  ·by_cases hy:b.z < 0
   ·have HC:Hid (sgn (a.z - b.z)=1):=Lib.hid (sgn_pos (by omega))
    rw [decide_eq_false hx] at x0
    rw [decide_eq_true hy] at y0
    clear hx hy
    go_wp2
    go_ret
    exact ⟨by rw [HC.out];rfl,be⟩
   ·have HC:=Lib.hid (cmp_pp hx hy)
    rw [decide_eq_false hx] at x0
    rw [decide_eq_false hy] at y0
    clear hx hy
    go_wp2_with fail
    refine (rcompareDigits_any _ _ _ _ _ dX dY).mono ?_
    rw [val_digs,val_digs,HC.out]
    rintro e w3 ⟨rfl,hb3⟩
    go_wp2
    go_ret
    exact ⟨rfl,below_then be hb3 be.size⟩
theorem rsign_any (v:Value) (a:RI) (w:World) (h:IntM w v a) (hs:(digs (val a.ds)).length≤549755813888):
 Calls Tryz.prog 50 #[v] w fun e w'=>e= .returned (.int .i64 (sgn a.z))∧Below w.heap.size w w':=by
 obtain ⟨A,n,c,rfl,hd⟩:=h.shape
 have hX:=Bk.new w 57 [.bool a.neg,.slice A n c]
 have hbe:=below_new w (.cells [.bool a.neg,.slice A n c].toArray 57)
 have h':=h.below hbe
 obtain ⟨x0,x1,_,_⟩:=hX.two
 go_enter Tryz.func50,Tryz.ntmps50
 go_wp2_with fail
 generalize w.alloc _=W at *
 refine (rcompare_any _ _ a (canI 0) _ h' (IntM.zero _) hs (by rw [val_canI,Int.natAbs_zero,digs_zero];decide)).mono ?_
 rw [canI_z,Int.sub_zero]
 rintro e w1 ⟨rfl,hb1⟩
 go_wp2
 go_ret
 exact ⟨rfl,below_then hbe hb1 hbe.size⟩
theorem own_keep {w w':World} {base:Nat} {v:Value} {n:Nat} {xs:List Value} (h:w.ownsRow base 72 1 v n xs) (hk:Keep w w'):w'.ownsRow base 72 1 v n xs:=by
 refine ⟨h.1,?_⟩
 rcases h.2 with hn | ⟨g,cap,cur,rfl,hb,hgg,rest⟩
 ·exact .inl hn
 ·exact .inr ⟨g,cap,cur,rfl,hb,hk g _ _ hgg,rest⟩
theorem own_mono {w:World} {base base':Nat} {v:Value} {n:Nat} {xs:List Value} (h:w.ownsRow base 72 1 v n xs) (hb:base'≤base):w.ownsRow base' 72 1 v n xs:=by
 refine ⟨h.1,?_⟩
 rcases h.2 with hn | ⟨g,cap,cur,rfl,hb',rest⟩
 ·exact .inl hn
 ·exact .inr ⟨g,cap,cur,rfl,Nat.le_trans hb hb',rest⟩
def IntO (base:Nat) (w:World) (v:Value) (a:RI):Prop:=∃s,v= .agg #[.bool a.neg,s]∧w.ownsRow base 72 1 s a.ds.length (a.ds.map uc)∧okD a.ds
theorem IntO.int {base:Nat} {w:World} {v:Value} {a:RI} (h:IntO base w v a):IntM w v a:=by
 obtain ⟨s,h1,h2,h3⟩:=h
 exact ⟨s,h1,own_dig h2 h3⟩
theorem IntO.keep {base:Nat} {w w':World} {v:Value} {a:RI} (h:IntO base w v a) (hk:Keep w w'):IntO base w' v a:=by
 obtain ⟨s,h1,h2,h3⟩:=h
 exact ⟨s,h1,own_keep h2 hk,h3⟩
theorem IntO.below {base:Nat} {w w':World} {v:Value} {a:RI} (h:IntO base w v a) (hb:Below w.heap.size w w'):IntO base w' v a:=h.keep (Keep.of_below hb)
theorem IntO.mono {base base':Nat} {w:World} {v:Value} {a:RI} (h:IntO base w v a) (hb:base'≤base):IntO base' w v a:=by
 obtain ⟨s,h1,h2,h3⟩:=h
 exact ⟨s,h1,own_mono h2 hb,h3⟩
theorem IntO.zero (base:Nat) (w:World):IntO base w (.agg #[.bool false,.slice none 0 0]) (canI 0):=by
 rw [canI_zero];exact ⟨_,rfl,World.ownsRow_nil _ _ _ _,okD_nil⟩
theorem IntO.shape {base:Nat} {w:World} {v:Value} {a:RI} (h:IntO base w v a):∃A n c,v= .agg #[.bool a.neg,.slice A n c]:=by
 obtain ⟨A,n,c,hv,_⟩:=h.int.shape
 exact ⟨A,n,c,hv⟩
theorem fin_intO {w w2:World} {base m g:Nat} {x y b s:Value} {a:RI} (hR:Bk w2 g 57 [x,y]) (d:IntO base w2 (.agg #[b,s]) a) (hbe:Below m w w2) (hg:m≤g):
 ∃v',Ending.returned (.agg [b,s].toArray)= .returned v'∧IntO base ((w2.setCell ⟨g,0,none⟩ b).setCell ⟨g,1,none⟩ s) v' a∧Below m w ((w2.setCell ⟨g,0,none⟩ b).setCell ⟨g,1,none⟩ s):=
 ⟨_,rfl,d.keep (hR.keep2 (by decide) _ _),below_set2 hbe hg _ _⟩
theorem make_own (neg:Bool) (v:Value) (ds:List Nat) (w:World) (h:DigM w v ds) (hs:(digs (val ds)).length≤549755813888):
 Calls Tryz.prog 80 #[.bool neg,v] w fun e w'=>∃v',e= .returned v'∧IntO w.heap.size w' v' (canI (sm neg (val ds)))∧Below w.heap.size w w':=by
 have hR:=Bk.new w 57 [.bool false,.slice none 0 0]
 have hbe:=below_new w (.cells [.bool false,.slice none 0 0].toArray 57)
 have h':=h.below hbe
 obtain ⟨i0,hi,hz0,hz1,hz2⟩:=info_parts info_u32
 have HI:=Lib.hid hi
 have HZ0:=Lib.hid hz0
 have HZ1:=Lib.hid hz1
 have HZ2:=Lib.hid hz2
 clear hi hz0 hz1 hz2
 go_enter Tryz.func80,Tryz.ntmps80
 go_wp2_with fail
 generalize w.alloc _=W at *
 refine (rtrim_any _ ds _ h').mono ?_
 rintro e w1 ⟨v1,rfl,h1,rfl⟩
 obtain ⟨A,n,c,rfl⟩:=h1.shape
 obtain ⟨kl,kl',knc,kc⟩:=h1.len
 obtain ⟨c0,c1,f0,f1⟩:=hR.two
 rcases Nat.eq_zero_or_pos n with h0 | h0
 ·have hv:val ds=0:=len_zero (by omega)
  subst h0
  have HV:=Lib.hid hv
  clear hv kl kl' hs
  go_wp2
  refine ret_cell Tryz.results80 Tryz.underlying57 (by kernel_rfl) rfl (hR.set2 _ _) rfl ?_
  exact ⟨_,rfl,by rw [HV.out,sm_zero];exact IntO.zero _ _,below_set2 hbe (Nat.le_refl _) _ _⟩
 ·have hv:val ds≠0:=len_pos (by omega)
  have HV:=Lib.hid hv
  have HS:=Lib.hid hs
  obtain ⟨b,off,rfl,hb1,hcell1⟩:=h1.at_ h0
  clear hv hcell1 hs c0 c1 f0 f1
  have hln:(digs (val ds)).length=n:=by omega
  have HLN:=Lib.hid hln
  clear hln kl kl' kc knc
  go_wp2_with (at_builtin;refine wpList_append_own_at _ rfl (.const (.slice none 0 0)) (.tmp 12) _ rfl w.heap.size 72 i0 _ 1 4 Tryz.underlying55 HI.out HZ0.out HZ1.out HZ2.out rfl (by decide) (.slice none 0 0) 0 [] rfl ?c0 ⟨b,off,none⟩ n c ((digs (val ds)).map uc) rfl ?c1 ?c2 (uc_oneCell _) ?c3 ?c4 ?c5 ?_)
  case c0=>exact World.ownsRow_nil _ _ _ _
  case c1=>simp;exact HLN.out
  case c2=>exact h1.news
  case c3=>have:=HS.out;have:=HLN.out;unfold maxLen;omega
  case c4=>have:=HS.out;have:=HLN.out;omega
  case c5=>exact hbe.size
  ·intro v' w1 hown hgrow _ _
   have hown':w1.ownsRow w.heap.size 72 1 v' (digs (val ds)).length ((digs (val ds)).map uc):=by have:=HLN.out;simpa [this] using hown
   have dg':=own_dig hown' (okD_digs (val ds))
   have hR1:=hR.grown hgrow (by simp [Value.ownBlock])
   have hbe1:Below w.heap.size w w1:=hbe.grown hgrow hbe.size (fun k hk=>by simp [Value.ownBlock] at hk)
   obtain ⟨A1,n1,k1,rfl⟩:=dg'.shape
   obtain ⟨c0,c1,f0,f1⟩:=hR1.two
   clear hown hgrow
   go_wp2
   refine ret_cell Tryz.results80 Tryz.underlying57 (by kernel_rfl) rfl (hR1.set2 _ _) rfl ?_
   rw [canI_sm _ _ HV.out]
   exact fin_intO hR1 ⟨_,rfl,hown',okD_digs _⟩ hbe1 (Nat.le_refl _)
theorem canonI_own (v:Value) (a:RI) (w:World) (h:IntM w v a) (hs:(digs (val a.ds)).length≤549755813888):
 Calls Tryz.prog 79 #[v] w fun e w'=>∃v',e= .returned v'∧IntO w.heap.size w' v' (canI a.z)∧Below w.heap.size w w':=by
 obtain ⟨A,n,c,rfl,hd⟩:=h.shape
 obtain ⟨W,hW,hX,hR,hbe⟩:=box1 w (.bool a.neg) (.slice A n c)
 have hdX:=hd.below hbe
 obtain ⟨x0,x1,y0,y1⟩:=hX.two
 go_enter Tryz.func79,Tryz.ntmps79
 go_wp2_with fail
 clear hW
 refine (make_own _ _ a.ds _ hdX hs).mono ?_
 rw [← RI.z_eq]
 rintro e w1 ⟨v1,rfl,e1,hb1⟩
 obtain ⟨A1,n1,k1,rfl⟩:=e1.shape
 have hR1:=hR.later hb1
 obtain ⟨c0,c1,f0,f1⟩:=hR1.two
 go_wp2
 refine ret_cell Tryz.results79 Tryz.underlying57 (by kernel_rfl) rfl (hR1.set2 _ _) rfl ?_
 exact fin_intO hR1 (e1.mono hbe.size) (below_then hbe hb1 hbe.size) (by omega)
end Go.Proofs.YtgdcbjligbnpgaaGreat
