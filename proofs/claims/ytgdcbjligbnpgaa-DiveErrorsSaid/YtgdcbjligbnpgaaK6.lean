/- Lemmas of the claim; no condition. -/
import Derived.Test.YtgdcbjligbnpgaaK5
set_option linter.all false
set_option maxRecDepth 100000
set_option maxHeartbeats 40000000
namespace Go.Proofs.Ytgdcbjligbnpgaa
open Go.RowKit
open Pl
attribute [local go_sem ↓] Go.wp_at_zero Go.wp_at_succ
theorem boxes (w:World) (x y x' y':Value):∃W,(w.alloc (.cells #[x,y] 68)).alloc (.cells #[x',y'] 68)=W∧Bk W w.heap.size 68 [x,y]∧Bk W (w.heap.size+1) 68 [x',y']∧Below w.heap.size w W:=by
 refine ⟨_,rfl,(Bk.new w _ [x,y]).alloc _,?_,(below_new w _).alloc (by simp) _⟩
 have:=Bk.new (w.alloc (.cells #[x,y] 68)) 68 [x',y']
 rwa [size_alloc] at this
namespace Pl
theorem sgn_cmp (X Y:Nat):sgn ((X:Int) - Y)=cmpN X Y:=by
 unfold sgn cmpN
 rcases Nat.lt_trichotomy X Y with h | h | h
 ·rw [if_pos (by omega),if_pos h]
 ·subst h;simp
 ·rw [if_neg (by omega),if_neg (by omega),if_neg (by omega),if_neg (by omega)]
theorem cmpI_nn (X Y:Nat):sgn (sm true X - sm true Y)=cmpN Y X:=by rw [← sgn_cmp];simp [sm];congr 1;omega
theorem cmpI_pp (X Y:Nat):sgn (sm false X - sm false Y)=cmpN X Y:=by rw [← sgn_cmp];simp [sm]
theorem cmpI_np (X Y:Nat) (h:X≠0):sgn (sm true X - sm false Y)= -1:=by apply sgn_neg;simp [sm];omega
theorem cmpI_pn (X Y:Nat) (h:Y≠0):sgn (sm false X - sm true Y)=1:=by apply sgn_pos;simp [sm];omega
theorem sm_z {n:Nat} (h:n=0) (b:Bool):sm b n=sm false n:=by subst h;simp [sm]
end Pl
theorem compareI_any (v1 v2:Value) (a b:RI) (w:World) (h1:IntM w v1 a) (h2:IntM w v2 b):
 Calls Try.prog 56 #[v1,v2] w fun e w'=>e= .returned (.int .i64 (sgn (a.z - b.z)))∧Below w.heap.size w w':=by
 obtain ⟨A,n,c,rfl,hd⟩:=h1.shape
 obtain ⟨A',n',c',rfl,hd'⟩:=h2.shape
 obtain ⟨neg,ds⟩:=a
 obtain ⟨neg',ds'⟩:=b
 simp only at hd hd' ⊢
 obtain ⟨W,hW,hX,hX',hbe⟩:=boxes w (.bool neg) (.slice A n c) (.bool neg') (.slice A' n' c')
 have hdX:=hd.below hbe
 have hdX':=hd'.below hbe
 rw [RI.z_eq,RI.z_eq]
 simp only
 have tok:True:=trivial
 go_enter Try.func56,Try.ntmps56
 go_wp2_with fail
 clear hW
 obtain ⟨x0,x1,_,_⟩:=hX.two
 obtain ⟨x0',x1',_,_⟩:=hX'.two
 go_region_held3 (fun w'=>(w'.cell? ⟨w.heap.size,0,none⟩=some (.bool neg)∧w'.cell? ⟨w.heap.size,1,none⟩=some (.slice A n c))∧(w'.cell? ⟨w.heap.size+1,0,none⟩=some (.bool neg')∧w'.cell? ⟨w.heap.size+1,1,none⟩=some (.slice A' n' c')))
  (exact ⟨hX.pair,hX'.pair⟩)
  (first
   | (go_at_call 73;have _t:=tok;refine (trim_any _ ds _ (hdX.keep (Keep.drew _))).mono ?_;clear tok _t;rintro e w1 ⟨v1,rfl,e1,rfl⟩)
   | (go_at_call 73;refine (trim_any _ ds' _ (hdX'.keep (Keep.drew _))).mono ?_;rintro e w1 ⟨v2,rfl,e2,rfl⟩))
 have hX2:=hX.drew
 have hX2':=hX'.drew
 have hbe2:=hbe.drew
 clear hX hX' hbe hdX hdX' x0 x1 x0' x1'
 generalize W.drew=W2 at *
 obtain ⟨x0,x1,_,_⟩:=hX2.two
 obtain ⟨x0',x1',_,_⟩:=hX2'.two
 obtain ⟨A1,n1,c1,rfl⟩:=e1.shape
 obtain ⟨kl,kl',knc,kc⟩:=e1.len
 obtain ⟨A2,n2,c2,rfl⟩:=e2.shape
 obtain ⟨jl,jl',jnc,jc⟩:=e2.len
 have hx0:n1=0→val ds=0:=fun h=>len_zero (by omega)
 have hx1:0 < n1→val ds≠0:=fun h=>len_pos (by omega)
 have hy0:n2=0→val ds'=0:=fun h=>len_zero (by omega)
 have hy1:0 < n2→val ds'≠0:=fun h=>len_pos (by omega)
 have HX0:=Lib.hid hx0
 have HX1:=Lib.hid hx1
 have HY0:=Lib.hid hy0
 have HY1:=Lib.hid hy1
 clear hx0 hx1 hy0 hy1 kl kl' jl jl'
 cases neg
 ·cases neg'
  ·go_wp2_with fail
   refine (compareMag_any _ _ (val ds) (val ds') _ e1 e2).mono ?_
   rintro e w3 ⟨rfl,hb3⟩
   go_wp2
   go_ret
   exact ⟨by rw [cmpI_pp];rfl,below_then hbe2 hb3 hbe2.size⟩
  ·rcases Nat.eq_zero_or_pos n2 with h0 | h0
   ·have ZY:=Lib.hid (HY0.out h0);subst h0
    go_wp2_with fail
    refine (compareMag_any _ _ (val ds) (val ds') _ e1 e2).mono ?_
    rintro e w3 ⟨rfl,hb3⟩
    go_wp2
    go_ret
    exact ⟨by rw [sm_z ZY.out true,cmpI_pp];rfl,below_then hbe2 hb3 hbe2.size⟩
   ·go_wp2
    go_ret
    exact ⟨by rw [cmpI_pn _ _ (HY1.out h0)];rfl,hbe2⟩
 ·cases neg'
  ·rcases Nat.eq_zero_or_pos n1 with h0 | h0
   ·have ZX:=Lib.hid (HX0.out h0);subst h0
    go_wp2_with fail
    refine (compareMag_any _ _ (val ds) (val ds') _ e1 e2).mono ?_
    rintro e w3 ⟨rfl,hb3⟩
    go_wp2
    go_ret
    exact ⟨by rw [sm_z ZX.out true,cmpI_pp];rfl,below_then hbe2 hb3 hbe2.size⟩
   ·go_wp2
    go_ret
    exact ⟨by rw [cmpI_np _ _ (HX1.out h0)];rfl,hbe2⟩
  ·rcases Nat.eq_zero_or_pos n1 with h0 | h0
   ·have ZX:=Lib.hid (HX0.out h0);subst h0
    rcases Nat.eq_zero_or_pos n2 with h0 | h0
    ·have ZY:=Lib.hid (HY0.out h0);subst h0
     go_wp2_with fail
     refine (compareMag_any _ _ (val ds) (val ds') _ e1 e2).mono ?_
     rintro e w3 ⟨rfl,hb3⟩
     go_wp2
     go_ret
     exact ⟨by rw [sm_z ZX.out true,sm_z ZY.out true,cmpI_pp];rfl,below_then hbe2 hb3 hbe2.size⟩
    ·go_wp2
     go_ret
     exact ⟨by rw [sm_z ZX.out true,cmpI_pn _ _ (HY1.out h0)];rfl,hbe2⟩
   ·rcases Nat.eq_zero_or_pos n2 with h1 | h1
    ·have ZY:=Lib.hid (HY0.out h1);subst h1
     go_wp2
     go_ret
     exact ⟨by rw [sm_z ZY.out true,cmpI_np _ _ (HX1.out h0)];rfl,hbe2⟩
    ·go_wp2_with fail
     refine (compareMag_any _ _ (val ds') (val ds) _ e2 e1).mono ?_
     rintro e w3 ⟨rfl,hb3⟩
     go_wp2
     go_ret
     exact ⟨by rw [cmpI_nn];rfl,below_then hbe2 hb3 hbe2.size⟩
namespace Pl
theorem RI.Sm.canI_neg {a:RI} (h:a.Sm):(canI (-a.z)).Sm:=by
 unfold RI.Sm at h ⊢
 simp only [canI,val_digs,Int.natAbs_neg,z_natAbs]
 exact h
theorem sm_canI_small {z:Int} (h0: -9223372036854775808≤z) (h1:z≤9223372036854775807):(canI z).Sm:=by
 unfold RI.Sm
 simp only [canI,val_digs]
 have:=digs_lt (n:=z.natAbs) (k:=2) (by unfold B32;omega)
 omega
end Pl
theorem boxP (w:World) (x1 x2 x3 x4:Value):∃W,((w.alloc (.cells #[x1,x2,x3,x4] 70)).alloc (.cells #[.bool false,.slice none 0 0] 68)).alloc (.cells #[.bool false,.slice none 0 0] 68)=W∧Bk W w.heap.size 70 [x1,x2,x3,x4]∧
 Bk W (w.heap.size+1) 68 [.bool false,.slice none 0 0]∧Bk W (w.heap.size+1+1) 68 [.bool false,.slice none 0 0]∧Below w.heap.size w W:=by
 refine ⟨_,rfl,((Bk.new w _ [x1,x2,x3,x4]).alloc _).alloc _,?_,?_,((below_new w _).alloc (by simp) _).alloc (by simp;omega) _⟩
 ·have:=Bk.new (w.alloc (.cells #[x1,x2,x3,x4] 70)) 68 [.bool false,.slice none 0 0]
  rw [size_alloc] at this
  exact this.alloc _
 ·have:=Bk.new ((w.alloc (.cells #[x1,x2,x3,x4] 70)).alloc (.cells #[.bool false,.slice none 0 0] 68)) 68 [.bool false,.slice none 0 0]
  rwa [size_alloc,size_alloc] at this
def PartsPost (a:RF) (w:World) (e:Ending) (w':World):Prop:=
 ∃v1 v2 x y,e= .returned (.tuple #[v1,v2])∧IntM w' v1 x∧IntM w' v2 y∧0 < y.z∧Rat.divInt x.z y.z=a.q∧x.Sm∧y.Sm∧Below w.heap.size w w'
theorem parts_any (v:Value) (a:RF) (w:World) (h:FracM w v a) (hs:a.Sm):
 Calls Try.prog 55 #[v] w (PartsPost a w):=by
 obtain ⟨A,n,c,A',n',c',rfl,hd,hd'⟩:=h
 obtain ⟨⟨neg,ds⟩,⟨neg',ds'⟩⟩:=a
 obtain ⟨hs1,hs2⟩:=hs
 simp only at hd hd' ⊢
 obtain ⟨W,hW,hX,hR,hR',hbe⟩:=boxP w (.bool neg) (.slice A n c) (.bool neg') (.slice A' n' c')
 have e1:IntM W (.agg #[.bool neg,.slice A n c]) ⟨neg,ds⟩:=⟨_,rfl,hd.below hbe⟩
 have e2:IntM W (.agg #[.bool neg',.slice A' n' c']) ⟨neg',ds'⟩:=⟨_,rfl,hd'.below hbe⟩
 obtain ⟨p1,p2,p3,p4⟩:=hX.four
 go_enter Try.func55,Try.ntmps55
 go_wp2_with fail
 clear hW
 refine (sign_any _ ⟨neg',ds'⟩ _ e2).mono ?_
 rintro e w1 ⟨rfl,hb1⟩
 have hX1:=hX.later hb1
 have hR1:=hR.later hb1
 have hR1':=hR'.later hb1
 have hbe1:=below_then hbe hb1 hbe.size
 have e11:=e1.below hb1
 have e21:=e2.below hb1
 clear hX hR hR' hbe e1 e2 hb1 p1 p2 p3 p4
 have hn1:w.heap.size+1≠w.heap.size+1+1:=by omega
 have hn2:w.heap.size≠w.heap.size+1:=by omega
 have hn3:w.heap.size≠w.heap.size+1+1:=by omega
 obtain ⟨p1,p2,p3,p4⟩:=hX1.four
 rcases Int.lt_trichotomy (RI.z ⟨neg',ds'⟩) 0 with hz | hz | hz
 ·have HZ:=Lib.hid hz
  rw [sgn_neg hz]
  clear hz
  go_wp2_with fail
  have tok:True:=trivial
  go_region_held3 (fun w'=>w'.cell? ⟨w.heap.size,0,none⟩=some (.bool neg)∧w'.cell? ⟨w.heap.size,1,none⟩=some (.slice A n c)∧w'.cell? ⟨w.heap.size,2,none⟩=some (.bool neg')∧w'.cell? ⟨w.heap.size,3,none⟩=some (.slice A' n' c'))
   (first | with_reducible exact hX1.four | with_reducible exact hX1.drew.four | with_reducible exact (hX1.drew.later hb6).four | with_reducible exact ((hX1.drew.later hb6).later hb7).four | with_reducible exact (((hX1.drew.later hb6).later hb7).far2 hn2 _ _).four | with_reducible exact ((((hX1.drew.later hb6).later hb7).far2 hn2 _ _).far2 hn3 _ _).four)
   (first
    | (go_at_call 78;have _t:=tok;refine (negate_any _ ⟨neg,ds⟩ _ (e11.keep (Keep.drew _)) (Nat.le_trans hs1 (by decide))).mono ?_;clear tok _t;rintro e w6 ⟨v6,rfl,e6,hb6⟩;obtain ⟨A6,n6,k6,rfl,_⟩:=e6.shape)
    | (go_at_call 78;refine (negate_any _ ⟨neg',ds'⟩ _ ((e21.keep (Keep.drew _)).below hb6) (Nat.le_trans hs2 (by decide))).mono ?_;rintro e w7 ⟨v7,rfl,e7,hb7⟩;obtain ⟨A7,n7,k7,rfl,_⟩:=e7.shape;obtain ⟨c0,c1,f0,f1⟩:=((hR1.drew.later hb6).later hb7).two;obtain ⟨c0',c1',f0',f1'⟩:=((hR1'.drew.later hb6).later hb7).two))
  go_wp2
  obtain ⟨a1,a2,a3,a4,a5⟩:=fin_div ((hR1.drew.later hb6).later hb7) ((hR1'.drew.later hb6).later hb7) hn1 (e6.below hb7) e7 (below_then (below_then hbe1.drew hb6 hbe1.size) hb7 (Nat.le_trans hbe1.size hb6.size)) (by omega) (by omega)
  refine ret_cc Try.results55 Try.underlying68 Try.underlying68 (by kernel_rfl) (by kernel_rfl) rfl rfl a1 a2 rfl ?_
  refine ⟨_,_,_,_,rfl,a3,a4,?_,?_,RI.Sm.canI_neg hs1,RI.Sm.canI_neg hs2,a5⟩
  ·rw [canI_z];have:=HZ.out;omega
  ·rw [canI_z,canI_z,Rat.neg_divInt_neg];rfl
 ·have HZ:=Lib.hid hz
  rw [hz,sgn_zero]
  clear hz
  go_wp2_with fail
  refine (fromInt64_any 1 _ (by omega) (by omega)).mono ?_
  rintro e w2 ⟨v2,rfl,e6,hb2⟩
  obtain ⟨A2,n2,k2,rfl,_⟩:=e6.shape
  have hR2:=hR1.later hb2
  have hR2':=hR1'.later hb2
  have hbe2:=below_then hbe1 hb2 hbe1.size
  obtain ⟨c0,c1,f0,f1⟩:=hR2.two
  obtain ⟨c0',c1',f0',f1'⟩:=hR2'.two
  go_wp2
  obtain ⟨a1,a2,a3,a4,a5⟩:=fin_div hR2 hR2' hn1 (IntM.zero w2) e6 hbe2 (by omega) (by omega)
  refine ret_cc Try.results55 Try.underlying68 Try.underlying68 (by kernel_rfl) (by kernel_rfl) rfl rfl a1 a2 rfl ?_
  refine ⟨_,_,_,_,rfl,a3,a4,?_,?_,sm_canI_small (by omega) (by omega),sm_canI_small (by omega) (by omega),a5⟩
  ·rw [canI_z];omega
  ·rw [canI_z,canI_z,Rat.zero_divInt]
   show _=Rat.divInt (RI.z _) (RI.z _)
   rw [HZ.out,Rat.divInt_zero]
 ·have HZ:=Lib.hid hz
  rw [sgn_pos hz]
  clear hz
  obtain ⟨c0,c1,f0,f1⟩:=hR1.two
  obtain ⟨c0',c1',f0',f1'⟩:=hR1'.two
  go_wp2_with fail
  go_region_held3 (fun w'=>w'.cell? ⟨w.heap.size,0,none⟩=some (.bool neg)∧w'.cell? ⟨w.heap.size,1,none⟩=some (.slice A n c)∧w'.cell? ⟨w.heap.size,2,none⟩=some (.bool neg')∧w'.cell? ⟨w.heap.size,3,none⟩=some (.slice A' n' c'))
   (first | with_reducible exact hX1.four | with_reducible exact hX1.drew.four | with_reducible exact (hX1.far2 hn2 _ _).drew.four | with_reducible exact ((hX1.far2 hn2 _ _).far2 hn3 _ _).drew.four)
   (fail)
  go_wp2
  obtain ⟨a1,a2,a3,a4,a5⟩:=fin_div hR1 hR1' hn1 e11 e21 hbe1 (by omega) (by omega)
  refine ret_cc Try.results55 Try.underlying68 Try.underlying68 (by kernel_rfl) (by kernel_rfl) rfl rfl a1.drew a2.drew rfl ?_
  exact ⟨_,_,_,_,rfl,a3.keep (Keep.drew _),a4.keep (Keep.drew _),HZ.out,rfl,hs1,hs2,a5.drew⟩
namespace Pl
def qs (q:Rat):Int:=sgn q.num
theorem sgn_div {x g:Int} (hg:0 < g) (h:g∣x):sgn (x / g)=sgn x:=by
 obtain ⟨k,rfl⟩:=h
 rw [Int.mul_ediv_cancel_left _ (by omega)]
 unfold sgn
 rcases Int.lt_trichotomy k 0 with h | h | h
 ·rw [if_pos h,if_pos (Int.mul_neg_of_pos_of_neg hg h)]
 ·subst h;simp
 ·have:=Int.mul_pos hg h
  rw [if_neg (by omega),if_neg (by omega),if_neg (by omega),if_neg (by omega)]
theorem qs_divInt (n d:Int):qs (Rat.divInt n d)=sgn n * sgn d:=by
 unfold qs
 rw [Rat.num_divInt]
 rcases Int.lt_trichotomy d 0 with h | h | h
 ·have hg:0 < ((Int.gcd d n:Nat):Int):=by have:=Int.gcd_pos_of_ne_zero_left n (show d≠0 by omega);omega
  rw [Int.sign_eq_neg_one_of_neg h,sgn_div hg (Int.dvd_mul_of_dvd_right (Int.gcd_dvd_right ..)),sgn_neg h]
  unfold sgn
  rcases Int.lt_trichotomy n 0 with k | k | k
  ·rw [if_neg (by omega),if_neg (by omega),if_pos k];rfl
  ·subst k;simp
  ·rw [if_pos (by omega),if_neg (by omega),if_neg (by omega)];rfl
 ·subst h;simp [sgn_zero]
 ·have hg:0 < ((Int.gcd d n:Nat):Int):=by have:=Int.gcd_pos_of_ne_zero_left n (show d≠0 by omega);omega
  rw [Int.sign_eq_one_of_pos h,sgn_div hg (Int.dvd_mul_of_dvd_right (Int.gcd_dvd_right ..)),sgn_pos h,Int.one_mul,Int.mul_one]
theorem sgn_bd (z:Int): -1≤sgn z∧sgn z≤1:=by unfold sgn;split;omega;split <;> omega
theorem qs_bd (q:Rat): -1≤qs q∧qs q≤1:=sgn_bd _
end Pl
theorem signF_any (v:Value) (a:RF) (w:World) (h:FracM w v a):
 Calls Try.prog 36 #[v] w fun e w'=>e= .returned (.int .i64 (qs a.q))∧Below w.heap.size w w':=by
 obtain ⟨A,n,c,A',n',c',rfl,hd,hd'⟩:=h
 have hX:=Bk.new w 70 [.bool a.num.neg,.slice A n c,.bool a.den.neg,.slice A' n' c']
 have hbe:=below_new w (.cells [.bool a.num.neg,.slice A n c,.bool a.den.neg,.slice A' n' c'].toArray 70)
 have e1:IntM w (.agg #[.bool a.num.neg,.slice A n c]) a.num:=⟨_,rfl,hd⟩
 have e2:IntM w (.agg #[.bool a.den.neg,.slice A' n' c']) a.den:=⟨_,rfl,hd'⟩
 have e1:=e1.below hbe
 have e2:=e2.below hbe
 have HS:=Lib.hid (qs_divInt a.num.z a.den.z)
 have hw:IntKind.i64.wrap (sgn a.num.z * sgn a.den.z)=sgn a.num.z * sgn a.den.z:=by
  have:=sgn_bd a.num.z
  have:=sgn_bd a.den.z
  rw [← HS.out]
  have:=qs_bd (Rat.divInt a.num.z a.den.z)
  simp only [IntKind.wrap,IntKind.bits,IntKind.signed];simp;omega
 have tok:True:=trivial
 go_enter Try.func36,Try.ntmps36
 go_wp2_with fail
 generalize w.alloc _=W at *
 go_region_held3 (fun w'=>w'.cell? ⟨w.heap.size,0,none⟩=some (.bool a.num.neg)∧w'.cell? ⟨w.heap.size,1,none⟩=some (.slice A n c)∧w'.cell? ⟨w.heap.size,2,none⟩=some (.bool a.den.neg)∧w'.cell? ⟨w.heap.size,3,none⟩=some (.slice A' n' c'))
  (first | with_reducible exact hX.four | with_reducible exact hX.drew.four | with_reducible exact (hX.drew.later hb6).four | with_reducible exact ((hX.drew.later hb6).later hb7).four)
  (first
   | (go_at_call 52;have _t:=tok;refine (sign_any _ a.num _ (e1.keep (Keep.drew _))).mono ?_;clear tok _t;rintro e w6 ⟨rfl,hb6⟩)
   | (go_at_call 52;refine (sign_any _ a.den _ ((e2.keep (Keep.drew _)).below hb6)).mono ?_;rintro e w7 ⟨rfl,hb7⟩))
 go_wp2
 go_ret
 refine ⟨?_,below_then (below_then hbe.drew hb6 hbe.size) hb7 (Nat.le_trans hbe.size hb6.size)⟩
 rw [show qs a.q=sgn a.num.z * sgn a.den.z from HS.out]
 rfl
namespace Pl
theorem qs_sub {n d m k:Int} (hd:0 < d) (hk:0 < k):qs (Rat.divInt n d - Rat.divInt m k)=sgn (n * k - m * d):=by
 rw [Rat.divInt_sub_divInt _ _ (by omega) (by omega),qs_divInt,sgn_pos (Int.mul_pos hd hk),Int.mul_one]
theorem okq_cmp {n d m k:Int} {p q:Rat} (h:okq n d p) (g:okq m k q):((-9223372036854775807≤n * k∧n * k≤9223372036854775807)∧(-9223372036854775807≤m * d∧m * d≤9223372036854775807))∧qs (p - q)=sgn (n * k - m * d):=by
 obtain ⟨⟨a1,a2⟩,a3,a4,rfl⟩:=h
 obtain ⟨⟨b1,b2⟩,b3,b4,rfl⟩:=g
 exact ⟨⟨okq_mul.prod_bd (by omega) (by omega) (by omega) (by omega),okq_mul.prod_bd (by omega) (by omega) (by omega) (by omega)⟩,qs_sub a3 b3⟩
end Pl
theorem compareF_any (v1 v2:Value) (a b:RF) (w:World) (h1:FracM w v1 a) (h2:FracM w v2 b) (hs:a.Sm) (hs2:b.Sm):
 Calls Try.prog 39 #[v1,v2] w fun e w'=>e= .returned (.int .i64 (qs (a.q - b.q)))∧Below w.heap.size w w':=by
 obtain ⟨A,n,c,A',n',c',rfl,hd,hd'⟩:=id h1
 obtain ⟨B,m,d,B',m',d',rfl,ke,ke'⟩:=id h2
 obtain ⟨W,hW,hsz,hX,hY,hbe⟩:=boxF2 w (.bool a.num.neg) (.slice A n c) (.bool a.den.neg) (.slice A' n' c') (.bool b.num.neg) (.slice B m d) (.bool b.den.neg) (.slice B' m' d')
 have e1:=h1.below hbe
 have e2:=h2.below hbe
 obtain ⟨p1,p2,p3,p4⟩:=hX.four
 obtain ⟨r1,r2,r3,r4⟩:=hY.four
 clear h1 h2 hd hd' ke ke'
 go_enter Try.func39,Try.ntmps39
 go_wp2_with fail
 clear hW
 refine (small_any _ _ a b _ e1 e2).mono ?_
 rintro e w1 ⟨x,y,z,u,ok,rfl,hq,hb1⟩
 have HQ:=Lib.hid hq
 have hX1:=hX.later hb1
 have hY1:=hY.later hb1
 have hbe1:=below_then hbe hb1 hbe.size
 have e11:=e1.below hb1
 have e21:=e2.below hb1
 clear hq hX hY hbe e1 e2 hb1 p1 p2 p3 p4 r1 r2 r3 r4
 obtain ⟨W2,hW2,bW,bV,bn⟩:=words2 w1 x y z u
 have hX2:=hX1.later bn
 have hY2:=hY1.later bn
 have hbe2:=below_then hbe1 bn hbe1.size
 have e12:=e11.below bn
 have e22:=e21.below bn
 clear hX1 hY1 hbe1 e11 e21 bn
 cases ok
 ·obtain ⟨p1,p2,p3,p4⟩:=hX2.four
  clear HQ
  go_wp2_with fail
  clear hW2
  refine (parts_any _ a _ e12 hs).mono ?_
  rintro e w3 ⟨v1,v2,N,D,rfl,iN,iD,hD,hq1,sN,sD,hb3⟩
  have HD:=Lib.hid hD
  have HQ1:=Lib.hid hq1
  obtain ⟨A3,n3,k3,rfl,_⟩:=iN.shape
  obtain ⟨A4,n4,k4,rfl,_⟩:=iD.shape
  obtain ⟨W3,hW3,bN,bD,bn⟩:=boxes w3 (.bool N.neg) (.slice A3 n3 k3) (.bool D.neg) (.slice A4 n4 k4)
  have hb33:=below_then hb3 bn hb3.size
  have hY3:=hY2.later hb33
  have hbe3:=below_then hbe2 hb33 hbe2.size
  have e23:=e22.below hb33
  have iN3:=iN.below bn
  have iD3:=iD.below bn
  clear hD hq1 hX2 hY2 hbe2 e12 e22 hb3 hb33 bn iN iD p1 p2 p3 p4 bW bV hs
  obtain ⟨r1,r2,r3,r4⟩:=hY3.four
  go_wp2_with fail
  clear hW3
  refine (parts_any _ b _ e23 hs2).mono ?_
  rintro e w5 ⟨v1,v2,N',D',rfl,jN,jD,hD',hq2,sN',sD',hb5⟩
  have HD':=Lib.hid hD'
  have HQ2:=Lib.hid hq2
  obtain ⟨A5,n5,k5,rfl,_⟩:=jN.shape
  obtain ⟨A6,n6,k6,rfl,_⟩:=jD.shape
  obtain ⟨W5,hW5,bN',bD',bn⟩:=boxes w5 (.bool N'.neg) (.slice A5 n5 k5) (.bool D'.neg) (.slice A6 n6 k6)
  have hb55:=below_then hb5 bn hb5.size
  have bN5:=bN.later hb55
  have bD5:=bD.later hb55
  have hbe5:=below_then hbe3 hb55 hbe3.size
  have iN5:=iN3.below hb55
  have iD5:=iD3.below hb55
  have jN5:=jN.below bn
  have jD5:=jD.below bn
  clear hD' hq2 hY3 hbe3 e23 hb5 hb55 bn jN jD r1 r2 r3 r4 bN bD iN3 iD3 hs2
  obtain ⟨x0,x1,_,_⟩:=bN5.two
  obtain ⟨y0,y1,_,_⟩:=bD5.two
  obtain ⟨x0',x1',_,_⟩:=bN'.two
  obtain ⟨y0',y1',_,_⟩:=bD'.two
  have tok:True:=trivial
  go_wp2_with fail
  clear hW5
  go_region_held3 (fun w'=>(w'.cell? ⟨w3.heap.size,0,none⟩=some (.bool N.neg)∧w'.cell? ⟨w3.heap.size,1,none⟩=some (.slice A3 n3 k3))∧(w'.cell? ⟨w3.heap.size+1,0,none⟩=some (.bool D.neg)∧w'.cell? ⟨w3.heap.size+1,1,none⟩=some (.slice A4 n4 k4))∧(w'.cell? ⟨w5.heap.size,0,none⟩=some (.bool N'.neg)∧w'.cell? ⟨w5.heap.size,1,none⟩=some (.slice A5 n5 k5))∧(w'.cell? ⟨w5.heap.size+1,0,none⟩=some (.bool D'.neg)∧w'.cell? ⟨w5.heap.size+1,1,none⟩=some (.slice A6 n6 k6)))
   (first | with_reducible exact ⟨bN5.pair,bD5.pair,bN'.pair,bD'.pair⟩ | with_reducible exact ⟨bN5.drew.pair,bD5.drew.pair,bN'.drew.pair,bD'.drew.pair⟩ | with_reducible exact ⟨(bN5.drew.later hb6).pair,(bD5.drew.later hb6).pair,(bN'.drew.later hb6).pair,(bD'.drew.later hb6).pair⟩ | with_reducible exact ⟨((bN5.drew.later hb6).later hb7).pair,((bD5.drew.later hb6).later hb7).pair,((bN'.drew.later hb6).later hb7).pair,((bD'.drew.later hb6).later hb7).pair⟩ | with_reducible exact ⟨(((bN5.drew.later hb6).later hb7).later hb8).pair,(((bD5.drew.later hb6).later hb7).later hb8).pair,(((bN'.drew.later hb6).later hb7).later hb8).pair,(((bD'.drew.later hb6).later hb7).later hb8).pair⟩)
   (first
    | (go_at_call 57;have _t:=tok;refine (mulI_any _ _ N D' _ (iN5.keep (Keep.drew _)) (jD5.keep (Keep.drew _)) (RI.Sm.two sN sD')).mono ?_;clear tok _t;rintro e w6 ⟨v6,rfl,e6,hb6⟩)
    | (go_at_call 57;refine (mulI_any _ _ N' D _ ((jN5.keep (Keep.drew _)).below hb6) ((iD5.keep (Keep.drew _)).below hb6) (RI.Sm.two sN' sD)).mono ?_;rintro e w7 ⟨v7,rfl,e7,hb7⟩)
    | (go_at_call 56;refine (compareI_any _ _ (canI (N.z * D'.z)) (canI (N'.z * D.z)) _ (e6.below hb7) e7).mono ?_;rintro e w8 ⟨rfl,hb8⟩))
  go_wp2
  go_ret
  have bb0:=below_then hbe5.drew hb6 hbe5.size
  have bb1:=below_then bb0 hb7 bb0.size
  refine ⟨?_,below_then bb1 hb8 bb1.size⟩
  rw [← HQ1.out,← HQ2.out,qs_sub HD.out HD'.out,canI_z,canI_z]
  rfl
 ·obtain ⟨⟨⟨b1,b2⟩,⟨b3,b4⟩⟩,hval⟩:=okq_cmp (HQ.out rfl).1 (HQ.out rfl).2
  have HV:=Lib.hid hval
  obtain ⟨q0,q1,_,_⟩:=bW.two
  obtain ⟨s0,s1,_,_⟩:=bV.two
  clear hval HQ
  have t1:IntKind.i64.wrap (x * u)=x * u:=by simp only [IntKind.wrap,IntKind.bits,IntKind.signed];simp;omega
  have t2:IntKind.i64.wrap (z * y)=z * y:=by simp only [IntKind.wrap,IntKind.bits,IntKind.signed];simp;omega
  rcases Int.lt_trichotomy (x * u) (z * y) with hlt | heq | hgt
  ·go_wp2
   clear hW2
   go_quiet (fail)
   go_wp2
   go_ret
   exact ⟨by rw [HV.out,sgn_neg (by omega)];rfl,below_then hbe2 (below_drewN' _ _) hbe2.size⟩
  ·have t3:decide (x * u < z * y)=false:=by simp;omega
   have t4:decide (z * y < x * u)=false:=by simp;omega
   have HEQ:=Lib.hid heq
   clear heq
   go_wp2
   clear hW2
   go_quiet (fail)
   go_wp2
   go_ret
   exact ⟨by rw [HV.out,HEQ.out,Int.sub_self,sgn_zero];rfl,below_then hbe2 (below_drewN' _ _) hbe2.size⟩
  ·have t3:decide (x * u < z * y)=false:=by simp;omega
   go_wp2
   clear hW2
   go_quiet (fail)
   go_wp2
   go_ret
   exact ⟨by rw [HV.out,sgn_pos (by omega)];rfl,below_then hbe2 (below_drewN' _ _) hbe2.size⟩
end Go.Proofs.Ytgdcbjligbnpgaa
