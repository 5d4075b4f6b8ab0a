/- Contracts and plain facts that the claim is built on, joined out of smaller texts; no condition. -/
import Derived.Test.YtncmobkhenfhpaaGreatB11
set_option linter.unusedVariables false
set_option linter.unusedSimpArgs false
set_option maxRecDepth 100000
set_option maxHeartbeats 40000000
namespace Go.Proofs.YtncmobkhenfhpaaGreat
open Go.RowKit
open Pl
attribute [local go_sem ↓] Go.wp_at_zero Go.wp_at_succ
theorem boxes4 (w:World) (x y x' y':Value):∃W,(((w.alloc (.cells #[x,y] 46)).alloc (.cells #[x',y'] 46)).alloc (.cells #[.bool false,.slice none 0 0] 46)).alloc (.cells #[.bool false,.slice none 0 0] 46)=W∧
 Bk W w.heap.size 46 [x,y]∧Bk W (w.heap.size+1) 46 [x',y']∧Bk W (w.heap.size+1+1) 46 [.bool false,.slice none 0 0]∧Bk W (w.heap.size+1+1+1) 46 [.bool false,.slice none 0 0]∧Below w.heap.size w W:=by
 obtain ⟨W,hW,h1,h2,h3,h4⟩:=box2 w x y x' y'
 refine ⟨_,by rw [hW],h1.alloc _,h2.alloc _,h3.alloc _,?_,h4.alloc h4.size _⟩
 have:=Bk.new W 46 [.bool false,.slice none 0 0]
 rwa [← hW,size_alloc,size_alloc,size_alloc,hW] at this
namespace Pl
theorem fdiv_unique {a b q r:Int} (h:a=b * q+r) (hr:(0≤r∧r < b)∨(b < r∧r≤0)):a.fdiv b=q∧a.fmod b=r:=by
 have key:a.fdiv b=q:=by
  rcases hr with ⟨r0,r1⟩ | ⟨r0,r1⟩
  ·rw [Int.fdiv_eq_ediv_of_nonneg _ (by omega)]
   exact ((Int.ediv_emod_unique (by omega)).2 ⟨by omega,r0,r1⟩).1
  ·rw [← Int.neg_fdiv_neg,Int.fdiv_eq_ediv_of_nonneg _ (by omega)]
   refine ((Int.ediv_emod_unique (a:= -a) (b:= -b) (r:= -r) (q:=q) (by omega)).2 ⟨?_,by omega,by omega⟩).1
   rw [h,Int.neg_mul];omega
 refine ⟨key,?_⟩
 rw [Int.fmod_def,key];omega
theorem sm_div_same {a b:Bool} {X Y:Nat} (hY:0 < Y) (h:X % Y=0∨a=b):(sm a X).fdiv (sm b Y)=sm (a !=b) (X / Y)∧(sm a X).fmod (sm b Y)=sm b (X % Y):=by
 have e:=Nat.div_add_mod X Y
 have l:=Nat.mod_lt X hY
 generalize X / Y=q at *
 generalize X % Y=r at *
 have e':(Y:Int) * q+r=X:=by rw [← e];simp
 apply fdiv_unique
 ·rw [sm,sm,sm,sm,← e']
  rcases h with h | h
  ·subst h;cases a <;> cases b <;> simp [Int.neg_mul,Int.mul_neg]
  ·subst h;cases a <;> simp [Int.neg_mul];omega
 ·cases b <;> simp [sm] <;> omega
theorem sm_div_diff {a b:Bool} {X Y:Nat} (hY:0 < Y) (h:X % Y≠0) (hab:a≠b):(sm a X).fdiv (sm b Y)=sm (a !=b) (X / Y+1)∧(sm a X).fmod (sm b Y)=sm b (Y - X % Y):=by
 have e:=Nat.div_add_mod X Y
 have l:=Nat.mod_lt X hY
 generalize X / Y=q at *
 generalize X % Y=r at *
 have e':(Y:Int) * q+r=X:=by rw [← e];simp
 have e2:((Y - r:Nat):Int)=Y - r:=by omega
 apply fdiv_unique
 ·rw [sm,sm,sm,sm,← e',e2]
  cases a <;> cases b <;> simp [Int.neg_mul,Int.mul_neg,Int.mul_add] at hab ⊢ <;> omega
 ·cases b <;> simp [sm] <;> omega
end Pl
theorem Bk.far2 {w:World} {g g':Nat} {t:TypeId} {cs:List Value} (h:Bk w g t cs) (hne:g≠g') (c d:Value):Bk ((w.setCell ⟨g',0,none⟩ c).setCell ⟨g',1,none⟩ d) g t cs:=
 (h.far (p:=⟨g',0,none⟩) hne c).far (p:=⟨g',1,none⟩) hne d
theorem fin_div {w w4:World} {g g':Nat} {x y x' y' b s b' s':Value} {q r:RI} (hR:Bk w4 g 46 [x,y]) (hR':Bk w4 g' 46 [x',y']) (hne:g≠g') (dq:IntM w4 (.agg #[b,s]) q) (dr:IntM w4 (.agg #[b',s']) r) {m:Nat} (hbe:Below m w w4) (hg:m≤g) (hg':m≤g'):
 Bk ((((w4.setCell ⟨g,0,none⟩ b).setCell ⟨g,1,none⟩ s).setCell ⟨g',0,none⟩ b').setCell ⟨g',1,none⟩ s') g 46 [b,s]∧Bk ((((w4.setCell ⟨g,0,none⟩ b).setCell ⟨g,1,none⟩ s).setCell ⟨g',0,none⟩ b').setCell ⟨g',1,none⟩ s') g' 46 [b',s']∧
 IntM ((((w4.setCell ⟨g,0,none⟩ b).setCell ⟨g,1,none⟩ s).setCell ⟨g',0,none⟩ b').setCell ⟨g',1,none⟩ s') (.agg #[b,s]) q∧IntM ((((w4.setCell ⟨g,0,none⟩ b).setCell ⟨g,1,none⟩ s).setCell ⟨g',0,none⟩ b').setCell ⟨g',1,none⟩ s') (.agg #[b',s']) r∧Below m w ((((w4.setCell ⟨g,0,none⟩ b).setCell ⟨g,1,none⟩ s).setCell ⟨g',0,none⟩ b').setCell ⟨g',1,none⟩ s'):=by
 have h1:=hR.set2 b s
 have h2:Bk ((w4.setCell ⟨g,0,none⟩ b).setCell ⟨g,1,none⟩ s) g' 46 [x',y']:=(hR'.far (p:=⟨g,0,none⟩) (Ne.symm hne) b).far (p:=⟨g,1,none⟩) (Ne.symm hne) s
 have k1:=hR.keep2 (by decide) b s
 have k2:=h2.keep2 (by decide) b' s'
 exact ⟨(h1.far (p:=⟨g',0,none⟩) hne b').far (p:=⟨g',1,none⟩) hne s',h2.set2 b' s',dq.keep (k1.trans k2),dr.keep (k1.trans k2),below_set2 (below_set2 hbe hg _ _) hg' _ _⟩
def DivPost (a b:RI) (w:World) (e:Ending) (w':World):Prop:=
 ∃q r,e= .returned (.tuple #[q,r,.int .i64 (if b.z=0 then 11 else 0)])∧IntM w' q (canI (if b.z=0 then 0 else a.z.fdiv b.z))∧IntM w' r (canI (if b.z=0 then 0 else a.z.fmod b.z))∧Below w.heap.size w w'
theorem divModI_any (v1 v2:Value) (a b:RI) (w:World) (h1:IntM w v1 a) (h2:IntM w v2 b) (hs:(digs (val a.ds)).length≤549755813888) (hs2:(digs (val b.ds)).length≤549755813888):
 Calls Tryz.prog 148 #[v1,v2] w (DivPost a b w):=by
 obtain ⟨A,n,c,rfl,hd⟩:=h1.shape
 obtain ⟨A',n',c',rfl,hd'⟩:=h2.shape
 obtain ⟨neg,ds⟩:=a
 obtain ⟨neg',ds'⟩:=b
 simp only at hd hd' hs hs2 ⊢
 obtain ⟨W,hW,hX,hX',hR,hR',hbe⟩:=boxes4 w (.bool neg) (.slice A n c) (.bool neg') (.slice A' n' c')
 have hdX:=hd.below hbe
 have hdX':=hd'.below hbe
 have tok:True:=trivial
 go_enter Tryz.func148,Tryz.ntmps148
 go_wp2_with fail
 clear hW
 go_region_held3 (fun w'=>(w'.cell? ⟨w.heap.size,0,none⟩=some (.bool neg)∧w'.cell? ⟨w.heap.size,1,none⟩=some (.slice A n c))∧(w'.cell? ⟨w.heap.size+1,0,none⟩=some (.bool neg')∧w'.cell? ⟨w.heap.size+1,1,none⟩=some (.slice A' n' c')))
  (exact ⟨hX.pair,hX'.pair⟩)
  (first
   | (go_at_call 143;have _t:=tok;refine (trim_any _ ds _ (hdX.keep (Keep.drew _))).mono ?_;clear tok _t;rintro e w1 ⟨v1,rfl,e1,rfl⟩)
   | (go_at_call 143;refine (trim_any _ ds' _ (hdX'.keep (Keep.drew _))).mono ?_;rintro e w1 ⟨v2,rfl,e2,rfl⟩))
 have hX2:=hX.drew
 have hX2':=hX'.drew
 have hR2:=hR.drew
 have hR2':=hR'.drew
 have hbe2:=hbe.drew
 clear hX hX' hbe hdX hdX' hR hR'
 generalize W.drew=W2 at *
 obtain ⟨A1,n1,c1,rfl⟩:=e1.shape
 obtain ⟨kl,kl',knc,kc⟩:=e1.len
 obtain ⟨A2,n2,c2,rfl⟩:=e2.shape
 obtain ⟨jl,jl',jnc,jc⟩:=e2.len
 rcases Nat.eq_zero_or_pos n2 with h0 | h0
 ·have hy:val ds'=0:=len_zero (by omega)
  have hz:RI.z ⟨neg',ds'⟩=0:=by rw [RI.z_eq,hy,sm_zero]
  have HZ:=Lib.hid hz
  clear hy hz kl kl' jl jl'
  subst h0
  obtain ⟨c0,c1,f0,f1⟩:=hR2.two
  obtain ⟨c0',c1',f0',f1'⟩:=hR2'.two
  go_wp2
  obtain ⟨a1,a2,a3,a4,a5⟩:=fin_div hR2 hR2' (by omega) (IntM.zero W2) (IntM.zero W2) hbe2 (by omega) (by omega)
  refine ret_cct Tryz.results148 Tryz.underlying46 Tryz.underlying46 (by kernel_rfl) (by kernel_rfl) rfl rfl a1 a2 rfl ?_
  exact ⟨_,_,by rw [if_pos HZ.out];rfl,by rw [if_pos HZ.out];exact a3,by rw [if_pos HZ.out];exact a4,a5⟩
 ·have hy:val ds'≠0:=len_pos (by omega)
  have hz:RI.z ⟨neg',ds'⟩≠0:=by rw [RI.z_eq];cases neg' <;> simp [sm] <;> omega
  have HZ:=Lib.hid hz
  have HY:=Lib.hid (Nat.pos_of_ne_zero hy)
  clear hy hz kl kl' jl jl'
  go_wp2_with fail
  refine (divMag_any _ _ (val ds) (val ds') _ e1 e2 HY.out hs hs2).mono ?_
  rintro e w3 ⟨qv,rv,rfl,dq,dr,hb3⟩
  have hX3:=hX2.later hb3
  have hX3':=hX2'.later hb3
  have hR3:=hR2.later hb3
  have hR3':=hR2'.later hb3
  have hbe3:=below_then hbe2 hb3 hbe2.size
  have e2':=e2.below hb3
  clear hX2 hX2' hR2 hR2' hbe2 hb3
  obtain ⟨x0,x1,_,_⟩:=hX3.two
  obtain ⟨x0',x1',_,_⟩:=hX3'.two
  obtain ⟨A3,n3,c3,rfl⟩:=dr.shape
  obtain ⟨kl,kl',knc,kc⟩:=dr.len
  have hq:(digs (val ds / val ds')).length≤549755813888:=Nat.le_trans (digs_len_mono (Nat.div_le_self _ _)) hs
  have HQ:=Lib.hid hq
  have hn1:w.heap.size≠w.heap.size+1+1:=by omega
  have hn2:w.heap.size+1≠w.heap.size+1+1:=by omega
  have hn3:w.heap.size≠w.heap.size+1+1+1:=by omega
  have hn4:w.heap.size+1≠w.heap.size+1+1+1:=by omega
  clear hq
  rcases Nat.eq_zero_or_pos n3 with h3 | h3
  ·have Z:=Lib.hid (len_zero (n:=val ds % val ds') (by omega))
   subst h3
   clear kl kl' h0
   cases neg
   ·cases neg'
    ·go_wp2_with fail
     have tok:True:=trivial
     go_region_held3 (fun w'=>w'.cell? ⟨w.heap.size,0,none⟩=some (.bool false)∧w'.cell? ⟨w.heap.size+1,0,none⟩=some (.bool false))
      (first | with_reducible exact ⟨hX3.pair.1,hX3'.pair.1⟩ | with_reducible exact ⟨hX3.drew.pair.1,hX3'.drew.pair.1⟩ | with_reducible exact ⟨(hX3.drew.later hb6).pair.1,(hX3'.drew.later hb6).pair.1⟩ | with_reducible exact ⟨((hX3.drew.later hb6).later hb7).pair.1,((hX3'.drew.later hb6).later hb7).pair.1⟩ | with_reducible exact ⟨(((hX3.drew.later hb6).later hb7).two_far hn1 _ _).1,(((hX3'.drew.later hb6).later hb7).two_far hn2 _ _).1⟩ | with_reducible exact ⟨((((hX3.drew.later hb6).later hb7).far2 hn1 _ _).two_far hn3 _ _).1,((((hX3'.drew.later hb6).later hb7).far2 hn2 _ _).two_far hn4 _ _).1⟩)
      (first
       | (go_at_call 149;have _t:=tok;refine (wrap_dig _ _ _ _ (dq.keep (Keep.drew _))).mono ?_;clear tok _t;rintro e w6 ⟨v6,rfl,e6,hb6⟩;obtain ⟨A6,n6,k6,rfl,_⟩:=e6.shape)
       | (go_at_call 149;refine (wrap_dig _ _ _ _ ((dr.keep (Keep.drew _)).below hb6)).mono ?_;rintro e w7 ⟨v7,rfl,e7,hb7⟩;obtain ⟨A7,n7,k7,rfl,_⟩:=e7.shape;obtain ⟨c0,c1,f0,f1⟩:=((hR3.drew.later hb6).later hb7).two;obtain ⟨c0',c1',f0',f1'⟩:=((hR3'.drew.later hb6).later hb7).two))
     go_wp2
     obtain ⟨a1,a2,a3,a4,a5⟩:=fin_div ((hR3.drew.later hb6).later hb7) ((hR3'.drew.later hb6).later hb7) (by omega) (e6.below hb7) e7 (below_then (below_then hbe3.drew hb6 hbe3.size) hb7 (Nat.le_trans hbe3.size hb6.size)) (by omega) (by omega)
     refine ret_cct Tryz.results148 Tryz.underlying46 Tryz.underlying46 (by kernel_rfl) (by kernel_rfl) rfl rfl a1 a2 rfl ?_
     exact ⟨_,_,by rw [if_neg HZ.out];rfl,by rw [if_neg HZ.out,RI.z_eq,RI.z_eq,(sm_div_same HY.out (.inl Z.out)).1];exact a3,by rw [if_neg HZ.out,RI.z_eq,RI.z_eq,(sm_div_same HY.out (.inl Z.out)).2];exact a4,a5⟩
    ·go_wp2_with fail
     have tok:True:=trivial
     go_region_held3 (fun w'=>w'.cell? ⟨w.heap.size,0,none⟩=some (.bool false)∧w'.cell? ⟨w.heap.size+1,0,none⟩=some (.bool true))
      (first | with_reducible exact ⟨hX3.pair.1,hX3'.pair.1⟩ | with_reducible exact ⟨hX3.drew.pair.1,hX3'.drew.pair.1⟩ | with_reducible exact ⟨(hX3.drew.later hb6).pair.1,(hX3'.drew.later hb6).pair.1⟩ | with_reducible exact ⟨((hX3.drew.later hb6).later hb7).pair.1,((hX3'.drew.later hb6).later hb7).pair.1⟩ | with_reducible exact ⟨(((hX3.drew.later hb6).later hb7).two_far hn1 _ _).1,(((hX3'.drew.later hb6).later hb7).two_far hn2 _ _).1⟩ | with_reducible exact ⟨((((hX3.drew.later hb6).later hb7).far2 hn1 _ _).two_far hn3 _ _).1,((((hX3'.drew.later hb6).later hb7).far2 hn2 _ _).two_far hn4 _ _).1⟩)
      (first
       | (go_at_call 149;have _t:=tok;refine (wrap_dig _ _ _ _ (dq.keep (Keep.drew _))).mono ?_;clear tok _t;rintro e w6 ⟨v6,rfl,e6,hb6⟩;obtain ⟨A6,n6,k6,rfl,_⟩:=e6.shape)
       | (go_at_call 149;refine (wrap_dig _ _ _ _ ((dr.keep (Keep.drew _)).below hb6)).mono ?_;rintro e w7 ⟨v7,rfl,e7,hb7⟩;obtain ⟨A7,n7,k7,rfl,_⟩:=e7.shape;obtain ⟨c0,c1,f0,f1⟩:=((hR3.drew.later hb6).later hb7).two;obtain ⟨c0',c1',f0',f1'⟩:=((hR3'.drew.later hb6).later hb7).two))
     go_wp2
     obtain ⟨a1,a2,a3,a4,a5⟩:=fin_div ((hR3.drew.later hb6).later hb7) ((hR3'.drew.later hb6).later hb7) (by omega) (e6.below hb7) e7 (below_then (below_then hbe3.drew hb6 hbe3.size) hb7 (Nat.le_trans hbe3.size hb6.size)) (by omega) (by omega)
     refine ret_cct Tryz.results148 Tryz.underlying46 Tryz.underlying46 (by kernel_rfl) (by kernel_rfl) rfl rfl a1 a2 rfl ?_
     exact ⟨_,_,by rw [if_neg HZ.out];rfl,by rw [if_neg HZ.out,RI.z_eq,RI.z_eq,(sm_div_same HY.out (.inl Z.out)).1];exact a3,by rw [if_neg HZ.out,RI.z_eq,RI.z_eq,(sm_div_same HY.out (.inl Z.out)).2];exact a4,a5⟩
   ·cases neg'
    ·go_wp2_with fail
     have tok:True:=trivial
     go_region_held3 (fun w'=>w'.cell? ⟨w.heap.size,0,none⟩=some (.bool true)∧w'.cell? ⟨w.heap.size+1,0,none⟩=some (.bool false))
      (first | with_reducible exact ⟨hX3.pair.1,hX3'.pair.1⟩ | with_reducible exact ⟨hX3.drew.pair.1,hX3'.drew.pair.1⟩ | with_reducible exact ⟨(hX3.drew.later hb6).pair.1,(hX3'.drew.later hb6).pair.1⟩ | with_reducible exact ⟨((hX3.drew.later hb6).later hb7).pair.1,((hX3'.drew.later hb6).later hb7).pair.1⟩ | with_reducible exact ⟨(((hX3.drew.later hb6).later hb7).two_far hn1 _ _).1,(((hX3'.drew.later hb6).later hb7).two_far hn2 _ _).1⟩ | with_reducible exact ⟨((((hX3.drew.later hb6).later hb7).far2 hn1 _ _).two_far hn3 _ _).1,((((hX3'.drew.later hb6).later hb7).far2 hn2 _ _).two_far hn4 _ _).1⟩)
      (first
       | (go_at_call 149;have _t:=tok;refine (wrap_dig _ _ _ _ (dq.keep (Keep.drew _))).mono ?_;clear tok _t;rintro e w6 ⟨v6,rfl,e6,hb6⟩;obtain ⟨A6,n6,k6,rfl,_⟩:=e6.shape)
       | (go_at_call 149;refine (wrap_dig _ _ _ _ ((dr.keep (Keep.drew _)).below hb6)).mono ?_;rintro e w7 ⟨v7,rfl,e7,hb7⟩;obtain ⟨A7,n7,k7,rfl,_⟩:=e7.shape;obtain ⟨c0,c1,f0,f1⟩:=((hR3.drew.later hb6).later hb7).two;obtain ⟨c0',c1',f0',f1'⟩:=((hR3'.drew.later hb6).later hb7).two))
     go_wp2
     obtain ⟨a1,a2,a3,a4,a5⟩:=fin_div ((hR3.drew.later hb6).later hb7) ((hR3'.drew.later hb6).later hb7) (by omega) (e6.below hb7) e7 (below_then (below_then hbe3.drew hb6 hbe3.size) hb7 (Nat.le_trans hbe3.size hb6.size)) (by omega) (by omega)
     refine ret_cct Tryz.results148 Tryz.underlying46 Tryz.underlying46 (by kernel_rfl) (by kernel_rfl) rfl rfl a1 a2 rfl ?_
     exact ⟨_,_,by rw [if_neg HZ.out];rfl,by rw [if_neg HZ.out,RI.z_eq,RI.z_eq,(sm_div_same HY.out (.inl Z.out)).1];exact a3,by rw [if_neg HZ.out,RI.z_eq,RI.z_eq,(sm_div_same HY.out (.inl Z.out)).2];exact a4,a5⟩
    ·go_wp2_with fail
     have tok:True:=trivial
     go_region_held3 (fun w'=>w'.cell? ⟨w.heap.size,0,none⟩=some (.bool true)∧w'.cell? ⟨w.heap.size+1,0,none⟩=some (.bool true))
      (first | with_reducible exact ⟨hX3.pair.1,hX3'.pair.1⟩ | with_reducible exact ⟨hX3.drew.pair.1,hX3'.drew.pair.1⟩ | with_reducible exact ⟨(hX3.drew.later hb6).pair.1,(hX3'.drew.later hb6).pair.1⟩ | with_reducible exact ⟨((hX3.drew.later hb6).later hb7).pair.1,((hX3'.drew.later hb6).later hb7).pair.1⟩ | with_reducible exact ⟨(((hX3.drew.later hb6).later hb7).two_far hn1 _ _).1,(((hX3'.drew.later hb6).later hb7).two_far hn2 _ _).1⟩ | with_reducible exact ⟨((((hX3.drew.later hb6).later hb7).far2 hn1 _ _).two_far hn3 _ _).1,((((hX3'.drew.later hb6).later hb7).far2 hn2 _ _).two_far hn4 _ _).1⟩)
      (first
       | (go_at_call 149;have _t:=tok;refine (wrap_dig _ _ _ _ (dq.keep (Keep.drew _))).mono ?_;clear tok _t;rintro e w6 ⟨v6,rfl,e6,hb6⟩;obtain ⟨A6,n6,k6,rfl,_⟩:=e6.shape)
       | (go_at_call 149;refine (wrap_dig _ _ _ _ ((dr.keep (Keep.drew _)).below hb6)).mono ?_;rintro e w7 ⟨v7,rfl,e7,hb7⟩;obtain ⟨A7,n7,k7,rfl,_⟩:=e7.shape;obtain ⟨c0,c1,f0,f1⟩:=((hR3.drew.later hb6).later hb7).two;obtain ⟨c0',c1',f0',f1'⟩:=((hR3'.drew.later hb6).later hb7).two))
     go_wp2
     obtain ⟨a1,a2,a3,a4,a5⟩:=fin_div ((hR3.drew.later hb6).later hb7) ((hR3'.drew.later hb6).later hb7) (by omega) (e6.below hb7) e7 (below_then (below_then hbe3.drew hb6 hbe3.size) hb7 (Nat.le_trans hbe3.size hb6.size)) (by omega) (by omega)
     refine ret_cct Tryz.results148 Tryz.underlying46 Tryz.underlying46 (by kernel_rfl) (by kernel_rfl) rfl rfl a1 a2 rfl ?_
     exact ⟨_,_,by rw [if_neg HZ.out];rfl,by rw [if_neg HZ.out,RI.z_eq,RI.z_eq,(sm_div_same HY.out (.inl Z.out)).1];exact a3,by rw [if_neg HZ.out,RI.z_eq,RI.z_eq,(sm_div_same HY.out (.inl Z.out)).2];exact a4,a5⟩
  ·have Z:=Lib.hid (len_pos (n:=val ds % val ds') (by omega))
   clear kl kl' h0
   cases neg
   ·cases neg'
    ·go_wp2_with fail
     have tok:True:=trivial
     go_region_held3 (fun w'=>w'.cell? ⟨w.heap.size,0,none⟩=some (.bool false)∧w'.cell? ⟨w.heap.size+1,0,none⟩=some (.bool false))
      (first | with_reducible exact ⟨hX3.pair.1,hX3'.pair.1⟩ | with_reducible exact ⟨hX3.drew.pair.1,hX3'.drew.pair.1⟩ | with_reducible exact ⟨(hX3.drew.later hb6).pair.1,(hX3'.drew.later hb6).pair.1⟩ | with_reducible exact ⟨((hX3.drew.later hb6).later hb7).pair.1,((hX3'.drew.later hb6).later hb7).pair.1⟩ | with_reducible exact ⟨(((hX3.drew.later hb6).later hb7).two_far hn1 _ _).1,(((hX3'.drew.later hb6).later hb7).two_far hn2 _ _).1⟩ | with_reducible exact ⟨((((hX3.drew.later hb6).later hb7).far2 hn1 _ _).two_far hn3 _ _).1,((((hX3'.drew.later hb6).later hb7).far2 hn2 _ _).two_far hn4 _ _).1⟩)
      (first
       | (go_at_call 149;have _t:=tok;refine (wrap_dig _ _ _ _ (dq.keep (Keep.drew _))).mono ?_;clear tok _t;rintro e w6 ⟨v6,rfl,e6,hb6⟩;obtain ⟨A6,n6,k6,rfl,_⟩:=e6.shape)
       | (go_at_call 149;refine (wrap_dig _ _ _ _ ((dr.keep (Keep.drew _)).below hb6)).mono ?_;rintro e w7 ⟨v7,rfl,e7,hb7⟩;obtain ⟨A7,n7,k7,rfl,_⟩:=e7.shape;obtain ⟨c0,c1,f0,f1⟩:=((hR3.drew.later hb6).later hb7).two;obtain ⟨c0',c1',f0',f1'⟩:=((hR3'.drew.later hb6).later hb7).two))
     go_wp2
     obtain ⟨a1,a2,a3,a4,a5⟩:=fin_div ((hR3.drew.later hb6).later hb7) ((hR3'.drew.later hb6).later hb7) (by omega) (e6.below hb7) e7 (below_then (below_then hbe3.drew hb6 hbe3.size) hb7 (Nat.le_trans hbe3.size hb6.size)) (by omega) (by omega)
     refine ret_cct Tryz.results148 Tryz.underlying46 Tryz.underlying46 (by kernel_rfl) (by kernel_rfl) rfl rfl a1 a2 rfl ?_
     exact ⟨_,_,by rw [if_neg HZ.out];rfl,by rw [if_neg HZ.out,RI.z_eq,RI.z_eq,(sm_div_same HY.out (.inr rfl)).1];exact a3,by rw [if_neg HZ.out,RI.z_eq,RI.z_eq,(sm_div_same HY.out (.inr rfl)).2];exact a4,a5⟩
    ·go_wp2_with fail
     refine (addMag_any _ _ (digs (val ds / val ds')) [1] _ (dq.below (below_new _ _)) (DigB.dig (DigB.new w3 [1]) (by simp [okD,B32]) (c:=1) (by simp) (by simp [maxLen])) HQ.out (by simp)).mono ?_
     rw [val_digs,show val [1]=1 from by simp [val]]
     rintro e w4 ⟨v4,rfl,e4,hb4⟩
     have hbb4:=below_then (below_new w3 _) hb4 (by simp)
     have hX4:=hX3.later hbb4
     have hX4':=hX3'.later hbb4
     have hR4:=hR3.later hbb4
     have hR4':=hR3'.later hbb4
     have hbe4:=below_then hbe3 hbb4 hbe3.size
     have dr4:=dr.below hbb4
     have e24:=e2'.below hbb4
     clear hX3 hX3' hR3 hR3' hbe3 hbb4 hb4 x0 x1 x0' x1'
     go_wp2_with fail
     refine (subMag_any _ _ (digs (val ds')) (digs (val ds % val ds')) _ e24 dr4 (by rw [val_digs,val_digs];exact Nat.le_of_lt (Nat.mod_lt _ HY.out)) (digs_len_mono (Nat.le_of_lt (Nat.mod_lt _ HY.out))) hs2).mono ?_
     rw [val_digs,val_digs]
     rintro e w5 ⟨v5,rfl,e5,hb5⟩
     have hX5:=hX4.later hb5
     have hX5':=hX4'.later hb5
     have hR5:=hR4.later hb5
     have hR5':=hR4'.later hb5
     have hbe5:=below_then hbe4 hb5 hbe4.size
     have e45:=e4.below hb5
     clear hX4 hX4' hR4 hR4' hbe4 hb5
     go_wp2_with fail
     have tok:True:=trivial
     go_region_held3 (fun w'=>w'.cell? ⟨w.heap.size,0,none⟩=some (.bool false)∧w'.cell? ⟨w.heap.size+1,0,none⟩=some (.bool true))
      (first | with_reducible exact ⟨hX5.pair.1,hX5'.pair.1⟩ | with_reducible exact ⟨hX5.drew.pair.1,hX5'.drew.pair.1⟩ | with_reducible exact ⟨(hX5.drew.later hb6).pair.1,(hX5'.drew.later hb6).pair.1⟩ | with_reducible exact ⟨((hX5.drew.later hb6).later hb7).pair.1,((hX5'.drew.later hb6).later hb7).pair.1⟩ | with_reducible exact ⟨(((hX5.drew.later hb6).later hb7).two_far hn1 _ _).1,(((hX5'.drew.later hb6).later hb7).two_far hn2 _ _).1⟩ | with_reducible exact ⟨((((hX5.drew.later hb6).later hb7).far2 hn1 _ _).two_far hn3 _ _).1,((((hX5'.drew.later hb6).later hb7).far2 hn2 _ _).two_far hn4 _ _).1⟩)
      (first
       | (go_at_call 149;have _t:=tok;refine (wrap_dig _ _ _ _ (e45.keep (Keep.drew _))).mono ?_;clear tok _t;rintro e w6 ⟨v6,rfl,e6,hb6⟩;obtain ⟨A6,n6,k6,rfl,_⟩:=e6.shape)
       | (go_at_call 149;refine (wrap_dig _ _ _ _ ((e5.keep (Keep.drew _)).below hb6)).mono ?_;rintro e w7 ⟨v7,rfl,e7,hb7⟩;obtain ⟨A7,n7,k7,rfl,_⟩:=e7.shape;obtain ⟨c0,c1,f0,f1⟩:=((hR5.drew.later hb6).later hb7).two;obtain ⟨c0',c1',f0',f1'⟩:=((hR5'.drew.later hb6).later hb7).two))
     go_wp2
     obtain ⟨a1,a2,a3,a4,a5⟩:=fin_div ((hR5.drew.later hb6).later hb7) ((hR5'.drew.later hb6).later hb7) (by omega) (e6.below hb7) e7 (below_then (below_then hbe5.drew hb6 hbe5.size) hb7 (Nat.le_trans hbe5.size hb6.size)) (by omega) (by omega)
     refine ret_cct Tryz.results148 Tryz.underlying46 Tryz.underlying46 (by kernel_rfl) (by kernel_rfl) rfl rfl a1 a2 rfl ?_
     exact ⟨_,_,by rw [if_neg HZ.out];rfl,by rw [if_neg HZ.out,RI.z_eq,RI.z_eq,(sm_div_diff HY.out Z.out (by simp)).1];exact a3,by rw [if_neg HZ.out,RI.z_eq,RI.z_eq,(sm_div_diff HY.out Z.out (by simp)).2];exact a4,a5⟩
   ·cases neg'
    ·go_wp2_with fail
     refine (addMag_any _ _ (digs (val ds / val ds')) [1] _ (dq.below (below_new _ _)) (DigB.dig (DigB.new w3 [1]) (by simp [okD,B32]) (c:=1) (by simp) (by simp [maxLen])) HQ.out (by simp)).mono ?_
     rw [val_digs,show val [1]=1 from by simp [val]]
     rintro e w4 ⟨v4,rfl,e4,hb4⟩
     have hbb4:=below_then (below_new w3 _) hb4 (by simp)
     have hX4:=hX3.later hbb4
     have hX4':=hX3'.later hbb4
     have hR4:=hR3.later hbb4
     have hR4':=hR3'.later hbb4
     have hbe4:=below_then hbe3 hbb4 hbe3.size
     have dr4:=dr.below hbb4
     have e24:=e2'.below hbb4
     clear hX3 hX3' hR3 hR3' hbe3 hbb4 hb4 x0 x1 x0' x1'
     go_wp2_with fail
     refine (subMag_any _ _ (digs (val ds')) (digs (val ds % val ds')) _ e24 dr4 (by rw [val_digs,val_digs];exact Nat.le_of_lt (Nat.mod_lt _ HY.out)) (digs_len_mono (Nat.le_of_lt (Nat.mod_lt _ HY.out))) hs2).mono ?_
     rw [val_digs,val_digs]
     rintro e w5 ⟨v5,rfl,e5,hb5⟩
     have hX5:=hX4.later hb5
     have hX5':=hX4'.later hb5
     have hR5:=hR4.later hb5
     have hR5':=hR4'.later hb5
     have hbe5:=below_then hbe4 hb5 hbe4.size
     have e45:=e4.below hb5
     clear hX4 hX4' hR4 hR4' hbe4 hb5
     go_wp2_with fail
     have tok:True:=trivial
     go_region_held3 (fun w'=>w'.cell? ⟨w.heap.size,0,none⟩=some (.bool true)∧w'.cell? ⟨w.heap.size+1,0,none⟩=some (.bool false))
      (first | with_reducible exact ⟨hX5.pair.1,hX5'.pair.1⟩ | with_reducible exact ⟨hX5.drew.pair.1,hX5'.drew.pair.1⟩ | with_reducible exact ⟨(hX5.drew.later hb6).pair.1,(hX5'.drew.later hb6).pair.1⟩ | with_reducible exact ⟨((hX5.drew.later hb6).later hb7).pair.1,((hX5'.drew.later hb6).later hb7).pair.1⟩ | with_reducible exact ⟨(((hX5.drew.later hb6).later hb7).two_far hn1 _ _).1,(((hX5'.drew.later hb6).later hb7).two_far hn2 _ _).1⟩ | with_reducible exact ⟨((((hX5.drew.later hb6).later hb7).far2 hn1 _ _).two_far hn3 _ _).1,((((hX5'.drew.later hb6).later hb7).far2 hn2 _ _).two_far hn4 _ _).1⟩)
      (first
       | (go_at_call 149;have _t:=tok;refine (wrap_dig _ _ _ _ (e45.keep (Keep.drew _))).mono ?_;clear tok _t;rintro e w6 ⟨v6,rfl,e6,hb6⟩;obtain ⟨A6,n6,k6,rfl,_⟩:=e6.shape)
       | (go_at_call 149;refine (wrap_dig _ _ _ _ ((e5.keep (Keep.drew _)).below hb6)).mono ?_;rintro e w7 ⟨v7,rfl,e7,hb7⟩;obtain ⟨A7,n7,k7,rfl,_⟩:=e7.shape;obtain ⟨c0,c1,f0,f1⟩:=((hR5.drew.later hb6).later hb7).two;obtain ⟨c0',c1',f0',f1'⟩:=((hR5'.drew.later hb6).later hb7).two))
     go_wp2
     obtain ⟨a1,a2,a3,a4,a5⟩:=fin_div ((hR5.drew.later hb6).later hb7) ((hR5'.drew.later hb6).later hb7) (by omega) (e6.below hb7) e7 (below_then (below_then hbe5.drew hb6 hbe5.size) hb7 (Nat.le_trans hbe5.size hb6.size)) (by omega) (by omega)
     refine ret_cct Tryz.results148 Tryz.underlying46 Tryz.underlying46 (by kernel_rfl) (by kernel_rfl) rfl rfl a1 a2 rfl ?_
     exact ⟨_,_,by rw [if_neg HZ.out];rfl,by rw [if_neg HZ.out,RI.z_eq,RI.z_eq,(sm_div_diff HY.out Z.out (by simp)).1];exact a3,by rw [if_neg HZ.out,RI.z_eq,RI.z_eq,(sm_div_diff HY.out Z.out (by simp)).2];exact a4,a5⟩
    ·go_wp2_with fail
     have tok:True:=trivial
     go_region_held3 (fun w'=>w'.cell? ⟨w.heap.size,0,none⟩=some (.bool true)∧w'.cell? ⟨w.heap.size+1,0,none⟩=some (.bool true))
      (first | with_reducible exact ⟨hX3.pair.1,hX3'.pair.1⟩ | with_reducible exact ⟨hX3.drew.pair.1,hX3'.drew.pair.1⟩ | with_reducible exact ⟨(hX3.drew.later hb6).pair.1,(hX3'.drew.later hb6).pair.1⟩ | with_reducible exact ⟨((hX3.drew.later hb6).later hb7).pair.1,((hX3'.drew.later hb6).later hb7).pair.1⟩ | with_reducible exact ⟨(((hX3.drew.later hb6).later hb7).two_far hn1 _ _).1,(((hX3'.drew.later hb6).later hb7).two_far hn2 _ _).1⟩ | with_reducible exact ⟨((((hX3.drew.later hb6).later hb7).far2 hn1 _ _).two_far hn3 _ _).1,((((hX3'.drew.later hb6).later hb7).far2 hn2 _ _).two_far hn4 _ _).1⟩)
      (first
       | (go_at_call 149;have _t:=tok;refine (wrap_dig _ _ _ _ (dq.keep (Keep.drew _))).mono ?_;clear tok _t;rintro e w6 ⟨v6,rfl,e6,hb6⟩;obtain ⟨A6,n6,k6,rfl,_⟩:=e6.shape)
       | (go_at_call 149;refine (wrap_dig _ _ _ _ ((dr.keep (Keep.drew _)).below hb6)).mono ?_;rintro e w7 ⟨v7,rfl,e7,hb7⟩;obtain ⟨A7,n7,k7,rfl,_⟩:=e7.shape;obtain ⟨c0,c1,f0,f1⟩:=((hR3.drew.later hb6).later hb7).two;obtain ⟨c0',c1',f0',f1'⟩:=((hR3'.drew.later hb6).later hb7).two))
     go_wp2
     obtain ⟨a1,a2,a3,a4,a5⟩:=fin_div ((hR3.drew.later hb6).later hb7) ((hR3'.drew.later hb6).later hb7) (by omega) (e6.below hb7) e7 (below_then (below_then hbe3.drew hb6 hbe3.size) hb7 (Nat.le_trans hbe3.size hb6.size)) (by omega) (by omega)
     refine ret_cct Tryz.results148 Tryz.underlying46 Tryz.underlying46 (by kernel_rfl) (by kernel_rfl) rfl rfl a1 a2 rfl ?_
     exact ⟨_,_,by rw [if_neg HZ.out];rfl,by rw [if_neg HZ.out,RI.z_eq,RI.z_eq,(sm_div_same HY.out (.inr rfl)).1];exact a3,by rw [if_neg HZ.out,RI.z_eq,RI.z_eq,(sm_div_same HY.out (.inr rfl)).2];exact a4,a5⟩
theorem Bk.next {w W:World} {n:Nat} (h:W.heap.size=n) (t:TypeId) (cs:List Value) (_hb:Below w.heap.size w W):Bk (W.alloc (.cells cs.toArray t)) n t cs:=by
 have:=Bk.new W t cs
 rwa [h] at this
theorem boxF2 (w:World) (x1 x2 x3 x4 y1 y2 y3 y4:Value):∃W,(w.alloc (.cells #[x1,x2,x3,x4] 48)).alloc (.cells #[y1,y2,y3,y4] 48)=W∧W.heap.size=w.heap.size+1+1∧Bk W w.heap.size 48 [x1,x2,x3,x4]∧Bk W (w.heap.size+1) 48 [y1,y2,y3,y4]∧Below w.heap.size w W:=by
 refine ⟨_,rfl,by simp,(Bk.new w _ [x1,x2,x3,x4]).alloc _,?_,(below_new w _).alloc (by simp) _⟩
 have:=Bk.new (w.alloc (.cells #[x1,x2,x3,x4] 48)) 48 [y1,y2,y3,y4]
 rwa [size_alloc] at this
theorem boxF2s (w:World) (x1 x2 x3 x4 y1 y2 y3 y4:Value):∃W,(((w.alloc (.cells #[x1,x2,x3,x4] 48)).alloc (.cells #[y1,y2,y3,y4] 48)).alloc (.cells #[.int .i64 0,.int .i64 0] 148)).alloc (.cells #[.int .i64 0,.int .i64 0] 148)=W∧Bk W w.heap.size 48 [x1,x2,x3,x4]∧Bk W (w.heap.size+1) 48 [y1,y2,y3,y4]∧
 Bk W (w.heap.size+1+1) 148 [.int .i64 0,.int .i64 0]∧Bk W (w.heap.size+1+1+1) 148 [.int .i64 0,.int .i64 0]∧Below w.heap.size w W:=by
 obtain ⟨W,hW,hs,h1,h2,hb⟩:=boxF2 w x1 x2 x3 x4 y1 y2 y3 y4
 refine ⟨_,by rw [hW],(h1.alloc _).alloc _,(h2.alloc _).alloc _,(Bk.next hs _ _ hb).alloc _,?_,(hb.alloc hb.size _).alloc (hb.alloc hb.size _).size _⟩
 have:=Bk.new (W.alloc (.cells #[.int .i64 0,.int .i64 0] 148)) 148 [.int .i64 0,.int .i64 0]
 rwa [size_alloc,hs] at this
def SmallPost (a b:RF) (w:World) (e:Ending) (w':World):Prop:=∃(n d m k:Int) (ok:Bool),e= .returned (.tuple #[.agg #[.int .i64 n,.int .i64 d],.agg #[.int .i64 m,.int .i64 k],.bool ok])∧(ok=true→okq n d a.q∧okq m k b.q)∧Below w.heap.size w w'
theorem small_any (v1 v2:Value) (a b:RF) (w:World) (h1:FracM w v1 a) (h2:FracM w v2 b):
 Calls Tryz.prog 124 #[v1,v2] w (SmallPost a b w):=by
 obtain ⟨A,n,c,A',n',c',rfl,hd,hd'⟩:=h1
 obtain ⟨B,m,d,B',m',d',rfl,ke,ke'⟩:=h2
 obtain ⟨⟨neg,ds⟩,⟨neg',ds'⟩⟩:=a
 obtain ⟨⟨neh,es⟩,⟨neh',es'⟩⟩:=b
 simp only at hd hd' ke ke' ⊢
 obtain ⟨W,hW,hX,hY,hR,hR',hbe⟩:=boxF2s w (.bool neg) (.slice A n c) (.bool neg') (.slice A' n' c') (.bool neh) (.slice B m d) (.bool neh') (.slice B' m' d')
 have e1:FracM W (.agg #[.bool neg,.slice A n c,.bool neg',.slice A' n' c']) ⟨⟨neg,ds⟩,⟨neg',ds'⟩⟩:=⟨_,_,_,_,_,_,rfl,hd.below hbe,hd'.below hbe⟩
 have e2:FracM W (.agg #[.bool neh,.slice B m d,.bool neh',.slice B' m' d']) ⟨⟨neh,es⟩,⟨neh',es'⟩⟩:=⟨_,_,_,_,_,_,rfl,ke.below hbe,ke'.below hbe⟩
 obtain ⟨p1,p2,p3,p4⟩:=hX.four
 go_enter Tryz.func124,Tryz.ntmps124
 go_wp2_with fail
 clear hW
 refine (smallParts_any _ ⟨⟨neg,ds⟩,⟨neg',ds'⟩⟩ _ e1).mono ?_
 rintro e w1 ⟨x,y,ok,rfl,hq,hb1⟩
 have HQ:=Lib.hid hq
 have hY1:=hY.later hb1
 have hR1:=hR.later hb1
 have hR1':=hR'.later hb1
 have hbe1:=below_then hbe hb1 hbe.size
 have e21:=e2.below hb1
 clear hq hX hY hR hR' hbe e1 e2 hb1 p1 p2 p3 p4
 have hn1:w.heap.size+1+1≠w.heap.size+1+1+1:=by omega
 have hn2:w.heap.size+1≠w.heap.size+1+1:=by omega
 obtain ⟨c0,c1,f0,f1⟩:=hR1.two
 obtain ⟨c0',c1',f0',f1'⟩:=hR1'.two
 have hRs:=hR1.set2 (.int .i64 x) (.int .i64 y)
 have hRs':=hR1'.far2 hn1.symm (.int .i64 x) (.int .i64 y)
 have hYs:=hY1.far2 hn2 (.int .i64 x) (.int .i64 y)
 have hbs:=below_set2 hbe1 (show w.heap.size≤w.heap.size+1+1 by omega) (.int .i64 x) (.int .i64 y)
 have e22:=e21.keep (hR1.keep2 (by decide) (.int .i64 x) (.int .i64 y))
 clear hY1 hR1 hR1' hbe1 e21
 cases ok
 ·go_wp2_with fail
  clear c0 c1 f0 f1 c0' c1' f0' f1'
  generalize (w1.setCell _ _).setCell _ _=W3 at *
  obtain ⟨c0,c1,f0,f1⟩:=hRs.two
  obtain ⟨c0',c1',f0',f1'⟩:=hRs'.two
  go_region_held3 (fun w'=>(w'.cell? ⟨w.heap.size+1+1,0,none⟩=some (.int .i64 x)∧w'.cell? ⟨w.heap.size+1+1,1,none⟩=some (.int .i64 y))∧(w'.cell? ⟨w.heap.size+1+1+1,0,none⟩=some (.int .i64 0)∧w'.cell? ⟨w.heap.size+1+1+1,1,none⟩=some (.int .i64 0)))
   (first | with_reducible exact ⟨hRs.pair,hRs'.pair⟩ | with_reducible exact ⟨hRs.drew.pair,hRs'.drew.pair⟩ | with_reducible exact ⟨(hRs.set2 _ _).drew.pair,(hRs'.far2 hn1.symm _ _).drew.pair⟩ | with_reducible exact ⟨((hRs.set2 _ _).far2 hn1 _ _).drew.pair,((hRs'.far2 hn1.symm _ _).set2 _ _).drew.pair⟩)
   (fail)
  go_wp2
  refine ret_cct Tryz.results124 Tryz.underlying148 Tryz.underlying148 (by kernel_rfl) (by kernel_rfl) rfl rfl ((hRs.set2 _ _).far2 hn1 _ _).drew ((hRs'.far2 hn1.symm _ _).set2 _ _).drew rfl ?_
  exact ⟨_,_,_,_,_,rfl,by simp,(below_set2 (below_set2 hbs (by omega) _ _) (by omega) _ _).drew⟩
 ·have hy4:=hYs.four
  go_wp2_with fail
  clear c0 c1 f0 f1 c0' c1' f0' f1' hy4
  generalize (w1.setCell _ _).setCell _ _=W3 at *
  obtain ⟨p1,p2,p3,p4⟩:=hYs.four
  refine (smallParts_any _ ⟨⟨neh,es⟩,⟨neh',es'⟩⟩ _ e22).mono ?_
  rintro e w4 ⟨z,u,ok,rfl,hq,hb4⟩
  have HQ':=Lib.hid hq
  have hR4:=hRs.later hb4
  have hR4':=hRs'.later hb4
  have hbe4:=below_then hbs hb4 hbs.size
  clear hq hYs hRs hRs' hbs e22 hb4 p1 p2 p3 p4
  obtain ⟨c0,c1,f0,f1⟩:=hR4.two
  obtain ⟨c0',c1',f0',f1'⟩:=hR4'.two
  have hRs:=hR4.far2 hn1 (.int .i64 z) (.int .i64 u)
  have hRs':=hR4'.set2 (.int .i64 z) (.int .i64 u)
  have hbs:=below_set2 hbe4 (show w.heap.size≤w.heap.size+1+1+1 by omega) (.int .i64 z) (.int .i64 u)
  go_wp2_with fail
  clear c0 c1 f0 f1 c0' c1' f0' f1'
  generalize (w4.setCell _ _).setCell _ _=W5 at *
  obtain ⟨c0,c1,f0,f1⟩:=hRs.two
  obtain ⟨c0',c1',f0',f1'⟩:=hRs'.two
  go_region_held3 (fun w'=>(w'.cell? ⟨w.heap.size+1+1,0,none⟩=some (.int .i64 x)∧w'.cell? ⟨w.heap.size+1+1,1,none⟩=some (.int .i64 y))∧(w'.cell? ⟨w.heap.size+1+1+1,0,none⟩=some (.int .i64 z)∧w'.cell? ⟨w.heap.size+1+1+1,1,none⟩=some (.int .i64 u)))
   (first | with_reducible exact ⟨hRs.pair,hRs'.pair⟩ | with_reducible exact ⟨hRs.drew.pair,hRs'.drew.pair⟩ | with_reducible exact ⟨(hRs.set2 _ _).drew.pair,(hRs'.far2 hn1.symm _ _).drew.pair⟩ | with_reducible exact ⟨((hRs.set2 _ _).far2 hn1 _ _).drew.pair,((hRs'.far2 hn1.symm _ _).set2 _ _).drew.pair⟩)
   (fail)
  go_wp2
  refine ret_cct Tryz.results124 Tryz.underlying148 Tryz.underlying148 (by kernel_rfl) (by kernel_rfl) rfl rfl ((hRs.set2 _ _).far2 hn1 _ _).drew ((hRs'.far2 hn1.symm _ _).set2 _ _).drew rfl ?_
  exact ⟨_,_,_,_,ok,rfl,fun h=>⟨by simpa using HQ.out,HQ'.out h⟩,(below_set2 (below_set2 hbs (by omega) _ _) (by omega) _ _).drew⟩
end Go.Proofs.YtncmobkhenfhpaaGreat
