/- Contracts and plain facts that the claim is built on, joined out of smaller texts; no condition. -/
import Derived.Test.YtncmobkhenfhpaaGreatB48
import Derived.Test.YtncmobkhenfhpaaGreatSmTJ
set_option linter.unusedVariables false
set_option linter.unusedSimpArgs false
set_option maxRecDepth 100000
set_option maxHeartbeats 40000000
namespace Go.Proofs.YtncmobkhenfhpaaGreat
open Go.RowKit
namespace Pl
end Pl
open Pl
attribute [local go_sem ↓] Go.wp_at_zero Go.wp_at_succ
namespace Pl
theorem RsL_zeros (K n:Nat):RsL K (List.replicate n zeroF):=fun i f hf=>by
 rw [List.getElem?_replicate] at hf
 split at hf
 ·injection hf with hf;rw [← hf];exact zeroF_rs K
 ·cases hf
end Pl
section
attribute [local irreducible] wpAlone
end
section
open Go.Maps (int_keyed keyOf_int_mk)
end
section
attribute [local irreducible] wpAlone
end
section
theorem RowM.tail {w:World} {t:TypeId} {s b off n c:Nat} {xs:List Value} (h:RowM w t s (.slice (some ⟨b,off,none⟩) (n+1) c) (n+1) xs):RowM w t s (.slice (some ⟨b,off+s,none⟩) n (c - 1)) n (xs.drop s):=by
 obtain ⟨A,c',h1,h2,h3,h4,h5⟩:=h
 injection h1 with e1 e2 e3
 subst e1 e3
 obtain ⟨b',off',cs,fz,h6,h7,h8⟩:=h5 (by omega)
 injection h6 with h6
 injection h6 with e4 e5
 subst e4 e5
 refine ⟨_,_,rfl,by rw [List.length_drop,h2,Nat.add_mul];omega,by omega,by omega,fun _=>⟨b,off+s,cs,fz,rfl,h7,fun j u hj=>?_⟩⟩
 rw [List.getElem?_drop] at hj
 have:=h8 _ _ hj
 rwa [← Nat.add_assoc] at this
theorem FrsM.tail {w:World} {b off n c:Nat} {f:RF} {fs:List RF} (h:FrsM w (.slice (some ⟨b,off,none⟩) (n+1) c) (f::fs)) (hn:fs.length=n):FrsM w (.slice (some ⟨b,off+4,none⟩) n (c - 1)) fs:=by
 obtain ⟨cs,h1,h2,h3⟩:=h
 subst hn
 refine ⟨cs.drop 4,RowM.tail h1,by rw [List.length_drop,h2,List.length_cons];omega,fun k g hg=>?_⟩
 obtain ⟨x,y,z,u,q0,q1,q2,q3,q4⟩:=h3 (k+1) g (by simpa using hg)
 refine ⟨x,y,z,u,?_,?_,?_,?_,q4⟩
 ·rw [List.getElem?_drop,← q0];congr 1;omega
 ·rw [List.getElem?_drop,← q1];congr 1;omega
 ·rw [List.getElem?_drop,← q2];congr 1;omega
 ·rw [List.getElem?_drop,← q3];congr 1;omega
theorem VecsM.tail {w:World} {b off n c:Nat} {f:List En} {fs:List (List En)} (h:VecsM w (.slice (some ⟨b,off,none⟩) (n+1) c) (f::fs)) (hn:fs.length=n):VecsM w (.slice (some ⟨b,off+1,none⟩) n (c - 1)) fs:=by
 obtain ⟨cs,h1,h3⟩:=h
 subst hn
 refine ⟨cs.drop 1,RowM.tail h1,fun k g hg=>?_⟩
 obtain ⟨u,q0,q1⟩:=h3 (k+1) g (by simpa using hg)
 refine ⟨u,?_,q1⟩
 rw [List.getElem?_drop,← q0];congr 1;omega
namespace Pl
def szP (a b c:Nat):LPd:=⟨List.replicate a zeroF,List.replicate b [],List.replicate c zeroF⟩
theorem szP_rows {a b c:Nat} (h:64 < c∨1200 < b):lpErr (szP a b c)=10:=by unfold lpErr szP;rw [if_pos (by simpa using h)]
theorem szP_shape {a b c:Nat} (h:c≤64) (h1:b≤1200) (h2:a≠b):lpErr (szP a b c)=12:=by unfold lpErr szP;rw [if_neg (by simp;omega),if_pos (by simpa using h2)]
theorem szP_ok {b c:Nat} (h:c≤64) (h1:b≤1200):lpErr (szP b b c)=0:=by
 unfold lpErr szP
 rw [if_neg (by simp;omega),if_neg (by simp)]
 refine colsErr_of fun j v hv=>?_
 rw [List.getElem?_replicate] at hv
 split at hv
 ·injection hv with e
  subst e
  simp [vecErr,vErr]
  omega
 ·cases hv
theorem szP_Ok (a b c:Nat):(szP a b c).Ok 1:=⟨RsL_zeros 1 a,RsL_zeros 1 c,fun j v hv=>by
 simp only [szP] at hv
 rw [List.getElem?_replicate] at hv
 split at hv
 ·injection hv with e
  subst e
  exact ⟨fun k e he=>by simp at he,fun k e he=>by simp at he⟩
 ·cases hv⟩
end Pl
theorem szP_m {w:World} {A A' A'':Option Addr} {n c n' c' n'' c'' a b d:Nat} (h1:FrsM w (.slice A n c) (List.replicate a zeroF)) (h2:VecsM w (.slice A' n' c') (List.replicate b [])) (h3:FrsM w (.slice A'' n'' c'') (List.replicate d zeroF)):
 LpM w (.agg #[.slice A n c,.slice A' n' c',.slice A'' n'' c'']) (szP a b d):=⟨_,_,_,_,_,_,_,_,_,rfl,h1,h2,h3⟩
def KnL (U:World) (k:Nat) (w:World) (v:Value):Prop:=match k with
 | 0=>∃g,v= .slice (some ⟨g,0,none⟩) 1201 1201∧FrsM w (.slice (some ⟨g,0,none⟩) 1201 1201) (List.replicate 1201 zeroF)
 | 1=>∃g,v= .slice (some ⟨g,0,none⟩) 1201 1201∧VecsM w (.slice (some ⟨g,0,none⟩) 1201 1201) (List.replicate 1201 [])
 | 2=>∃g0 g1,v= .agg #[.slice (some ⟨g0,0,none⟩) 1201 1201,.slice (some ⟨g1,0,none⟩) 1201 1201,.slice none 0 0]∧FrsM w (.slice (some ⟨g0,0,none⟩) 1201 1201) (List.replicate 1201 zeroF)∧VecsM w (.slice (some ⟨g1,0,none⟩) 1201 1201) (List.replicate 1201 [])
 | 3=>∃g,v= .pointer (some ⟨g,0,none⟩)∧U.heap.size≤g∧Bk w g 26 [.slice none 0 0,.slice none 0 0,.slice none 0 0]
 | _=>True
theorem KnL.later {U:World} (k:Nat) (w w':World) (v:Value) (h:KnL U k w v) (hb:Below w.heap.size w w'):KnL U k w' v:=by
 unfold KnL at *
 split at h
 ·obtain ⟨g,e,h1⟩:=h;exact ⟨g,e,h1.below hb⟩
 ·obtain ⟨g,e,h1⟩:=h;exact ⟨g,e,h1.below hb⟩
 ·obtain ⟨g,g',e,h1,h2⟩:=h;exact ⟨g,g',e,h1.below hb,h2.below hb⟩
 ·obtain ⟨g,e,h1,h2⟩:=h;exact ⟨g,e,h1,h2.later hb⟩
 ·trivial
attribute [local irreducible] wpAlone
theorem simplexLimits_any (w:World):
 Calls Tryz.prog 11 #[] w fun o w'=>o= .returned (.bool true)∧Below w.heap.size w w':=by
 have hmk:=make_frac 65 (by decide) w
 obtain ⟨U,hU⟩:∃U,U=w.alloc (.cells (zfc 65) 48):=⟨_,rfl⟩
 have hF:FrsM U (.slice (some ⟨w.heap.size,0,none⟩) 65 65) (List.replicate 65 zeroF):=by rw [hU];exact (FrsO.zeros w 65 (by unfold maxLen;omega)).frs
 have hbU:Below w.heap.size w U:=by rw [hU];exact below_new w _
 rw [← hU] at hmk
 push_cast at hmk
 clear hU
 obtain ⟨W1,hW1,hX,hn⟩:=box_lp U (.slice none 0 0) (.slice none 0 0) (.slice (some ⟨w.heap.size,0,none⟩) 65 65)
 have hb1:=below_then hbU hn hbU.size
 have hUw:=hbU.size
 have hF1:=Lib.hid (hF.below hn)
 clear hF hbU
 go_enter Tryz.func11,Tryz.ntmps11
 go_wp2_with fail
 clear hW1 hmk
 have hm0:=make_frac 1201 (by decide)
 have hm1:=make_vecs 1201 (by decide)
 push_cast at hm0 hm1
 refine region_plan 4 (.bag [0,1,2,3] (.go 4 .done)) (by kernel_rfl) (by kernel_rfl) ?_
 refine plan_grow (l:=[(0,9),(1,10),(2,11),(3,2)]) W1 (KnL W1) (fun _=>undef) rfl ?_ (by decide) (below_drew' W1) KnL.later (List.forall_mem_cons.2 ⟨?_,List.forall_mem_cons.2 ⟨?_,List.forall_mem_cons.2 ⟨?_,List.forall_mem_cons.2 ⟨?_,List.forall_mem_nil _⟩⟩⟩⟩) ?_
 ·simp only [putA,List.foldl_cons,List.foldl_nil,Act.put,List.setIfInBounds_toArray,List.set_cons_zero,List.set_cons_succ]
 ·refine Grow.mk rfl fun s wx b hbb hd hb KR hKR=>?_
  clear hd
  simp only [putA,List.foldl_cons,List.foldl_nil,Act.put,List.setIfInBounds_toArray,List.set_cons_zero,List.set_cons_succ] at hbb
  subst hbb
  go_simp
  exact hKR.out _ _ (Or.inr (below_then hb (below_new wx _) hb.size)) ⟨below_new wx _,_,by simp [putA,updV,Act.put],_,rfl,(FrsO.zeros wx 1201 (by unfold maxLen;omega)).frs⟩
 ·refine Grow.mk rfl fun s wx b hbb hd hb KR hKR=>?_
  clear hd
  simp only [putA,List.foldl_cons,List.foldl_nil,Act.put,List.setIfInBounds_toArray,List.set_cons_zero,List.set_cons_succ] at hbb
  subst hbb
  go_simp
  exact hKR.out _ _ (Or.inr (below_then hb (below_new wx _) hb.size)) ⟨below_new wx _,_,by simp [putA,updV,Act.put],_,rfl,(VecsO.zeros wx 1201 (by unfold maxLen;omega)).vecs⟩
 ·refine Grow.mk rfl fun s wx b hbb hd hb KR hKR=>?_
  have d0:∃g,s 0= .slice (some ⟨g,0,none⟩) 1201 1201∧FrsM wx (.slice (some ⟨g,0,none⟩) 1201 1201) (List.replicate 1201 zeroF):=hd 0 (by decide) (by kernel_rfl)
  have d1:∃g,s 1= .slice (some ⟨g,0,none⟩) 1201 1201∧VecsM wx (.slice (some ⟨g,0,none⟩) 1201 1201) (List.replicate 1201 []):=hd 1 (by decide) (by kernel_rfl)
  clear hd
  obtain ⟨g0,e0,d0⟩:=d0
  obtain ⟨g1,e1,d1⟩:=d1
  simp only [putA,List.foldl_cons,List.foldl_nil,Act.put,List.setIfInBounds_toArray,List.set_cons_zero,List.set_cons_succ] at hbb
  subst hbb
  go_simp
  exact hKR.out _ _ (Or.inr hb) ⟨Below.refl _ _,.agg #[s 0,s 1,.slice none 0 0],by simp [putA,updV,Act.put,e0,e1],g0,g1,by rw [e0,e1],d0,d1⟩
 ·refine Grow.mk rfl fun s wx b hbb hd hb KR hKR=>?_
  clear hd
  simp only [putA,List.foldl_cons,List.foldl_nil,Act.put,List.setIfInBounds_toArray,List.set_cons_zero,List.set_cons_succ] at hbb
  subst hbb
  go_simp
  exact hKR.out _ _ (Or.inr (below_then hb (below_new wx _) hb.size)) ⟨below_new wx _,_,by simp [putA,updV,Act.put],_,rfl,hb.size,Bk.new wx 26 [.slice none 0 0,.slice none 0 0,.slice none 0 0]⟩
 ·intro s wx hG hb
  have g2:∃g0 g1,s 2= .agg #[.slice (some ⟨g0,0,none⟩) 1201 1201,.slice (some ⟨g1,0,none⟩) 1201 1201,.slice none 0 0]∧FrsM wx (.slice (some ⟨g0,0,none⟩) 1201 1201) (List.replicate 1201 zeroF)∧VecsM wx (.slice (some ⟨g1,0,none⟩) 1201 1201) (List.replicate 1201 []):=hG 2 (by decide)
  have g3:∃g,s 3= .pointer (some ⟨g,0,none⟩)∧W1.heap.size≤g∧Bk wx g 26 [.slice none 0 0,.slice none 0 0,.slice none 0 0]:=hG 3 (by decide)
  obtain ⟨g0,g1,e2,hC,hD⟩:=g2
  obtain ⟨g,e3,hge,hB⟩:=g3
  have hgU:U.heap.size < g:=by have:=hX.lt;omega
  clear hG hm0 hm1
  simp only [putA,List.foldl_cons,List.foldl_nil,Act.put,List.setIfInBounds_toArray,List.set_cons_zero,List.set_cons_succ]
  rw [e2,e3]
  clear e2 e3
  generalize s 0=u0 at *
  generalize s 1=u1 at *
  clear s
  obtain ⟨t0,t1,t2⟩:=hB.three
  obtain ⟨f0,f1,f2⟩:=hB.threeF
  refine plan_step rfl rfl (fun KR hKR=>?_)
  go_simp
  refine hKR.out _ _ (Or.inl (by decide)) ?_
  clear hKR KR t0 t1 t2 f0 f1 f2
  refine plan_done ?_
  obtain ⟨wz,hwz⟩:∃wz,wz=((wx.setCell ⟨g,0,none⟩ (.slice (some ⟨g0,0,none⟩) 1201 1201)).setCell ⟨g,1,none⟩ (.slice (some ⟨g1,0,none⟩) 1201 1201)).setCell ⟨g,2,none⟩ (.slice none 0 0):=⟨_,rfl⟩
  have k0:=KeepBut.setCell hB 0 (.slice (some ⟨g0,0,none⟩) 1201 1201)
  have b0:=hB.set_ 0 (.slice (some ⟨g0,0,none⟩) 1201 1201)
  have k1:=KeepBut.setCell b0 1 (.slice (some ⟨g1,0,none⟩) 1201 1201)
  have b1:=b0.set_ 1 (.slice (some ⟨g1,0,none⟩) 1201 1201)
  have k2:=KeepBut.setCell b1 2 (.slice none 0 0)
  have b2:=b1.set_ 2 (.slice none 0 0)
  have kk:=(k0.trans k1).trans k2
  have hbz:=((hb.setCell (p:=⟨g,0,none⟩) hge (.slice (some ⟨g0,0,none⟩) 1201 1201)).setCell (p:=⟨g,1,none⟩) hge (.slice (some ⟨g1,0,none⟩) 1201 1201)).setCell (p:=⟨g,2,none⟩) hge (.slice none 0 0)
  rw [← hwz] at b2 kk hbz
  have hC1:=hC.but kk (by decide) (by decide)
  have hD1:=hD.but kk (by decide) (by decide) (by decide)
  have hB1:Bk wz g 26 [.slice (some ⟨g0,0,none⟩) 1201 1201,.slice (some ⟨g1,0,none⟩) 1201 1201,.slice none 0 0]:=b2
  have hX1:=hX.later hbz
  have hF2:=hF1.out.below hbz
  have hbW:=below_then hb1 hbz hb1.size
  clear k0 k1 k2 kk b0 b1 b2 hbz hC hD hB hb hX hF1 hb1
  try rw [← hwz]
  clear hwz
  obtain ⟨x0,x1,x2⟩:=hX1.three
  go_wp2_with fail
  refine (validate_any _ (szP 0 0 65) 1 _ (szP_m (FrsM.nil _) (VecsO.nil 0 _).vecs hF2) (szP_Ok _ _ _)).mono ?_
  rw [szP_rows (.inl (by decide))]
  rintro _ w3 ⟨rfl,hb⟩
  have hbw3:=below_then hbW hb hbW.size
  have hX3:=hX1.later hb
  have hB3:=hB1.later hb
  have hF3:=hF2.below hb
  have hC3:=hC1.below hb
  have hD3:=hD1.below hb
  clear x0 x1 x2 hX1 hB1 hF2 hC1 hD1 hbW hb
  obtain ⟨x0,x1,x2⟩:=hX3.three
  obtain ⟨f0,f1,f2⟩:=hX3.threeF
  go_wp2_with fail
  clear x0 x1 x2 f0 f1 f2
  have k0:=KeepBut.setCell hX3 2 (.slice (some ⟨w.heap.size,4,none⟩) 64 64)
  have hX4:Bk (w3.setCell ⟨U.heap.size,2,none⟩ (.slice (some ⟨w.heap.size,4,none⟩) 64 64)) U.heap.size 26 [.slice none 0 0,.slice none 0 0,.slice (some ⟨w.heap.size,4,none⟩) 64 64]:=hX3.set_ 2 (.slice (some ⟨w.heap.size,4,none⟩) 64 64)
  have hF4:FrsM w3 (.slice (some ⟨w.heap.size,4,none⟩) 64 64) (List.replicate 64 zeroF):=FrsM.tail (n:=64) (off:=0) hF3 (by simp)
  have hF5:=hF4.but k0 (by decide) (by decide)
  have hC4:=hC3.but k0 (by decide) (by decide)
  have hD4:=hD3.but k0 (by decide) (by decide) (by decide)
  have hB4:=hB3.set_other (g:=U.heap.size) (by omega) 2 (.slice (some ⟨w.heap.size,4,none⟩) 64 64)
  have hbw4:=hbw3.setCell (p:=⟨U.heap.size,2,none⟩) hUw (.slice (some ⟨w.heap.size,4,none⟩) 64 64)
  obtain ⟨w4,hw4⟩:∃w4,w4=w3.setCell ⟨U.heap.size,2,none⟩ (.slice (some ⟨w.heap.size,4,none⟩) 64 64):=⟨_,rfl⟩
  rw [← hw4] at hX4 hF5 hC4 hD4 hB4 hbw4 ⊢
  clear hw4 k0 hX3 hF3 hF4 hC3 hD3 hB3 hbw3
  refine (validate_any _ (szP 0 0 64) 1 _ (szP_m (FrsM.nil _) (VecsO.nil 0 _).vecs hF5) (szP_Ok _ _ _)).mono ?_
  rw [szP_ok (by decide) (by decide)]
  rintro _ w5 ⟨rfl,hb⟩
  have hbw5:=below_then hbw4 hb hbw4.size
  have hB5:=hB4.later hb
  have hC5:=hC4.below hb
  have hD5:=hD4.below hb
  clear hX4 hF5 hB4 hC4 hD4 hbw4 hb
  obtain ⟨x0,x1,x2⟩:=hB5.three
  go_wp2_with fail
  refine (validate_any _ (szP 1201 1201 0) 1 _ (szP_m hC5 hD5 (FrsM.nil _)) (szP_Ok _ _ _)).mono ?_
  rw [szP_rows (.inr (by decide))]
  rintro _ w6 ⟨rfl,hb⟩
  have hbw6:=below_then hbw5 hb hbw5.size
  have hB6:=hB5.later hb
  have hC6:=hC5.below hb
  have hD6:=hD5.below hb
  clear x0 x1 x2 hB5 hC5 hD5 hbw5 hb
  obtain ⟨x0,x1,x2⟩:=hB6.three
  obtain ⟨f0,f1,f2⟩:=hB6.threeF
  go_wp2_with fail
  go_region
  clear x0 x1 x2 f0 f1 f2
  have k0:=KeepBut.setCell hB6 0 (.slice (some ⟨g0,4,none⟩) 1200 1200)
  have hB7:=hB6.set_ 0 (.slice (some ⟨g0,4,none⟩) 1200 1200)
  have k1:=KeepBut.setCell hB7 1 (.slice (some ⟨g1,1,none⟩) 1200 1200)
  have hB8:Bk ((w6.setCell ⟨g,0,none⟩ (.slice (some ⟨g0,4,none⟩) 1200 1200)).setCell ⟨g,1,none⟩ (.slice (some ⟨g1,1,none⟩) 1200 1200)) g 26 [.slice (some ⟨g0,4,none⟩) 1200 1200,.slice (some ⟨g1,1,none⟩) 1200 1200,.slice none 0 0]:=hB7.set_ 1 (.slice (some ⟨g1,1,none⟩) 1200 1200)
  have kk:=k0.trans k1
  have hC7:FrsM w6 (.slice (some ⟨g0,4,none⟩) 1200 1200) (List.replicate 1200 zeroF):=FrsM.tail (n:=1200) (off:=0) hC6 (by simp)
  have hD7:VecsM w6 (.slice (some ⟨g1,1,none⟩) 1200 1200) (List.replicate 1200 []):=VecsM.tail (n:=1200) (off:=0) hD6 (by simp)
  have hC8:=hC7.but kk (by decide) (by decide)
  have hD8:=hD7.but kk (by decide) (by decide) (by decide)
  have hbw8:=(hbw6.setCell (p:=⟨g,0,none⟩) (by show w.heap.size≤g;omega) (.slice (some ⟨g0,4,none⟩) 1200 1200)).setCell (p:=⟨g,1,none⟩) (by show w.heap.size≤g;omega) (.slice (some ⟨g1,1,none⟩) 1200 1200)
  obtain ⟨w8,hw8⟩:∃w8,w8=((w6.setCell ⟨g,0,none⟩ (.slice (some ⟨g0,4,none⟩) 1200 1200)).setCell ⟨g,1,none⟩ (.slice (some ⟨g1,1,none⟩) 1200 1200)).drew:=⟨_,rfl⟩
  have hB9:Bk w8 g 26 [.slice (some ⟨g0,4,none⟩) 1200 1200,.slice (some ⟨g1,1,none⟩) 1200 1200,.slice none 0 0]:=by rw [hw8];exact hB8.drew
  have hC9:FrsM w8 (.slice (some ⟨g0,4,none⟩) 1200 1200) (List.replicate 1200 zeroF):=by rw [hw8];exact hC8.below (below_drew' _)
  have hD9:VecsM w8 (.slice (some ⟨g1,1,none⟩) 1200 1200) (List.replicate 1200 []):=by rw [hw8];exact hD8.below (below_drew' _)
  have hbw9:Below w.heap.size w w8:=by rw [hw8];exact hbw8.drew
  rw [← hw8]
  clear hw8 k0 k1 kk hB7 hB8 hC7 hD7 hC8 hD8 hbw8 hB6 hC6 hD6 hbw6
  obtain ⟨x0,x1,x2⟩:=hB9.three
  go_wp2_with fail
  refine (validate_any _ (szP 1200 1200 0) 1 _ (szP_m hC9 hD9 (FrsM.nil _)) (szP_Ok _ _ _)).mono ?_
  rw [szP_ok (by decide) (by decide)]
  rintro _ wa ⟨rfl,hb⟩
  have hbwa:=below_then hbw9 hb hbw9.size
  have hBa:=hB9.later hb
  have hCa:=hC9.below hb
  have hDa:=hD9.below hb
  clear x0 x1 x2 hB9 hC9 hD9 hbw9 hb
  obtain ⟨x0,x1,x2⟩:=hBa.three
  obtain ⟨f0,f1,f2⟩:=hBa.threeF
  go_wp2_with fail
  clear x0 x1 x2 f0 f1 f2
  have k0:=KeepBut.setCell hBa 0 (.slice (some ⟨g0,8,none⟩) 1199 1199)
  have hBb:Bk (wa.setCell ⟨g,0,none⟩ (.slice (some ⟨g0,8,none⟩) 1199 1199)) g 26 [.slice (some ⟨g0,8,none⟩) 1199 1199,.slice (some ⟨g1,1,none⟩) 1200 1200,.slice none 0 0]:=hBa.set_ 0 (.slice (some ⟨g0,8,none⟩) 1199 1199)
  have hCb:FrsM wa (.slice (some ⟨g0,8,none⟩) 1199 1199) (List.replicate 1199 zeroF):=FrsM.tail (n:=1199) (off:=4) hCa (by simp)
  have hCc:=hCb.but k0 (by decide) (by decide)
  have hDc:=hDa.but k0 (by decide) (by decide) (by decide)
  have hbwb:=hbwa.setCell (p:=⟨g,0,none⟩) (by show w.heap.size≤g;omega) (.slice (some ⟨g0,8,none⟩) 1199 1199)
  obtain ⟨wb,hwb⟩:∃wb,wb=wa.setCell ⟨g,0,none⟩ (.slice (some ⟨g0,8,none⟩) 1199 1199):=⟨_,rfl⟩
  rw [← hwb] at hBb hCc hDc hbwb ⊢
  clear hwb k0 hBa hCa hDa hCb hbwa
  refine (validate_any _ (szP 1199 1200 0) 1 _ (szP_m hCc hDc (FrsM.nil _)) (szP_Ok _ _ _)).mono ?_
  rw [szP_shape (by decide) (by decide) (by decide)]
  rintro _ wc ⟨rfl,hb⟩
  have hbwc:=below_then hbwb hb hbwb.size
  clear hBb hCc hDc hbwb hb
  go_wp2_with fail
  refine (known_own _).mono ?_
  rintro _ wd ⟨rfl,hb⟩
  have hbwd:=below_then hbwc hb hbwc.size
  go_wp2
  go_ret
  exact ⟨rfl,hbwd⟩
end
end Go.Proofs.YtncmobkhenfhpaaGreat
