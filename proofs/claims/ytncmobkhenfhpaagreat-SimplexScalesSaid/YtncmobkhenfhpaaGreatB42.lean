/- Contracts and plain facts that the claim is built on, joined out of smaller texts; no condition. -/
import Derived.Test.YtncmobkhenfhpaaGreatB38
import Derived.Test.YtncmobkhenfhpaaGreatB40
set_option linter.unusedVariables false
set_option linter.unusedSimpArgs false
set_option maxRecDepth 100000
set_option maxHeartbeats 40000000
namespace Go.Proofs.YtncmobkhenfhpaaGreat
open Go.RowKit
open Pl
attribute [local go_sem ↓] Go.wp_at_zero Go.wp_at_succ
def EngM (w:World) (e:Nat) (p:LPd) (ph pv:Int) (vb vB vz:Value):Prop:=
 ∃A n c A' n' c' A'' n'' c'',Bk w e 107 [.slice A n c,.slice A' n' c',.slice A'' n'' c'',.int .i64 ph,vb,.int .i64 pv,vB,vz]∧FrsM w (.slice A n c) p.cost∧VecsM w (.slice A' n' c') p.cols∧FrsM w (.slice A'' n'' c'') p.right
theorem EngM.below {w w':World} {e:Nat} {p:LPd} {ph pv:Int} {vb vB vz:Value} (h:EngM w e p ph pv vb vB vz) (hb:Below w.heap.size w w'):EngM w' e p ph pv vb vB vz:=by
 obtain ⟨A,n,c,A',n',c',A'',n'',c'',h1,h2,h3,h4⟩:=h
 exact ⟨A,n,c,A',n',c',A'',n'',c'',h1.later hb,h2.below hb,h3.below hb,h4.below hb⟩
theorem EngM.cells {w:World} {e:Nat} {p:LPd} {ph pv:Int} {vb vB vz:Value} (h:EngM w e p ph pv vb vB vz):w.cell? ⟨e,3,none⟩=some (.int .i64 ph)∧w.cell? ⟨e,4,none⟩=some vb∧w.cell? ⟨e,5,none⟩=some (.int .i64 pv)∧w.cell? ⟨e,6,none⟩=some vB∧w.cell? ⟨e,7,none⟩=some vz:=by
 obtain ⟨A,n,c,A',n',c',A'',n'',c'',h1,h2,h3,h4⟩:=h
 exact ⟨h1.cellAt 3 rfl,h1.cellAt 4 rfl,h1.cellAt 5 rfl,h1.cellAt 6 rfl,h1.cellAt 7 rfl⟩
def Pl.LPd.Ft (p:LPd) (K:Nat):Prop:=p.Fit K∧p.right.length≤7∧5^p.right.length * K≤4000000
theorem Pl.LPd.Ft.k {p:LPd} {K:Nat} (h:p.Ft K):1≤K∧K≤4000000:=⟨h.1.k1,Nat.le_trans h.1.le h.2.2⟩
theorem fin_fracE {w w':World} {g:Nat} {x y z u:Value} {b b':Bool} {A A':Option Addr} {n c n' c':Nat} {f:RF} {P:RF→Prop} (hB:Bk w' g 48 [x,y,z,u]) (hm:FracM w' (.agg #[.bool b,.slice A n c,.bool b',.slice A' n' c']) f) (hb:Below w.heap.size w w') (hg:w.heap.size≤g) (hP:P f):
 ∃v' f',Ending.returned (.agg [.bool b,.slice A n c,.bool b',.slice A' n' c'].toArray)= .returned v'∧FracM ((((w'.setCell ⟨g,0,none⟩ (.bool b)).setCell ⟨g,1,none⟩ (.slice A n c)).setCell ⟨g,2,none⟩ (.bool b')).setCell ⟨g,3,none⟩ (.slice A' n' c')) v' f'∧P f'∧Below w.heap.size w ((((w'.setCell ⟨g,0,none⟩ (.bool b)).setCell ⟨g,1,none⟩ (.slice A n c)).setCell ⟨g,2,none⟩ (.bool b')).setCell ⟨g,3,none⟩ (.slice A' n' c')):=
 ⟨_,f,rfl,hm.keep (hB.keep4 (by decide) _ _ _ _),hP,below_set4 hb hg _ _ _ _⟩
theorem whole_own (z:Int) (w:World) (h0: -9223372036854775808≤z) (h1:z≤9223372036854775807):
 Calls Tryz.prog 100 #[.int .i64 z] w fun e w'=>∃v' f,e= .returned v'∧FracM w' v' f∧f=canF (z:Rat)∧Below w.heap.size w w':=by
 obtain ⟨W,hW,hR,hbe⟩:=boxF1 w (.bool false) (.slice none 0 0) (.bool false) (.slice none 0 0)
 go_enter Tryz.func100,Tryz.ntmps100
 go_wp2_with fail
 clear hW
 refine (fromInts_any z 1 _ h0 h1 (by omega) (by omega)).mono ?_
 rintro _ w1 ⟨v1,hv,e1,hb1⟩
 rw [if_neg (by omega)] at hv e1
 subst hv
 rw [divInt_one'] at e1
 obtain ⟨B,m,d,B',m',d',rfl,_,_⟩:=id e1
 obtain ⟨W2,hW2,hY,hby⟩:=boxF1 w1 (.bool (canF (z:Rat)).num.neg) (.slice B m d) (.bool (canF (z:Rat)).den.neg) (.slice B' m' d')
 have hR2:=hR.later (below_then hb1 hby hb1.size)
 obtain ⟨c0,c1,c2,c3⟩:=hR2.four
 obtain ⟨f0,f1,f2,f3⟩:=hR2.fourF
 obtain ⟨x0,x1,x2,x3⟩:=hY.four
 go_wp2
 clear hW2
 refine ret_cell Tryz.results100 Tryz.underlying48 (by kernel_rfl) rfl (hR2.set4 _ _ _ _) rfl ?_
 exact fin_fracE (P:=fun f=>f=canF (z:Rat)) hR2 (e1.below hby) (below_then hbe (below_then hb1 hby hb1.size) hbe.size) (Nat.le_refl _) rfl
theorem ecolumn_any (e:Nat) (p:LPd) (K:Nat) (ph pv:Int) (vb vB vz:Value) (j:Int) (w:World) (h:EngM w e p ph pv vb vB vz) (F:p.Ft K) (hz:lpErr p=0) (h0: -(p.right.length:Int)≤j) (h1:j < p.cols.length):
 Calls Tryz.prog 84 #[.pointer (some ⟨e,0,none⟩),.int .i64 j] w fun o w'=>∃v' es,o= .returned v'∧VecM w' v' es∧p.col j=colQ es∧Pl.Good p.right.length es∧(∀(k:Nat) (e:En),es[k]? =some e→e.f.Rs K)∧Below w.heap.size w w':=by
 obtain ⟨A,n,c,A',n',c',A'',n'',c'',hB,hc,hv,hr⟩:=h
 have hm7:=F.2.1
 have hcl:=F.1.cols
 rcases Int.lt_or_le j 0 with hj | hj
 ·obtain ⟨r,hr0⟩:∃r:Nat,-1 - j=(r:Int):=⟨(-1 - j).toNat,by omega⟩
  obtain rfl:j= -1 - (r:Int):=by omega
  have hrl:r < p.right.length:=by omega
  obtain ⟨f,hf⟩:=get_some (fs:=p.right) (i:=r) hrl
  have hsf:f.Sm:=(F.1.rs r f hf).sm F.1.kb
  obtain ⟨r1,r2,r3⟩:=hr.len
  have y2:=hB.cellAt 2 rfl
  obtain ⟨b,off,A1,n1,c1,A2,n2,c2,rfl,_,⟨q0,q1,q2,q3⟩,hmf⟩:=hr.elem (Below.refl _ _) hf
  have hrI:(r:Int) < n'':=by omega
  have hq:qAt p.right r=f.q:=qAt_some hf
  have HQ:=Lib.hid hq
  have HCN:Hid (∀s:Rat,s=(if qs f.q < 0 then -1 else 1)→p.col (-1 - (r:Int))=colQ [⟨(r:Int),canF s⟩]∧Pl.Good p.right.length [⟨(r:Int),canF s⟩]∧∀(k:Nat) (e:En),[(⟨(r:Int),canF s⟩:En)][k]? =some e→e.f.Rs K):=Lib.hid fun s hs=>by
   have hs1:s≠0∧Sz 1 s:=by
    rw [hs];split
    ·exact ⟨by decide,Sz_neg Sz_one⟩
    ·exact ⟨by decide,Sz_one⟩
   refine ⟨?_,⟨fun k e he=>?_,⟨rfl,trivial⟩,fun k e he=>?_⟩,fun k e he=>?_⟩
   ·rw [LPd.col_neg]
    funext i
    by_cases e:i=r
    ·subst e
     rw [if_pos rfl,hq,← hs]
     show s=if (i:Int)=(i:Int) then (canF s).q else 0
     rw [if_pos rfl,canF_q]
    ·rw [if_neg e]
     show (0:Rat)=if (r:Int)=(i:Int) then (canF s).q else 0
     rw [if_neg (by omega)]
   ·match k,he with
    | 0,he=>simp at he;subst he;constructor <;> simp <;> omega
   ·match k,he with
    | 0,he=>simp at he;subst he;rw [canF_q];exact hs1.1
   ·match k,he with
    | 0,he=>simp at he;subst he;exact (hs1.2.mono F.1.k1).rs
  have hq3:qs f.q=0∨qs f.q=1∨qs f.q= -1:=by have:=qs_bd f.q;omega
  clear hf hcl F hz hc hv hr
  go_enter Tryz.func84,Tryz.ntmps84
  go_wp2_with fail
  refine (signF_any _ f _ hmf).mono ?_
  rintro _ w1 ⟨rfl,hb1⟩
  by_cases hn:qs f.q < 0
  ·have hcn:=HCN.out (-1) (by rw [if_pos hn])
   have HCC:=Lib.hid hcn
   clear y2 q0 q1 q2 q3 hmf hcn hq
   go_wp2_with fail
   refine (fromInts_any (-1) 1 _ (by omega) (by omega) (by omega) (by omega)).mono ?_
   rintro _ w2 ⟨v2,hv2,e2,hb2⟩
   rw [if_neg (by omega)] at hv2 e2
   subst hv2
   rw [show Rat.divInt (-1) 1=(-1:Rat) by decide] at e2
   obtain ⟨B,m,d,B',m',d',rfl,_,_⟩:=id e2
   have hbe2:=below_then hb1 hb2 hb1.size
   obtain ⟨W2,hW2,hY,hby⟩:=boxF1 w2 (.bool (canF (-1)).num.neg) (.slice B m d) (.bool (canF (-1)).den.neg) (.slice B' m' d')
   obtain ⟨x0,x1,x2,x3⟩:=hY.four
   have e3:=e2.below hby
   go_wp2
   clear hW2
   go_ret
   have hZ:=Bk.new W2 87 [.int .i64 (r:Int),.bool (canF (-1)).num.neg,.slice B m d,.bool (canF (-1)).den.neg,.slice B' m' d']
   have hbz:=below_new W2 (.cells #[.int .i64 (r:Int),.bool (canF (-1)).num.neg,.slice B m d,.bool (canF (-1)).den.neg,.slice B' m' d'] 87)
   obtain ⟨g1,g2,g3⟩:=HCC.out
   exact ⟨_,_,rfl,VecM.one hZ (e3.below hbz),g1,g2,g3,below_then hbe2 (below_then hby hbz hby.size) hbe2.size⟩
  ·have hcn:=HCN.out 1 (by rw [if_neg hn])
   have HCC:=Lib.hid hcn
   clear y2 q0 q1 q2 q3 hmf hcn hq
   go_wp2_with fail
   refine (fromInts_one _).mono ?_
   rintro _ w2 ⟨v2,rfl,e2,hb2⟩
   obtain ⟨B,m,d,B',m',d',rfl,_,_⟩:=id e2
   have hbe2:=below_then hb1 hb2 hb1.size
   obtain ⟨W2,hW2,hY,hby⟩:=boxF1 w2 (.bool (canF 1).num.neg) (.slice B m d) (.bool (canF 1).den.neg) (.slice B' m' d')
   obtain ⟨x0,x1,x2,x3⟩:=hY.four
   have e3:=e2.below hby
   go_wp2
   clear hW2
   go_ret
   have hZ:=Bk.new W2 87 [.int .i64 (r:Int),.bool (canF 1).num.neg,.slice B m d,.bool (canF 1).den.neg,.slice B' m' d']
   have hbz:=below_new W2 (.cells #[.int .i64 (r:Int),.bool (canF 1).num.neg,.slice B m d,.bool (canF 1).den.neg,.slice B' m' d'] 87)
   obtain ⟨g1,g2,g3⟩:=HCC.out
   exact ⟨_,_,rfl,VecM.one hZ (e3.below hbz),g1,g2,g3,below_then hbe2 (below_then hby hbz hby.size) hbe2.size⟩
 ·obtain ⟨jn,rfl⟩:=Int.eq_ofNat_of_zero_le hj
  obtain ⟨es,hes⟩:=get_someC (cs:=p.cols) (i:=jn) (by omega)
  obtain ⟨l1,l2,l3⟩:=hv.len
  have y1:=hB.cellAt 1 rfl
  obtain ⟨b,off,A1,c1,rfl,_,x0,hve⟩:=hv.elem (Below.refl _ _) hes
  obtain ⟨z1,z2,z3,z4,z5⟩:=lpErr_zero hz
  have HG:Hid (p.col (jn:Int)=colQ es∧Pl.Good p.right.length es∧∀(k:Nat) (e:En),es[k]? =some e→e.f.Rs K):=Lib.hid ⟨LPd.col_pos hes,⟨z4 jn es hes,(z5 jn es hes).2,(z5 jn es hes).1⟩,(F.1.ok.2.2 jn es hes).2⟩
  have hjI:(jn:Int) < n':=by omega
  clear hes hz F z1 z2 z3 z4 z5 hc hr hB hv l1
  go_enter Tryz.func84,Tryz.ntmps84
  go_wp2
  go_ret
  exact ⟨_,es,rfl,hve,HG.out.1,HG.out.2.1,HG.out.2.2,Below.refl _ _⟩
theorem esolve_any (e:Nat) (p:LPd) (K m cb base bi gB:Nat) (Cs:Mx) (ph pv:Int) (Ab:Option Addr) (vz v:Value) (es:List En) (w:World) (h:EngM w e p ph pv (.slice Ab m cb) (.pointer (some ⟨gB,0,none⟩)) vz) (hB:BasO base bi w gB m K Cs) (hv:VecM w v es) (hgo:Pl.Good m es) (hrs:∀(k:Nat) (e:En),es[k]? =some e→e.f.Rs K) (hm:m≤7) (hE:5^m * K≤4000000):
 Calls Tryz.prog 87 #[.pointer (some ⟨e,0,none⟩),v] w fun o w'=>∃v' x,o= .returned v'∧(∀r,r < m→mulC m Cs x r=colQ es r)∧(∀i,i < m→Sz (5^m * K) (x i))∧FrsO w.heap.size w' v' (canL m x)∧Below w.heap.size w w':=by
 obtain ⟨-,y4,-,y6,-⟩:=h.cells
 have hE2:=Lib.hid hE
 clear h hE
 go_enter Tryz.func87,Tryz.ntmps87
 go_wp2_with fail
 refine (solveB_own base bi gB m K Cs v es _ hB hv hgo hrs).mono ?_
 rintro _ w1 ⟨v1,x,rfl,hx,hsx,e1,hb1⟩
 have HX:=Lib.hid hx
 have HSX:=Lib.hid hsx
 have y4':=cell_keep hb1 y4
 obtain ⟨A1,n1,c1,rfl⟩:∃A n c,v1= .slice A n c:=by obtain ⟨A,c,e,_⟩:=e1.vec.shape;exact ⟨A,_,c,e⟩
 clear y4 y6 hB hv hx hsx hgo hrs
 go_wp2_with fail
 refine (toDense_own _ (spV x m) m (5^m * K) _ e1.vec (by omega) (spV_rs HSX.out) (by have:=hE2.out;omega) (spV_good x m)).mono ?_
 rw [canL_congr (g:=x) fun i hi=>by rw [spV_dQ,if_pos hi]]
 rintro _ w2 ⟨v2,rfl,e2,hb2⟩
 have hbz:=below_then hb1 hb2 hb1.size
 obtain ⟨A2,n2,c2,rfl⟩:=e2.sliceN
 have e3:=e2.monoB hb1.size
 clear e1 e2 hb1 hb2 y4'
 go_wp2
 go_ret
 exact ⟨_,x,rfl,HX.out,HSX.out,e3,hbz⟩
theorem ecost_any (e:Nat) (p:LPd) (K:Nat) (ph pv:Int) (vb vB vz:Value) (j:Int) (w:World) (h:EngM w e p ph pv vb vB vz) (F:p.Ft K) (hj:j < p.cost.length):
 Calls Tryz.prog 108 #[.pointer (some ⟨e,0,none⟩),.int .i64 j] w fun o w'=>∃v' f,o= .returned v'∧FracM w' v' f∧(f.q=costQ p ph j∧f.Rs K)∧Below w.heap.size w w':=by
 obtain ⟨W,hW,hR,hbe⟩:=boxF1 w (.bool false) (.slice none 0 0) (.bool false) (.slice none 0 0)
 have h':=h.below hbe
 obtain ⟨A,n,c,A',n',c',A'',n'',c'',hB,hc,-,-⟩:=h'
 have y3:=hB.cellAt 3 rfl
 have y0:=hB.cellAt 0 rfl
 have HF:=Lib.hid F
 have hcl:=F.1.cols
 have hcl2:=F.1.cl
 clear h F
 by_cases h1:ph=2∧0≤j
 ·obtain ⟨rfl,hj0⟩:=h1
  rw [costQ_real hj0]
  obtain ⟨jn,rfl⟩:=Int.eq_ofNat_of_zero_le hj0
  rw [Int.toNat_natCast]
  obtain ⟨f,hf⟩:=get_some (fs:=p.cost) (i:=jn) (by omega)
  have HQ:Hid (f.q=qAt p.cost jn∧f.Rs K):=Lib.hid ⟨(qAt_some hf).symm,HF.out.1.cs jn f hf⟩
  obtain ⟨r1,r2,r3⟩:=hc.len
  obtain ⟨b,off,B1,n1,k1,B2,n2,k2,rfl,_,⟨q0,q1,q2,q3⟩,hmf⟩:=hc.elem (Below.refl _ _) hf
  have hjI:(jn:Int) < n:=by omega
  obtain ⟨c0,c1,c2,c3⟩:=hR.four
  obtain ⟨f0,f1,f2,f3⟩:=hR.fourF
  clear hf hc hj
  go_enter Tryz.func108,Tryz.ntmps108
  go_wp2
  clear hW
  refine ret_cell Tryz.results108 Tryz.underlying48 (by kernel_rfl) rfl (hR.set4 _ _ _ _) rfl ?_
  exact fin_fracE (P:=fun f'=>f'.q=qAt p.cost jn∧f'.Rs K) hR hmf hbe (Nat.le_refl _) HQ.out
 ·by_cases h2:ph=1∧j < 0
  ·obtain ⟨rfl,hj0⟩:=h2
   rw [costQ_art hj0]
   clear hc y0
   go_enter Tryz.func108,Tryz.ntmps108
   go_wp2_with fail
   clear hW y3
   refine (whole_own 1 _ (by omega) (by omega)).mono ?_
   rintro _ w1 ⟨v1,f1',rfl,e1,rfl,hb1⟩
   obtain ⟨B,m,d,B',m',d',rfl,_,_⟩:=id e1
   have hR1:=hR.later hb1
   obtain ⟨c0,c1,c2,c3⟩:=hR1.four
   obtain ⟨f0,f1,f2,f3⟩:=hR1.fourF
   go_wp2
   refine ret_cell Tryz.results108 Tryz.underlying48 (by kernel_rfl) rfl (hR1.set4 _ _ _ _) rfl ?_
   exact fin_fracE (P:=fun f'=>f'.q=1∧f'.Rs K) hR1 e1 (below_then hbe hb1 hbe.size) (Nat.le_refl _) ⟨by rw [canF_q];rfl,((show Sz 1 ((1:Int):Rat) from Sz_one).mono HF.out.1.k1).rs⟩
  ·rw [costQ_none h2 h1]
   have HZ:=Lib.hid HF.out.1.k1
   have fin:Calls Tryz.prog 100 #[.int .i64 0] W fun e w'=>∃v' f,e= .returned v'∧FracM w' v' f∧f=canF ((0:Int):Rat)∧Below W.heap.size W w':=whole_own 0 W (by omega) (by omega)
   by_cases c2:ph=2
   ·subst c2
    have hj0:j < 0:=by omega
    clear hc y0
    go_enter Tryz.func108,Tryz.ntmps108
    go_wp2_with fail
    clear hW y3
    refine fin.mono ?_
    clear fin
    rintro _ w1 ⟨v1,f1',rfl,e1,rfl,hb1⟩
    obtain ⟨B,m,d,B',m',d',rfl,_,_⟩:=id e1
    have hR1:=hR.later hb1
    obtain ⟨c0,c1,c2,c3⟩:=hR1.four
    obtain ⟨f0,f1,f2,f3⟩:=hR1.fourF
    go_wp2
    refine ret_cell Tryz.results108 Tryz.underlying48 (by kernel_rfl) rfl (hR1.set4 _ _ _ _) rfl ?_
    exact fin_fracE (P:=fun f'=>f'.q=0∧f'.Rs K) hR1 e1 (below_then hbe hb1 hbe.size) (Nat.le_refl _) ⟨by rw [canF_q];rfl,((show Sz 1 ((0:Int):Rat) from Sz_zero).mono HZ.out).rs⟩
   ·by_cases c1:ph=1
    ·subst c1
     have hj0:0≤j:=by omega
     clear hc y0
     go_enter Tryz.func108,Tryz.ntmps108
     go_wp2_with fail
     clear hW y3
     refine fin.mono ?_
     clear fin
     rintro _ w1 ⟨v1,f1',rfl,e1,rfl,hb1⟩
     obtain ⟨B,m,d,B',m',d',rfl,_,_⟩:=id e1
     have hR1:=hR.later hb1
     obtain ⟨c0,c1,c2,c3⟩:=hR1.four
     obtain ⟨f0,f1,f2,f3⟩:=hR1.fourF
     go_wp2
     refine ret_cell Tryz.results108 Tryz.underlying48 (by kernel_rfl) rfl (hR1.set4 _ _ _ _) rfl ?_
     exact fin_fracE (P:=fun f'=>f'.q=0∧f'.Rs K) hR1 e1 (below_then hbe hb1 hbe.size) (Nat.le_refl _) ⟨by rw [canF_q];rfl,((show Sz 1 ((0:Int):Rat) from Sz_zero).mono HZ.out).rs⟩
    ·have h3:(ph==2)=false:=by simpa using c2
     have h4:(ph==1)=false:=by simpa using c1
     clear hc y0 h1 h2
     go_enter Tryz.func108,Tryz.ntmps108
     go_wp2_with fail
     clear hW y3
     refine fin.mono ?_
     clear fin
     rintro _ w1 ⟨v1,f1',rfl,e1,rfl,hb1⟩
     obtain ⟨B,m,d,B',m',d',rfl,_,_⟩:=id e1
     have hR1:=hR.later hb1
     obtain ⟨c0,c1,c2,c3⟩:=hR1.four
     obtain ⟨f0,f1,f2,f3⟩:=hR1.fourF
     go_wp2
     refine ret_cell Tryz.results108 Tryz.underlying48 (by kernel_rfl) rfl (hR1.set4 _ _ _ _) rfl ?_
     exact fin_fracE (P:=fun f'=>f'.q=0∧f'.Rs K) hR1 e1 (below_then hbe hb1 hbe.size) (Nat.le_refl _) ⟨by rw [canF_q];rfl,((show Sz 1 ((0:Int):Rat) from Sz_zero).mono HZ.out).rs⟩
namespace Pl
theorem solF_of {m:Nat} {cols:Mx} {b x:Nat→Rat} (h:Indep m cols) (hx:∀r,r < m→mulC m cols x r=b r):solF m cols b=canL m x:=by
 have hl:=(solF_spec h b).1
 refine List.ext_getElem? fun i=>?_
 rcases Nat.lt_or_ge i m with e | e
 ·obtain ⟨f,hf⟩:=get_some (fs:=solF m cols b) (i:=i) (by omega)
  rw [hf,canL_get e,solF_can hf,solF_uniq h hx i e]
 ·rw [List.getElem?_eq_none (by omega),List.getElem?_eq_none (by rw [canL_length];exact e)]
theorem Good.length {n:Nat} {es:List En} (h:Good n es):es.length≤n:=by
 have e1:(cpyV es).length=es.length:=by simp [cpyV]
 rw [cpyV_spV h] at e1
 have:=spV_length (f:=colQ es) n
 omega
def redN (p:LPd) (s:LSt) (j:Int) (es:List En) (t:Nat):Rat:=costQ p s.phase j - alongQ es (dualL p s) t
theorem redN_all {p:LPd} {s:LSt} {j:Int} {es:List En} (hr:Reg p s) (hc:p.col j=colQ es) (hg:Good p.right.length es):redN p s j es es.length=redQ p s j:=by
 unfold redN redQ
 rw [dual_len hr,Nat.min_self,dotC_canL,alongQ_part hg.1 hg.2.1 es.length (Nat.le_refl _),List.take_length,hc]
 rfl
theorem redN_B {p:LPd} {s:LSt} {K:Nat} {j:Int} {es:List En} (F:p.Ft K) (hs:∀(k:Nat) (e:En),es[k]? =some e→e.f.Rs K) (hl:es.length≤7) {t:Nat} (ht:t≤es.length):Sz (20 * (5^p.right.length * K)+20) (redN p s j es t):=by
 have h1:K≤5^p.right.length * K:=F.1.le
 have h2:=Sz_along (K:=5^p.right.length * K) (fun k e he=>(hs k e he).mono h1) (dualL_B F.1 s) (Nat.le_trans F.1.k1 h1) t
 have h3:t * (2 * (5^p.right.length * K)+1)≤7 * (2 * (5^p.right.length * K)+1):=Nat.mul_le_mul_right _ (by omega)
 exact (Sz_sub ((Sz_cost F.1.ok F.1.k1 _ _).mono h1) h2).mono (by omega)
end Pl
def EngR (w:World) (e:Nat) (p:LPd) (s:LSt) (K:Nat):Prop:=
 ∃(Ab:Option Addr) (cb base bi gB:Nat) (vz:Value),EngM w e p s.phase s.pivots (.slice Ab p.right.length cb) (.pointer (some ⟨gB,0,none⟩)) vz∧IntsM w (.slice Ab p.right.length cb) s.basis∧BasO base bi w gB p.right.length K (s.mat p)∧FrsM w vz (zL p s)
theorem EngR.below {w w':World} {e:Nat} {p:LPd} {s:LSt} {K:Nat} (h:EngR w e p s K) (hb:Below w.heap.size w w'):EngR w' e p s K:=by
 obtain ⟨Ab,cb,base,bi,gB,vz,h1,h2,h3,h4⟩:=h
 exact ⟨Ab,cb,base,bi,gB,vz,h1.below hb,h2.below hb,h3.below hb,h4.below hb⟩
theorem BasO.indep {base bi g n K:Nat} {w:World} {Cs:Mx} (h:BasO base bi w g n K Cs):Indep n Cs:=by
 obtain ⟨T,_,_,_,_,_,_,_,_,_,CC,_,_,_,_,_,_,⟨_,_,_,e⟩,hU,_⟩:=h
 rw [← e];exact hU.indep T (Nat.le_refl _)
theorem EngR.reg {w:World} {e:Nat} {p:LPd} {s:LSt} {K:Nat} (h:EngR w e p s K):Reg p s:=by
 obtain ⟨Ab,cb,base,bi,gB,vz,h1,h2,h3,h4⟩:=h
 exact h3.indep
theorem duals_any (e:Nat) (p:LPd) (s:LSt) (K:Nat) (w:World) (h:EngR w e p s K) (S:s.Fit p) (F:p.Ft K):
 Calls Tryz.prog 75 #[.pointer (some ⟨e,0,none⟩)] w fun o w'=>∃v',o= .returned v'∧FrsO w.heap.size w' v' (dualL p s)∧Below w.heap.size w w':=by
 have HR:=Lib.hid h.reg
 have HH:=Lib.hid h
 obtain ⟨Ab,cb,base,bi,gB,vz,h1,h2,h3,h4⟩:=h
 obtain ⟨-,y4,-,y6,-⟩:=h1.cells
 have HM:=Lib.hid h1
 have HI:=Lib.hid h2
 have HB:=Lib.hid h3
 have HF:=Lib.hid F
 have HS:=Lib.hid S
 obtain ⟨m,hm⟩:∃m,m=p.right.length:=⟨_,rfl⟩
 have HMM:=Lib.hid hm
 rw [← hm] at y4
 have hm7:m≤7:=by rw [hm];exact F.2.1
 have hcb:=h2.len
 obtain ⟨-,hcb1,hcb2⟩:=hcb
 rw [← hm] at hcb1
 have hmk:=make_frac m (by omega)
 have hO0:=FrsO.zeros w m (by unfold maxLen;omega)
 have hb0:=below_new w (.cells (zfc m) 48)
 rw [zeros_rfL] at hO0
 have HK:=Lib.hid F.k
 have HY4:=Lib.hid y4
 have HY6:=Lib.hid y6
 have y4':=cell_keep hb0 y4
 clear h1 h2 h3 h4 F S hm y6
 go_enter Tryz.func75,Tryz.ntmps75
 go_wp2
 clear y4 y4'
 generalize w.alloc (.cells (zfc m) 48)=W at *
 go_loopw [23] (fun x wr=>∃k:Nat,k≤m∧x= .int .i64 k∧Below w.heap.size w wr∧∃H:Nat→RF,FrsO w.heap.size wr (.slice (some ⟨w.heap.size,0,none⟩) m m) (rfL m H)∧∀i,i < m→(i < k→(H i).q=costQ p s.phase (s.at_ i))∧(H i).Rs K) (fun x _=>m - (intOf x).toNat)
 case atStart=>exact ⟨0,by omega,rfl,hb0,fun _=>zeroF,hO0,fun i hi=>⟨fun h=>absurd h (by omega),(zeroF_rs 1).mono HK.out.1⟩⟩
 case round=>
  clear hO0 hb0
  obtain ⟨k,hk,rfl,hbe,H,hO,hH⟩:=hrel
  rcases Nat.lt_or_ge k m with hkl | hkl
  ·have hkI:(k:Int) < m:=by omega
   obtain ⟨bb,ob,z,rfl,x0,hz,z0,z1⟩:=HI.out.at_ (show k < p.right.length by rw [← HMM.out];exact hkl)
   have x0':=cell_keep hbe x0
   have HAT:Hid (s.at_ k=z):=Lib.hid (LSt.at_eq hz)
   have hzc:z < p.cost.length:=by rw [HF.out.1.cl];exact (HS.out.1 k z hz).2
   have HHX:=Lib.hid hH
   clear hz x0 hH
   go_wp2_with fail
   refine (ecost_any e p K s.phase s.pivots _ _ _ z _ (HM.out.below hbe) HF.out hzc).mono ?_
   rintro _ w1 ⟨v1,f,rfl,e1,hf,hb1⟩
   obtain ⟨A1,n1,c1,A2,n2,c2,rfl,_,_⟩:=id e1
   have hO1:=hO.below hb1
   have hbe1:=below_then hbe hb1 hbe.size
   obtain ⟨_,_,_,_,⟨c0,c1',c2',c3⟩,⟨f0,f1,f2,f3⟩,-⟩:=hO1.at_ (rfL_get (f:=H) hkl)
   obtain ⟨hO2,_⟩:=hO1.set_ (k:=k) (by rw [rfL_length];exact hkl) e1
   rw [rfL_set hkl] at hO2
   have hbe2:=below_set4' hbe1 (Nat.le_refl _) (k * 4) (k * 4+1) (k * 4+2) (k * 4+3)
   have HFQ:=Lib.hid hf
   clear hO hO1 hbe hbe1 hb1 e1 x0' hf
   go_wp2
   go_roundw
   case rel=>
    refine ⟨k+1,by omega,by go_num,hbe2 _ _ _ _,_,hO2,fun i hi=>?_⟩
    by_cases g:i=k
    ·simp only [if_pos g]
     exact ⟨fun _=>by rw [g,HAT.out];exact HFQ.out.1,HFQ.out.2⟩
    ·simp only [if_neg g]
     exact ⟨fun h=>(HHX.out i hi).1 (by omega),(HHX.out i hi).2⟩
   case measure=>simp [intOf];omega
  ·obtain rfl:m=k:=by omega
   have hrs:RsL K (rfL m H):=fun i f hf=>by
    have hi:i < m:=by have:=(List.getElem?_eq_some_iff.1 hf).1;rwa [rfL_length] at this
    rw [rfL_get hi] at hf
    injection hf with hf
    subst hf
    exact (hH i hi).2
   obtain ⟨C,hC⟩:∃C:Nat→Rat,C=fun i=>costQ p s.phase (s.at_ i):=⟨_,rfl⟩
   have HSP:Hid (spV (qAt (rfL m H)) (rfL m H).length=spV C m):=Lib.hid (by
    rw [rfL_length,hC]
    exact spV_congr fun i hi=>by rw [rfL_qAt hi];exact (hH i hi).1 hi)
   have HCS:Hid (∀i,i < m→Sz K (C i)):=Lib.hid fun i _=>by rw [hC];exact Sz_cost HF.out.1.ok HF.out.1.k1 _ _
   have HC:=Lib.hid hC
   have hHH:=Lib.hid hH
   clear hH hC
   go_wp2_with fail
   refine (fromDense_own _ (rfL m H) K _ hO.frs (by rw [rfL_length];omega) hrs (by have:=HK.out;omega)).mono ?_
   rw [HSP.out]
   rintro _ w2 ⟨v2,rfl,e2,hb2⟩
   have hbe2:=below_then hbe hb2 hbe.size
   have y6:=cell_keep hbe2 HY6.out
   obtain ⟨A2,n2,c2,rfl⟩:∃A n c,v2= .slice A n c:=by obtain ⟨A,c,e,_⟩:=e2.vec.shape;exact ⟨A,_,c,e⟩
   clear hO hbe hb2 hrs
   go_wp2_with fail
   refine (solveTB_own base bi gB m K (s.mat p) _ (spV C m) _ (by have:=HB.out.below hbe2;rw [← HMM.out] at this;exact this) e2.vec (spV_good C m) (spV_rs HCS.out)).mono ?_
   rintro _ w3 ⟨v3,y,rfl,hy,hsy,e3,hb3⟩
   have hbe3:=below_then hbe2 hb3 hbe2.size
   have y4:=cell_keep hbe3 HY4.out
   obtain ⟨A3,n3,c3,rfl⟩:∃A n c,v3= .slice A n c:=by obtain ⟨A,c,e,_⟩:=e3.vec.shape;exact ⟨A,_,c,e⟩
   have HSY:=Lib.hid hsy
   have HDL:Hid (canL m (colQ (spV y m))=dualL p s):=Lib.hid (by
    unfold dualL
    rw [canL_congr (g:=y) fun i hi=>by rw [spV_dQ,if_pos hi],← HMM.out]
    refine (solF_of (m:=m) (cols:=fun r k=>s.mat p k r) (by have:=HR.out.tr;rw [← HMM.out] at this;exact this) fun r hr=>?_).symm
    rw [canL_qAt hr]
    have:=hy r hr
    rw [spV_dQ,if_pos hr,HC.out] at this
    exact this)
   clear e2 hbe2 hb3 y6 hy hsy
   go_wp2_with fail
   refine (toDense_own _ (spV y m) m (5^m * K) _ e3.vec (by omega) (spV_rs HSY.out) (by have:=HF.out.2.2;rw [← HMM.out] at this;omega) (spV_good y m)).mono ?_
   rw [HDL.out]
   rintro _ w4 ⟨v4,rfl,e4,hb4⟩
   have hbe4:=below_then hbe3 hb4 hbe3.size
   have e5:=e4.monoB hbe3.size
   obtain ⟨A4,n4,c4,rfl⟩:=e4.sliceN
   clear e3 hbe3 hb4 y4 e4
   go_wp2
   go_ret
   exact ⟨_,rfl,e5,hbe4⟩
theorem direction_any (e:Nat) (p:LPd) (s:LSt) (K j:Nat) (w:World) (h:EngR w e p s K) (F:p.Ft K) (hz:lpErr p=0) (hj:j < p.cols.length):
 Calls Tryz.prog 90 #[.pointer (some ⟨e,0,none⟩),.int .i64 (j:Int)] w fun o w'=>∃v',o= .returned v'∧FrsO w.heap.size w' v' (dirL p s (j:Int))∧Below w.heap.size w w':=by
 have HR:=Lib.hid h.reg
 obtain ⟨Ab,cb,base,bi,gB,vz,h1,h2,h3,h4⟩:=h
 have HM:=Lib.hid h1
 obtain ⟨A,n,c,A',n',c',A'',n'',c'',hB,-,hv,-⟩:=h1
 obtain ⟨es,hes⟩:=get_someC (cs:=p.cols) (i:=j) hj
 obtain ⟨l1,l2,l3⟩:=hv.len
 have y1:=hB.cellAt 1 rfl
 obtain ⟨b,off,A1,c1,rfl,_,x0,hve⟩:=hv.elem (Below.refl _ _) hes
 obtain ⟨z1,z2,z3,z4,z5⟩:=lpErr_zero hz
 have HC:=Lib.hid (LPd.col_pos hes)
 have hgo:Pl.Good p.right.length es:=⟨z4 j es hes,(z5 j es hes).2,(z5 j es hes).1⟩
 have hrs:=(F.1.ok.2.2 j es hes).2
 have hjI:(j:Int) < n':=by omega
 have hF1:=F.2.1
 have hF2:=F.2.2
 clear hes hz F z1 z2 z3 z4 z5 h2 h4 hB hv l1 hj
 go_enter Tryz.func90,Tryz.ntmps90
 go_wp2_with fail
 clear y1 x0
 refine (esolve_any e p K p.right.length cb base bi gB (s.mat p) s.phase s.pivots Ab vz _ es _ HM.out h3 hve hgo hrs hF1 hF2).mono ?_
 rintro _ w1 ⟨v1,x,rfl,hx,-,e1,hb1⟩
 have hd:canL p.right.length x=dirL p s (j:Int):=by
  unfold dirL
  refine (solF_of HR.out fun r hr=>?_).symm
  rw [canL_qAt hr,HC.out];exact hx r hr
 rw [hd] at e1
 obtain ⟨A2,n2,c2,rfl⟩:=e1.sliceN
 clear hd hx h3 hve
 go_wp2
 go_ret
 exact ⟨_,rfl,e1,hb1⟩
theorem reduced_any (e:Nat) (p:LPd) (s:LSt) (K j:Nat) (vy:Value) (w:World) (h:EngR w e p s K) (hy:FrsM w vy (dualL p s)) (F:p.Ft K) (hz:lpErr p=0) (hj:j < p.cols.length):
 Calls Tryz.prog 76 #[.pointer (some ⟨e,0,none⟩),vy,.int .i64 (j:Int)] w fun o w'=>∃v',o= .returned v'∧FracM w' v' (canF (redQ p s (j:Int)))∧Below w.heap.size w w':=by
 have HR:=Lib.hid h.reg
 obtain ⟨Ab,cb,base,bi,gB,vz,h1,h2,h3,h4⟩:=h
 have HM:=Lib.hid h1
 obtain ⟨A,n,c,A',n',c',A'',n'',c'',hB,-,hv,-⟩:=h1
 obtain ⟨es,hes⟩:=get_someC (cs:=p.cols) (i:=j) hj
 obtain ⟨l1,l2,l3⟩:=hv.len
 have y1:=hB.cellAt 1 rfl
 obtain ⟨b,off,A1,c1,rfl,_,x0,hve⟩:=hv.elem (Below.refl _ _) hes
 obtain ⟨z1,z2,z3,z4,z5⟩:=lpErr_zero hz
 have hgo:Pl.Good p.right.length es:=⟨z4 j es hes,(z5 j es hes).2,(z5 j es hes).1⟩
 have HGO:=Lib.hid hgo
 have HRA:Hid (redN p s (j:Int) es es.length=redQ p s (j:Int)):=Lib.hid (redN_all HR.out (LPd.col_pos hes) hgo)
 have HRS:=Lib.hid (F.1.ok.2.2 j es hes).2
 have hjI:(j:Int) < n':=by omega
 have hjc:(j:Int) < p.cost.length:=by rw [F.1.cl];omega
 have HF:=Lib.hid F
 obtain ⟨Ay,cy,rfl,hcy1,hcy2⟩:=hy.shape
 obtain ⟨m,hm⟩:∃m,m=p.right.length:=⟨_,rfl⟩
 have HMM:=Lib.hid hm
 have HDL:Hid ((dualL p s).length=m):=Lib.hid (by rw [hm];exact dual_len HR.out)
 rw [HDL.out] at hy hcy1 ⊢
 have HVY:=Lib.hid hy
 have HVE:=Lib.hid hve
 obtain ⟨l,hl⟩:∃l,l=es.length:=⟨_,rfl⟩
 have HLL:=Lib.hid hl
 have hl7:l≤7:=by rw [hl];exact Nat.le_trans hgo.length F.2.1
 rw [← hl] at x0
 have HY1:=Lib.hid y1
 have HX0:=Lib.hid x0
 obtain ⟨-,hc11,hc12⟩:=hve.len
 rw [← hl] at hc11
 have HJ:Hid (K≤5^p.right.length * K∧1≤K∧5^p.right.length * K≤4000000):=Lib.hid ⟨F.1.le,F.1.k1,F.2.2⟩
 have HN0:Hid (redN p s (j:Int) es 0=costQ p s.phase (j:Int)):=Lib.hid (by unfold redN alongQ;rw [sumN_zero];grind)
 obtain ⟨W0,hW0,hR0,hb0⟩:=boxF1 w (.bool false) (.slice none 0 0) (.bool false) (.slice none 0 0)
 clear hes hz F z1 z2 z3 z4 z5 h2 h3 h4 hB hv l1 hj hy hve hgo hl hm x0 y1
 go_enter Tryz.func76,Tryz.ntmps76
 go_wp2_with fail
 clear hW0
 refine (ecost_any e p K s.phase s.pivots _ _ _ (j:Int) _ (HM.out.below hb0) HF.out hjc).mono ?_
 rintro _ w1 ⟨v1,f,rfl,e1,hf,hb1⟩
 obtain ⟨B1,m1,d1,B2,m2,d2,rfl,_,_⟩:=id e1
 have hsf:f.Sm:=hf.2.sm (by have:=HJ.out;omega)
 have HFQ:Hid (f.q+zeroF.q=redN p s (j:Int) es 0):=Lib.hid (by rw [HN0.out,zeroF_q,hf.1,Rat.add_zero])
 have hbe1:=below_then hb0 hb1 hb0.size
 have hR1:=hR0.later hb1
 clear hf hR0 hb0 hb1
 go_wp2_with fail
 refine (addF_any _ _ f zeroF _ e1 (FracM.zero _) hsf zeroF_sm).mono ?_
 rw [HFQ.out]
 rintro _ w2 ⟨v2,rfl,e2,hb2⟩
 obtain ⟨B1,m1,d1,B2,m2,d2,rfl,_,_⟩:=id e2
 obtain ⟨W3,hW3,hT3,hb3⟩:=boxF1 w2 (.bool (canF (redN p s (j:Int) es 0)).num.neg) (.slice B1 m1 d1) (.bool (canF (redN p s (j:Int) es 0)).den.neg) (.slice B2 m2 d2)
 have hR3:=(hR1.later hb2).later hb3
 have hbe2:=below_then hbe1 hb2 hbe1.size
 have hbe3:=below_then hbe2 hb3 hbe2.size
 have e3:=e2.below hb3
 have y1:=cell_keep hbe3 HY1.out
 have x0:=cell_keep hbe3 HX0.out
 have hgt:w.heap.size < w2.heap.size:=by have:=hR1.lt;have:=hb2.size;omega
 clear hR1 e1 e2 hb2 hb3 hbe1 hbe2 hsf
 go_wp2
 clear hW3 y1 x0
 have hT0:RstQ W3 w2.heap.size (redN p s (j:Int) es 0):=⟨_,_,_,_,_,_,hT3,e3⟩
 clear hT3 e3
 generalize w2.heap.size=gt at *
 go_loopw [24] (fun x wr=>∃t:Nat,t≤l∧x= .int .i64 t∧Below w.heap.size w wr∧RstQ wr gt (redN p s (j:Int) es t)∧Bk wr w.heap.size 48 [.bool false,.slice none 0 0,.bool false,.slice none 0 0]) (fun x _=>l - (intOf x).toNat)
 case atStart=>exact ⟨0,by omega,rfl,hbe3,hT0,hR3⟩
 case round=>
  clear hbe3 hT0 hR3
  obtain ⟨t,ht,rfl,hbe,hT,hR⟩:=hrel
  rcases Nat.lt_or_ge t l with htl | htl
  ·obtain ⟨en,hen⟩:=get_someE (es:=es) (i:=t) (by rw [← HLL.out];exact htl)
   obtain ⟨b2,o2,A2,n2,c2,A3,n3,c3,rfl,_,⟨x0,x1,x2,x3,x4⟩,hmf⟩:=HVE.out.elem hbe hen
   have hin:=HGO.out.1 t en hen
   have hrsf:=HRS.out t en hen
   have HAL:=Lib.hid (alongQ_succ hen (dualL p s))
   obtain ⟨ei,f⟩:=en
   simp only at *
   obtain ⟨i,rfl⟩:=Int.eq_ofNat_of_zero_le hin.1
   have him:i < m:=by rw [HMM.out];omega
   have hiI:(i:Int) < m:=by omega
   obtain ⟨W4,hW4,hV,hbn⟩:=box_en wr (.int .i64 (i:Int)) (.bool f.num.neg) (.slice A2 n2 c2) (.bool f.den.neg) (.slice A3 n3 c3)
   obtain ⟨v0,v1,v2,v3,v4⟩:=hV.five
   have hbe4:=below_then hbe hbn hbe.size
   have hm1:=hmf.below hbn
   have hT4:=hT.below hbn
   have hR4:=hR.later hbn
   obtain ⟨gy,hgy⟩:=get_some (fs:=dualL p s) (i:=i) (by rw [HDL.out];exact him)
   have hgy2:gy=canF (qAt (dualL p s) i):=solF_can (by unfold dualL at hgy;exact hgy)
   obtain ⟨yy,hyy⟩:∃yy,yy=qAt (dualL p s) i:=⟨_,rfl⟩
   rw [← hyy] at hgy2
   subst hgy2
   obtain ⟨b3,o3,A4,n4,c4,A5,n5,c5,rfl,_,⟨y0,y1,y2,y3⟩,hmy⟩:=HVY.out.elem hbe4 hgy
   have HNX:Hid (redN p s (j:Int) es (t+1)=redN p s (j:Int) es t - yy * f.q):=Lib.hid (by
    unfold redN
    rw [HAL.out,show (i:Int).toNat=i from Int.toNat_natCast i,← hyy];grind)
   have HYB:Hid (Sz (5^p.right.length * K) yy):=Lib.hid (by
    rw [hyy];exact (dualL_B HF.out.1 s).qAt (Nat.le_trans HJ.out.2.1 HJ.out.1) i)
   have HRB:Hid (Sz (20 * (5^p.right.length * K)+20) (redN p s (j:Int) es t)):=Lib.hid (redN_B HF.out HRS.out (by rw [← HLL.out];exact hl7) (by rw [← HLL.out];exact ht))
   have HFS:Hid (f.Rs K∧Sz K f.q):=Lib.hid ⟨hrsf,hrsf.sz HJ.out.2.1⟩
   have hq3:qs yy=0∨qs yy=1∨qs yy= -1:=by have:=qs_bd yy;omega
   clear hen hin hrsf hgy hyy hmf hT hR hbe HAL hV hbn
   by_cases hq0:qs yy=0
   ·have HY0:=Lib.hid (qs_zero.1 hq0)
    clear hq3
    go_wp2_with fail
    clear hW4
    refine (signF_any _ (canF yy) _ hmy).mono ?_
    rw [canF_q,hq0]
    rintro _ w5 ⟨rfl,hb5⟩
    have hT5:=hT4.below hb5
    have hR5:=hR4.later hb5
    have hbe5:=below_then hbe4 hb5 hbe4.size
    have hN0:redN p s (j:Int) es t=redN p s (j:Int) es (t+1):=by rw [HNX.out,HY0.out];grind
    rw [hN0] at hT5
    clear hT4 hR4 hbe4 hb5 hm1 hmy v0 v1 v2 v3 v4 x0 x1 x2 x3 x4 y0 y1 y2 y3 hq0 hN0
    go_wp2
    go_roundw
    case rel=>exact ⟨t+1,by omega,by go_num,hbe5,hT5,hR5⟩
    case measure=>simp [intOf];omega
   ·have hqe:(qs yy !=0)=true:=by simpa using hq0
    clear hq3 hq0
    go_wp2_with fail
    clear hW4
    refine (signF_any _ (canF yy) _ hmy).mono ?_
    rw [canF_q]
    rintro _ w5 ⟨rfl,hb5⟩
    have hT5:=hT4.below hb5
    have hR5:=hR4.later hb5
    have hbe5:=below_then hbe4 hb5 hbe4.size
    have hm5:=hm1.below hb5
    have hmy5:=hmy.below hb5
    have k0:=cell_keep hb5 v0
    have k1:=cell_keep hb5 v1
    have k2:=cell_keep hb5 v2
    have k3:=cell_keep hb5 v3
    have k4:=cell_keep hb5 v4
    have l0:=cell_keep hb5 y0
    have l1:=cell_keep hb5 y1
    have l2:=cell_keep hb5 y2
    have l3:=cell_keep hb5 y3
    obtain ⟨A6,n6,c6,A7,n7,c7,hRB,hmr⟩:=hT5
    obtain ⟨t0,t1,t2,t3⟩:=hRB.four
    obtain ⟨rr,hrr⟩:∃rr,rr=redN p s (j:Int) es t:=⟨_,rfl⟩
    have hsr:(canF rr).Sm:=by rw [hrr];exact HRB.out.rs.sm (by have:=HJ.out;omega)
    have hsy:(canF yy).Sm:=HYB.out.rs.sm (by have:=HJ.out;omega)
    have hsf:f.Sm:=HFS.out.1.sm (by have:=HJ.out;omega)
    have hsP:(canF (yy * f.q)).Sm:=(Sz_mul HYB.out HFS.out.2).rs.sm (by have:=HJ.out;omega)
    have HRR:=Lib.hid hrr
    rw [← hrr] at t0 t2 hmr hRB
    clear hrr hT4 hR4 hbe4 hb5 hm1 hmy v0 v1 v2 v3 v4 x0 x1 x2 x3 x4 y0 y1 y2 y3
    have hm1:=hm5
    have hmy:=hmy5
    go_upto_region 6 with (fail)
    clear hqe
    have C0:=stab t0
    have C1:=stab t1
    have C2:=stab t2
    have C3:=stab t3
    have D0:=stab k0
    have D1:=stab k1
    have D2:=stab k2
    have D3:=stab k3
    have D4:=stab k4
    have E0:=stab l0
    have E1:=stab l1
    have E2:=stab l2
    have E3:=stab l3
    have hS0:=below_drew' w5
    clear t0 t1 t2 t3 k0 k1 k2 k3 k4 l0 l1 l2 l3
    refine region_seq 10 [0,1,2,3,4,5,6,7,8,9,10] (by kernel_rfl) (by kernel_rfl) ?_
    repeat ((first | (refine seq_takeP (v:=?_) rfl rfl rfl ?_ ?_;rotate_left;(· (intro _ hSw;go_simp;(try go_bits);(try with_reducible rfl)))) | (refine seq_take (v:=?_) rfl rfl rfl ?_ ?_;rotate_left;(· (intro _ hSw;go_simp;(try go_bits);(try with_reducible rfl)))) | refine seq_skip rfl rfl rfl ?_);(try simp only [Act.put,pu1,pu2,pu3,pu4,pu5,pu6]))
    refine seq_step rfl rfl (fun KR hKR=>?_)
    go_simp
    with_reducible refine (mulF_any _ _ (canF yy) f _ (hmy.below hS0) (hm1.below hS0) hsy hsf).mono ?_
    rw [canF_q]
    rintro _ w6 ⟨v6,rfl,e6,hb6⟩
    have hS6:=below_then hS0 hb6 hS0.size
    refine hKR.out _ _ (Or.inr hS6) ?_
    clear hKR KR
    (try simp only [Act.put,pu1,pu2,pu3,pu4,pu5,pu6])
    repeat ((first | (refine seq_takeP (v:=?_) rfl rfl rfl ?_ ?_;rotate_left;(· (intro _ hSw;go_simp;(try go_bits);(try with_reducible rfl)))) | (refine seq_take (v:=?_) rfl rfl rfl ?_ ?_;rotate_left;(· (intro _ hSw;go_simp;(try go_bits);(try with_reducible rfl)))) | refine seq_skip rfl rfl rfl ?_);(try simp only [Act.put,pu1,pu2,pu3,pu4,pu5,pu6]))
    refine seq_step rfl rfl (fun KR hKR=>?_)
    go_simp
    with_reducible refine (subF_any _ _ (canF rr) (canF (yy * f.q)) _ (hmr.below hS6) e6 hsr hsP).mono ?_
    rw [canF_q,canF_q]
    rintro _ w7 ⟨v7,rfl,e7,hb7⟩
    have hS7:=below_then hS6 hb7 hS6.size
    obtain ⟨B9,l9,k9,B9',l9',k9',rfl,_,_⟩:=id e7
    have hR7:=hRB.later hS7
    obtain ⟨c0,c1,c2,c3⟩:=hR7.four
    obtain ⟨f0,f1,f2,f3⟩:=hR7.fourF
    refine hKR.out _ _ (Or.inr hS7) ?_
    clear hKR KR
    (try simp only [Act.put,pu1,pu2,pu3,pu4,pu5,pu6])
    repeat ((first | (refine seq_takeP (v:=?_) rfl rfl rfl ?_ ?_;rotate_left;(· (intro _ hSw;go_simp;(try go_bits);(try with_reducible rfl)))) | (refine seq_take (v:=?_) rfl rfl rfl ?_ ?_;rotate_left;(· (intro _ hSw;go_simp;(try go_bits);(try with_reducible rfl)))) | refine seq_skip rfl rfl rfl ?_);(try simp only [Act.put,pu1,pu2,pu3,pu4,pu5,pu6]))
    refine seq_step rfl rfl (fun KR hKR=>?_)
    go_simp
    refine hKR.out _ _ (Or.inl (by decide)) ?_
    clear hKR KR
    (try simp only [Act.put,pu1,pu2,pu3,pu4,pu5,pu6])
    refine seq_done ?_
    clear C0 C1 C2 C3 D0 D1 D2 D3 D4 E0 E1 E2 E3
    have hk8:=hR7.but4 (.bool (canF (rr - yy * f.q)).num.neg) (.slice B9 l9 k9) (.bool (canF (rr - yy * f.q)).den.neg) (.slice B9' l9' k9')
    have hR8:=(hR5.later hS7).far4 (g':=gt) (by omega) (.bool (canF (rr - yy * f.q)).num.neg) (.slice B9 l9 k9) (.bool (canF (rr - yy * f.q)).den.neg) (.slice B9' l9' k9')
    have hbe8:=below_set4 (below_then hbe5 hS7 hbe5.size) (Nat.le_of_lt hgt) (.bool (canF (rr - yy * f.q)).num.neg) (.slice B9 l9 k9) (.bool (canF (rr - yy * f.q)).den.neg) (.slice B9' l9' k9')
    have hT8:RstQ _ gt (redN p s (j:Int) es (t+1)):=⟨B9,l9,k9,B9',l9',k9',by rw [HNX.out,← HRR.out];exact hR7.set4 _ _ _ _,by rw [HNX.out,← HRR.out];exact e7.keep (hk8.keep (by decide))⟩
    clear hR7 hR5 hbe5 hS0 hS6 hS7 e6 e7 hb6 hb7 c0 c1 c2 c3 f0 f1 f2 f3 hm1 hm5 hmy hmy5 hmr hk8 hsr hsy hsf hsP hRB
    go_wp2
    go_roundw
    case rel=>exact ⟨t+1,by omega,by go_num,hbe8,hT8,hR8⟩
    case measure=>simp [intOf];omega
  ·obtain rfl:l=t:=by omega
   rw [HLL.out,HRA.out] at hT
   obtain ⟨A6,n6,c6,A7,n7,c7,hRB,hmr⟩:=hT
   obtain ⟨t0,t1,t2,t3⟩:=hRB.four
   obtain ⟨c0,c1,c2,c3⟩:=hR.four
   obtain ⟨f0,f1,f2,f3⟩:=hR.fourF
   go_wp2
   refine ret_cell Tryz.results76 Tryz.underlying48 (by kernel_rfl) rfl (hR.set4 _ _ _ _) rfl ?_
   exact fin_frac hR hmr hbe (Nat.le_refl _)
end Go.Proofs.YtncmobkhenfhpaaGreat
