/- Lemmas of the claim; no condition. -/
import Derived.Test.YtgbhebappffbdaaGreatFd4
set_option linter.all false
set_option maxRecDepth 100000
set_option maxHeartbeats 40000000
namespace Go.Proofs.YtgbhebappffbdaaGreat
open Go.RowKit
open Pl
attribute [local go_sem ↓] Go.wp_at_zero Go.wp_at_succ
theorem i64_and1023 (n:Int):bits .and .i64 n 1023=n % 1024:=by
 have hc:(BitVec.ofInt 64 1023).toNat=2^10 - 1:=by decide
 have a:(BitVec.ofInt 64 n &&& BitVec.ofInt 64 1023).toNat=(n % ((2^64:Nat):Int)).toNat % 2^10:=by
  rw [BitVec.toNat_and,BitVec.toNat_ofInt,hc,Nat.and_two_pow_sub_one_eq_mod]
 show IntKind.i64.wrap ((BitVec.ofInt 64 n &&& BitVec.ofInt 64 1023).toNat:Nat)=n % 1024;rw [a,IntKind.wrap_i64];omega
theorem LpO.lp {base:Nat} {w:World} {v:Value} {p:LPd} (h:LpO base w v p):LpM w v p:=by
 obtain ⟨s0,s1,s2,b1,rfl,h0,h1,h2,_,_⟩:=h;obtain ⟨A,c,rfl⟩:=h0.slice;obtain ⟨A',c',rfl,_,_⟩:=h1.shape;obtain ⟨a,b,rfl⟩:=h2.slice;exact ⟨_,_,_,_,_,_,_,_,_,rfl,h0.frs,h1,h2.frs⟩
theorem op_append_run {o:Oper} {a:Act} {w w':World} {v x y:Value} {K:Act→World→Prop} {Q:Exit→Act→World→Prop} {ops:Array Oper} {t:TypeId} (s1 s2:Operand) (hgd:o.guard=none) (ho:o.op= .call { callee:= .builtin .append,args:=#[s1,s2],argTypes:=#[t,t] }) (h1:a.eval s1=x) (h2:a.eval s2=y)
 (hrun:(Builtin.append_ #[t,t] o.type #[x,y]).run Tryz.prog w= .ok v w') (h:K (a.put o.dst v) w'):if Region.wanted o (yielded ops a.tmps)=true then Oper.wp Tryz.prog o a w K Q else K (a.put o.dst undef) w:=by
 rw [if_pos (by simp [Region.wanted,hgd])];unfold Oper.wp execOp;simp only [ho,resolve,invoke,builtin,Sem.run_bind,Sem.run_pure,Result.andThen_ok,List.map_toArray,List.map_cons,List.map_nil,h1,h2,hrun];exact h
section
attribute [local irreducible] YO
end
section
open Go.Maps (int_keyed keyOf_int_mk)
end
namespace Pl
def smRun (p:LPd) (s:LSt) (N:Nat):LSt:=if YC p s=0 then Zwh p N (ZB p s) else ⟨0,[],0⟩
theorem smRun_no {p:LPd} {s:LSt} {N:Nat} (h:YC p s≠0):smRun p s N=⟨0,[],0⟩:=if_neg h
theorem smRun_yes {p:LPd} {s:LSt} {N:Nat} (h:YC p s=0):smRun p s N=Zwh p N (ZB p s):=if_pos h
end Pl
theorem srun_own (v1 v2:Value) (p:LPd) (s:LSt) (K:Nat) (w:World) (h:LpM w v1 p) (h2:StM w v2 s) (ok:p.Ok K) (hF:lpErr p=0→p.Ft K) (hbl:s.basis.length≤1099511627776) (hrg:∀z∈s.basis,-9223372036854775808≤z∧z≤9223372036854775807) (N:Nat) (hN:N≤9223372036854775807) (hpv:YC p s=0→s.pivots+N≤9223372036854775807):
 Calls Tryz.prog 20 #[v1,v2,.int .i64 (N:Int)] w fun o w'=>∃v',o= .returned (.tuple #[v',.int .i64 (YC p s)])∧StO w.heap.size w' v' (smRun p s N)∧Below w.heap.size w w':=by
 have ac:=JZ hpv;clear hpv;obtain ⟨A,n,c,A',n',c',ao,ap,aq,rfl,hc,hv,hr⟩:=id h;obtain ⟨Ab,nb,cb,rfl,hI⟩:=id h2;obtain ⟨W,hW,a8,H⟩:=Y6 w (.slice A n c) (.slice A' n' c') (.slice ao ap aq);obtain ⟨W1,ar,a0,I⟩:=Zea W (.int .i64 s.phase) (.slice Ab nb cb) (.int .i64 s.pivots);obtain ⟨W2,au,a9,S⟩:=Zea W1 (.int .i64 0) (.slice none 0 0) (.int .i64 0);have hX:=(a8.later I).later S;have u:=Za H I H.size;have v:=Za u S u.size;have ad:W.heap.size=w.heap.size+1:=by rw [← hW];simp
 rw [ad] at a0;have ae:=JZ h;have af:=JZ h2;have C:=JZ (⟨ok,hF,hbl,hrg⟩:p.Ok K∧(lpErr p=0→p.Ft K)∧s.basis.length≤1099511627776∧∀z∈s.basis,-9223372036854775808≤z∧z≤9223372036854775807);obtain ⟨x0,x1,x2⟩:=hX.three;obtain ⟨y0,y1,y2⟩:=(a0.later S).three;have a:w.heap.size≤W1.heap.size:=u.size;have ax:0≤(N:Int):=by omega
 clear u S h h2 hc hv hr hI a8 H I hX a0 ok hF hbl hrg;go_enter Tryz.func20,Tryz.ntmps20;go_wp2_with fail;clear hW ar au;refine (Zck _ _ p s K _ (ae.out.below v) (af.out.below v) C.out.1 C.out.2.1 C.out.2.2.1 C.out.2.2.2).mono ?_;intro o w2 ho;obtain ⟨B,ho⟩:=ho;have U:=Za v B v.size;have y:=JZ v;have D:=JZ a9;clear v a9 x0 x1 x2 y0 y1 y2;generalize W1.heap.size=gr at *;rcases ho with ⟨he,rfl⟩ | ⟨hz,he,rfl⟩ | ⟨hz,he,e,rfl,hE⟩
 ·have hS:YC p s=lpErr p:=Zcl he;have ag:(lpErr p !=0)=true:=by simpa using he
  have HS:=JZ hS;have HE:Hid (YC p s≠0):=JZ (by rw [hS];exact he);have V:=JZ B;clear hS he B;generalize lpErr p=L at *;have m:=D.out.later V.out;obtain ⟨c0,c1,c2⟩:=m.three;obtain ⟨f0,f1,f2⟩:=m.threeF;have g0:=m.set_ 0 (.int .i64 0);have g1:=g0.set_ 1 (.slice none 0 0);have g2:=g1.set_ 2 (.int .i64 0);have g:=((U.setCell (p:=⟨gr,0,none⟩) a (.int .i64 0)).setCell (p:=⟨gr,1,none⟩) a (.slice none 0 0)).setCell (p:=⟨gr,2,none⟩) a (.int .i64 0);go_wp2;refine Y5 Tryz.results20 Tryz.underlying29 (by kernel_rfl) rfl g2 rfl ?_;exact ⟨_,by rw [HS.out];rfl,by rw [smRun_no HE.out];exact ⟨none,0,0,rfl,ZN.nil _ _⟩,g⟩
 ·have hS:YC p s=vsErr p s:=Vo hz;have ag:(vsErr p s !=0)=true:=by simpa using he
  have HS:=JZ hS;have HE:Hid (YC p s≠0):=JZ (by rw [hS];exact he);have V:=JZ B;clear hS he hz B;generalize vsErr p s=L at *;have m:=D.out.later V.out;obtain ⟨c0,c1,c2⟩:=m.three;obtain ⟨f0,f1,f2⟩:=m.threeF;have g0:=m.set_ 0 (.int .i64 0);have g1:=g0.set_ 1 (.slice none 0 0);have g2:=g1.set_ 2 (.int .i64 0);have g:=((U.setCell (p:=⟨gr,0,none⟩) a (.int .i64 0)).setCell (p:=⟨gr,1,none⟩) a (.slice none 0 0)).setCell (p:=⟨gr,2,none⟩) a (.int .i64 0);go_wp2;refine Y5 Tryz.results20 Tryz.underlying29 (by kernel_rfl) rfl g2 rfl ?_;exact ⟨_,by rw [HS.out];rfl,by rw [smRun_no HE.out];exact ⟨none,0,0,rfl,ZN.nil _ _⟩,g⟩
 ·have HS:Hid (YC p s=0):=JZ (by rw [Vo hz];exact he);have HV:=JZ (Zkv he);have E:=JZ (C.out.2.1 hz);have ah:=JZ hE.r;have HZ:=JZ hz;have a2:=JZ hE;have ai:=JZ (ac.out HS.out);have P:Hid (ZB p s=ZB p s):=JZ rfl;have a3:=JZ HV.out.settle;have X:Hid ((ZB p s).pivots=s.pivots∧0≤s.pivots):=JZ ⟨rfl,HV.out.pv⟩;obtain ⟨t0,a1⟩:∃t0,t0=ZB p s:=⟨_,rfl⟩;replace P:Hid (ZB p s=t0):=JZ a1.symm;rw [← a1] at a2 a3 X;clear hz he B hE ah a1;go_wp2
  go_loopw [27] (fun x wr=>∃(n:Nat) (t:LSt),n≤N∧x= .int .i64 n∧Zwa W2 wr e p t K∧Val p t∧Zwh p (N - n) t=Zwh p N t0∧0≤t.pivots∧t.pivots≤s.pivots+n) (fun x _=>N - (intOf x).toNat)
  case atStart=>exact ⟨0,t0,by omega,rfl,a2.out,a3.out,rfl,by have:=X.out;omega,by have:=X.out;omega⟩
  case round=>
   obtain ⟨n,t,hn,rfl,hE,aa,ab,av,b0⟩:=hrel;have q:=JZ aa;have R:=JZ ab;clear aa ab;rcases JX n N with hnl | hnl
   ·have a4:(n:Int) < N:=(by omega);have aj:=JZ hE;go_wp2_with fail;refine (Zng e p t K _ hE.r q.out.fit E.out HZ.out q.out.ph).mono ?_;rintro _ w5 ⟨v5,rfl,e5,M⟩;obtain ⟨Ad,nd,cd,rfl⟩:=e5.sliceN;have Y:=hE.below M;by_cases hq:YR p t=0
    ·obtain ⟨j,aw,hj,hJ,hD⟩:=Ydj hq;rw [hq,hJ];rw [hD] at e5;have ak:=JZ hq;have a5:=JZ hD;have al:=JZ hJ;have a6:t.pivots+1≤9223372036854775807:=(by have:=ai.out;omega);clear hq hJ aw hD Y;go_wp2_with fail;refine (pivot_own W2 _ e p t K j _ _ aj.out M e5 hj q.out.fit E.out HZ.out av a6).mono ?_;rintro o6 w6 (⟨i,hl,rfl,O⟩ | ⟨hl,rfl,O⟩)
     ·have a7:Zeh p t (zL p t) (VO p t)=some i:=(by rw [a5.out];exact hl);obtain ⟨t',T⟩:∃t',t'=ZB p (Zry t i (j:Int)):=⟨_,rfl⟩;rw [← T] at O;have Z:Zkt p t=some t':=(by rw [Yfl ak.out a7,al.out,T];rfl);have am:Val p t':=Zpe q.out Z;have an:Zwh p (N - (n+1)) t'=Zwh p N t0:=by
       rw [← R.out,show N - n=(N - (n+1))+1 by omega,Zej Z]
      have ay:t'.pivots=t.pivots+1:=(by rw [T];rfl);clear hE e5 hl a7 M T Z;go_wp2;go_roundw
      case rel=>exact ⟨n+1,t',by omega,by go_num,O,am,an,by omega,by omega⟩
      case measure=>simp [intOf];omega
     ·have F:Hid (Zwh p N t0=t):=JZ (by rw [← R.out];exact Zei (Yfk (by rw [a5.out];exact hl)) _);have d:=JZ O;clear hE e5 hl M O hn hnl a4;go_wp2_with fail;refine (state_any _ e p t K _ d.out E.out q.out.fit).mono ?_;rintro _ w9 ⟨v9,rfl,e9,l⟩;obtain ⟨A9,n9,c9,rfl,J⟩:=e9;have f:=Za y.out d.out.bel y.out.size;have k:=Za f l f.size;have b:=(D.out.later d.out.bel).later l;obtain ⟨c0,c1,c2⟩:=b.three;obtain ⟨f0,f1,f2⟩:=b.threeF;have k0:=Ze.setCell b 0 (.int .i64 t.phase);have g0:=b.set_ 0 (.int .i64 t.phase);have k1:=Ze.setCell g0 1 (.slice A9 n9 c9);have g1:=g0.set_ 1 (.slice A9 n9 c9);have k2:=Ze.setCell g1 2 (.int .i64 t.pivots);have g2:=g1.set_ 2 (.int .i64 t.pivots);have G:=J.but ((k0.trans k1).trans k2) (by decide);have g:=((k.setCell (p:=⟨gr,0,none⟩) a (.int .i64 t.phase)).setCell (p:=⟨gr,1,none⟩) a (.slice A9 n9 c9)).setCell (p:=⟨gr,2,none⟩) a (.int .i64 t.pivots);go_wp2;refine Y5 Tryz.results20 Tryz.underlying29 (by kernel_rfl) rfl g2 rfl ?_;exact ⟨_,by rw [HS.out];rfl,by rw [smRun_yes HS.out,P.out,F.out];exact ⟨A9,n9,c9,rfl,G.monoB f.size⟩,g⟩
    ·have F:Hid (Zwh p N t0=t):=JZ (by rw [← R.out];exact Zei (Yfj hq) _);have az:(YR p t !=0)=true:=(by simpa using hq);have d:=JZ Y;clear hE e5 M Y hn hnl a4 hq;go_wp2_with fail;refine (state_any _ e p t K _ d.out E.out q.out.fit).mono ?_;rintro _ w9 ⟨v9,rfl,e9,l⟩;obtain ⟨A9,n9,c9,rfl,J⟩:=e9;have f:=Za y.out d.out.bel y.out.size;have k:=Za f l f.size;have b:=(D.out.later d.out.bel).later l;obtain ⟨c0,c1,c2⟩:=b.three;obtain ⟨f0,f1,f2⟩:=b.threeF;have k0:=Ze.setCell b 0 (.int .i64 t.phase);have g0:=b.set_ 0 (.int .i64 t.phase);have k1:=Ze.setCell g0 1 (.slice A9 n9 c9);have g1:=g0.set_ 1 (.slice A9 n9 c9);have k2:=Ze.setCell g1 2 (.int .i64 t.pivots);have g2:=g1.set_ 2 (.int .i64 t.pivots);have G:=J.but ((k0.trans k1).trans k2) (by decide);have g:=((k.setCell (p:=⟨gr,0,none⟩) a (.int .i64 t.phase)).setCell (p:=⟨gr,1,none⟩) a (.slice A9 n9 c9)).setCell (p:=⟨gr,2,none⟩) a (.int .i64 t.pivots);go_wp2;refine Y5 Tryz.results20 Tryz.underlying29 (by kernel_rfl) rfl g2 rfl ?_;exact ⟨_,by rw [HS.out];rfl,by rw [smRun_yes HS.out,P.out,F.out];exact ⟨A9,n9,c9,rfl,G.monoB f.size⟩,g⟩
   ·obtain rfl:N=n:=by omega
    have F:Hid (Zwh p N t0=t):=JZ (by rw [← R.out,Nat.sub_self];rfl);have d:=JZ hE;clear hE hn hnl;go_wp2_with fail;refine (state_any _ e p t K _ d.out E.out q.out.fit).mono ?_;rintro _ w9 ⟨v9,rfl,e9,l⟩;obtain ⟨A9,n9,c9,rfl,J⟩:=e9;have f:=Za y.out d.out.bel y.out.size;have k:=Za f l f.size;have b:=(D.out.later d.out.bel).later l;obtain ⟨c0,c1,c2⟩:=b.three;obtain ⟨f0,f1,f2⟩:=b.threeF;have k0:=Ze.setCell b 0 (.int .i64 t.phase);have g0:=b.set_ 0 (.int .i64 t.phase);have k1:=Ze.setCell g0 1 (.slice A9 n9 c9);have g1:=g0.set_ 1 (.slice A9 n9 c9);have k2:=Ze.setCell g1 2 (.int .i64 t.pivots);have g2:=g1.set_ 2 (.int .i64 t.pivots);have G:=J.but ((k0.trans k1).trans k2) (by decide);have g:=((k.setCell (p:=⟨gr,0,none⟩) a (.int .i64 t.phase)).setCell (p:=⟨gr,1,none⟩) a (.slice A9 n9 c9)).setCell (p:=⟨gr,2,none⟩) a (.int .i64 t.pivots);go_wp2;refine Y5 Tryz.results20 Tryz.underlying29 (by kernel_rfl) rfl g2 rfl ?_;exact ⟨_,by rw [HS.out];rfl,by rw [smRun_yes HS.out,P.out,F.out];exact ⟨A9,n9,c9,rfl,G.monoB f.size⟩,g⟩
section
attribute [local irreducible] YO
end
namespace Pl
theorem Gd.err {p:LPd} {b:Int} {t:LSt} (h:Gd p b t) (hz:lpErr p=0):YC p t=0:=by rw [Vo hz];exact h.1.vs
theorem Gd.ru {p:LPd} {b:Int} {t:LSt} (h:Gd p b t) (hz:lpErr p=0) (N:Nat):smRun p t N=Zwh p N t:=by rw [smRun_yes (h.err hz),h.2.1]
theorem Gd.st {p:LPd} {b:Int} {t:LSt} (h:Gd p b t) (hz:lpErr p=0):Yfw p t=(YR p t,UA p t):=by rw [Zpj (h.err hz),h.2.1]
theorem Gd.pv {p:LPd} {b:Int} {t:LSt} (h:Gd p b t) {N:Nat} (hb:b+N≤9223372036854775807):t.pivots+(N:Int)≤9223372036854775807:=by have:=h.2.2;omega
end Pl
namespace Pl
theorem Gd.ext {p:LPd} {b:Int} {t:LSt} (h:Gd p b t) (hz:lpErr p=0) (hq:YR p t≠0):exE p t=0∧exP p t=Zkx p t∧(Zkx p t).st=YR p t∧Zrb p (Zkx p t)=0:=by
 obtain ⟨h1,h2,h3⟩:=ext_verified hz h.1 h.2.1 hq;obtain ⟨e1,e2⟩:=Zwf (h.err hz);rw [h.2.1] at e1 e2;exact ⟨by rw [e2];exact h3,e1,h2,h1⟩
theorem Ok_mono {p:LPd} {K K':Nat} (h:p.Ok K) (hk:K≤K'):p.Ok K':=⟨h.1.mono hk,h.2.1.mono hk,fun j c hc=>⟨(h.2.2 j c hc).1,fun k e he=>((h.2.2 j c hc).2 k e he).mono hk⟩⟩
theorem Ych.pow {p:LPd} (h:Ych p):5^p.right.length * 32≤4000:=Yfu h.2.1
end Pl
theorem Zle.parts {w:World} {st:Int} {A A' A'':Option Addr} {n c n' c' n'' c'':Nat} {x:Prf} (h:Zle w (.agg #[.int .i64 st,.slice A n c,.slice A' n' c',.slice A'' n'' c'']) x):st=x.st∧Xh w (.slice A n c) x.x∧Xh w (.slice A' n' c') x.y∧Xh w (.slice A'' n'' c'') x.ray:=by
 obtain ⟨B,m,d,B',m',d',a,b,e,h1,h2,h3,h4,h5,h6⟩:=h;simp at h1;obtain ⟨rfl,⟨rfl,rfl,rfl⟩,⟨rfl,rfl,rfl⟩,⟨rfl,rfl,rfl⟩⟩:=h1;exact ⟨rfl,h2,h3,h4⟩
theorem LpM.parts {w:World} {A A' A'':Option Addr} {n c n' c' n'' c'':Nat} {p:LPd} (h:LpM w (.agg #[.slice A n c,.slice A' n' c',.slice A'' n'' c'']) p):Xh w (.slice A n c) p.cost∧XO w (.slice A' n' c') p.cols∧Xh w (.slice A'' n'' c'') p.right:=by
 obtain ⟨B,m,d,B',m',d',a,b,e,h1,h2,h3,h4⟩:=h;simp at h1;obtain ⟨⟨rfl,rfl,rfl⟩,⟨rfl,rfl,rfl⟩,⟨rfl,rfl,rfl⟩⟩:=h1;exact ⟨h2,h3,h4⟩
theorem run_append_fracW (ty:TypeId) {W WB:World} {base:Nat} {v:Value} {fs:List RF} (hown:Z4 base W v fs) {b b':Bool} {A A':Option Addr} {n c n' c':Nat} {f:RF} (hf:Zt W (.agg #[.bool b,.slice A n c,.bool b',.slice A' n' c']) f) (hn:fs.length+1≤1099511627776) (hbase:base≤W.heap.size) (hW:W.alloc (.cells #[.bool b,.slice A n c,.bool b',.slice A' n' c'] 46)=WB):
 ∃v' w',(Builtin.append_ #[23,23] ty #[v,.slice (some ⟨W.heap.size,0,none⟩) 1 1]).run Tryz.prog WB= .ok v' w'∧Z4 base w' v' (fs++[f])∧Below base W w':=by
 subst hW;obtain ⟨cs,h1,h2⟩:=hown;obtain ⟨i0,hi,a,d,e⟩:=info_parts info_frac;obtain ⟨v',w',hr,g1,g2,g3,_,_⟩:=run_append_oneG ty 23 46 i0 _ 4 64 Tryz.underlying23 hi a d e rfl (by decide) W base v fs.length cs [.bool b,.slice A n c,.bool b',.slice A' n' c'] h1 rfl Zjf (by unfold maxLen;omega) (by omega) hbase;have hk:=g2.keep (by decide);exact ⟨v',w',hr,⟨_,by simpa using g1,(h2.keep hk).snoc (hf.keep hk)⟩,g3⟩
namespace Pl
theorem ver_sh {p:LPd} {x:Prf} (h:Zrb p x=0):shB p x=true∧holdB p x=true:=by
 unfold Zrb at h;by_cases h1:lpErr p=0
 ·rw [if_neg (by simpa using h1)] at h;by_cases h2:x.st < 1∨3 < x.st
  ·rw [if_pos h2] at h;omega
  ·rw [if_neg h2] at h
   cases h3:shB p x with
   | false=>rw [if_pos h3] at h;omega
   | true=>
    rw [if_neg (by simp [h3])] at h
    cases h4:holdB p x with
    | false=>rw [if_pos h4] at h;omega
    | true=>exact ⟨rfl,rfl⟩
 ·rw [if_pos h1] at h;exact absurd h h1
theorem ver_3 {p:LPd} {x:Prf} (h:Zrb p x=0) (h3:x.st=3):Zfe p x=true∧x.ray.length=p.cols.length:=by
 obtain ⟨h1,h2⟩:=ver_sh h;have h4:=(Zyq h1).2.2;unfold shR at h4;rw [if_pos h3] at h4;unfold holdB at h2;rw [if_neg (by omega),if_neg (by omega)] at h2;exact ⟨h2,h4⟩
theorem nn_at {xs:List RF} (h:NN xs) (j:Nat):0≤qAt xs j:=by
 cases e:xs[j]? with
 | none=>rw [qAt_none (List.getElem?_eq_none_iff.1 e)];exact Rat.le_refl
 | some f=>rw [Yo e];exact h j f e
theorem ext_xlen {p:LPd} {t:LSt} (h0:YR p t≠0) (h2:YR p t≠2):(Zkx p t).x.length=p.cols.length:=by
 rcases Zem p t with e | e | e | e
 ·exact absurd e h0
 ·rw [(Yfo e).1];exact primL_length
 ·exact absurd e h2
 ·rw [(Yfq e).1];exact primL_length
theorem qs_ge {q:Rat}:0≤qs q↔0≤q:=by
 constructor
 ·intro h;refine Rat.not_lt.1 fun g=>?_
  have:=Zjn.2 g;omega
 ·exact qs_nonneg
theorem feasB_yes {p:LPd} {xs:List RF} (h:Zbd p xs=true):xs.length=p.cols.length∧(∀j,j < p.cols.length→0≤qAt xs j)∧∀r,r < p.right.length→YL p xs p.cols.length r=qAt p.right r:=by
 unfold Zbd at h;simp only [Bool.and_eq_true,decide_eq_true_eq] at h;obtain ⟨_,h1,h2,h3⟩:=h;refine ⟨h1,fun j hj=>?_,fun r hr=>?_⟩
 ·unfold nnB at h2;exact qs_ge.1 (of_decide_eq_true h2 j (by omega))
 ·unfold eqB at h3;have:=(of_decide_eq_true h3).2 r (by rw [Zm];exact hr)
  rwa [YH hr] at this
theorem hold3_yes {p:LPd} {x:Prf} (h:Zfe p x=true) (hl:x.ray.length=p.cols.length):Zbd p x.x=true∧(∀j,j < p.cols.length→0≤qAt x.ray j)∧(∀r,r < p.right.length→YL p x.ray p.cols.length r=0)∧Zbb p.cost x.ray p.cols.length < 0:=by
 unfold Zfe at h;simp only [Bool.and_eq_true,decide_eq_true_eq] at h;obtain ⟨h1,h2,h3,h4⟩:=h;refine ⟨h1,fun j hj=>?_,fun r hr=>?_,Zjn.1 h4⟩
 ·unfold nnB at h2;exact qs_ge.1 (of_decide_eq_true h2 j (by omega))
 ·unfold Zac at h3;have:=of_decide_eq_true h3 r hr;rw [this,qAt_none (Nat.zero_le _)]
def goL (x:Prf) (k:Rat) (n:Nat):List RF:=Yj n fun j=>qAt x.x j+k * qAt x.ray j
theorem goL_succ (x:Prf) (k:Rat) (n:Nat):goL x k n++[canF (qAt x.x n+k * qAt x.ray n)]=goL x k (n+1):=canL_succ n _
theorem goL_length (x:Prf) (k:Rat) (n:Nat):(goL x k n).length=n:=Zm _ _
theorem goL_at {x:Prf} {k:Rat} {n j:Nat} (h:j < n):qAt (goL x k n) j=qAt x.x j+k * qAt x.ray j:=YH h
theorem goL_rs {x:Prf} {k:Rat} {n:Nat} (h1:RsL 4000 x.x) (h2:RsL 4000 x.ray) (hk:Sz 1 k):RsL 8002 (goL x k n):=
 Zbc fun i _=>(Ztl (h1.qAt (by decide) i) (XN hk (h2.qAt (by decide) i))).mono (by decide)
theorem goL_feas {p:LPd} {x:Prf} {k:Rat} (he:lpErr p=0) (h:Zfe p x=true) (hl:x.ray.length=p.cols.length) (hk:0 < k):Zbd p (goL x k p.cols.length)=true:=by
 obtain ⟨h1,h2,h3,_⟩:=hold3_yes h hl;obtain ⟨_,g2,g3⟩:=feasB_yes h1;refine feas_of he (goL_length _ _ _) (fun j hj=>?_) fun r hr=>?_
 ·rw [goL_at hj];exact Rat.add_nonneg (g2 j hj) (Rat.mul_nonneg (Rat.le_of_lt hk) (h2 j hj))
 ·have e:YL p (goL x k p.cols.length) p.cols.length r=YL p x.x p.cols.length r+k * YL p x.ray p.cols.length r:=by
   unfold YL;rw [← Xe,← WA];refine Zk fun j hj=>?_
   rw [goL_at hj];grind
  rw [e,g3 r hr,h3 r hr];grind
theorem goL_cost {p:LPd} {x:Prf} {k:Rat} (h:Zfe p x=true) (hl:x.ray.length=p.cols.length) (hk:0 < k):qs (Zbb p.cost (goL x k p.cols.length) p.cols.length - Zbb p.cost x.x p.cols.length) < 0:=by
 obtain ⟨_,_,_,h4⟩:=hold3_yes h hl;have e:Zbb p.cost (goL x k p.cols.length) p.cols.length=Zbb p.cost x.x p.cols.length+k * Zbb p.cost x.ray p.cols.length:=by
  unfold Zbb;rw [← Xe,← WA];refine Zk fun j hj=>?_
  rw [goL_at hj];grind
 rw [Zjn,e];have:=Rat.mul_pos hk (show 0 < -Zbb p.cost x.ray p.cols.length by grind);grind
end Pl
theorem proofDescends_any (v0:Value) (a1:Int) (zl0:List Int) (w:World) (h0:XE w v0 zl0) (_g1: -9223372036854775808≤a1) (_k1:a1≤9223372036854775807):
 Calls Tryz.prog 6 #[v0,.int .i64 a1] w fun e w'=>e= .returned (.bool true)∧Below w.heap.size w w':=by
 obtain ⟨b0,d0,rfl,_,_⟩:=h0.shape;generalize d7:zl0.length=m0 at *;clear d7;go_enter Tryz.func6,Tryz.ntmps6;go_wp2_with fail;refine (feasibleData_own _ zl0 _ h0).mono ?_;rintro _ w1 ⟨vp,vx,p,xs,rfl,hp,hx,ac,bz,c4,ar,c6,c7,hb⟩;have l:=JZ ac;have HF:=JZ (ac.ft bz);have HZ:=JZ ac.err;have b6:=JZ (⟨c4,ar,c6,c7⟩:RsL 2 xs∧xs.length=p.cols.length∧NN xs∧∀i,i < p.right.length→qAt p.right i=YL p xs p.cols.length i);have am:=hp.lp;obtain ⟨A0,n0,c0,A1,n1,c1,A2,m,c2,rfl,_,_,_⟩:=id am;obtain ⟨Ax,nx,cx,rfl⟩:=hx.sliceN;clear ac bz hp c4 ar c6 c7;obtain ⟨W1,cs,hB,hn⟩:=Y6 w1 (.slice A0 n0 c0) (.slice A1 n1 c1) (.slice A2 m c2);have hc:=Za hb hn hb.size;have J:=JZ ((am).below hn);have b7:=JZ ((hx.frs).below hn);have an:=JZ hB;have K:=hc;clear hc hb hn hB;clear am hx h0;obtain ⟨c,d,k⟩:=an.out.three;clear b7;go_wp2_with fail;clear cs;refine (sstart_own _ p 32 _ J.out HF.out.1.ok (fun _=>HF.out)).mono ?_;rw [smSta_yes HZ.out,HZ.out];have H:=JZ (Gd.start p);obtain ⟨s,hs⟩:∃s,s=ZB p (Zbu p):=⟨_,rfl⟩;have c9:=JZ hs;rw [← hs] at H ⊢;clear hs;have b8:=JZ (H.out.rg HF.out);rintro _ w2 ⟨v2,rfl,⟨A2,n2,c2,rfl,hI⟩,hb⟩;obtain ⟨W2,ct,hB,hn⟩:=Zea w2 (.int .i64 s.phase) (.slice A2 n2 c2) (.int .i64 s.pivots);have hc:=Za hb hn hb.size;have L:=JZ (J.out.below hc);have ao:=JZ (an.out.later hc);have N:=JZ (StM.below ((⟨A2,n2,c2,rfl,hI.ints⟩:StM w2 (.agg #[.int .i64 s.phase,.slice A2 n2 c2,.int .i64 s.pivots]) s)) hn);have O:=JZ hB;have P:=Za K hc K.size;clear c d k;clear J an K hc hb hn hB;clear hI;obtain ⟨c,d,k⟩:=ao.out.three;obtain ⟨bp,bq,br⟩:=O.out.three;go_wp2_with fail;clear ct;refine (srun_own _ _ p s 32 _ L.out N.out HF.out.1.ok (fun _=>HF.out) b8.out.1 b8.out.2 200 (by omega) (fun _=>H.out.pv (by omega))).mono ?_;rw [H.out.ru HZ.out,H.out.err HZ.out];have C:=JZ (H.out.run 200);obtain ⟨t,ht⟩:∃t,t=Zwh p 200 s:=⟨_,rfl⟩;have ca:=JZ ht;rw [← ht] at C ⊢;clear ht;have a7:=JZ (C.out.rg HF.out);rintro _ w3 ⟨v3,rfl,⟨A3,n3,c3,rfl,hI⟩,hb⟩;obtain ⟨W3,cu,hB,hn⟩:=Zea w3 (.int .i64 t.phase) (.slice A3 n3 c3) (.int .i64 t.pivots);have hc:=Za hb hn hb.size;have R:=JZ (L.out.below hc);have ap:=JZ (ao.out.later hc);have b9:=JZ (N.out.below hc);have ba:=JZ (O.out.later hc);have S:=JZ (StM.below ((⟨A3,n3,c3,rfl,hI.ints⟩:StM w3 (.agg #[.int .i64 t.phase,.slice A3 n3 c3,.int .i64 t.pivots]) t)) hn);have T:=JZ hB;have U:=Za P hc P.size;clear c d k bp bq br;clear L ao N O P hc hb hn hB;clear hI;clear b9;clear ba;obtain ⟨c,d,k⟩:=ap.out.three;obtain ⟨a3,a4,a5⟩:=T.out.three;go_wp2_with fail;clear cu;refine (Zeq _ _ p t 32 _ R.out S.out HF.out.1.ok (fun _=>HF.out) a7.out.1 a7.out.2).mono ?_;rw [C.out.st HZ.out,C.out.err HZ.out];obtain ⟨qa,ay⟩:∃qa,qa=YR p t:=⟨_,rfl⟩;obtain ⟨qj,az⟩:∃qj,qj=UA p t:=⟨_,rfl⟩;have cb:=JZ ay;have db:=JZ az;rw [← ay,← az];clear ay az;rintro _ w4 ⟨rfl,hb⟩;have hc:=hb;have V:=JZ (R.out.below hc);have aq:=JZ (ap.out.later hc);have X:=JZ (S.out.below hc);have Y:=JZ (T.out.later hc);have Z:=Za U hc U.size;clear c d k a3 a4 a5;clear R ap S T U hc hb;have bb:Hid (YR p t≠0):=JZ (by rw [ca.out,c9.out];exact fin_stat l.out);have cc:Hid (YR p t≠2):=JZ fun h=>inf_no C.out.1 C.out.2.1 h (xs:=xs) (fun j hj=>nn_at b6.out.2.2.1 j) fun r hr=>(b6.out.2.2.2 r hr).symm
 obtain ⟨c,d,k⟩:=aq.out.three;obtain ⟨a3,a4,a5⟩:=Y.out.three;go_wp2_with fail;refine (Yar _ _ p t 32 _ V.out X.out HF.out.1.ok (fun _=>HF.out) a7.out.1 a7.out.2).mono ?_;have HX:=JZ (C.out.ext HZ.out bb.out);rw [HX.out.1,HX.out.2.1];obtain ⟨x,hx⟩:∃x,x=Zkx p t:=⟨_,rfl⟩;have a8:=JZ hx;rw [← hx];clear hx;have bc:Hid (x.st=qa):=JZ (by rw [a8.out,cb.out];exact HX.out.2.2.1);rintro _ w5 ⟨v5,rfl,he,hb⟩;obtain ⟨A5,n5,c5,B5,l5,d5,C5,m5,i5,rfl,_,_,_,_,_⟩:=id he;rw [bc.out] at he ⊢;obtain ⟨W5,bs,hB,hn⟩:=XV w5 (.int .i64 qa) (.slice A5 n5 c5) (.slice B5 l5 d5) (.slice C5 m5 i5);have hc:=Za hb hn hb.size;have A:=JZ (V.out.below hc);have a9:=JZ (aq.out.later hc);have bd:=JZ (X.out.below hc);have be:=JZ (Y.out.later hc);have b:=JZ ((he).below hn);have F:=JZ hB;have B:=Za Z hc Z.size;clear c d k a3 a4 a5;clear V aq X Y Z hc hb hn hB;clear he;clear bd;clear be;have aa:Hid (n5=n1):=JZ (by
  have q1:=(A.out).parts.2.1.len.1;have e:=(b.out).parts.2.1.len.1;rw [e,q1,a8.out];exact ext_xlen bb.out cc.out)
 have ar:((n5:Int) !=(n1:Int))=false:=by rw [aa.out];simp
 obtain ⟨c,d,k⟩:=a9.out.three;obtain ⟨ai,aj,ak,al⟩:=F.out.four;by_cases hu:qa=3;rotate_left
 ·have cd:(qa !=3)=true:=by simpa using hu
  go_wp2_with fail;clear bs;refine (Yew _).mono ?_;rintro _ w6 ⟨rfl,hb⟩;have hc:=hb;have d8:=JZ (A.out.below hc);have dc:=JZ (a9.out.later hc);have d9:=JZ (b.out.below hc);have da:=JZ (F.out.later hc);have bf:=Za B hc B.size;clear c d k ai aj ak al;clear A a9 b F B hc hb;go_wp2;go_ret;exact ⟨rfl,bf⟩
 have cd:(qa !=3)=false:=by simp [hu]
 have a0:=JZ (ver_3 (p:=p) (x:=x) (by rw [a8.out];exact HX.out.2.2.2) (by rw [bc.out];exact hu));have au:Hid (m5=n1):=JZ (by rw [b.out.parts.2.2.2.len.1,A.out.parts.2.1.len.1];exact a0.out.2);have dd:((m5:Int) !=(n1:Int))=false:=by rw [au.out];simp
 have av:Hid (n1=p.cols.length):=JZ A.out.parts.2.1.len.1;have I:Hid (RsL 4000 x.x∧RsL 4000 x.ray):=JZ (by rw [a8.out];exact ⟨(Ygu HF.out.1).1.mono l.out.pow,(Ygu HF.out.1).2.2.1.mono l.out.pow⟩);have bg:Hid (x.x.length=n1):=JZ (by rw [← b.out.parts.2.1.len.1];exact aa.out);have ce:Hid (x.ray.length=n1):=JZ (by rw [← b.out.parts.2.2.2.len.1];exact au.out);obtain ⟨M,hM⟩:∃M:Nat,bits .and .i64 a1 1023=(M:Int):=⟨(a1 % 1024).toNat,by rw [i64_and1023];omega⟩;have bM:(M:Int) < 1024:=by rw [← hM,i64_and1023];omega
 have de:(0:Int)≤M:=by omega
 obtain ⟨kk,bt⟩:∃kk:Rat,((1+(M:Int):Int):Rat)=kk:=⟨_,rfl⟩;have aw:=JZ bt;have bh:Hid (0 < kk):=JZ (by rw [← aw.out];exact Rat.intCast_pos.2 (by omega));have ax:Hid (Sz 1 kk):=JZ (by rw [← aw.out];exact Zjx (by omega) (by omega));have h5:n1≤5:=by rw [av.out];exact l.out.2.2.1
 clear bt hu;go_wp2_with fail;clear bs c d k ai aj ak al
 go_loopw [16,17] (fun s i wr=>∃j:Nat,j≤n1∧i= .int .i64 j∧Z4 W5.heap.size wr s (goL x kk j)∧Below W5.heap.size W5 wr) (fun _ i _=>n1 - (intOf i).toNat)
 case atStart=>exact ⟨0,by omega,rfl,Z4.nil _ _,JR _ _⟩
 case round=>
  obtain ⟨j,hj,rfl,hO,z⟩:=hrel;have hX:=a9.out.later z;have hB:=F.out.later z;obtain ⟨c,d,k⟩:=hX.three;obtain ⟨bu,ab,bv,b3⟩:=hB.four;rcases JX j n1 with hjl | hjl
  ·obtain ⟨f,hf⟩:=Yb (fs:=x.x) (i:=j) (by rw [bg.out];exact hjl);obtain ⟨g,hg⟩:=Yb (fs:=x.ray) (i:=j) (by rw [ce.out];exact hjl);have HQ:Hid (canF (f.q+kk * g.q)=canF (qAt x.x j+kk * qAt x.ray j)):=JZ (by rw [Yo hf,Yo hg]);have cf:Hid f.Sh:=JZ ((I.out.1 j f hf).sh (by decide));have cg:Hid g.Sh:=JZ ((I.out.2 j g hg).sh (by decide));have ch:Hid (canF kk).Sh:=JZ (ax.out.rs.sh (by decide));have ci:Hid (canF (kk * g.q)).Sh:=JZ ((XN ax.out (by have h:=I.out.2.qAt (by decide) j;rw [Yo hg] at h;exact h)).rs.sh (by decide));obtain ⟨b1,o1,F1,f1,g1,F2,f2,g2,hA,cv,⟨p0,p1,p2,p3⟩,cw⟩:=b.out.parts.2.1.elem z hf;obtain ⟨b2,o2,G1,f3,g3,G2,f4,g4,hC,cy,⟨q0,q1,q2,q3⟩,cz⟩:=b.out.parts.2.2.2.elem z hg;clear hf hg cv cy;subst hA hC;have cj:(j:Int) < n5:=(by rw [aa.out];omega);have df:(j:Int) < m5:=(by rw [au.out];omega);go_wp2_with fail;have C0:=Zp ab;have C1:=Zp b3;have C2:=Zp p0;have C3:=Zp p1;have C4:=Zp p2;have C5:=Zp p3;have C6:=Zp q0;have C7:=Zp q1;have C8:=Zp q2;have C9:=Zp q3;have D:=Zj wr;clear bu ab bv b3 c d k p0 p1 p2 p3 q0 q1 q2 q3;refine Zq 18 [0,1,2,3,4,5,6,7,8,10,11,12,13,14,9,15,16,17,18,19] (by kernel_rfl) (by kernel_rfl) ?_;repeat ((first | (refine Zc (v:=?_) rfl rfl rfl ?_ ?_;rotate_left;(· (intro _ a;go_simp;(try go_bits);(try with_reducible rfl)))) | (refine Zg (v:=?_) rfl rfl rfl ?_ ?_;rotate_left;(· (intro _ a;go_simp;(try go_bits);(try with_reducible rfl)))) | refine Zh rfl rfl rfl ?_ | refine Yy rfl rfl rfl (by assumption) ?_);(try simp only [Act.put,pu1,pu2,pu3,pu4,pu5,pu6]))
   refine Zd rfl rfl (fun KR hKR=>?_);go_simp;(with_reducible refine (Y4 (1+(M:Int)) _ (by omega) (by omega)).mono ?_);rw [aw.out];rintro _ w7 ⟨v7,rfl,e7,b4⟩;have o:=Za D b4 D.size;refine hKR.out _ _ (Or.inr o) ?_;clear hKR KR;(try simp only [Act.put,pu1,pu2,pu3,pu4,pu5,pu6]);repeat ((first | (refine Zc (v:=?_) rfl rfl rfl ?_ ?_;rotate_left;(· (intro _ a;go_simp;(try go_bits);(try with_reducible rfl)))) | (refine Zg (v:=?_) rfl rfl rfl ?_ ?_;rotate_left;(· (intro _ a;go_simp;(try go_bits);(try with_reducible rfl)))) | refine Zh rfl rfl rfl ?_ | refine Yy rfl rfl rfl (by assumption) ?_);(try simp only [Act.put,pu1,pu2,pu3,pu4,pu5,pu6]))
   refine Zd rfl rfl (fun KR hKR=>?_);go_simp;(with_reducible refine (rmulF_own _ _ (canF kk) g _ e7.frac (cz.below o) ch.out cg.out).mono ?_);rw [Zu];rintro _ w8 ⟨v8,rfl,e8,b5⟩;have u:=Za o b5 o.size;refine hKR.out _ _ (Or.inr u) ?_;clear hKR KR;(try simp only [Act.put,pu1,pu2,pu3,pu4,pu5,pu6]);repeat ((first | (refine Zc (v:=?_) rfl rfl rfl ?_ ?_;rotate_left;(· (intro _ a;go_simp;(try go_bits);(try with_reducible rfl)))) | (refine Zg (v:=?_) rfl rfl rfl ?_ ?_;rotate_left;(· (intro _ a;go_simp;(try go_bits);(try with_reducible rfl)))) | refine Zh rfl rfl rfl ?_ | refine Yy rfl rfl rfl (by assumption) ?_);(try simp only [Act.put,pu1,pu2,pu3,pu4,pu5,pu6]))
   refine Zd rfl rfl (fun KR hKR=>?_);go_simp;(with_reducible refine (raddF_own _ _ f (canF (kk * g.q)) _ (cw.below u) e8.frac cf.out ci.out).mono ?_);rw [Zu,HQ.out];rintro _ w9 ⟨v9,rfl,e9,ad⟩;have y:=Za u ad u.size;obtain ⟨Q,hQ⟩:∃Q,canF (qAt x.x j+kk * qAt x.ray j)=Q:=⟨_,rfl⟩;have ck:=JZ hQ;rw [hQ] at e9;clear hQ;have bi:=e9.frac;obtain ⟨E,l9,k9,E',d1,d2,rfl,_,_⟩:=id bi;refine hKR.out _ _ (Or.inr y) ?_;clear hKR KR;(try simp only [Act.put,pu1,pu2,pu3,pu4,pu5,pu6]);repeat ((first | (refine Zc (v:=?_) rfl rfl rfl ?_ ?_;rotate_left;(· (intro _ a;go_simp;(try go_bits);(try with_reducible rfl)))) | (refine Zg (v:=?_) rfl rfl rfl ?_ ?_;rotate_left;(· (intro _ a;go_simp;(try go_bits);(try with_reducible rfl)))) | refine Zh rfl rfl rfl ?_ | refine Yy rfl rfl rfl (by assumption) ?_);(try simp only [Act.put,pu1,pu2,pu3,pu4,pu5,pu6]))
   obtain ⟨WB,d3,dg,d4⟩:=YN w9 (.bool Q.num.neg) (.slice E l9 k9) (.bool Q.den.neg) (.slice E' d1 d2);obtain ⟨v',d6,bw,bx,a6⟩:=run_append_fracW 23 (hO.below y) bi (by rw [goL_length];omega) (JW z.size y.size) d3;refine Zd rfl rfl (fun KR hKR=>?_);go_simp;have cl:=Za y d4 y.size;refine hKR.out _ _ (Or.inr cl) ?_;clear hKR KR;(try simp only [Act.put,pu1,pu2,pu3,pu4,pu5,pu6]);repeat ((first | (refine Zc (v:=?_) rfl rfl rfl ?_ ?_;rotate_left;(· (intro _ a;go_simp;(try go_bits);(try with_reducible rfl)))) | (refine Zg (v:=?_) rfl rfl rfl ?_ ?_;rotate_left;(· (intro _ a;go_simp;(try go_bits);(try with_reducible rfl)))) | refine Zh rfl rfl rfl ?_ | refine Yy rfl rfl rfl (by assumption) ?_);(try simp only [Act.put,pu1,pu2,pu3,pu4,pu5,pu6]))
   refine Zd rfl rfl (fun KR hKR=>?_);refine op_append_run _ _ rfl rfl rfl rfl bw ?_;refine hKR.out _ _ (Or.inl (by decide)) ?_;clear hKR KR;(try simp only [Act.put,pu1,pu2,pu3,pu4,pu5,pu6]);refine Zd rfl rfl (fun KR hKR=>?_);go_simp;refine hKR.out _ _ (Or.inl (by decide)) ?_;clear hKR KR;(try simp only [Act.put,pu1,pu2,pu3,pu4,pu5,pu6]);refine Zz ?_;go_wp2;go_roundw
   case rel=>exact ⟨j+1,by omega,by go_num,by rw [← goL_succ,ck.out];exact bx,(Za z y z.size).trans a6⟩
   case measure=>simp [intOf];omega
  ·obtain rfl:j=n1:=by omega
   rw [av.out] at hO;have G:=JZ (Ok_mono HF.out.1.ok (show 32≤8002 by decide));have bj:Hid (RsL 8002 p.cost):=JZ G.out.1;have HY:=JZ (goL_rs (n:=p.cols.length) I.out.1 I.out.2 ax.out);have ae:=JZ (I.out.1.mono (show 4000≤8002 by decide));have cm:=JZ (goL_feas HZ.out a0.out.1 a0.out.2 bh.out);have cn:=JZ (goL_cost a0.out.1 a0.out.2 bh.out);have af:Hid (min p.cost.length (goL x kk p.cols.length).length=p.cols.length):=JZ (by rw [goL_length,l.out.2.2.2.1,Nat.min_self]);have ag:Hid (min p.cost.length x.x.length=p.cols.length):=JZ (by rw [bg.out,av.out,l.out.2.2.2.1,Nat.min_self]);have bk:Hid (1+min p.cost.length (goL x kk p.cols.length).length * (2 * 8002+1)≤34359738368):=JZ (by rw [af.out];have:=l.out.2.2.1;omega);have bl:Hid (1+min p.cost.length x.x.length * (2 * 8002+1)≤34359738368):=JZ (by rw [ag.out];have:=l.out.2.2.1;omega);have co:Hid (ShH (canF (Zbb p.cost (goL x kk p.cols.length) p.cols.length))):=JZ (Sz.shH (Ztq G.out.1 HY.out (by decide)) (by have:=l.out.2.2.1;omega));have cp:Hid (ShH (canF (Zbb p.cost x.x p.cols.length))):=JZ (Sz.shH (Ztq G.out.1 ae.out (by decide)) (by have:=l.out.2.2.1;omega));have bm:=A.out.below z;have hC:=bm.parts.1;have cq:=b.out.parts.2.1.below z;have bn:=Za B z B.size;have cj:(n5:Int)≤j:=(by rw [aa.out];omega);go_wp2_with fail;have C0:=Zp c;have C1:=Zp d;have C2:=Zp k;have C3:=Zp ab;have D:=Zj wr;clear bu ab bv b3 c d k;refine Zq 20 [0,1,2,3,4,5,6,8,9,10,11,7,12,13,14,15,16,17,18,19] (by kernel_rfl) (by kernel_rfl) ?_;repeat ((first | (refine Zc (v:=?_) rfl rfl rfl ?_ ?_;rotate_left;(· (intro _ a;go_simp;(try go_bits);(try with_reducible rfl)))) | (refine Zg (v:=?_) rfl rfl rfl ?_ ?_;rotate_left;(· (intro _ a;go_simp;(try go_bits);(try with_reducible rfl)))) | refine Zh rfl rfl rfl ?_ | refine Yy rfl rfl rfl (by assumption) ?_);(try simp only [Act.put,pu1,pu2,pu3,pu4,pu5,pu6]))
   refine Zd rfl rfl (fun KR hKR=>?_);go_simp;(with_reducible refine (Zfb _ _ p (goL x kk p.cols.length) 8002 _ (bm.below D) (hO.frs.below D) G.out HY.out (by decide) (by decide)).mono ?_);rw [cm.out];rintro _ w7 ⟨rfl,b4⟩;have o:=Za D b4 D.size;refine hKR.out _ _ (Or.inr o) ?_;clear hKR KR;(try simp only [Act.put,pu1,pu2,pu3,pu4,pu5,pu6]);repeat ((first | (refine Zc (v:=?_) rfl rfl rfl ?_ ?_;rotate_left;(· (intro _ a;go_simp;(try go_bits);(try with_reducible rfl)))) | (refine Zg (v:=?_) rfl rfl rfl ?_ ?_;rotate_left;(· (intro _ a;go_simp;(try go_bits);(try with_reducible rfl)))) | refine Zh rfl rfl rfl ?_ | refine Yy rfl rfl rfl (by assumption) ?_);(try simp only [Act.put,pu1,pu2,pu3,pu4,pu5,pu6]))
   refine Zd rfl rfl (fun KR hKR=>?_);go_simp;(with_reducible refine (rdot_own _ _ p.cost (goL x kk p.cols.length) 8002 _ (hC.below o) (hO.frs.below o) (by decide) bj.out HY.out bk.out (by decide)).mono ?_);rw [af.out];rintro _ w8 ⟨v8,rfl,e8,b5⟩;have u:=Za o b5 o.size;refine hKR.out _ _ (Or.inr u) ?_;clear hKR KR;(try simp only [Act.put,pu1,pu2,pu3,pu4,pu5,pu6]);repeat ((first | (refine Zc (v:=?_) rfl rfl rfl ?_ ?_;rotate_left;(· (intro _ a;go_simp;(try go_bits);(try with_reducible rfl)))) | (refine Zg (v:=?_) rfl rfl rfl ?_ ?_;rotate_left;(· (intro _ a;go_simp;(try go_bits);(try with_reducible rfl)))) | refine Zh rfl rfl rfl ?_ | refine Yy rfl rfl rfl (by assumption) ?_);(try simp only [Act.put,pu1,pu2,pu3,pu4,pu5,pu6]))
   refine Zd rfl rfl (fun KR hKR=>?_);go_simp;(with_reducible refine (rdot_own _ _ p.cost x.x 8002 _ (hC.below u) (cq.below u) (by decide) bj.out ae.out bl.out (by decide)).mono ?_);rw [ag.out];rintro _ w9 ⟨v9,rfl,e9,ad⟩;have y:=Za u ad u.size;refine hKR.out _ _ (Or.inr y) ?_;clear hKR KR;(try simp only [Act.put,pu1,pu2,pu3,pu4,pu5,pu6]);repeat ((first | (refine Zc (v:=?_) rfl rfl rfl ?_ ?_;rotate_left;(· (intro _ a;go_simp;(try go_bits);(try with_reducible rfl)))) | (refine Zg (v:=?_) rfl rfl rfl ?_ ?_;rotate_left;(· (intro _ a;go_simp;(try go_bits);(try with_reducible rfl)))) | refine Zh rfl rfl rfl ?_ | refine Yy rfl rfl rfl (by assumption) ?_);(try simp only [Act.put,pu1,pu2,pu3,pu4,pu5,pu6]))
   refine Zd rfl rfl (fun KR hKR=>?_);go_simp;(with_reducible refine (rcompareF_any _ _ _ _ _ (e8.below ad) e9 co.out cp.out).mono ?_);rw [Zu,Zu];have cr:=cn.out;generalize qs (Zbb p.cost (goL x kk p.cols.length) p.cols.length - Zbb p.cost x.x p.cols.length)=sD at cr ⊢;rintro _ d6 ⟨rfl,a6⟩;have a2:=Za y a6 y.size;refine hKR.out _ _ (Or.inr a2) ?_;clear hKR KR;(try simp only [Act.put,pu1,pu2,pu3,pu4,pu5,pu6]);repeat ((first | (refine Zc (v:=?_) rfl rfl rfl ?_ ?_;rotate_left;(· (intro _ a;go_simp;(try go_bits);(try with_reducible rfl)))) | (refine Zg (v:=?_) rfl rfl rfl ?_ ?_;rotate_left;(· (intro _ a;go_simp;(try go_bits);(try with_reducible rfl)))) | refine Zh rfl rfl rfl ?_ | refine Yy rfl rfl rfl (by assumption) ?_);(try simp only [Act.put,pu1,pu2,pu3,pu4,pu5,pu6]))
   refine Zd rfl rfl (fun KR hKR=>?_);go_simp;(with_reducible refine (Yew _).mono ?_);rintro _ dh ⟨rfl,c8⟩;have ah:=Za a2 c8 a2.size;refine hKR.out _ _ (Or.inr ah) ?_;clear hKR KR;(try simp only [Act.put,pu1,pu2,pu3,pu4,pu5,pu6]);repeat ((first | (refine Zc (v:=?_) rfl rfl rfl ?_ ?_;rotate_left;(· (intro _ a;go_simp;(try go_bits);(try with_reducible rfl)))) | (refine Zg (v:=?_) rfl rfl rfl ?_ ?_;rotate_left;(· (intro _ a;go_simp;(try go_bits);(try with_reducible rfl)))) | refine Zh rfl rfl rfl ?_ | refine Yy rfl rfl rfl (by assumption) ?_);(try simp only [Act.put,pu1,pu2,pu3,pu4,pu5,pu6]))
   refine Zz ?_;have bo:=Za bn ah bn.size;clear C0 C1 C2 C3;go_wp2;go_ret;exact ⟨rfl,bo⟩
end Go.Proofs.YtgbhebappffbdaaGreat
