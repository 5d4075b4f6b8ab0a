/- Lemmas of the claim; no condition. -/
import Derived.Test.YtgbhebappffbdaaGreatP19
set_option linter.all false
set_option maxRecDepth 100000
set_option maxHeartbeats 40000000
namespace Go.Proofs.YtgbhebappffbdaaGreat
open Go.RowKit
open Pl
attribute [local go_sem ↓] Go.wp_at_zero Go.wp_at_succ
namespace Pl
def Zes (es:List En) (g:Nat→Rat) (k:Int) (q:Rat):Nat→Rat
 | 0=>q
 | t+1=>match es[t]? with
  | some e=>if e.idx=k then Zes es g k q t else Zes es g k q t - e.f.q * g e.idx.toNat
  | none=>Zes es g k q t
theorem Yck {es:List En} {g:Nat→Rat} {k:Int} {q:Rat} {t:Nat} {e:En} (h:es[t]? =some e) (hk:e.idx=k):Zes es g k q (t+1)=Zes es g k q t:=by
 simp only [Zes,h,if_pos hk]
theorem Ycl {es:List En} {g:Nat→Rat} {k:Int} {q:Rat} {t:Nat} {e:En} (h:es[t]? =some e) (hk:e.idx≠k):Zes es g k q (t+1)=Zes es g k q t - e.f.q * g e.idx.toNat:=by
 simp only [Zes,h,if_neg hk]
end Pl
def Yeq (r:RF) (q:Rat) (n:Nat) (w:World) (wr:World):Prop:=
 ∃(f:RF) (A A':Option Addr) (l c l' c':Nat),f.q=q∧(f=r∨f=canF f.q)∧f.Rs n∧Bk wr w.heap.size 46 [.bool f.num.neg,.slice A l c,.bool f.den.neg,.slice A' l' c']∧Zt wr (.agg #[.bool f.num.neg,.slice A l c,.bool f.den.neg,.slice A' l' c']) f∧
  Bk wr (w.heap.size+1) 46 [.bool false,.slice none 0 0,.bool false,.slice none 0 0]∧Below w.heap.size w wr
theorem Zbs (v:Value) (es:List En) (e:En) (w:World) (h:Vf w v es) (he:es[es.length - 1]? =some e):
 Calls Tryz.prog 162 #[v] w fun o w'=>∃v',o= .returned v'∧Zt w' v' e.f∧Below w.heap.size w w':=by
 obtain ⟨A,c,rfl,j,m⟩:=h.shape;have hp:0 < es.length:=by have:=(List.getElem?_eq_some_iff.1 he).1;omega
 obtain ⟨W,hW,hR,a⟩:=YN w (.bool false) (.slice none 0 0) (.bool false) (.slice none 0 0);obtain ⟨b,n,A1,n1,k1,A2,n2,k2,rfl,p,⟨x0,x1,x2,x3,x4⟩,d⟩:=h.elem a he;generalize hk:es.length - 1=k at *;generalize hl:es.length=l at *;have g:(l:Int) - 1=(k:Int):=by omega
 have i:(k:Int) < l:=by omega
 obtain ⟨ei,f⟩:=e;simp only at *;obtain ⟨c0,c1,c2,c3⟩:=hR.four;obtain ⟨f0,f1,f2,f3⟩:=hR.fourF;clear he hl hk h hp;go_enter Tryz.func162,Tryz.ntmps162;go_wp2;refine Zn Tryz.results162 Tryz.underlying46 (by kernel_rfl) rfl (hR.set4 _ _ _ _) rfl ?_;exact Z0 hR d a (JY _)
theorem Vl (va vb vd:Value) (r:RF) (es:List En) (kk:Int) (ws:List RF) (K J:Nat) (w:World) (h1:Zt w va r) (h2:Vf w vb es) (h3:Xh w vd ws) (hin:inR ws.length es) (hr:r.Rs J) (hJ:1≤J) (ha:∀(k:Nat) (e:En),es[k]? =some e→e.f.Rs K) (hb:RsL K ws) (hK:1≤K) (hs:J+es.length * (2 * K+1)≤34359738368) (hs2:2 * K≤34359738368):
 Calls Tryz.prog 161 #[va,vb,.int .i64 kk,vd] w fun o w'=>∃v' f,o= .returned v'∧Zt w' v' f∧f.q=Zes es (qAt ws) kk r.q es.length∧(f=r∨f=canF f.q)∧f.Rs (J+es.length * (2 * K+1))∧Below w.heap.size w w':=by
 obtain ⟨R1,m1,d1,R2,m2,d2,rfl,_,_⟩:=id h1;obtain ⟨A,c,rfl,b4,b5⟩:=h2.shape;obtain ⟨A',c',rfl,b6,b7⟩:=h3.shape;generalize hn:es.length=l at *;generalize hm:ws.length=m at *;have HN:=JZ hn;have HM:=JZ hm;have HA:=JZ ha;have HB:=JZ hb;have HS:=JZ hs;have HI:=JZ hin;obtain ⟨TQ,U⟩:∃TQ:Nat→Rat,TQ=Zes es (qAt ws) kk r.q:=⟨_,rfl⟩;rw [← U];have ae:=JZ U;have af:r.q=TQ 0:=by rw [U];rfl
 obtain ⟨TZ,V⟩:∃TZ:Nat→Nat,TZ=fun k=>J+k * (2 * K+1):=⟨_,rfl⟩
 have HL:J+l * (2 * K+1)=TZ l:=by rw [V]
 rw [HL];have au:Hid (∀k,k≤l→1≤TZ k∧TZ k≤34359738368∧TZ (k+1)=TZ k+(2 * K)+1):=JZ fun k hk=>by
  rw [V];have:=JS (2 * K+1) hk;refine ⟨by dsimp only;omega,by dsimp only;omega,?_⟩;simp only [Nat.succ_mul];omega
 have ag:r.Rs (TZ 0):=by rw [V];simpa using hr
 obtain ⟨W,hW,_,hX,hR,x⟩:=Zis w (.bool r.num.neg) (.slice R1 m1 d1) (.bool r.den.neg) (.slice R2 m2 d2) (.bool false) (.slice none 0 0) (.bool false) (.slice none 0 0);have ST:Hid (Yeq r (TQ 0) (TZ 0) w W):=JZ ⟨r,R1,R2,m1,d1,m2,d2,af,.inl rfl,ag,hX,h1.below x,hR,x⟩;clear hn hm ha hb hs U hin hr af HL V ag hX hR x h1;go_enter Tryz.func161,Tryz.ntmps161;go_wp2;clear hW
 go_loopw [13] (fun i wr=>∃k:Nat,k≤l∧i= .int .i64 k∧Yeq r (TQ k) (TZ k) w wr) (fun i _=>l - (intOf i).toNat)
 case atStart=>exact ⟨0,by omega,rfl,ST.out⟩
 case round=>
  obtain ⟨k,hk,rfl,DK,C,C',p,q,p',q',X,ao,F,hX,hF,hR,x⟩:=hrel;have a1:=JZ ao;clear ao;rcases JX k l with hkl | hkl
  ·obtain ⟨e,he⟩:=YZ (es:=es) (i:=k) (by rw [HN.out];exact hkl);obtain ⟨b,b8,A1,n1,k1,A2,n2,k2,rfl,b9,ay,ap⟩:=h2.elem x he;obtain ⟨i0,i1⟩:=HI.out k e he;obtain ⟨j,hj⟩:=JT i0;obtain ⟨f',Y⟩:=Yb (fs:=ws) (i:=j) (by rw [HM.out];omega);have av:Hid ((j:Int)=kk→TQ (k+1)=TQ k):=JZ fun g=>by rw [ae.out];exact Yck he (by rw [hj];exact g)
   have aw:Hid ((j:Int)≠kk→TQ (k+1)=TQ k - e.f.q * f'.q):=JZ fun g=>by rw [ae.out,Ycl he (by rw [hj];exact g),hj,JP,Yo Y]
   have I:=HA.out k e he;obtain ⟨ei,f⟩:=e;simp only at *;subst hj;obtain ⟨x0,x1,x2,x3,x4⟩:=ay;obtain ⟨W1,Z,hV,O⟩:=Zaa wr (.int .i64 (j:Int)) (.bool f.num.neg) (.slice A1 n1 k1) (.bool f.den.neg) (.slice A2 n2 k2);have d:=Za x O x.size;obtain ⟨b',b0,A3,n3,k3,A4,n4,k4,rfl,b1,G,y⟩:=h3.elem d Y;obtain ⟨u0,u1,u2,u3⟩:=id G;obtain ⟨v0,v1,v2,v3,v4⟩:=hV.five;have ah:=ap.below O;have P:=hX.later O;have R:=hR.later O;have S:=hF.below O;have b2:(k:Int) < l:=(by omega);have b3:(j:Int) < m:=(by omega);have z:=HB.out j f' Y;have ai:=I.sm (by omega);have a0:=z.sm (by omega);obtain ⟨aq,ar,az⟩:=au.out k hk;have aj:TZ (k+1)=TZ k+(K+K)+1:=(by omega);have a2:=XN (I.sz hK) (z.sz hK);have ak:(canF (f.q * f'.q)).Sm:=(a2.sh (by omega)).sm;have al:DK.Sm:=F.sm ar;have am:Hid (DK.Rs (TZ (k+1))):=JZ (F.mono (by omega));have a3:Sz (TZ (k+1)) (DK.q - f.q * f'.q):=(by rw [aj];exact Zcy (F.sz aq) a2);have T:=JZ X;clear he Y hX hR hF x ap X F a2 aq ar az aj I z;by_cases H:(j:Int)=kk
   ·have a4:Hid (DK.q=TQ (k+1)):=JZ (by rw [av.out H,T.out]);have an:((j:Int) !=kk)=false:=(by simpa using H);clear H a3 G;go_wp2;clear Z;go_roundw
    case rel=>exact ⟨k+1,by omega,by go_num,DK,C,C',p,q,p',q',a4.out,a1.out,am.out,P,S,R,d⟩
    case measure=>simp [intOf];omega
   ·have a5:=JZ (aw.out H);have an:((j:Int) !=kk)=true:=(by simpa using H);have ax:qs f'.q=0∨qs f'.q=1∨qs f'.q= -1:=(by have:=Ul f'.q;omega);have HV:Hid (DK.q - (canF (f.q * f'.q)).q=TQ (k+1)):=JZ (by rw [Zu,a5.out,T.out]);have HZ:Hid ((canF (TQ (k+1))).Rs (TZ (k+1))):=JZ (by rw [a5.out,← T.out];exact a3.rs);clear H a3;rcases ax with hq' | hq' | hq'
    ·have a4:Hid (DK.q=TQ (k+1)):=JZ (by rw [a5.out,T.out,Yp.1 hq'];grind);go_wp2_with fail;clear Z;refine (Zx _ f' _ y).mono ?_;rw [hq'];rintro e w5 ⟨rfl,a⟩;have B:=P.later a;have L:=R.later a;have M:=S.below a;have h:=Za d a d.size;go_wp2;go_roundw
     case rel=>exact ⟨k+1,by omega,by go_num,DK,C,C',p,q,p',q',a4.out,a1.out,am.out,B,M,L,h⟩
     case measure=>simp [intOf];omega
    ·have hq:qs f'.q=1:=hq';go_wp2_with fail;clear Z;refine (Zx _ f' _ y).mono ?_;rw [hq];rintro e w5 ⟨rfl,a⟩;have B:=P.later a;have L:=R.later a;have M:=S.below a;have a6:=hV.later a;have h:=Za d a d.size;have a7:=ah.below a;have N:=y.below a;obtain ⟨y0,y1,y2,y3⟩:=ZP a G;clear u0 u1 u2 u3 hq G x0 x1 x2 x3 x4 v0 v1 v2 v3 v4;obtain ⟨v0,v1,v2,v3,v4⟩:=a6.five;obtain ⟨z0,z1,z2,z3⟩:=B.four
     go_upto_region 5 with (fail)
     have C0:=Zp y0;have C1:=Zp y1;have C2:=Zp y2;have C3:=Zp y3;have D0:=Zp v0;have D1:=Zp v1;have D2:=Zp v2;have D3:=Zp v3;have D4:=Zp v4;have E0:=Zp z0;have E1:=Zp z1;have E2:=Zp z2;have E3:=Zp z3;have n:=Zj w5;clear y0 y1 y2 y3 v0 v1 v2 v3 v4 z0 z1 z2 z3;refine Zq 10 [0,1,2,3,4,5,6,7,8,9,10] (by kernel_rfl) (by kernel_rfl) ?_;repeat ((first | (refine Zc (v:=?_) rfl rfl rfl ?_ ?_;rotate_left;(· (intro _ D;go_simp;(try go_bits);(try with_reducible rfl)))) | (refine Zg (v:=?_) rfl rfl rfl ?_ ?_;rotate_left;(· (intro _ D;go_simp;(try go_bits);(try with_reducible rfl)))) | refine Zh rfl rfl rfl ?_);(try simp only [Act.put,pu1,pu2,pu3,pu4,pu5,pu6]))
     refine Zd rfl rfl (fun KR hKR=>?_);go_simp;(with_reducible refine (XJ _ _ f f' _ (a7.below n) (N.below n) ai a0).mono ?_);rintro _ w6 ⟨v6,rfl,e6,ac⟩;have s:=Za n ac n.size;refine hKR.out _ _ (Or.inr s) ?_;clear hKR KR;(try simp only [Act.put,pu1,pu2,pu3,pu4,pu5,pu6]);repeat ((first | (refine Zc (v:=?_) rfl rfl rfl ?_ ?_;rotate_left;(· (intro _ D;go_simp;(try go_bits);(try with_reducible rfl)))) | (refine Zg (v:=?_) rfl rfl rfl ?_ ?_;rotate_left;(· (intro _ D;go_simp;(try go_bits);(try with_reducible rfl)))) | refine Zh rfl rfl rfl ?_);(try simp only [Act.put,pu1,pu2,pu3,pu4,pu5,pu6]))
     refine Zd rfl rfl (fun KR hKR=>?_);go_simp;(with_reducible refine (Vj _ _ DK (canF (f.q * f'.q)) _ (M.below s) e6 al ak).mono ?_);rw [HV.out];rintro _ w7 ⟨v7,rfl,e7,ad⟩;have t:=Za s ad s.size;obtain ⟨E,l9,k9,E',aa,ab,rfl,_,_⟩:=id e7;have u:=B.later t;have a8:=L.later t;obtain ⟨c0,c1,c2,c3⟩:=u.four;obtain ⟨f0,f1,f2,f3⟩:=u.fourF;refine hKR.out _ _ (Or.inr t) ?_;clear hKR KR;(try simp only [Act.put,pu1,pu2,pu3,pu4,pu5,pu6]);refine Zd rfl rfl (fun KR hKR=>?_);go_simp;refine hKR.out _ _ (Or.inl (by decide)) ?_;clear hKR KR;(try simp only [Act.put,pu1,pu2,pu3,pu4,pu5,pu6]);refine Zz ?_;clear C0 C1 C2 C3 D0 D1 D2 D3 D4 E0 E1 E2 E3;have bb:=Za h t h.size;have a9:=a8.far4 (show w.heap.size+1≠w.heap.size by omega);go_wp2;go_roundw
     case rel=>exact ⟨k+1,by omega,by go_num,_,E,E',l9,k9,aa,ab,Zu _,.inr (by rw [Zu]),HZ.out,u.set4 _ _ _ _,e7.keep (u.keep4 (by decide) _ _ _ _),a9 _ _ _ _,ZG bb (JY _) _ _ _ _⟩
     case measure=>simp [intOf];omega
    ·have hq:qs f'.q= -1:=hq';go_wp2_with fail;clear Z;refine (Zx _ f' _ y).mono ?_;rw [hq];rintro e w5 ⟨rfl,a⟩;have B:=P.later a;have L:=R.later a;have M:=S.below a;have a6:=hV.later a;have h:=Za d a d.size;have a7:=ah.below a;have N:=y.below a;obtain ⟨y0,y1,y2,y3⟩:=ZP a G;clear u0 u1 u2 u3 hq G x0 x1 x2 x3 x4 v0 v1 v2 v3 v4;obtain ⟨v0,v1,v2,v3,v4⟩:=a6.five;obtain ⟨z0,z1,z2,z3⟩:=B.four
     go_upto_region 5 with (fail)
     have C0:=Zp y0;have C1:=Zp y1;have C2:=Zp y2;have C3:=Zp y3;have D0:=Zp v0;have D1:=Zp v1;have D2:=Zp v2;have D3:=Zp v3;have D4:=Zp v4;have E0:=Zp z0;have E1:=Zp z1;have E2:=Zp z2;have E3:=Zp z3;have n:=Zj w5;clear y0 y1 y2 y3 v0 v1 v2 v3 v4 z0 z1 z2 z3;refine Zq 10 [0,1,2,3,4,5,6,7,8,9,10] (by kernel_rfl) (by kernel_rfl) ?_;repeat ((first | (refine Zc (v:=?_) rfl rfl rfl ?_ ?_;rotate_left;(· (intro _ D;go_simp;(try go_bits);(try with_reducible rfl)))) | (refine Zg (v:=?_) rfl rfl rfl ?_ ?_;rotate_left;(· (intro _ D;go_simp;(try go_bits);(try with_reducible rfl)))) | refine Zh rfl rfl rfl ?_);(try simp only [Act.put,pu1,pu2,pu3,pu4,pu5,pu6]))
     refine Zd rfl rfl (fun KR hKR=>?_);go_simp;(with_reducible refine (XJ _ _ f f' _ (a7.below n) (N.below n) ai a0).mono ?_);rintro _ w6 ⟨v6,rfl,e6,ac⟩;have s:=Za n ac n.size;refine hKR.out _ _ (Or.inr s) ?_;clear hKR KR;(try simp only [Act.put,pu1,pu2,pu3,pu4,pu5,pu6]);repeat ((first | (refine Zc (v:=?_) rfl rfl rfl ?_ ?_;rotate_left;(· (intro _ D;go_simp;(try go_bits);(try with_reducible rfl)))) | (refine Zg (v:=?_) rfl rfl rfl ?_ ?_;rotate_left;(· (intro _ D;go_simp;(try go_bits);(try with_reducible rfl)))) | refine Zh rfl rfl rfl ?_);(try simp only [Act.put,pu1,pu2,pu3,pu4,pu5,pu6]))
     refine Zd rfl rfl (fun KR hKR=>?_);go_simp;(with_reducible refine (Vj _ _ DK (canF (f.q * f'.q)) _ (M.below s) e6 al ak).mono ?_);rw [HV.out];rintro _ w7 ⟨v7,rfl,e7,ad⟩;have t:=Za s ad s.size;obtain ⟨E,l9,k9,E',aa,ab,rfl,_,_⟩:=id e7;have u:=B.later t;have a8:=L.later t;obtain ⟨c0,c1,c2,c3⟩:=u.four;obtain ⟨f0,f1,f2,f3⟩:=u.fourF;refine hKR.out _ _ (Or.inr t) ?_;clear hKR KR;(try simp only [Act.put,pu1,pu2,pu3,pu4,pu5,pu6]);refine Zd rfl rfl (fun KR hKR=>?_);go_simp;refine hKR.out _ _ (Or.inl (by decide)) ?_;clear hKR KR;(try simp only [Act.put,pu1,pu2,pu3,pu4,pu5,pu6]);refine Zz ?_;clear C0 C1 C2 C3 D0 D1 D2 D3 D4 E0 E1 E2 E3;have bb:=Za h t h.size;have a9:=a8.far4 (show w.heap.size+1≠w.heap.size by omega);go_wp2;go_roundw
     case rel=>exact ⟨k+1,by omega,by go_num,_,E,E',l9,k9,aa,ab,Zu _,.inr (by rw [Zu]),HZ.out,u.set4 _ _ _ _,e7.keep (u.keep4 (by decide) _ _ _ _),a9 _ _ _ _,ZG bb (JY _) _ _ _ _⟩
     case measure=>simp [intOf];omega
  ·obtain rfl:k=l:=by omega
   obtain ⟨x1,x2,x3,x4⟩:=hX.four;obtain ⟨c0,c1,c2,c3⟩:=hR.four;obtain ⟨f0,f1,f2,f3⟩:=hR.fourF;have HQ:=JZ X;have HR:=JZ F;clear X F;go_wp2;refine Zn Tryz.results161 Tryz.underlying46 (by kernel_rfl) rfl (hR.set4 _ _ _ _) rfl ?_;exact ⟨_,DK,rfl,hF.keep (hR.keep4 (by decide) _ _ _ _),HQ.out,a1.out,HR.out,ZG x (Nat.le_succ _) _ _ _ _⟩
namespace Pl
def Uv (es:List En) (k:Int) (z:Rat) (g:Nat→Rat):Nat→Nat→Rat
 | 0,i=>g i
 | t+1,i=>match es[t]? with
  | some e=>if e.idx≠k∧e.idx=(i:Int) then Uv es k z g t i - e.f.q * z else Uv es k z g t i
  | none=>Uv es k z g t i
theorem Zdu (es:List En) (k:Int) (g:Nat→Rat) (i:Nat):∀t,Uv es k 0 g t i=g i
 | 0=>rfl
 | t+1=>by
  have ih:=Zdu es k g i t
  unfold Uv
  split
  ·split
   ·rw [ih];grind
   ·exact ih
  ·exact ih
theorem Ycm {es:List En} {k:Int} {z:Rat} {g:Nat→Rat} {t i:Nat} {e:En} (h:es[t]? =some e) (hk:e.idx=k):Uv es k z g (t+1) i=Uv es k z g t i:=by
 conv=>lhs;unfold Uv
 simp only [h,hk,ne_eq,not_true_eq_false,false_and,if_false]
theorem Ycn {es:List En} {k:Int} {z:Rat} {g:Nat→Rat} {t i j:Nat} {e:En} (h:es[t]? =some e) (hk:e.idx≠k) (hj:e.idx=(j:Int)):Uv es k z g (t+1) i=if i=j then Uv es k z g t j - e.f.q * z else Uv es k z g t i:=by
 conv=>lhs;unfold Uv
 simp only [h];by_cases c:i=j
 ·subst c;rw [if_pos ⟨hk,hj⟩,if_pos rfl]
 ·rw [if_neg (fun q=>c (by omega)),if_neg c]
theorem Zol (es:List En) (k:Nat) (z:Rat) (g:Nat→Rat):∀t,Uv es k z g t k=g k
 | 0=>rfl
 | t+1=>by
  have ih:=Zol es k z g t
  conv=>lhs;unfold Uv
  split
  ·rw [if_neg (fun q=>q.1 q.2)];exact ih
  ·exact ih
end Pl
theorem ZW.of_below {g:Option Nat} {w w':World} (h:Below w.heap.size w w'):ZW g w w':=⟨h.size,fun b hb _=>h.block b hb⟩
def Zbx (base:Nat) (vz:Value) (N:Nat) (G:Nat→Rat) (w wr:World):Prop:=Z4 base wr vz (Yj N G)∧Ze 46 w wr∧ZW vz.ownBlock w wr∧Below base w wr
theorem Zbt (vz vb:Value) (m:Nat) (q:Nat→Rat) (es:List En) (kn K J base:Nat) (w:World) (h1:Z4 base w vz (Yj m q)) (h2:Vf w vb es) (hkn:kn < m) (hin:inR m es) (ha:∀(k:Nat) (e:En),es[k]? =some e→e.f.Rs K) (hz:∀t i,t≤es.length→i < m→Sz J (Uv es kn (q kn) q t i)) (hK:1≤K) (hs1:J≤34359738368) (hs2:K+J≤34359738368):
 Calls Tryz.prog 170 #[vz,vb,.int .i64 (kn:Int)] w fun o w'=>o= .returned (.tuple #[])∧Zbx base vz m (Uv es kn (q kn) q es.length) w w':=by
 obtain ⟨g,c0,rfl,ao,b0,ap,b2⟩:=h1.shape (by rw [Zm];omega);obtain ⟨A,c,rfl,b3,b4⟩:=h2.shape;rw [Zm] at h1 ap ⊢;have a:base≤w.heap.size:=by omega
 have O:Sz J (q kn):=hz 0 kn (Nat.zero_le _) hkn;have V:(canF (q kn)).Sm:=O.rs.sm hs1;obtain ⟨b1,o1,A3,n3,k3,A4,n4,k4,hA,_,⟨y0,y1,y2,y3⟩,s⟩:=h1.frs.elem (JR _ _) (ZK hkn);injection hA with hA;injection hA with hA1 hA2;subst hA1;subst hA2;simp only [Nat.zero_add] at y0 y1 y2 y3;have P:Hid (∀t,Uv es kn (q kn) q t kn=q kn):=JZ fun t=>Zol es kn _ q t
 obtain ⟨z,U⟩:∃z,z=q kn:=⟨_,rfl⟩;rw [← U] at hz O V y0 y2 s P ⊢;have av:=JZ U;clear U;generalize hn:es.length=l at *;have HN:=JZ hn;have HA:=JZ ha;have HI:=JZ hin;obtain ⟨TQ,G⟩:∃TQ:Nat→Nat→Rat,TQ=Uv es kn z q:=⟨_,rfl⟩;rw [← G] at hz P ⊢;have R:=JZ G;have HZ:=JZ hz;have X:q=TQ 0:=by rw [G];rfl
 have H1:Hid (Z4 base w (.slice (some ⟨g,0,none⟩) m c0) (Yj m (TQ 0))):=JZ (by rw [← X];exact h1);have H2:=JZ h2;have aw:(kn:Int) < m:=by omega
 clear hn ha G hin hz h1 h2 X;have ab:qs z=0∨qs z=1∨qs z= -1:=by have:=Ul z;omega
 go_enter Tryz.func170,Tryz.ntmps170;go_wp2_with fail;refine (Zx _ (canF z) _ s).mono ?_;rw [Zu];rintro e w1 ⟨rfl,I⟩;have ST:Hid (Zbx base (.slice (some ⟨g,0,none⟩) m c0) m (TQ 0) w w1):=JZ ⟨H1.out.below I,Ze.of_below I,ZW.of_below I,I.mono a⟩;by_cases L:qs z=0
 ·have HE:Hid (Zbx base (.slice (some ⟨g,0,none⟩) m c0) m (TQ l) w w1):=JZ (by
   have e:∀i,i < m→TQ 0 i=TQ l i:=fun i _=>by rw [R.out,Yp.1 L,Zdu,Zdu]
   rw [show Zbx base (.slice (some ⟨g,0,none⟩) m c0) m (TQ l) w w1=Zbx base (.slice (some ⟨g,0,none⟩) m c0) m (TQ 0) w w1 from by unfold Zbx;rw [ZT e]];exact ST.out)
  rw [L];go_wp2;refine bodyPost_ret (results_none rfl _ _ _) rfl ?_;exact ⟨rfl,HE.out⟩
 ·have ac:(qs z==0)=false:=by simpa using L
  clear ab L y0 y1 y2 y3 s;go_wp2;clear ac
  go_loopw [16] (fun i wr=>∃k:Nat,k≤l∧i= .int .i64 k∧Zbx base (.slice (some ⟨g,0,none⟩) m c0) m (TQ k) w wr) (fun i _=>l - (intOf i).toNat)
  case atStart=>exact ⟨0,by omega,rfl,ST.out⟩
  case round=>
   obtain ⟨k,hk,rfl,hO,u,x,H⟩:=hrel;rcases JX k l with hkl | hkl
   ·obtain ⟨e,he⟩:=YZ (es:=es) (i:=k) (by rw [HN.out];exact hkl);have Y:=H2.out.but u (by decide) (by decide);obtain ⟨b,b5,A1,n1,k1,A2,n2,k2,rfl,b6,⟨x0,x1,x2,x3,x4⟩,a6⟩:=Y.elem (JR _ _) he;obtain ⟨i0,i1⟩:=HI.out k e he;obtain ⟨j,hj⟩:=JT i0;have C:j < m:=(by omega);have ad:Hid ((j:Int)=kn→∀i,TQ (k+1) i=TQ k i):=JZ fun q i=>by rw [R.out];exact Ycm he (by rw [hj];exact q)
    have ae:Hid ((j:Int)≠kn→∀i,TQ (k+1) i=if i=j then TQ k j - e.f.q * z else TQ k i):=JZ fun q i=>by rw [R.out];exact Ycn he (by rw [hj];exact q) hj
    have h:=HA.out k e he;obtain ⟨ei,f⟩:=e;simp only at *;subst hj;obtain ⟨W1,a7,hV,y⟩:=Zaa wr (.int .i64 (j:Int)) (.bool f.num.neg) (.slice A1 n1 k1) (.bool f.den.neg) (.slice A2 n2 k2);have n:=hO.below y;have af:=a6.below y;have M:=u.trans (Ze.of_below y);have p:=x.trans (ZW.of_below y);have N:=Za H y (JW a x.1);obtain ⟨v0,v1,v2,v3,v4⟩:=hV.five;have rj:=HZ.out k j hk C;have ag:=h.sm (show K≤34359738368 by omega);have ah:(canF (TQ k j)).Sm:=rj.rs.sm hs1;have Z:=XN (h.sz hK) O;have ai:(canF (f.q * z)).Sm:=(Z.sh (by omega)).sm;have ax:(k:Int) < l:=(by omega);have ay:(j:Int) < m:=(by omega);have a0:(Yj m (TQ k))[kn]? =some (canF z):=(by rw [ZK hkn,P.out]);have S:(Yj m (TQ k))[j]? =some (canF (TQ k j)):=ZK C;generalize aa:TQ k j=qj at *;have az:=JZ aa;clear aa;clear he hO u H x a6 Z h rj Y;by_cases d:(j:Int)=kn
    ·have aj:Hid (Yj m (TQ k)=Yj m (TQ (k+1))):=JZ (ZT fun i _=>by rw [ad.out d]);have a1:((j:Int) !=kn)=false:=(by simpa using d);clear d S a0;rw [aj.out] at n;go_wp2;clear a7;go_roundw
     case rel=>exact ⟨k+1,by omega,by go_num,n,M,p,N⟩
     case measure=>simp [intOf];omega
    ·have T:=JZ (ae.out d);have a1:((j:Int) !=kn)=true:=(by simpa using d);have HV:Hid ((canF qj).q - (canF (f.q * z)).q=TQ (k+1) j):=JZ (by rw [Zu,Zu,T.out,if_pos rfl]);have ak:Hid ((Yj m (TQ k)).set j (canF (TQ (k+1) j))=Yj m (TQ (k+1))):=JZ (by rw [Vg C];exact ZT fun i _=>by rw [T.out i,T.out j,if_pos rfl]);obtain ⟨b1,o1,B3,p3,q3,B4,p4,q4,hA,_,⟨y0,y1,y2,y3⟩,s⟩:=n.frs.elem (JR _ _) a0;injection hA with hA;injection hA with hA1 hA2;subst hA1;subst hA2;obtain ⟨b1,o1,D3,r3,s3,D4,r4,s4,hA,_,⟨z0,z1,z2,z3⟩,aq⟩:=n.frs.elem (JR _ _) S;injection hA with hA;injection hA with hA1 hA2;subst hA1;subst hA2;simp only [Nat.zero_add] at y0 y1 y2 y3 z0 z1 z2 z3;clear d
     go_upto_region 5 with (fail)
     clear a7;have C0:=Zp y0;have C1:=Zp y1;have C2:=Zp y2;have C3:=Zp y3;have D0:=Zp v0;have D1:=Zp v1;have D2:=Zp v2;have al:=Zp v3;have am:=Zp v4;have E0:=Zp z0;have E1:=Zp z1;have E2:=Zp z2;have E3:=Zp z3;have D:=Zj W1;clear y0 y1 y2 y3 v0 v1 v2 v3 v4 z0 z1 z2 z3 x0 x1 x2 x3 x4;refine Zq 17 [0,1,2,3,4,5,6,7,8,9,10,11,12,13,14,15,16,17] (by kernel_rfl) (by kernel_rfl) ?_;repeat ((first | (refine Zc (v:=?_) rfl rfl rfl ?_ ?_;rotate_left;(· (intro _ B;go_simp;(try go_bits);(try with_reducible rfl)))) | (refine Zg (v:=?_) rfl rfl rfl ?_ ?_;rotate_left;(· (intro _ B;go_simp;(try go_bits);(try with_reducible rfl)))) | refine Zh rfl rfl rfl ?_);(try simp only [Act.put,pu1,pu2,pu3,pu4,pu5,pu6]))
     refine Zd rfl rfl (fun KR hKR=>?_);go_simp;(with_reducible refine (XJ _ _ f (canF z) _ (af.below D) (s.below D) ag V).mono ?_);rw [Zu];rintro _ w6 ⟨v6,rfl,e6,ar⟩;have F:=Za D ar D.size;refine hKR.out _ _ (Or.inr F) ?_;clear hKR KR;(try simp only [Act.put,pu1,pu2,pu3,pu4,pu5,pu6]);repeat ((first | (refine Zc (v:=?_) rfl rfl rfl ?_ ?_;rotate_left;(· (intro _ B;go_simp;(try go_bits);(try with_reducible rfl)))) | (refine Zg (v:=?_) rfl rfl rfl ?_ ?_;rotate_left;(· (intro _ B;go_simp;(try go_bits);(try with_reducible rfl)))) | refine Zh rfl rfl rfl ?_);(try simp only [Act.put,pu1,pu2,pu3,pu4,pu5,pu6]))
     refine Zd rfl rfl (fun KR hKR=>?_);go_simp;(with_reducible refine (Vj _ _ (canF qj) (canF (f.q * z)) _ (aq.below F) e6 ah ai).mono ?_);rw [HV.out];rintro _ w7 ⟨v7,rfl,e7,au⟩;have r:=Za F au F.size;obtain ⟨E,l9,k9,E',b7,b8,rfl,_,_⟩:=id e7;have a2:=n.below r;obtain ⟨_,_,_,_,⟨c0,c1,c2,c3⟩,⟨f0,f1,f2,f3⟩,_⟩:=a2.at_ S;refine hKR.out _ _ (Or.inr r) ?_;clear hKR KR;(try simp only [Act.put,pu1,pu2,pu3,pu4,pu5,pu6]);repeat ((first | (refine Zc (v:=?_) rfl rfl rfl ?_ ?_;rotate_left;(· (intro _ B;go_simp;(try go_bits);(try with_reducible rfl)))) | (refine Zg (v:=?_) rfl rfl rfl ?_ ?_;rotate_left;(· (intro _ B;go_simp;(try go_bits);(try with_reducible rfl)))) | refine Zh rfl rfl rfl ?_);(try simp only [Act.put,pu1,pu2,pu3,pu4,pu5,pu6]))
     refine Zd rfl rfl (fun KR hKR=>?_);go_simp;refine hKR.out _ _ (Or.inl (by decide)) ?_;clear hKR KR;(try simp only [Act.put,pu1,pu2,pu3,pu4,pu5,pu6]);refine Zz ?_;clear C0 C1 C2 C3 D0 D1 D2 al am E0 E1 E2 E3;have an:j < (Yj m (TQ k)).length:=(by rw [Zm];exact C);obtain ⟨a8,a9⟩:=a2.set_ an e7;rw [ak.out] at a8;have a3:=(M.trans (Ze.of_below r)).trans a9;have a4:=p.trans (ZW.of_below r);have a5:=Zw (Za N r (JW a p.1)) ao (j * 4) (j * 4+1) (j * 4+2) (j * 4+3);go_wp2;go_roundw
     case rel=>exact ⟨k+1,by omega,by go_num,a8,a3,a4.trans Yq,a5 _ _ _ _⟩
     case measure=>simp [intOf];omega
   ·obtain rfl:k=l:=by omega
    have HE:Hid (Zbx base (.slice (some ⟨g,0,none⟩) m c0) m (TQ k) w wr):=JZ ⟨hO,u,x,H⟩;clear hO u x H;go_wp2
    go_end0
    exact ⟨rfl,HE.out⟩
namespace Pl
theorem Xr.sz {n K:Nat} {cols:Mx} {x b:Nat→Rat} (hi:Xr n cols) (hc:∀r c,r < n→c < n→Sz K (cols c r)) (hb:∀r,r < n→Sz K (b r)) (hx:∀r,r < n→Xz n cols x r=b r):∀i,i < n→Sz (5^n * K) (x i):=by
 obtain ⟨z,hz,h1⟩:=Zjq hi hx;exact fun i hi'=>by rw [← h1 i hi'];exact Zob hc hb hz i hi'
def Yco (C:Nat→Nat) (i:Nat):Nat→Nat
 | 0=>0
 | s+1=>if C s=i then s else Yco C i s
theorem Zmk {n m k:Nat} {C:Nat→Nat} (h:Inj n m C) (hk:k < m):Yco C (C k) m=k:=by
 have a:∀t,k < t→t≤m→Yco C (C k) t=k:=by
  intro t
  induction t with
  | zero=>intro h1;omega
  | succ t ih=>
   intro h1 h2;unfold Yco;by_cases e:t=k
   ·subst e;rw [if_pos rfl]
   ·rw [if_neg fun g=>e (h.eq (by omega) hk g)];exact ih (by omega) (by omega)
 exact a m hk (JY _)
def xOf (C:Nat→Nat) (n:Nat) (X:Nat→Rat):Nat→Rat:=fun i=>X (Yco C i n)
theorem Zfy {n k:Nat} {C:Nat→Nat} {X:Nat→Rat} (h:Inj n n C) (hk:k < n):xOf C n X (C k)=X k:=by unfold xOf;rw [Zmk h hk]
def Vs (n j:Nat) (C:Nat→Nat) (X:Nat→Rat):List RF:=rfL n fun i=>if n - j≤Yco C i n then canF (X (Yco C i n)) else zeroF
theorem Zfz {n:Nat} {C:Nat→Nat} {X:Nat→Rat} (h:Inj n n C):Vs n 0 C X=List.replicate n zeroF:=by
 have:Vs n 0 C X=rfL n fun _=>zeroF:=Xv fun i hi=>by
  obtain ⟨s,hs,rfl⟩:=h.onto hi;rw [Zmk h hs,if_neg (by omega)]
 rw [this];refine List.ext_getElem? fun i=>?_
 rcases JX i n with e | e
 ·rw [Yi e];simp [e]
 ·rw [JU (by rw [Zr];exact e),JU (by simp;exact e)]
theorem Zga {n j k:Nat} {C:Nat→Nat} {X:Nat→Rat} (h:Inj n n C) (hk:k+1+j=n):(Vs n j C X).set (C k) (canF (X k))=Vs n (j+1) C X:=by
 unfold Vs;rw [Vk (h.1 k (by omega))];refine Xv fun i hi=>?_
 obtain ⟨s,hs,rfl⟩:=h.onto hi;rw [Zmk h hs];by_cases e:s=k
 ·subst e;rw [if_pos rfl,if_pos (by omega)]
 ·rw [if_neg fun g=>e (h.eq hs (by omega) g)];by_cases e2:n - j≤s
  ·rw [if_pos e2,if_pos (by omega)]
  ·rw [if_neg e2,if_neg (by omega)]
theorem Zka {n:Nat} {C:Nat→Nat} {X:Nat→Rat} (_h:Inj n n C):Vs n n C X=Yj n (xOf C n X):=by
 unfold Vs;rw [← Zmj];exact Xv fun i _=>by rw [if_pos (by omega)];rfl
theorem WE {n j:Nat} {C:Nat→Nat} {X:Nat→Rat}:(Vs n j C X).length=n:=Zr _ _
def solQ (n:Nat) (R C:Nat→Nat) (L U:Mx) (b:Nat→Rat):Nat→Rat:=xOf C n (UE n U (Us L (fun p=>b (R p)) n) n)
def solT (n:Nat) (R C:Nat→Nat) (L U:Mx) (d:Nat→Rat):Nat→Rat:=xOf R n (ltN n L (utN U (fun k=>d (C k)) n) n)
theorem Zbw.solQ {n:Nat} {A:Mx} {R C:Nat→Nat} {L U:Mx} (h:Zbw n A R C L U) (b:Nat→Rat):∀r,r < n→Xz n (trM A) (solQ n R C L U b) r=b r:=by
 refine h.solve (z:=Us L (fun p=>b (R p)) n) (Zmf h.l0 h.l1) fun s hs=>?_
 rw [← Zdo (z:=Us L (fun p=>b (R p)) n) h.u0 h.u1 s hs];exact Zk fun k hk=>by unfold Pl.solQ;rw [Zfy h.ci hk]
theorem Zbw.solT {n:Nat} {A:Mx} {R C:Nat→Nat} {L U:Mx} (h:Zbw n A R C L U) (d:Nat→Rat):∀c,c < n→Xz n A (solT n R C L U d) c=d c:=by
 refine h.solveT (v:=utN U (fun k=>d (C k)) n) (Zqo h.u0 h.u1) fun s hs=>?_
 rw [← Zfv (w:=utN U (fun k=>d (C k)) n) h.l0 h.l1 s hs];exact Zk fun k hk=>by unfold Pl.solT;rw [Zfy h.ri hk]
structure Zml (n E:Nat) (A:Mx) (R C:Nat→Nat) (L U:Mx):Prop where
 fac:Zbw n A R C L U
 n7:n≤7
 e1:1≤E
 e2:E≤4000000
 lB:∀t p,t < n→p < n→Sz (2 * E) (L t p)
 uB:∀k s,k < n→s < n→Sz (2 * E) (U k s)
theorem Zdv {n K J:Nat} {f g:Nat→Rat} (hn:n≤7) (hf:∀i,i < n→Sz K (f i)) (hg:∀i,i < n→Sz J (g i)):Sz (7 * (K+J)+8) (ZO (fun i=>f i * g i) n):=
 (Zjg fun i hi=>XN (hf i hi) (hg i hi)).mono (by
  have:=JS (K+J+1) hn
  omega)
theorem Zml.zB {n E:Nat} {A:Mx} {R C:Nat→Nat} {L U:Mx} (h:Zml n E A R C L U) {b:Nat→Rat} (hX:∀i,i < n→Sz E (Pl.solQ n R C L U b i)):∀s,s < n→Sz (29 * E) (Us L (fun p=>b (R p)) n s):=by
 intro s hs;have e1:=h.e1;rw [← Zdo (z:=Us L (fun p=>b (R p)) n) h.fac.u0 h.fac.u1 s hs];refine (Zdv (K:=2 * E) (J:=E) h.n7 (fun k hk=>h.uB k s hk hs) fun k hk=>?_).mono (by omega);have:=hX (C k) (h.fac.ci.1 k hk);unfold Pl.solQ at this
 rwa [Zfy h.fac.ci hk] at this
theorem Zml.fB {n E J:Nat} {A:Mx} {R C:Nat→Nat} {L U:Mx} (h:Zml n E A R C L U) {b:Nat→Rat} (hb:∀i,i < n→Sz J (b i)) (hX:∀i,i < n→Sz E (Pl.solQ n R C L U b i)):
 ∀j i,j≤n→i < n→Sz (J+226 * E) (Us L (fun p=>b (R p)) j i):=by
 have e1:=h.e1;have a:∀j i,j≤i→i < n→Sz (J+226 * E) (Us L (fun p=>b (R p)) j i):=fun j i hj hi=>by
  rw [Zhe L _ i j hj];have hs:Sz (7 * (2 * E+29 * E)+8) (ZO (fun s=>L s i * Us L (fun p=>b (R p)) s s) j):=Zdv (by have:=h.n7;omega) (fun s hs=>h.lB s i (by omega) hi) fun s hs=>by
   rw [← Zhd (show s≤n by omega)];exact h.zB hX s (by omega)
  exact (Zcy (hb (R i) (h.fac.ri.1 i hi)) hs).mono (by omega)
 intro j i hj hi;rcases JX i j with g | g
 ·rw [Zhd (show i≤j by omega)];exact a i i (JY _) hi
 ·exact a j i g hi
theorem Zml.bB {n E:Nat} {A:Mx} {R C:Nat→Nat} {L U:Mx} (h:Zml n E A R C L U) {b:Nat→Rat} (hX:∀i,i < n→Sz E (Pl.solQ n R C L U b i)):
 ∀j i,j≤n→i < n→Sz (59 * E) (UE n U (Us L (fun p=>b (R p)) n) j i):=by
 have e1:=h.e1;have hx:∀k,k < n→Sz E (UE n U (Us L (fun p=>b (R p)) n) n k):=fun k hk=>by
  have:=hX (C k) (h.fac.ci.1 k hk);unfold Pl.solQ at this
  rwa [Zfy h.fac.ci hk] at this
 intro j i hj hi;rcases JX (j+i) n with g | g
 ·rw [Zhf n U _ i j g];have hs:Sz (7 * (2 * E+E)+8) (ZO (fun t=>U (n - 1 - t) i * UE n U (Us L (fun p=>b (R p)) n) n (n - 1 - t)) j):=Zdv (by have:=h.n7;omega) (fun t ht=>h.uB _ _ (by omega) hi) fun t ht=>hx _ (by omega)
  exact (Zcy (h.zB hX i hi) hs).mono (by omega)
 ·rw [Zbe hi (by omega) hj,← Zbe hi (by omega) (JY n)];exact (hx i hi).mono (by omega)
theorem Zml.wB {n E:Nat} {A:Mx} {R C:Nat→Nat} {L U:Mx} (h:Zml n E A R C L U) {d:Nat→Rat} (hY:∀i,i < n→Sz E (Pl.solT n R C L U d i)):∀s,s < n→Sz (29 * E) (utN U (fun k=>d (C k)) n s):=by
 intro s hs;have e1:=h.e1;rw [← Zfv (w:=utN U (fun k=>d (C k)) n) h.fac.l0 h.fac.l1 s hs];refine (Zdv (K:=2 * E) (J:=E) h.n7 (fun p hp=>h.lB s p hs hp) fun p hp=>?_).mono (by omega);have:=hY (R p) (h.fac.ri.1 p hp);unfold Pl.solT at this
 rwa [Zfy h.fac.ri hp] at this
theorem Zml.tB {n E:Nat} {A:Mx} {R C:Nat→Nat} {L U:Mx} (h:Zml n E A R C L U) {d:Nat→Rat} (hY:∀i,i < n→Sz E (Pl.solT n R C L U d i)):
 ∀j i,j≤n→i < n→Sz (29 * E) (ltN n L (utN U (fun k=>d (C k)) n) j i):=by
 have e1:=h.e1;intro j i hj hi;rcases JX (j+i) n with g | g
 ·rw [Zdq g];exact h.wB hY i hi
 ·rw [Zbq hi (by omega) hj,← Zbq hi (show n - i≤n by omega) (JY n)];have:=hY (R i) (h.fac.ri.1 i hi);unfold Pl.solT at this;rw [Zfy h.fac.ri hi] at this;exact this.mono (by omega)
theorem Zdw {es ds:List En} {k:Int} {z:Rat} {g:Nat→Rat} {i:Nat}:∀{t:Nat},t≤es.length→Uv (es++ds) k z g t i=Uv es k z g t i
 | 0,_=>rfl
 | t+1,h=>by
  have ih:=Zdw (es:=es) (ds:=ds) (k:=k) (z:=z) (g:=g) (i:=i) (t:=t) (by omega)
  conv=>lhs;unfold Uv
  conv=>rhs;unfold Uv
  rw [List.getElem?_append_left (by omega),ih]
theorem Zhm (f:Nat→Rat) (k:Nat) (z:Rat) (g:Nat→Rat) (i:Nat):∀n,Uv (spV f n) (k:Int) z g (spV f n).length i=if i < n∧i≠k then g i - f i * z else g i
 | 0=>by rw [if_neg (by omega)];rfl
 | n+1=>by
  have ih:=Zhm f k z g i n
  by_cases h0:f n=0
  ·rw [Xf h0,ih]
   by_cases e:i=n
   ·subst e
    rw [if_neg (by omega),h0]
    by_cases e2:i≠k
    ·rw [if_pos ⟨by omega,e2⟩];grind
    ·rw [if_neg (by omega)]
   ·by_cases e2:i < n∧i≠k
    ·rw [if_pos e2,if_pos ⟨by omega,e2.2⟩]
    ·rw [if_neg e2,if_neg (by omega)]
  ·rw [Xu h0,List.length_append]
   show Uv _ _ _ _ ((spV f n).length+1) i=_
   conv=>lhs;unfold Uv
   rw [List.getElem?_append_right (JY _),Nat.sub_self]
   show (if ((n:Int)≠(k:Int)∧(n:Int)=(i:Int)) then _ else _)=_
   rw [Zdw (JY _),ih,Zu]
   by_cases e:i=n
   ·subst e
    rw [if_neg (show ¬(i < i∧i≠k) by omega)]
    by_cases e2:i≠k
    ·rw [if_pos ⟨by omega,rfl⟩,if_pos ⟨by omega,e2⟩]
    ·rw [if_neg (by omega),if_neg (by omega)]
   ·rw [if_neg (by omega)]
    by_cases e2:i < n∧i≠k
    ·rw [if_pos e2,if_pos ⟨by omega,e2.2⟩]
    ·rw [if_neg e2,if_neg (by omega)]
theorem Zom (f:Nat→Rat) (k:Nat) (z:Rat) (g:Nat→Rat) (i:Nat):∀n t,t≤(spV f n).length→Uv (spV f n) (k:Int) z g t i=g i∨(i < n∧i≠k∧Uv (spV f n) (k:Int) z g t i=g i - f i * z)
 | 0,t,h=>by
  have h':t≤0:=h
  obtain rfl:t=0:=by omega
  exact .inl rfl
 | n+1,t,h=>by
  rcases Nat.eq_or_lt_of_le h with e | e
  ·have:=Zhm f k z g i (n+1)
   rw [← e] at this
   rw [this]
   by_cases e2:i < n+1∧i≠k
   ·rw [if_pos e2];exact .inr ⟨e2.1,e2.2,rfl⟩
   ·rw [if_neg e2];exact .inl rfl
  ·have ht:t≤(spV f n).length:=by
    by_cases h0:f n=0
    ·rw [Xf h0] at e;omega
    ·rw [Xu h0,List.length_append] at e;simp at e;omega
   have hs:Uv (spV f (n+1)) (k:Int) z g t i=Uv (spV f n) (k:Int) z g t i:=by
    by_cases h0:f n=0
    ·rw [Xf h0]
    ·rw [Xu h0];exact Zdw ht
   rw [hs];rcases Zom f k z g i n t ht with g1 | ⟨g1,g2,g3⟩
   ·exact .inl g1
   ·exact .inr ⟨by omega,g2,g3⟩
theorem Zkb {es ds:List En} {g:Nat→Rat} {k:Int} {q:Rat}:∀{t:Nat},t≤es.length→Zes (es++ds) g k q t=Zes es g k q t
 | 0,_=>rfl
 | t+1,h=>by
  have ih:=Zkb (es:=es) (ds:=ds) (k:=k) (g:=g) (q:=q) (t:=t) (by omega)
  conv=>lhs;unfold Zes
  conv=>rhs;unfold Zes
  rw [List.getElem?_append_left (by omega),ih]
theorem Zhn (f g:Nat→Rat) (k:Nat) (q:Rat):∀n,Zes (spV f n) g (k:Int) q (spV f n).length=q - ZO (fun i=>if i=k then 0 else f i * g i) n
 | 0=>by rw [YK];show q=_;grind
 | n+1=>by
  have ih:=Zhn f g k q n
  rw [ZC]
  by_cases h0:f n=0
  ·rw [Xf h0,ih,h0]
   by_cases e:n=k
   ·rw [if_pos e];grind
   ·rw [if_neg e];grind
  ·rw [Xu h0,List.length_append]
   show Zes _ _ _ _ ((spV f n).length+1)=_
   conv=>lhs;unfold Zes
   rw [List.getElem?_append_right (JY _),Nat.sub_self]
   show (if ((n:Int)=(k:Int)) then _ else _ - (canF (f n)).q * g (Int.toNat (n:Int)))=_
   rw [Zkb (JY _),ih,Zu,JP]
   by_cases e:n=k
   ·rw [if_pos (by omega),if_pos e];grind
   ·rw [if_neg (by omega),if_neg e];grind
theorem Ycp {n j i:Nat} {L:Mx} {b:Nat→Rat} (h0:∀t p,t < n→p < n→p < t→L t p=0) (hj:j < n) (hi:i < n):(if i < n∧i≠j then Us L b j i - L j i * Us L b j j else Us L b j i)=Us L b (j+1) i:=by
 rw [Zdn];rcases Nat.lt_trichotomy i j with e | e | e
 ·rw [if_pos ⟨hi,by omega⟩,if_neg (by omega),h0 j i hj hi e];grind
 ·rw [if_neg (by omega),if_neg (by omega)]
 ·rw [if_pos ⟨hi,by omega⟩,if_pos e]
def Zho (g:Nat→Rat) (k:Nat) (u:Rat):Nat→Rat:=fun i=>if i=k then g k / u else g i
theorem Ycq {n j k i:Nat} {U:Mx} {z:Nat→Rat} (h0:∀k s,k < n→s < n→k < s→U k s=0) (hk:k+1+j=n) (hi:i < n):
 (if i < n∧i≠k then Zho (UE n U z j) k (U k k) i - U k i * Zho (UE n U z j) k (U k k) k else Zho (UE n U z j) k (U k k) i)=UE n U z (j+1) i:=by
 rw [Zag,show n - 1 - j=k by omega];unfold Zho;rcases Nat.lt_trichotomy i k with e | e | e
 ·rw [if_pos ⟨hi,by omega⟩,if_neg (show i≠k by omega),if_neg (show i≠k by omega),if_pos e,if_pos rfl]
 ·subst e;rw [if_neg (by omega),if_pos rfl,if_pos rfl]
 ·rw [if_pos ⟨hi,by omega⟩,if_neg (show i≠k by omega),if_neg (show i≠k by omega),if_neg (show ¬i < k by omega),if_pos rfl,h0 k i (by omega) hi e];grind
def Yz (n k:Nat) (w:Nat→Rat):List RF:=rfL n fun i=>if i < k then canF (w i) else zeroF
theorem Xw {n k:Nat} {w:Nat→Rat}:(Yz n k w).length=n:=Zr _ _
theorem Uw {n:Nat} {w:Nat→Rat}:Yz n 0 w=List.replicate n zeroF:=by
 unfold Yz;refine List.ext_getElem? fun i=>?_
 rcases JX i n with e | e
 ·rw [Yi e,if_neg (by omega)];simp [e]
 ·rw [JU (by rw [Zr];exact e),JU (by simp;exact e)]
theorem Ux {n k:Nat} {w:Nat→Rat} (hk:k < n):(Yz n k w).set k (canF (w k))=Yz n (k+1) w:=by
 unfold Yz;rw [Vk hk];exact Xv fun i _=>by
  by_cases e:i=k
  ·subst e;rw [if_pos rfl,if_pos (by omega)]
  ·rw [if_neg e];by_cases e2:i < k
   ·rw [if_pos e2,if_pos (by omega)]
   ·rw [if_neg e2,if_neg (by omega)]
theorem Zbf {n:Nat} {w:Nat→Rat}:Yz n n w=Yj n w:=by
 unfold Yz;rw [← Zmj];exact Xv fun i hi=>if_pos hi
theorem Zon {n k i:Nat} {w:Nat→Rat} (hi:i < n):qAt (Yz n k w) i=if i < k then w i else 0:=by
 unfold Yz;rw [Zhl hi];by_cases e:i < k
 ·rw [if_pos e,if_pos e,Zu]
 ·rw [if_neg e,if_neg e,zeroF_q]
end Pl
namespace Pl
theorem Uq.facS {n K:Nat} {A a:Mx} {R C:Nat→Nat} {m:Mx} (h:Uq n n A a R C m) (hn:n≤7) (hK:1≤K) (hE:5^n * K≤4000000) (ha:∀i j,i < n→j < n→Sz (5^n * K) (a i j)) (hm:∀s i,s < n→i < n→Sz (2 * (5^n * K)) (m s i)):
 Zml n (5^n * K) A R C (luL R m) (luU R C a) where
 fac:=h.fac
 n7:=hn
 e1:=Nat.mul_pos (Nat.pow_pos (by decide)) hK
 e2:=hE
 lB:=fun t p ht hp=>by
  have e1:1≤5^n * K:=Nat.mul_pos (Nat.pow_pos (by decide)) hK
  unfold luL
  split
  ·exact Sz_one.mono (by omega)
  ·split
   ·exact hm t _ ht (h.ri.1 p hp)
   ·exact Sz_zero.mono (by omega)
 uB:=fun k s hk hs=>by
  have e1:1≤5^n * K:=Nat.mul_pos (Nat.pow_pos (by decide)) hK
  unfold luU
  split
  ·exact (ha _ _ (h.ri.1 s hs) (h.ci.1 k hk)).mono (by omega)
  ·exact Sz_zero.mono (by omega)
theorem Yer {n t K:Nat} {a a' m':Mx} {r c:Nat} {P:Nat→Prop} {Q:Nat→Prop} [DecidablePred P] [DecidablePred Q] (hK:1≤K) (hr:r < n) (hc:c < n) (h:∀i j,i < n→j < n→Sz (5^t * K) (a i j)) (hmt:∀i,i < n→m' t i=if P i then a i c / a r c else 0)
 (ha:∀i j,i < n→j < n→a' i j=if P i∧Q j then a i j - m' t i * a r j else a i j):(∀i,i < n→Sz (2 * (5^t * K)) (m' t i))∧∀i j,i < n→j < n→Sz (5^(t+1) * K) (a' i j):=by
 have e1:1≤5^t * K:=Nat.mul_pos (Nat.pow_pos (by decide)) hK;have e2:5^(t+1) * K=5 * (5^t * K):=by rw [Nat.pow_succ];ac_rfl
 have hm:∀i,i < n→Sz (2 * (5^t * K)) (m' t i):=fun i hi=>by
  rw [hmt i hi];split
  ·exact (Zje (h i c hi hc) (h r c hr hc)).mono (by omega)
  ·exact Sz_zero.mono (by omega)
 refine ⟨hm,fun i j hi hj=>?_⟩;rw [ha i j hi hj,e2];split
 ·exact (Zcy (h i j hi hj) (XN (hm i hi) (h r j hr hj))).mono (by omega)
 ·exact (h i j hi hj).mono (by omega)
theorem Xr.trQ {n:Nat} {cols:Mx} (h:Xr n cols):Xr n (trM cols):=by
 intro y hy k hk;obtain ⟨x,hx⟩:=Xt h (fun r=>if r=k then 1 else 0);have h1:=(X7 hx x).2 fun _ _=>rfl
 have e1:y k=ZO (fun r=>y r * Xz n cols x r) n:=by
  rw [Zk (g:=fun r=>if r=k then y k else 0) fun r hr=>by
   rw [h1 r hr];by_cases e:r=k
   ·subst e;rw [if_pos rfl,if_pos rfl];grind
   ·rw [if_neg e,if_neg e];grind,WC hk]
 have e2:ZO (fun r=>y r * Xz n cols x r) n=ZO (fun r=>ZO (fun c=>x c * (cols c r * y r)) n) n:=Zk fun r hr=>by
  unfold Xz;rw [← Xe];exact Zk fun c _=>by grind
 rw [e1,e2,VG];exact WQ fun c hc=>by
  rw [Xe];have:=hy c hc;have e3:ZO (fun r=>cols c r * y r) n=0:=this;rw [e3];grind
structure Ups (n K T:Nat) (k:Nat→Nat) (im V:Mx) (Cs:Nat→Mx):Prop where
 kn:∀t,t < T→k t < n
 step:∀t,t < T→Cs (t+1)=Zjr (Cs t) (k t) (V t)
 img:∀t,t < T→∀r,r < n→Xz n (Cs t) (im t) r=V t r
 nz:∀t,t < T→im t (k t)≠0
 szV:∀t,t < T→∀r,r < n→Sz K (V t r)
 szC:∀r c,r < n→c < n→Sz K (Cs 0 c r)
 ind:Xr n (Cs 0)
theorem Ups.indep {n K T:Nat} {k:Nat→Nat} {im V:Mx} {Cs:Nat→Mx} (h:Ups n K T k im V Cs):∀t,t≤T→Xr n (Cs t)
 | 0,_=>h.ind
 | t+1,ht=>by rw [h.step t (by omega)];exact Zjs (h.kn t (by omega)) (h.indep t (by omega)) (h.img t (by omega)) (h.nz t (by omega))
theorem Ups.sz {n K T:Nat} {k:Nat→Nat} {im V:Mx} {Cs:Nat→Mx} (h:Ups n K T k im V Cs):∀t,t≤T→∀r c,r < n→c < n→Sz K (Cs t c r)
 | 0,_=>h.szC
 | t+1,ht=>fun r c hr hc=>by
  rw [h.step t (by omega)]
  unfold Zjr
  split
  ·exact h.szV t (by omega) r hr
  ·exact h.sz t (by omega) r c hr hc
theorem Ups.imB {n K T:Nat} {k:Nat→Nat} {im V:Mx} {Cs:Nat→Mx} (h:Ups n K T k im V Cs):∀t,t < T→∀i,i < n→Sz (5^n * K) (im t i):=fun t ht=>(h.indep t (by omega)).sz (h.sz t (by omega)) (h.szV t ht) (h.img t ht)
theorem Ups.zero {n K:Nat} {cols:Mx} (hs:∀r c,r < n→c < n→Sz K (cols c r)) (hi:Xr n cols) (k:Nat→Nat) (im V:Mx):Ups n K 0 k im V (fun _=>cols) where
 kn:=fun t ht=>absurd ht (by omega)
 step:=fun t ht=>absurd ht (by omega)
 img:=fun t ht=>absurd ht (by omega)
 nz:=fun t ht=>absurd ht (by omega)
 szV:=fun t ht=>absurd ht (by omega)
 szC:=hs
 ind:=hi
def WY {α:Type} (f:Nat→α) (T:Nat) (x:α):Nat→α:=fun t=>if t=T then x else f t
theorem Yv {α:Type} {f:Nat→α} {T t:Nat} {x:α} (h:t < T):WY f T x t=f t:=if_neg (by omega)
theorem Yd {α:Type} {f:Nat→α} {T:Nat} {x:α}:WY f T x T=x:=if_pos rfl
def Zqt (k:Nat) (im x:Nat→Rat):Nat→Rat:=fun i=>if i=k then x k / im k else x i - im i * (x k / im k)
theorem Zuk {k:Nat} {im x:Nat→Rat} (h:x k=0) (i:Nat):Zqt k im x i=x i:=by
 unfold Zqt;rw [h,show (0:Rat) / im k=0 by rw [Rat.div_def];grind];split
 ·rename_i e;rw [e,h]
 ·grind
def xN (k:Nat→Nat) (im:Mx) (x:Nat→Rat):Nat→Nat→Rat
 | 0=>x
 | t+1=>Zqt (k t) (im t) (xN k im x t)
theorem Ups.solves {n K T:Nat} {k:Nat→Nat} {im V:Mx} {Cs:Nat→Mx} (h:Ups n K T k im V Cs) {x b:Nat→Rat} (hx:∀r,r < n→Xz n (Cs 0) x r=b r):∀t,t≤T→∀r,r < n→Xz n (Cs t) (xN k im x t) r=b r
 | 0,_=>hx
 | t+1,ht=>by
  rw [h.step t (by omega)]
  refine Zog (h.kn t (by omega)) (h.img t (by omega)) (h.nz t (by omega)) (h.solves hx t (by omega)) ?_ fun i _ hne=>?_
  ·show Zqt _ _ _ _=_
   unfold Zqt;rw [if_pos rfl]
  ·show Zqt _ _ _ _=_ - _ * Zqt _ _ _ _
   unfold Zqt;rw [if_neg hne,if_pos rfl]
theorem Ups.xB {n K T:Nat} {k:Nat→Nat} {im V:Mx} {Cs:Nat→Mx} (h:Ups n K T k im V Cs) {x b:Nat→Rat} (hx:∀r,r < n→Xz n (Cs 0) x r=b r) (hb:∀r,r < n→Sz K (b r)):∀t,t≤T→∀i,i < n→Sz (5^n * K) (xN k im x t i):=fun t ht=>(h.indep t ht).sz (h.sz t ht) hb (h.solves hx t ht)
def Zmm (n k:Nat) (im c:Nat→Rat):Nat→Rat:=fun i=>if i=k then (c k - ZO (fun i=>if i=k then 0 else im i * c i) n) / im k else c i
def cN (n T:Nat) (k:Nat→Nat) (im:Mx) (d:Nat→Rat):Nat→Nat→Rat
 | 0=>d
 | j+1=>Zmm n (k (T - 1 - j)) (im (T - 1 - j)) (cN n T k im d j)
theorem Zul {n q:Nat} {cols:Mx} {im v y c:Nat→Rat} (hq:q < n) (h0:im q≠0) (hi:∀r,r < n→Xz n cols im r=v r) (h:∀j,j < n→Xz n (trM cols) y j=Zmm n q im c j):∀j,j < n→Xz n (trM (Zjr cols q v)) y j=c j:=by
 intro j hj;by_cases e:j=q
 ·subst e;have e1:Xz n (trM (Zjr cols j v)) y j=ZO (fun r=>y r * Xz n cols im r) n:=Zk fun r hr=>by
   show Zjr cols j v j r * y r=_;unfold Zjr;rw [if_pos rfl,hi r hr];grind
  have e2:ZO (fun r=>y r * Xz n cols im r) n=ZO (fun i=>im i * Xz n (trM cols) y i) n:=by
   rw [Zk (g:=fun r=>ZO (fun i=>im i * (cols i r * y r)) n) fun r _=>by
    unfold Xz;rw [← Xe];exact Zk fun i _=>by grind,VG]
   exact Zk fun i _=>Xe _ _ _
  have e3:ZO (fun i=>im i * Xz n (trM cols) y i) n=ZO (fun i=>(if i=j then 0 else im i * c i)+(if i=j then c j - ZO (fun i=>if i=j then 0 else im i * c i) n else 0)) n:=Zk fun i hi'=>by
   rw [h i hi'];unfold Zmm;by_cases e:i=j
   ·subst e;rw [if_pos rfl,if_pos rfl,if_pos rfl];have:=Rat.div_mul_cancel (a:=c i - ZO (fun x=>if x=i then 0 else im x * c x) n) h0;grind
   ·rw [if_neg e,if_neg e,if_neg e];grind
  rw [e1,e2,e3,WA,WC hj];grind
 ·have:=h j hj;unfold Zmm at this;rw [if_neg e] at this;rw [← this];exact Zk fun r _=>by
   show Zjr cols q v j r * y r=_;unfold Zjr;rw [if_neg e];rfl
theorem Ups.solvesT {n K T:Nat} {k:Nat→Nat} {im V:Mx} {Cs:Nat→Mx} (h:Ups n K T k im V Cs) {d y:Nat→Rat} (hy:∀c,c < n→Xz n (trM (Cs 0)) y c=cN n T k im d T c):∀t,t≤T→∀c,c < n→Xz n (trM (Cs t)) y c=cN n T k im d (T - t) c
 | 0,_=>hy
 | t+1,ht=>by
  have ih:=h.solvesT hy t (by omega)
  rw [h.step t (by omega)]
  refine Zul (h.kn t (by omega)) (h.nz t (by omega)) (h.img t (by omega)) fun j hj=>?_
  rw [ih j hj,show T - t=(T - (t+1))+1 by omega]
  show Zmm n (k (T - 1 - (T - (t+1)))) (im (T - 1 - (T - (t+1)))) _ j=_
  rw [show T - 1 - (T - (t+1))=t by omega]
theorem Ups.yB {n K T:Nat} {k:Nat→Nat} {im V:Mx} {Cs:Nat→Mx} (h:Ups n K T k im V Cs) {d y:Nat→Rat} (hd:∀r,r < n→Sz K (d r)) (hy:∀c,c < n→Xz n (trM (Cs 0)) y c=cN n T k im d T c):∀i,i < n→Sz (5^n * K) (y i):=
 (h.indep T (JY _)).trQ.sz (fun r c hr hc=>h.sz T (JY _) c r hc hr) hd fun r hr=>by
  rw [h.solvesT hy T (JY _) r hr,Nat.sub_self];rfl
theorem Ups.cB {n K T:Nat} {k:Nat→Nat} {im V:Mx} {Cs:Nat→Mx} (h:Ups n K T k im V Cs) (hn:n≤7) (hK:1≤K) {d y:Nat→Rat} (hd:∀r,r < n→Sz K (d r)) (hy:∀c,c < n→Xz n (trM (Cs 0)) y c=cN n T k im d T c):∀j,j≤T→∀i,i < n→Sz (22 * (5^n * K)) (cN n T k im d j i):=fun j hj i hi=>by
 have e1:K≤5^n * K:=Nat.le_mul_of_pos_left K (Nat.pow_pos (by decide))
 have:=h.solvesT hy (T - j) (by omega) i hi
 rw [show T - (T - j)=j by omega] at this
 rw [← this]
 exact (Zdv (K:=K) (J:=5^n * K) hn (fun r hr=>h.sz (T - j) (by omega) r i hr hi) (h.yB hd hy)).mono (by omega)
end Pl
end Go.Proofs.YtgbhebappffbdaaGreat
