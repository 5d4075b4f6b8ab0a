/- Lemmas of the claim; no condition. -/
import Derived.Test.YtidgdpkcloaheaaGreatQ25
import Derived.Test.YtidgdpkcloaheaaGreatOLbZJ
set_option linter.all false
set_option maxRecDepth 100000
set_option maxHeartbeats 40000000
namespace Go.Proofs.YtidgdpkcloaheaaGreat
open Go.RowKit
namespace Pl
end Pl
open Pl
attribute [local go_sem ↓] Go.wp_at_zero Go.wp_at_succ
namespace Pl
structure Prf where
 st:Int
 x:List RF
 y:List RF
 ray:List RF
def shX (p:LPd) (x:Prf):Prop:=x.x.length=if x.st=2 then 0 else p.cols.length
instance (p:LPd) (x:Prf):Decidable (shX p x):=by unfold shX;infer_instance
end Pl
namespace Pl
theorem Zeu.solveT {n:Nat} {A:Mx} {R C:Nat→Nat} {L U:Mx} (h:Zeu n A R C L U) {d v y:Nat→Rat} (hv:∀k,k < n→Z6 (fun s=>U k s * v s) n=d (C k)) (hy:∀s,s < n→Z6 (fun p=>L s p * y (R p)) n=v s):∀c,c < n→XV n A y c=d c:=by
 intro c hc;obtain ⟨k,hk,rfl⟩:=h.ci.onto hc;show Z6 (fun r=>A r (C k) * y r) n=d (C k);rw [← Zaq h.ri (fun r=>A r (C k) * y r),Ui (f:=fun p=>A (R p) (C k)) (g:=fun s=>U k s) (h:=fun s p=>L s p) (m:=n) (fun p hp=>by rw [h.eq p k hp hk];exact Zp fun s _=>by grind) (fun p=>y (R p)),← hv k hk];exact Zp fun s hs=>by rw [hy s hs]
end Pl
namespace Pl
def remQ (es:List En) (g:Nat→Rat) (k:Int) (q:Rat):Nat→Rat
 | 0=>q
 | t+1=>match es[t]? with
  | some e=>if e.idx=k then remQ es g k q t else remQ es g k q t - e.f.q * g e.idx.toNat
  | none=>remQ es g k q t
theorem remQ_eq {es:List En} {g:Nat→Rat} {k:Int} {q:Rat} {t:Nat} {e:En} (h:es[t]? =some e) (hk:e.idx=k):remQ es g k q (t+1)=remQ es g k q t:=by
 simp only [remQ,h,if_pos hk]
theorem remQ_ne {es:List En} {g:Nat→Rat} {k:Int} {q:Rat} {t:Nat} {e:En} (h:es[t]? =some e) (hk:e.idx≠k):remQ es g k q (t+1)=remQ es g k q t - e.f.q * g e.idx.toNat:=by
 simp only [remQ,h,if_neg hk]
end Pl
def RemAt [Old] (r:RF) (q:Rat) (n:Nat) (w:World) (wr:World):Prop:=
 ∃(f:RF) (A A':Option Addr) (l c l' c':Nat),f.q=q∧(f=r∨f=canF f.q)∧f.Rs n∧Bk wr w.heap.size 36 [.bool f.num.neg,.slice A l c,.bool f.den.neg,.slice A' l' c']∧Zm wr (.agg #[.bool f.num.neg,.slice A l c,.bool f.den.neg,.slice A' l' c']) f∧
  Bk wr (w.heap.size+1) 36 [.bool false,.slice none 0 0,.bool false,.slice none 0 0]∧Below w.heap.size w wr
theorem remainder_any [Old] (va vb vd:Value) (r:RF) (es:List En) (kk:Int) (ws:List RF) (K J:Nat) (w:World) (h1:Zm w va r) (h2:Wy w vb es) (h3:Zbn w vd ws) (hin:inR ws.length es) (hr:r.Rs J) (hJ:1≤J) (ha:∀(k:Nat) (e:En),es[k]? =some e→e.f.Rs K) (hb:RsL K ws) (hK:1≤K) (hs:J+es.length * (2 * K+1)≤34359738368) (hs2:2 * K≤34359738368) (hOl:Zb w:=by (repeat (first | assumption | exact Zb.up (by assumption) hOl | exact Zb.up (Hid.out (by assumption)) hOl | with_reducible refine Zb.set ?_ _ _ | with_reducible refine Zb.mk_ ?_ _ | with_reducible refine Zb.dr ?_ | with_reducible refine Zb.drN ?_ | refine Zb.up (by assumption) ?_ | refine Zb.up (Hid.out (by assumption)) ?_))):
 Calls Tryz.prog 90 #[va,vb,.int .i64 kk,vd] w fun o w'=>∃v' f,o= .returned v'∧Zm w' v' f∧f.q=remQ es (qAt ws) kk r.q es.length∧(f=r∨f=canF f.q)∧f.Rs (J+es.length * (2 * K+1))∧Below w.heap.size w w':=by
 have b2:=hOl.le;obtain ⟨R1,m1,d1,R2,m2,d2,rfl,_,_⟩:=id h1;obtain ⟨A,c,rfl,b5,b6⟩:=h2.shape;obtain ⟨A',c',rfl,b7,b8⟩:=h3.shape;generalize hn:es.length=l at *;generalize hm:ws.length=m at *;have HN:=JZ hn;have HM:=JZ hm;have HA:=JZ ha;have HB:=JZ hb;have HS:=JZ hs;have HI:=JZ hin;obtain ⟨TQ,U⟩:∃TQ:Nat→Rat,TQ=remQ es (qAt ws) kk r.q:=⟨_,rfl⟩;rw [← U];have ae:=JZ U;have af:r.q=TQ 0:=by rw [U];rfl
 obtain ⟨TZ,V⟩:∃TZ:Nat→Nat,TZ=fun k=>J+k * (2 * K+1):=⟨_,rfl⟩
 have HL:J+l * (2 * K+1)=TZ l:=by rw [V]
 rw [HL];have au:Hid (∀k,k≤l→1≤TZ k∧TZ k≤34359738368∧TZ (k+1)=TZ k+(2 * K)+1):=JZ fun k hk=>by
  rw [V];have:=JS (2 * K+1) hk;refine ⟨by dsimp only;omega,by dsimp only;omega,?_⟩;simp only [Nat.succ_mul];omega
 have ag:r.Rs (TZ 0):=by rw [V];simpa using hr
 obtain ⟨W,hW,_,hX,hR,x⟩:=Zjk w (.bool r.num.neg) (.slice R1 m1 d1) (.bool r.den.neg) (.slice R2 m2 d2) (.bool false) (.slice none 0 0) (.bool false) (.slice none 0 0);have ST:Hid (RemAt r (TQ 0) (TZ 0) w W):=JZ ⟨r,R1,R2,m1,d1,m2,d2,af,.inl rfl,ag,hX,h1.below x,hR,x⟩;clear hn hm ha hb hs U hin hr af HL V ag hX hR x h1;go_enter Tryz.func90,Tryz.ntmps90;go_wp2;clear hW
 go_loopw [13] (fun i wr=>∃k:Nat,k≤l∧i= .int .i64 k∧RemAt r (TQ k) (TZ k) w wr) (fun i _=>l - (intOf i).toNat)
 case atStart=>exact ⟨0,by omega,rfl,ST.out⟩
 case round=>
  obtain ⟨k,hk,rfl,DK,C,C',p,q,p',q',X,ao,F,hX,hF,hR,x⟩:=hrel;have a1:=JZ ao;clear ao;rcases JX k l with hkl | hkl
  ·obtain ⟨e,he⟩:=YS (es:=es) (i:=k) (by rw [HN.out];exact hkl);obtain ⟨b,b9,A1,n1,k1,A2,n2,k2,rfl,ba,ay,ap⟩:=h2.elem x he;obtain ⟨i0,i1⟩:=HI.out k e he;obtain ⟨j,hj⟩:=JT i0;obtain ⟨f',Y⟩:=Zcs (fs:=ws) (i:=j) (by rw [HM.out];omega);have av:Hid ((j:Int)=kk→TQ (k+1)=TQ k):=JZ fun g=>by rw [ae.out];exact remQ_eq he (by rw [hj];exact g)
   have aw:Hid ((j:Int)≠kk→TQ (k+1)=TQ k - e.f.q * f'.q):=JZ fun g=>by rw [ae.out,remQ_ne he (by rw [hj];exact g),hj,JP,UW Y]
   have I:=HA.out k e he;obtain ⟨ei,f⟩:=e;simp only at *;subst hj;obtain ⟨x0,x1,x2,x3,x4⟩:=ay;obtain ⟨W1,Z,hV,O⟩:=Zid wr (.int .i64 (j:Int)) (.bool f.num.neg) (.slice A1 n1 k1) (.bool f.den.neg) (.slice A2 n2 k2);have d:=Za x O x.size;obtain ⟨b',b0,A3,n3,k3,A4,n4,k4,rfl,b1,G,y⟩:=h3.elem d Y;obtain ⟨u0,u1,u2,u3⟩:=id G;obtain ⟨v0,v1,v2,v3,v4⟩:=hV.five;have ah:=ap.below O;have P:=hX.later O;have R:=hR.later O;have S:=hF.below O;have b3:(k:Int) < l:=(by omega);have b4:(j:Int) < m:=(by omega);have z:=HB.out j f' Y;have ai:=I.sm (by omega);have a0:=z.sm (by omega);obtain ⟨aq,ar,az⟩:=au.out k hk;have aj:TZ (k+1)=TZ k+(K+K)+1:=(by omega);have a2:=V5 (I.sz hK) (z.sz hK);have ak:(canF (f.q * f'.q)).Sm:=(a2.sh (by omega)).sm;have al:DK.Sm:=F.sm ar;have am:Hid (DK.Rs (TZ (k+1))):=JZ (F.mono (by omega));have a3:Sz (TZ (k+1)) (DK.q - f.q * f'.q):=(by rw [aj];exact Zeo (F.sz aq) a2);have T:=JZ X;clear he Y hX hR hF x ap X F a2 aq ar az aj I z;by_cases H:(j:Int)=kk
   ·have a4:Hid (DK.q=TQ (k+1)):=JZ (by rw [av.out H,T.out]);have an:((j:Int) !=kk)=false:=(by simpa using H);clear H a3 G;go_wp2;clear Z;go_roundw
    case rel=>exact ⟨k+1,by omega,by go_num,DK,C,C',p,q,p',q',a4.out,a1.out,am.out,P,S,R,d⟩
    case measure=>simp [intOf];omega
   ·have a5:=JZ (aw.out H);have an:((j:Int) !=kk)=true:=(by simpa using H);have ax:qs f'.q=0∨qs f'.q=1∨qs f'.q= -1:=(by have:=Zjl f'.q;omega);have HV:Hid (DK.q - (canF (f.q * f'.q)).q=TQ (k+1)):=JZ (by rw [ZG,a5.out,T.out]);have HZ:Hid ((canF (TQ (k+1))).Rs (TZ (k+1))):=JZ (by rw [a5.out,← T.out];exact a3.rs);clear H a3;rcases ax with hq' | hq' | hq'
    ·have a4:Hid (DK.q=TQ (k+1)):=JZ (by rw [a5.out,T.out,Yz.1 hq'];grind);go_wp2_with fail;clear Z;refine (Yd _ f' _ y).mono ?_;rw [hq'];rintro e w5 ⟨rfl,a⟩;have B:=P.later a;have L:=R.later a;have M:=S.below a;have h:=Za d a d.size;go_wp2;go_roundw
     case rel=>exact ⟨k+1,by omega,by go_num,DK,C,C',p,q,p',q',a4.out,a1.out,am.out,B,M,L,h⟩
     case measure=>simp [intOf];omega
    ·have hq:qs f'.q=1:=hq';go_wp2_with fail;clear Z;refine (Yd _ f' _ y).mono ?_;rw [hq];rintro e w5 ⟨rfl,a⟩;have B:=P.later a;have L:=R.later a;have M:=S.below a;have a6:=hV.later a;have h:=Za d a d.size;have a7:=ah.below a;have N:=y.below a;obtain ⟨y0,y1,y2,y3⟩:=Zgm a G;clear u0 u1 u2 u3 hq G x0 x1 x2 x3 x4 v0 v1 v2 v3 v4;obtain ⟨v0,v1,v2,v3,v4⟩:=a6.five;obtain ⟨z0,z1,z2,z3⟩:=B.four
     go_upto_region 5 with (fail)
     have C0:=Zr y0;have C1:=Zr y1;have C2:=Zr y2;have C3:=Zr y3;have D0:=Zr v0;have D1:=Zr v1;have D2:=Zr v2;have D3:=Zr v3;have D4:=Zr v4;have E0:=Zr z0;have E1:=Zr z1;have E2:=Zr z2;have E3:=Zr z3;have n:=Zj w5;clear y0 y1 y2 y3 v0 v1 v2 v3 v4 z0 z1 z2 z3;refine Zt 10 [0,1,2,3,4,5,6,7,8,9,10] (by kernel_rfl) (by kernel_rfl) ?_;repeat ((first | (refine Zc (v:=?_) rfl rfl rfl ?_ ?_;rotate_left;(· (intro _ D;go_simp;(try go_bits);(try with_reducible rfl)))) | (refine Ze (v:=?_) rfl rfl rfl ?_ ?_;rotate_left;(· (intro _ D;go_simp;(try go_bits);(try with_reducible rfl)))) | refine Zf rfl rfl rfl ?_);(try simp only [Act.put,pu1,pu2,pu3,pu4,pu5,pu6]))
     refine Zg rfl rfl (fun KR hKR=>?_);go_simp;(with_reducible refine (Zcq _ _ f f' _ (a7.below n) (N.below n) ai a0).mono ?_);rintro _ w6 ⟨v6,rfl,e6,ac⟩;have s:=Za n ac n.size;refine hKR.out _ _ (Or.inr s) ?_;clear hKR KR;(try simp only [Act.put,pu1,pu2,pu3,pu4,pu5,pu6]);repeat ((first | (refine Zc (v:=?_) rfl rfl rfl ?_ ?_;rotate_left;(· (intro _ D;go_simp;(try go_bits);(try with_reducible rfl)))) | (refine Ze (v:=?_) rfl rfl rfl ?_ ?_;rotate_left;(· (intro _ D;go_simp;(try go_bits);(try with_reducible rfl)))) | refine Zf rfl rfl rfl ?_);(try simp only [Act.put,pu1,pu2,pu3,pu4,pu5,pu6]))
     refine Zg rfl rfl (fun KR hKR=>?_);go_simp;(with_reducible refine (Zcv _ _ DK (canF (f.q * f'.q)) _ (M.below s) e6 al ak).mono ?_);rw [HV.out];rintro _ w7 ⟨v7,rfl,e7,ad⟩;have t:=Za s ad s.size;obtain ⟨E,l9,k9,E',aa,ab,rfl,_,_⟩:=id e7;have u:=B.later t;have a8:=L.later t;obtain ⟨c0,c1,c2,c3⟩:=u.four;obtain ⟨f0,f1,f2,f3⟩:=u.fourF;refine hKR.out _ _ (Or.inr t) ?_;clear hKR KR;(try simp only [Act.put,pu1,pu2,pu3,pu4,pu5,pu6]);refine Zg rfl rfl (fun KR hKR=>?_);go_simp;refine hKR.out _ _ (Or.inl (by decide)) ?_;clear hKR KR;(try simp only [Act.put,pu1,pu2,pu3,pu4,pu5,pu6]);refine Zv ?_;clear C0 C1 C2 C3 D0 D1 D2 D3 D4 E0 E1 E2 E3;have bb:=Za h t h.size;have a9:=a8.far4 (show w.heap.size+1≠w.heap.size by omega);go_wp2;go_roundw
     case rel=>exact ⟨k+1,by omega,by go_num,_,E,E',l9,k9,aa,ab,ZG _,.inr (by rw [ZG]),HZ.out,u.set4 _ _ _ _,e7.keep (u.keep4 (by decide) _ _ _ _),a9 _ _ _ _,Z5 bb (JY _) _ _ _ _⟩
     case measure=>simp [intOf];omega
    ·have hq:qs f'.q= -1:=hq';go_wp2_with fail;clear Z;refine (Yd _ f' _ y).mono ?_;rw [hq];rintro e w5 ⟨rfl,a⟩;have B:=P.later a;have L:=R.later a;have M:=S.below a;have a6:=hV.later a;have h:=Za d a d.size;have a7:=ah.below a;have N:=y.below a;obtain ⟨y0,y1,y2,y3⟩:=Zgm a G;clear u0 u1 u2 u3 hq G x0 x1 x2 x3 x4 v0 v1 v2 v3 v4;obtain ⟨v0,v1,v2,v3,v4⟩:=a6.five;obtain ⟨z0,z1,z2,z3⟩:=B.four
     go_upto_region 5 with (fail)
     have C0:=Zr y0;have C1:=Zr y1;have C2:=Zr y2;have C3:=Zr y3;have D0:=Zr v0;have D1:=Zr v1;have D2:=Zr v2;have D3:=Zr v3;have D4:=Zr v4;have E0:=Zr z0;have E1:=Zr z1;have E2:=Zr z2;have E3:=Zr z3;have n:=Zj w5;clear y0 y1 y2 y3 v0 v1 v2 v3 v4 z0 z1 z2 z3;refine Zt 10 [0,1,2,3,4,5,6,7,8,9,10] (by kernel_rfl) (by kernel_rfl) ?_;repeat ((first | (refine Zc (v:=?_) rfl rfl rfl ?_ ?_;rotate_left;(· (intro _ D;go_simp;(try go_bits);(try with_reducible rfl)))) | (refine Ze (v:=?_) rfl rfl rfl ?_ ?_;rotate_left;(· (intro _ D;go_simp;(try go_bits);(try with_reducible rfl)))) | refine Zf rfl rfl rfl ?_);(try simp only [Act.put,pu1,pu2,pu3,pu4,pu5,pu6]))
     refine Zg rfl rfl (fun KR hKR=>?_);go_simp;(with_reducible refine (Zcq _ _ f f' _ (a7.below n) (N.below n) ai a0).mono ?_);rintro _ w6 ⟨v6,rfl,e6,ac⟩;have s:=Za n ac n.size;refine hKR.out _ _ (Or.inr s) ?_;clear hKR KR;(try simp only [Act.put,pu1,pu2,pu3,pu4,pu5,pu6]);repeat ((first | (refine Zc (v:=?_) rfl rfl rfl ?_ ?_;rotate_left;(· (intro _ D;go_simp;(try go_bits);(try with_reducible rfl)))) | (refine Ze (v:=?_) rfl rfl rfl ?_ ?_;rotate_left;(· (intro _ D;go_simp;(try go_bits);(try with_reducible rfl)))) | refine Zf rfl rfl rfl ?_);(try simp only [Act.put,pu1,pu2,pu3,pu4,pu5,pu6]))
     refine Zg rfl rfl (fun KR hKR=>?_);go_simp;(with_reducible refine (Zcv _ _ DK (canF (f.q * f'.q)) _ (M.below s) e6 al ak).mono ?_);rw [HV.out];rintro _ w7 ⟨v7,rfl,e7,ad⟩;have t:=Za s ad s.size;obtain ⟨E,l9,k9,E',aa,ab,rfl,_,_⟩:=id e7;have u:=B.later t;have a8:=L.later t;obtain ⟨c0,c1,c2,c3⟩:=u.four;obtain ⟨f0,f1,f2,f3⟩:=u.fourF;refine hKR.out _ _ (Or.inr t) ?_;clear hKR KR;(try simp only [Act.put,pu1,pu2,pu3,pu4,pu5,pu6]);refine Zg rfl rfl (fun KR hKR=>?_);go_simp;refine hKR.out _ _ (Or.inl (by decide)) ?_;clear hKR KR;(try simp only [Act.put,pu1,pu2,pu3,pu4,pu5,pu6]);refine Zv ?_;clear C0 C1 C2 C3 D0 D1 D2 D3 D4 E0 E1 E2 E3;have bb:=Za h t h.size;have a9:=a8.far4 (show w.heap.size+1≠w.heap.size by omega);go_wp2;go_roundw
     case rel=>exact ⟨k+1,by omega,by go_num,_,E,E',l9,k9,aa,ab,ZG _,.inr (by rw [ZG]),HZ.out,u.set4 _ _ _ _,e7.keep (u.keep4 (by decide) _ _ _ _),a9 _ _ _ _,Z5 bb (JY _) _ _ _ _⟩
     case measure=>simp [intOf];omega
  ·obtain rfl:k=l:=by omega
   obtain ⟨x1,x2,x3,x4⟩:=hX.four;obtain ⟨c0,c1,c2,c3⟩:=hR.four;obtain ⟨f0,f1,f2,f3⟩:=hR.fourF;have HQ:=JZ X;have HR:=JZ F;clear X F;go_wp2;refine Zn Tryz.results90 Tryz.underlying36 (by kernel_rfl) rfl (hR.set4 _ _ _ _) rfl ?_;exact ⟨_,DK,rfl,hF.keep (hR.keep4 (by decide) _ _ _ _),HQ.out,a1.out,HR.out,Z5 x (Nat.le_succ _) _ _ _ _⟩
namespace Pl
def utN (U:Mx) (d:Nat→Rat):Nat→Nat→Rat
 | 0=>fun _=>0
 | k+1=>fun i=>if i=k then (d k - Z6 (fun s=>U k s * utN U d k s) k) / U k k else utN U d k i
theorem utN_succ (U:Mx) (d:Nat→Rat) (k i:Nat):utN U d (k+1) i=if i=k then (d k - Z6 (fun s=>U k s * utN U d k s) k) / U k k else utN U d k i:=rfl
theorem utN_at {U:Mx} {d:Nat→Rat} {i:Nat}:∀{j:Nat},i < j→utN U d j i=utN U d (i+1) i
 | 0,h=>by omega
 | j+1,h=>by
  by_cases e:i=j
  ·rw [e]
  ·rw [utN_succ,if_neg e];exact utN_at (by omega)
theorem utN_solves {n:Nat} {U:Mx} {d:Nat→Rat} (h0:∀k s,k < n→s < n→k < s→U k s=0) (h1:∀k,k < n→U k k≠0):∀k,k < n→Z6 (fun s=>U k s * utN U d n s) n=d k:=by
 intro k hk;rw [Wp (n:=k+1) (by omega) fun i h1' h2=>by rw [h0 k i hk h2 (by omega)];grind,ZF,utN_at hk,utN_succ,if_pos rfl];rw [Zp (g:=fun s=>U k s * utN U d k s) fun s hs=>by rw [utN_at (show s < n by omega),← utN_at hs]];have e:=Rat.div_mul_cancel (a:=d k - Z6 (fun s=>U k s * utN U d k s) k) (h1 k hk);grind
def ltN (n:Nat) (L:Mx) (w:Nat→Rat):Nat→Nat→Rat
 | 0=>w
 | j+1=>fun i=>if i=n - 1 - j then ltN n L w j i - Z6 (fun p=>if p=i then 0 else L i p * ltN n L w j p) n else ltN n L w j i
theorem ltN_succ (n:Nat) (L:Mx) (w:Nat→Rat) (j i:Nat):ltN n L w (j+1) i=if i=n - 1 - j then ltN n L w j i - Z6 (fun p=>if p=i then 0 else L i p * ltN n L w j p) n else ltN n L w j i:=rfl
theorem ltN_start {n:Nat} {L:Mx} {w:Nat→Rat} {i:Nat}:∀{j:Nat},j+i < n→ltN n L w j i=w i
 | 0,_=>rfl
 | j+1,h=>by rw [ltN_succ,if_neg (by omega)];exact ltN_start (by omega)
theorem ltN_at {n:Nat} {L:Mx} {w:Nat→Rat} {i:Nat} (hi:i < n):∀{j:Nat},n - i≤j→j≤n→ltN n L w j i=ltN n L w (n - i) i
 | 0,h,_=>by omega
 | j+1,h,hj=>by
  by_cases e:n - i=j+1
  ·rw [e]
  ·rw [ltN_succ,if_neg (by omega)];exact ltN_at hi (by omega) (by omega)
theorem ltN_solves {n:Nat} {L:Mx} {w:Nat→Rat} (h0:∀t p,t < n→p < n→p < t→L t p=0) (h1:∀t,t < n→L t t=1):∀s,s < n→Z6 (fun p=>L s p * ltN n L w n p) n=w s:=by
 intro s hs;have e1:Z6 (fun p=>L s p * ltN n L w n p) n=Z6 (fun p=>(if p=s then 0 else L s p * ltN n L w (n - 1 - s) p)+(if p=s then ltN n L w n s else 0)) n:=Zp fun p hp=>by
  by_cases e:p=s
  ·rw [if_pos e,if_pos e,e,h1 s hs];grind
  ·rw [if_neg e,if_neg e];rcases JX p s with g | g
   ·rw [h0 s p hs hp g];grind
   ·rw [ltN_at hp (show n - p≤n by omega) (JY _),← ltN_at hp (show n - p≤n - 1 - s by omega) (by omega)];grind
 rw [e1,WY,WZ hs,ltN_at hs (show n - s≤n by omega) (JY _),show n - s=(n - 1 - s)+1 by omega,ltN_succ,if_pos (by omega),ltN_start (by omega)];grind
end Pl
namespace Pl
def solT (n:Nat) (R C:Nat→Nat) (L U:Mx) (d:Nat→Rat):Nat→Rat:=xOf R n (ltN n L (utN U (fun k=>d (C k)) n) n)
theorem Zeu.solT {n:Nat} {A:Mx} {R C:Nat→Nat} {L U:Mx} (h:Zeu n A R C L U) (d:Nat→Rat):∀c,c < n→XV n A (solT n R C L U d) c=d c:=by
 refine h.solveT (v:=utN U (fun k=>d (C k)) n) (utN_solves h.u0 h.u1) fun s hs=>?_
 rw [← ltN_solves (w:=utN U (fun k=>d (C k)) n) h.l0 h.l1 s hs];exact Zp fun k hk=>by unfold Pl.solT;rw [Zno h.ri hk]
theorem Znq.wB {n E:Nat} {A:Mx} {R C:Nat→Nat} {L U:Mx} (h:Znq n E A R C L U) {d:Nat→Rat} (hY:∀i,i < n→Sz E (Pl.solT n R C L U d i)):∀s,s < n→Sz (29 * E) (utN U (fun k=>d (C k)) n s):=by
 intro s hs;have e1:=h.e1;rw [← ltN_solves (w:=utN U (fun k=>d (C k)) n) h.fac.l0 h.fac.l1 s hs];refine (Zdd (K:=2 * E) (J:=E) h.n7 (fun p hp=>h.lB s p hs hp) fun p hp=>?_).mono (by omega);have:=hY (R p) (h.fac.ri.1 p hp);unfold Pl.solT at this
 rwa [Zno h.fac.ri hp] at this
theorem Znq.tB {n E:Nat} {A:Mx} {R C:Nat→Nat} {L U:Mx} (h:Znq n E A R C L U) {d:Nat→Rat} (hY:∀i,i < n→Sz E (Pl.solT n R C L U d i)):
 ∀j i,j≤n→i < n→Sz (29 * E) (ltN n L (utN U (fun k=>d (C k)) n) j i):=by
 have e1:=h.e1;intro j i hj hi;rcases JX (j+i) n with g | g
 ·rw [ltN_start g];exact h.wB hY i hi
 ·rw [ltN_at hi (by omega) hj,← ltN_at hi (show n - i≤n by omega) (JY n)];have:=hY (R i) (h.fac.ri.1 i hi);unfold Pl.solT at this;rw [Zno h.fac.ri hi] at this;exact this.mono (by omega)
theorem remQ_left {es ds:List En} {g:Nat→Rat} {k:Int} {q:Rat}:∀{t:Nat},t≤es.length→remQ (es++ds) g k q t=remQ es g k q t
 | 0,_=>rfl
 | t+1,h=>by
  have ih:=remQ_left (es:=es) (ds:=ds) (k:=k) (g:=g) (q:=q) (t:=t) (by omega)
  conv=>lhs;unfold remQ
  conv=>rhs;unfold remQ
  rw [List.getElem?_append_left (by omega),ih]
theorem remQ_spV (f g:Nat→Rat) (k:Nat) (q:Rat):∀n,remQ (spV f n) g (k:Int) q (spV f n).length=q - Z6 (fun i=>if i=k then 0 else f i * g i) n
 | 0=>by rw [Y4];show q=_;grind
 | n+1=>by
  have ih:=remQ_spV f g k q n
  rw [ZF]
  by_cases h0:f n=0
  ·rw [Y8 h0,ih,h0]
   by_cases e:n=k
   ·rw [if_pos e];grind
   ·rw [if_neg e];grind
  ·rw [Xo h0,List.length_append]
   show remQ _ _ _ _ ((spV f n).length+1)=_
   conv=>lhs;unfold remQ
   rw [List.getElem?_append_right (JY _),Nat.sub_self]
   show (if ((n:Int)=(k:Int)) then _ else _ - (canF (f n)).q * g (Int.toNat (n:Int)))=_
   rw [remQ_left (JY _),ih,ZG,JP]
   by_cases e:n=k
   ·rw [if_pos (by omega),if_pos e];grind
   ·rw [if_neg (by omega),if_neg e];grind
theorem firstL_q {n k i:Nat} {w:Nat→Rat} (hi:i < n):qAt (XQ n k w) i=if i < k then w i else 0:=by
 unfold XQ;rw [Zng hi];by_cases e:i < k
 ·rw [if_pos e,if_pos e,ZG]
 ·rw [if_neg e,if_neg e,zeroF_q]
end Pl
theorem Zwy.below [Old] {w w':World} {g off n:Nat} {R C:Nat→Nat} {L U:Mx} (h:Zwy w g off n R C L U) (hb:Below w.heap.size w w'):Zwy w' g off n R C L U:=by
 obtain ⟨A0,c0,A1,c1,A2,c2,A3,c3,⟨k0,k1,k2,k3⟩,i0,i1,i2,i3⟩:=h;exact ⟨A0,c0,A1,c1,A2,c2,A3,c3,⟨ZH hb k0,ZH hb k1,ZH hb k2,ZH hb k3⟩,i0.below hb,i1.below hb,i2.below hb,i3.below hb⟩
namespace Pl
theorem ut_step {n k:Nat} {U:Mx} {d:Nat→Rat} (hk:k < n):utN U d n k=(d k - Z6 (fun s=>U k s * utN U d n s) k) / U k k:=by
 rw [utN_at hk,utN_succ,if_pos rfl,Zp (f:=fun s=>U k s * utN U d k s) (g:=fun s=>U k s * utN U d n s) fun s hs=>by rw [utN_at (show s < k by omega),utN_at (show s < n by omega)]]
theorem ut_remQ {n k:Nat} {U:Mx} {w:Nat→Rat} {q:Rat} (hk:k < n):remQ (spV (U k) n) (qAt (XQ n k w)) (k:Int) q (spV (U k) n).length=q - Z6 (fun s=>U k s * w s) k:=by
 rw [remQ_spV,Wp (n:=k) (m:=n) (by omega) fun i h1 h2=>by
  by_cases e:i=k
  ·rw [if_pos e]
  ·rw [if_neg e,firstL_q h2,if_neg (by omega)];grind]
 congr 1
 exact Zp fun s hs=>by rw [if_neg (by omega),firstL_q (by omega),if_pos hs]
theorem lt_remQ {n k j:Nat} {L:Mx} {w:Nat→Rat} (hk:k+1+j=n):remQ (spV (L k) n) (qAt (YT n (ltN n L w j))) (k:Int) (ltN n L w j k) (spV (L k) n).length=ltN n L w (j+1) k:=by
 rw [remQ_spV,ltN_succ,if_pos (show k=n - 1 - j by omega)]
 congr 1
 exact Zp fun s hs=>by
  by_cases e:s=k
  ·rw [if_pos e,if_pos e]
  ·rw [if_neg e,if_neg e,Zpu hs]
theorem lt_set {n k j:Nat} {L:Mx} {w:Nat→Rat} (hk:k+1+j=n):(YT n (ltN n L w j)).set k (canF (ltN n L w (j+1) k))=YT n (ltN n L w (j+1)):=by
 rw [V9 (by omega)];exact Yf fun i hi=>by
  by_cases e:i=k
  ·rw [if_pos e,e]
  ·rw [if_neg e,ltN_succ,if_neg (by omega)]
theorem firstL_rs {n k K:Nat} {w:Nat→Rat} (h:∀i,i < n→Sz K (w i)):RsL K (XQ n k w):=fun i f hf=>by
 have hi:i < n:=by have:=(List.getElem?_eq_some_iff.1 hf).1;rw [Un] at this;exact this
 have hp:=Zbu (h i hi)
 unfold XQ at hf
 rw [Yt hi] at hf
 injection hf with hf
 subst hf
 split
 ·exact (h i hi).rs
 ·exact (Ua 1).mono hp
end Pl
def RestAt [Old] (V:World) (q:Rat) (s8:Value) (wx:World):Prop:=
 ∃(g:Nat) (f:RF) (A:Option Addr) (n c:Nat) (A':Option Addr) (n' c':Nat),s8= .pointer (some ⟨g,0,none⟩)∧V.heap.size≤g∧Bk wx g 36 [.bool f.num.neg,.slice A n c,.bool f.den.neg,.slice A' n' c']∧Zm wx (.agg #[.bool f.num.neg,.slice A n c,.bool f.den.neg,.slice A' n' c']) f∧f.q=q∧f.Sm∧Below V.heap.size V wx
theorem RestAt.mk [Old] {V w:World} {g:Nat} {f:RF} {q:Rat} {x y z u:Value} {A A':Option Addr} {n c n' c':Nat} (hB:Bk w g 36 [x,y,z,u]) (hm:Zm w (.agg #[.bool f.num.neg,.slice A n c,.bool f.den.neg,.slice A' n' c']) f) (hq:f.q=q) (hs:f.Sm) (hb:Below V.heap.size V w) (hg:V.heap.size≤g) (hO:Old.n≤V.heap.size:=by first | assumption | exact Nat.zero_le _ | omega | ((first | with_reducible refine Zb.le ?_ | with_reducible refine Zb.le1 ?_ | with_reducible refine Zb.le2 ?_ | with_reducible refine Zb.le3 ?_);repeat (first | assumption | exact Zb.up (by assumption) hOl | exact Zb.up (Hid.out (by assumption)) hOl | with_reducible refine Zb.set ?_ _ _ | with_reducible refine Zb.mk_ ?_ _ | with_reducible refine Zb.dr ?_ | with_reducible refine Zb.drN ?_ | refine Zb.up (by assumption) ?_ | refine Zb.up (Hid.out (by assumption)) ?_))):
 RestAt V q (.pointer (some ⟨g,0,none⟩)) ((((w.setCell ⟨g,0,none⟩ (.bool f.num.neg)).setCell ⟨g,1,none⟩ (.slice A n c)).setCell ⟨g,2,none⟩ (.bool f.den.neg)).setCell ⟨g,3,none⟩ (.slice A' n' c')):=
 ⟨g,f,A,n,c,A',n',c',rfl,hg,hB.set4 _ _ _ _,hm.keep (hB.keep4 (by decide) _ _ _ _),hq,hs,Z5 hb hg _ _ _ _⟩
theorem facSolveT_own [Old] (gp off:Nat) (vc:Value) (n E:Nat) (A:Mx) (R C:Nat→Nat) (L U:Mx) (d:Nat→Rat) (w:World) (hF:Zwy w gp off n R C L U) (h2:Zbn w vc (YT n d)) (S:Znq n E A R C L U) (hb:∀i,i < n→Sz (30 * E) (d i)) (hX:∀i,i < n→Sz E (solT n R C L U d i)) (hOl:Zb w:=by (repeat (first | assumption | exact Zb.up (by assumption) hOl | exact Zb.up (Hid.out (by assumption)) hOl | with_reducible refine Zb.set ?_ _ _ | with_reducible refine Zb.mk_ ?_ _ | with_reducible refine Zb.dr ?_ | with_reducible refine Zb.drN ?_ | refine Zb.up (by assumption) ?_ | refine Zb.up (Hid.out (by assumption)) ?_))):
 Calls Tryz.prog 60 #[.pointer (some ⟨gp,off,none⟩),vc] w fun o w'=>∃v',o= .returned v'∧YL w.heap.size w' v' (YT n (solT n R C L U d))∧Below w.heap.size w w':=by
 have d2:=hOl.le;obtain ⟨A0,c0,A1,c1,A2,c2,A3,c3,⟨k0,k1,k2,k3⟩,i0,i1,i2,i3⟩:=hF;obtain ⟨Ac,cc,rfl,bb,ct⟩:=h2.shape;rw [Zu] at h2 bb ⊢;obtain ⟨cu,cv⟩:=i0.cap;obtain ⟨cw,cx⟩:=i1.cap;obtain ⟨cy,cz⟩:=i2.cap;obtain ⟨d0,d1⟩:=i3.cap;have K0:=JZ k0;have K1:=JZ k1;have K2:=JZ k2;have K3:=JZ k3;have I0:=JZ i0;have I1:=JZ i1;have I2:=JZ i2;have I3:=JZ i3;have H2:=JZ h2;have HS:=JZ S;have bj:=S.n7;have d3:=S.e1;have d4:=S.e2;obtain ⟨WW,Y⟩:∃WW,WW=utN U (fun k=>d (C k)) n:=⟨_,rfl⟩;obtain ⟨LT,z⟩:∃LT,LT=ltN n L WW:=⟨_,rfl⟩;have bk:Hid (LT 0=WW):=JZ (by rw [z];rfl);have bl:Hid (∀k,k < n→WW k=(d (C k) - Z6 (fun s=>U k s * WW s) k) / U k k):=JZ fun k hk=>by rw [Y];exact ut_step hk
 have bm:Hid (∀i,i < n→Sz (29 * E) (WW i)):=JZ fun i hi=>by rw [Y];exact S.wB hX i hi
 have aw:Hid (∀j i,j≤n→i < n→Sz (29 * E) (LT j i)):=JZ fun j i hj hi=>by rw [z,Y];exact S.tB hX j i hj hi
 have bn:Hid (∀j k,k+1+j=n→(YT n (LT j)).set k (canF (LT (j+1) k))=YT n (LT (j+1))):=JZ fun j k hk=>by rw [z];exact lt_set hk
 have bo:Hid (∀j k,k+1+j=n→remQ (spV (L k) n) (qAt (YT n (LT j))) (k:Int) (LT j k) (spV (L k) n).length=LT (j+1) k):=JZ fun j k hk=>by rw [z];exact lt_remQ hk
 have bp:Hid (∀j k,k+1+j=n→LT (j+1) k=LT n k):=JZ fun j k hk=>by rw [z];exact (ltN_at (show k < n by omega) (by omega) (by omega)).trans (ltN_at (show k < n by omega) (by omega) (JY n)).symm
 have ax:Hid (YT n (solT n R C L U d)=UH n n R (LT n)):=JZ (by rw [Znp S.fac.ri,z,Y];rfl);rw [ax.out];have bq:=JZ hb;have ay:Hid (∀t,t < n→∀(k:Nat) (e:En),(spV (L t) n)[k]? =some e→e.f.Rs (29 * E)):=JZ fun t ht=>Zsc fun i hi=>(S.lB t i ht hi).mono (by omega)
 have br:Hid (∀t,t < n→∀(k:Nat) (e:En),(spV (U t) n)[k]? =some e→e.f.Rs (29 * E)):=JZ fun t ht=>Zsc fun i hi=>(S.uB t i ht hi).mono (by omega)
 have bs:Hid (∀k,k < n→Sz (2 * E) (U k k)∧U k k≠0∧(spV (U k) n)[(spV (U k) n).length - 1]? =some ⟨(k:Int),canF (U k k)⟩):=JZ fun k hk=>⟨S.uB k k hk hk,S.fac.u1 k hk,Zqq hk (S.fac.u1 k hk) fun s h1 h2=>S.fac.u0 k s hk h2 h1⟩
 have a9:Hid (∀(M:Mx) (k J:Nat),J≤30 * E→J+(spV (M k) n).length * (2 * (29 * E)+1)≤34359738368):=JZ fun M k J hJ=>by
  have h1:=JS (2 * (29 * E)+1) (JW (Ve (f:=M k) n) bj);omega
 have d5:=X5 n (by omega);have af:=YL.zeros w n (by unfold maxLen;omega);have az:=Zd w (.cells (zfc n) 36);rw [← Zaz (w:=WW)] at af;have bt:=k0;clear i0 i1 i2 i3 h2 S Y z hb hX ax k0 k1 k2 k3;go_enter Tryz.func60,Tryz.ntmps60;go_wp2;clear bt;generalize w.alloc (.cells (zfc n) 36)=W at *
 go_loopw [19] (fun i wr=>∃k:Nat,k≤n∧i= .int .i64 k∧YL w.heap.size wr (.slice (some ⟨w.heap.size,0,none⟩) n n) (XQ n k WW)∧Below w.heap.size w wr) (fun i _=>n - (intOf i).toNat)
 case atStart=>exact ⟨0,by omega,rfl,af,az⟩
 case round=>
  clear af az;obtain ⟨k,hk,rfl,hO,l⟩:=hrel;rcases JX k n with a | a
  ·obtain ⟨b1,o1,rfl,x1⟩:=I1.out.nat l a;have P:C k < n:=HS.out.fac.ci.1 k a;obtain ⟨bc,oc,A4,n4,c4,A5,n5,c5,rfl,_,⟨u0,u1,u2,u3⟩,ao⟩:=H2.out.elem l (Z7 P);obtain ⟨b3,o3,A7,c7,rfl,x3,Z⟩:=I3.out.vc l a;have y1:=ZH l K1.out;have y3:=ZH l K3.out;obtain ⟨bd,ac,a0⟩:=bs.out k a;have ag:=JZ a0;have a2:Hid (inR (XQ n k WW).length (spV (U k) n)):=JZ (by rw [Un];exact Zgv (U k) n);have a3:Hid ((canF (d (C k))).Rs (30 * E)):=JZ (bq.out _ P).rs;have b0:=JZ (br.out k a);have a4:Hid (RsL (29 * E) (XQ n k WW)):=JZ (firstL_rs bm.out);have G:=JZ (a9.out U k (30 * E) (JY _));have F:Hid (remQ (spV (U k) n) (qAt (XQ n k WW)) (k:Int) (d (C k)) (spV (U k) n).length=d (C k) - Z6 (fun s=>U k s * WW s) k):=JZ (ut_remQ a);have bu:Hid ((d (C k) - Z6 (fun s=>U k s * WW s) k) / U k k=WW k):=JZ (bl.out k a).symm;have ah:=JZ (VH (w:=WW) a);have bv:(canF (U k k)).Sm:=bd.rs.sm (by omega);have bw:(canF (U k k)).q≠0:=(by rw [ZG];exact ac);have b5:(XQ n k WW)[k]? =some zeroF:=(by unfold XQ;rw [Yt a,if_neg (by omega)]);have bx:(k:Int) < n:=(by omega);have ca:k < (XQ n k WW).length:=(by rw [Un];exact a);have b6:(C k:Int) < n:=(by omega);generalize cq:d (C k)=dk at *;generalize U k k=uk at *;generalize C k=ck at *;generalize cs:dk - Z6 (fun s=>U k s * WW s) k=rq at *;clear bd ac a0 cq cs
   go_upto_region 6 with (fail)
   go_cut [8] (fun s8 wx=>RestAt wr rq s8 wx)
   case first=>
    have C0:=Zr u0;have C1:=Zr u1;have C2:=Zr u2;have C3:=Zr u3;have D0:=Zr x1;have D1:=Zr x3;have D2:=Zr y1;have D3:=Zr y3;have c:=Zj wr;clear u0 u1 u2 u3 x1 x3 y1 y3;refine Xg 21 (.go 0 (.go 1 (.go 2 (.go 3 (.go 4 (.go 5 (.go 6 (.go 7 (.go 8 (.go 9 (.go 10 (.go 11 (.go 12 (.go 13 (.go 14 (.go 15 (.go 16 (.go 17 (.go 18 (.fork 19 (.go 20 (.go 21 .done)) 20 (.go 19 (.go 21 .done)))))))))))))))))))))) (by kernel_rfl) (by kernel_rfl) ?_;repeat ((first | (refine Yg (v:=?_) rfl rfl rfl ?_ ?_;rotate_left;(· (intro _ m;go_simp;(try go_bits);(try with_reducible rfl)))) | (refine YA (v:=?_) rfl rfl rfl ?_ ?_;rotate_left;(· (intro _ m;go_simp;(try go_bits);(try with_reducible rfl)))) | refine YB rfl rfl rfl ?_ | refine Yh rfl rfl rfl (by assumption) ?_);(try simp only [Act.put,pu1,pu2,pu3,pu4,pu5,pu6]))
    refine Zan rfl rfl (fun KR hKR=>?_) (fun KR hKR=>?_)
    ·go_simp;(with_reducible refine (remainder_any _ _ _ (canF dk) (spV (U k) n) (k:Int) (XQ n k WW) (29 * E) (30 * E) _ (ao.below c) (Z.below c) (hO.below c).frs a2.out a3.out (by omega) b0.out a4.out (by omega) G.out (by omega)).mono ?_);rw [ZG];rintro _ wA ⟨vA,fA,rfl,eA,p,N,D,a7⟩;rw [F.out] at p;have T:fA.Sm:=D.sm G.out;have y:=Za c a7 c.size;obtain ⟨A6,n6,c6,B6,m6,d6,rfl,_,_⟩:=id eA;refine hKR.out _ _ (Or.inr y) ?_;clear hKR KR N D;(try simp only [Act.put,pu1,pu2,pu3,pu4,pu5,pu6]);obtain ⟨WG,ap,K,a6⟩:=Zah wA (.bool false) (.slice none 0 0) (.bool false) (.slice none 0 0);refine ZQ rfl rfl (fun KR hKR=>?_);go_simp;have ai:=y.size;have r:=Za y a6 y.size;refine hKR.out _ _ (Or.inr r) ?_;clear hKR KR ap;(try simp only [Act.put,pu1,pu2,pu3,pu4,pu5,pu6]);have cb:=eA.below a6;obtain ⟨t0,t1,t2,t3⟩:=K.four;obtain ⟨f0,f1,f2,f3⟩:=K.fourF;refine ZQ rfl rfl (fun KR hKR=>?_);go_simp;refine hKR.out _ _ (Or.inl (by decide)) ?_;clear hKR KR;(try simp only [Act.put,pu1,pu2,pu3,pu4,pu5,pu6]);refine Y7 ?_;go_wp2_with fail
     go_meet
     exact RestAt.mk K cb p T r ai
    ·obtain ⟨WG,ap,K,a6⟩:=Zah wr.drew (.bool false) (.slice none 0 0) (.bool false) (.slice none 0 0);go_simp;have ai:=c.size;have r:=Za c a6 c.size;refine hKR.out _ _ (Or.inr r) ?_;clear hKR KR ap;(try simp only [Act.put,pu1,pu2,pu3,pu4,pu5,pu6])
     change Bk WG wr.heap.size 36 _ at K
     refine ZQ rfl rfl (fun KR hKR=>?_);go_simp;(with_reducible refine (remainder_any _ _ _ (canF dk) (spV (U k) n) (k:Int) (XQ n k WW) (29 * E) (30 * E) _ (ao.below r) (Z.below r) (hO.below r).frs a2.out a3.out (by omega) b0.out a4.out (by omega) G.out (by omega)).mono ?_);rw [ZG];rintro _ wA ⟨vA,fA,rfl,eA,p,N,D,a7⟩;rw [F.out] at p;have T:fA.Sm:=D.sm G.out;have y:=Za r a7 r.size;obtain ⟨A6,n6,c6,B6,m6,d6,rfl,_,_⟩:=id eA;refine hKR.out _ _ (Or.inr y) ?_;clear hKR KR N D;(try simp only [Act.put,pu1,pu2,pu3,pu4,pu5,pu6]);have hG:=K.later a7;obtain ⟨t0,t1,t2,t3⟩:=hG.four;obtain ⟨f0,f1,f2,f3⟩:=hG.fourF;refine ZQ rfl rfl (fun KR hKR=>?_);go_simp;refine hKR.out _ _ (Or.inl (by decide)) ?_;clear hKR KR;(try simp only [Act.put,pu1,pu2,pu3,pu4,pu5,pu6]);refine Y7 ?_;go_wp2_with fail
     go_meet
     exact RestAt.mk hG eA p T y ai
   case rest=>
    obtain ⟨gr,fr,Ar,nr,cr,d9,da,db,rfl,dc,hB,cm,cn,co,be⟩:=hcut;obtain rfl:=cn;have cd:=hO.below be;have V:=Za l be l.size;have aa:=V;clear Z x1 x3 y1 y3 u0 u1 u2 u3 ao hO l;obtain ⟨b4,o4,A8,c8,hA,x3,Z⟩:=I3.out.vc V a;injection hA with hA;injection hA with hA1 hA2;subst hA1;subst hA2;have y3:=ZH V K3.out;obtain ⟨t0,t1,t2,t3⟩:=hB.four
    go_upto_region 7 with (fail)
    have C0:=Zr t0;have C1:=Zr t1;have C2:=Zr t2;have C3:=Zr t3;have D0:=Zr x3;have D1:=Zr y3;have c:=Zj wc;clear t0 t1 t2 t3 x3 y3;refine Zt 16 [0,1,2,3,4,5,6,7,8,9,10,11,12,13,14,15,16] (by kernel_rfl) (by kernel_rfl) ?_;repeat ((first | (refine Zc (v:=?_) rfl rfl rfl ?_ ?_;rotate_left;(· (intro _ m;go_simp;(try go_bits);(try with_reducible rfl)))) | (refine Ze (v:=?_) rfl rfl rfl ?_ ?_;rotate_left;(· (intro _ m;go_simp;(try go_bits);(try with_reducible rfl)))) | refine Zf rfl rfl rfl ?_);(try simp only [Act.put,pu1,pu2,pu3,pu4,pu5,pu6]))
    refine Zg rfl rfl (fun KR hKR=>?_);go_simp;(with_reducible refine (Zev _ _ ⟨(k:Int),canF uk⟩ _ (Z.below c) ag.out).mono ?_);rintro _ w6 ⟨v6,rfl,e6,cp⟩;have a5:=Za c cp c.size;refine hKR.out _ _ (Or.inr a5) ?_;clear hKR KR;(try simp only [Act.put,pu1,pu2,pu3,pu4,pu5,pu6]);repeat ((first | (refine Zc (v:=?_) rfl rfl rfl ?_ ?_;rotate_left;(· (intro _ m;go_simp;(try go_bits);(try with_reducible rfl)))) | (refine Ze (v:=?_) rfl rfl rfl ?_ ?_;rotate_left;(· (intro _ m;go_simp;(try go_bits);(try with_reducible rfl)))) | refine Zf rfl rfl rfl ?_);(try simp only [Act.put,pu1,pu2,pu3,pu4,pu5,pu6]))
    refine Zg rfl rfl (fun KR hKR=>?_);go_simp;(with_reducible refine (UX _ _ fr (canF uk) _ (cm.below a5) e6 co bv bw).mono ?_);rw [ZG,bu.out];rintro _ w7 ⟨v7,rfl,e7,a8⟩;have u:=Za a5 a8 a5.size;obtain ⟨B9,l9,k9,aq,ar,au,rfl,_,_⟩:=id e7;have H:=cd.below u;obtain ⟨_,_,_,_,⟨c0,c1,c2,c3⟩,⟨f0,f1,f2,f3⟩,_⟩:=H.at_ b5;refine hKR.out _ _ (Or.inr u) ?_;clear hKR KR;(try simp only [Act.put,pu1,pu2,pu3,pu4,pu5,pu6]);repeat ((first | (refine Zc (v:=?_) rfl rfl rfl ?_ ?_;rotate_left;(· (intro _ m;go_simp;(try go_bits);(try with_reducible rfl)))) | (refine Ze (v:=?_) rfl rfl rfl ?_ ?_;rotate_left;(· (intro _ m;go_simp;(try go_bits);(try with_reducible rfl)))) | refine Zf rfl rfl rfl ?_);(try simp only [Act.put,pu1,pu2,pu3,pu4,pu5,pu6]))
    refine Zg rfl rfl (fun KR hKR=>?_);go_simp;refine hKR.out _ _ (Or.inl (by decide)) ?_;clear hKR KR;(try simp only [Act.put,pu1,pu2,pu3,pu4,pu5,pu6]);refine Zv ?_;clear C0 C1 C2 C3 D0 D1;obtain ⟨B,av⟩:=H.set_ (k:=k) ca e7;rw [ah.out] at B;have x:=ZB (Za aa u aa.size) (JY _) (k * 4) (k * 4+1) (k * 4+2) (k * 4+3);go_wp2;go_roundw
    case rel=>exact ⟨k+1,by omega,by go_num,B,x _ _ _ _⟩
    case measure=>simp [intOf];omega
  ·obtain rfl:n=k:=by omega
   rw [Zcc,← bk.out] at hO;have aj:=YL.zeros wr n (by unfold maxLen;omega);have ak:=Zd wr (.cells (zfc n) 36);rw [← Zkf (X:=LT n) HS.out.fac.ri] at aj;have b7:=hO.below ak;have ce:0 < n→w.heap.size < wr.heap.size:=fun hp=>by
    obtain ⟨g,_,e,_,h,_⟩:=hO.shape (by rw [Zu];exact hp);injection e with e;injection e with e;injection e with e;omega
   have ab:=Za l ak l.size;have cf:=l.size;clear hO l;go_wp2;generalize wr.heap.size=gx at *;generalize wr.alloc (.cells (zfc n) 36)=W2 at *
   go_loopw [10] (fun i wx=>∃(j:Nat) (kz:Int),j≤n∧kz=(n:Int) - 1 - j∧i= .int .i64 kz∧YL w.heap.size wx (.slice (some ⟨w.heap.size,0,none⟩) n n) (YT n (LT j))∧YL gx wx (.slice (some ⟨gx,0,none⟩) n n) (UH n j R (LT n))∧Below w.heap.size w wx) (fun i _=>(intOf i+1).toNat)
   case atStart=>exact ⟨0,(n:Int) - 1,by omega,by omega,rfl,b7,aj,ab⟩
   case round=>
    clear b7 aj ab ak;obtain ⟨j,kz,hj,bf,rfl,hO,hx,l⟩:=hrel;rcases Int.lt_or_le kz 0 with hneg | hpos
    ·obtain rfl:n=j:=by omega
     go_wp2;go_ret;exact ⟨_,rfl,hx.monoB cf,l⟩
    ·obtain ⟨k,rfl⟩:=JT hpos;have I:k+1+j=n:=(by omega);have a:k < n:=(by omega);have d7:=ce (by omega);obtain ⟨b2,o2,A4,c4,rfl,x0,bg⟩:=I2.out.vc l a;have y2:=ZH l K2.out;have a2:Hid (inR (YT n (LT j)).length (spV (L k) n)):=JZ (by rw [Zu];exact Zgv (L k) n);have a3:Hid ((canF (LT j k)).Rs (29 * E)):=JZ (aw.out j k hj a).rs;have cg:=JZ (ay.out k a);have a4:Hid (RsL (29 * E) (YT n (LT j))):=JZ (Ztl fun i hi=>aw.out j i hj hi);have G:=JZ (a9.out L k (29 * E) (by omega));have F:=JZ (bo.out j k I);have ch:=JZ (bn.out j k I);have al:(YT n (LT j))[k]? =some (canF (LT j k)):=Z7 a;have ah:Hid ((UH n j R (LT n)).set (R k) (canF (LT (j+1) k))=UH n (j+1) R (LT n)):=JZ (by rw [bp.out j k I];exact Zkg HS.out.fac.ri I);have P:R k < n:=HS.out.fac.ri.1 k a;have bx:(k:Int) < n:=(by omega);have d8:=JZ bf;have b8:=JZ I;clear bf I;obtain ⟨bz,oz,A5,n5,c5,A6,n6,c6,hA,_,⟨t0,t1,t2,t3⟩,a1⟩:=hO.frs.elem (JR _ _) al;injection hA with hA;injection hA with hA1 hA2;subst hA1;subst hA2;simp only [Nat.zero_add] at t0 t1 t2 t3;generalize LT j k=zk at *;generalize bi:LT (j+1) k=O at *;have cj:=JZ bi;clear hpos bi
     go_upto_region 13 with (fail)
     have C0:=Zr t0;have C1:=Zr t1;have C2:=Zr t2;have C3:=Zr t3;have D0:=Zr x0;have D1:=Zr y2;have c:=Zj wr;clear t0 t1 t2 t3 x0 y2;refine Zt 17 [0,1,2,3,4,5,6,7,8,9,10,11,12,13,14,15,16,17] (by kernel_rfl) (by kernel_rfl) ?_;repeat ((first | (refine Zc (v:=?_) rfl rfl rfl ?_ ?_;rotate_left;(· (intro _ m;go_simp;(try go_bits);(try with_reducible rfl)))) | (refine Ze (v:=?_) rfl rfl rfl ?_ ?_;rotate_left;(· (intro _ m;go_simp;(try go_bits);(try with_reducible rfl)))) | refine Zf rfl rfl rfl ?_);(try simp only [Act.put,pu1,pu2,pu3,pu4,pu5,pu6]))
     refine Zg rfl rfl (fun KR hKR=>?_);go_simp;(with_reducible refine (remainder_any _ _ _ (canF zk) (spV (L k) n) (k:Int) (YT n (LT j)) (29 * E) (29 * E) _ (a1.below c) (bg.below c) (hO.below c).frs a2.out a3.out (by omega) cg.out a4.out (by omega) G.out (by omega)).mono ?_);rw [ZG];rintro _ w7 ⟨v7,fA,rfl,e7,p,N,D,a8⟩;have u:=Za c a8 c.size;rw [F.out] at p;have cl:fA=canF O:=(by rcases N with h | h;rotate_left;exact h.trans (by rw [p]);rw [h,ZG] at p;rw [h,p]);subst cl;obtain ⟨B9,l9,k9,aq,ar,au,rfl,_,_⟩:=id e7;have H:=hO.below u;obtain ⟨_,_,_,_,⟨c0,c1,c2,c3⟩,⟨f0,f1,f2,f3⟩,_⟩:=H.at_ al;clear p N D;refine hKR.out _ _ (Or.inr u) ?_;clear hKR KR;(try simp only [Act.put,pu1,pu2,pu3,pu4,pu5,pu6]);repeat ((first | (refine Zc (v:=?_) rfl rfl rfl ?_ ?_;rotate_left;(· (intro _ m;go_simp;(try go_bits);(try with_reducible rfl)))) | (refine Ze (v:=?_) rfl rfl rfl ?_ ?_;rotate_left;(· (intro _ m;go_simp;(try go_bits);(try with_reducible rfl)))) | refine Zf rfl rfl rfl ?_);(try simp only [Act.put,pu1,pu2,pu3,pu4,pu5,pu6]))
     refine Zg rfl rfl (fun KR hKR=>?_);go_simp;refine hKR.out _ _ (Or.inl (by decide)) ?_;clear hKR KR;(try simp only [Act.put,pu1,pu2,pu3,pu4,pu5,pu6]);refine Zv ?_;clear C0 C1 C2 C3 D0 D1;obtain ⟨B,av⟩:=H.set_ (k:=k) (by rw [Zu];exact a) e7;rw [ch.out] at B;have am:=(hx.below u).others Yb (av.keep (by decide)) (fun b hb e=>by simp [Value.ownBlock] at hb;injection e with e;omega);have x:=ZB (Za l u l.size) (JY _) (k * 4) (k * 4+1) (k * 4+2) (k * 4+3) (.bool (canF O).num.neg) (.slice B9 l9 k9) (.bool (canF O).den.neg) (.slice aq ar au);have b9:(YT n (LT (j+1)))[k]? =some (canF O):=(by rw [← cj.out];exact Z7 a);clear hO H hx l c u e7 a8 c0 c1 c2 c3 f0 f1 f2 f3 a1 av bg al;generalize ((((w7.setCell ⟨w.heap.size,k * 4,none⟩ (.bool (canF O).num.neg)).setCell ⟨w.heap.size,k * 4+1,none⟩ (.slice B9 l9 k9)).setCell ⟨w.heap.size,k * 4+2,none⟩ (.bool (canF O).den.neg)).setCell ⟨w.heap.size,k * 4+3,none⟩ (.slice aq ar au))=W8 at *;obtain ⟨b1,o1,rfl,x1⟩:=I0.out.nat x a;have y1:=ZH x K0.out;obtain ⟨bz,oz,A8,n8,c8,A9,n9,c9,hA,_,⟨t0,t1,t2,t3⟩,a1⟩:=B.frs.elem (JR _ _) b9;injection hA with hA;injection hA with hA1 hA2;subst hA1;subst hA2;simp only [Nat.zero_add] at t0 t1 t2 t3;obtain ⟨rf,bh⟩:=Zcs (fs:=UH n j R (LT n)) (i:=R k) (by rw [UN];exact P);obtain ⟨ad,ae⟩:=am.set_ (k:=R k) (by rw [UN];exact P) a1;rw [ah.out] at ad;have ba:=B.others (g:=some gx) Yb (ae.keep (by decide)) (fun b hb e=>by simp [Value.ownBlock] at hb;injection e with e;omega);have an:=ZB x (show w.heap.size≤gx by omega) (R k * 4) (R k * 4+1) (R k * 4+2) (R k * 4+3);obtain ⟨_,_,_,_,⟨c0,c1,c2,c3⟩,⟨f0,f1,f2,f3⟩,_⟩:=am.at_ bh;generalize R k=ck at *;have b6:(ck:Int) < n:=(by omega);clear bh am B a1 ae
     go_upto_region 14 with (fail)
     have C0:=Zr t0;have C1:=Zr t1;have C2:=Zr t2;have C3:=Zr t3;have D0:=Zr x1;have D1:=Zr y1;have c:=Zj W8;clear t0 t1 t2 t3 x1 y1;refine Zt 13 [0,1,2,3,4,5,6,7,8,9,10,11,12,13] (by kernel_rfl) (by kernel_rfl) ?_;repeat ((first | (refine Zc (v:=?_) rfl rfl rfl ?_ ?_;rotate_left;(· (intro _ m;go_simp;(try go_bits);(try with_reducible rfl)))) | (refine Ze (v:=?_) rfl rfl rfl ?_ ?_;rotate_left;(· (intro _ m;go_simp;(try go_bits);(try with_reducible rfl)))) | refine Zf rfl rfl rfl ?_);(try simp only [Act.put,pu1,pu2,pu3,pu4,pu5,pu6]))
     refine Zg rfl rfl (fun KR hKR=>?_);go_simp;refine hKR.out _ _ (Or.inl (by decide)) ?_;clear hKR KR;(try simp only [Act.put,pu1,pu2,pu3,pu4,pu5,pu6]);refine Zv ?_;clear C0 C1 C2 C3 D0 D1;go_wp2;go_roundw
     case rel=>exact ⟨j+1,(k:Int) - 1,by have:=b8.out;omega,by have:=b8.out;omega,rfl,ba,ad,(an _ _ _ _).drew⟩
     case measure=>simp [intOf] <;> omega
section
attribute [local irreducible] Yi
end
namespace Pl
def restQ (k:Nat) (M X:Nat→Rat) (i:Nat):Rat:=X k - Z6 (fun i=>if i=k then 0 else M i * X i) i
theorem restQ_zero {k:Nat} {M X:Nat→Rat}:restQ k M X 0=X k:=by unfold restQ;rw [Y4];grind
theorem restQ_skip {k i:Nat} {M X:Nat→Rat} (h:i=k∨M i=0∨X i=0):restQ k M X i=restQ k M X (i+1):=by
 unfold restQ;rw [ZF];by_cases e:i=k
 ·rw [if_pos e];grind
 ·rw [if_neg e];rcases h with h | h | h
  ·exact absurd h e
  ·rw [h];grind
  ·rw [h];grind
theorem restQ_next {k i:Nat} {M X:Nat→Rat} (h:i≠k):restQ k M X (i+1)=restQ k M X i - M i * X i:=by
 unfold restQ;rw [ZF,if_neg h];grind
theorem restQ_B {n k i E:Nat} {M X:Nat→Rat} (hE:1≤E) (hn:n≤7) (hk:k < n) (hx:∀i,i < n→Sz (22 * E) (X i)) (hm:∀i,i < n→Sz E (M i)) (hi:i≤n):Sz (200 * E) (restQ k M X i):=by
 have h1:Sz (1+i * (23 * E+1)) (Z6 (fun i=>if i=k then 0 else M i * X i) i):=Zvg fun j hj=>by
  split
  ·exact Sz_zero.mono (by omega)
  ·exact (V5 (hm j (by omega)) (hx j (by omega))).mono (by omega)
 have h2:i * (23 * E+1)≤7 * (23 * E+1):=JS _ (by omega);exact (Zeo (hx k hk) h1).mono (by omega)
end Pl
def RstQ [Old] (w:World) (g:Nat) (q:Rat):Prop:=
 ∃A n c A' n' c',Bk w g 36 [.bool (canF q).num.neg,.slice A n c,.bool (canF q).den.neg,.slice A' n' c']∧Zm w (.agg #[.bool (canF q).num.neg,.slice A n c,.bool (canF q).den.neg,.slice A' n' c']) (canF q)
theorem RstQ.below [Old] {w w':World} {g:Nat} {q:Rat} (h:RstQ w g q) (hb:Below w.heap.size w w'):RstQ w' g q:=by
 obtain ⟨A,n,c,A',n',c',h1,h2⟩:=h;exact ⟨A,n,c,A',n',c',h1.later hb,h2.below hb⟩
theorem solveTB_own [Old] (base bi g n K:Nat) (Cs:Mx) (v:Value) (es:List En) (w:World) (hB:Zse base bi w g n K Cs) (h:Wy w v es) (hgo:Pl.Good n es) (hrs:∀(k:Nat) (e:En),es[k]? =some e→e.f.Rs K) (hOl:Zb w:=by (repeat (first | assumption | exact Zb.up (by assumption) hOl | exact Zb.up (Hid.out (by assumption)) hOl | with_reducible refine Zb.set ?_ _ _ | with_reducible refine Zb.mk_ ?_ _ | with_reducible refine Zb.dr ?_ | with_reducible refine Zb.drN ?_ | refine Zb.up (by assumption) ?_ | refine Zb.up (Hid.out (by assumption)) ?_))) (hO:Old.n≤base:=by first | assumption | exact Nat.zero_le _ | omega | ((first | with_reducible refine Zb.le ?_ | with_reducible refine Zb.le1 ?_ | with_reducible refine Zb.le2 ?_ | with_reducible refine Zb.le3 ?_);repeat (first | assumption | exact Zb.up (by assumption) hOl | exact Zb.up (Hid.out (by assumption)) hOl | with_reducible refine Zb.set ?_ _ _ | with_reducible refine Zb.mk_ ?_ _ | with_reducible refine Zb.dr ?_ | with_reducible refine Zb.drN ?_ | refine Zb.up (by assumption) ?_ | refine Zb.up (Hid.out (by assumption)) ?_))):
 Calls Tryz.prog 27 #[.pointer (some ⟨g,0,none⟩),v] w fun o w'=>∃v' y,o= .returned (.tuple #[v',.int .i64 0])∧(∀c,c < n→XV n (trM Cs) y c=XZ es c)∧(∀i,i < n→Sz (5^n * K) (y i))∧Wz w.heap.size w' v' (spV y n)∧Below w.heap.size w w':=by
 have e4:=hOl.le;obtain ⟨T,gc,cc,k,R,C,im,V,L,Um,CC,s0,s1,s2,s3,vu,hX,⟨dj,hT,hE,cq⟩,hU,hF,hO,i0,i1,v2,v3,bl⟩:=hB;obtain ⟨Au,cu,rfl,cr,dy⟩:=bl.shape;have b9:=Zvt hX i0 i1 v2 v3;have bs:=hF.n7;have ba:1≤K:=Nat.pos_of_ne_zero fun e=>by have:=hF.e1;subst e;simp at this
 obtain ⟨d,hd⟩:∃d,d=XZ es:=⟨_,rfl⟩;have bb:∀r,r < n→Sz K (d r):=fun r _=>by rw [hd];exact Sz_col hrs ba r
 have hy:∀c,c < n→XV n (trM (CC 0)) (solT n R C L Um (cN n T k im d T)) c=cN n T k im d T c:=hF.fac.solT _;have bt:=JZ (hU.cB bs ba bb hy);have bc:=JZ (hU.yB bb hy);have bu:=JZ (hU.solvesT hy T (JY _));have cz:=JZ hU.imB;have d0:=JZ hU.kn;have d3:=JZ hU.nz;have HE:=JZ hE;have d4:Hid (1≤5^n * K):=JZ hF.e1;have d5:=JZ bs;have d6:=JZ cq;have bv:=JZ bl;have HD:=JZ hd;have d7:=JZ b9;have HF:=JZ hF;have HY:Hid (w.cell? ⟨g,6,none⟩=some (.slice Au T cu)):=JZ (hX.cellAt 6 rfl);have y1:w.cell? ⟨g,0,none⟩=some (.int .i64 (n:Int)):=hX.cellAt 0 rfl;have d8:Hid (K≤4000000):=JZ (JW (Nat.le_mul_of_pos_left K (Nat.pow_pos (by decide))) hE);have d9:=JZ hgo;have da:=JZ hrs;clear hX hU hF cq hE dj bl hO i0 i1 v2 v3 b9 hy bb hd ba hgo hrs;go_enter Tryz.func27,Tryz.ntmps27;go_wp2_with fail;refine (Zgx v es n K _ h (by omega) da.out (by have:=d8.out;omega) d9.out).mono ?_;rintro _ w1 ⟨v1,rfl,e1,bq⟩;obtain ⟨A5,c5,ct⟩:=e1.slice;rw [Zu] at ct;subst ct;obtain ⟨-,dz,e0⟩:=e1.frs.len;rw [← HD.out] at e1;clear y1 h;have y2:=ZH bq HY.out;go_wp2;clear y2
 go_loopw [8] (fun x wr=>∃(j:Nat) (tz:Int),j≤T∧tz=(T:Int) - 1 - j∧x= .int .i64 tz∧YL w.heap.size wr (.slice A5 n c5) (YT n (cN n T k im d j))∧Below w.heap.size w wr) (fun x _=>(intOf x+1).toNat)
 case atStart=>exact ⟨0,(T:Int) - 1,by omega,by omega,rfl,e1,bq⟩
 case round=>
  clear e1 bq;obtain ⟨j,tz,hj,bn,rfl,hO,a⟩:=hrel;rcases Int.lt_or_le tz 0 with hneg | aj
  ·obtain rfl:T=j:=by omega
   clear bn;have HO:=JZ hO;clear hO;go_wp2_with fail;refine (facSolveT_own g 2 _ n (5^n * K) (trM (CC 0)) R C L Um _ _ (d7.out.below a) HO.out.frs HF.out (fun i hi=>(bt.out T (JY _) i hi).mono (by omega)) bc.out).mono ?_;rintro _ w2 ⟨v2,rfl,e2,cw⟩;have D:=Za a cw a.size;obtain ⟨A2,c2,rfl⟩:=e2.slice;obtain ⟨y,b6⟩:∃y,y=solT n R C L Um (cN n T k im d T):=⟨_,rfl⟩;have bd:=JZ b6;rw [← b6] at e2;rw [← b6];clear a cw b6;go_wp2_with fail;refine (Wq _ (YT n y) (5^n * K) _ e2.frs (by rw [Zu];omega) (Ztl fun i hi=>by rw [bd.out];exact bc.out i hi) (by have:=HE.out;omega)).mono ?_;rw [Zu,WM (g:=y) fun i hi=>Zpu hi];rintro _ w3 ⟨v3,rfl,e3,p⟩;have m:=Za D p D.size;have e3:Wz w.heap.size w3 v3 (spV y n):=by
    obtain ⟨cs,g1,g2⟩:=e3;exact ⟨cs,WX g1 D.size,g2⟩
   clear e2 D p;go_wp2;go_ret2;exact ⟨_,y,rfl,fun c hc=>by
    have:=bu.out c hc;rw [Nat.sub_self] at this;rw [← d6.out,bd.out,this,← HD.out];rfl,fun i hi=>by rw [bd.out];exact bc.out i hi,e3,m⟩
  ·obtain ⟨t,rfl⟩:=JT aj;have ai:t < T:=(by omega);have be:=JZ bn;clear bn aj;have Z:=d0.out t ai;have aj:0 < n:=(by omega);obtain ⟨gx,cx,cv,dk,dl,-,-⟩:=hO.shape (by rw [Zu];omega);rw [Zu] at cv;injection cv with a1 a2 a3;subst a1;clear a2 a3 cx;obtain ⟨gu,B,d',rfl,-,⟨u0,u1⟩,⟨d1,d2⟩,bo⟩:=bv.out.elem a ai;obtain ⟨X,b7⟩:∃X,X=cN n T k im d j:=⟨_,rfl⟩;obtain ⟨M,ae⟩:∃M,M=im t:=⟨_,rfl⟩;obtain ⟨kt,b8⟩:∃kt,kt=k t:=⟨_,rfl⟩;have bw:Hid (YT n (cN n T k im d (j+1))=YT n (Zns n kt M X)):=JZ (by
    rw [b7,ae,b8,show t=T - 1 - j by have:=be.out;omega];rfl)
   have bf:Hid (∀i,i < n→Sz (22 * (5^n * K)) (X i)):=JZ fun i hi=>by rw [b7];exact bt.out j hj i hi
   have b0:Hid (∀i,i < n→Sz (5^n * K) (M i)):=JZ fun i hi=>by rw [ae];exact cz.out t ai i hi
   have db:Hid (M kt≠0):=JZ (by rw [ae,b8];exact d3.out t ai);rw [← b7] at hO;rw [← ae] at bo;rw [← b8] at Z u0;have bg:Hid (Zbn w (.slice B n d') (YT n M)):=JZ (by
    obtain ⟨_,B',ed,au,-,⟨-,e2⟩,-,h3⟩:=bv.out.elem (JR _ _) ai;injection au with au;injection au with au;subst au;have e3:=ZH a e2;rw [u1] at e3;injection e3 with e3;injection e3 with b1 b2 b3;subst b1 b3;rw [ae];exact h3)
   clear b7 ae b8;have bx:∀i,restQ kt M X i=X kt - Z6 (fun i=>if i=kt then 0 else M i * X i) i:=fun _=>rfl
   have ca:Hid (∀i,i≤n→Sz (200 * (5^n * K)) (restQ kt M X i)):=JZ fun i hi=>restQ_B d4.out (by have:=d5.out;omega) Z bf.out b0.out hi
   clear bx;have e5:T≤cu:=(by have:=cr;omega);obtain ⟨W1,dm,hV,av⟩:∃W1,wr.alloc (.cells #[.int .i64 (kt:Int),.slice B n d'] 87)=W1∧Bk W1 wr.heap.size 87 [.int .i64 (kt:Int),.slice B n d']∧Below wr.heap.size wr W1:=⟨_,rfl,Bk.new wr _ _,Zd wr _⟩;have bh:=hO.below av;have cb:=bo.below av;have ab:=Za a av a.size;obtain ⟨s,A,_,_⟩:=hV.two;have cd:(YT n X)[kt]? =some (canF (X kt)):=Z7 Z;obtain ⟨bz,oz,A6,n6,c6,A7,n7,c7,hA,_,⟨t0,t1,t2,t3⟩,F⟩:=bh.frs.elem (JR _ _) cd;injection hA with hA;injection hA with hA1 hA2;subst hA1;subst hA2;simp only [Nat.zero_add] at t0 t1 t2 t3;have e8:(kt:Int) < n:=(by omega);have y2:=ZH a HY.out;have hR:=Bk.new W1 36 [.bool (canF (X kt)).num.neg,.slice A6 n6 c6,.bool (canF (X kt)).den.neg,.slice A7 n7 c7];have ak:=Zd W1 (.cells #[.bool (canF (X kt)).num.neg,.slice A6 n6 c6,.bool (canF (X kt)).den.neg,.slice A7 n7 c7] 36);have e9:gx < W1.heap.size:=Nat.lt_of_lt_of_le dl av.size;have dc:w.heap.size≤W1.heap.size:=ab.size;have dx:w.heap.size≤wr.heap.size:=a.size;have ea:(t:Int) < T:=(by omega);clear hO a bo
   go_upto_region 8 with (fail)
   clear u0 u1 y2;clear dm;go_wp2;clear s A t0 t1 t2 t3;have ce:=bh.below ak;have cf:=hV.later ak;have cg:=F.below ak;have D:=Za ab ak ab.size;clear bh cb hV F ab ak av;generalize W1.alloc (.cells #[.bool (canF (X kt)).num.neg,.slice A6 n6 c6,.bool (canF (X kt)).den.neg,.slice A7 n7 c7] 36)=W2 at *;generalize W1.heap.size=gr at *;generalize wr.heap.size=dw at *
   go_loopw [48] (fun x wx=>∃i:Nat,i≤n∧x= .int .i64 i∧YL w.heap.size wx (.slice (some ⟨gx,0,none⟩) n c5) (YT n X)∧Bk wx dw 87 [.int .i64 (kt:Int),.slice B n d']∧RstQ wx gr (restQ kt M X i)∧Below w.heap.size w wx) (fun x _=>n - (intOf x).toNat)
   case atStart=>exact ⟨0,by omega,rfl,ce,cf,⟨A6,n6,c6,A7,n7,c7,by rw [restQ_zero];exact hR,by rw [restQ_zero];exact cg⟩,D⟩
   case round=>
    clear ce cf hR cg D;obtain ⟨i,hi,rfl,hO,hV,a6,a⟩:=hrel;rcases JX i n with hil | hil
    ·obtain ⟨s,A,_,_⟩:=hV.two;have eb:(i:Int) < n:=(by omega);by_cases br:i=kt
     ·have al:Hid (restQ kt M X i=restQ kt M X (i+1)):=JZ (restQ_skip (.inl br));subst br;rw [al.out] at a6;go_wp2;go_roundw
      case rel=>exact ⟨i+1,by omega,by go_num,hO,hV,a6,a⟩
      case measure=>simp [intOf];omega
     ·have dd:=JZ br;have ec:(i:Int)≠kt:=(by omega);obtain ⟨bm,om,A8,n8,c8,A9,n9,c9,rfl,_,⟨z0,z1,z2,z3⟩,O⟩:=bg.out.elem a (Z7 hil);have am:qs (M i)=0∨qs (M i)=1∨qs (M i)= -1:=(by have:=Zjl (M i);omega);by_cases ay:qs (M i)=0
      ·have al:Hid (restQ kt M X i=restQ kt M X (i+1)):=JZ (restQ_skip (.inr (.inl (Yz.1 ay))));clear am;go_wp2_with fail;refine (Yd _ (canF (M i)) _ O).mono ?_;rw [ZG,ay];rintro _ w3 ⟨rfl,p⟩;have a0:=hO.below p;have a4:=a6.below p;rw [al.out] at a4;have a5:=hV.later p;have m:=Za a p a.size;clear hO hV a6 a p ay z0 z1 z2 z3 O s A;go_wp2;go_roundw
       case rel=>exact ⟨i+1,by omega,by go_num,a0,a5,a4,m⟩
       case measure=>simp [intOf];omega
      ·have de:(qs (M i) !=0)=true:=(by simpa using ay);clear am ay;go_wp2_with fail;refine (Yd _ (canF (M i)) _ O).mono ?_;rw [ZG];rintro _ w3 ⟨rfl,p⟩;have a0:=hO.below p;have a4:=a6.below p;have a5:=hV.later p;have m:=Za a p a.size;clear hO hV a6 a p z0 z1 z2 z3 O s A;obtain ⟨s,A,_,_⟩:=a5.two;obtain ⟨b',o',A4,n4,c4,A5,n5,dn,hA,_,⟨P,a7,S,a8⟩,F⟩:=a0.frs.elem (JR _ _) (Z7 hil);injection hA with hA;injection hA with hA1 hA2;subst hA1;subst hA2;simp only [Nat.zero_add] at P a7 S a8;have am:qs (X i)=0∨qs (X i)=1∨qs (X i)= -1:=(by have:=Zjl (X i);omega);by_cases az:qs (X i)=0
       ·have al:Hid (restQ kt M X i=restQ kt M X (i+1)):=JZ (restQ_skip (.inr (.inr (Yz.1 az))));clear am;go_wp2_with fail;refine (Yd _ (canF (X i)) _ F).mono ?_;rw [ZG,az];rintro _ w4 ⟨rfl,G⟩;have df:=a0.below G;have b4:=a4.below G;rw [al.out] at b4;have an:=a5.later G;have I:=Za m G m.size;clear a0 a5 a4 m G az P a7 S a8 F s A;go_wp2;go_roundw
        case rel=>exact ⟨i+1,by omega,by go_num,df,an,b4,I⟩
        case measure=>simp [intOf];omega
       ·have dg:(qs (X i) !=0)=true:=(by simpa using az);clear am az;go_wp2_with fail;refine (Yd _ (canF (X i)) _ F).mono ?_;rw [ZG];rintro _ w4 ⟨rfl,G⟩;have hO:=a0.below G;have b4:=a4.below G;have an:=a5.later G;have I:=Za m G m.size;clear a0 a5 a4 m G P a7 S a8 F s A;obtain ⟨s,A,_,_⟩:=an.two;obtain ⟨b',o',A4,n4,c4,A5,n5,dn,hA,_,⟨P,a7,S,a8⟩,F⟩:=hO.frs.elem (JR _ _) (Z7 hil);injection hA with hA;injection hA with hA1 hA2;subst hA1;subst hA2;obtain ⟨b',o',A8,n8,c8,A9,n9,c9,hA,_,⟨z0,z1,z2,z3⟩,O⟩:=bg.out.elem I (Z7 hil);injection hA with hA;injection hA with hA1 hA2;subst hA1;subst hA2;simp only [Nat.zero_add] at P a7 S a8;obtain ⟨dp,dq,ds,dt,du,dv,a9,aa⟩:=b4;obtain ⟨t0,t1,t2,t3⟩:=a9.four;have ao:Hid (restQ kt M X (i+1)=restQ kt M X i - M i * X i):=JZ (restQ_next dd.out);obtain ⟨rr,J⟩:∃rr,rr=restQ kt M X i:=⟨_,rfl⟩;obtain ⟨xi,aw⟩:∃xi,xi=X i:=⟨_,rfl⟩;obtain ⟨mi,U⟩:∃mi,mi=M i:=⟨_,rfl⟩;have ch:(canF xi).Sm:=(by rw [aw];exact (bf.out i hil).rs.sm (by have:=HE.out;omega));have ci:(canF mi).Sm:=(by rw [U];exact (b0.out i hil).rs.sm (by have:=HE.out;omega));have ap:(canF rr).Sm:=(by rw [J];exact (ca.out i hi).rs.sm (by have:=HE.out;omega));have cj:(canF (mi * xi)).Sm:=(V5 (by rw [U];exact b0.out i hil) (by rw [aw];exact bf.out i hil)).rs.sm (by have:=HE.out;omega);have ck:=JZ J;have cl:=JZ aw;have cm:=JZ U;rw [← aw] at P S F;rw [← U] at z0 z2 O;rw [← J] at t0 t2 aa a9;clear aw U J
        go_upto_region 13 with (fail)
        clear de dg;have C0:=Zr t0;have C1:=Zr t1;have C2:=Zr t2;have C3:=Zr t3;have D0:=Zr z0;have D1:=Zr z1;have D2:=Zr z2;have D3:=Zr z3;have E0:=Zr P;have E1:=Zr a7;have E2:=Zr S;have E3:=Zr a8;have U0:=Zr s;have U1:=Zr A;have E:=Zj w4;clear t0 t1 t2 t3 z0 z1 z2 z3 P a7 S a8 s A;refine Zt 12 [0,1,2,3,4,5,6,7,8,9,10,11,12] (by kernel_rfl) (by kernel_rfl) ?_;repeat ((first | (refine Zc (v:=?_) rfl rfl rfl ?_ ?_;rotate_left;(· (intro _ N;go_simp;(try go_bits);(try with_reducible rfl)))) | (refine Ze (v:=?_) rfl rfl rfl ?_ ?_;rotate_left;(· (intro _ N;go_simp;(try go_bits);(try with_reducible rfl)))) | refine Zf rfl rfl rfl ?_);(try simp only [Act.put,pu1,pu2,pu3,pu4,pu5,pu6]))
        refine Zg rfl rfl (fun KR hKR=>?_);go_simp;(with_reducible refine (Zcq _ _ (canF mi) (canF xi) _ (O.below E) (F.below E) ci ch).mono ?_);rw [ZG,ZG];rintro _ w6 ⟨v6,rfl,e6,ax⟩;have H:=Za E ax E.size;refine hKR.out _ _ (Or.inr H) ?_;clear hKR KR;(try simp only [Act.put,pu1,pu2,pu3,pu4,pu5,pu6]);repeat ((first | (refine Zc (v:=?_) rfl rfl rfl ?_ ?_;rotate_left;(· (intro _ N;go_simp;(try go_bits);(try with_reducible rfl)))) | (refine Ze (v:=?_) rfl rfl rfl ?_ ?_;rotate_left;(· (intro _ N;go_simp;(try go_bits);(try with_reducible rfl)))) | refine Zf rfl rfl rfl ?_);(try simp only [Act.put,pu1,pu2,pu3,pu4,pu5,pu6]))
        refine Zg rfl rfl (fun KR hKR=>?_);go_simp;(with_reducible refine (Zcv _ _ (canF rr) (canF (mi * xi)) _ (aa.below H) e6 ap cj).mono ?_);rw [ZG,ZG];rintro _ w7 ⟨v7,rfl,e7,cy⟩;have ac:=Za H cy H.size;obtain ⟨B9,l9,k9,af,ag,ah,rfl,_,_⟩:=id e7;have aq:=a9.later ac;obtain ⟨c0,c1,c2,c3⟩:=aq.four;obtain ⟨f0,f1,f2,f3⟩:=aq.fourF;refine hKR.out _ _ (Or.inr ac) ?_;clear hKR KR;(try simp only [Act.put,pu1,pu2,pu3,pu4,pu5,pu6]);repeat ((first | (refine Zc (v:=?_) rfl rfl rfl ?_ ?_;rotate_left;(· (intro _ N;go_simp;(try go_bits);(try with_reducible rfl)))) | (refine Ze (v:=?_) rfl rfl rfl ?_ ?_;rotate_left;(· (intro _ N;go_simp;(try go_bits);(try with_reducible rfl)))) | refine Zf rfl rfl rfl ?_);(try simp only [Act.put,pu1,pu2,pu3,pu4,pu5,pu6]))
        refine Zg rfl rfl (fun KR hKR=>?_);go_simp;refine hKR.out _ _ (Or.inl (by decide)) ?_;clear hKR KR;(try simp only [Act.put,pu1,pu2,pu3,pu4,pu5,pu6]);refine Zv ?_;clear C0 C1 C2 C3 D0 D1 D2 D3 E0 E1 E2 E3 U0 U1;have cn:=Yb (w:=w7) (g:=gr) (i:=0) (j:=1) (k:=2) (l:=3) (x:= .bool (canF (rr - mi * xi)).num.neg) (y:= .slice B9 l9 k9) (z:= .bool (canF (rr - mi * xi)).den.neg) (u:= .slice af ag ah);have ad:=aq.but4 (.bool (canF (rr - mi * xi)).num.neg) (.slice B9 l9 k9) (.bool (canF (rr - mi * xi)).den.neg) (.slice af ag ah);have b5:=(hO.below ac).others cn (ad.keep (by decide)) (fun b hb e=>by simp [Value.ownBlock] at hb;injection e with e;omega);have dh:=ad.bk (an.later ac) (by decide);have ar:=Z5 (Za I ac I.size) dc (.bool (canF (rr - mi * xi)).num.neg) (.slice B9 l9 k9) (.bool (canF (rr - mi * xi)).den.neg) (.slice af ag ah);have di:RstQ _ gr (restQ kt M X (i+1)):=⟨B9,l9,k9,af,ag,ah,by rw [ao.out,← ck.out,← cm.out,← cl.out];exact aq.set4 _ _ _ _,by rw [ao.out,← ck.out,← cm.out,← cl.out];exact e7.keep (ad.keep (by decide))⟩;clear hO aq an I E H ac e6 e7 ax cy c0 c1 c2 c3 f0 f1 f2 f3 F O aa ad cn ch ci ap cj a9;go_wp2;go_roundw
        case rel=>exact ⟨i+1,by omega,by go_num,b5,dh,di,ar⟩
        case measure=>simp [intOf];omega
    ·obtain rfl:n=i:=by omega
     obtain ⟨dp,dq,ds,dt,du,dv,a9,aa⟩:=a6;obtain ⟨t0,t1,t2,t3⟩:=a9.four;obtain ⟨s,A,_,_⟩:=hV.two;obtain ⟨bm,om,A8,n8,c8,A9,n9,c9,rfl,_,⟨z0,z1,z2,z3⟩,bp⟩:=bg.out.elem a (Z7 Z);have ao:Hid ((YT n X).set kt (canF (restQ kt M X n / M kt))=YT n (Zns n kt M X)):=JZ (by
      rw [V9 Z];exact Yf fun i hi=>rfl)
     obtain ⟨rr,J⟩:∃rr,rr=restQ kt M X n:=⟨_,rfl⟩;obtain ⟨mk,Y⟩:∃mk,mk=M kt:=⟨_,rfl⟩;have co:(canF mk).Sm:=(by rw [Y];exact (b0.out kt Z).rs.sm (by have:=HE.out;omega));have ap:(canF rr).Sm:=(by rw [J];exact (ca.out n (JY _)).rs.sm (by have:=HE.out;omega));have cp:(canF mk).q≠0:=(by rw [ZG,Y];exact db.out);rw [← J,← Y] at ao;rw [← Y] at z0 z2 bp;rw [← J] at t0 t2 aa;clear Y J a9
     go_upto_region 15 with (fail)
     have C0:=Zr t0;have C1:=Zr t1;have C2:=Zr t2;have C3:=Zr t3;have D0:=Zr z0;have D1:=Zr z1;have D2:=Zr z2;have D3:=Zr z3;have U0:=Zr s;have U1:=Zr A;have E:=Zj wr;clear t0 t1 t2 t3 z0 z1 z2 z3 s A;refine Zt 15 [0,1,2,3,4,5,6,7,8,9,10,11,12,13,14,15] (by kernel_rfl) (by kernel_rfl) ?_;repeat ((first | (refine Zc (v:=?_) rfl rfl rfl ?_ ?_;rotate_left;(· (intro _ N;go_simp;(try go_bits);(try with_reducible rfl)))) | (refine Ze (v:=?_) rfl rfl rfl ?_ ?_;rotate_left;(· (intro _ N;go_simp;(try go_bits);(try with_reducible rfl)))) | refine Zf rfl rfl rfl ?_);(try simp only [Act.put,pu1,pu2,pu3,pu4,pu5,pu6]))
     refine Zg rfl rfl (fun KR hKR=>?_);go_simp;(with_reducible refine (UX _ _ (canF rr) (canF mk) _ (aa.below E) (bp.below E) ap co cp).mono ?_);rw [ZG,ZG];rintro _ w6 ⟨v6,rfl,e6,ax⟩;have H:=Za E ax E.size;obtain ⟨B9,l9,k9,af,ag,ah,rfl,_,_⟩:=id e6;have bj:=hO.below H;obtain ⟨_,_,_,_,⟨c0,c1,c2,c3⟩,⟨f0,f1,f2,f3⟩,-⟩:=bj.at_ cd;refine hKR.out _ _ (Or.inr H) ?_;clear hKR KR;(try simp only [Act.put,pu1,pu2,pu3,pu4,pu5,pu6]);repeat ((first | (refine Zc (v:=?_) rfl rfl rfl ?_ ?_;rotate_left;(· (intro _ N;go_simp;(try go_bits);(try with_reducible rfl)))) | (refine Ze (v:=?_) rfl rfl rfl ?_ ?_;rotate_left;(· (intro _ N;go_simp;(try go_bits);(try with_reducible rfl)))) | refine Zf rfl rfl rfl ?_);(try simp only [Act.put,pu1,pu2,pu3,pu4,pu5,pu6]))
     refine Zg rfl rfl (fun KR hKR=>?_);go_simp;refine hKR.out _ _ (Or.inl (by decide)) ?_;clear hKR KR;(try simp only [Act.put,pu1,pu2,pu3,pu4,pu5,pu6]);refine Zv ?_;clear C0 C1 C2 C3 D0 D1 D2 D3 U0 U1;obtain ⟨b5,ad⟩:=bj.set_ (k:=kt) (by rw [Zu];exact Z) e6;rw [ao.out,← bw.out] at b5;have ar:=ZB (Za a H a.size) dk (kt * 4) (kt * 4+1) (kt * 4+2) (kt * 4+3) (.bool (canF (rr / mk)).num.neg) (.slice B9 l9 k9) (.bool (canF (rr / mk)).den.neg) (.slice af ag ah);clear hO bj hV a E H e6 ax c0 c1 c2 c3 f0 f1 f2 f3 aa bp ad ap co cp;go_wp2;go_roundw
     case rel=>exact ⟨j+1,(t:Int) - 1,by have:=be.out;omega,by have:=be.out;omega,by go_num,b5,ar⟩
     case measure=>simp [intOf]
section
attribute [local irreducible] Yi
end
namespace Pl
def dotS:List En→(Nat→Rat)→Rat
 | [],_=>0
 | e::es,g=>e.f.q * g e.idx.toNat+dotS es g
theorem dotS_append (g:Nat→Rat):∀(xs ys:List En),dotS (xs++ys) g=dotS xs g+dotS ys g
 | [],ys=>by simp only [List.nil_append,dotS];grind
 | e::xs,ys=>by simp only [List.cons_append,dotS,dotS_append g xs ys];grind
theorem dotS_take {es:List En} {k:Nat} {e:En} (h:es[k]? =some e) (g:Nat→Rat):dotS (es.take (k+1)) g=dotS (es.take k) g+e.f.q * g e.idx.toNat:=by
 rw [List.take_add_one,h,dotS_append];simp only [Option.toList,dotS];grind
theorem dotS_spV (f g:Nat→Rat):∀n,dotS (spV f n) g=Z6 (fun i=>f i * g i) n
 | 0=>rfl
 | n+1=>by
  rw [ZF,← dotS_spV f g n]
  by_cases h:f n=0
  ·rw [Y8 h,h];grind
  ·rw [Xo h,dotS_append]
   simp only [dotS,ZG,JP];grind
end Pl
namespace Pl
theorem spV_rw {f:Nat→Rat} {n K:Nat} (h:∀i,i < n→Sz K (f i)) (hK:K≤34359738368):EnW (spV f n):=fun k e he=>by
 obtain ⟨i,h1,_,h3,_⟩:=VB he
 rw [h3];exact (h i h1).rw hK
theorem Sz_dotS {es:List En} {g:Nat→Rat} {K J:Nat} (h:∀(k:Nat) (e:En),es[k]? =some e→e.f.Rs K) (hK:1≤K) (hg:∀(k:Nat) (e:En),es[k]? =some e→Sz J (g e.idx.toNat)):∀k,k≤es.length→Sz (1+k * (K+J+1)) (dotS (es.take k) g)
 | 0,_=>by simpa [dotS] using Sz_zero
 | k+1,hk=>by
  have he:=JQ (show k < es.length by omega)
  rw [dotS_take he]
  exact (Zrw (Sz_dotS h hK hg k (by omega)) (V5 ((h k _ he).sz hK) (hg k _ he))).mono (by rw [Nat.add_mul k 1];omega)
end Pl
theorem fromDense1_own [Old] (v:Value) (fs:List RF) (K:Nat) (w:World) (h:Zbn w v fs) (hl:fs.length≤4096) (hk:RsL K fs) (hK:K≤34359738368) (hOl:Zb w:=by (repeat (first | assumption | exact Zb.up (by assumption) hOl | exact Zb.up (Hid.out (by assumption)) hOl | with_reducible refine Zb.set ?_ _ _ | with_reducible refine Zb.mk_ ?_ _ | with_reducible refine Zb.dr ?_ | with_reducible refine Zb.drN ?_ | refine Zb.up (by assumption) ?_ | refine Zb.up (Hid.out (by assumption)) ?_))):
 Calls Tryz.prog 61 #[v] w fun e w'=>∃v',e= .returned (.tuple #[v',.int .i64 0])∧Wz w.heap.size w' v' (spV (qAt fs) fs.length)∧Below w.heap.size w w':=by
 have L:=hOl.le;obtain ⟨A,c,rfl,O,P⟩:=h.shape;have H:=JZ h;have HK:=JZ hk;generalize hn:fs.length=n at *;have HN:=JZ hn;have M:(n:Int)≤4096:=by omega
 clear h hk hn;go_enter Tryz.func61,Tryz.ntmps61;go_wp2
 go_loopw [4,5] (fun u i wr=>∃k:Nat,k≤n∧i= .int .i64 k∧Wz w.heap.size wr u (spV (qAt fs) k)∧Below w.heap.size w wr) (fun _ i _=>n - (intOf i).toNat)
 case atStart=>exact ⟨0,by omega,rfl,Wz.nil _ _,JR _ _⟩
 case round=>
  obtain ⟨k,hk,rfl,hO,j⟩:=hrel;rcases JX k n with hkl | hkl
  ·obtain ⟨f,hf⟩:=Zcs (fs:=fs) (i:=k) (by rw [HN.out];exact hkl);obtain ⟨b,R,A1,n1,k1,A2,n2,k2,rfl,S,⟨q0,q1,q2,q3⟩,p⟩:=H.out.elem j hf;have HQ:=JZ (UW hf);have s:f.Sh:=(HK.out k f hf).sh hK;have N:(k:Int) < n:=(by omega);clear hf;go_wp2_with fail;refine (Xl _ f _ p s).mono ?_;rintro _ w2 ⟨rfl,a⟩;have o:=hO.below a;have g:=Za j a j.size;have t:=p.below a;by_cases hq:f.q=0
   ·have z:(qs f.q !=0)=false:=(by rw [hq];decide);have HS:Hid (spV (qAt fs) (k+1)=spV (qAt fs) k):=JZ (Y8 (by rw [HQ.out];exact hq));clear hq;go_wp2;go_roundw
    case rel=>exact ⟨k+1,by omega,by go_num,by rw [HS.out];exact o,g⟩
    case measure=>simp [intOf];omega
   ·have z:(qs f.q !=0)=true:=(by simpa using fun e=>hq (Yz.1 e));have HS:Hid (spV (qAt fs) (k+1)=spV (qAt fs) k++[⟨(k:Int),canF f.q⟩]):=JZ (by rw [← HQ.out];exact Xo (by rw [HQ.out];exact hq));have C:=cell_later a q0;have D:=cell_later a q1;have E:=cell_later a q2;have F:=cell_later a q3;clear hq q0 q1 q2 q3;go_wp2_with fail;refine (YY _ f _ t s).mono ?_;rintro _ w3 ⟨v3,rfl,e3,r⟩;have x:=o.below r;have m:=Za g r g.size;obtain ⟨B,l,d,B',l',d',rfl,_,_⟩:=id e3;have HF:=JZ e3;have HO:=JZ x;have y:(spV (qAt fs) k).length+1≤1099511627776:=(by have:=Ve (f:=qAt fs) k;omega);have G:=m.size;clear hO o x j g r e3 C D E F t p;generalize hQ:canF f.q=Q at *;go_wp2_with (at_builtin;refine Vy rfl (.tmp 21) (.tmp 29) rfl w3 w.heap.size u4 (spV (qAt fs) k) rfl HO.out _ _ B B' l d l' d' (k:Int) Q HF.out rfl y G ?_);intro v' w4 I T J;go_wp2;go_roundw
    case rel=>exact ⟨k+1,by omega,by go_num,by rw [HS.out];exact I,m.trans J⟩
    case measure=>simp [intOf];omega
  ·obtain rfl:k=n:=by omega
   go_wp2;go_ret2;exact ⟨_,rfl,hO,j⟩
theorem toDense1_own [Old] (v:Value) (es:List En) (n K:Nat) (w:World) (h:Wy w v es) (hn:n≤4096) (hk:∀(k:Nat) (e:En),es[k]? =some e→e.f.Rs K) (hK:K≤34359738368) (hg:Pl.Good n es) (hOl:Zb w:=by (repeat (first | assumption | exact Zb.up (by assumption) hOl | exact Zb.up (Hid.out (by assumption)) hOl | with_reducible refine Zb.set ?_ _ _ | with_reducible refine Zb.mk_ ?_ _ | with_reducible refine Zb.dr ?_ | with_reducible refine Zb.drN ?_ | refine Zb.up (by assumption) ?_ | refine Zb.up (Hid.out (by assumption)) ?_))):
 Calls Tryz.prog 91 #[v,.int .i64 (n:Int)] w fun e w'=>∃v',e= .returned (.tuple #[v',.int .i64 0])∧YL w.heap.size w' v' (YT n (XZ es))∧Below w.heap.size w w':=by
 have y:=hOl.le;obtain ⟨A,c,rfl,D,E⟩:=h.shape;have H:=JZ h;have HK:=JZ fun k e he=>(hk k e he).sh hK
 have HG:=JZ hg;have HE:=JZ (hg.err hn);generalize hl:es.length=l at *;have x:Hid (EnI es):=JZ fun k e he=>by have:=hg.1 k e he;omega
 have z:=X5 n (by omega);clear hk hg hl;go_enter Tryz.func91,Tryz.ntmps91;go_wp2_with fail;refine (Zdo _ es (n:Int) _ h HK.out x.out (by omega) (by omega)).mono ?_;rw [HE.out];rintro _ w1 ⟨rfl,m⟩;have g:=YL.zeros w1 n (by unfold maxLen;omega);have j:=Zd w1 (.cells (zfc n) 36);rw [← Zni n es] at g;clear h;go_wp2;have o:=Za m j m.size;have p:=m.size;generalize w1.alloc (.cells (zfc n) 36)=W2 at *
 go_loopw [8] (fun i wr=>∃k:Nat,k≤n∧i= .int .i64 k∧Below w.heap.size w wr∧Below w1.heap.size w1 wr∧YL w1.heap.size wr (.slice (some ⟨w1.heap.size,0,none⟩) n n) (Znh n k es)) (fun i _=>n - (intOf i).toNat)
 case atStart=>exact ⟨0,by omega,rfl,o,j,g⟩
 case round=>
  clear o j g;obtain ⟨k,hk,rfl,a,b,hO⟩:=hrel;rcases JX k n with hkl | hkl
  ·have C:(k:Int) < n:=(by omega);have q:=Zqk (n:=n) (i:=k) (es:=es) hkl;go_wp2_with fail;refine (Zug _ es k _ (H.out.below a) HK.out HG.out.2.1).mono ?_;rintro _ w3 ⟨v3,rfl,e3,d⟩;obtain ⟨B,l9,d9,B',F,G,rfl,_,_⟩:=id e3;have r:=hO.below d;obtain ⟨_,_,_,_,⟨t0,t1,t2,t3⟩,⟨f0,f1,f2,f3⟩,_⟩:=r.at_ q;obtain ⟨u,I⟩:=r.set_ (k:=k) (by rw [VD];exact hkl) e3;rw [Zat hkl] at u;have s:=ZB (Za a d a.size) p (k * 4) (k * 4+1) (k * 4+2) (k * 4+3);have t:=ZB (Za b d b.size) (JY _) (k * 4) (k * 4+1) (k * 4+2) (k * 4+3);clear hO a b d;go_wp2;go_roundw
   case rel=>exact ⟨k+1,by omega,by go_num,s _ _ _ _,t _ _ _ _,u⟩
   case measure=>simp [intOf];omega
  ·obtain rfl:n=k:=by omega
   rw [Zqj] at hO;go_wp2;go_ret2;exact ⟨_,rfl,hO.monoB p,a⟩
theorem dot1_any [Old] (v1 v2:Value) (a b:List En) (n K:Nat) (w:World) (h:Wy w v1 a) (h2:Wy w v2 b) (hn:n≤60) (hk:∀(k:Nat) (e:En),a[k]? =some e→e.f.Rs K) (hk2:∀(k:Nat) (e:En),b[k]? =some e→e.f.Rs K) (hK1:1≤K) (hK:K≤64000000) (hg:Pl.Good n a) (hg2:Pl.Good n b) (hw:EnW a) (hOl:Zb w:=by (repeat (first | assumption | exact Zb.up (by assumption) hOl | exact Zb.up (Hid.out (by assumption)) hOl | with_reducible refine Zb.set ?_ _ _ | with_reducible refine Zb.mk_ ?_ _ | with_reducible refine Zb.dr ?_ | with_reducible refine Zb.drN ?_ | refine Zb.up (by assumption) ?_ | refine Zb.up (Hid.out (by assumption)) ?_))):
 Calls Tryz.prog 32 #[v1,v2,.int .i64 (n:Int)] w fun e w'=>∃v',e= .returned (.tuple #[v',.int .i64 0])∧Zm w' v' (canF (dotS a (XZ b)))∧Below w.heap.size w w':=by
 have ax:=hOl.le;obtain ⟨A,c,rfl,b0,b1⟩:=h.shape;obtain ⟨B,d,rfl,b2,b3⟩:=h2.shape;have HI:=JZ h;have HJ:=JZ h2;have S:Hid (∀(k:Nat) (e:En),a[k]? =some e→e.f.Sh):=JZ fun k e he=>(hk k e he).sh (by omega)
 have T:Hid (∀(k:Nat) (e:En),b[k]? =some e→e.f.Sh):=JZ fun k e he=>(hk2 k e he).sh (by omega)
 have af:=JZ hk;have ag:=JZ hw;have ah:=JZ (hg.err (by omega));have ai:=JZ (hg2.err (by omega));have aj:Hid (EnI a):=JZ fun k e he=>by have:=hg.1 k e he;omega
 have U:Hid (EnI b):=JZ fun k e he=>by have:=hg2.1 k e he;omega
 have ak:=JZ hg2.2.1;have HR:=JZ hg.1;have H:Hid (∀i,Sz K (XZ b i)):=JZ fun i=>Sz_col hk2 hK1 i
 have al:Hid (∀k,k≤a.length→Sz 8000000000 (dotS (a.take k) (XZ b))):=JZ fun k hk'=>(Sz_dotS hk hK1 (fun j e _=>Sz_col hk2 hK1 _) k hk').mono (by
  have h1:=hg.len;have h2:k * (K+K+1)≤60 * 128000001:=Nat.mul_le_mul (by omega) (by omega);omega)
 have ay:=hg.len;generalize hl:a.length=l at *;have HL:=JZ hl;have hR:=Bk.new w 36 [.bool false,.slice none 0 0,.bool false,.slice none 0 0];have C:=Zd w (.cells [.bool false,.slice none 0 0,.bool false,.slice none 0 0].toArray 36);obtain ⟨b4,z⟩:∃q:Rat,dotS a (XZ b)=q:=⟨_,rfl⟩;rw [z];have V:=JZ z;clear hk hk2 hg hg2 hl hw z;go_enter Tryz.func32,Tryz.ntmps32;go_wp2_with fail;generalize w.alloc _=W at *;refine (Zdo _ a (n:Int) _ (h.below C) S.out aj.out (by omega) (by omega)).mono ?_;rw [ah.out];rintro _ w1 ⟨rfl,O⟩;have p:=Za C O C.size;have X:=hR.later O;clear h C hR O;go_wp2_with fail;refine (Zdo _ b (n:Int) _ (h2.below p) T.out U.out (by omega) (by omega)).mono ?_;rw [ai.out];rintro _ w2 ⟨rfl,P⟩;have t:=Za p P p.size;have Y:=X.later P;clear h2 p X P;go_wp2_with fail;refine (X8 0 _ (by omega) (by omega)).mono ?_;obtain ⟨s0,J⟩:∃s:Rat,s=dotS (a.take 0) (XZ b):=⟨_,rfl⟩;have Z:=JZ J;rw [show (((0:Int):Rat))=s0 from J.symm▸rfl];clear J;rintro _ w3 ⟨v3,rfl,e3,R⟩;obtain ⟨E1,l1,k1,E2,l2,k2,rfl,_,_⟩:=id e3;have r:=Za t R t.size;have I:=Y.later R;have am:=r.size;go_wp2;obtain ⟨W4,a9,L,E⟩:=Zah w3 (.bool (canF (s0)).num.neg) (.slice E1 l1 k1) (.bool (canF (s0)).den.neg) (.slice E2 l2 k2);rw [a9];have F:=Za r E r.size;have a0:=I.later E;have e4:=e3.below E;have a1:=I.lt;obtain ⟨g,aa⟩:∃g,g=w3.heap.size:=⟨_,rfl⟩;rw [← aa] at L am a1 ⊢;clear t Y R r I e3 a9 E aa
 go_loopw [11] (fun x wr=>∃k:Nat,k≤l∧x= .int .i64 k∧Below w.heap.size w wr∧Bk wr w.heap.size 36 [.bool false,.slice none 0 0,.bool false,.slice none 0 0]∧∃(E1 E2:Option Addr) (l1 k1 l2 k2:Nat),Bk wr g 36 [.bool (canF (dotS (a.take k) (XZ b))).num.neg,.slice E1 l1 k1,.bool (canF (dotS (a.take k) (XZ b))).den.neg,.slice E2 l2 k2]∧Zm wr (.agg #[.bool (canF (dotS (a.take k) (XZ b))).num.neg,.slice E1 l1 k1,.bool (canF (dotS (a.take k) (XZ b))).den.neg,.slice E2 l2 k2]) (canF (dotS (a.take k) (XZ b)))) (fun x _=>l - (intOf x).toNat)
 case atStart=>exact ⟨0,by omega,rfl,F,a0,E1,E2,l1,k1,l2,k2,by rw [← Z.out];exact L,by rw [← Z.out];exact e4⟩
 case round=>
  clear F a0 L e4;obtain ⟨k,hk,rfl,hb,hR,D1,D2,m1,o1,m2,o2,hS,hs⟩:=hrel;rcases JX k l with hkl | hkl
  ·have az:(k:Int) < l:=(by omega);obtain ⟨e,he⟩:=YS (es:=a) (i:=k) (by rw [HL.out];exact hkl);obtain ⟨b5,o5,A5,n5,c5,A6,n6,c6,aw,_,⟨x0,x1,x2,x3,x4⟩,ab⟩:=HI.out.elem hb he;subst aw;have an:=S.out k e he;have HW:=JZ (ag.out k e he);obtain ⟨i0,i1⟩:=HR.out k e he;obtain ⟨j,hj⟩:=JT i0;have ao:(canF (dotS (a.take k) (XZ b))).Sh:=(al.out k hk).sh (by omega);have a2:=V5 ((af.out k e he).sz hK1) (H.out j);have a3:(canF (XZ b j)).Sh:=(H.out j).sh (by omega);have a4:(canF (XZ b j)).Rw:=(H.out j).rw (by omega);have HN:Hid (dotS (a.take k) (XZ b)+e.f.q * XZ b j=dotS (a.take (k+1)) (XZ b)):=JZ (by rw [dotS_take he,hj];rfl);have a5:(canF (e.f.q * XZ b j)).Sh:=a2.sh (by omega);obtain ⟨ei,ef⟩:=e;simp only at *;subst hj;obtain ⟨cq,M⟩:∃q,XZ b j=q:=⟨_,rfl⟩;rw [M] at a3 a4 HN a5;have ap:=JZ M;generalize dotS (a.take k) (XZ b)=sq at *;obtain ⟨sn,N⟩:∃q,dotS (a.take (k+1)) (XZ b)=q:=⟨_,rfl⟩;rw [N] at HN;have a6:=JZ N;clear N;clear he a2 M;obtain ⟨z0,z1,z2,z3⟩:=hS.four;go_wp2_with fail;have C0:=Zr x0;have C1:=Zr x1;have C2:=Zr x2;have C3:=Zr x3;have C4:=Zr x4;have D0:=Zr z0;have aq:=Zr z1;have ar:=Zr z2;have D3:=Zr z3;have D:=Zj wr;clear x0 x1 x2 x3 x4 z0 z1 z2 z3;refine Zt 15 [0,1,2,3,4,5,6,7,8,9,10,11,12,13,14,15] (by kernel_rfl) (by kernel_rfl) ?_;repeat ((first | (refine Zc (v:=?_) rfl rfl rfl ?_ ?_;rotate_left;(· (intro _ o;go_simp;(try go_bits);(try with_reducible rfl)))) | (refine Ze (v:=?_) rfl rfl rfl ?_ ?_;rotate_left;(· (intro _ o;go_simp;(try go_bits);(try with_reducible rfl)))) | refine Zf rfl rfl rfl ?_);(try simp only [Act.put,pu1,pu2,pu3,pu4,pu5,pu6]))
   refine Zg rfl rfl (fun KR hKR=>?_);go_simp;(with_reducible refine (Zug _ b j _ ((HJ.out.below hb).below D) T.out ak.out).mono ?_);rw [ap.out];rintro _ w6 ⟨v6,rfl,e6,ac⟩;have u:=Za D ac D.size;obtain ⟨E1,l1,k1,E2,l2,k2,rfl,_,_⟩:=id e6;refine hKR.out _ _ (Or.inr u) ?_;clear hKR KR;(try simp only [Act.put,pu1,pu2,pu3,pu4,pu5,pu6]);repeat ((first | (refine Zc (v:=?_) rfl rfl rfl ?_ ?_;rotate_left;(· (intro _ o;go_simp;(try go_bits);(try with_reducible rfl)))) | (refine Ze (v:=?_) rfl rfl rfl ?_ ?_;rotate_left;(· (intro _ o;go_simp;(try go_bits);(try with_reducible rfl)))) | refine Zf rfl rfl rfl ?_);(try simp only [Act.put,pu1,pu2,pu3,pu4,pu5,pu6]))
   refine Zg rfl rfl (fun KR hKR=>?_);go_simp;(with_reducible refine (Zfq _ _ ef (canF cq) _ (ab.below u) e6 an a3 HW.out a4).mono ?_);rw [ZG];rintro _ w8 ⟨v8,rfl,e8,ad⟩;have y:=Za u ad u.size;obtain ⟨G1,l3,k3,G2,l4,k4,rfl,_,_⟩:=id e8;refine hKR.out _ _ (Or.inr y) ?_;clear hKR KR;(try simp only [Act.put,pu1,pu2,pu3,pu4,pu5,pu6]);repeat ((first | (refine Zc (v:=?_) rfl rfl rfl ?_ ?_;rotate_left;(· (intro _ o;go_simp;(try go_bits);(try with_reducible rfl)))) | (refine Ze (v:=?_) rfl rfl rfl ?_ ?_;rotate_left;(· (intro _ o;go_simp;(try go_bits);(try with_reducible rfl)))) | refine Zf rfl rfl rfl ?_);(try simp only [Act.put,pu1,pu2,pu3,pu4,pu5,pu6]))
   refine Zg rfl rfl (fun KR hKR=>?_);go_simp;(with_reducible refine (Zog _ _ (canF sq) (canF (ef.q * cq)) _ (hs.below y) e8 ao a5).mono ?_);rw [ZG,ZG,HN.out];rintro _ w9 ⟨v9,rfl,e9,ae⟩;have m:=Za y ae y.size;obtain ⟨C1,l5,k5,C2,l6,k6,rfl,_,_⟩:=id e9;obtain ⟨t0,t1,t2,t3⟩:=(hS.later m).four;obtain ⟨f0,f1,f2,f3⟩:=(hS.later m).fourF;refine hKR.out _ _ (Or.inr m) ?_;clear hKR KR;(try simp only [Act.put,pu1,pu2,pu3,pu4,pu5,pu6]);repeat ((first | (refine Zc (v:=?_) rfl rfl rfl ?_ ?_;rotate_left;(· (intro _ o;go_simp;(try go_bits);(try with_reducible rfl)))) | (refine Ze (v:=?_) rfl rfl rfl ?_ ?_;rotate_left;(· (intro _ o;go_simp;(try go_bits);(try with_reducible rfl)))) | refine Zf rfl rfl rfl ?_);(try simp only [Act.put,pu1,pu2,pu3,pu4,pu5,pu6]))
   refine Zg rfl rfl (fun KR hKR=>?_);go_simp;refine hKR.out _ _ (Or.inl (by decide)) ?_;clear hKR KR;(try simp only [Act.put,pu1,pu2,pu3,pu4,pu5,pu6]);refine Zv ?_;have G:=Za hb m hb.size;have a7:=(hS.later m).set4 (.bool (canF sn).num.neg) (.slice C1 l5 k5) (.bool (canF sn).den.neg) (.slice C2 l6 k6);have au:=(hR.later m).far4 (show w.heap.size≠g by omega) (.bool (canF sn).num.neg) (.slice C1 l5 k5) (.bool (canF sn).den.neg) (.slice C2 l6 k6);have av:=e9.keep ((hS.later m).keep4 (by decide) (.bool (canF sn).num.neg) (.slice C1 l5 k5) (.bool (canF sn).den.neg) (.slice C2 l6 k6));have a8:=Z5 G (show w.heap.size≤g by omega) (.bool (canF sn).num.neg) (.slice C1 l5 k5) (.bool (canF sn).den.neg) (.slice C2 l6 k6);clear hb G hS hs m y u D ac ad ae e6 e8 e9 hR ab t0 t1 t2 t3 f0 f1 f2 f3 C0 C3 C4 D0 D3 aq ar;go_wp2;go_roundw
   case rel=>exact ⟨k+1,by omega,by go_num,a8,au,C1,C2,l5,k5,l6,k6,by rw [a6.out];exact a7,by rw [a6.out];exact av⟩
   case measure=>simp [intOf];omega
  ·obtain rfl:l=k:=by omega
   have HT:Hid (a.take l=a):=JZ (by rw [← HL.out];exact List.take_length);rw [HT.out,V.out] at hS hs;obtain ⟨z0,z1,z2,z3⟩:=hS.four;obtain ⟨t0,t1,t2,t3⟩:=hR.four;obtain ⟨f0,f1,f2,f3⟩:=hR.fourF;go_wp2;refine XN Tryz.results32 Tryz.underlying36 (by kernel_rfl) rfl (hR.set4 _ _ _ _) rfl ?_;obtain ⟨vv,e1,e2,e3⟩:=Yr hR hs hb (JY _);injection e1 with e1;subst e1;exact ⟨_,rfl,e2,e3⟩
namespace Pl
theorem subQ_cpy (es:List En) (k:Int) (z:Rat) (g:Nat→Rat) (i:Nat):∀t,VE es k z g t i=VE (Zla es) k z g t i
 | 0=>rfl
 | t+1=>by
  have ih:=subQ_cpy es k z g i t
  unfold VE
  have hc:(Zla es)[t]? =(es[t]?).map fun e=>⟨e.idx,canF e.f.q⟩:=by unfold Zla;rw [List.getElem?_map]
  rw [hc]
  cases es[t]? with
  | none=>exact ih
  | some e=>simp only [Option.map,ZG,ih]
theorem cpyV_length (es:List En):(Zla es).length=es.length:=by unfold Zla;rw [List.length_map]
theorem subQ_all {n:Nat} {es:List En} (h:Good n es) (z:Rat) (g:Nat→Rat) {i:Nat} (hi:i < n):VE es (n:Int) z g es.length i=g i - XZ es i * z:=by
 rw [subQ_cpy,← cpyV_length es,cpyV_spV h,Zde,if_pos ⟨hi,by omega⟩]
theorem spV0:∀n:Nat,spV (fun _=>(0:Rat)) n=[]
 | 0=>rfl
 | n+1=>by rw [Y8 rfl];exact spV0 n
theorem subQ_some {n:Nat} {es:List En} (h:Good n es) (z:Rat) (g:Nat→Rat) {i t:Nat} (ht:t≤es.length):VE es (n:Int) z g t i=g i∨(i < n∧VE es (n:Int) z g t i=g i - XZ es i * z):=by
 rw [← cpyV_length es,cpyV_spV h] at ht;rw [subQ_cpy,cpyV_spV h];rcases Zin (XZ es) n z g i n t ht with e | ⟨e1,_,e2⟩
 ·exact Or.inl e
 ·exact Or.inr ⟨e1,e2⟩
end Pl
theorem Wz.monoB [Old] {base base':Nat} {w:World} {v:Value} {es:List En} (h:Wz base w v es) (hb:base'≤base):Wz base' w v es:=by
 obtain ⟨cs,h1,h2⟩:=h;exact ⟨cs,WX h1 hb,h2⟩
theorem addScaled1_own [Old] (va vb vk:Value) (a b:List En) (kf:RF) (n K J:Nat) (w:World) (h1:Wy w va a) (h2:Wy w vb b) (h3:Zm w vk kf) (hn:n≤60) (hka:∀(k:Nat) (e:En),a[k]? =some e→e.f.Rs J) (hkb:∀(k:Nat) (e:En),b[k]? =some e→e.f.Rs K) (hw:EnW b) (hkw:kf.Rw) (hks:kf.Rs K) (hg:Pl.Good n a) (hg2:Pl.Good n b) (hz:∀t i,t≤b.length→i < n→Sz J (VE b n (-kf.q) (XZ a) t i)) (hK1:1≤K) (hK:K≤17179869184) (hJ:J≤34359738368) (hOl:Zb w:=by (repeat (first | assumption | exact Zb.up (by assumption) hOl | exact Zb.up (Hid.out (by assumption)) hOl | with_reducible refine Zb.set ?_ _ _ | with_reducible refine Zb.mk_ ?_ _ | with_reducible refine Zb.dr ?_ | with_reducible refine Zb.drN ?_ | refine Zb.up (by assumption) ?_ | refine Zb.up (Hid.out (by assumption)) ?_))):
 Calls Tryz.prog 63 #[va,vb,vk,.int .i64 (n:Int)] w fun o w'=>∃v',o= .returned (.tuple #[v',.int .i64 0])∧Wz w.heap.size w' v' (spV (VE b n (-kf.q) (XZ a) b.length) n)∧Below w.heap.size w w':=by
 have au:=hOl.le;obtain ⟨Ab,cb,rfl,b2,b3⟩:=h2.shape;obtain ⟨Ak,nk,ck,O,P,R,rfl,_,_⟩:=id h3;have H2:=JZ h2;have ac:=JZ hkb;have ad:=JZ hw;have ae:=JZ hkw;have U:=JZ hks;have V:Hid (∀(k:Nat) (e:En),b[k]? =some e→e.f.Sh):=JZ fun k e he=>(hkb k e he).sh (by omega)
 have af:=JZ (hg2.err (show n≤4096 by omega));have ag:Hid (EnI b):=JZ fun k e he=>by have:=hg2.1 k e he;omega
 have HR:=JZ hg2.1;have av:=hK;obtain ⟨TQ,A⟩:∃TQ:Nat→Nat→Rat,TQ=VE b n (-kf.q) (XZ a):=⟨_,rfl⟩;rw [← A] at hz ⊢;have ah:=JZ A;have HZ:=JZ hz;have ai:Hid (YT n (XZ a)=YT n (TQ 0)):=JZ (by rw [A];rfl);have aw:=hg2.len;generalize hl:b.length=l at *;have HL:=JZ hl;obtain ⟨W,hW,hX,m⟩:=Zah w (.bool kf.num.neg) (.slice Ak nk ck) (.bool kf.den.neg) (.slice O P R);have ax:=hX.lt;have X:=h3.below m;clear h2 h3 hkb hw hkw hks hg2 A hz hl;go_enter Tryz.func63,Tryz.ntmps63;go_wp2_with fail;clear hW;refine (toDense1_own _ a n J _ (h1.below m) (by omega) hka hJ hg).mono ?_;rw [ai.out];rintro _ w1 ⟨v1,rfl,C,D⟩;obtain ⟨A1,c1,rfl,ao,b4⟩:=C.frs.shape;rw [Zu] at C ao ⊢;have d:=Za m D m.size;have Y:=hX.later D;have Z:=X.below D;have ay:=m.size;clear h1 hka hg hX X m D;go_wp2_with fail;refine (Zdo _ b (n:Int) _ (H2.out.below d) V.out ag.out (by omega) (by omega)).mono ?_;rw [af.out];rintro _ w2 ⟨rfl,y⟩;have E:=Za d y d.size;have a0:=Y.later y;have a1:=Z.below y;have a2:=C.below y;clear d Y Z C y;go_wp2
 go_loopw [13] (fun x wr=>∃k:Nat,k≤l∧x= .int .i64 k∧Below w.heap.size w wr∧Bk wr w.heap.size 36 [.bool kf.num.neg,.slice Ak nk ck,.bool kf.den.neg,.slice O P R]∧Zm wr (.agg #[.bool kf.num.neg,.slice Ak nk ck,.bool kf.den.neg,.slice O P R]) kf∧YL W.heap.size wr (.slice A1 n c1) (YT n (TQ k))) (fun x _=>l - (intOf x).toNat)
 case atStart=>exact ⟨0,by omega,rfl,E,a0,a1,a2⟩
 case round=>
  clear E a0 a1 a2;obtain ⟨k,hk,rfl,hb,hX,S,hO⟩:=hrel;rcases JX k l with hkl | hkl
  ·have az:(k:Int) < l:=(by omega);obtain ⟨e,he⟩:=YS (es:=b) (i:=k) (by rw [HL.out];exact hkl);obtain ⟨b5,o5,A5,n5,c5,A6,n6,c6,ap,_,⟨x0,x1,x2,x3,x4⟩,a9⟩:=H2.out.elem hb he;subst ap;have aj:=V.out k e he;have HW:=JZ (ad.out k e he);have a3:=ac.out k e he;obtain ⟨i0,i1⟩:=HR.out k e he;obtain ⟨j,hj⟩:=JT i0;have p:j < n:=(by omega);obtain ⟨g,c9,aq,b6,hg2,_,_⟩:=hO.shape (by rw [Zu];omega);injection aq with hv1 hv2 hv3;subst hv1 hv3;clear hv2;have a4:YT n (fun i=>if i=j then TQ k j+kf.q * e.f.q else TQ k i)=YT n (TQ (k+1)):=Yf fun i hi=>by
    rw [ah.out,Ztv he (by omega) hj];by_cases c:i=j
    ·rw [if_pos c,if_pos c];grind
    ·rw [if_neg c,if_neg c]
   have a5:=JZ a4;have L:=HZ.out k j (by omega) p;have a6:=a3.sz hK1;have F:=Z7 (f:=TQ k) p;obtain ⟨ei,ef⟩:=e;simp only at *;subst hj;obtain ⟨xq,B⟩:∃q,TQ k j=q:=⟨_,rfl⟩;rw [B] at a5 L F;have b0:=JZ B;obtain ⟨b7,o7,A7,n7,c7,A8,n8,c8,u,_,⟨y0,y1,y2,y3⟩,T⟩:=hO.frs.elem (JR _ _) (Z7 (f:=TQ k) p);injection u with u;injection u with u hA8;subst u hA8;rw [B] at y0 y2 T;simp only [Nat.zero_add] at y0 y1 y2 y3;have ak:kf.Sh:=U.out.sh (by omega);have shX:(canF xq).Sh:=L.sh (by omega);have al:(canF (kf.q * ef.q)).Sh:=by
    exact (V5 (U.out.sz hK1) a6).sh (by omega)
   have b1:(j:Int) < n:=(by omega);clear he B a3 L a4 a6;obtain ⟨z0,z1,z2,z3⟩:=hX.four;go_wp2_with fail;have C0:=Zr x0;have C1:=Zr x1;have C2:=Zr x2;have C3:=Zr x3;have C4:=Zr x4;have D0:=Zr z0;have D1:=Zr z1;have D2:=Zr z2;have D3:=Zr z3;have E0:=Zr y0;have E1:=Zr y1;have E2:=Zr y2;have E3:=Zr y3;have r:=Zj wr;clear x0 x1 x2 x3 x4 z0 z1 z2 z3 y0 y1 y2 y3;refine Zt 23 [0,1,2,3,4,5,6,7,8,9,10,11,12,13,14,15,16,17,18,19,20,21,22,23] (by kernel_rfl) (by kernel_rfl) ?_;repeat ((first | (refine Zc (v:=?_) rfl rfl rfl ?_ ?_;rotate_left;(· (intro _ z;go_simp;(try go_bits);(try with_reducible rfl)))) | (refine Ze (v:=?_) rfl rfl rfl ?_ ?_;rotate_left;(· (intro _ z;go_simp;(try go_bits);(try with_reducible rfl)))) | refine Zf rfl rfl rfl ?_);(try simp only [Act.put,pu1,pu2,pu3,pu4,pu5,pu6]))
   refine Zg rfl rfl (fun KR hKR=>?_);go_simp;(with_reducible refine (Zfq _ _ kf ef _ (S.below r) (a9.below r) ak aj ae.out HW.out).mono ?_);rintro _ w8 ⟨v8,rfl,e8,aa⟩;have s:=Za r aa r.size;obtain ⟨G1,l3,k3,G2,l4,k4,rfl,_,_⟩:=id e8;refine hKR.out _ _ (Or.inr s) ?_;clear hKR KR;(try simp only [Act.put,pu1,pu2,pu3,pu4,pu5,pu6]);repeat ((first | (refine Zc (v:=?_) rfl rfl rfl ?_ ?_;rotate_left;(· (intro _ z;go_simp;(try go_bits);(try with_reducible rfl)))) | (refine Ze (v:=?_) rfl rfl rfl ?_ ?_;rotate_left;(· (intro _ z;go_simp;(try go_bits);(try with_reducible rfl)))) | refine Zf rfl rfl rfl ?_);(try simp only [Act.put,pu1,pu2,pu3,pu4,pu5,pu6]))
   refine Zg rfl rfl (fun KR hKR=>?_);go_simp;(with_reducible refine (Zog _ _ (canF xq) (canF (kf.q * ef.q)) _ (T.below s) e8 shX al).mono ?_);rw [ZG,ZG];rintro _ w9 ⟨v9,rfl,e9,ab⟩;have h:=Za s ab s.size;obtain ⟨C1,l5,k5,C2,l6,k6,rfl,_,_⟩:=id e9;have M:=hO.below h;obtain ⟨_,_,_,_,⟨t0,t1,t2,t3⟩,⟨f0,f1,f2,f3⟩,_⟩:=M.at_ F;refine hKR.out _ _ (Or.inr h) ?_;clear hKR KR;(try simp only [Act.put,pu1,pu2,pu3,pu4,pu5,pu6]);repeat ((first | (refine Zc (v:=?_) rfl rfl rfl ?_ ?_;rotate_left;(· (intro _ z;go_simp;(try go_bits);(try with_reducible rfl)))) | (refine Ze (v:=?_) rfl rfl rfl ?_ ?_;rotate_left;(· (intro _ z;go_simp;(try go_bits);(try with_reducible rfl)))) | refine Zf rfl rfl rfl ?_);(try simp only [Act.put,pu1,pu2,pu3,pu4,pu5,pu6]))
   refine Zg rfl rfl (fun KR hKR=>?_);go_simp;refine hKR.out _ _ (Or.inl (by decide)) ?_;clear hKR KR;(try simp only [Act.put,pu1,pu2,pu3,pu4,pu5,pu6]);refine Zv ?_;have G:=Za hb h hb.size;obtain ⟨H,I⟩:=M.set_ (k:=j) (by rw [Zu];exact p) e9;rw [V9 p,a5.out] at H;have a7:=(hX.later h).far4' (show w.heap.size≠g by omega) (j * 4) (j * 4+1) (j * 4+2) (j * 4+3) (.bool (canF (xq+kf.q * ef.q)).num.neg) (.slice C1 l5 k5) (.bool (canF (xq+kf.q * ef.q)).den.neg) (.slice C2 l6 k6);have N:=(S.below h).keep (I.keep (by decide));have a8:=ZB G (show w.heap.size≤g by omega) (j * 4) (j * 4+1) (j * 4+2) (j * 4+3) (.bool (canF (xq+kf.q * ef.q)).num.neg) (.slice C1 l5 k5) (.bool (canF (xq+kf.q * ef.q)).den.neg) (.slice C2 l6 k6);clear hb G hO M h s r aa ab e8 e9 hX S a9 T t0 t1 t2 t3 f0 f1 f2 f3 C0 C3 C4 D0 D1 D2 D3 E0 E1 E2 E3 I;go_wp2;go_roundw
   case rel=>exact ⟨k+1,by omega,by go_num,a8,a7,N,H⟩
   case measure=>simp [intOf];omega
  ·obtain rfl:l=k:=by omega
   have am:Hid (RsL J (YT n (TQ l))):=JZ fun i f hf=>by
    have hi:i < n:=(by have:=(List.getElem?_eq_some_iff.1 hf).1;rwa [Zu] at this);rw [Z7 hi] at hf;injection hf with hf;rw [← hf];exact (HZ.out l i (JY _) hi).rs
   have an:Hid (spV (qAt (YT n (TQ l))) n=spV (TQ l) n):=JZ (WM fun i hi=>Zpu hi);go_wp2_with fail;refine (fromDense1_own _ (YT n (TQ l)) J _ hO.frs (by rw [Zu];omega) am.out hJ).mono ?_;rw [Zu,an.out];rintro _ w5 ⟨v5,rfl,e5,ar⟩;go_wp2;go_ret2;exact ⟨_,rfl,e5.monoB hb.size,Za hb ar hb.size⟩
theorem multiply1_own [Old] (vc vx:Value) (cols:List (List En)) (xs:List En) (n m K J:Nat) (w:World) (h1:Xf w vc cols) (h2:Wy w vx xs) (hl:cols.length=m) (hm:m≤60) (hn:n≤60) (hg:∀(k:Nat) (c:List En),cols[k]? =some c→Pl.Good n c∧EnW c∧∀(j:Nat) (e:En),c[j]? =some e→e.f.Rs K) (hgx:Pl.Good m xs) (hwx:EnW xs) (hkx:∀(j:Nat) (e:En),xs[j]? =some e→e.f.Rs K) (hS:∀k r,k≤xs.length→r < n→Sz J (dotS (xs.take k) fun j=>Yu cols j r)) (hK1:1≤K) (hK:K≤17179869184) (hJ:J≤34359738368) (hOl:Zb w:=by (repeat (first | assumption | exact Zb.up (by assumption) hOl | exact Zb.up (Hid.out (by assumption)) hOl | with_reducible refine Zb.set ?_ _ _ | with_reducible refine Zb.mk_ ?_ _ | with_reducible refine Zb.dr ?_ | with_reducible refine Zb.drN ?_ | refine Zb.up (by assumption) ?_ | refine Zb.up (Hid.out (by assumption)) ?_))):
 Calls Tryz.prog 31 #[vc,vx,.int .i64 (n:Int)] w fun o w'=>∃v',o= .returned (.tuple #[v',.int .i64 0])∧Wy w' v' (spV (fun r=>dotS xs fun j=>Yu cols j r) n)∧Below w.heap.size w w':=by
 have ae:=hOl.le;obtain ⟨Ac,cc,rfl,aa,ah⟩:=h1.shape;obtain ⟨Ax,cx,rfl,ai,aj⟩:=h2.shape;have H1:=JZ h1;have H2:=JZ h2;have HG:=JZ hg;have N:=JZ hwx;have O:=JZ hkx;have P:=JZ hgx;have HS:=JZ hS;have B:=JZ hl;have R:=JZ (hgx.err (show m≤4096 by omega));have T:Hid (∀(k:Nat) (e:En),xs[k]? =some e→e.f.Sh):=JZ fun k e he=>(hkx k e he).sh (by omega)
 have U:Hid (EnI xs):=JZ fun k e he=>by have:=hgx.1 k e he;omega
 rw [hl] at aa ⊢;have af:=hgx.len;generalize hlx':xs.length=lx at *;have V:=JZ hlx';obtain ⟨S,l⟩:∃S:Nat→Nat→Rat,S=fun k r=>dotS (xs.take k) fun j=>Yu cols j r:=⟨_,rfl⟩
 have g:=JZ l;have C:Hid (spV (S lx) n=spV (fun r=>dotS xs fun j=>Yu cols j r) n):=JZ (by rw [l,← hlx'];simp only [List.take_length]);rw [← C.out];have X:Hid (([]:List En)=spV (S 0) n):=JZ (by
  rw [l];exact (spV0 n).symm)
 clear h1 h2 hg hwx hkx hgx hS hl hlx' l;go_enter Tryz.func31,Tryz.ntmps31;go_wp2
 go_loopw [8] (fun x wr=>∃k:Nat,k≤m∧x= .int .i64 k∧Below w.heap.size w wr) (fun x _=>m - (intOf x).toNat)
 case atStart=>exact ⟨0,by omega,rfl,JR _ _⟩
 case round=>
  obtain ⟨k,hk,rfl,hb⟩:=hrel;rcases JX k m with hkl | hkl
  ·have Y:(k:Int) < m:=(by omega);obtain ⟨c,hc⟩:=XI (cs:=cols) (i:=k) (by rw [B.out];exact hkl);obtain ⟨b5,o5,A5,c5,z,_,x0,d⟩:=H1.out.elem hb hc;subst z;obtain ⟨g1,g2,g3⟩:=HG.out k c hc;have he:=g1.err (show n≤4096 by omega);have D:EnI c:=fun k e he=>by have:=g1.1 k e he;omega
   clear hc;go_wp2_with fail;refine (Zdo _ c (n:Int) _ d (fun k e he=>(g3 k e he).sh (by omega)) D (by omega) (by omega)).mono ?_;rw [he];rintro _ w2 ⟨rfl,p⟩;clear g1 g2 g3 he D x0 d;go_wp2;go_roundw
   case rel=>exact ⟨k+1,by omega,by go_num,Za hb p hb.size⟩
   case measure=>simp [intOf];omega
  ·obtain rfl:m=k:=by omega
   go_wp2_with fail;refine (Zdo _ xs (m:Int) _ (H2.out.below hb) T.out U.out (by omega) (by omega)).mono ?_;rw [R.out];rintro _ w2 ⟨rfl,p⟩;have E:=Za hb p hb.size;clear hb p;go_wp2
   go_loopw [11,12] (fun u x wr=>∃k:Nat,k≤lx∧x= .int .i64 k∧Below w.heap.size w wr∧Wy wr u (spV (S k) n)) (fun _ x _=>lx - (intOf x).toNat)
   case atStart=>exact ⟨0,by omega,rfl,E,by rw [← X.out];exact (Wz.nil 0 _).vec⟩
   case round=>
    clear E;obtain ⟨k,hk,rfl,hb,hs⟩:=hrel;rcases JX k lx with hkl | hkl
    ·have Y:(k:Int) < lx:=(by omega);obtain ⟨e,he⟩:=YS (es:=xs) (i:=k) (by rw [V.out];exact hkl);obtain ⟨b5,o5,A5,n5,c5,A6,n6,c6,z,_,⟨x0,x1,x2,x3,x4⟩,G⟩:=H2.out.elem hb he;subst z;obtain ⟨i0,i1⟩:=P.out.1 k e he;obtain ⟨j,hj⟩:=JT i0;have Z:j < m:=(by omega);obtain ⟨c,hc⟩:=XI (cs:=cols) (i:=j) (by rw [B.out];exact Z);obtain ⟨b7,o7,A7,c7,ab,_,y0,d⟩:=H1.out.elem hb hc;subst ab;obtain ⟨g1,g2,g3⟩:=HG.out j c hc;have s:=JZ g1;have a0:=JZ g2;have a1:=JZ g3;have a2:=JZ (N.out k e he);have a3:=JZ (O.out k e he);have F:=Wu hc;have a:∀r,S (k+1) r=S k r+e.f.q * XZ c r:=fun r=>by
      rw [g.out];show dotS (xs.take (k+1)) _=dotS (xs.take k) _+_;rw [dotS_take he,hj];show _+_ * Yu cols j r=_;rw [F]
     have h:∀r,r < n→XZ (spV (S k) n) r=S k r:=fun r hr=>by rw [Zsb,if_pos hr]
     have a4:Hid (∀t r,t≤c.length→r < n→Sz J (VE c n (-e.f.q) (XZ (spV (S k) n)) t r)):=JZ fun t r ht hr=>by
      have e1:Sz J (S k r):=(by have:=HS.out k r hk hr;rw [g.out];exact this);have e2:Sz J (S (k+1) r):=(by have:=HS.out (k+1) r hkl hr;rw [g.out];exact this);rcases subQ_some s.out (-e.f.q) (XZ (spV (S k) n)) (i:=r) ht with q | ⟨_,q⟩
      ·rw [q,h r hr];exact e1
      ·rw [q,h r hr,show S k r - XZ c r * -e.f.q=S (k+1) r by rw [a];grind];exact e2
     have a5:Hid (spV (VE c n (-e.f.q) (XZ (spV (S k) n)) c.length) n=spV (S (k+1)) n):=JZ (WM fun r hr=>by
      rw [subQ_all s.out _ _ hr,h r hr,a];grind)
     have a6:=JZ (Zqi (S k) n);have a7:Hid (∀(i:Nat) (e:En),(spV (S k) n)[i]? =some e→e.f.Rs J):=JZ (Zsc fun r hr=>by have:=HS.out k r hk hr;rw [g.out];exact this);obtain ⟨Au,cu,H,ac,ak⟩:=hs.shape;obtain ⟨lu,I⟩:∃x,(spV (S k) n).length=x:=⟨_,rfl⟩;obtain ⟨lc,L⟩:∃x,c.length=x:=⟨_,rfl⟩;rw [I] at H ac;subst H;rw [L] at d y0;have ag:(j:Int) < m:=(by omega);clear he hc F a h g1 g2 g3 I L;obtain ⟨ei,ef⟩:=e;simp only at *;subst hj;generalize ad:S k=Sk at *;clear ad;go_wp2_with fail;have C0:=Zr x0;have C1:=Zr x1;have C2:=Zr x2;have C3:=Zr x3;have C4:=Zr x4;have E0:=Zr y0;have b:=Zj wr;clear x0 x1 x2 x3 x4 y0;refine Zt 20 [0,1,2,3,4,5,6,7,8,9,10,11,12,13,14,15,16,17,18,19] (by kernel_rfl) (by kernel_rfl) ?_;repeat ((first | (refine Zc (v:=?_) rfl rfl rfl ?_ ?_;rotate_left;(· (intro _ A;go_simp;(try go_bits);(try with_reducible rfl)))) | (refine Ze (v:=?_) rfl rfl rfl ?_ ?_;rotate_left;(· (intro _ A;go_simp;(try go_bits);(try with_reducible rfl)))) | refine Zf rfl rfl rfl ?_);(try simp only [Act.put,pu1,pu2,pu3,pu4,pu5,pu6]))
     refine Zg rfl rfl (fun KR hKR=>?_);go_simp;(with_reducible refine (addScaled1_own _ _ _ (spV Sk n) c ef n K J _ (hs.below b) (d.below b) (G.below b) hn a7.out a1.out a0.out a2.out a3.out a6.out s.out a4.out hK1 (by omega) (by omega)).mono ?_);rw [a5.out];rintro _ w8 ⟨v8,rfl,e8,M⟩;have y:=Za b M b.size;refine hKR.out _ _ (Or.inr y) ?_;clear hKR KR;(try simp only [Act.put,pu1,pu2,pu3,pu4,pu5,pu6]);repeat ((first | (refine Zc (v:=?_) rfl rfl rfl ?_ ?_;rotate_left;(· (intro _ A;go_simp;(try go_bits);(try with_reducible rfl)))) | (refine Ze (v:=?_) rfl rfl rfl ?_ ?_;rotate_left;(· (intro _ A;go_simp;(try go_bits);(try with_reducible rfl)))) | refine Zf rfl rfl rfl ?_);(try simp only [Act.put,pu1,pu2,pu3,pu4,pu5,pu6]))
     refine Zv ?_;have a8:=Za hb y hb.size;have a9:=e8.vec;clear hb hs b y M e8 G d C0 C1 C2 C3 C4 E0;go_wp2;go_roundw
     case rel=>exact ⟨k+1,by omega,by go_num,a8,a9⟩
     case measure=>simp [intOf];omega
    ·obtain rfl:lx=k:=by omega
     go_wp2;go_ret2;exact ⟨_,rfl,hs,hb⟩
section
attribute [local irreducible] Yi
end
section
attribute [local irreducible] Yi
end
section
attribute [local irreducible] Yi
end
section
attribute [local irreducible] Yi
end
section
attribute [local irreducible] Yi
end
theorem cancopy_any [Old] (v1 v2:Value) (es:List En) (w:World) (h:Wy w v1 (Zla es)) (h2:Wy w v2 es) (hs:∀(k:Nat) (e:En),es[k]? =some e→e.f.Sh) (hOl:Zb w:=by (repeat (first | assumption | exact Zb.up (by assumption) hOl | exact Zb.up (Hid.out (by assumption)) hOl | with_reducible refine Zb.set ?_ _ _ | with_reducible refine Zb.mk_ ?_ _ | with_reducible refine Zb.dr ?_ | with_reducible refine Zb.drN ?_ | refine Zb.up (by assumption) ?_ | refine Zb.up (Hid.out (by assumption)) ?_))):
 Calls Tryz.prog 17 #[v1,v2] w fun o w'=>o= .returned (.bool true)∧Below w.heap.size w w':=by
 have E:=hOl.le;obtain ⟨A,c,rfl,t,G⟩:=h.shape;obtain ⟨B,d,rfl,y,H⟩:=h2.shape;have n:(Zla es).length=es.length:=by simp [Zla]
 rw [n] at h t ⊢;obtain ⟨l,hl⟩:∃l,es.length=l:=⟨_,rfl⟩;rw [hl] at h t h2 y ⊢;have H1:=JZ h;have H2:=JZ h2;have HL:=JZ hl;have HS:=JZ hs;clear h h2 hl hs n;go_enter Tryz.func17,Tryz.ntmps17;go_wp2
 go_loopw [5] (fun i wr=>∃k:Nat,k≤l∧i= .int .i64 k∧Below w.heap.size w wr) (fun i _=>l - (intOf i).toNat)
 case atStart=>exact ⟨0,by omega,rfl,JR _ _⟩
 case round=>
  obtain ⟨k,hk,rfl,a⟩:=hrel;rcases JX k l with hkl | hkl
  ·obtain ⟨e,he⟩:∃e,es[k]? =some e:=⟨es[k]'(by rw [HL.out];exact hkl),JQ (by rw [HL.out];exact hkl)⟩;have p:(Zla es)[k]? =some ⟨e.idx,canF e.f.q⟩:=(by simp [Zla,he]);obtain ⟨b1,o1,A1,n1,c1,A2,n2,c2,rfl,_,⟨x0,x1,x2,x3,x4⟩,m⟩:=H1.out.elem a p;obtain ⟨b2,o2,A3,n3,c3,A4,n4,c4,rfl,_,⟨y0,y1,y2,y3,y4⟩,u⟩:=H2.out.elem a he;have r:=HS.out k e he;have F:(k:Int) < l:=(by omega);clear he p
   dsimp only at x0 x1 x3 m
   obtain ⟨f,hf⟩:∃f,e.f=f:=⟨_,rfl⟩;obtain ⟨z,hz⟩:∃z,e.idx=z:=⟨_,rfl⟩;rw [hf] at x1 x3 m y1 y3 u r;rw [hz] at x0 y0;have x:Hid (Zgl (canF f.q) (canF f.q)=true):=JZ (Zjr _);clear hf hz;go_wp2_with fail;have X0:=Zr x0;have X1:=Zr x1;have X2:=Zr x2;have X3:=Zr x3;have X4:=Zr x4;have Y0:=Zr y0;have Y1:=Zr y1;have Y2:=Zr y2;have Y3:=Zr y3;have Y4:=Zr y4;have j:=Zj wr;clear x0 x1 x2 x3 x4 y0 y1 y2 y3 y4;refine Zt 26 [0,1,2,3,4,5,6,7,8,9,10,11,12,13,14,15,16,17,18,19,20,21,22,23,24,25] (by kernel_rfl) (by kernel_rfl) ?_;repeat ((first | (refine Zc (v:=?_) rfl rfl rfl ?_ ?_;rotate_left;(· (intro _ b;go_simp;(try go_bits);(try with_reducible rfl)))) | (refine Ze (v:=?_) rfl rfl rfl ?_ ?_;rotate_left;(· (intro _ b;go_simp;(try go_bits);(try with_reducible rfl)))) | refine Zf rfl rfl rfl ?_);(try simp only [Act.put,pu1,pu2,pu3,pu4,pu5,pu6]))
   refine Zg rfl rfl (fun KR hKR=>?_);go_simp;(with_reducible refine (YY _ f _ (u.below j) r).mono ?_);rintro _ w8 ⟨v8,rfl,e8,C⟩;have g:=Za j C j.size;refine hKR.out _ _ (Or.inr g) ?_;clear hKR KR;(try simp only [Act.put,pu1,pu2,pu3,pu4,pu5,pu6]);repeat ((first | (refine Zc (v:=?_) rfl rfl rfl ?_ ?_;rotate_left;(· (intro _ b;go_simp;(try go_bits);(try with_reducible rfl)))) | (refine Ze (v:=?_) rfl rfl rfl ?_ ?_;rotate_left;(· (intro _ b;go_simp;(try go_bits);(try with_reducible rfl)))) | refine Zf rfl rfl rfl ?_);(try simp only [Act.put,pu1,pu2,pu3,pu4,pu5,pu6]))
   refine Zg rfl rfl (fun KR hKR=>?_);go_simp;(with_reducible refine (Zkt _ _ (canF f.q) (canF f.q) _ (m.below g) e8).mono ?_);rw [x.out];rintro _ w9 ⟨rfl,D⟩;have s:=Za g D g.size;refine hKR.out _ _ (Or.inr s) ?_;clear hKR KR;(try simp only [Act.put,pu1,pu2,pu3,pu4,pu5,pu6]);repeat ((first | (refine Zc (v:=?_) rfl rfl rfl ?_ ?_;rotate_left;(· (intro _ b;go_simp;(try go_bits);(try with_reducible rfl)))) | (refine Ze (v:=?_) rfl rfl rfl ?_ ?_;rotate_left;(· (intro _ b;go_simp;(try go_bits);(try with_reducible rfl)))) | refine Zf rfl rfl rfl ?_);(try simp only [Act.put,pu1,pu2,pu3,pu4,pu5,pu6]))
   refine Zv ?_;clear X0 X1 X2 X3 X4 Y0 Y1 Y2 Y3 Y4;go_wp2;go_roundw
   case rel=>exact ⟨k+1,by omega,by go_num,Za a s a.size⟩
   case measure=>simp [intOf];omega
  ·obtain rfl:k=l:=by omega
   go_wp2;go_ret;exact ⟨rfl,a⟩
namespace Pl
theorem prod_eq {n:Nat} {cols:List (List En)} {x:Nat→Rat} {v:List En} (hv:Good n v) (hx:∀r,r < n→XV n (Yu cols) x r=XZ v r):spV (fun r=>dotS (spV x n) fun j=>Yu cols j r) n=Zla v:=by
 rw [cpyV_spV hv];refine WM fun r hr=>?_
 rw [dotS_spV,← hx r hr];exact Zp fun i _=>by grind
theorem prod_sz {n:Nat} {cols:List (List En)} {x:Nat→Rat} (h:Zrg n cols) (hx:∀i,i < n→Sz 937500 (x i)) (k r:Nat) (hk:k≤(spV x n).length):Sz 6562592 (dotS ((spV x n).take k) fun j=>Yu cols j r):=by
 have h1:=Sz_dotS (g:=fun j=>Yu cols j r) (J:=12) (Zsc hx) (by omega) (fun j e he=>by
  obtain ⟨i,hi,a,_⟩:=VB he;rw [a,JP];exact h.size hi r) k hk
 have h2:=Ve (f:=x) n;have h7:=h.n7;exact h1.mono (by omega)
theorem dot_tr {n k:Nat} {cols:List (List En)} {y:Nat→Rat} {v c:List En} (hc:cols[k]? =some c) (hk:k < n) (hy:∀r,r < n→XV n (trM (Yu cols)) y r=XZ v r):dotS (spV y n) (XZ c)=XZ v k:=by
 rw [dotS_spV,← hy k hk,← Wu hc];exact Zp fun i _=>by show y i * Yu cols k i=Yu cols k i * y i;grind
end Pl
theorem Zcg.one {c:List En} (h:Zcg [c]):EnW c∧∀(j:Nat) (e:En),c[j]? =some e→e.f.Rs 12:=⟨fun j e he=>(h 0 c rfl j e he).2,fun j e he=>(h 0 c rfl j e he).1⟩
theorem basisProduct_any [Old] (n:Int) (v v2:Value) (cols:List (List En)) (es:List En) (w:World) (h0: -9223372036854775808≤n) (h1:n≤9223372036854775807) (h:Xf w v cols) (hi:∀(j:Nat) (es:List En),cols[j]? =some es→EnI es) (h2:Wy w v2 es) (hi2:EnI es) (hOl:Zb w:=by (repeat (first | assumption | exact Zb.up (by assumption) hOl | exact Zb.up (Hid.out (by assumption)) hOl | with_reducible refine Zb.set ?_ _ _ | with_reducible refine Zb.mk_ ?_ _ | with_reducible refine Zb.dr ?_ | with_reducible refine Zb.drN ?_ | refine Zb.up (by assumption) ?_ | refine Zb.up (Hid.out (by assumption)) ?_))):
 Calls Tryz.prog 7 #[.int .i64 n,v,v2] w fun e w'=>e= .returned (.bool true)∧Below w.heap.size w w':=by
 have b0:=hOl.le;obtain ⟨A1,c1,rfl,am,b7⟩:=h.shape;obtain ⟨l,hl⟩:∃l,cols.length=l:=⟨_,rfl⟩;rw [hl] at h am ⊢;have Z:=JZ hl;clear hl;obtain ⟨A2,c2,rfl,_,_⟩:=h2.shape;have HW:=JZ h2;have ae:=JZ hi2;clear h2 hi2;have HV:=JZ h;have HI:=JZ hi;clear h hi;go_enter Tryz.func7,Tryz.ntmps7;go_wp2_with fail;refine (Zup _ cols n _ HV.out h0 h1).mono ?_;rintro _ w1 ⟨b1,rfl,aa,p⟩
 cases b1
 case false=>
  go_wp2_with fail;refine (Zuo _).mono ?_;rintro _ wz ⟨rfl,d⟩;go_wp2;go_ret;exact ⟨rfl,Za p d p.size⟩
 case true=>
  obtain ⟨a6,h7⟩:=aa rfl;have HL:=JZ (a6.c HI.out);clear aa a6;have G:=Zd w1 (.cells #[.slice A2 es.length c2] 28);have a0:=Xf.one (Bk.new w1 28 [.slice A2 es.length c2]) ((HW.out.below p).below G);go_wp2_with fail;refine (Zky _ [es] _ a0).mono ?_;rintro _ w2 ⟨b2,rfl,ab,K⟩;have f:=Za p (Za G K G.size) p.size;clear G a0 p K
  cases b2
  case false=>
   go_wp2_with fail;refine (Zuo _).mono ?_;rintro _ wz ⟨rfl,d⟩;go_wp2;go_ret;exact ⟨rfl,Za f d f.size⟩
  case true=>
   have t:=JZ (ab rfl).one;clear ab;go_wp2_with fail;refine (Zun _ cols n _ (HV.out.below f) HL.out h7 h0 h1).mono ?_;rintro _ w3 ⟨rfl,hb⟩;have o:=Za f hb f.size;clear hb;by_cases hz:Wx n cols=0
   case neg=>
    generalize Wx n cols=ce at *;have b3:(ce==0)=false:=(by simpa using hz);go_wp2_with fail;refine (Zuo _).mono ?_;rintro _ wz ⟨rfl,d⟩;go_wp2;go_ret;exact ⟨rfl,Za o d o.size⟩
   case pos=>
    obtain ⟨m,rfl,hR⟩:=Zvw hz HL.out h7;have HR:=JZ hR;rw [hz];clear hz h7 hR;obtain rfl:m=l:=by rw [← Z.out,HR.out.len]
    clear Z;go_wp2_with fail;refine (Zdo _ es (m:Int) _ (HW.out.below o) (fun k e he=>(t.out.2 k e he).sh (by decide)) ae.out h0 h1).mono ?_;rintro _ w4 ⟨rfl,hb⟩;have u:=Za o hb o.size;clear hb;rcases Decidable.em (vecErr es (m:Int)=0) with hv | hv
    case inr=>
     generalize vecErr es (m:Int)=ve at *;have b4:(ve==0)=false:=(by simpa using hv);go_wp2_with fail;refine (Zuo _).mono ?_;rintro _ wz ⟨rfl,d⟩;go_wp2;go_ret;exact ⟨rfl,Za u d u.size⟩
    case inl=>
     have H:=JZ (Zbh hv);rw [hv];clear hv;go_wp2_with fail;refine (Zqz _ m 12 cols (Yu cols) _ (HV.out.below u) HR.out.len HR.out.n7 (by omega) (JW HR.out.fit (by decide)) HR.out.gK (fun k c hc=>Wu hc)).mono ?_;rintro _ w5 ⟨hb,⟨g,rfl,-,N⟩ | ⟨rfl,ay⟩⟩
     case inr=>exact absurd HR.out.ind ay
     case inl=>
      have HB:=JZ (N 0);have O:=Za u hb u.size;clear N hb;go_wp2_with fail;refine (Zks _ 0 g m 12 _ _ es _ HB.out (HW.out.below O) H.out t.out.2).mono ?_;rintro _ w6 ⟨v6,x,rfl,hx,ac,ex,hb⟩;have L:=JZ (HB.out.below hb);clear HB;have HB:=L;clear L;have z:=JZ (ex.vec);have P:=Za O hb O.size;clear hb;have R:Hid (∀i,i < m→Sz 937500 (x i)):=JZ fun i hi=>(ac i hi).mono HR.out.fit
      have af:=JZ (prod_eq H.out hx);clear hx ac ex;go_wp2_with fail;refine (solveTB_own _ 0 g m 12 _ _ es _ HB.out (HW.out.below P) H.out t.out.2).mono ?_;rintro _ w7 ⟨v7,y,rfl,hy,ad,ey,hb⟩;have A:=JZ (z.out.below hb);clear z;have z:=A;clear A;have s:=JZ (ey.vec);have S:=Za P hb P.size;clear hb;have a1:Hid (∀i,i < m→Sz 937500 (y i)):=JZ fun i hi=>(ad i hi).mono HR.out.fit
      have HY:=JZ hy;clear hy ad ey;go_wp2_with fail;refine (multiply1_own _ _ cols (spV x m) m m 937500 6562592 _ (HV.out.below S) z.out HR.out.len (by have:=HR.out.n7;omega) (by have:=HR.out.n7;omega) (fun k c hc=>⟨HR.out.good k c hc,(HR.out.light k c hc).2.1,fun j e he=>((HR.out.light k c hc).2.2 j e he).mono (by decide)⟩) (Zqi x m) (spV_rw R.out (by decide)) (Zsc R.out) (fun k r hk _=>prod_sz HR.out R.out k r hk) (by decide) (by decide) (by decide)).mono ?_;rw [af.out];rintro _ w8 ⟨v8,rfl,e8,hb⟩;have B:=JZ (s.out.below hb);clear s;have s:=B;clear B;have T:=Za S hb S.size;clear hb;go_wp2_with fail;refine (cancopy_any _ _ es _ e8 (HW.out.below T) (fun k e he=>(t.out.2 k e he).sh (by decide))).mono ?_;rintro _ w9 ⟨rfl,hb⟩;have C:=JZ (s.out.below hb);clear s;have s:=C;clear C;have a2:=Za T hb T.size;clear hb;clear e8 z HB;have b5:=HR.out.n7;have a3:=JZ H.out.2.1;go_wp2
      go_loopw [15] (fun i wr=>∃k:Nat,k≤m∧i= .int .i64 k∧Below w9.heap.size w9 wr) (fun i _=>m - (intOf i).toNat)
      case atStart=>exact ⟨0,by omega,rfl,JR _ _⟩
      case round=>
       obtain ⟨k,hk,rfl,J⟩:=hrel;have a:=Za a2 J a2.size;rcases JX k m with hkl | hkl
       ·obtain ⟨c,X,a7,an,a8,ao⟩:=HR.out.at_ hkl;obtain ⟨b,b8,A4,c4,rfl,b9,Y,hm⟩:=HV.out.elem a X;have b6:(k:Int) < m:=(by omega);have ag:=JZ X;have ah:=JZ a7;have ai:=JZ a8;clear X a7 an a8 ao;go_wp2_with fail;refine (dot1_any _ _ (spV y m) c m 937500 _ (s.out.below J) hm (by omega) (Zsc a1.out) (fun k e he=>(ai.out k e he).mono (by decide)) (by decide) (by decide) (Zqi y m) ah.out (spV_rw a1.out (by decide))).mono ?_;rintro _ az ⟨ba,rfl,E,hb⟩;rw [dot_tr ag.out hkl HY.out] at E;obtain ⟨q,hq⟩:∃q,XZ es k=q:=⟨_,rfl⟩;rw [hq] at E;have HQ:=JZ hq;clear hq;obtain ⟨ap,aq,ar,au,av,aw,rfl,_,_⟩:=id E;obtain ⟨ax,a9,M,D⟩:=Zah az (.bool (canF q).num.neg) (.slice ap aq ar) (.bool (canF q).den.neg) (.slice au av aw);have U:=Za hb D hb.size;have aj:=JZ (E.below D);have ak:=JZ M;have al:=Za a U a.size;have a4:=Za J U J.size;clear hb U M D E;obtain ⟨x0,x1,x2,x3⟩:=ak.out.four;go_wp2_with fail;clear a9 Y hm;have X0:=Zr x0;have X1:=Zr x1;have X2:=Zr x2;have X3:=Zr x3;have V:=Zj ax;clear x0 x1 x2 x3 a;have a:=al;refine Zt 10 [0,1,2,3,4,5,6,7,8,9] (by kernel_rfl) (by kernel_rfl) ?_;repeat ((first | (refine Zc (v:=?_) rfl rfl rfl ?_ ?_;rotate_left;(· (intro _ F;go_simp;(try go_bits);(try with_reducible rfl)))) | (refine Ze (v:=?_) rfl rfl rfl ?_ ?_;rotate_left;(· (intro _ F;go_simp;(try go_bits);(try with_reducible rfl)))) | refine Zf rfl rfl rfl ?_);(try simp only [Act.put,pu1,pu2,pu3,pu4,pu5,pu6]))
        refine Zg rfl rfl (fun KR hKR=>?_);go_simp;(with_reducible refine (Zug _ es k _ (HW.out.below (Za a V a.size)) (fun j e he=>(t.out.2 j e he).sh (by decide)) a3.out).mono ?_);rintro _ y1 ⟨u1,rfl,g1,p⟩;have I:=Za V p V.size;refine hKR.out _ _ (Or.inr I) ?_;clear hKR KR;(try simp only [Act.put,pu1,pu2,pu3,pu4,pu5,pu6]);repeat ((first | (refine Zc (v:=?_) rfl rfl rfl ?_ ?_;rotate_left;(· (intro _ F;go_simp;(try go_bits);(try with_reducible rfl)))) | (refine Ze (v:=?_) rfl rfl rfl ?_ ?_;rotate_left;(· (intro _ F;go_simp;(try go_bits);(try with_reducible rfl)))) | refine Zf rfl rfl rfl ?_);(try simp only [Act.put,pu1,pu2,pu3,pu4,pu5,pu6]))
        refine Zg rfl rfl (fun KR hKR=>?_);go_simp;(with_reducible refine (Zkt _ _ (canF q) (canF q) _ (aj.out.below I) (by rw [← HQ.out];exact g1)).mono ?_);rw [Zjr];rintro _ y2 ⟨rfl,K⟩;have a5:=Za I K I.size;refine hKR.out _ _ (Or.inr a5) ?_;clear hKR KR;(try simp only [Act.put,pu1,pu2,pu3,pu4,pu5,pu6]);repeat ((first | (refine Zc (v:=?_) rfl rfl rfl ?_ ?_;rotate_left;(· (intro _ F;go_simp;(try go_bits);(try with_reducible rfl)))) | (refine Ze (v:=?_) rfl rfl rfl ?_ ?_;rotate_left;(· (intro _ F;go_simp;(try go_bits);(try with_reducible rfl)))) | refine Zf rfl rfl rfl ?_);(try simp only [Act.put,pu1,pu2,pu3,pu4,pu5,pu6]))
        refine Zv ?_;go_wp2;go_roundw
        case rel=>exact ⟨k+1,by omega,by go_num,Za a4 a5 a4.size⟩
        case measure=>simp [intOf];omega
       ·obtain rfl:m=k:=by omega
        go_wp2_with fail;refine (Zuo _).mono ?_;rintro _ wz ⟨rfl,d⟩;go_wp2;go_ret;exact ⟨rfl,Za a d a.size⟩
end Go.Proofs.YtidgdpkcloaheaaGreat
