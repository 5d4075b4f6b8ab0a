/- Lemmas of the claim; no condition. -/
import Derived.Test.YtncmobkhenfhpaaGreatE16
set_option linter.all false
set_option maxRecDepth 100000
set_option maxHeartbeats 40000000
namespace Go.Proofs.YtncmobkhenfhpaaGreat
open Go.RowKit
open Pl
attribute [local go_sem ↓] Go.wp_at_zero Go.wp_at_succ
namespace Pl
def Zfo (es:List En) (g:Nat→Rat) (k:Int) (q:Rat):Nat→Rat
 | 0=>q
 | t+1=>match es[t]? with
  | some e=>if e.idx=k then Zfo es g k q t else Zfo es g k q t - e.f.q * g e.idx.toNat
  | none=>Zfo es g k q t
theorem Ycv {es:List En} {g:Nat→Rat} {k:Int} {q:Rat} {t:Nat} {e:En} (h:es[t]? =some e) (hk:e.idx=k):Zfo es g k q (t+1)=Zfo es g k q t:=by
 simp only [Zfo,h,if_pos hk]
theorem Ycw {es:List En} {g:Nat→Rat} {k:Int} {q:Rat} {t:Nat} {e:En} (h:es[t]? =some e) (hk:e.idx≠k):Zfo es g k q (t+1)=Zfo es g k q t - e.f.q * g e.idx.toNat:=by
 simp only [Zfo,h,if_neg hk]
end Pl
def Yfa [Old] (r:RF) (q:Rat) (n:Nat) (w:World) (wr:World):Prop:=
 ∃(f:RF) (A A':Option Addr) (l c l' c':Nat),f.q=q∧(f=r∨f=canF f.q)∧f.Rs n∧Bk wr w.heap.size 48 [.bool f.num.neg,.slice A l c,.bool f.den.neg,.slice A' l' c']∧Zt wr (.agg #[.bool f.num.neg,.slice A l c,.bool f.den.neg,.slice A' l' c']) f∧
  Bk wr (w.heap.size+1) 48 [.bool false,.slice none 0 0,.bool false,.slice none 0 0]∧Below w.heap.size w wr
theorem Zcs [Old] (v:Value) (es:List En) (e:En) (w:World) (h:Wp w v es) (he:es[es.length - 1]? =some e) (hOl:Zb w:=by (repeat (first | assumption | exact Zb.up (by assumption) hOl | exact Zb.up (Hid.out (by assumption)) hOl | with_reducible refine Zb.set ?_ _ _ | with_reducible refine Zb.mk_ ?_ _ | with_reducible refine Zb.dr ?_ | with_reducible refine Zb.drN ?_ | refine Zb.up (by assumption) ?_ | refine Zb.up (Hid.out (by assumption)) ?_))):
 Calls Tryz.prog 158 #[v] w fun o w'=>∃v',o= .returned v'∧Zt w' v' e.f∧Below w.heap.size w w':=by
 have g:=hOl.le;obtain ⟨A,c,rfl,m,n⟩:=h.shape;have hp:0 < es.length:=by have:=(List.getElem?_eq_some_iff.1 he).1;omega
 obtain ⟨W,hW,hR,a⟩:=Y7 w (.bool false) (.slice none 0 0) (.bool false) (.slice none 0 0);obtain ⟨b,p,A1,n1,k1,A2,n2,k2,rfl,q,⟨x0,x1,x2,x3,x4⟩,d⟩:=h.elem a he;generalize hk:es.length - 1=k at *;generalize hl:es.length=l at *;have i:(l:Int) - 1=(k:Int):=by omega
 have j:(k:Int) < l:=by omega
 obtain ⟨ei,f⟩:=e;simp only at *;obtain ⟨c0,c1,c2,c3⟩:=hR.four;obtain ⟨f0,f1,f2,f3⟩:=hR.fourF;clear he hl hk h hp;go_enter Tryz.func158,Tryz.ntmps158;go_wp2;refine Zq Tryz.results158 Tryz.underlying48 (by kernel_rfl) rfl (hR.set4 _ _ _ _) rfl ?_;exact Yr hR d a (JY _)
theorem VC [Old] (va vb vd:Value) (r:RF) (es:List En) (kk:Int) (ws:List RF) (K J:Nat) (w:World) (h1:Zt w va r) (h2:Wp w vb es) (h3:WA w vd ws) (hin:inR ws.length es) (hr:r.Rs J) (hJ:1≤J) (ha:∀(k:Nat) (e:En),es[k]? =some e→e.f.Rs K) (hb:RsL K ws) (hK:1≤K) (hs:J+es.length * (2 * K+1)≤34359738368) (hs2:2 * K≤34359738368) (hOl:Zb w:=by (repeat (first | assumption | exact Zb.up (by assumption) hOl | exact Zb.up (Hid.out (by assumption)) hOl | with_reducible refine Zb.set ?_ _ _ | with_reducible refine Zb.mk_ ?_ _ | with_reducible refine Zb.dr ?_ | with_reducible refine Zb.drN ?_ | refine Zb.up (by assumption) ?_ | refine Zb.up (Hid.out (by assumption)) ?_))):
 Calls Tryz.prog 157 #[va,vb,.int .i64 kk,vd] w fun o w'=>∃v' f,o= .returned v'∧Zt w' v' f∧f.q=Zfo es (qAt ws) kk r.q es.length∧(f=r∨f=canF f.q)∧f.Rs (J+es.length * (2 * K+1))∧Below w.heap.size w w':=by
 have b2:=hOl.le;obtain ⟨R1,m1,d1,R2,m2,d2,rfl,_,_⟩:=id h1;obtain ⟨A,c,rfl,b5,b6⟩:=h2.shape;obtain ⟨A',c',rfl,b7,b8⟩:=h3.shape;generalize hn:es.length=l at *;generalize hm:ws.length=m at *;have HN:=JZ hn;have HM:=JZ hm;have HA:=JZ ha;have HB:=JZ hb;have HS:=JZ hs;have HI:=JZ hin;obtain ⟨TQ,U⟩:∃TQ:Nat→Rat,TQ=Zfo es (qAt ws) kk r.q:=⟨_,rfl⟩;rw [← U];have ae:=JZ U;have af:r.q=TQ 0:=by rw [U];rfl
 obtain ⟨TZ,V⟩:∃TZ:Nat→Nat,TZ=fun k=>J+k * (2 * K+1):=⟨_,rfl⟩
 have HL:J+l * (2 * K+1)=TZ l:=by rw [V]
 rw [HL];have au:Hid (∀k,k≤l→1≤TZ k∧TZ k≤34359738368∧TZ (k+1)=TZ k+(2 * K)+1):=JZ fun k hk=>by
  rw [V];have:=JS (2 * K+1) hk;refine ⟨by dsimp only;omega,by dsimp only;omega,?_⟩;simp only [Nat.succ_mul];omega
 have ag:r.Rs (TZ 0):=by rw [V];simpa using hr
 obtain ⟨W,hW,_,hX,hR,x⟩:=Zju w (.bool r.num.neg) (.slice R1 m1 d1) (.bool r.den.neg) (.slice R2 m2 d2) (.bool false) (.slice none 0 0) (.bool false) (.slice none 0 0);have ST:Hid (Yfa r (TQ 0) (TZ 0) w W):=JZ ⟨r,R1,R2,m1,d1,m2,d2,af,.inl rfl,ag,hX,h1.below x,hR,x⟩;clear hn hm ha hb hs U hin hr af HL V ag hX hR x h1;go_enter Tryz.func157,Tryz.ntmps157;go_wp2;clear hW
 go_loopw [13] (fun i wr=>∃k:Nat,k≤l∧i= .int .i64 k∧Yfa r (TQ k) (TZ k) w wr) (fun i _=>l - (intOf i).toNat)
 case atStart=>exact ⟨0,by omega,rfl,ST.out⟩
 case round=>
  obtain ⟨k,hk,rfl,DK,C,C',p,q,p',q',X,ao,F,hX,hF,hR,x⟩:=hrel;have a1:=JZ ao;clear ao;rcases JX k l with hkl | hkl
  ·obtain ⟨e,he⟩:=YJ (es:=es) (i:=k) (by rw [HN.out];exact hkl);obtain ⟨b,b9,A1,n1,k1,A2,n2,k2,rfl,ba,ay,ap⟩:=h2.elem x he;obtain ⟨i0,i1⟩:=HI.out k e he;obtain ⟨j,hj⟩:=JT i0;obtain ⟨f',Y⟩:=Yi (fs:=ws) (i:=j) (by rw [HM.out];omega);have av:Hid ((j:Int)=kk→TQ (k+1)=TQ k):=JZ fun g=>by rw [ae.out];exact Ycv he (by rw [hj];exact g)
   have aw:Hid ((j:Int)≠kk→TQ (k+1)=TQ k - e.f.q * f'.q):=JZ fun g=>by rw [ae.out,Ycw he (by rw [hj];exact g),hj,JP,Yt Y]
   have I:=HA.out k e he;obtain ⟨ei,f⟩:=e;simp only at *;subst hj;obtain ⟨x0,x1,x2,x3,x4⟩:=ay;obtain ⟨W1,Z,hV,O⟩:=Zgf wr (.int .i64 (j:Int)) (.bool f.num.neg) (.slice A1 n1 k1) (.bool f.den.neg) (.slice A2 n2 k2);have d:=Za x O x.size;obtain ⟨b',b0,A3,n3,k3,A4,n4,k4,rfl,b1,G,y⟩:=h3.elem d Y;obtain ⟨u0,u1,u2,u3⟩:=id G;obtain ⟨v0,v1,v2,v3,v4⟩:=hV.five;have ah:=ap.below O;have P:=hX.later O;have R:=hR.later O;have S:=hF.below O;have b3:(k:Int) < l:=(by omega);have b4:(j:Int) < m:=(by omega);have z:=HB.out j f' Y;have ai:=I.sm (by omega);have a0:=z.sm (by omega);obtain ⟨aq,ar,az⟩:=au.out k hk;have aj:TZ (k+1)=TZ k+(K+K)+1:=(by omega);have a2:=Wz (I.sz hK) (z.sz hK);have ak:(canF (f.q * f'.q)).Sm:=(a2.sh (by omega)).sm;have al:DK.Sm:=F.sm ar;have am:Hid (DK.Rs (TZ (k+1))):=JZ (F.mono (by omega));have a3:Sz (TZ (k+1)) (DK.q - f.q * f'.q):=(by rw [aj];exact Zdw (F.sz aq) a2);have T:=JZ X;clear he Y hX hR hF x ap X F a2 aq ar az aj I z;by_cases H:(j:Int)=kk
   ·have a4:Hid (DK.q=TQ (k+1)):=JZ (by rw [av.out H,T.out]);have an:((j:Int) !=kk)=false:=(by simpa using H);clear H a3 G;go_wp2;clear Z;go_roundw
    case rel=>exact ⟨k+1,by omega,by go_num,DK,C,C',p,q,p',q',a4.out,a1.out,am.out,P,S,R,d⟩
    case measure=>simp [intOf];omega
   ·have a5:=JZ (aw.out H);have an:((j:Int) !=kk)=true:=(by simpa using H);have ax:qs f'.q=0∨qs f'.q=1∨qs f'.q= -1:=(by have:=Vb f'.q;omega);have HV:Hid (DK.q - (canF (f.q * f'.q)).q=TQ (k+1)):=JZ (by rw [Zu,a5.out,T.out]);have HZ:Hid ((canF (TQ (k+1))).Rs (TZ (k+1))):=JZ (by rw [a5.out,← T.out];exact a3.rs);clear H a3;rcases ax with hq' | hq' | hq'
    ·have a4:Hid (DK.q=TQ (k+1)):=JZ (by rw [a5.out,T.out,ZW.1 hq'];grind);go_wp2_with fail;clear Z;refine (Zz _ f' _ y).mono ?_;rw [hq'];rintro e w5 ⟨rfl,a⟩;have B:=P.later a;have L:=R.later a;have M:=S.below a;have h:=Za d a d.size;go_wp2;go_roundw
     case rel=>exact ⟨k+1,by omega,by go_num,DK,C,C',p,q,p',q',a4.out,a1.out,am.out,B,M,L,h⟩
     case measure=>simp [intOf];omega
    ·have hq:qs f'.q=1:=hq';go_wp2_with fail;clear Z;refine (Zz _ f' _ y).mono ?_;rw [hq];rintro e w5 ⟨rfl,a⟩;have B:=P.later a;have L:=R.later a;have M:=S.below a;have a6:=hV.later a;have h:=Za d a d.size;have a7:=ah.below a;have N:=y.below a;obtain ⟨y0,y1,y2,y3⟩:=UR a G;clear u0 u1 u2 u3 hq G x0 x1 x2 x3 x4 v0 v1 v2 v3 v4;obtain ⟨v0,v1,v2,v3,v4⟩:=a6.five;obtain ⟨z0,z1,z2,z3⟩:=B.four
     go_upto_region 5 with (fail)
     have C0:=Zm y0;have C1:=Zm y1;have C2:=Zm y2;have C3:=Zm y3;have D0:=Zm v0;have D1:=Zm v1;have D2:=Zm v2;have D3:=Zm v3;have D4:=Zm v4;have E0:=Zm z0;have E1:=Zm z1;have E2:=Zm z2;have E3:=Zm z3;have n:=Zf w5;clear y0 y1 y2 y3 v0 v1 v2 v3 v4 z0 z1 z2 z3;refine Zp 10 [0,1,2,3,4,5,6,7,8,9,10] (by kernel_rfl) (by kernel_rfl) ?_;repeat ((first | (refine Zd (v:=?_) rfl rfl rfl ?_ ?_;rotate_left;(· (intro _ D;go_simp;(try go_bits);(try with_reducible rfl)))) | (refine Zj (v:=?_) rfl rfl rfl ?_ ?_;rotate_left;(· (intro _ D;go_simp;(try go_bits);(try with_reducible rfl)))) | refine Zk rfl rfl rfl ?_);(try simp only [Act.put,pu1,pu2,pu3,pu4,pu5,pu6]))
     refine Zh rfl rfl (fun KR hKR=>?_);go_simp;(with_reducible refine (Wj _ _ f f' _ (a7.below n) (N.below n) ai a0).mono ?_);rintro _ w6 ⟨v6,rfl,e6,ac⟩;have s:=Za n ac n.size;refine hKR.out _ _ (Or.inr s) ?_;clear hKR KR;(try simp only [Act.put,pu1,pu2,pu3,pu4,pu5,pu6]);repeat ((first | (refine Zd (v:=?_) rfl rfl rfl ?_ ?_;rotate_left;(· (intro _ D;go_simp;(try go_bits);(try with_reducible rfl)))) | (refine Zj (v:=?_) rfl rfl rfl ?_ ?_;rotate_left;(· (intro _ D;go_simp;(try go_bits);(try with_reducible rfl)))) | refine Zk rfl rfl rfl ?_);(try simp only [Act.put,pu1,pu2,pu3,pu4,pu5,pu6]))
     refine Zh rfl rfl (fun KR hKR=>?_);go_simp;(with_reducible refine (WT _ _ DK (canF (f.q * f'.q)) _ (M.below s) e6 al ak).mono ?_);rw [HV.out];rintro _ w7 ⟨v7,rfl,e7,ad⟩;have t:=Za s ad s.size;obtain ⟨E,l9,k9,E',aa,ab,rfl,_,_⟩:=id e7;have u:=B.later t;have a8:=L.later t;obtain ⟨c0,c1,c2,c3⟩:=u.four;obtain ⟨f0,f1,f2,f3⟩:=u.fourF;refine hKR.out _ _ (Or.inr t) ?_;clear hKR KR;(try simp only [Act.put,pu1,pu2,pu3,pu4,pu5,pu6]);refine Zh rfl rfl (fun KR hKR=>?_);go_simp;refine hKR.out _ _ (Or.inl (by decide)) ?_;clear hKR KR;(try simp only [Act.put,pu1,pu2,pu3,pu4,pu5,pu6]);refine Zx ?_;clear C0 C1 C2 C3 D0 D1 D2 D3 D4 E0 E1 E2 E3;have bb:=Za h t h.size;have a9:=a8.far4 (show w.heap.size+1≠w.heap.size by omega);go_wp2;go_roundw
     case rel=>exact ⟨k+1,by omega,by go_num,_,E,E',l9,k9,aa,ab,Zu _,.inr (by rw [Zu]),HZ.out,u.set4 _ _ _ _,e7.keep (u.keep4 (by decide) _ _ _ _),a9 _ _ _ _,ZE bb (JY _) _ _ _ _⟩
     case measure=>simp [intOf];omega
    ·have hq:qs f'.q= -1:=hq';go_wp2_with fail;clear Z;refine (Zz _ f' _ y).mono ?_;rw [hq];rintro e w5 ⟨rfl,a⟩;have B:=P.later a;have L:=R.later a;have M:=S.below a;have a6:=hV.later a;have h:=Za d a d.size;have a7:=ah.below a;have N:=y.below a;obtain ⟨y0,y1,y2,y3⟩:=UR a G;clear u0 u1 u2 u3 hq G x0 x1 x2 x3 x4 v0 v1 v2 v3 v4;obtain ⟨v0,v1,v2,v3,v4⟩:=a6.five;obtain ⟨z0,z1,z2,z3⟩:=B.four
     go_upto_region 5 with (fail)
     have C0:=Zm y0;have C1:=Zm y1;have C2:=Zm y2;have C3:=Zm y3;have D0:=Zm v0;have D1:=Zm v1;have D2:=Zm v2;have D3:=Zm v3;have D4:=Zm v4;have E0:=Zm z0;have E1:=Zm z1;have E2:=Zm z2;have E3:=Zm z3;have n:=Zf w5;clear y0 y1 y2 y3 v0 v1 v2 v3 v4 z0 z1 z2 z3;refine Zp 10 [0,1,2,3,4,5,6,7,8,9,10] (by kernel_rfl) (by kernel_rfl) ?_;repeat ((first | (refine Zd (v:=?_) rfl rfl rfl ?_ ?_;rotate_left;(· (intro _ D;go_simp;(try go_bits);(try with_reducible rfl)))) | (refine Zj (v:=?_) rfl rfl rfl ?_ ?_;rotate_left;(· (intro _ D;go_simp;(try go_bits);(try with_reducible rfl)))) | refine Zk rfl rfl rfl ?_);(try simp only [Act.put,pu1,pu2,pu3,pu4,pu5,pu6]))
     refine Zh rfl rfl (fun KR hKR=>?_);go_simp;(with_reducible refine (Wj _ _ f f' _ (a7.below n) (N.below n) ai a0).mono ?_);rintro _ w6 ⟨v6,rfl,e6,ac⟩;have s:=Za n ac n.size;refine hKR.out _ _ (Or.inr s) ?_;clear hKR KR;(try simp only [Act.put,pu1,pu2,pu3,pu4,pu5,pu6]);repeat ((first | (refine Zd (v:=?_) rfl rfl rfl ?_ ?_;rotate_left;(· (intro _ D;go_simp;(try go_bits);(try with_reducible rfl)))) | (refine Zj (v:=?_) rfl rfl rfl ?_ ?_;rotate_left;(· (intro _ D;go_simp;(try go_bits);(try with_reducible rfl)))) | refine Zk rfl rfl rfl ?_);(try simp only [Act.put,pu1,pu2,pu3,pu4,pu5,pu6]))
     refine Zh rfl rfl (fun KR hKR=>?_);go_simp;(with_reducible refine (WT _ _ DK (canF (f.q * f'.q)) _ (M.below s) e6 al ak).mono ?_);rw [HV.out];rintro _ w7 ⟨v7,rfl,e7,ad⟩;have t:=Za s ad s.size;obtain ⟨E,l9,k9,E',aa,ab,rfl,_,_⟩:=id e7;have u:=B.later t;have a8:=L.later t;obtain ⟨c0,c1,c2,c3⟩:=u.four;obtain ⟨f0,f1,f2,f3⟩:=u.fourF;refine hKR.out _ _ (Or.inr t) ?_;clear hKR KR;(try simp only [Act.put,pu1,pu2,pu3,pu4,pu5,pu6]);refine Zh rfl rfl (fun KR hKR=>?_);go_simp;refine hKR.out _ _ (Or.inl (by decide)) ?_;clear hKR KR;(try simp only [Act.put,pu1,pu2,pu3,pu4,pu5,pu6]);refine Zx ?_;clear C0 C1 C2 C3 D0 D1 D2 D3 D4 E0 E1 E2 E3;have bb:=Za h t h.size;have a9:=a8.far4 (show w.heap.size+1≠w.heap.size by omega);go_wp2;go_roundw
     case rel=>exact ⟨k+1,by omega,by go_num,_,E,E',l9,k9,aa,ab,Zu _,.inr (by rw [Zu]),HZ.out,u.set4 _ _ _ _,e7.keep (u.keep4 (by decide) _ _ _ _),a9 _ _ _ _,ZE bb (JY _) _ _ _ _⟩
     case measure=>simp [intOf];omega
  ·obtain rfl:k=l:=by omega
   obtain ⟨x1,x2,x3,x4⟩:=hX.four;obtain ⟨c0,c1,c2,c3⟩:=hR.four;obtain ⟨f0,f1,f2,f3⟩:=hR.fourF;have HQ:=JZ X;have HR:=JZ F;clear X F;go_wp2;refine Zq Tryz.results157 Tryz.underlying48 (by kernel_rfl) rfl (hR.set4 _ _ _ _) rfl ?_;exact ⟨_,DK,rfl,hF.keep (hR.keep4 (by decide) _ _ _ _),HQ.out,a1.out,HR.out,ZE x (Nat.le_succ _) _ _ _ _⟩
namespace Pl
def UZ (es:List En) (k:Int) (z:Rat) (g:Nat→Rat):Nat→Nat→Rat
 | 0,i=>g i
 | t+1,i=>match es[t]? with
  | some e=>if e.idx≠k∧e.idx=(i:Int) then UZ es k z g t i - e.f.q * z else UZ es k z g t i
  | none=>UZ es k z g t i
theorem Zer (es:List En) (k:Int) (g:Nat→Rat) (i:Nat):∀t,UZ es k 0 g t i=g i
 | 0=>rfl
 | t+1=>by
  have ih:=Zer es k g i t
  unfold UZ
  split
  ·split
   ·rw [ih];grind
   ·exact ih
  ·exact ih
theorem Ycx {es:List En} {k:Int} {z:Rat} {g:Nat→Rat} {t i:Nat} {e:En} (h:es[t]? =some e) (hk:e.idx=k):UZ es k z g (t+1) i=UZ es k z g t i:=by
 conv=>lhs;unfold UZ
 simp only [h,hk,ne_eq,not_true_eq_false,false_and,if_false]
theorem Ycy {es:List En} {k:Int} {z:Rat} {g:Nat→Rat} {t i j:Nat} {e:En} (h:es[t]? =some e) (hk:e.idx≠k) (hj:e.idx=(j:Int)):UZ es k z g (t+1) i=if i=j then UZ es k z g t j - e.f.q * z else UZ es k z g t i:=by
 conv=>lhs;unfold UZ
 simp only [h];by_cases c:i=j
 ·subst c;rw [if_pos ⟨hk,hj⟩,if_pos rfl]
 ·rw [if_neg (fun q=>c (by omega)),if_neg c]
theorem Zpt (es:List En) (k:Nat) (z:Rat) (g:Nat→Rat):∀t,UZ es k z g t k=g k
 | 0=>rfl
 | t+1=>by
  have ih:=Zpt es k z g t
  conv=>lhs;unfold UZ
  split
  ·rw [if_neg (fun q=>q.1 q.2)];exact ih
  ·exact ih
end Pl
theorem Z6.of_below {g:Option Nat} {w w':World} (h:Below w.heap.size w w'):Z6 g w w':=⟨h.size,fun b hb _=>h.block b hb⟩
def Zcy [Old] (base:Nat) (vz:Value) (N:Nat) (G:Nat→Rat) (w wr:World):Prop:=Yd base wr vz (Z7 N G)∧Ze 48 w wr∧Z6 vz.ownBlock w wr∧Below base w wr
theorem Zct [Old] (vz vb:Value) (m:Nat) (q:Nat→Rat) (es:List En) (kn K J base:Nat) (w:World) (h1:Yd base w vz (Z7 m q)) (h2:Wp w vb es) (hkn:kn < m) (hin:inR m es) (ha:∀(k:Nat) (e:En),es[k]? =some e→e.f.Rs K) (hz:∀t i,t≤es.length→i < m→Sz J (UZ es kn (q kn) q t i)) (hK:1≤K) (hs1:J≤34359738368) (hs2:K+J≤34359738368) (hOl:Zb w:=by (repeat (first | assumption | exact Zb.up (by assumption) hOl | exact Zb.up (Hid.out (by assumption)) hOl | with_reducible refine Zb.set ?_ _ _ | with_reducible refine Zb.mk_ ?_ _ | with_reducible refine Zb.dr ?_ | with_reducible refine Zb.drN ?_ | refine Zb.up (by assumption) ?_ | refine Zb.up (Hid.out (by assumption)) ?_))) (hO:Old.n≤base:=by first | assumption | exact Nat.zero_le _ | omega | ((first | with_reducible refine Zb.le ?_ | with_reducible refine Zb.le1 ?_ | with_reducible refine Zb.le2 ?_ | with_reducible refine Zb.le3 ?_);repeat (first | assumption | exact Zb.up (by assumption) hOl | exact Zb.up (Hid.out (by assumption)) hOl | with_reducible refine Zb.set ?_ _ _ | with_reducible refine Zb.mk_ ?_ _ | with_reducible refine Zb.dr ?_ | with_reducible refine Zb.drN ?_ | refine Zb.up (by assumption) ?_ | refine Zb.up (Hid.out (by assumption)) ?_))):
 Calls Tryz.prog 161 #[vz,vb,.int .i64 (kn:Int)] w fun o w'=>o= .returned (.tuple #[])∧Zcy base vz m (UZ es kn (q kn) q es.length) w w':=by
 have ax:=hOl.le;obtain ⟨g,c0,rfl,ap,b3,aq,b4⟩:=h1.shape (by rw [Zi];omega);obtain ⟨A,c,rfl,b5,b6⟩:=h2.shape;rw [Zi] at h1 aq ⊢;have a:base≤w.heap.size:=by omega
 have P:Sz J (q kn):=hz 0 kn (Nat.zero_le _) hkn;have X:(canF (q kn)).Sm:=P.rs.sm hs1;obtain ⟨b1,o1,A3,n3,k3,A4,n4,k4,hA,_,⟨y0,y1,y2,y3⟩,u⟩:=h1.frs.elem (JR _ _) (ZC hkn);injection hA with hA;injection hA with hA1 hA2;subst hA1;subst hA2;simp only [Nat.zero_add] at y0 y1 y2 y3;have R:Hid (∀t,UZ es kn (q kn) q t kn=q kn):=JZ fun t=>Zpt es kn _ q t
 obtain ⟨z,V⟩:∃z,z=q kn:=⟨_,rfl⟩;rw [← V] at hz P X y0 y2 u R ⊢;have aw:=JZ V;clear V;generalize hn:es.length=l at *;have HN:=JZ hn;have HA:=JZ ha;have HI:=JZ hin;obtain ⟨TQ,H⟩:∃TQ:Nat→Nat→Rat,TQ=UZ es kn z q:=⟨_,rfl⟩;rw [← H] at hz R ⊢;have S:=JZ H;have HZ:=JZ hz;have Y:q=TQ 0:=by rw [H];rfl
 have H1:Hid (Yd base w (.slice (some ⟨g,0,none⟩) m c0) (Z7 m (TQ 0))):=JZ (by rw [← Y];exact h1);have H2:=JZ h2;have ay:(kn:Int) < m:=by omega
 clear hn ha H hin hz h1 h2 Y;have ac:qs z=0∨qs z=1∨qs z= -1:=by have:=Vb z;omega
 go_enter Tryz.func161,Tryz.ntmps161;go_wp2_with fail;refine (Zz _ (canF z) _ u).mono ?_;rw [Zu];rintro e w1 ⟨rfl,L⟩;have ST:Hid (Zcy base (.slice (some ⟨g,0,none⟩) m c0) m (TQ 0) w w1):=JZ ⟨H1.out.below L,Ze.of_below L,Z6.of_below L,L.mono a⟩;by_cases M:qs z=0
 ·have HE:Hid (Zcy base (.slice (some ⟨g,0,none⟩) m c0) m (TQ l) w w1):=JZ (by
   have e:∀i,i < m→TQ 0 i=TQ l i:=fun i _=>by rw [S.out,ZW.1 M,Zer,Zer]
   rw [show Zcy base (.slice (some ⟨g,0,none⟩) m c0) m (TQ l) w w1=Zcy base (.slice (some ⟨g,0,none⟩) m c0) m (TQ 0) w w1 from by unfold Zcy;rw [ZR e]];exact ST.out)
  rw [M];go_wp2;refine bodyPost_ret (results_none rfl _ _ _) rfl ?_;exact ⟨rfl,HE.out⟩
 ·have ad:(qs z==0)=false:=by simpa using M
  clear ac M y0 y1 y2 y3 u;go_wp2;clear ad
  go_loopw [16] (fun i wr=>∃k:Nat,k≤l∧i= .int .i64 k∧Zcy base (.slice (some ⟨g,0,none⟩) m c0) m (TQ k) w wr) (fun i _=>l - (intOf i).toNat)
  case atStart=>exact ⟨0,by omega,rfl,ST.out⟩
  case round=>
   obtain ⟨k,hk,rfl,hO,x,y,I⟩:=hrel;rcases JX k l with hkl | hkl
   ·obtain ⟨e,he⟩:=YJ (es:=es) (i:=k) (by rw [HN.out];exact hkl);have Z:=H2.out.but x (by decide) (by decide);obtain ⟨b,b7,A1,n1,k1,A2,n2,k2,rfl,b8,⟨x0,x1,x2,x3,x4⟩,a7⟩:=Z.elem (JR _ _) he;obtain ⟨i0,i1⟩:=HI.out k e he;obtain ⟨j,hj⟩:=JT i0;have D:j < m:=(by omega);have ae:Hid ((j:Int)=kn→∀i,TQ (k+1) i=TQ k i):=JZ fun q i=>by rw [S.out];exact Ycx he (by rw [hj];exact q)
    have af:Hid ((j:Int)≠kn→∀i,TQ (k+1) i=if i=j then TQ k j - e.f.q * z else TQ k i):=JZ fun q i=>by rw [S.out];exact Ycy he (by rw [hj];exact q) hj
    have h:=HA.out k e he;obtain ⟨ei,f⟩:=e;simp only at *;subst hj;obtain ⟨W1,a8,hV,B⟩:=Zgf wr (.int .i64 (j:Int)) (.bool f.num.neg) (.slice A1 n1 k1) (.bool f.den.neg) (.slice A2 n2 k2);have p:=hO.below B;have ag:=a7.below B;have N:=x.trans (Ze.of_below B);have r:=y.trans (Z6.of_below B);have O:=Za I B (JW a y.1);obtain ⟨v0,v1,v2,v3,v4⟩:=hV.five;have rj:=HZ.out k j hk D;have ah:=h.sm (show K≤34359738368 by omega);have ai:(canF (TQ k j)).Sm:=rj.rs.sm hs1;have a0:=Wz (h.sz hK) P;have aj:(canF (f.q * z)).Sm:=(a0.sh (by omega)).sm;have az:(k:Int) < l:=(by omega);have b0:(j:Int) < m:=(by omega);have a1:(Z7 m (TQ k))[kn]? =some (canF z):=(by rw [ZC hkn,R.out]);have T:(Z7 m (TQ k))[j]? =some (canF (TQ k j)):=ZC D;generalize ab:TQ k j=qj at *;have b2:=JZ ab;clear ab;clear he hO x I y a7 a0 h rj Z;by_cases d:(j:Int)=kn
    ·have ak:Hid (Z7 m (TQ k)=Z7 m (TQ (k+1))):=JZ (ZR fun i _=>by rw [ae.out d]);have a2:((j:Int) !=kn)=false:=(by simpa using d);clear d T a1;rw [ak.out] at p;go_wp2;clear a8;go_roundw
     case rel=>exact ⟨k+1,by omega,by go_num,p,N,r,O⟩
     case measure=>simp [intOf];omega
    ·have U:=JZ (af.out d);have a2:((j:Int) !=kn)=true:=(by simpa using d);have HV:Hid ((canF qj).q - (canF (f.q * z)).q=TQ (k+1) j):=JZ (by rw [Zu,Zu,U.out,if_pos rfl]);have al:Hid ((Z7 m (TQ k)).set j (canF (TQ (k+1) j))=Z7 m (TQ (k+1))):=JZ (by rw [XF D];exact ZR fun i _=>by rw [U.out i,U.out j,if_pos rfl]);obtain ⟨b1,o1,B3,p3,q3,B4,p4,q4,hA,_,⟨y0,y1,y2,y3⟩,u⟩:=p.frs.elem (JR _ _) a1;injection hA with hA;injection hA with hA1 hA2;subst hA1;subst hA2;obtain ⟨b1,o1,D3,r3,s3,D4,r4,s4,hA,_,⟨z0,z1,z2,z3⟩,ar⟩:=p.frs.elem (JR _ _) T;injection hA with hA;injection hA with hA1 hA2;subst hA1;subst hA2;simp only [Nat.zero_add] at y0 y1 y2 y3 z0 z1 z2 z3;clear d
     go_upto_region 5 with (fail)
     clear a8;have C0:=Zm y0;have C1:=Zm y1;have C2:=Zm y2;have C3:=Zm y3;have D0:=Zm v0;have D1:=Zm v1;have D2:=Zm v2;have am:=Zm v3;have an:=Zm v4;have E0:=Zm z0;have E1:=Zm z1;have E2:=Zm z2;have E3:=Zm z3;have F:=Zf W1;clear y0 y1 y2 y3 v0 v1 v2 v3 v4 z0 z1 z2 z3 x0 x1 x2 x3 x4;refine Zp 17 [0,1,2,3,4,5,6,7,8,9,10,11,12,13,14,15,16,17] (by kernel_rfl) (by kernel_rfl) ?_;repeat ((first | (refine Zd (v:=?_) rfl rfl rfl ?_ ?_;rotate_left;(· (intro _ C;go_simp;(try go_bits);(try with_reducible rfl)))) | (refine Zj (v:=?_) rfl rfl rfl ?_ ?_;rotate_left;(· (intro _ C;go_simp;(try go_bits);(try with_reducible rfl)))) | refine Zk rfl rfl rfl ?_);(try simp only [Act.put,pu1,pu2,pu3,pu4,pu5,pu6]))
     refine Zh rfl rfl (fun KR hKR=>?_);go_simp;(with_reducible refine (Wj _ _ f (canF z) _ (ag.below F) (u.below F) ah X).mono ?_);rw [Zu];rintro _ w6 ⟨v6,rfl,e6,au⟩;have G:=Za F au F.size;refine hKR.out _ _ (Or.inr G) ?_;clear hKR KR;(try simp only [Act.put,pu1,pu2,pu3,pu4,pu5,pu6]);repeat ((first | (refine Zd (v:=?_) rfl rfl rfl ?_ ?_;rotate_left;(· (intro _ C;go_simp;(try go_bits);(try with_reducible rfl)))) | (refine Zj (v:=?_) rfl rfl rfl ?_ ?_;rotate_left;(· (intro _ C;go_simp;(try go_bits);(try with_reducible rfl)))) | refine Zk rfl rfl rfl ?_);(try simp only [Act.put,pu1,pu2,pu3,pu4,pu5,pu6]))
     refine Zh rfl rfl (fun KR hKR=>?_);go_simp;(with_reducible refine (WT _ _ (canF qj) (canF (f.q * z)) _ (ar.below G) e6 ai aj).mono ?_);rw [HV.out];rintro _ w7 ⟨v7,rfl,e7,av⟩;have s:=Za G av G.size;obtain ⟨E,l9,k9,E',b9,ba,rfl,_,_⟩:=id e7;have a3:=p.below s;obtain ⟨_,_,_,_,⟨c0,c1,c2,c3⟩,⟨f0,f1,f2,f3⟩,_⟩:=a3.at_ T;refine hKR.out _ _ (Or.inr s) ?_;clear hKR KR;(try simp only [Act.put,pu1,pu2,pu3,pu4,pu5,pu6]);repeat ((first | (refine Zd (v:=?_) rfl rfl rfl ?_ ?_;rotate_left;(· (intro _ C;go_simp;(try go_bits);(try with_reducible rfl)))) | (refine Zj (v:=?_) rfl rfl rfl ?_ ?_;rotate_left;(· (intro _ C;go_simp;(try go_bits);(try with_reducible rfl)))) | refine Zk rfl rfl rfl ?_);(try simp only [Act.put,pu1,pu2,pu3,pu4,pu5,pu6]))
     refine Zh rfl rfl (fun KR hKR=>?_);go_simp;refine hKR.out _ _ (Or.inl (by decide)) ?_;clear hKR KR;(try simp only [Act.put,pu1,pu2,pu3,pu4,pu5,pu6]);refine Zx ?_;clear C0 C1 C2 C3 D0 D1 D2 am an E0 E1 E2 E3;have ao:j < (Z7 m (TQ k)).length:=(by rw [Zi];exact D);obtain ⟨a9,aa⟩:=a3.set_ ao e7;rw [al.out] at a9;have a4:=(N.trans (Ze.of_below s)).trans aa;have a5:=r.trans (Z6.of_below s);have a6:=ZA (Za O s (JW a r.1)) ap (j * 4) (j * 4+1) (j * 4+2) (j * 4+3);go_wp2;go_roundw
     case rel=>exact ⟨k+1,by omega,by go_num,a9,a4,a5.trans Yf,a6 _ _ _ _⟩
     case measure=>simp [intOf];omega
   ·obtain rfl:k=l:=by omega
    have HE:Hid (Zcy base (.slice (some ⟨g,0,none⟩) m c0) m (TQ k) w wr):=JZ ⟨hO,x,y,I⟩;clear hO x y I;go_wp2
    go_end0
    exact ⟨rfl,HE.out⟩
namespace Pl
theorem Xf.uniq {n:Nat} {cols:Mx} {x y b:Nat→Rat} (hi:Xf n cols) (hx:∀r,r < n→Xw n cols x r=b r) (hy:∀r,r < n→Xw n cols y r=b r):∀k,k < n→x k=y k:=by
 obtain ⟨z,hz,h1⟩:=Zau hi hx;obtain ⟨z',a,h2⟩:=Zau hi hy;rw [hz] at a;injection a with e;subst e;exact fun k hk=>by rw [← h1 k hk,h2 k hk]
theorem Xf.sz {n K:Nat} {cols:Mx} {x b:Nat→Rat} (hi:Xf n cols) (hc:∀r c,r < n→c < n→Sz K (cols c r)) (hb:∀r,r < n→Sz K (b r)) (hx:∀r,r < n→Xw n cols x r=b r):∀i,i < n→Sz (5^n * K) (x i):=by
 obtain ⟨z,hz,h1⟩:=Zau hi hx;exact fun i hi'=>by rw [← h1 i hi'];exact Zpl hc hb hz i hi'
def Ycz (C:Nat→Nat) (i:Nat):Nat→Nat
 | 0=>0
 | s+1=>if C s=i then s else Ycz C i s
theorem Znm {n m k:Nat} {C:Nat→Nat} (h:Inj n m C) (hk:k < m):Ycz C (C k) m=k:=by
 have a:∀t,k < t→t≤m→Ycz C (C k) t=k:=by
  intro t
  induction t with
  | zero=>intro h1;omega
  | succ t ih=>
   intro h1 h2;unfold Ycz;by_cases e:t=k
   ·subst e;rw [if_pos rfl]
   ·rw [if_neg fun g=>e (h.eq (by omega) hk g)];exact ih (by omega) (by omega)
 exact a m hk (JY _)
def xOf (C:Nat→Nat) (n:Nat) (X:Nat→Rat):Nat→Rat:=fun i=>X (Ycz C i n)
theorem Zgn {n k:Nat} {C:Nat→Nat} {X:Nat→Rat} (h:Inj n n C) (hk:k < n):xOf C n X (C k)=X k:=by unfold xOf;rw [Znm h hk]
def VO (n j:Nat) (C:Nat→Nat) (X:Nat→Rat):List RF:=rfL n fun i=>if n - j≤Ycz C i n then canF (X (Ycz C i n)) else zeroF
theorem Zgo {n:Nat} {C:Nat→Nat} {X:Nat→Rat} (h:Inj n n C):VO n 0 C X=List.replicate n zeroF:=by
 have:VO n 0 C X=rfL n fun _=>zeroF:=XK fun i hi=>by
  obtain ⟨s,hs,rfl⟩:=h.onto hi;rw [Znm h hs,if_neg (by omega)]
 rw [this];refine List.ext_getElem? fun i=>?_
 rcases JX i n with e | e
 ·rw [Yu e];simp [e]
 ·rw [JU (by rw [Zw];exact e),JU (by simp;exact e)]
theorem Zgp {n j k:Nat} {C:Nat→Nat} {X:Nat→Rat} (h:Inj n n C) (hk:k+1+j=n):(VO n j C X).set (C k) (canF (X k))=VO n (j+1) C X:=by
 unfold VO;rw [VB (h.1 k (by omega))];refine XK fun i hi=>?_
 obtain ⟨s,hs,rfl⟩:=h.onto hi;rw [Znm h hs];by_cases e:s=k
 ·subst e;rw [if_pos rfl,if_pos (by omega)]
 ·rw [if_neg fun g=>e (h.eq hs (by omega) g)];by_cases e2:n - j≤s
  ·rw [if_pos e2,if_pos (by omega)]
  ·rw [if_neg e2,if_neg (by omega)]
theorem Zla {n:Nat} {C:Nat→Nat} {X:Nat→Rat} (_h:Inj n n C):VO n n C X=Z7 n (xOf C n X):=by
 unfold VO;rw [← Znl];exact XK fun i _=>by rw [if_pos (by omega)];rfl
theorem WU {n j:Nat} {C:Nat→Nat} {X:Nat→Rat}:(VO n j C X).length=n:=Zw _ _
def solQ (n:Nat) (R C:Nat→Nat) (L U:Mx) (b:Nat→Rat):Nat→Rat:=xOf C n (U3 n U (UW L (fun p=>b (R p)) n) n)
def solT (n:Nat) (R C:Nat→Nat) (L U:Mx) (d:Nat→Rat):Nat→Rat:=xOf R n (ltN n L (utN U (fun k=>d (C k)) n) n)
theorem Zcw.solQ {n:Nat} {A:Mx} {R C:Nat→Nat} {L U:Mx} (h:Zcw n A R C L U) (b:Nat→Rat):∀r,r < n→Xw n (trM A) (solQ n R C L U b) r=b r:=by
 refine h.solve (z:=UW L (fun p=>b (R p)) n) (Zng h.l0 h.l1) fun s hs=>?_
 rw [← Zem (z:=UW L (fun p=>b (R p)) n) h.u0 h.u1 s hs];exact Zn fun k hk=>by unfold Pl.solQ;rw [Zgn h.ci hk]
theorem Zcw.solT {n:Nat} {A:Mx} {R C:Nat→Nat} {L U:Mx} (h:Zcw n A R C L U) (d:Nat→Rat):∀c,c < n→Xw n A (solT n R C L U d) c=d c:=by
 refine h.solveT (v:=utN U (fun k=>d (C k)) n) (Zrx h.u0 h.u1) fun s hs=>?_
 rw [← Zgk (w:=utN U (fun k=>d (C k)) n) h.l0 h.l1 s hs];exact Zn fun k hk=>by unfold Pl.solT;rw [Zgn h.ri hk]
structure Znn (n E:Nat) (A:Mx) (R C:Nat→Nat) (L U:Mx):Prop where
 fac:Zcw n A R C L U
 n7:n≤7
 e1:1≤E
 e2:E≤4000000
 lB:∀t p,t < n→p < n→Sz (2 * E) (L t p)
 uB:∀k s,k < n→s < n→Sz (2 * E) (U k s)
theorem Zes {n K J:Nat} {f g:Nat→Rat} (hn:n≤7) (hf:∀i,i < n→Sz K (f i)) (hg:∀i,i < n→Sz J (g i)):Sz (7 * (K+J)+8) (ZZ (fun i=>f i * g i) n):=
 (Zph fun i hi=>Wz (hf i hi) (hg i hi)).mono (by
  have:=JS (K+J+1) hn
  omega)
theorem Znn.zB {n E:Nat} {A:Mx} {R C:Nat→Nat} {L U:Mx} (h:Znn n E A R C L U) {b:Nat→Rat} (hX:∀i,i < n→Sz E (Pl.solQ n R C L U b i)):∀s,s < n→Sz (29 * E) (UW L (fun p=>b (R p)) n s):=by
 intro s hs;have e1:=h.e1;rw [← Zem (z:=UW L (fun p=>b (R p)) n) h.fac.u0 h.fac.u1 s hs];refine (Zes (K:=2 * E) (J:=E) h.n7 (fun k hk=>h.uB k s hk hs) fun k hk=>?_).mono (by omega);have:=hX (C k) (h.fac.ci.1 k hk);unfold Pl.solQ at this
 rwa [Zgn h.fac.ci hk] at this
theorem Znn.fB {n E J:Nat} {A:Mx} {R C:Nat→Nat} {L U:Mx} (h:Znn n E A R C L U) {b:Nat→Rat} (hb:∀i,i < n→Sz J (b i)) (hX:∀i,i < n→Sz E (Pl.solQ n R C L U b i)):
 ∀j i,j≤n→i < n→Sz (J+226 * E) (UW L (fun p=>b (R p)) j i):=by
 have e1:=h.e1;have a:∀j i,j≤i→i < n→Sz (J+226 * E) (UW L (fun p=>b (R p)) j i):=fun j i hj hi=>by
  rw [Zic L _ i j hj];have hs:Sz (7 * (2 * E+29 * E)+8) (ZZ (fun s=>L s i * UW L (fun p=>b (R p)) s s) j):=Zes (by have:=h.n7;omega) (fun s hs=>h.lB s i (by omega) hi) fun s hs=>by
   rw [← Zib (show s≤n by omega)];exact h.zB hX s (by omega)
  exact (Zdw (hb (R i) (h.fac.ri.1 i hi)) hs).mono (by omega)
 intro j i hj hi;rcases JX i j with g | g
 ·rw [Zib (show i≤j by omega)];exact a i i (JY _) hi
 ·exact a j i g hi
theorem Znn.bB {n E:Nat} {A:Mx} {R C:Nat→Nat} {L U:Mx} (h:Znn n E A R C L U) {b:Nat→Rat} (hX:∀i,i < n→Sz E (Pl.solQ n R C L U b i)):
 ∀j i,j≤n→i < n→Sz (59 * E) (U3 n U (UW L (fun p=>b (R p)) n) j i):=by
 have e1:=h.e1;have hx:∀k,k < n→Sz E (U3 n U (UW L (fun p=>b (R p)) n) n k):=fun k hk=>by
  have:=hX (C k) (h.fac.ci.1 k hk);unfold Pl.solQ at this
  rwa [Zgn h.fac.ci hk] at this
 intro j i hj hi;rcases JX (j+i) n with g | g
 ·rw [Zid n U _ i j g];have hs:Sz (7 * (2 * E+E)+8) (ZZ (fun t=>U (n - 1 - t) i * U3 n U (UW L (fun p=>b (R p)) n) n (n - 1 - t)) j):=Zes (by have:=h.n7;omega) (fun t ht=>h.uB _ _ (by omega) hi) fun t ht=>hx _ (by omega)
  exact (Zdw (h.zB hX i hi) hs).mono (by omega)
 ·rw [Zbv hi (by omega) hj,← Zbv hi (by omega) (JY n)];exact (hx i hi).mono (by omega)
theorem Znn.wB {n E:Nat} {A:Mx} {R C:Nat→Nat} {L U:Mx} (h:Znn n E A R C L U) {d:Nat→Rat} (hY:∀i,i < n→Sz E (Pl.solT n R C L U d i)):∀s,s < n→Sz (29 * E) (utN U (fun k=>d (C k)) n s):=by
 intro s hs;have e1:=h.e1;rw [← Zgk (w:=utN U (fun k=>d (C k)) n) h.fac.l0 h.fac.l1 s hs];refine (Zes (K:=2 * E) (J:=E) h.n7 (fun p hp=>h.lB s p hs hp) fun p hp=>?_).mono (by omega);have:=hY (R p) (h.fac.ri.1 p hp);unfold Pl.solT at this
 rwa [Zgn h.fac.ri hp] at this
theorem Znn.tB {n E:Nat} {A:Mx} {R C:Nat→Nat} {L U:Mx} (h:Znn n E A R C L U) {d:Nat→Rat} (hY:∀i,i < n→Sz E (Pl.solT n R C L U d i)):
 ∀j i,j≤n→i < n→Sz (29 * E) (ltN n L (utN U (fun k=>d (C k)) n) j i):=by
 have e1:=h.e1;intro j i hj hi;rcases JX (j+i) n with g | g
 ·rw [Zeo g];exact h.wB hY i hi
 ·rw [Zcr hi (by omega) hj,← Zcr hi (show n - i≤n by omega) (JY n)];have:=hY (R i) (h.fac.ri.1 i hi);unfold Pl.solT at this;rw [Zgn h.fac.ri hi] at this;exact this.mono (by omega)
theorem Zet {es ds:List En} {k:Int} {z:Rat} {g:Nat→Rat} {i:Nat}:∀{t:Nat},t≤es.length→UZ (es++ds) k z g t i=UZ es k z g t i
 | 0,_=>rfl
 | t+1,h=>by
  have ih:=Zet (es:=es) (ds:=ds) (k:=k) (z:=z) (g:=g) (i:=i) (t:=t) (by omega)
  conv=>lhs;unfold UZ
  conv=>rhs;unfold UZ
  rw [List.getElem?_append_left (by omega),ih]
theorem Zih (f:Nat→Rat) (k:Nat) (z:Rat) (g:Nat→Rat) (i:Nat):∀n,UZ (spV f n) (k:Int) z g (spV f n).length i=if i < n∧i≠k then g i - f i * z else g i
 | 0=>by rw [if_neg (by omega)];rfl
 | n+1=>by
  have ih:=Zih f k z g i n
  by_cases h0:f n=0
  ·rw [Xp h0,ih]
   by_cases e:i=n
   ·subst e
    rw [if_neg (by omega),h0]
    by_cases e2:i≠k
    ·rw [if_pos ⟨by omega,e2⟩];grind
    ·rw [if_neg (by omega)]
   ·by_cases e2:i < n∧i≠k
    ·rw [if_pos e2,if_pos ⟨by omega,e2.2⟩]
    ·rw [if_neg e2,if_neg (by omega)]
  ·rw [XI h0,List.length_append]
   show UZ _ _ _ _ ((spV f n).length+1) i=_
   conv=>lhs;unfold UZ
   rw [List.getElem?_append_right (JY _),Nat.sub_self]
   show (if ((n:Int)≠(k:Int)∧(n:Int)=(i:Int)) then _ else _)=_
   rw [Zet (JY _),ih,Zu]
   by_cases e:i=n
   ·subst e
    rw [if_neg (show ¬(i < i∧i≠k) by omega)]
    by_cases e2:i≠k
    ·rw [if_pos ⟨by omega,rfl⟩,if_pos ⟨by omega,e2⟩]
    ·rw [if_neg (by omega),if_neg (by omega)]
   ·rw [if_neg (by omega)]
    by_cases e2:i < n∧i≠k
    ·rw [if_pos e2,if_pos ⟨by omega,e2.2⟩]
    ·rw [if_neg e2,if_neg (by omega)]
theorem Zpu (f:Nat→Rat) (k:Nat) (z:Rat) (g:Nat→Rat) (i:Nat):∀n t,t≤(spV f n).length→UZ (spV f n) (k:Int) z g t i=g i∨(i < n∧i≠k∧UZ (spV f n) (k:Int) z g t i=g i - f i * z)
 | 0,t,h=>by
  have h':t≤0:=h
  obtain rfl:t=0:=by omega
  exact .inl rfl
 | n+1,t,h=>by
  rcases Nat.eq_or_lt_of_le h with e | e
  ·have:=Zih f k z g i (n+1)
   rw [← e] at this
   rw [this]
   by_cases e2:i < n+1∧i≠k
   ·rw [if_pos e2];exact .inr ⟨e2.1,e2.2,rfl⟩
   ·rw [if_neg e2];exact .inl rfl
  ·have ht:t≤(spV f n).length:=by
    by_cases h0:f n=0
    ·rw [Xp h0] at e;omega
    ·rw [XI h0,List.length_append] at e;simp at e;omega
   have hs:UZ (spV f (n+1)) (k:Int) z g t i=UZ (spV f n) (k:Int) z g t i:=by
    by_cases h0:f n=0
    ·rw [Xp h0]
    ·rw [XI h0];exact Zet ht
   rw [hs];rcases Zpu f k z g i n t ht with g1 | ⟨g1,g2,g3⟩
   ·exact .inl g1
   ·exact .inr ⟨by omega,g2,g3⟩
theorem Zlb {es ds:List En} {g:Nat→Rat} {k:Int} {q:Rat}:∀{t:Nat},t≤es.length→Zfo (es++ds) g k q t=Zfo es g k q t
 | 0,_=>rfl
 | t+1,h=>by
  have ih:=Zlb (es:=es) (ds:=ds) (k:=k) (g:=g) (q:=q) (t:=t) (by omega)
  conv=>lhs;unfold Zfo
  conv=>rhs;unfold Zfo
  rw [List.getElem?_append_left (by omega),ih]
theorem Zii (f g:Nat→Rat) (k:Nat) (q:Rat):∀n,Zfo (spV f n) g (k:Int) q (spV f n).length=q - ZZ (fun i=>if i=k then 0 else f i * g i) n
 | 0=>by rw [YS];show q=_;grind
 | n+1=>by
  have ih:=Zii f g k q n
  rw [ZH]
  by_cases h0:f n=0
  ·rw [Xp h0,ih,h0]
   by_cases e:n=k
   ·rw [if_pos e];grind
   ·rw [if_neg e];grind
  ·rw [XI h0,List.length_append]
   show Zfo _ _ _ _ ((spV f n).length+1)=_
   conv=>lhs;unfold Zfo
   rw [List.getElem?_append_right (JY _),Nat.sub_self]
   show (if ((n:Int)=(k:Int)) then _ else _ - (canF (f n)).q * g (Int.toNat (n:Int)))=_
   rw [Zlb (JY _),ih,Zu,JP]
   by_cases e:n=k
   ·rw [if_pos (by omega),if_pos e];grind
   ·rw [if_neg (by omega),if_neg e];grind
theorem Yda {n j i:Nat} {L:Mx} {b:Nat→Rat} (h0:∀t p,t < n→p < n→p < t→L t p=0) (hj:j < n) (hi:i < n):(if i < n∧i≠j then UW L b j i - L j i * UW L b j j else UW L b j i)=UW L b (j+1) i:=by
 rw [Zel];rcases Nat.lt_trichotomy i j with e | e | e
 ·rw [if_pos ⟨hi,by omega⟩,if_neg (by omega),h0 j i hj hi e];grind
 ·rw [if_neg (by omega),if_neg (by omega)]
 ·rw [if_pos ⟨hi,by omega⟩,if_pos e]
def Zij (g:Nat→Rat) (k:Nat) (u:Rat):Nat→Rat:=fun i=>if i=k then g k / u else g i
theorem Ydb {n j k i:Nat} {U:Mx} {z:Nat→Rat} (h0:∀k s,k < n→s < n→k < s→U k s=0) (hk:k+1+j=n) (hi:i < n):
 (if i < n∧i≠k then Zij (U3 n U z j) k (U k k) i - U k i * Zij (U3 n U z j) k (U k k) k else Zij (U3 n U z j) k (U k k) i)=U3 n U z (j+1) i:=by
 rw [Zaw,show n - 1 - j=k by omega];unfold Zij;rcases Nat.lt_trichotomy i k with e | e | e
 ·rw [if_pos ⟨hi,by omega⟩,if_neg (show i≠k by omega),if_neg (show i≠k by omega),if_pos e,if_pos rfl]
 ·subst e;rw [if_neg (by omega),if_pos rfl,if_pos rfl]
 ·rw [if_pos ⟨hi,by omega⟩,if_neg (show i≠k by omega),if_neg (show i≠k by omega),if_neg (show ¬i < k by omega),if_pos rfl,h0 k i (by omega) hi e];grind
def YT (n k:Nat) (w:Nat→Rat):List RF:=rfL n fun i=>if i < k then canF (w i) else zeroF
theorem Wm {n k:Nat} {w:Nat→Rat}:(YT n k w).length=n:=Zw _ _
theorem Zeu {n:Nat} {w:Nat→Rat}:YT n 0 w=List.replicate n zeroF:=by
 unfold YT;refine List.ext_getElem? fun i=>?_
 rcases JX i n with e | e
 ·rw [Yu e,if_neg (by omega)];simp [e]
 ·rw [JU (by rw [Zw];exact e),JU (by simp;exact e)]
theorem Zev {n k:Nat} {w:Nat→Rat} (hk:k < n):(YT n k w).set k (canF (w k))=YT n (k+1) w:=by
 unfold YT;rw [VB hk];exact XK fun i _=>by
  by_cases e:i=k
  ·subst e;rw [if_pos rfl,if_pos (by omega)]
  ·rw [if_neg e];by_cases e2:i < k
   ·rw [if_pos e2,if_pos (by omega)]
   ·rw [if_neg e2,if_neg (by omega)]
theorem Zgq {n:Nat} {w:Nat→Rat}:YT n n w=Z7 n w:=by
 unfold YT;rw [← Znl];exact XK fun i hi=>if_pos hi
theorem Zpv {n k i:Nat} {w:Nat→Rat} (hi:i < n):qAt (YT n k w) i=if i < k then w i else 0:=by
 unfold YT;rw [Zig hi];by_cases e:i < k
 ·rw [if_pos e,if_pos e,Zu]
 ·rw [if_neg e,if_neg e,zeroF_q]
end Pl
namespace Pl
theorem UT.facS {n K:Nat} {A a:Mx} {R C:Nat→Nat} {m:Mx} (h:UT n n A a R C m) (hn:n≤7) (hK:1≤K) (hE:5^n * K≤4000000) (ha:∀i j,i < n→j < n→Sz (5^n * K) (a i j)) (hm:∀s i,s < n→i < n→Sz (2 * (5^n * K)) (m s i)):
 Znn n (5^n * K) A R C (luL R m) (luU R C a) where
 fac:=h.fac
 n7:=hn
 e1:=Nat.mul_pos (Nat.pow_pos (by decide)) hK
 e2:=hE
 lB:=fun t p ht hp=>by
  have e1:1≤5^n * K:=Nat.mul_pos (Nat.pow_pos (by decide)) hK
  unfold luL
  split
  ·exact Sz_one.mono (by omega)
  ·split
   ·exact hm t _ ht (h.ri.1 p hp)
   ·exact Sz_zero.mono (by omega)
 uB:=fun k s hk hs=>by
  have e1:1≤5^n * K:=Nat.mul_pos (Nat.pow_pos (by decide)) hK
  unfold luU
  split
  ·exact (ha _ _ (h.ri.1 s hs) (h.ci.1 k hk)).mono (by omega)
  ·exact Sz_zero.mono (by omega)
theorem Yfb {n t K:Nat} {a a' m':Mx} {r c:Nat} {P:Nat→Prop} {Q:Nat→Prop} [DecidablePred P] [DecidablePred Q] (hK:1≤K) (hr:r < n) (hc:c < n) (h:∀i j,i < n→j < n→Sz (5^t * K) (a i j)) (hmt:∀i,i < n→m' t i=if P i then a i c / a r c else 0)
 (ha:∀i j,i < n→j < n→a' i j=if P i∧Q j then a i j - m' t i * a r j else a i j):(∀i,i < n→Sz (2 * (5^t * K)) (m' t i))∧∀i j,i < n→j < n→Sz (5^(t+1) * K) (a' i j):=by
 have e1:1≤5^t * K:=Nat.mul_pos (Nat.pow_pos (by decide)) hK;have e2:5^(t+1) * K=5 * (5^t * K):=by rw [Nat.pow_succ];ac_rfl
 have hm:∀i,i < n→Sz (2 * (5^t * K)) (m' t i):=fun i hi=>by
  rw [hmt i hi];split
  ·exact (Zal (h i c hi hc) (h r c hr hc)).mono (by omega)
  ·exact Sz_zero.mono (by omega)
 refine ⟨hm,fun i j hi hj=>?_⟩;rw [ha i j hi hj,e2];split
 ·exact (Zdw (h i j hi hj) (Wz (hm i hi) (h r j hr hj))).mono (by omega)
 ·exact (h i j hi hj).mono (by omega)
theorem Xf.trQ {n:Nat} {cols:Mx} (h:Xf n cols):Xf n (trM cols):=by
 intro y hy k hk;obtain ⟨x,hx⟩:=XH h (fun r=>if r=k then 1 else 0);have h1:=(Ws hx x).2 fun _ _=>rfl
 have e1:y k=ZZ (fun r=>y r * Xw n cols x r) n:=by
  rw [Zn (g:=fun r=>if r=k then y k else 0) fun r hr=>by
   rw [h1 r hr];by_cases e:r=k
   ·subst e;rw [if_pos rfl,if_pos rfl];grind
   ·rw [if_neg e,if_neg e];grind,WS hk]
 have e2:ZZ (fun r=>y r * Xw n cols x r) n=ZZ (fun r=>ZZ (fun c=>x c * (cols c r * y r)) n) n:=Zn fun r hr=>by
  unfold Xw;rw [← Xo];exact Zn fun c _=>by grind
 rw [e1,e2,Ub];exact Vf fun c hc=>by
  rw [Xo];have:=hy c hc;have e3:ZZ (fun r=>cols c r * y r) n=0:=this;rw [e3];grind
structure Ups (n K T:Nat) (k:Nat→Nat) (im V:Mx) (Cs:Nat→Mx):Prop where
 kn:∀t,t < T→k t < n
 step:∀t,t < T→Cs (t+1)=Zbm (Cs t) (k t) (V t)
 img:∀t,t < T→∀r,r < n→Xw n (Cs t) (im t) r=V t r
 nz:∀t,t < T→im t (k t)≠0
 szV:∀t,t < T→∀r,r < n→Sz K (V t r)
 szC:∀r c,r < n→c < n→Sz K (Cs 0 c r)
 ind:Xf n (Cs 0)
theorem Ups.indep {n K T:Nat} {k:Nat→Nat} {im V:Mx} {Cs:Nat→Mx} (h:Ups n K T k im V Cs):∀t,t≤T→Xf n (Cs t)
 | 0,_=>h.ind
 | t+1,ht=>by rw [h.step t (by omega)];exact Zej (h.kn t (by omega)) (h.indep t (by omega)) (h.img t (by omega)) (h.nz t (by omega))
theorem Ups.sz {n K T:Nat} {k:Nat→Nat} {im V:Mx} {Cs:Nat→Mx} (h:Ups n K T k im V Cs):∀t,t≤T→∀r c,r < n→c < n→Sz K (Cs t c r)
 | 0,_=>h.szC
 | t+1,ht=>fun r c hr hc=>by
  rw [h.step t (by omega)]
  unfold Zbm
  split
  ·exact h.szV t (by omega) r hr
  ·exact h.sz t (by omega) r c hr hc
theorem Ups.imB {n K T:Nat} {k:Nat→Nat} {im V:Mx} {Cs:Nat→Mx} (h:Ups n K T k im V Cs):∀t,t < T→∀i,i < n→Sz (5^n * K) (im t i):=fun t ht=>(h.indep t (by omega)).sz (h.sz t (by omega)) (h.szV t ht) (h.img t ht)
theorem Ups.zero {n K:Nat} {cols:Mx} (hs:∀r c,r < n→c < n→Sz K (cols c r)) (hi:Xf n cols) (k:Nat→Nat) (im V:Mx):Ups n K 0 k im V (fun _=>cols) where
 kn:=fun t ht=>absurd ht (by omega)
 step:=fun t ht=>absurd ht (by omega)
 img:=fun t ht=>absurd ht (by omega)
 nz:=fun t ht=>absurd ht (by omega)
 szV:=fun t ht=>absurd ht (by omega)
 szC:=hs
 ind:=hi
def WF {α:Type} (f:Nat→α) (T:Nat) (x:α):Nat→α:=fun t=>if t=T then x else f t
theorem ZF {α:Type} {f:Nat→α} {T t:Nat} {x:α} (h:t < T):WF f T x t=f t:=if_neg (by omega)
theorem ZO {α:Type} {f:Nat→α} {T:Nat} {x:α}:WF f T x T=x:=if_pos rfl
theorem Ups.snoc {n K T:Nat} {k:Nat→Nat} {im V:Mx} {Cs:Nat→Mx} (h:Ups n K T k im V Cs) {q:Nat} {v x:Nat→Rat} (hq:q < n) (hx:∀r,r < n→Xw n (Cs T) x r=v r) (h0:x q≠0) (hv:∀r,r < n→Sz K (v r)):
 Ups n K (T+1) (WF k T q) (WF im T x) (WF V T v) (WF Cs (T+1) (Zbm (Cs T) q v)) where
 kn:=fun t ht=>by
  by_cases e:t=T
  ·subst e;rw [ZO];exact hq
  ·rw [ZF (by omega)];exact h.kn t (by omega)
 step:=fun t ht=>by
  by_cases e:t=T
  ·subst e;rw [ZO,ZO,ZO,ZF (by omega)]
  ·rw [ZF (by omega),ZF (by omega),ZF (by omega),ZF (by omega)];exact h.step t (by omega)
 img:=fun t ht=>by
  by_cases e:t=T
  ·subst e;rw [ZO,ZO,ZF (by omega)];exact hx
  ·rw [ZF (by omega),ZF (by omega),ZF (by omega)];exact h.img t (by omega)
 nz:=fun t ht=>by
  by_cases e:t=T
  ·subst e;rw [ZO,ZO];exact h0
  ·rw [ZF (by omega),ZF (by omega)];exact h.nz t (by omega)
 szV:=fun t ht=>by
  by_cases e:t=T
  ·subst e;rw [ZO];exact hv
  ·rw [ZF (by omega)];exact h.szV t (by omega)
 szC:=fun r c hr hc=>by rw [ZF (by omega)];exact h.szC r c hr hc
 ind:=by rw [ZF (by omega)];exact h.ind
def Zrz (k:Nat) (im x:Nat→Rat):Nat→Rat:=fun i=>if i=k then x k / im k else x i - im i * (x k / im k)
theorem Zvf {k:Nat} {im x:Nat→Rat} (h:x k=0) (i:Nat):Zrz k im x i=x i:=by
 unfold Zrz;rw [h,show (0:Rat) / im k=0 by rw [Rat.div_def];grind];split
 ·rename_i e;rw [e,h]
 ·grind
def xN (k:Nat→Nat) (im:Mx) (x:Nat→Rat):Nat→Nat→Rat
 | 0=>x
 | t+1=>Zrz (k t) (im t) (xN k im x t)
theorem Ups.solves {n K T:Nat} {k:Nat→Nat} {im V:Mx} {Cs:Nat→Mx} (h:Ups n K T k im V Cs) {x b:Nat→Rat} (hx:∀r,r < n→Xw n (Cs 0) x r=b r):∀t,t≤T→∀r,r < n→Xw n (Cs t) (xN k im x t) r=b r
 | 0,_=>hx
 | t+1,ht=>by
  rw [h.step t (by omega)]
  refine Zhz (h.kn t (by omega)) (h.img t (by omega)) (h.nz t (by omega)) (h.solves hx t (by omega)) ?_ fun i _ hne=>?_
  ·show Zrz _ _ _ _=_
   unfold Zrz;rw [if_pos rfl]
  ·show Zrz _ _ _ _=_ - _ * Zrz _ _ _ _
   unfold Zrz;rw [if_neg hne,if_pos rfl]
theorem Ups.xB {n K T:Nat} {k:Nat→Nat} {im V:Mx} {Cs:Nat→Mx} (h:Ups n K T k im V Cs) {x b:Nat→Rat} (hx:∀r,r < n→Xw n (Cs 0) x r=b r) (hb:∀r,r < n→Sz K (b r)):∀t,t≤T→∀i,i < n→Sz (5^n * K) (xN k im x t i):=fun t ht=>(h.indep t ht).sz (h.sz t ht) hb (h.solves hx t ht)
def Zno (n k:Nat) (im c:Nat→Rat):Nat→Rat:=fun i=>if i=k then (c k - ZZ (fun i=>if i=k then 0 else im i * c i) n) / im k else c i
def cN (n T:Nat) (k:Nat→Nat) (im:Mx) (d:Nat→Rat):Nat→Nat→Rat
 | 0=>d
 | j+1=>Zno n (k (T - 1 - j)) (im (T - 1 - j)) (cN n T k im d j)
theorem Zvg {n q:Nat} {cols:Mx} {im v y c:Nat→Rat} (hq:q < n) (h0:im q≠0) (hi:∀r,r < n→Xw n cols im r=v r) (h:∀j,j < n→Xw n (trM cols) y j=Zno n q im c j):∀j,j < n→Xw n (trM (Zbm cols q v)) y j=c j:=by
 intro j hj;by_cases e:j=q
 ·subst e;have e1:Xw n (trM (Zbm cols j v)) y j=ZZ (fun r=>y r * Xw n cols im r) n:=Zn fun r hr=>by
   show Zbm cols j v j r * y r=_;unfold Zbm;rw [if_pos rfl,hi r hr];grind
  have e2:ZZ (fun r=>y r * Xw n cols im r) n=ZZ (fun i=>im i * Xw n (trM cols) y i) n:=by
   rw [Zn (g:=fun r=>ZZ (fun i=>im i * (cols i r * y r)) n) fun r _=>by
    unfold Xw;rw [← Xo];exact Zn fun i _=>by grind,Ub]
   exact Zn fun i _=>Xo _ _ _
  have e3:ZZ (fun i=>im i * Xw n (trM cols) y i) n=ZZ (fun i=>(if i=j then 0 else im i * c i)+(if i=j then c j - ZZ (fun i=>if i=j then 0 else im i * c i) n else 0)) n:=Zn fun i hi'=>by
   rw [h i hi'];unfold Zno;by_cases e:i=j
   ·subst e;rw [if_pos rfl,if_pos rfl,if_pos rfl];have:=Rat.div_mul_cancel (a:=c i - ZZ (fun x=>if x=i then 0 else im x * c x) n) h0;grind
   ·rw [if_neg e,if_neg e,if_neg e];grind
  rw [e1,e2,e3,WR,WS hj];grind
 ·have:=h j hj;unfold Zno at this;rw [if_neg e] at this;rw [← this];exact Zn fun r _=>by
   show Zbm cols q v j r * y r=_;unfold Zbm;rw [if_neg e];rfl
theorem Ups.solvesT {n K T:Nat} {k:Nat→Nat} {im V:Mx} {Cs:Nat→Mx} (h:Ups n K T k im V Cs) {d y:Nat→Rat} (hy:∀c,c < n→Xw n (trM (Cs 0)) y c=cN n T k im d T c):∀t,t≤T→∀c,c < n→Xw n (trM (Cs t)) y c=cN n T k im d (T - t) c
 | 0,_=>hy
 | t+1,ht=>by
  have ih:=h.solvesT hy t (by omega)
  rw [h.step t (by omega)]
  refine Zvg (h.kn t (by omega)) (h.nz t (by omega)) (h.img t (by omega)) fun j hj=>?_
  rw [ih j hj,show T - t=(T - (t+1))+1 by omega]
  show Zno n (k (T - 1 - (T - (t+1)))) (im (T - 1 - (T - (t+1)))) _ j=_
  rw [show T - 1 - (T - (t+1))=t by omega]
theorem Ups.yB {n K T:Nat} {k:Nat→Nat} {im V:Mx} {Cs:Nat→Mx} (h:Ups n K T k im V Cs) {d y:Nat→Rat} (hd:∀r,r < n→Sz K (d r)) (hy:∀c,c < n→Xw n (trM (Cs 0)) y c=cN n T k im d T c):∀i,i < n→Sz (5^n * K) (y i):=
 (h.indep T (JY _)).trQ.sz (fun r c hr hc=>h.sz T (JY _) c r hc hr) hd fun r hr=>by
  rw [h.solvesT hy T (JY _) r hr,Nat.sub_self];rfl
theorem Ups.cB {n K T:Nat} {k:Nat→Nat} {im V:Mx} {Cs:Nat→Mx} (h:Ups n K T k im V Cs) (hn:n≤7) (hK:1≤K) {d y:Nat→Rat} (hd:∀r,r < n→Sz K (d r)) (hy:∀c,c < n→Xw n (trM (Cs 0)) y c=cN n T k im d T c):∀j,j≤T→∀i,i < n→Sz (22 * (5^n * K)) (cN n T k im d j i):=fun j hj i hi=>by
 have e1:K≤5^n * K:=Nat.le_mul_of_pos_left K (Nat.pow_pos (by decide))
 have:=h.solvesT hy (T - j) (by omega) i hi
 rw [show T - (T - j)=j by omega] at this
 rw [← this]
 exact (Zes (K:=K) (J:=5^n * K) hn (fun r hr=>h.sz (T - j) (by omega) r i hr hi) (h.yB hd hy)).mono (by omega)
end Pl
end Go.Proofs.YtncmobkhenfhpaaGreat
