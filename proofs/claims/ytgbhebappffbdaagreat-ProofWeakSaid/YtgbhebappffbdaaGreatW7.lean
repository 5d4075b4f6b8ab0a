/- Lemmas of the claim; no condition. -/
import Derived.Test.YtgbhebappffbdaaGreatW6
set_option linter.all false
set_option maxRecDepth 100000
set_option maxHeartbeats 40000000
namespace Go.Proofs.YtgbhebappffbdaaGreat
open Go.RowKit
open Pl
attribute [local go_sem ↓] Go.wp_at_zero Go.wp_at_succ
theorem px:(∀(α:Type) (l:List α) (i:Nat) (h:i < l.toArray.size),l.toArray[i]=l[i]'(by simpa using h))∧(∀(α:Type) (a:α) (xs:List α) (h:0 < (a::xs).length),(a::xs)[0]=a)∧∀(α:Type) (a:α) (xs:List α) (i:Nat) (h:i+1 < (a::xs).length),(a::xs)[i+1]=xs[i]'(by simpa using h):=⟨fun _ _ _ h=>pu4 h,fun _ _ _ h=>pu5 _ _ h,fun _ _ _ _ h=>pu6 _ _ _ h⟩
def py:=And.intro pu px
namespace Pl
def Zjo (es:List En) (g:Nat→Rat) (k:Int) (q:Rat):Nat→Rat
 | 0=>q
 | t+1=>match es[t]? with
  | some e=>if e.idx=k then Zjo es g k q t else Zjo es g k q t - e.f.q * g e.idx.toNat
  | none=>Zjo es g k q t
theorem Yjy {es:List En} {g:Nat→Rat} {k:Int} {q:Rat} {t:Nat} {e:En} (h:es[t]? =some e) (hk:e.idx=k):Zjo es g k q (t+1)=Zjo es g k q t:=by
 simp only [Zjo,h,if_pos hk]
theorem Yjz {es:List En} {g:Nat→Rat} {k:Int} {q:Rat} {t:Nat} {e:En} (h:es[t]? =some e) (hk:e.idx≠k):Zjo es g k q (t+1)=Zjo es g k q t - e.f.q * g e.idx.toNat:=by
 simp only [Zjo,h,if_neg hk]
end Pl
def Ymk (r:RF) (q:Rat) (n:Nat) (w:World) (wr:World):Prop:=
 ∃(f:RF) (A A':Option Addr) (l c l' c':Nat),f.q=q∧(f=r∨f=canF f.q)∧f.Rs n∧Bk wr w.heap.size 46 [.bool f.num.neg,.slice A l c,.bool f.den.neg,.slice A' l' c']∧Zw wr (.agg #[.bool f.num.neg,.slice A l c,.bool f.den.neg,.slice A' l' c']) f∧
  Bk wr (w.heap.size+1) 46 [.bool false,.slice none 0 0,.bool false,.slice none 0 0]∧Below w.heap.size w wr
theorem Zgc (v:Value) (es:List En) (e:En) (w:World) (h:V7 w v es) (he:es[es.length - 1]? =some e):
 Calls Tryz.prog 162 #[v] w fun o w'=>∃v',o= .returned v'∧Zw w' v' e.f∧Below w.heap.size w w':=by
 obtain ⟨A,c,rfl,j,m⟩:=h.shape;have hp:0 < es.length:=by have:=(List.getElem?_eq_some_iff.1 he).1;omega
 obtain ⟨W,hW,hR,a⟩:=YR w (.bool false) (.slice none 0 0) (.bool false) (.slice none 0 0);obtain ⟨b,n,A1,n1,k1,A2,n2,k2,rfl,p,⟨x0,x1,x2,x3,x4⟩,d⟩:=h.elem a he;generalize hk:es.length - 1=k at *;generalize hl:es.length=l at *;have g:(l:Int) - 1=(k:Int):=by omega
 have i:(k:Int) < l:=by omega
 obtain ⟨ei,f⟩:=e;simp only at *;obtain ⟨c0,c1,c2,c3⟩:=hR.four;obtain ⟨f0,f1,f2,f3⟩:=hR.fourF;clear he hl hk h hp;go_enter Tryz.func162,Tryz.ntmps162;go_wp2;refine Zp Tryz.results162 Tryz.underlying46 (by kernel_rfl) rfl (hR.set4 _ _ _ _) rfl ?_;exact Yk hR d a (JY _)
theorem Ux (va vb vd:Value) (r:RF) (es:List En) (kk:Int) (ws:List RF) (K J:Nat) (w:World) (h1:Zw w va r) (h2:V7 w vb es) (h3:Y1 w vd ws) (hin:inR ws.length es) (hr:r.Rs J) (hJ:1≤J) (ha:∀(k:Nat) (e:En),es[k]? =some e→e.f.Rs K) (hb:RsL K ws) (hK:1≤K) (hs:J+es.length * (2 * K+1)≤34359738368) (hs2:2 * K≤34359738368):
 Calls Tryz.prog 161 #[va,vb,.int .i64 kk,vd] w fun o w'=>∃v' f,o= .returned v'∧Zw w' v' f∧f.q=Zjo es (qAt ws) kk r.q es.length∧(f=r∨f=canF f.q)∧f.Rs (J+es.length * (2 * K+1))∧Below w.heap.size w w':=by
 obtain ⟨R1,m1,d1,R2,m2,d2,rfl,_,_⟩:=id h1;obtain ⟨A,c,rfl,b2,b3⟩:=h2.shape;obtain ⟨A',c',rfl,b4,b5⟩:=h3.shape;generalize hn:es.length=l at *;generalize hm:ws.length=m at *;have HN:=JZ hn;have HM:=JZ hm;have HA:=JZ ha;have HB:=JZ hb;have HS:=JZ hs;have HI:=JZ hin;obtain ⟨TQ,S⟩:∃TQ:Nat→Rat,TQ=Zjo es (qAt ws) kk r.q:=⟨_,rfl⟩;rw [← S];have ac:=JZ S;have ad:r.q=TQ 0:=by rw [S];rfl
 obtain ⟨TZ,T⟩:∃TZ:Nat→Nat,TZ=fun k=>J+k * (2 * K+1):=⟨_,rfl⟩
 have HL:J+l * (2 * K+1)=TZ l:=by rw [T]
 rw [HL];have aq:Hid (∀k,k≤l→1≤TZ k∧TZ k≤34359738368∧TZ (k+1)=TZ k+(2 * K)+1):=JZ fun k hk=>by
  rw [T];have:=JS (2 * K+1) hk;refine ⟨by dsimp only;omega,by dsimp only;omega,?_⟩;simp only [Nat.succ_mul];omega
 have ae:r.Rs (TZ 0):=by rw [T];simpa using hr
 obtain ⟨W,hW,_,hX,hR,v⟩:=Zjr w (.bool r.num.neg) (.slice R1 m1 d1) (.bool r.den.neg) (.slice R2 m2 d2) (.bool false) (.slice none 0 0) (.bool false) (.slice none 0 0);have ST:Hid (Ymk r (TQ 0) (TZ 0) w W):=JZ ⟨r,R1,R2,m1,d1,m2,d2,ad,.inl rfl,ae,hX,h1.below v,hR,v⟩;clear hn hm ha hb hs S hin hr ad HL T ae hX hR v h1;go_enter Tryz.func161,Tryz.ntmps161;go_wp2;clear hW
 go_loopw [13] (fun i wr=>∃k:Nat,k≤l∧i= .int .i64 k∧Ymk r (TQ k) (TZ k) w wr) (fun i _=>l - (intOf i).toNat)
 case atStart=>exact ⟨0,by omega,rfl,ST.out⟩
 case round=>
  obtain ⟨k,hk,rfl,DK,C,C',p,q,p',q',U,am,B,hX,hF,hR,v⟩:=hrel;have Z:=JZ am;clear am;rcases JX k l with hkl | hkl
  ·obtain ⟨e,he⟩:=Y3 (es:=es) (i:=k) (by rw [HN.out];exact hkl);obtain ⟨b,b6,A1,n1,k1,A2,n2,k2,rfl,b7,aw,an⟩:=h2.elem v he;obtain ⟨i0,i1⟩:=HI.out k e he;obtain ⟨j,hj⟩:=JT i0;obtain ⟨f',V⟩:=ZH (fs:=ws) (i:=j) (by rw [HM.out];omega);have ar:Hid ((j:Int)=kk→TQ (k+1)=TQ k):=JZ fun g=>by rw [ac.out];exact Yjy he (by rw [hj];exact g)
   have au:Hid ((j:Int)≠kk→TQ (k+1)=TQ k - e.f.q * f'.q):=JZ fun g=>by rw [ac.out,Yjz he (by rw [hj];exact g),hj,JP,ZF V]
   have G:=HA.out k e he;obtain ⟨ei,f⟩:=e;simp only at *;subst hj;obtain ⟨x0,x1,x2,x3,x4⟩:=aw;obtain ⟨W1,X,hV,M⟩:=Zdo wr (.int .i64 (j:Int)) (.bool f.num.neg) (.slice A1 n1 k1) (.bool f.den.neg) (.slice A2 n2 k2);have d:=Za v M v.size;obtain ⟨b',ay,A3,n3,k3,A4,n4,k4,rfl,az,D,x⟩:=h3.elem d V;obtain ⟨u0,u1,u2,u3⟩:=id D;obtain ⟨v0,v1,v2,v3,v4⟩:=hV.five;have af:=an.below M;have N:=hX.later M;have O:=hR.later M;have P:=hF.below M;have b0:(k:Int) < l:=(by omega);have b1:(j:Int) < m:=(by omega);have y:=HB.out j f' V;have ag:=G.sm (by omega);have Y:=y.sm (by omega);obtain ⟨ao,ap,ax⟩:=aq.out k hk;have ah:TZ (k+1)=TZ k+(K+K)+1:=(by omega);have a0:=XO (G.sz hK) (y.sz hK);have ai:(canF (f.q * f'.q)).Sm:=(a0.sh (by omega)).sm;have aj:DK.Sm:=B.sm ap;have ak:Hid (DK.Rs (TZ (k+1))):=JZ (B.mono (by omega));have a1:Sz (TZ (k+1)) (DK.q - f.q * f'.q):=(by rw [ah];exact Zdg (B.sz ao) a0);have R:=JZ U;clear he V hX hR hF v an U B a0 ao ap ax ah G y;by_cases F:(j:Int)=kk
   ·have a2:Hid (DK.q=TQ (k+1)):=JZ (by rw [ar.out F,R.out]);have al:((j:Int) !=kk)=false:=(by simpa using F);clear F a1 D;go_wp2;clear X;go_roundw
    case rel=>exact ⟨k+1,by omega,by go_num,DK,C,C',p,q,p',q',a2.out,Z.out,ak.out,N,P,O,d⟩
    case measure=>simp [intOf];omega
   ·have a3:=JZ (au.out F);have al:((j:Int) !=kk)=true:=(by simpa using F);have av:qs f'.q=0∨qs f'.q=1∨qs f'.q= -1:=(by have:=UY f'.q;omega);have HV:Hid (DK.q - (canF (f.q * f'.q)).q=TQ (k+1)):=JZ (by rw [Zr,a3.out,R.out]);have HZ:Hid ((canF (TQ (k+1))).Rs (TZ (k+1))):=JZ (by rw [a3.out,← R.out];exact a1.rs);clear F a1;rcases av with hq' | hq' | hq'
    ·have a2:Hid (DK.q=TQ (k+1)):=JZ (by rw [a3.out,R.out,Z5.1 hq'];grind);go_wp2_with fail;clear X;refine (ZA _ f' _ x).mono ?_;rw [hq'];rintro e w5 ⟨rfl,a⟩;have z:=N.later a;have H:=O.later a;have I:=P.below a;have h:=Za d a d.size;go_wp2;go_roundw
     case rel=>exact ⟨k+1,by omega,by go_num,DK,C,C',p,q,p',q',a2.out,Z.out,ak.out,z,I,H,h⟩
     case measure=>simp [intOf];omega
    ·have hq:qs f'.q=1:=hq';go_wp2_with fail;clear X;refine (ZA _ f' _ x).mono ?_;rw [hq];rintro e w5 ⟨rfl,a⟩;have z:=N.later a;have H:=O.later a;have I:=P.below a;have a4:=hV.later a;have h:=Za d a d.size;have a5:=af.below a;have L:=x.below a;obtain ⟨y0,y1,y2,y3⟩:=ZB a D;clear u0 u1 u2 u3 hq D x0 x1 x2 x3 x4 v0 v1 v2 v3 v4;obtain ⟨v0,v1,v2,v3,v4⟩:=a4.five;obtain ⟨z0,z1,z2,z3⟩:=z.four
     go_upto_region 5 with (fail)
     have C0:=Zl y0;have C1:=Zl y1;have C2:=Zl y2;have C3:=Zl y3;have D0:=Zl v0;have D1:=Zl v1;have D2:=Zl v2;have D3:=Zl v3;have D4:=Zl v4;have E0:=Zl z0;have E1:=Zl z1;have E2:=Zl z2;have E3:=Zl z3;have n:=Zj w5;clear y0 y1 y2 y3 v0 v1 v2 v3 v4 z0 z1 z2 z3;refine Zn 10 [0,1,2,3,4,5,6,7,8,9,10] (by kernel_rfl) (by kernel_rfl) ?_;repeat ((first|(first|refine Zb (v:=?_) rfl rfl rfl ?_ ?_ |refine Zd (v:=?_) rfl rfl rfl ?_ ?_);rotate_left;·(intro _ _;go_simp;(try go_bits);(try with_reducible rfl))|refine Ze rfl rfl rfl ?_);(try simp only [py]))
     refine Zf rfl rfl (fun _ kq=>?_);go_simp;(with_reducible refine (WL _ _ f f' _ (a5.below n) (L.below n) ag Y).mono ?_);rintro _ w6 ⟨v6,rfl,e6,aa⟩;have s:=Za n aa n.size;refine kq.out _ _ (.inr s) ?_;clear kq;(try simp only [py]);repeat ((first|(first|refine Zb (v:=?_) rfl rfl rfl ?_ ?_ |refine Zd (v:=?_) rfl rfl rfl ?_ ?_);rotate_left;·(intro _ _;go_simp;(try go_bits);(try with_reducible rfl))|refine Ze rfl rfl rfl ?_);(try simp only [py]))
     refine Zf rfl rfl (fun _ kq=>?_);go_simp;(with_reducible refine (Uv _ _ DK (canF (f.q * f'.q)) _ (I.below s) e6 aj ai).mono ?_);rw [HV.out];rintro _ w7 ⟨v7,rfl,e7,ab⟩;have t:=Za s ab s.size;obtain ⟨E,l9,k9,E',a8,a9,rfl,_,_⟩:=id e7;have u:=z.later t;have a6:=H.later t;obtain ⟨c0,c1,c2,c3⟩:=u.four;obtain ⟨f0,f1,f2,f3⟩:=u.fourF;refine kq.out _ _ (.inr t) ?_;clear kq;(try simp only [py]);refine Zf rfl rfl (fun _ kq=>?_);go_simp;refine kq.out _ _ (.inl (by decide)) ?_;clear kq;(try simp only [py]);refine Zv ?_;clear C0 C1 C2 C3 D0 D1 D2 D3 D4 E0 E1 E2 E3;have bb:=Za h t h.size;have a7:=a6.far4 (show w.heap.size+1≠w.heap.size by omega);go_wp2;go_roundw
     case rel=>exact ⟨k+1,by omega,by go_num,_,E,E',l9,k9,a8,a9,Zr _,.inr (by rw [Zr]),HZ.out,u.set4 _ _ _ _,e7.keep (u.keep4 (by decide) _ _ _ _),a7 _ _ _ _,ZI bb (JY _) _ _ _ _⟩
     case measure=>simp [intOf];omega
    ·have hq:qs f'.q= -1:=hq';go_wp2_with fail;clear X;refine (ZA _ f' _ x).mono ?_;rw [hq];rintro e w5 ⟨rfl,a⟩;have z:=N.later a;have H:=O.later a;have I:=P.below a;have a4:=hV.later a;have h:=Za d a d.size;have a5:=af.below a;have L:=x.below a;obtain ⟨y0,y1,y2,y3⟩:=ZB a D;clear u0 u1 u2 u3 hq D x0 x1 x2 x3 x4 v0 v1 v2 v3 v4;obtain ⟨v0,v1,v2,v3,v4⟩:=a4.five;obtain ⟨z0,z1,z2,z3⟩:=z.four
     go_upto_region 5 with (fail)
     have C0:=Zl y0;have C1:=Zl y1;have C2:=Zl y2;have C3:=Zl y3;have D0:=Zl v0;have D1:=Zl v1;have D2:=Zl v2;have D3:=Zl v3;have D4:=Zl v4;have E0:=Zl z0;have E1:=Zl z1;have E2:=Zl z2;have E3:=Zl z3;have n:=Zj w5;clear y0 y1 y2 y3 v0 v1 v2 v3 v4 z0 z1 z2 z3;refine Zn 10 [0,1,2,3,4,5,6,7,8,9,10] (by kernel_rfl) (by kernel_rfl) ?_;repeat ((first|(first|refine Zb (v:=?_) rfl rfl rfl ?_ ?_ |refine Zd (v:=?_) rfl rfl rfl ?_ ?_);rotate_left;·(intro _ _;go_simp;(try go_bits);(try with_reducible rfl))|refine Ze rfl rfl rfl ?_);(try simp only [py]))
     refine Zf rfl rfl (fun _ kq=>?_);go_simp;(with_reducible refine (WL _ _ f f' _ (a5.below n) (L.below n) ag Y).mono ?_);rintro _ w6 ⟨v6,rfl,e6,aa⟩;have s:=Za n aa n.size;refine kq.out _ _ (.inr s) ?_;clear kq;(try simp only [py]);repeat ((first|(first|refine Zb (v:=?_) rfl rfl rfl ?_ ?_ |refine Zd (v:=?_) rfl rfl rfl ?_ ?_);rotate_left;·(intro _ _;go_simp;(try go_bits);(try with_reducible rfl))|refine Ze rfl rfl rfl ?_);(try simp only [py]))
     refine Zf rfl rfl (fun _ kq=>?_);go_simp;(with_reducible refine (Uv _ _ DK (canF (f.q * f'.q)) _ (I.below s) e6 aj ai).mono ?_);rw [HV.out];rintro _ w7 ⟨v7,rfl,e7,ab⟩;have t:=Za s ab s.size;obtain ⟨E,l9,k9,E',a8,a9,rfl,_,_⟩:=id e7;have u:=z.later t;have a6:=H.later t;obtain ⟨c0,c1,c2,c3⟩:=u.four;obtain ⟨f0,f1,f2,f3⟩:=u.fourF;refine kq.out _ _ (.inr t) ?_;clear kq;(try simp only [py]);refine Zf rfl rfl (fun _ kq=>?_);go_simp;refine kq.out _ _ (.inl (by decide)) ?_;clear kq;(try simp only [py]);refine Zv ?_;clear C0 C1 C2 C3 D0 D1 D2 D3 D4 E0 E1 E2 E3;have bb:=Za h t h.size;have a7:=a6.far4 (show w.heap.size+1≠w.heap.size by omega);go_wp2;go_roundw
     case rel=>exact ⟨k+1,by omega,by go_num,_,E,E',l9,k9,a8,a9,Zr _,.inr (by rw [Zr]),HZ.out,u.set4 _ _ _ _,e7.keep (u.keep4 (by decide) _ _ _ _),a7 _ _ _ _,ZI bb (JY _) _ _ _ _⟩
     case measure=>simp [intOf];omega
  ·obtain rfl:k=l:=by omega
   obtain ⟨x1,x2,x3,x4⟩:=hX.four;obtain ⟨c0,c1,c2,c3⟩:=hR.four;obtain ⟨f0,f1,f2,f3⟩:=hR.fourF;have HQ:=JZ U;have HR:=JZ B;clear U B;go_wp2;refine Zp Tryz.results161 Tryz.underlying46 (by kernel_rfl) rfl (hR.set4 _ _ _ _) rfl ?_;exact ⟨_,DK,rfl,hF.keep (hR.keep4 (by decide) _ _ _ _),HQ.out,Z.out,HR.out,ZI v (Nat.le_succ _) _ _ _ _⟩
namespace Pl
def Zcc (es:List En) (k:Int) (z:Rat) (g:Nat→Rat):Nat→Nat→Rat
 | 0,i=>g i
 | t+1,i=>match es[t]? with
  | some e=>if e.idx≠k∧e.idx=(i:Int) then Zcc es k z g t i - e.f.q * z else Zcc es k z g t i
  | none=>Zcc es k z g t i
theorem Zis (es:List En) (k:Int) (g:Nat→Rat) (i:Nat):∀t,Zcc es k 0 g t i=g i
 | 0=>rfl
 | t+1=>by
  have ih:=Zis es k g i t
  unfold Zcc
  split
  ·split
   ·rw [ih];grind
   ·exact ih
  ·exact ih
theorem Yka {es:List En} {k:Int} {z:Rat} {g:Nat→Rat} {t i:Nat} {e:En} (h:es[t]? =some e) (hk:e.idx=k):Zcc es k z g (t+1) i=Zcc es k z g t i:=by
 conv=>lhs;unfold Zcc
 simp only [h,hk,ne_eq,not_true_eq_false,false_and,if_false]
theorem Ykb {es:List En} {k:Int} {z:Rat} {g:Nat→Rat} {t i j:Nat} {e:En} (h:es[t]? =some e) (hk:e.idx≠k) (hj:e.idx=(j:Int)):Zcc es k z g (t+1) i=if i=j then Zcc es k z g t j - e.f.q * z else Zcc es k z g t i:=by
 conv=>lhs;unfold Zcc
 simp only [h];by_cases c:i=j
 ·subst c;rw [if_pos ⟨hk,hj⟩,if_pos rfl]
 ·rw [if_neg (fun q=>c (by omega)),if_neg c]
theorem Zus (es:List En) (k:Nat) (z:Rat) (g:Nat→Rat):∀t,Zcc es k z g t k=g k
 | 0=>rfl
 | t+1=>by
  have ih:=Zus es k z g t
  conv=>lhs;unfold Zcc
  split
  ·rw [if_neg (fun q=>q.1 q.2)];exact ih
  ·exact ih
end Pl
theorem Yi.of_below {g:Option Nat} {w w':World} (h:Below w.heap.size w w'):Yi g w w':=⟨h.size,fun b hb _=>h.block b hb⟩
def Zgl (base:Nat) (vz:Value) (N:Nat) (G:Nat→Rat) (w wr:World):Prop:=ZU base wr vz (ZQ N G)∧Zg 46 w wr∧Yi vz.ownBlock w wr∧Below base w wr
theorem Zgd (vz vb:Value) (m:Nat) (q:Nat→Rat) (es:List En) (kn K J base:Nat) (w:World) (h1:ZU base w vz (ZQ m q)) (h2:V7 w vb es) (hkn:kn < m) (hin:inR m es) (ha:∀(k:Nat) (e:En),es[k]? =some e→e.f.Rs K) (hz:∀t i,t≤es.length→i < m→Sz J (Zcc es kn (q kn) q t i)) (hK:1≤K) (hs1:J≤34359738368) (hs2:K+J≤34359738368):
 Calls Tryz.prog 170 #[vz,vb,.int .i64 (kn:Int)] w fun o w'=>o= .returned (.tuple #[])∧Zgl base vz m (Zcc es kn (q kn) q es.length) w w':=by
 obtain ⟨g,c0,rfl,am,ay,an,az⟩:=h1.shape (by rw [Zc];omega);obtain ⟨A,c,rfl,b0,b2⟩:=h2.shape;rw [Zc] at h1 an ⊢;have a:base≤w.heap.size:=by omega
 have M:Sz J (q kn):=hz 0 kn (Nat.zero_le _) hkn;have T:(canF (q kn)).Sm:=M.rs.sm hs1;obtain ⟨b1,o1,A3,n3,k3,A4,n4,k4,hA,_,⟨y0,y1,y2,y3⟩,s⟩:=h1.frs.elem (JR _ _) (ZE hkn);injection hA with hA;injection hA with hA1 hA2;subst hA1;subst hA2;simp only [Nat.zero_add] at y0 y1 y2 y3;have N:Hid (∀t,Zcc es kn (q kn) q t kn=q kn):=JZ fun t=>Zus es kn _ q t
 obtain ⟨z,S⟩:∃z,z=q kn:=⟨_,rfl⟩;rw [← S] at hz M T y0 y2 s N ⊢;have ar:=JZ S;clear S;generalize hn:es.length=l at *;have HN:=JZ hn;have HA:=JZ ha;have HI:=JZ hin;obtain ⟨TQ,D⟩:∃TQ:Nat→Nat→Rat,TQ=Zcc es kn z q:=⟨_,rfl⟩;rw [← D] at hz N ⊢;have O:=JZ D;have HZ:=JZ hz;have U:q=TQ 0:=by rw [D];rfl
 have H1:Hid (ZU base w (.slice (some ⟨g,0,none⟩) m c0) (ZQ m (TQ 0))):=JZ (by rw [← U];exact h1);have H2:=JZ h2;have au:(kn:Int) < m:=by omega
 clear hn ha D hin hz h1 h2 U;have a9:qs z=0∨qs z=1∨qs z= -1:=by have:=UY z;omega
 go_enter Tryz.func170,Tryz.ntmps170;go_wp2_with fail;refine (ZA _ (canF z) _ s).mono ?_;rw [Zr];rintro e w1 ⟨rfl,G⟩;have ST:Hid (Zgl base (.slice (some ⟨g,0,none⟩) m c0) m (TQ 0) w w1):=JZ ⟨H1.out.below G,Zg.of_below G,Yi.of_below G,G.mono a⟩;by_cases H:qs z=0
 ·have HE:Hid (Zgl base (.slice (some ⟨g,0,none⟩) m c0) m (TQ l) w w1):=JZ (by
   have e:∀i,i < m→TQ 0 i=TQ l i:=fun i _=>by rw [O.out,Z5.1 H,Zis,Zis]
   rw [show Zgl base (.slice (some ⟨g,0,none⟩) m c0) m (TQ l) w w1=Zgl base (.slice (some ⟨g,0,none⟩) m c0) m (TQ 0) w w1 from by unfold Zgl;rw [ZO e]];exact ST.out)
  rw [H];go_wp2;refine bodyPost_ret (results_none rfl _ _ _) rfl ?_;exact ⟨rfl,HE.out⟩
 ·have aa:(qs z==0)=false:=by simpa using H
  clear a9 H y0 y1 y2 y3 s;go_wp2;clear aa
  go_loopw [16] (fun i wr=>∃k:Nat,k≤l∧i= .int .i64 k∧Zgl base (.slice (some ⟨g,0,none⟩) m c0) m (TQ k) w wr) (fun i _=>l - (intOf i).toNat)
  case atStart=>exact ⟨0,by omega,rfl,ST.out⟩
  case round=>
   obtain ⟨k,hk,rfl,hO,u,v,F⟩:=hrel;rcases JX k l with hkl | hkl
   ·obtain ⟨e,he⟩:=Y3 (es:=es) (i:=k) (by rw [HN.out];exact hkl);have V:=H2.out.but u (by decide) (by decide);obtain ⟨b,b3,A1,n1,k1,A2,n2,k2,rfl,b4,⟨x0,x1,x2,x3,x4⟩,a4⟩:=V.elem (JR _ _) he;obtain ⟨i0,i1⟩:=HI.out k e he;obtain ⟨j,hj⟩:=JT i0;have y:j < m:=(by omega);have ab:Hid ((j:Int)=kn→∀i,TQ (k+1) i=TQ k i):=JZ fun q i=>by rw [O.out];exact Yka he (by rw [hj];exact q)
    have ac:Hid ((j:Int)≠kn→∀i,TQ (k+1) i=if i=j then TQ k j - e.f.q * z else TQ k i):=JZ fun q i=>by rw [O.out];exact Ykb he (by rw [hj];exact q) hj
    have h:=HA.out k e he;obtain ⟨ei,f⟩:=e;simp only at *;subst hj;obtain ⟨W1,a5,hV,x⟩:=Zdo wr (.int .i64 (j:Int)) (.bool f.num.neg) (.slice A1 n1 k1) (.bool f.den.neg) (.slice A2 n2 k2);have n:=hO.below x;have ad:=a4.below x;have I:=u.trans (Zg.of_below x);have p:=v.trans (Yi.of_below x);have L:=Za F x (JW a v.1);obtain ⟨v0,v1,v2,v3,v4⟩:=hV.five;have rj:=HZ.out k j hk y;have ae:=h.sm (show K≤34359738368 by omega);have af:(canF (TQ k j)).Sm:=rj.rs.sm hs1;have X:=XO (h.sz hK) M;have ag:(canF (f.q * z)).Sm:=(X.sh (by omega)).sm;have av:(k:Int) < l:=(by omega);have aw:(j:Int) < m:=(by omega);have Y:(ZQ m (TQ k))[kn]? =some (canF z):=(by rw [ZE hkn,N.out]);have P:(ZQ m (TQ k))[j]? =some (canF (TQ k j)):=ZE y;generalize a8:TQ k j=qj at *;have ax:=JZ a8;clear a8;clear he hO u F v a4 X h rj V;by_cases d:(j:Int)=kn
    ·have ah:Hid (ZQ m (TQ k)=ZQ m (TQ (k+1))):=JZ (ZO fun i _=>by rw [ab.out d]);have Z:((j:Int) !=kn)=false:=(by simpa using d);clear d P Y;rw [ah.out] at n;go_wp2;clear a5;go_roundw
     case rel=>exact ⟨k+1,by omega,by go_num,n,I,p,L⟩
     case measure=>simp [intOf];omega
    ·have R:=JZ (ac.out d);have Z:((j:Int) !=kn)=true:=(by simpa using d);have HV:Hid ((canF qj).q - (canF (f.q * z)).q=TQ (k+1) j):=JZ (by rw [Zr,Zr,R.out,if_pos rfl]);have ai:Hid ((ZQ m (TQ k)).set j (canF (TQ (k+1) j))=ZQ m (TQ (k+1))):=JZ (by rw [XT y];exact ZO fun i _=>by rw [R.out i,R.out j,if_pos rfl]);obtain ⟨b1,o1,B3,p3,q3,B4,p4,q4,hA,_,⟨y0,y1,y2,y3⟩,s⟩:=n.frs.elem (JR _ _) Y;injection hA with hA;injection hA with hA1 hA2;subst hA1;subst hA2;obtain ⟨b1,o1,D3,r3,s3,D4,r4,s4,hA,_,⟨z0,z1,z2,z3⟩,ao⟩:=n.frs.elem (JR _ _) P;injection hA with hA;injection hA with hA1 hA2;subst hA1;subst hA2;simp only [Nat.zero_add] at y0 y1 y2 y3 z0 z1 z2 z3;clear d
     go_upto_region 5 with (fail)
     clear a5;have C0:=Zl y0;have C1:=Zl y1;have C2:=Zl y2;have C3:=Zl y3;have D0:=Zl v0;have D1:=Zl v1;have D2:=Zl v2;have aj:=Zl v3;have ak:=Zl v4;have E0:=Zl z0;have E1:=Zl z1;have E2:=Zl z2;have E3:=Zl z3;have B:=Zj W1;clear y0 y1 y2 y3 v0 v1 v2 v3 v4 z0 z1 z2 z3 x0 x1 x2 x3 x4;refine Zn 17 [0,1,2,3,4,5,6,7,8,9,10,11,12,13,14,15,16,17] (by kernel_rfl) (by kernel_rfl) ?_;repeat ((first|(first|refine Zb (v:=?_) rfl rfl rfl ?_ ?_ |refine Zd (v:=?_) rfl rfl rfl ?_ ?_);rotate_left;·(intro _ _;go_simp;(try go_bits);(try with_reducible rfl))|refine Ze rfl rfl rfl ?_);(try simp only [py]))
     refine Zf rfl rfl (fun _ kq=>?_);go_simp;(with_reducible refine (WL _ _ f (canF z) _ (ad.below B) (s.below B) ae T).mono ?_);rw [Zr];rintro _ w6 ⟨v6,rfl,e6,ap⟩;have C:=Za B ap B.size;refine kq.out _ _ (.inr C) ?_;clear kq;(try simp only [py]);repeat ((first|(first|refine Zb (v:=?_) rfl rfl rfl ?_ ?_ |refine Zd (v:=?_) rfl rfl rfl ?_ ?_);rotate_left;·(intro _ _;go_simp;(try go_bits);(try with_reducible rfl))|refine Ze rfl rfl rfl ?_);(try simp only [py]))
     refine Zf rfl rfl (fun _ kq=>?_);go_simp;(with_reducible refine (Uv _ _ (canF qj) (canF (f.q * z)) _ (ao.below C) e6 af ag).mono ?_);rw [HV.out];rintro _ w7 ⟨v7,rfl,e7,aq⟩;have r:=Za C aq C.size;obtain ⟨E,l9,k9,E',b5,b6,rfl,_,_⟩:=id e7;have a0:=n.below r;obtain ⟨_,_,_,_,⟨c0,c1,c2,c3⟩,⟨f0,f1,f2,f3⟩,_⟩:=a0.at_ P;refine kq.out _ _ (.inr r) ?_;clear kq;(try simp only [py]);repeat ((first|(first|refine Zb (v:=?_) rfl rfl rfl ?_ ?_ |refine Zd (v:=?_) rfl rfl rfl ?_ ?_);rotate_left;·(intro _ _;go_simp;(try go_bits);(try with_reducible rfl))|refine Ze rfl rfl rfl ?_);(try simp only [py]))
     refine Zf rfl rfl (fun _ kq=>?_);go_simp;refine kq.out _ _ (.inl (by decide)) ?_;clear kq;(try simp only [py]);refine Zv ?_;clear C0 C1 C2 C3 D0 D1 D2 aj ak E0 E1 E2 E3;have al:j < (ZQ m (TQ k)).length:=(by rw [Zc];exact y);obtain ⟨a6,a7⟩:=a0.set_ al e7;rw [ai.out] at a6;have a1:=(I.trans (Zg.of_below r)).trans a7;have a2:=p.trans (Yi.of_below r);have a3:=Zx (Za L r (JW a p.1)) am (j * 4) (j * 4+1) (j * 4+2) (j * 4+3);go_wp2;go_roundw
     case rel=>exact ⟨k+1,by omega,by go_num,a6,a1,a2.trans YC,a3 _ _ _ _⟩
     case measure=>simp [intOf];omega
   ·obtain rfl:k=l:=by omega
    have HE:Hid (Zgl base (.slice (some ⟨g,0,none⟩) m c0) m (TQ k) w wr):=JZ ⟨hO,u,v,F⟩;clear hO u v F;go_wp2
    go_end0
    exact ⟨rfl,HE.out⟩
namespace Pl
theorem Wm.sz {n K:Nat} {cols:Mx} {x b:Nat→Rat} (hi:Wm n cols) (hc:∀r c,r < n→c < n→Sz K (cols c r)) (hb:∀r,r < n→Sz K (b r)) (hx:∀r,r < n→X6 n cols x r=b r):∀i,i < n→Sz (5^n * K) (x i):=by
 obtain ⟨z,hz,h1⟩:=Zot hi hx;exact fun i hi'=>by rw [← h1 i hi'];exact Zue hc hb hz i hi'
def Ykc (C:Nat→Nat) (i:Nat):Nat→Nat
 | 0=>0
 | s+1=>if C s=i then s else Ykc C i s
theorem Zsf {n m k:Nat} {C:Nat→Nat} (h:Inj n m C) (hk:k < m):Ykc C (C k) m=k:=by
 have a:∀t,k < t→t≤m→Ykc C (C k) t=k:=by
  intro t
  induction t with
  | zero=>intro h1;omega
  | succ t ih=>
   intro h1 h2;unfold Ykc;by_cases e:t=k
   ·subst e;rw [if_pos rfl]
   ·rw [if_neg fun g=>e (h.eq (by omega) hk g)];exact ih (by omega) (by omega)
 exact a m hk (JY _)
def xOf (C:Nat→Nat) (n:Nat) (X:Nat→Rat):Nat→Rat:=fun i=>X (Ykc C i n)
theorem Zkw {n k:Nat} {C:Nat→Nat} {X:Nat→Rat} (h:Inj n n C) (hk:k < n):xOf C n X (C k)=X k:=by unfold xOf;rw [Zsf h hk]
def UI (n j:Nat) (C:Nat→Nat) (X:Nat→Rat):List RF:=rfL n fun i=>if n - j≤Ykc C i n then canF (X (Ykc C i n)) else zeroF
theorem Zkx {n:Nat} {C:Nat→Nat} {X:Nat→Rat} (h:Inj n n C):UI n 0 C X=List.replicate n zeroF:=by
 have:UI n 0 C X=rfL n fun _=>zeroF:=Wq fun i hi=>by
  obtain ⟨s,hs,rfl⟩:=h.onto hi;rw [Zsf h hs,if_neg (by omega)]
 rw [this];refine List.ext_getElem? fun i=>?_
 rcases JX i n with e | e
 ·rw [YD e];simp [e]
 ·rw [JU (by rw [Zz];exact e),JU (by simp;exact e)]
theorem Zky {n j k:Nat} {C:Nat→Nat} {X:Nat→Rat} (h:Inj n n C) (hk:k+1+j=n):(UI n j C X).set (C k) (canF (X k))=UI n (j+1) C X:=by
 unfold UI;rw [Uw (h.1 k (by omega))];refine Wq fun i hi=>?_
 obtain ⟨s,hs,rfl⟩:=h.onto hi;rw [Zsf h hs];by_cases e:s=k
 ·subst e;rw [if_pos rfl,if_pos (by omega)]
 ·rw [if_neg fun g=>e (h.eq hs (by omega) g)];by_cases e2:n - j≤s
  ·rw [if_pos e2,if_pos (by omega)]
  ·rw [if_neg e2,if_neg (by omega)]
theorem Zpe {n:Nat} {C:Nat→Nat} {X:Nat→Rat} (_h:Inj n n C):UI n n C X=ZQ n (xOf C n X):=by
 unfold UI;rw [← Zse];exact Wq fun i _=>by rw [if_pos (by omega)];rfl
theorem VM {n j:Nat} {C:Nat→Nat} {X:Nat→Rat}:(UI n j C X).length=n:=Zz _ _
def solQ (n:Nat) (R C:Nat→Nat) (L U:Mx) (b:Nat→Rat):Nat→Rat:=xOf C n (Zcn n U (Zby L (fun p=>b (R p)) n) n)
def solT (n:Nat) (R C:Nat→Nat) (L U:Mx) (d:Nat→Rat):Nat→Rat:=xOf R n (ltN n L (utN U (fun k=>d (C k)) n) n)
theorem Zgj.solQ {n:Nat} {A:Mx} {R C:Nat→Nat} {L U:Mx} (h:Zgj n A R C L U) (b:Nat→Rat):∀r,r < n→X6 n (trM A) (solQ n R C L U b) r=b r:=by
 refine h.solve (z:=Zby L (fun p=>b (R p)) n) (Zry h.l0 h.l1) fun s hs=>?_
 rw [← Zil (z:=Zby L (fun p=>b (R p)) n) h.u0 h.u1 s hs];exact Zh fun k hk=>by unfold Pl.solQ;rw [Zkw h.ci hk]
theorem Zgj.solT {n:Nat} {A:Mx} {R C:Nat→Nat} {L U:Mx} (h:Zgj n A R C L U) (d:Nat→Rat):∀c,c < n→X6 n A (solT n R C L U d) c=d c:=by
 refine h.solveT (v:=utN U (fun k=>d (C k)) n) (Zxc h.u0 h.u1) fun s hs=>?_
 rw [← Zks (w:=utN U (fun k=>d (C k)) n) h.l0 h.l1 s hs];exact Zh fun k hk=>by unfold Pl.solT;rw [Zkw h.ri hk]
structure Zsg (n E:Nat) (A:Mx) (R C:Nat→Nat) (L U:Mx):Prop where
 fac:Zgj n A R C L U
 n7:n≤7
 e1:1≤E
 e2:E≤4000000
 lB:∀t p,t < n→p < n→Sz (2 * E) (L t p)
 uB:∀k s,k < n→s < n→Sz (2 * E) (U k s)
theorem Zit {n K J:Nat} {f g:Nat→Rat} (hn:n≤7) (hf:∀i,i < n→Sz K (f i)) (hg:∀i,i < n→Sz J (g i)):Sz (7 * (K+J)+8) (ZN (fun i=>f i * g i) n):=
 (Zkk fun i hi=>XO (hf i hi) (hg i hi)).mono (by
  have:=JS (K+J+1) hn
  omega)
theorem Zsg.zB {n E:Nat} {A:Mx} {R C:Nat→Nat} {L U:Mx} (h:Zsg n E A R C L U) {b:Nat→Rat} (hX:∀i,i < n→Sz E (Pl.solQ n R C L U b i)):∀s,s < n→Sz (29 * E) (Zby L (fun p=>b (R p)) n s):=by
 intro s hs;have e1:=h.e1;rw [← Zil (z:=Zby L (fun p=>b (R p)) n) h.fac.u0 h.fac.u1 s hs];refine (Zit (K:=2 * E) (J:=E) h.n7 (fun k hk=>h.uB k s hk hs) fun k hk=>?_).mono (by omega);have:=hX (C k) (h.fac.ci.1 k hk);unfold Pl.solQ at this
 rwa [Zkw h.fac.ci hk] at this
theorem Zsg.fB {n E J:Nat} {A:Mx} {R C:Nat→Nat} {L U:Mx} (h:Zsg n E A R C L U) {b:Nat→Rat} (hb:∀i,i < n→Sz J (b i)) (hX:∀i,i < n→Sz E (Pl.solQ n R C L U b i)):
 ∀j i,j≤n→i < n→Sz (J+226 * E) (Zby L (fun p=>b (R p)) j i):=by
 have e1:=h.e1;have a:∀j i,j≤i→i < n→Sz (J+226 * E) (Zby L (fun p=>b (R p)) j i):=fun j i hj hi=>by
  rw [Zmj L _ i j hj];have hs:Sz (7 * (2 * E+29 * E)+8) (ZN (fun s=>L s i * Zby L (fun p=>b (R p)) s s) j):=Zit (by have:=h.n7;omega) (fun s hs=>h.lB s i (by omega) hi) fun s hs=>by
   rw [← Zmi (show s≤n by omega)];exact h.zB hX s (by omega)
  exact (Zdg (hb (R i) (h.fac.ri.1 i hi)) hs).mono (by omega)
 intro j i hj hi;rcases JX i j with g | g
 ·rw [Zmi (show i≤j by omega)];exact a i i (JY _) hi
 ·exact a j i g hi
theorem Zsg.bB {n E:Nat} {A:Mx} {R C:Nat→Nat} {L U:Mx} (h:Zsg n E A R C L U) {b:Nat→Rat} (hX:∀i,i < n→Sz E (Pl.solQ n R C L U b i)):
 ∀j i,j≤n→i < n→Sz (59 * E) (Zcn n U (Zby L (fun p=>b (R p)) n) j i):=by
 have e1:=h.e1;have hx:∀k,k < n→Sz E (Zcn n U (Zby L (fun p=>b (R p)) n) n k):=fun k hk=>by
  have:=hX (C k) (h.fac.ci.1 k hk);unfold Pl.solQ at this
  rwa [Zkw h.fac.ci hk] at this
 intro j i hj hi;rcases JX (j+i) n with g | g
 ·rw [Zmk n U _ i j g];have hs:Sz (7 * (2 * E+E)+8) (ZN (fun t=>U (n - 1 - t) i * Zcn n U (Zby L (fun p=>b (R p)) n) n (n - 1 - t)) j):=Zit (by have:=h.n7;omega) (fun t ht=>h.uB _ _ (by omega) hi) fun t ht=>hx _ (by omega)
  exact (Zdg (h.zB hX i hi) hs).mono (by omega)
 ·rw [Zew hi (by omega) hj,← Zew hi (by omega) (JY n)];exact (hx i hi).mono (by omega)
theorem Zsg.wB {n E:Nat} {A:Mx} {R C:Nat→Nat} {L U:Mx} (h:Zsg n E A R C L U) {d:Nat→Rat} (hY:∀i,i < n→Sz E (Pl.solT n R C L U d i)):∀s,s < n→Sz (29 * E) (utN U (fun k=>d (C k)) n s):=by
 intro s hs;have e1:=h.e1;rw [← Zks (w:=utN U (fun k=>d (C k)) n) h.fac.l0 h.fac.l1 s hs];refine (Zit (K:=2 * E) (J:=E) h.n7 (fun p hp=>h.lB s p hs hp) fun p hp=>?_).mono (by omega);have:=hY (R p) (h.fac.ri.1 p hp);unfold Pl.solT at this
 rwa [Zkw h.fac.ri hp] at this
theorem Zsg.tB {n E:Nat} {A:Mx} {R C:Nat→Nat} {L U:Mx} (h:Zsg n E A R C L U) {d:Nat→Rat} (hY:∀i,i < n→Sz E (Pl.solT n R C L U d i)):
 ∀j i,j≤n→i < n→Sz (29 * E) (ltN n L (utN U (fun k=>d (C k)) n) j i):=by
 have e1:=h.e1;intro j i hj hi;rcases JX (j+i) n with g | g
 ·rw [Zin g];exact h.wB hY i hi
 ·rw [Zga hi (by omega) hj,← Zga hi (show n - i≤n by omega) (JY n)];have:=hY (R i) (h.fac.ri.1 i hi);unfold Pl.solT at this;rw [Zkw h.fac.ri hi] at this;exact this.mono (by omega)
theorem Ziu {es ds:List En} {k:Int} {z:Rat} {g:Nat→Rat} {i:Nat}:∀{t:Nat},t≤es.length→Zcc (es++ds) k z g t i=Zcc es k z g t i
 | 0,_=>rfl
 | t+1,h=>by
  have ih:=Ziu (es:=es) (ds:=ds) (k:=k) (z:=z) (g:=g) (i:=i) (t:=t) (by omega)
  conv=>lhs;unfold Zcc
  conv=>rhs;unfold Zcc
  rw [List.getElem?_append_left (by omega),ih]
theorem Zmt (f:Nat→Rat) (k:Nat) (z:Rat) (g:Nat→Rat) (i:Nat):∀n,Zcc (spV f n) (k:Int) z g (spV f n).length i=if i < n∧i≠k then g i - f i * z else g i
 | 0=>by rw [if_neg (by omega)];rfl
 | n+1=>by
  have ih:=Zmt f k z g i n
  by_cases h0:f n=0
  ·rw [XV h0,ih]
   by_cases e:i=n
   ·subst e
    rw [if_neg (by omega),h0]
    by_cases e2:i≠k
    ·rw [if_pos ⟨by omega,e2⟩];grind
    ·rw [if_neg (by omega)]
   ·by_cases e2:i < n∧i≠k
    ·rw [if_pos e2,if_pos ⟨by omega,e2.2⟩]
    ·rw [if_neg e2,if_neg (by omega)]
  ·rw [Wo h0,List.length_append]
   show Zcc _ _ _ _ ((spV f n).length+1) i=_
   conv=>lhs;unfold Zcc
   rw [List.getElem?_append_right (JY _),Nat.sub_self]
   show (if ((n:Int)≠(k:Int)∧(n:Int)=(i:Int)) then _ else _)=_
   rw [Ziu (JY _),ih,Zr]
   by_cases e:i=n
   ·subst e
    rw [if_neg (show ¬(i < i∧i≠k) by omega)]
    by_cases e2:i≠k
    ·rw [if_pos ⟨by omega,rfl⟩,if_pos ⟨by omega,e2⟩]
    ·rw [if_neg (by omega),if_neg (by omega)]
   ·rw [if_neg (by omega)]
    by_cases e2:i < n∧i≠k
    ·rw [if_pos e2,if_pos ⟨by omega,e2.2⟩]
    ·rw [if_neg e2,if_neg (by omega)]
theorem Zut (f:Nat→Rat) (k:Nat) (z:Rat) (g:Nat→Rat) (i:Nat):∀n t,t≤(spV f n).length→Zcc (spV f n) (k:Int) z g t i=g i∨(i < n∧i≠k∧Zcc (spV f n) (k:Int) z g t i=g i - f i * z)
 | 0,t,h=>by
  have h':t≤0:=h
  obtain rfl:t=0:=by omega
  exact .inl rfl
 | n+1,t,h=>by
  rcases Nat.eq_or_lt_of_le h with e | e
  ·have:=Zmt f k z g i (n+1)
   rw [← e] at this
   rw [this]
   by_cases e2:i < n+1∧i≠k
   ·rw [if_pos e2];exact .inr ⟨e2.1,e2.2,rfl⟩
   ·rw [if_neg e2];exact .inl rfl
  ·have ht:t≤(spV f n).length:=by
    by_cases h0:f n=0
    ·rw [XV h0] at e;omega
    ·rw [Wo h0,List.length_append] at e;simp at e;omega
   have hs:Zcc (spV f (n+1)) (k:Int) z g t i=Zcc (spV f n) (k:Int) z g t i:=by
    by_cases h0:f n=0
    ·rw [XV h0]
    ·rw [Wo h0];exact Ziu ht
   rw [hs];rcases Zut f k z g i n t ht with g1 | ⟨g1,g2,g3⟩
   ·exact .inl g1
   ·exact .inr ⟨by omega,g2,g3⟩
theorem Zpf {es ds:List En} {g:Nat→Rat} {k:Int} {q:Rat}:∀{t:Nat},t≤es.length→Zjo (es++ds) g k q t=Zjo es g k q t
 | 0,_=>rfl
 | t+1,h=>by
  have ih:=Zpf (es:=es) (ds:=ds) (k:=k) (g:=g) (q:=q) (t:=t) (by omega)
  conv=>lhs;unfold Zjo
  conv=>rhs;unfold Zjo
  rw [List.getElem?_append_left (by omega),ih]
theorem Zmu (f g:Nat→Rat) (k:Nat) (q:Rat):∀n,Zjo (spV f n) g (k:Int) q (spV f n).length=q - ZN (fun i=>if i=k then 0 else f i * g i) n
 | 0=>by rw [Y2];show q=_;grind
 | n+1=>by
  have ih:=Zmu f g k q n
  rw [ZC]
  by_cases h0:f n=0
  ·rw [XV h0,ih,h0]
   by_cases e:n=k
   ·rw [if_pos e];grind
   ·rw [if_neg e];grind
  ·rw [Wo h0,List.length_append]
   show Zjo _ _ _ _ ((spV f n).length+1)=_
   conv=>lhs;unfold Zjo
   rw [List.getElem?_append_right (JY _),Nat.sub_self]
   show (if ((n:Int)=(k:Int)) then _ else _ - (canF (f n)).q * g (Int.toNat (n:Int)))=_
   rw [Zpf (JY _),ih,Zr,JP]
   by_cases e:n=k
   ·rw [if_pos (by omega),if_pos e];grind
   ·rw [if_neg (by omega),if_neg e];grind
theorem Ykd {n j i:Nat} {L:Mx} {b:Nat→Rat} (h0:∀t p,t < n→p < n→p < t→L t p=0) (hj:j < n) (hi:i < n):(if i < n∧i≠j then Zby L b j i - L j i * Zby L b j j else Zby L b j i)=Zby L b (j+1) i:=by
 rw [Zik];rcases Nat.lt_trichotomy i j with e | e | e
 ·rw [if_pos ⟨hi,by omega⟩,if_neg (by omega),h0 j i hj hi e];grind
 ·rw [if_neg (by omega),if_neg (by omega)]
 ·rw [if_pos ⟨hi,by omega⟩,if_pos e]
def Zmv (g:Nat→Rat) (k:Nat) (u:Rat):Nat→Rat:=fun i=>if i=k then g k / u else g i
theorem Yke {n j k i:Nat} {U:Mx} {z:Nat→Rat} (h0:∀k s,k < n→s < n→k < s→U k s=0) (hk:k+1+j=n) (hi:i < n):
 (if i < n∧i≠k then Zmv (Zcn n U z j) k (U k k) i - U k i * Zmv (Zcn n U z j) k (U k k) k else Zmv (Zcn n U z j) k (U k k) i)=Zcn n U z (j+1) i:=by
 rw [Zdv,show n - 1 - j=k by omega];unfold Zmv;rcases Nat.lt_trichotomy i k with e | e | e
 ·rw [if_pos ⟨hi,by omega⟩,if_neg (show i≠k by omega),if_neg (show i≠k by omega),if_pos e,if_pos rfl]
 ·subst e;rw [if_neg (by omega),if_pos rfl,if_pos rfl]
 ·rw [if_pos ⟨hi,by omega⟩,if_neg (show i≠k by omega),if_neg (show i≠k by omega),if_neg (show ¬i < k by omega),if_pos rfl,h0 k i (by omega) hi e];grind
def Y7 (n k:Nat) (w:Nat→Rat):List RF:=rfL n fun i=>if i < k then canF (w i) else zeroF
theorem Ws {n k:Nat} {w:Nat→Rat}:(Y7 n k w).length=n:=Zz _ _
theorem Zcd {n:Nat} {w:Nat→Rat}:Y7 n 0 w=List.replicate n zeroF:=by
 unfold Y7;refine List.ext_getElem? fun i=>?_
 rcases JX i n with e | e
 ·rw [YD e,if_neg (by omega)];simp [e]
 ·rw [JU (by rw [Zz];exact e),JU (by simp;exact e)]
theorem Zce {n k:Nat} {w:Nat→Rat} (hk:k < n):(Y7 n k w).set k (canF (w k))=Y7 n (k+1) w:=by
 unfold Y7;rw [Uw hk];exact Wq fun i _=>by
  by_cases e:i=k
  ·subst e;rw [if_pos rfl,if_pos (by omega)]
  ·rw [if_neg e];by_cases e2:i < k
   ·rw [if_pos e2,if_pos (by omega)]
   ·rw [if_neg e2,if_neg (by omega)]
theorem Zez {n:Nat} {w:Nat→Rat}:Y7 n n w=ZQ n w:=by
 unfold Y7;rw [← Zse];exact Wq fun i hi=>if_pos hi
theorem Zuu {n k i:Nat} {w:Nat→Rat} (hi:i < n):qAt (Y7 n k w) i=if i < k then w i else 0:=by
 unfold Y7;rw [Zms hi];by_cases e:i < k
 ·rw [if_pos e,if_pos e,Zr]
 ·rw [if_neg e,if_neg e,zeroF_q]
end Pl
namespace Pl
theorem Zbw.facS {n K:Nat} {A a:Mx} {R C:Nat→Nat} {m:Mx} (h:Zbw n n A a R C m) (hn:n≤7) (hK:1≤K) (hE:5^n * K≤4000000) (ha:∀i j,i < n→j < n→Sz (5^n * K) (a i j)) (hm:∀s i,s < n→i < n→Sz (2 * (5^n * K)) (m s i)):
 Zsg n (5^n * K) A R C (luL R m) (luU R C a) where
 fac:=h.fac
 n7:=hn
 e1:=Nat.mul_pos (Nat.pow_pos (by decide)) hK
 e2:=hE
 lB:=fun t p ht hp=>by
  have e1:1≤5^n * K:=Nat.mul_pos (Nat.pow_pos (by decide)) hK
  unfold luL
  split
  ·exact Sz_one.mono (by omega)
  ·split
   ·exact hm t _ ht (h.ri.1 p hp)
   ·exact Sz_zero.mono (by omega)
 uB:=fun k s hk hs=>by
  have e1:1≤5^n * K:=Nat.mul_pos (Nat.pow_pos (by decide)) hK
  unfold luU
  split
  ·exact (ha _ _ (h.ri.1 s hs) (h.ci.1 k hk)).mono (by omega)
  ·exact Sz_zero.mono (by omega)
theorem Yml {n t K:Nat} {a a' m':Mx} {r c:Nat} {P:Nat→Prop} {Q:Nat→Prop} [DecidablePred P] [DecidablePred Q] (hK:1≤K) (hr:r < n) (hc:c < n) (h:∀i j,i < n→j < n→Sz (5^t * K) (a i j)) (hmt:∀i,i < n→m' t i=if P i then a i c / a r c else 0)
 (ha:∀i j,i < n→j < n→a' i j=if P i∧Q j then a i j - m' t i * a r j else a i j):(∀i,i < n→Sz (2 * (5^t * K)) (m' t i))∧∀i j,i < n→j < n→Sz (5^(t+1) * K) (a' i j):=by
 have e1:1≤5^t * K:=Nat.mul_pos (Nat.pow_pos (by decide)) hK;have e2:5^(t+1) * K=5 * (5^t * K):=by rw [Nat.pow_succ];ac_rfl
 have hm:∀i,i < n→Sz (2 * (5^t * K)) (m' t i):=fun i hi=>by
  rw [hmt i hi];split
  ·exact (Zdf (h i c hi hc) (h r c hr hc)).mono (by omega)
  ·exact Sz_zero.mono (by omega)
 refine ⟨hm,fun i j hi hj=>?_⟩;rw [ha i j hi hj,e2];split
 ·exact (Zdg (h i j hi hj) (XO (hm i hi) (h r j hr hj))).mono (by omega)
 ·exact (h i j hi hj).mono (by omega)
theorem Wm.trQ {n:Nat} {cols:Mx} (h:Wm n cols):Wm n (trM cols):=by
 intro y hy k hk;obtain ⟨x,hx⟩:=Wn h (fun r=>if r=k then 1 else 0);have h1:=(Vk hx x).2 fun _ _=>rfl
 have e1:y k=ZN (fun r=>y r * X6 n cols x r) n:=by
  rw [Zh (g:=fun r=>if r=k then y k else 0) fun r hr=>by
   rw [h1 r hr];by_cases e:r=k
   ·subst e;rw [if_pos rfl,if_pos rfl];grind
   ·rw [if_neg e,if_neg e];grind,XU hk]
 have e2:ZN (fun r=>y r * X6 n cols x r) n=ZN (fun r=>ZN (fun c=>x c * (cols c r * y r)) n) n:=Zh fun r hr=>by
  unfold X6;rw [← YG];exact Zh fun c _=>by grind
 rw [e1,e2,WO];exact WP fun c hc=>by
  rw [YG];have:=hy c hc;have e3:ZN (fun r=>cols c r * y r) n=0:=this;rw [e3];grind
structure Ups (n K T:Nat) (k:Nat→Nat) (im V:Mx) (Cs:Nat→Mx):Prop where
 kn:∀t,t < T→k t < n
 step:∀t,t < T→Cs (t+1)=Zou (Cs t) (k t) (V t)
 img:∀t,t < T→∀r,r < n→X6 n (Cs t) (im t) r=V t r
 nz:∀t,t < T→im t (k t)≠0
 szV:∀t,t < T→∀r,r < n→Sz K (V t r)
 szC:∀r c,r < n→c < n→Sz K (Cs 0 c r)
 ind:Wm n (Cs 0)
theorem Ups.indep {n K T:Nat} {k:Nat→Nat} {im V:Mx} {Cs:Nat→Mx} (h:Ups n K T k im V Cs):∀t,t≤T→Wm n (Cs t)
 | 0,_=>h.ind
 | t+1,ht=>by rw [h.step t (by omega)];exact Zov (h.kn t (by omega)) (h.indep t (by omega)) (h.img t (by omega)) (h.nz t (by omega))
theorem Ups.sz {n K T:Nat} {k:Nat→Nat} {im V:Mx} {Cs:Nat→Mx} (h:Ups n K T k im V Cs):∀t,t≤T→∀r c,r < n→c < n→Sz K (Cs t c r)
 | 0,_=>h.szC
 | t+1,ht=>fun r c hr hc=>by
  rw [h.step t (by omega)]
  unfold Zou
  split
  ·exact h.szV t (by omega) r hr
  ·exact h.sz t (by omega) r c hr hc
theorem Ups.imB {n K T:Nat} {k:Nat→Nat} {im V:Mx} {Cs:Nat→Mx} (h:Ups n K T k im V Cs):∀t,t < T→∀i,i < n→Sz (5^n * K) (im t i):=fun t ht=>(h.indep t (by omega)).sz (h.sz t (by omega)) (h.szV t ht) (h.img t ht)
theorem Ups.zero {n K:Nat} {cols:Mx} (hs:∀r c,r < n→c < n→Sz K (cols c r)) (hi:Wm n cols) (k:Nat→Nat) (im V:Mx):Ups n K 0 k im V (fun _=>cols) where
 kn:=fun t ht=>absurd ht (by omega)
 step:=fun t ht=>absurd ht (by omega)
 img:=fun t ht=>absurd ht (by omega)
 nz:=fun t ht=>absurd ht (by omega)
 szV:=fun t ht=>absurd ht (by omega)
 szC:=hs
 ind:=hi
def Uf {α:Type} (f:Nat→α) (T:Nat) (x:α):Nat→α:=fun t=>if t=T then x else f t
theorem YQ {α:Type} {f:Nat→α} {T t:Nat} {x:α} (h:t < T):Uf f T x t=f t:=if_neg (by omega)
theorem Yx {α:Type} {f:Nat→α} {T:Nat} {x:α}:Uf f T x T=x:=if_pos rfl
def Zxg (k:Nat) (im x:Nat→Rat):Nat→Rat:=fun i=>if i=k then x k / im k else x i - im i * (x k / im k)
theorem Yay {k:Nat} {im x:Nat→Rat} (h:x k=0) (i:Nat):Zxg k im x i=x i:=by
 unfold Zxg;rw [h,show (0:Rat) / im k=0 by rw [Rat.div_def];grind];split
 ·rename_i e;rw [e,h]
 ·grind
def xN (k:Nat→Nat) (im:Mx) (x:Nat→Rat):Nat→Nat→Rat
 | 0=>x
 | t+1=>Zxg (k t) (im t) (xN k im x t)
theorem Ups.solves {n K T:Nat} {k:Nat→Nat} {im V:Mx} {Cs:Nat→Mx} (h:Ups n K T k im V Cs) {x b:Nat→Rat} (hx:∀r,r < n→X6 n (Cs 0) x r=b r):∀t,t≤T→∀r,r < n→X6 n (Cs t) (xN k im x t) r=b r
 | 0,_=>hx
 | t+1,ht=>by
  rw [h.step t (by omega)]
  refine Zum (h.kn t (by omega)) (h.img t (by omega)) (h.nz t (by omega)) (h.solves hx t (by omega)) ?_ fun i _ hne=>?_
  ·show Zxg _ _ _ _=_
   unfold Zxg;rw [if_pos rfl]
  ·show Zxg _ _ _ _=_ - _ * Zxg _ _ _ _
   unfold Zxg;rw [if_neg hne,if_pos rfl]
theorem Ups.xB {n K T:Nat} {k:Nat→Nat} {im V:Mx} {Cs:Nat→Mx} (h:Ups n K T k im V Cs) {x b:Nat→Rat} (hx:∀r,r < n→X6 n (Cs 0) x r=b r) (hb:∀r,r < n→Sz K (b r)):∀t,t≤T→∀i,i < n→Sz (5^n * K) (xN k im x t i):=fun t ht=>(h.indep t ht).sz (h.sz t ht) hb (h.solves hx t ht)
def Zsh (n k:Nat) (im c:Nat→Rat):Nat→Rat:=fun i=>if i=k then (c k - ZN (fun i=>if i=k then 0 else im i * c i) n) / im k else c i
def cN (n T:Nat) (k:Nat→Nat) (im:Mx) (d:Nat→Rat):Nat→Nat→Rat
 | 0=>d
 | j+1=>Zsh n (k (T - 1 - j)) (im (T - 1 - j)) (cN n T k im d j)
theorem Yaz {n q:Nat} {cols:Mx} {im v y c:Nat→Rat} (hq:q < n) (h0:im q≠0) (hi:∀r,r < n→X6 n cols im r=v r) (h:∀j,j < n→X6 n (trM cols) y j=Zsh n q im c j):∀j,j < n→X6 n (trM (Zou cols q v)) y j=c j:=by
 intro j hj;by_cases e:j=q
 ·subst e;have e1:X6 n (trM (Zou cols j v)) y j=ZN (fun r=>y r * X6 n cols im r) n:=Zh fun r hr=>by
   show Zou cols j v j r * y r=_;unfold Zou;rw [if_pos rfl,hi r hr];grind
  have e2:ZN (fun r=>y r * X6 n cols im r) n=ZN (fun i=>im i * X6 n (trM cols) y i) n:=by
   rw [Zh (g:=fun r=>ZN (fun i=>im i * (cols i r * y r)) n) fun r _=>by
    unfold X6;rw [← YG];exact Zh fun i _=>by grind,WO]
   exact Zh fun i _=>YG _ _ _
  have e3:ZN (fun i=>im i * X6 n (trM cols) y i) n=ZN (fun i=>(if i=j then 0 else im i * c i)+(if i=j then c j - ZN (fun i=>if i=j then 0 else im i * c i) n else 0)) n:=Zh fun i hi'=>by
   rw [h i hi'];unfold Zsh;by_cases e:i=j
   ·subst e;rw [if_pos rfl,if_pos rfl,if_pos rfl];have:=Rat.div_mul_cancel (a:=c i - ZN (fun x=>if x=i then 0 else im x * c x) n) h0;grind
   ·rw [if_neg e,if_neg e,if_neg e];grind
  rw [e1,e2,e3,Wi,XU hj];grind
 ·have:=h j hj;unfold Zsh at this;rw [if_neg e] at this;rw [← this];exact Zh fun r _=>by
   show Zou cols q v j r * y r=_;unfold Zou;rw [if_neg e];rfl
theorem Ups.solvesT {n K T:Nat} {k:Nat→Nat} {im V:Mx} {Cs:Nat→Mx} (h:Ups n K T k im V Cs) {d y:Nat→Rat} (hy:∀c,c < n→X6 n (trM (Cs 0)) y c=cN n T k im d T c):∀t,t≤T→∀c,c < n→X6 n (trM (Cs t)) y c=cN n T k im d (T - t) c
 | 0,_=>hy
 | t+1,ht=>by
  have ih:=h.solvesT hy t (by omega)
  rw [h.step t (by omega)]
  refine Yaz (h.kn t (by omega)) (h.nz t (by omega)) (h.img t (by omega)) fun j hj=>?_
  rw [ih j hj,show T - t=(T - (t+1))+1 by omega]
  show Zsh n (k (T - 1 - (T - (t+1)))) (im (T - 1 - (T - (t+1)))) _ j=_
  rw [show T - 1 - (T - (t+1))=t by omega]
theorem Ups.yB {n K T:Nat} {k:Nat→Nat} {im V:Mx} {Cs:Nat→Mx} (h:Ups n K T k im V Cs) {d y:Nat→Rat} (hd:∀r,r < n→Sz K (d r)) (hy:∀c,c < n→X6 n (trM (Cs 0)) y c=cN n T k im d T c):∀i,i < n→Sz (5^n * K) (y i):=
 (h.indep T (JY _)).trQ.sz (fun r c hr hc=>h.sz T (JY _) c r hc hr) hd fun r hr=>by
  rw [h.solvesT hy T (JY _) r hr,Nat.sub_self];rfl
theorem Ups.cB {n K T:Nat} {k:Nat→Nat} {im V:Mx} {Cs:Nat→Mx} (h:Ups n K T k im V Cs) (hn:n≤7) (hK:1≤K) {d y:Nat→Rat} (hd:∀r,r < n→Sz K (d r)) (hy:∀c,c < n→X6 n (trM (Cs 0)) y c=cN n T k im d T c):∀j,j≤T→∀i,i < n→Sz (22 * (5^n * K)) (cN n T k im d j i):=fun j hj i hi=>by
 have e1:K≤5^n * K:=Nat.le_mul_of_pos_left K (Nat.pow_pos (by decide))
 have:=h.solvesT hy (T - j) (by omega) i hi
 rw [show T - (T - j)=j by omega] at this
 rw [← this]
 exact (Zit (K:=K) (J:=5^n * K) hn (fun r hr=>h.sz (T - j) (by omega) r i hr hi) (h.yB hd hy)).mono (by omega)
end Pl
end Go.Proofs.YtgbhebappffbdaaGreat
namespace Go.Proofs.YtgbhebappffbdaaGreat
open Go.RowKit
open Pl
attribute [local go_sem ↓] Go.wp_at_zero Go.wp_at_succ
namespace Pl
theorem Yfb {q:Rat}:qs q=0↔q=0:=by
 unfold qs;rw [Uk];exact Rat.num_eq_zero
theorem Yan {n d m k:Int} (hk:k≠0):Rat.divInt (n * k) (d * m)=Rat.divInt n d / Rat.divInt m k:=by
 rw [Rat.div_def,Rat.inv_divInt,Rat.divInt_mul_divInt]
theorem Yjr {n d m k:Int} {p q:Rat} (h:okq n d p) (g:okq m k q) (hq:q≠0):(-4611686018427387904≤n * k∧n * k≤4611686018427387904)∧(-4611686018427387904≤d * m∧d * m≤4611686018427387904)∧((0 < m∧0 < d * m)∨(m < 0∧d * m < 0))∧Rat.divInt (n * k) (d * m)=p / q∧Rat.divInt (-(n * k)) (-(d * m))=p / q:=by
 obtain ⟨⟨a1,a2⟩,a3,a4,rfl⟩:=h;obtain ⟨⟨b1,b2⟩,b3,b4,rfl⟩:=g;have hm:m≠0:=fun e=>hq (by rw [e,Rat.zero_divInt])
 have e1:Rat.divInt (n * k) (d * m)=Rat.divInt n d / Rat.divInt m k:=Yan (by omega);refine ⟨prod_bd1 (by omega) (by omega) (by omega) (by omega),prod_bd1 (by omega) (by omega) (by omega) (by omega),?_,e1,?_⟩
 ·rcases Int.lt_or_le m 0 with c | c
  ·right;exact ⟨c,Int.mul_neg_of_pos_of_neg a3 c⟩
  ·left;exact ⟨by omega,Int.mul_pos a3 (by omega)⟩
 ·rw [← e1,Rat.neg_divInt_neg]
 where
  prod_bd1 {x y:Int} (h1: -2147483648≤x) (h2:x≤2147483648) (h3: -2147483648≤y) (h4:y≤2147483648): -4611686018427387904≤x * y∧x * y≤4611686018427387904:=by
   have e:(x * y).natAbs≤2147483648 * 2147483648:=(by rw [Int.natAbs_mul];exact Nat.mul_le_mul (by omega) (by omega));omega
end Pl
theorem Zsb {w w2:World} {m g:Nat} {x y z u b s b' s' er:Value} {a:RF} (hR:Bk w2 g 46 [x,y,z,u]) (d:Zw w2 (.agg #[b,s,b',s']) a) (hbe:Below m w w2) (hg:m≤g):
 ∃v',Ending.returned (.tuple #[.agg [b,s,b',s'].toArray,er])= .returned (.tuple #[v',er])∧Zw ((((w2.setCell ⟨g,0,none⟩ b).setCell ⟨g,1,none⟩ s).setCell ⟨g,2,none⟩ b').setCell ⟨g,3,none⟩ s') v' a∧Below m w ((((w2.setCell ⟨g,0,none⟩ b).setCell ⟨g,1,none⟩ s).setCell ⟨g,2,none⟩ b').setCell ⟨g,3,none⟩ s'):=
 ⟨_,rfl,d.keep (hR.keep4 (by decide) _ _ _ _),ZI hbe hg _ _ _ _⟩
theorem Zay (v1 v2:Value) (a b:RF) (w:World) (h1:Zw w v1 a) (h2:Zw w v2 b) (hs:a.Sm) (hs2:b.Sm) (hb0:b.q≠0):
 Calls Tryz.prog 105 #[v1,v2] w fun e w'=>∃v',e= .returned (.tuple #[v',.int .i64 0])∧Zw w' v' (canF (a.q / b.q))∧Below w.heap.size w w':=by
 obtain ⟨A,n,c,A',n',c',rfl,hd,au⟩:=id h1;obtain ⟨B,m,d,B',m',d',rfl,ke,av⟩:=id h2;obtain ⟨W,hW,hX,hY,hR,o⟩:=Zob w (.bool a.num.neg) (.slice A n c) (.bool a.den.neg) (.slice A' n' c') (.bool b.num.neg) (.slice B m d) (.bool b.den.neg) (.slice B' m' d');have e1:=h1.below o;have e2:=h2.below o;obtain ⟨p1,p2,p3,p4⟩:=hX.four;obtain ⟨r1,r2,r3,r4⟩:=hY.four;have P:=JZ hb0;have ah:(qs b.q==0)=false:=by simpa using fun e=>hb0 (Yfb.1 e)
 clear h1 h2 hd au ke av hb0;go_enter Tryz.func105,Tryz.ntmps105;go_wp2_with fail;clear hW;refine (ZA _ b _ e2).mono ?_;rintro e w0 ⟨rfl,hb0⟩;replace hX:=hX.later hb0;replace hY:=hY.later hb0;replace hR:=hR.later hb0;replace o:=Za o hb0 o.size;replace e1:=e1.below hb0;replace e2:=e2.below hb0;clear p1 p2 p3 p4 r1 r2 r3 r4 hb0;obtain ⟨p1,p2,p3,p4⟩:=hX.four;obtain ⟨r1,r2,r3,r4⟩:=hY.four;go_wp2_with fail;refine (UX _ _ a b _ e1 e2).mono ?_;rintro e w1 ⟨x,y,z,u,ok,rfl,hq,s⟩;have HQ:=JZ hq;have R:=hX.later s;have S:=hY.later s;have T:=hR.later s;have t:=Za o s o.size;have U:=e1.below s;have V:=e2.below s;clear hq hX hY hR o e1 e2 s p1 p2 p3 p4 r1 r2 r3 r4 ah;obtain ⟨W2,K,bW,bV,bn⟩:=Zoc w1 x y z u;have X:=R.later bn;have Y:=S.later bn;have p:=T.later bn;have h:=Za t bn t.size;have Z:=U.below bn;have a0:=V.below bn;clear R S T t U V bn
 cases ok
 ·obtain ⟨p1,p2,p3,p4⟩:=X.four;clear HQ;go_wp2_with fail;clear K;refine (XA _ a _ Z hs).mono ?_;rintro e w3 ⟨v1,v2,N,D,rfl,iN,iD,hD,ab,sN,sD,k⟩;have HD:=JZ hD;have ai:=JZ ab;obtain ⟨A3,n3,k3,rfl,_⟩:=iN.shape;obtain ⟨A4,n4,k4,rfl,_⟩:=iD.shape;obtain ⟨W3,aw,bN,bD,bn⟩:=boxes w3 (.bool N.neg) (.slice A3 n3 k3) (.bool D.neg) (.slice A4 n4 k4);have r:=Za k bn k.size;have a1:=Y.later r;have i:=p.later r;have v:=Za h r h.size;have a2:=a0.below r;have a3:=iN.below bn;have a4:=iD.below bn;clear hD ab X Y p h Z a0 k r bn iN iD p1 p2 p3 p4 bW bV hs;obtain ⟨r1,r2,r3,r4⟩:=a1.four;go_wp2_with fail;clear aw;refine (XA _ b _ a2 hs2).mono ?_;rintro e w5 ⟨v1,v2,N',D',rfl,jN,jD,ac,ad,ae,af,O⟩;have aj:=JZ ac;have a5:=JZ ad;obtain ⟨A5,n5,k5,rfl,_⟩:=jN.shape;obtain ⟨A6,n6,k6,rfl,_⟩:=jD.shape;obtain ⟨W5,ax,ay,az,bn⟩:=boxes w5 (.bool N'.neg) (.slice A5 n5 k5) (.bool D'.neg) (.slice A6 n6 k6);have j:=Za O bn O.size;have ak:=bN.later j;have al:=bD.later j;have am:=i.later j;have H:=Za v j v.size;have an:=a3.below j;have ao:=a4.below j;have ap:=jN.below bn;have aq:=jD.below bn;clear ac ad a1 i v a2 O j bn jN jD r1 r2 r3 r4 bN bD a3 a4 hs2;obtain ⟨x0,x1,_,_⟩:=ak.two;obtain ⟨y0,y1,_,_⟩:=al.two;obtain ⟨a7,a8,_,_⟩:=ay.two;obtain ⟨a9,aa,_,_⟩:=az.two;have ar:Hid ((canI (D.z * N'.z)).z≠0):=JZ (by
   rw [ZL];intro e;rcases Int.mul_eq_zero.1 e with g | g
   ·have:=HD.out;omega
   ·exact P.out (by rw [← a5.out,g,Rat.zero_divInt]))
  go_upto_region 11 with (fail)
  clear ax;have C0:=Zl x0;have C1:=Zl x1;have C2:=Zl y0;have C3:=Zl y1;have D0:=Zl a7;have D1:=Zl a8;have D2:=Zl a9;have D3:=Zl aa;have F:Below W5.heap.size W5 W5.drew:=(JR _ _).drew;clear x0 x1 y0 y1 a7 a8 a9 aa;refine Zn 7 [0,1,3,4,2,5,6,7,8] (by kernel_rfl) (by kernel_rfl) ?_;repeat ((first|(first|refine Zb (v:=?_) rfl rfl rfl ?_ ?_ |refine Zd (v:=?_) rfl rfl rfl ?_ ?_);rotate_left;·(intro _ _;go_simp;(try go_bits);(try with_reducible rfl))|refine Ze rfl rfl rfl ?_);(try simp only [py]))
  refine Zf rfl rfl (fun _ kq=>?_);go_simp;with_reducible refine (XR _ _ N D' _ (an.below F) (aq.below F) (RI.Sm.two sN af)).mono ?_
  rintro _ w6 ⟨v6,rfl,e6,b0⟩;have E:=Za F b0 F.size;refine kq.out _ _ (.inr E) ?_;clear kq;(try simp only [py]);repeat ((first|(first|refine Zb (v:=?_) rfl rfl rfl ?_ ?_ |refine Zd (v:=?_) rfl rfl rfl ?_ ?_);rotate_left;·(intro _ _;go_simp;(try go_bits);(try with_reducible rfl))|refine Ze rfl rfl rfl ?_);(try simp only [py]))
  refine Zf rfl rfl (fun _ kq=>?_);go_simp;with_reducible refine (XR _ _ D N' _ (ao.below E) (ap.below E) (RI.Sm.two sD ae)).mono ?_
  rintro _ w7 ⟨v7,rfl,e7,ag⟩;have I:=Za E ag E.size;refine kq.out _ _ (.inr I) ?_;clear kq;(try simp only [py]);repeat ((first|(first|refine Zb (v:=?_) rfl rfl rfl ?_ ?_ |refine Zd (v:=?_) rfl rfl rfl ?_ ?_);rotate_left;·(intro _ _;go_simp;(try go_bits);(try with_reducible rfl))|refine Ze rfl rfl rfl ?_);(try simp only [py]))
  refine Zf rfl rfl (fun _ kq=>?_);go_simp;with_reducible refine (X5 _ _ (canI (N.z * D'.z)) (canI (D.z * N'.z)) _ (e6.below ag) e7 (JW (RI.Sm.mul sN af) (by decide)) (JW (RI.Sm.mul sD ae) (by decide)) ar.out).mono ?_
  rw [ZL,ZL,Yan (Int.ne_of_gt aj.out),ai.out,a5.out];rintro _ w8 ⟨v8,rfl,e8,b5⟩;have J:=Za I b5 I.size;obtain ⟨C,l,f,C',l',f',rfl,_,_⟩:=id e8;have G:=am.later J;obtain ⟨c0,c1,c2,c3⟩:=G.four;obtain ⟨f0,f1,f2,f3⟩:=G.fourF;refine kq.out _ _ (.inr J) ?_;clear kq;(try simp only [py]);refine Zf rfl rfl (fun _ kq=>?_);go_simp;refine kq.out _ _ (.inl (by decide)) ?_;clear kq;(try simp only [py]);refine Zf rfl rfl (fun _ kq=>?_);go_simp;refine kq.out _ _ (.inl (by decide)) ?_;clear kq;(try simp only [py]);refine Zv ?_;clear C0 C1 C2 C3 D0 D1 D2 D3;have a6:=Za H J H.size;go_wp2;refine YX Tryz.results105 Tryz.underlying46 (by kernel_rfl) rfl (G.set4 _ _ _ _) rfl ?_;exact Zsb G e8 a6 (by omega)
 ·obtain ⟨⟨b1,b2⟩,⟨b3,b4⟩,hz,L,M⟩:=Yjr (HQ.out rfl).1 (HQ.out rfl).2 P.out;obtain ⟨q0,q1,_,_⟩:=bW.two;obtain ⟨s0,s1,_,_⟩:=bV.two;clear HQ;rcases hz with ⟨hz,hz2⟩ | ⟨hz,hz2⟩
  ·have HV:=JZ L;clear L M;have t1:IntKind.i64.wrap (x * u)=x * u:=(by simp only [IntKind.wrap,IntKind.bits,IntKind.signed];simp;omega);have t2:IntKind.i64.wrap (y * z)=y * z:=by simp only [IntKind.wrap,IntKind.bits,IntKind.signed];simp;omega
   go_upto_region 5 with (fail)
   clear K;have C0:=Zl q0;have C1:=Zl q1;have D0:=Zl s0;have D1:=Zl s1;clear q0 q1 s0 s1;refine Zn 12 [0,1,2,3,4,5,6,7,8,9,10,11] (by kernel_rfl) (by kernel_rfl) ?_;repeat ((first|(first|refine Zb (v:=?_) rfl rfl rfl ?_ ?_ |refine Zd (v:=?_) rfl rfl rfl ?_ ?_);rotate_left;·(intro _ _;go_simp;(try go_bits);(try with_reducible rfl))|refine Ze rfl rfl rfl ?_);(try simp only [py]))
   refine Zv ?_;clear C0 C1 D0 D1;replace p:=p.drew;replace h:=h.drew;generalize W2.drew=W3 at *;go_wp2_with fail;refine (XL (x * u) (y * z) _ (by omega) (by omega) (by omega) (by omega)).mono ?_;rw [HV.out];rintro e w3 ⟨v3,rfl,e3,k⟩;have i:=p.later k;obtain ⟨C,l,f,C',l',f',rfl,_,_⟩:=id e3;obtain ⟨c0,c1,c2,c3⟩:=i.four;obtain ⟨f0,f1,f2,f3⟩:=i.fourF;go_wp2;refine YX Tryz.results105 Tryz.underlying46 (by kernel_rfl) rfl (i.set4 _ _ _ _) rfl ?_;exact Zsb i e3 (Za h k h.size) (by omega)
  ·have HV:=JZ M;clear L M;have t1:IntKind.i64.wrap (x * u)=x * u:=(by simp only [IntKind.wrap,IntKind.bits,IntKind.signed];simp;omega);have t2:IntKind.i64.wrap (y * z)=y * z:=(by simp only [IntKind.wrap,IntKind.bits,IntKind.signed];simp;omega);have t3:IntKind.i64.wrap (-(x * u))= -(x * u):=(by simp only [IntKind.wrap,IntKind.bits,IntKind.signed];simp;omega);have t4:IntKind.i64.wrap (-(y * z))= -(y * z):=by simp only [IntKind.wrap,IntKind.bits,IntKind.signed];simp;omega
   go_upto_region 5 with (fail)
   clear K;have C0:=Zl q0;have C1:=Zl q1;have D0:=Zl s0;have D1:=Zl s1;clear q0 q1 s0 s1;refine Zn 12 [0,1,2,3,4,5,6,7,8,9,10,11] (by kernel_rfl) (by kernel_rfl) ?_;repeat ((first|(first|refine Zb (v:=?_) rfl rfl rfl ?_ ?_ |refine Zd (v:=?_) rfl rfl rfl ?_ ?_);rotate_left;·(intro _ _;go_simp;(try go_bits);(try with_reducible rfl))|refine Ze rfl rfl rfl ?_);(try simp only [py]))
   refine Zv ?_;clear C0 C1 D0 D1;replace p:=p.drew;replace h:=h.drew;generalize W2.drew=W3 at *;go_wp2_with fail;refine (XL (-(x * u)) (-(y * z)) _ (by omega) (by omega) (by omega) (by omega)).mono ?_;rw [HV.out];rintro e w3 ⟨v3,rfl,e3,k⟩;have i:=p.later k;obtain ⟨C,l,f,C',l',f',rfl,_,_⟩:=id e3;obtain ⟨c0,c1,c2,c3⟩:=i.four;obtain ⟨f0,f1,f2,f3⟩:=i.fourF;go_wp2;refine YX Tryz.results105 Tryz.underlying46 (by kernel_rfl) rfl (i.set4 _ _ _ _) rfl ?_;exact Zsb i e3 (Za h k h.size) (by omega)
theorem YF.at_ {base:Nat} {w:World} {g n c:Nat} {cols:List (List En)} (h:YF base w (.slice (some ⟨g,0,none⟩) n c) cols) {k:Nat} {es:List En} (he:cols[k]? =some es):
 ∃u,w.cell? ⟨g,k,none⟩=some u∧w.frozen? ⟨g,k,none⟩=false∧V7 w u es:=by
 obtain ⟨cs,h1,h2⟩:=h;have hn:n=cols.length:=(UD.of_own h1).len;subst hn;obtain ⟨u,c0,hm⟩:=h2 k es he;exact ⟨u,(ZV h1 c0).1,(ZV h1 c0).2,hm⟩
theorem YF.set_ {base:Nat} {w:World} {g n c:Nat} {cols:List (List En)} (h:YF base w (.slice (some ⟨g,0,none⟩) n c) cols) {k:Nat} (hk:k < cols.length) {u:Value} {es:List En} (hu:V7 w u es):
 YF base (w.setCell ⟨g,k,none⟩ u) (.slice (some ⟨g,0,none⟩) n c) (cols.set k es)∧Zg 66 w (w.setCell ⟨g,k,none⟩ u):=by
 obtain ⟨cs,h1,h2⟩:=h;have hn:n=cols.length:=(UD.of_own h1).len;subst hn;have hl:cs.length=cols.length * 1:=h1.1;have o1:=XC h1 k u (by omega);obtain ⟨_,b0,_⟩:=Ye h1;have kp:=Zg.setCell b0 k u;refine ⟨⟨cs.set k u,by rw [List.length_set];exact o1,fun j d hd=>?_⟩,kp⟩;rw [List.getElem?_set] at hd;by_cases c:k=j
 ·subst c;rw [if_pos rfl,if_pos hk] at hd;injection hd with hd;subst hd;exact ⟨u,List.getElem?_set_self (by omega),hu.but kp (by decide) (by decide)⟩
 ·rw [if_neg c] at hd;obtain ⟨u',hc,hm⟩:=h2 j d hd;exact ⟨u',by rw [List.getElem?_set_ne c];exact hc,hm.but kp (by decide) (by decide)⟩
def zvc (n:Nat):Array Value:=madeCells (Value.cells (.slice none 0 0)) (n * 1)
theorem Yhj {n k:Nat} (hk:k < n):(zvc n)[k]? =some (.slice none 0 0):=by
 have a:k < n * 1:=by omega
 unfold zvc madeCells;simp [hk,Value.cells,Nat.mod_one]
theorem YF.zeros (w:World) (n:Nat) (hn:n≤maxLen):YF w.heap.size (w.alloc (.cells (zvc n) 66)) (.slice (some ⟨w.heap.size,0,none⟩) n n) (List.replicate n []):=by
 have a:(zvc n).size=n * 1:=size_madeCells _ _;refine ⟨(zvc n).toList,⟨by simp [a],.inr ⟨w.heap.size,n,zvc n,by simp,JY _,heap_alloc_new w _,by simp,hn,a,?_⟩⟩,fun k f hf=>?_⟩
 ·rw [List.take_of_length_le (by simp [a])]
 ·rw [List.getElem?_replicate] at hf;split at hf
  ·rename_i hk
   injection hf with hf;subst hf;exact ⟨_,by have:=Yhj hk;simpa using this,(Zbz.nil 0 _).vec⟩
  ·cases hf
theorem Ziv (n:Nat) (hn:n≤1099511627776) (w:World):
 (Instr.makeSlice 24 (.int .i64 (n:Int)) (.int .i64 (n:Int))).run Tryz.prog w= .ok (.slice (some ⟨w.heap.size,0,none⟩) n n) (w.alloc (.cells (zvc n) 66)):=by
 obtain ⟨i0,hi,a,b,c⟩:=info_parts info_vector;have hb:(i0.bytes:Int) * (n:Int)≤281474976710656:=by rw [c];omega
 have hr:=run_make (P:=Tryz.prog) w 24 66 i0 _ Tryz.underlying24 hi a .i64 .i64 n n (by omega) (by omega) hb (by omega);simp only [JP,b] at hr;exact hr
namespace Pl
def Zpi (n:Nat) (R:Nat→Nat):List Int:=(List.range n).map fun i=>(R i:Int)
theorem Ziw (n:Nat) (R:Nat→Nat):(Zpi n R).length=n:=by simp [Zpi]
theorem Zgs {n i:Nat} {R:Nat→Nat} (h:i < n):(Zpi n R)[i]? =some (R i:Int):=by simp [Zpi,h]
def vcL (n:Nat) (L:Mx):List (List En):=(List.range n).map fun t=>spV (L t) n
theorem Zfa (n:Nat) (L:Mx):(vcL n L).length=n:=by simp [vcL]
theorem Zix {n i:Nat} {L:Mx} (h:i < n):(vcL n L)[i]? =some (spV (L i) n):=by simp [vcL,h]
theorem Zpj {f:Nat→Rat} {m:Nat}:∀{d:Nat},(∀s,m≤s→s < m+d→f s=0)→spV f (m+d)=spV f m
 | 0,_=>rfl
 | d+1,h=>by rw [← Nat.add_assoc,XV (h _ (by omega) (by omega))];exact Zpj fun s h1 h2=>h s h1 (by omega)
theorem Zuv {f:Nat→Rat} {n k:Nat} (hk:k < n) (h:f k≠0) (h0:∀s,k < s→s < n→f s=0):(spV f n)[(spV f n).length - 1]? =some ⟨(k:Int),canF (f k)⟩:=by
 have e:spV f n=spV f k++[⟨(k:Int),canF (f k)⟩]:=by
  rw [← Wo h];have:=Zpj (f:=f) (m:=k+1) (d:=n - (k+1)) fun s h1 h2=>h0 s (by omega) (by omega)
  rwa [show k+1+(n - (k+1))=n by omega] at this
 rw [e];simp
end Pl
theorem Xq.cap {w:World} {A:Option Addr} {n c:Nat} {zs:List Int} (h:Xq w (.slice A n c) zs):n≤c∧c≤9223372036854775807:=by
 obtain ⟨_,_,e,h1,h2⟩:=h.shape;injection e with _ e1 e2;omega
theorem XW.cap {w:World} {A:Option Addr} {n c:Nat} {cols:List (List En)} (h:XW w (.slice A n c) cols):n≤c∧c≤9223372036854775807:=by
 obtain ⟨_,_,e,h1,h2⟩:=h.shape;injection e with _ e1 e2;omega
def Ylh (w:World) (g off n:Nat) (R C:Nat→Nat) (L U:Mx):Prop:=
 ∃A0 c0 A1 c1 A2 c2 A3 c3,(w.cell? ⟨g,off,none⟩=some (.slice A0 n c0)∧w.cell? ⟨g,off+1,none⟩=some (.slice A1 n c1)∧w.cell? ⟨g,off+2,none⟩=some (.slice A2 n c2)∧w.cell? ⟨g,off+3,none⟩=some (.slice A3 n c3))∧
  Xq w (.slice A0 n c0) (Zpi n R)∧Xq w (.slice A1 n c1) (Zpi n C)∧XW w (.slice A2 n c2) (vcL n L)∧XW w (.slice A3 n c3) (vcL n U)
theorem Ylh.below {w w':World} {g off n:Nat} {R C:Nat→Nat} {L U:Mx} (h:Ylh w g off n R C L U) (hb:Below w.heap.size w w'):Ylh w' g off n R C L U:=by
 obtain ⟨A0,c0,A1,c1,A2,c2,A3,c3,⟨k0,k1,k2,k3⟩,i0,i1,i2,i3⟩:=h;exact ⟨A0,c0,A1,c1,A2,c2,A3,c3,⟨Zk hb k0,Zk hb k1,Zk hb k2,Zk hb k3⟩,i0.below hb,i1.below hb,i2.below hb,i3.below hb⟩
theorem Xq.nat {w wr:World} {a:Option Addr} {n cap:Nat} {R:Nat→Nat} (h:Xq w (.slice a n cap) (Zpi n R)) (hb:Below w.heap.size w wr) {i:Nat} (hi:i < n):
 ∃b o,a=some ⟨b,o,none⟩∧wr.cell? ⟨b,o+i,none⟩=some (.int .i64 (R i:Int)):=by
 obtain ⟨b,o,z,e,hc,hz,_,_⟩:=h.at_ hi;rw [Zgs hi] at hz;injection hz with hz;subst hz;exact ⟨b,o,e,Zk hb hc⟩
theorem XW.vc {w wr:World} {a:Option Addr} {n cap:Nat} {L:Mx} (h:XW w (.slice a n cap) (vcL n L)) (hb:Below w.heap.size w wr) {i:Nat} (hi:i < n):
 ∃b o A1 c1,a=some ⟨b,o,none⟩∧wr.cell? ⟨b,o+i,none⟩=some (.slice A1 (spV (L i) n).length c1)∧V7 wr (.slice A1 (spV (L i) n).length c1) (spV (L i) n):=by
 obtain ⟨b,o,A1,c1,e,_,hc,hv⟩:=h.elem hb (Zix hi);exact ⟨b,o,A1,c1,e,hc,hv⟩
theorem Zgl.congr {base:Nat} {v:Value} {n:Nat} {g g':Nat→Rat} {w w':World} (h:Zgl base v n g w w') (e:∀i,i < n→g i=g' i):Zgl base v n g' w w':=by
 unfold Zgl at *;rw [← ZO e];exact h
namespace Pl
theorem Zpk {n k J:Nat} {f g:Nat→Rat} {G:Nat→Rat} (hg:∀i,i < n→Sz J (g i)) (hG:∀i,i < n→Sz J (G i)) (e:∀i,i < n→(if i < n∧i≠k then g i - f i * g k else g i)=G i):
 ∀t i,t≤(spV f n).length→i < n→Sz J (Zcc (spV f n) (k:Int) (g k) g t i):=fun t i ht hi=>by
 rcases Zut f k (g k) g i n t ht with h | ⟨h1,h2,h3⟩
 ·rw [h];exact hg i hi
 ·have:=e i hi
  rw [if_pos ⟨h1,h2⟩] at this
  rw [h3,this];exact hG i hi
theorem Ybc {n k:Nat} {f g:Nat→Rat} {G:Nat→Rat} (e:∀i,i < n→(if i < n∧i≠k then g i - f i * g k else g i)=G i):
 ∀i,i < n→Zcc (spV f n) (k:Int) (g k) g (spV f n).length i=G i:=fun i hi=>by
 rw [Zmt];exact e i hi
end Pl
theorem Zpl (gp off:Nat) (vc:Value) (n E J:Nat) (A:Mx) (R C:Nat→Nat) (L U:Mx) (b:Nat→Rat) (w:World) (hF:Ylh w gp off n R C L U) (h2:Y1 w vc (ZQ n b)) (S:Zsg n E A R C L U) (hb:∀i,i < n→Sz J (b i)) (hJ:J≤30 * E) (hX:∀i,i < n→Sz E (solQ n R C L U b i)):
 Calls Tryz.prog 157 #[.pointer (some ⟨gp,off,none⟩),vc] w fun o w'=>∃v',o= .returned v'∧ZU w.heap.size w' v' (ZQ n (solQ n R C L U b))∧Below w.heap.size w w':=by
 obtain ⟨A0,c0,A1,c1,A2,c2,A3,c3,⟨k0,k1,k2,k3⟩,i0,i1,i2,i3⟩:=hF;obtain ⟨Ac,cc,rfl,ax,bs⟩:=h2.shape;rw [Zc] at h2 ax ⊢;obtain ⟨bt,bu⟩:=i0.cap;obtain ⟨bv,bw⟩:=i1.cap;obtain ⟨bx,ca⟩:=i2.cap;obtain ⟨cb,cd⟩:=i3.cap;have K0:=JZ k0;have K1:=JZ k1;have K2:=JZ k2;have K3:=JZ k3;have I0:=JZ i0;have I1:=JZ i1;have I2:=JZ i2;have I3:=JZ i3;have H2:=JZ h2;have HS:=JZ S;have ce:=S.n7;have cf:=S.e1;have cg:=S.e2;obtain ⟨z0,B⟩:∃z0,z0=fun p=>b (R p):=⟨_,rfl⟩
 obtain ⟨FW,m⟩:∃FW,FW=Zby L z0:=⟨_,rfl⟩;obtain ⟨BW,r⟩:∃BW,BW=Zcn n U (FW n):=⟨_,rfl⟩;have bd:Hid (FW 0=z0):=JZ (by rw [m];rfl);have be:Hid (BW 0=FW n):=JZ (by rw [r];rfl);have ai:Hid (∀j,j < n→∀i,i < n→(if i < n∧i≠j then FW j i - L j i * FW j j else FW j i)=FW (j+1) i):=JZ fun j hj i hi=>by rw [m];exact Ykd S.fac.l0 hj hi
 have bf:Hid (∀j k,k+1+j=n→∀i,i < n→(if i < n∧i≠k then Zmv (BW j) k (U k k) i - U k i * Zmv (BW j) k (U k k) k else Zmv (BW j) k (U k k) i)=BW (j+1) i):=JZ fun j k hk i hi=>by rw [r];exact Yke S.fac.u0 hk hi
 have aj:Hid (∀j i,j≤n→i < n→Sz (256 * E) (FW j i)):=JZ fun j i hj hi=>by rw [m,B];exact (S.fB hb hX j i hj hi).mono (by omega)
 have I:Hid (∀j i,j≤n→i < n→Sz (59 * E) (BW j i)):=JZ fun j i hj hi=>by rw [r,m,B];exact S.bB hX j i hj hi
 have bg:Hid (∀j k,k+1+j=n→BW (j+1) k=BW n k):=JZ fun j k hk=>by rw [r];exact (Zew (show k < n by omega) (by omega) (by omega)).trans (Zew (show k < n by omega) (by omega) (JY n)).symm
 have ak:Hid (ZQ n (solQ n R C L U b)=UI n n C (BW n)):=JZ (by rw [Zpe S.fac.ci,r,m,B];rfl);have bh:Hid (∀p,b (R p)=z0 p):=JZ fun p=>by rw [B]
 rw [ak.out];have bi:Hid (∀t,t < n→∀(k:Nat) (e:En),(spV (L t) n)[k]? =some e→e.f.Rs (2 * E)):=JZ fun t ht=>Zdu fun i hi=>S.lB t i ht hi
 have bj:Hid (∀t,t < n→∀(k:Nat) (e:En),(spV (U t) n)[k]? =some e→e.f.Rs (2 * E)):=JZ fun t ht=>Zdu fun i hi=>S.uB t i ht hi
 have bk:Hid (∀k,k < n→Sz (2 * E) (U k k)∧U k k≠0∧(spV (U k) n)[(spV (U k) n).length - 1]? =some ⟨(k:Int),canF (U k k)⟩):=JZ fun k hk=>⟨S.uB k k hk hk,S.fac.u1 k hk,Zuv hk (S.fac.u1 k hk) fun s h1 h2=>S.fac.u0 k s hk h2 h1⟩
 have ch:=XF n (by omega);have a5:=ZU.zeros w n (by unfold maxLen;omega);have K:=Zi w (.cells (zfc n) 46);rw [← Zcd (w:=z0)] at a5;have y0:=Zk K k0;have bl:=k0;clear i0 i1 i2 i3 h2 S B m r hb hX ak k0 k1 k2 k3;go_enter Tryz.func157,Tryz.ntmps157;go_wp2;have M:=K.size;clear y0 bl;generalize w.alloc (.cells (zfc n) 46)=W at *
 go_loopw [24] (fun i wr=>∃k:Nat,k≤n∧i= .int .i64 k∧ZU w.heap.size wr (.slice (some ⟨w.heap.size,0,none⟩) n n) (Y7 n k z0)∧Below w.heap.size w wr) (fun i _=>n - (intOf i).toNat)
 case atStart=>exact ⟨0,by omega,rfl,a5,K⟩
 case round=>
  clear a5 K M;obtain ⟨k,hk,rfl,hO,a⟩:=hrel;rcases JX k n with c | c
  ·obtain ⟨b0,o0,rfl,x0⟩:=I0.out.nat a c;have bm:R k < n:=HS.out.fac.ri.1 k c;obtain ⟨bc,oc,A4,n4,c4,A5,n5,c5,rfl,_,⟨u0,u1,u2,u3⟩,hm⟩:=H2.out.elem a (ZE bm);rw [bh.out] at u0 u2 hm;have N:=JZ (Zce (w:=z0) c);have T:(Y7 n k z0)[k]? =some zeroF:=(by unfold Y7;rw [YD c,if_neg (by omega)]);obtain ⟨_,_,_,_,⟨t0,t1,t2,t3⟩,⟨f0,f1,f2,f3⟩,_⟩:=hO.at_ T;obtain ⟨ay,co⟩:=hO.set_ (k:=k) (by rw [Ws];exact c) hm;rw [N.out] at ay;have al:=Zx a (JY _) (k * 4) (k * 4+1) (k * 4+2) (k * 4+3);have bn:(k:Int) < n:=(by omega);generalize R k=rk at *;have cj:(rk:Int) < n:=(by omega);clear hO a T hm N;go_wp2;go_roundw
   case rel=>exact ⟨k+1,by omega,by go_num,ay,al _ _ _ _⟩
   case measure=>simp [intOf];omega
  ·obtain rfl:n=k:=by omega
   rw [Zez,← bd.out] at hO;go_wp2
   go_loopw [38] (fun i wr=>∃j:Nat,j≤n∧i= .int .i64 j∧ZU w.heap.size wr (.slice (some ⟨w.heap.size,0,none⟩) n n) (ZQ n (FW j))∧Below w.heap.size w wr) (fun i _=>n - (intOf i).toNat)
   case atStart=>exact ⟨0,by omega,rfl,hO,a⟩
   case round=>
    clear hO a;obtain ⟨j,hj,rfl,hO,a⟩:=hrel;rcases JX j n with hjl | hjl
    ·obtain ⟨b2,o2,A4,c4,rfl,x0,hL⟩:=I2.out.vc a hjl;have y2:=Zk a K2.out;have a6:=JZ (Zpk (J:=256 * E) (fun i hi=>aj.out j i (by omega) hi) (fun i hi=>aj.out (j+1) i (by omega) hi) (ai.out j hjl));have a7:=JZ (Ybc (ai.out j hjl));have HR:=JZ (bi.out j hjl);have a8:=JZ (Zii (L j) n);have cl:(j:Int) < n:=(by omega);go_wp2_with fail;refine (Zgd _ _ n (FW j) (spV (L j) n) j (2 * E) (256 * E) w.heap.size _ hO hL hjl a8.out HR.out a6.out (by omega) (by omega) (by omega)).mono ?_;rintro _ w1 ⟨rfl,hs⟩;obtain ⟨O,_,bq,Y⟩:=hs.congr a7.out;have am:=a.trans Y;clear hO a hL x0 y2 hs Y bq;go_wp2;go_roundw
     case rel=>exact ⟨j+1,by omega,by go_num,O,am⟩
     case measure=>simp [intOf];omega
    ·obtain rfl:n=j:=by omega
     rw [← be.out] at hO;have a9:=ZU.zeros wr n (by unfold maxLen;omega);have aa:=Zi wr (.cells (zfc n) 46);rw [← Zkx (X:=BW n) HS.out.fac.ci] at a9;have O:=hO.below aa;have bo:0 < n→w.heap.size < wr.heap.size:=fun hp=>by
      obtain ⟨g,_,e,_,h,_⟩:=hO.shape (by rw [Zc];exact hp);injection e with e;injection e with e;injection e with e;omega
     have V:=Za a aa a.size;have bp:=a.size;clear hO a;go_wp2;generalize wr.heap.size=gx at *;generalize wr.alloc (.cells (zfc n) 46)=W2 at *
     go_loopw [11] (fun i wx=>∃(j:Nat) (kz:Int),j≤n∧kz=(n:Int) - 1 - j∧i= .int .i64 kz∧ZU w.heap.size wx (.slice (some ⟨w.heap.size,0,none⟩) n n) (ZQ n (BW j))∧ZU gx wx (.slice (some ⟨gx,0,none⟩) n n) (UI n j C (BW n))∧Below w.heap.size w wx) (fun i _=>(intOf i+1).toNat)
     case atStart=>exact ⟨0,(n:Int) - 1,by omega,by omega,rfl,O,a9,V⟩
     case round=>
      clear O a9 V aa;obtain ⟨j,kz,hj,az,rfl,hO,hx,a⟩:=hrel;rcases Int.lt_or_le kz 0 with hneg | hpos
      ·obtain rfl:n=j:=by omega
       go_wp2;go_ret;exact ⟨_,rfl,hx.monoB bp,a⟩
      ·obtain ⟨k,rfl⟩:=JT hpos;have u:k+1+j=n:=(by omega);have c:k < n:=(by omega);have cm:=bo (by omega);obtain ⟨b3,o3,A4,c4,rfl,x0,F⟩:=I3.out.vc a c;have y3:=Zk a K3.out;obtain ⟨af,Z,G⟩:=bk.out k c;have v:=JZ G;obtain ⟨D,hD⟩:∃D,D=Zmv (BW j) k (U k k):=⟨_,rfl⟩;have an:Hid ((ZQ n (BW j)).set k (canF (BW j k / U k k))=ZQ n D):=JZ (by rw [XT c,hD];rfl);have P:=bf.out j k u;rw [← hD] at P;have ao:∀i,i < n→Sz (61 * E) (D i):=fun i hi=>by
        rw [hD];unfold Zmv;split
        ·exact (Zdf (I.out j k (by omega) c) af).mono (by omega)
        ·exact (I.out j i (by omega) hi).mono (by omega)
       have a6:=JZ (Zpk (J:=61 * E) ao (fun i hi=>(I.out (j+1) i (by omega) hi).mono (by omega)) P);have a7:=JZ (Ybc P);have HR:=JZ (bj.out k c);have a8:=JZ (Zii (U k) n);have M:(canF (BW j k)).Sm:=(I.out j k (by omega) c).rs.sm (by omega);have ap:(canF (U k k)).Sm:=af.rs.sm (by omega);have aq:(canF (U k k)).q≠0:=(by rw [Zr];exact Z);have ab:(ZQ n (BW j))[k]? =some (canF (BW j k)):=ZE c;have N:Hid ((UI n j C (BW n)).set (C k) (canF (BW (j+1) k))=UI n (j+1) C (BW n)):=JZ (by rw [bg.out j k u];exact Zky HS.out.fac.ci u);have ar:C k < n:=HS.out.fac.ci.1 k c;have bn:(k:Int) < n:=(by omega);have cn:=JZ az;have au:=JZ u;clear az u;obtain ⟨bz,oz,A5,n5,c5,A6,n6,c6,hA,_,⟨t0,t1,t2,t3⟩,H⟩:=hO.frs.elem (JR _ _) ab;injection hA with hA;injection hA with hA1 hA2;subst hA1;subst hA2;simp only [Nat.zero_add] at t0 t1 t2 t3;generalize BW j k=zk at *;generalize U k k=uk at *;clear P ao hD G af Z hpos
       go_upto_region 17 with (fail)
       have C0:=Zl t0;have C1:=Zl t1;have C2:=Zl t2;have C3:=Zl t3;have D0:=Zl x0;have D1:=Zl y3;have x:=Zj wr;clear t0 t1 t2 t3 x0 y3;refine Zn 19 [0,1,2,3,4,5,6,7,8,9,10,11,12,13,14,15,16,17,18,19] (by kernel_rfl) (by kernel_rfl) ?_;repeat ((first|(first|refine Zb (v:=?_) rfl rfl rfl ?_ ?_ |refine Zd (v:=?_) rfl rfl rfl ?_ ?_);rotate_left;·(intro _ _;go_simp;(try go_bits);(try with_reducible rfl))|refine Ze rfl rfl rfl ?_);(try simp only [py]))
       refine Zf rfl rfl (fun _ kq=>?_);go_simp;(with_reducible refine (Zgc _ _ ⟨(k:Int),canF uk⟩ _ (F.below x) v.out).mono ?_);rintro _ w6 ⟨v6,rfl,e6,ba⟩;have y:=Za x ba x.size;refine kq.out _ _ (.inr y) ?_;clear kq;(try simp only [py]);repeat ((first|(first|refine Zb (v:=?_) rfl rfl rfl ?_ ?_ |refine Zd (v:=?_) rfl rfl rfl ?_ ?_);rotate_left;·(intro _ _;go_simp;(try go_bits);(try with_reducible rfl))|refine Ze rfl rfl rfl ?_);(try simp only [py]))
       refine Zf rfl rfl (fun _ kq=>?_);go_simp;(with_reducible refine (Zay _ _ (canF zk) (canF uk) _ (H.below y) e6 M ap aq).mono ?_);rw [Zr,Zr];rintro _ w7 ⟨v7,rfl,e7,bb⟩;have z:=Za y bb y.size;obtain ⟨B9,l9,k9,b5,b6,b7,rfl,_,_⟩:=id e7;have ac:=hO.below z;obtain ⟨_,_,_,_,⟨c0,c1,c2,c3⟩,⟨f0,f1,f2,f3⟩,_⟩:=ac.at_ ab;refine kq.out _ _ (.inr z) ?_;clear kq;(try simp only [py]);repeat ((first|(first|refine Zb (v:=?_) rfl rfl rfl ?_ ?_ |refine Zd (v:=?_) rfl rfl rfl ?_ ?_);rotate_left;·(intro _ _;go_simp;(try go_bits);(try with_reducible rfl))|refine Ze rfl rfl rfl ?_);(try simp only [py]))
       refine Zf rfl rfl (fun _ kq=>?_);go_simp;refine kq.out _ _ (.inl (by decide)) ?_;clear kq;(try simp only [py]);refine Zv ?_;clear C0 C1 C2 C3 D0 D1;obtain ⟨ag,b8⟩:=ac.set_ (k:=k) (by rw [Zc];exact c) e7;rw [an.out] at ag;have av:=(hx.below z).others YC (b8.keep (by decide)) (fun b hb e=>by simp [Value.ownBlock] at hb;injection e with e;omega);have l:=Zx (Za a z a.size) (JY _) (k * 4) (k * 4+1) (k * 4+2) (k * 4+3) (.bool (canF (zk / uk)).num.neg) (.slice B9 l9 k9) (.bool (canF (zk / uk)).den.neg) (.slice b5 b6 b7);clear hO ac hx a x y z e6 e7 ba bb c0 c1 c2 c3 f0 f1 f2 f3 H b8 F ab M ap aq an v;generalize ((((w7.setCell ⟨w.heap.size,k * 4,none⟩ (.bool (canF (zk / uk)).num.neg)).setCell ⟨w.heap.size,k * 4+1,none⟩ (.slice B9 l9 k9)).setCell ⟨w.heap.size,k * 4+2,none⟩ (.bool (canF (zk / uk)).den.neg)).setCell ⟨w.heap.size,k * 4+3,none⟩ (.slice b5 b6 b7))=W8 at *;obtain ⟨b4,o4,A7,c7,hA,x0,F⟩:=I3.out.vc l c;injection hA with hA;injection hA with hA1 hA2;subst hA1;subst hA2;have y3:=Zk l K3.out;go_wp2_with fail;refine (Zgd _ _ n D (spV (U k) n) k (2 * E) (61 * E) w.heap.size _ ag F c a8.out HR.out a6.out (by omega) (by omega) (by omega)).mono ?_;rintro _ w9 ⟨rfl,hs⟩;obtain ⟨ah,a0,a1,a2⟩:=hs.congr a7.out;have ad:=av.others a1 (a0.keep (by decide)) (fun b hb e=>by simp [Value.ownBlock] at hb e;omega);have d:=l.trans a2;clear ag F hs x0 y3 av l a0 a1 a2;obtain ⟨b1,o1,rfl,x1⟩:=I1.out.nat d c;have y1:=Zk d K1.out;obtain ⟨bz,oz,A8,n8,c8,A9,n9,c9,hA,_,⟨t0,t1,t2,t3⟩,H⟩:=ah.frs.elem (JR _ _) (ZE c);injection hA with hA;injection hA with hA1 hA2;subst hA1;subst hA2;simp only [Nat.zero_add] at t0 t1 t2 t3;obtain ⟨rf,b9⟩:=ZH (fs:=UI n j C (BW n)) (i:=C k) (by rw [VM];exact ar);obtain ⟨a3,a4⟩:=ad.set_ (k:=C k) (by rw [VM];exact ar) H;rw [N.out] at a3;have aw:=ah.others (g:=some gx) YC (a4.keep (by decide)) (fun b hb e=>by simp [Value.ownBlock] at hb;injection e with e;omega);have ae:=Zx d (show w.heap.size≤gx by omega) (C k * 4) (C k * 4+1) (C k * 4+2) (C k * 4+3);obtain ⟨_,_,_,_,⟨c0,c1,c2,c3⟩,⟨f0,f1,f2,f3⟩,_⟩:=ad.at_ b9;generalize C k=ck at *;have br:(ck:Int) < n:=(by omega);generalize BW (j+1) k=cp at *;clear b9 ad ah d H a4
       go_upto_region 19 with (fail)
       have C0:=Zl t0;have C1:=Zl t1;have C2:=Zl t2;have C3:=Zl t3;have D0:=Zl x1;have D1:=Zl y1;have x:=Zj w9;clear t0 t1 t2 t3 x1 y1;refine Zn 13 [0,1,2,3,4,5,6,7,8,9,10,11,12,13] (by kernel_rfl) (by kernel_rfl) ?_;repeat ((first|(first|refine Zb (v:=?_) rfl rfl rfl ?_ ?_ |refine Zd (v:=?_) rfl rfl rfl ?_ ?_);rotate_left;·(intro _ _;go_simp;(try go_bits);(try with_reducible rfl))|refine Ze rfl rfl rfl ?_);(try simp only [py]))
       refine Zf rfl rfl (fun _ kq=>?_);go_simp;refine kq.out _ _ (.inl (by decide)) ?_;clear kq;(try simp only [py]);refine Zv ?_;clear C0 C1 C2 C3 D0 D1;go_wp2;go_roundw
       case rel=>exact ⟨j+1,(k:Int) - 1,by have:=au.out;omega,by have:=au.out;omega,rfl,aw,a3,(ae _ _ _ _).drew⟩
       case measure=>simp [intOf] <;> omega
namespace Pl
theorem Ykf {n k:Nat} {U:Mx} {d:Nat→Rat} (hk:k < n):utN U d n k=(d k - ZN (fun s=>U k s * utN U d n s) k) / U k k:=by
 rw [Zim hk,Zml,if_pos rfl,Zh (f:=fun s=>U k s * utN U d k s) (g:=fun s=>U k s * utN U d n s) fun s hs=>by rw [Zim (show s < k by omega),Zim (show s < n by omega)]]
theorem Ykg {n k:Nat} {U:Mx} {w:Nat→Rat} {q:Rat} (hk:k < n):Zjo (spV (U k) n) (qAt (Y7 n k w)) (k:Int) q (spV (U k) n).length=q - ZN (fun s=>U k s * w s) k:=by
 rw [Zmu,Ve (n:=k) (m:=n) (by omega) fun i h1 h2=>by
  by_cases e:i=k
  ·rw [if_pos e]
  ·rw [if_neg e,Zuu h2,if_neg (by omega)];grind]
 congr 1
 exact Zh fun s hs=>by rw [if_neg (by omega),Zuu (by omega),if_pos hs]
theorem Ykh {n k j:Nat} {L:Mx} {w:Nat→Rat} (hk:k+1+j=n):Zjo (spV (L k) n) (qAt (ZQ n (ltN n L w j))) (k:Int) (ltN n L w j k) (spV (L k) n).length=ltN n L w (j+1) k:=by
 rw [Zmu,Zdw,if_pos (show k=n - 1 - j by omega)]
 congr 1
 exact Zh fun s hs=>by
  by_cases e:s=k
  ·rw [if_pos e,if_pos e]
  ·rw [if_neg e,if_neg e,Yr hs]
theorem Ymm {n k j:Nat} {L:Mx} {w:Nat→Rat} (hk:k+1+j=n):(ZQ n (ltN n L w j)).set k (canF (ltN n L w (j+1) k))=ZQ n (ltN n L w (j+1)):=by
 rw [XT (by omega)];exact ZO fun i hi=>by
  by_cases e:i=k
  ·rw [if_pos e,e]
  ·rw [if_neg e,Zdw,if_neg (by omega)]
theorem Ybe {n k K:Nat} {w:Nat→Rat} (h:∀i,i < n→Sz K (w i)):RsL K (Y7 n k w):=fun i f hf=>by
 have hi:i < n:=by have:=(List.getElem?_eq_some_iff.1 hf).1;rw [Ws] at this;exact this
 have hp:=Zkh (h i hi)
 unfold Y7 at hf
 rw [YD hi] at hf
 injection hf with hf
 subst hf
 split
 ·exact (h i hi).rs
 ·exact (VL 1).mono hp
end Pl
def Zpm (V:World) (q:Rat) (s8:Value) (wx:World):Prop:=
 ∃(g:Nat) (f:RF) (A:Option Addr) (n c:Nat) (A':Option Addr) (n' c':Nat),s8= .pointer (some ⟨g,0,none⟩)∧V.heap.size≤g∧Bk wx g 46 [.bool f.num.neg,.slice A n c,.bool f.den.neg,.slice A' n' c']∧Zw wx (.agg #[.bool f.num.neg,.slice A n c,.bool f.den.neg,.slice A' n' c']) f∧f.q=q∧f.Sm∧Below V.heap.size V wx
theorem Zpm.mk {V w:World} {g:Nat} {f:RF} {q:Rat} {x y z u:Value} {A A':Option Addr} {n c n' c':Nat} (hB:Bk w g 46 [x,y,z,u]) (hm:Zw w (.agg #[.bool f.num.neg,.slice A n c,.bool f.den.neg,.slice A' n' c']) f) (hq:f.q=q) (hs:f.Sm) (hb:Below V.heap.size V w) (hg:V.heap.size≤g):
 Zpm V q (.pointer (some ⟨g,0,none⟩)) ((((w.setCell ⟨g,0,none⟩ (.bool f.num.neg)).setCell ⟨g,1,none⟩ (.slice A n c)).setCell ⟨g,2,none⟩ (.bool f.den.neg)).setCell ⟨g,3,none⟩ (.slice A' n' c')):=
 ⟨g,f,A,n,c,A',n',c',rfl,hg,hB.set4 _ _ _ _,hm.keep (hB.keep4 (by decide) _ _ _ _),hq,hs,ZI hb hg _ _ _ _⟩
theorem Zmx (gp off:Nat) (vc:Value) (n E:Nat) (A:Mx) (R C:Nat→Nat) (L U:Mx) (d:Nat→Rat) (w:World) (hF:Ylh w gp off n R C L U) (h2:Y1 w vc (ZQ n d)) (S:Zsg n E A R C L U) (hb:∀i,i < n→Sz (30 * E) (d i)) (hX:∀i,i < n→Sz E (solT n R C L U d i)):
 Calls Tryz.prog 148 #[.pointer (some ⟨gp,off,none⟩),vc] w fun o w'=>∃v',o= .returned v'∧ZU w.heap.size w' v' (ZQ n (solT n R C L U d))∧Below w.heap.size w w':=by
 obtain ⟨A0,c0,A1,c1,A2,c2,A3,c3,⟨k0,k1,k2,k3⟩,i0,i1,i2,i3⟩:=hF;obtain ⟨Ac,cc,rfl,b9,cq⟩:=h2.shape;rw [Zc] at h2 b9 ⊢;obtain ⟨cs,ct⟩:=i0.cap;obtain ⟨cu,cv⟩:=i1.cap;obtain ⟨cw,cx⟩:=i2.cap;obtain ⟨cy,cz⟩:=i3.cap;have K0:=JZ k0;have K1:=JZ k1;have K2:=JZ k2;have K3:=JZ k3;have I0:=JZ i0;have I1:=JZ i1;have I2:=JZ i2;have I3:=JZ i3;have H2:=JZ h2;have HS:=JZ S;have bh:=S.n7;have d0:=S.e1;have d1:=S.e2;obtain ⟨WW,T⟩:∃WW,WW=utN U (fun k=>d (C k)) n:=⟨_,rfl⟩;obtain ⟨LT,x⟩:∃LT,LT=ltN n L WW:=⟨_,rfl⟩;have bi:Hid (LT 0=WW):=JZ (by rw [x];rfl);have bj:Hid (∀k,k < n→WW k=(d (C k) - ZN (fun s=>U k s * WW s) k) / U k k):=JZ fun k hk=>by rw [T];exact Ykf hk
 have bk:Hid (∀i,i < n→Sz (29 * E) (WW i)):=JZ fun i hi=>by rw [T];exact S.wB hX i hi
 have au:Hid (∀j i,j≤n→i < n→Sz (29 * E) (LT j i)):=JZ fun j i hj hi=>by rw [x,T];exact S.tB hX j i hj hi
 have bl:Hid (∀j k,k+1+j=n→(ZQ n (LT j)).set k (canF (LT (j+1) k))=ZQ n (LT (j+1))):=JZ fun j k hk=>by rw [x];exact Ymm hk
 have bm:Hid (∀j k,k+1+j=n→Zjo (spV (L k) n) (qAt (ZQ n (LT j))) (k:Int) (LT j k) (spV (L k) n).length=LT (j+1) k):=JZ fun j k hk=>by rw [x];exact Ykh hk
 have bn:Hid (∀j k,k+1+j=n→LT (j+1) k=LT n k):=JZ fun j k hk=>by rw [x];exact (Zga (show k < n by omega) (by omega) (by omega)).trans (Zga (show k < n by omega) (by omega) (JY n)).symm
 have av:Hid (ZQ n (solT n R C L U d)=UI n n R (LT n)):=JZ (by rw [Zpe S.fac.ri,x,T];rfl);rw [av.out];have bo:=JZ hb;have aw:Hid (∀t,t < n→∀(k:Nat) (e:En),(spV (L t) n)[k]? =some e→e.f.Rs (29 * E)):=JZ fun t ht=>Zdu fun i hi=>(S.lB t i ht hi).mono (by omega)
 have bp:Hid (∀t,t < n→∀(k:Nat) (e:En),(spV (U t) n)[k]? =some e→e.f.Rs (29 * E)):=JZ fun t ht=>Zdu fun i hi=>(S.uB t i ht hi).mono (by omega)
 have bq:Hid (∀k,k < n→Sz (2 * E) (U k k)∧U k k≠0∧(spV (U k) n)[(spV (U k) n).length - 1]? =some ⟨(k:Int),canF (U k k)⟩):=JZ fun k hk=>⟨S.uB k k hk hk,S.fac.u1 k hk,Zuv hk (S.fac.u1 k hk) fun s h1 h2=>S.fac.u0 k s hk h2 h1⟩
 have a7:Hid (∀(M:Mx) (k J:Nat),J≤30 * E→J+(spV (M k) n).length * (2 * (29 * E)+1)≤34359738368):=JZ fun M k J hJ=>by
  have h1:=JS (2 * (29 * E)+1) (JW (Ua (f:=M k) n) bh);omega
 have d2:=XF n (by omega);have ad:=ZU.zeros w n (by unfold maxLen;omega);have ax:=Zi w (.cells (zfc n) 46);rw [← Zcd (w:=WW)] at ad;have br:=k0;clear i0 i1 i2 i3 h2 S T x hb hX av k0 k1 k2 k3;go_enter Tryz.func148,Tryz.ntmps148;go_wp2;clear br;generalize w.alloc (.cells (zfc n) 46)=W at *
 go_loopw [19] (fun i wr=>∃k:Nat,k≤n∧i= .int .i64 k∧ZU w.heap.size wr (.slice (some ⟨w.heap.size,0,none⟩) n n) (Y7 n k WW)∧Below w.heap.size w wr) (fun i _=>n - (intOf i).toNat)
 case atStart=>exact ⟨0,by omega,rfl,ad,ax⟩
 case round=>
  clear ad ax;obtain ⟨k,hk,rfl,hO,l⟩:=hrel;rcases JX k n with a | a
  ·obtain ⟨b1,o1,rfl,x1⟩:=I1.out.nat l a;have N:C k < n:=HS.out.fac.ci.1 k a;obtain ⟨bc,oc,A4,n4,c4,A5,n5,c5,rfl,_,⟨u0,u1,u2,u3⟩,am⟩:=H2.out.elem l (ZE N);obtain ⟨b3,o3,A7,c7,rfl,x3,V⟩:=I3.out.vc l a;have y1:=Zk l K1.out;have y3:=Zk l K3.out;obtain ⟨ba,aa,Y⟩:=bq.out k a;have ae:=JZ Y;have a0:Hid (inR (Y7 n k WW).length (spV (U k) n)):=JZ (by rw [Ws];exact Zii (U k) n);have a1:Hid ((canF (d (C k))).Rs (30 * E)):=JZ (bo.out _ N).rs;have ay:=JZ (bp.out k a);have a2:Hid (RsL (29 * E) (Y7 n k WW)):=JZ (Ybe bk.out);have D:=JZ (a7.out U k (30 * E) (JY _));have B:Hid (Zjo (spV (U k) n) (qAt (Y7 n k WW)) (k:Int) (d (C k)) (spV (U k) n).length=d (C k) - ZN (fun s=>U k s * WW s) k):=JZ (Ykg a);have bs:Hid ((d (C k) - ZN (fun s=>U k s * WW s) k) / U k k=WW k):=JZ (bj.out k a).symm;have af:=JZ (Zce (w:=WW) a);have bt:(canF (U k k)).Sm:=ba.rs.sm (by omega);have bu:(canF (U k k)).q≠0:=(by rw [Zr];exact aa);have az:(Y7 n k WW)[k]? =some zeroF:=(by unfold Y7;rw [YD a,if_neg (by omega)]);have bv:(k:Int) < n:=(by omega);have bw:k < (Y7 n k WW).length:=(by rw [Ws];exact a);have b0:(C k:Int) < n:=(by omega);generalize co:d (C k)=dk at *;generalize U k k=uk at *;generalize C k=ck at *;generalize cp:dk - ZN (fun s=>U k s * WW s) k=rq at *;clear ba aa Y co cp
   go_upto_region 6 with (fail)
   go_cut [8] (fun s8 wx=>Zpm wr rq s8 wx)
   case first=>
    have C0:=Zl u0;have C1:=Zl u1;have C2:=Zl u2;have C3:=Zl u3;have D0:=Zl x1;have D1:=Zl x3;have D2:=Zl y1;have D3:=Zl y3;have c:=Zj wr;clear u0 u1 u2 u3 x1 x3 y1 y3;refine Xl 21 (.go 0 (.go 1 (.go 2 (.go 3 (.go 4 (.go 5 (.go 6 (.go 7 (.go 8 (.go 9 (.go 10 (.go 11 (.go 12 (.go 13 (.go 14 (.go 15 (.go 16 (.go 17 (.go 18 (.fork 19 (.go 20 (.go 21 .done)) 20 (.go 19 (.go 21 .done)))))))))))))))))))))) (by kernel_rfl) (by kernel_rfl) ?_;repeat ((first|(first|refine ZJ (v:=?_) rfl rfl rfl ?_ ?_ |refine ZW (v:=?_) rfl rfl rfl ?_ ?_);rotate_left;·(intro _ _;go_simp;(try go_bits);(try with_reducible rfl))|refine ZZ rfl rfl rfl ?_ |refine ZK rfl rfl rfl (by assumption) ?_);(try simp only [py]))
    refine XH rfl rfl (fun _ kq=>?_) (fun _ kq=>?_)
    ·go_simp;(with_reducible refine (Ux _ _ _ (canF dk) (spV (U k) n) (k:Int) (Y7 n k WW) (29 * E) (30 * E) _ (am.below c) (V.below c) (hO.below c).frs a0.out a1.out (by omega) ay.out a2.out (by omega) D.out (by omega)).mono ?_);rw [Zr];rintro _ wA ⟨vA,fA,rfl,eA,m,I,z,a5⟩;rw [B.out] at m;have O:fA.Sm:=z.sm D.out;have v:=Za c a5 c.size;obtain ⟨A6,n6,c6,B6,m6,d6,rfl,_,_⟩:=id eA;refine kq.out _ _ (.inr v) ?_;clear kq I z;(try simp only [py]);obtain ⟨WG,an,H,a4⟩:=YR wA (.bool false) (.slice none 0 0) (.bool false) (.slice none 0 0);refine Zt rfl rfl (fun _ kq=>?_);go_simp;have ag:=v.size;have p:=Za v a4 v.size;refine kq.out _ _ (.inr p) ?_;clear kq an;(try simp only [py]);have bx:=eA.below a4;obtain ⟨t0,t1,t2,t3⟩:=H.four;obtain ⟨f0,f1,f2,f3⟩:=H.fourF;refine Zt rfl rfl (fun _ kq=>?_);go_simp;refine kq.out _ _ (.inl (by decide)) ?_;clear kq;(try simp only [py]);refine Yf ?_;go_wp2_with fail
     go_meet
     exact Zpm.mk H bx m O p ag
    ·obtain ⟨WG,an,H,a4⟩:=YR wr.drew (.bool false) (.slice none 0 0) (.bool false) (.slice none 0 0);go_simp;have ag:=c.size;have p:=Za c a4 c.size;refine kq.out _ _ (.inr p) ?_;clear kq an;(try simp only [py])
     change Bk WG wr.heap.size 46 _ at H
     refine Zt rfl rfl (fun _ kq=>?_);go_simp;(with_reducible refine (Ux _ _ _ (canF dk) (spV (U k) n) (k:Int) (Y7 n k WW) (29 * E) (30 * E) _ (am.below p) (V.below p) (hO.below p).frs a0.out a1.out (by omega) ay.out a2.out (by omega) D.out (by omega)).mono ?_);rw [Zr];rintro _ wA ⟨vA,fA,rfl,eA,m,I,z,a5⟩;rw [B.out] at m;have O:fA.Sm:=z.sm D.out;have v:=Za p a5 p.size;obtain ⟨A6,n6,c6,B6,m6,d6,rfl,_,_⟩:=id eA;refine kq.out _ _ (.inr v) ?_;clear kq I z;(try simp only [py]);have hG:=H.later a5;obtain ⟨t0,t1,t2,t3⟩:=hG.four;obtain ⟨f0,f1,f2,f3⟩:=hG.fourF;refine Zt rfl rfl (fun _ kq=>?_);go_simp;refine kq.out _ _ (.inl (by decide)) ?_;clear kq;(try simp only [py]);refine Yf ?_;go_wp2_with fail
     go_meet
     exact Zpm.mk hG eA m O v ag
   case rest=>
    obtain ⟨gr,fr,Ar,nr,cr,d5,d7,d8,rfl,d9,hB,cj,cl,cm,bb⟩:=hcut;obtain rfl:=cl;have ca:=hO.below bb;have P:=Za l bb l.size;have a8:=P;clear V x1 x3 y1 y3 u0 u1 u2 u3 am hO l;obtain ⟨b4,o4,A8,c8,hA,x3,V⟩:=I3.out.vc P a;injection hA with hA;injection hA with hA1 hA2;subst hA1;subst hA2;have y3:=Zk P K3.out;obtain ⟨t0,t1,t2,t3⟩:=hB.four
    go_upto_region 7 with (fail)
    have C0:=Zl t0;have C1:=Zl t1;have C2:=Zl t2;have C3:=Zl t3;have D0:=Zl x3;have D1:=Zl y3;have c:=Zj wc;clear t0 t1 t2 t3 x3 y3;refine Zn 16 [0,1,2,3,4,5,6,7,8,9,10,11,12,13,14,15,16] (by kernel_rfl) (by kernel_rfl) ?_;repeat ((first|(first|refine Zb (v:=?_) rfl rfl rfl ?_ ?_ |refine Zd (v:=?_) rfl rfl rfl ?_ ?_);rotate_left;·(intro _ _;go_simp;(try go_bits);(try with_reducible rfl))|refine Ze rfl rfl rfl ?_);(try simp only [py]))
    refine Zf rfl rfl (fun _ kq=>?_);go_simp;(with_reducible refine (Zgc _ _ ⟨(k:Int),canF uk⟩ _ (V.below c) ae.out).mono ?_);rintro _ w6 ⟨v6,rfl,e6,cn⟩;have a3:=Za c cn c.size;refine kq.out _ _ (.inr a3) ?_;clear kq;(try simp only [py]);repeat ((first|(first|refine Zb (v:=?_) rfl rfl rfl ?_ ?_ |refine Zd (v:=?_) rfl rfl rfl ?_ ?_);rotate_left;·(intro _ _;go_simp;(try go_bits);(try with_reducible rfl))|refine Ze rfl rfl rfl ?_);(try simp only [py]))
    refine Zf rfl rfl (fun _ kq=>?_);go_simp;(with_reducible refine (Zay _ _ fr (canF uk) _ (cj.below a3) e6 cm bt bu).mono ?_);rw [Zr,bs.out];rintro _ w7 ⟨v7,rfl,e7,a6⟩;have r:=Za a3 a6 a3.size;obtain ⟨B9,l9,k9,ao,ap,aq,rfl,_,_⟩:=id e7;have F:=ca.below r;obtain ⟨_,_,_,_,⟨c0,c1,c2,c3⟩,⟨f0,f1,f2,f3⟩,_⟩:=F.at_ az;refine kq.out _ _ (.inr r) ?_;clear kq;(try simp only [py]);repeat ((first|(first|refine Zb (v:=?_) rfl rfl rfl ?_ ?_ |refine Zd (v:=?_) rfl rfl rfl ?_ ?_);rotate_left;·(intro _ _;go_simp;(try go_bits);(try with_reducible rfl))|refine Ze rfl rfl rfl ?_);(try simp only [py]))
    refine Zf rfl rfl (fun _ kq=>?_);go_simp;refine kq.out _ _ (.inl (by decide)) ?_;clear kq;(try simp only [py]);refine Zv ?_;clear C0 C1 C2 C3 D0 D1;obtain ⟨y,ar⟩:=F.set_ (k:=k) bw e7;rw [af.out] at y;have u:=Zx (Za a8 r a8.size) (JY _) (k * 4) (k * 4+1) (k * 4+2) (k * 4+3);go_wp2;go_roundw
    case rel=>exact ⟨k+1,by omega,by go_num,y,u _ _ _ _⟩
    case measure=>simp [intOf];omega
  ·obtain rfl:n=k:=by omega
   rw [Zez,← bi.out] at hO;have ah:=ZU.zeros wr n (by unfold maxLen;omega);have ai:=Zi wr (.cells (zfc n) 46);rw [← Zkx (X:=LT n) HS.out.fac.ri] at ah;have b5:=hO.below ai;have cb:0 < n→w.heap.size < wr.heap.size:=fun hp=>by
    obtain ⟨g,_,e,_,h,_⟩:=hO.shape (by rw [Zc];exact hp);injection e with e;injection e with e;injection e with e;omega
   have a9:=Za l ai l.size;have cd:=l.size;clear hO l;go_wp2;generalize wr.heap.size=gx at *;generalize wr.alloc (.cells (zfc n) 46)=W2 at *
   go_loopw [10] (fun i wx=>∃(j:Nat) (kz:Int),j≤n∧kz=(n:Int) - 1 - j∧i= .int .i64 kz∧ZU w.heap.size wx (.slice (some ⟨w.heap.size,0,none⟩) n n) (ZQ n (LT j))∧ZU gx wx (.slice (some ⟨gx,0,none⟩) n n) (UI n j R (LT n))∧Below w.heap.size w wx) (fun i _=>(intOf i+1).toNat)
   case atStart=>exact ⟨0,(n:Int) - 1,by omega,by omega,rfl,b5,ah,a9⟩
   case round=>
    clear b5 ah a9 ai;obtain ⟨j,kz,hj,bd,rfl,hO,hx,l⟩:=hrel;rcases Int.lt_or_le kz 0 with hneg | hpos
    ·obtain rfl:n=j:=by omega
     go_wp2;go_ret;exact ⟨_,rfl,hx.monoB cd,l⟩
    ·obtain ⟨k,rfl⟩:=JT hpos;have G:k+1+j=n:=(by omega);have a:k < n:=(by omega);have d3:=cb (by omega);obtain ⟨b2,o2,A4,c4,rfl,x0,be⟩:=I2.out.vc l a;have y2:=Zk l K2.out;have a0:Hid (inR (ZQ n (LT j)).length (spV (L k) n)):=JZ (by rw [Zc];exact Zii (L k) n);have a1:Hid ((canF (LT j k)).Rs (29 * E)):=JZ (au.out j k hj a).rs;have ce:=JZ (aw.out k a);have a2:Hid (RsL (29 * E) (ZQ n (LT j))):=JZ (Vv fun i hi=>au.out j i hj hi);have D:=JZ (a7.out L k (29 * E) (by omega));have B:=JZ (bm.out j k G);have cf:=JZ (bl.out j k G);have aj:(ZQ n (LT j))[k]? =some (canF (LT j k)):=ZE a;have af:Hid ((UI n j R (LT n)).set (R k) (canF (LT (j+1) k))=UI n (j+1) R (LT n)):=JZ (by rw [bn.out j k G];exact Zky HS.out.fac.ri G);have N:R k < n:=HS.out.fac.ri.1 k a;have bv:(k:Int) < n:=(by omega);have d4:=JZ bd;have b6:=JZ G;clear bd G;obtain ⟨bz,oz,A5,n5,c5,A6,n6,c6,hA,_,⟨t0,t1,t2,t3⟩,Z⟩:=hO.frs.elem (JR _ _) aj;injection hA with hA;injection hA with hA1 hA2;subst hA1;subst hA2;simp only [Nat.zero_add] at t0 t1 t2 t3;generalize LT j k=zk at *;generalize bg:LT (j+1) k=K at *;have cg:=JZ bg;clear hpos bg
     go_upto_region 13 with (fail)
     have C0:=Zl t0;have C1:=Zl t1;have C2:=Zl t2;have C3:=Zl t3;have D0:=Zl x0;have D1:=Zl y2;have c:=Zj wr;clear t0 t1 t2 t3 x0 y2;refine Zn 17 [0,1,2,3,4,5,6,7,8,9,10,11,12,13,14,15,16,17] (by kernel_rfl) (by kernel_rfl) ?_;repeat ((first|(first|refine Zb (v:=?_) rfl rfl rfl ?_ ?_ |refine Zd (v:=?_) rfl rfl rfl ?_ ?_);rotate_left;·(intro _ _;go_simp;(try go_bits);(try with_reducible rfl))|refine Ze rfl rfl rfl ?_);(try simp only [py]))
     refine Zf rfl rfl (fun _ kq=>?_);go_simp;(with_reducible refine (Ux _ _ _ (canF zk) (spV (L k) n) (k:Int) (ZQ n (LT j)) (29 * E) (29 * E) _ (Z.below c) (be.below c) (hO.below c).frs a0.out a1.out (by omega) ce.out a2.out (by omega) D.out (by omega)).mono ?_);rw [Zr];rintro _ w7 ⟨v7,fA,rfl,e7,m,I,z,a6⟩;have r:=Za c a6 c.size;rw [B.out] at m;have ch:fA=canF K:=(by rcases I with h | h;rotate_left;exact h.trans (by rw [m]);rw [h,Zr] at m;rw [h,m]);subst ch;obtain ⟨B9,l9,k9,ao,ap,aq,rfl,_,_⟩:=id e7;have F:=hO.below r;obtain ⟨_,_,_,_,⟨c0,c1,c2,c3⟩,⟨f0,f1,f2,f3⟩,_⟩:=F.at_ aj;clear m I z;refine kq.out _ _ (.inr r) ?_;clear kq;(try simp only [py]);repeat ((first|(first|refine Zb (v:=?_) rfl rfl rfl ?_ ?_ |refine Zd (v:=?_) rfl rfl rfl ?_ ?_);rotate_left;·(intro _ _;go_simp;(try go_bits);(try with_reducible rfl))|refine Ze rfl rfl rfl ?_);(try simp only [py]))
     refine Zf rfl rfl (fun _ kq=>?_);go_simp;refine kq.out _ _ (.inl (by decide)) ?_;clear kq;(try simp only [py]);refine Zv ?_;clear C0 C1 C2 C3 D0 D1;obtain ⟨y,ar⟩:=F.set_ (k:=k) (by rw [Zc];exact a) e7;rw [cf.out] at y;have ak:=(hx.below r).others YC (ar.keep (by decide)) (fun b hb e=>by simp [Value.ownBlock] at hb;injection e with e;omega);have u:=Zx (Za l r l.size) (JY _) (k * 4) (k * 4+1) (k * 4+2) (k * 4+3) (.bool (canF K).num.neg) (.slice B9 l9 k9) (.bool (canF K).den.neg) (.slice ao ap aq);have b7:(ZQ n (LT (j+1)))[k]? =some (canF K):=(by rw [← cg.out];exact ZE a);clear hO F hx l c r e7 a6 c0 c1 c2 c3 f0 f1 f2 f3 Z ar be aj;generalize ((((w7.setCell ⟨w.heap.size,k * 4,none⟩ (.bool (canF K).num.neg)).setCell ⟨w.heap.size,k * 4+1,none⟩ (.slice B9 l9 k9)).setCell ⟨w.heap.size,k * 4+2,none⟩ (.bool (canF K).den.neg)).setCell ⟨w.heap.size,k * 4+3,none⟩ (.slice ao ap aq))=W8 at *;obtain ⟨b1,o1,rfl,x1⟩:=I0.out.nat u a;have y1:=Zk u K0.out;obtain ⟨bz,oz,A8,n8,c8,A9,n9,c9,hA,_,⟨t0,t1,t2,t3⟩,Z⟩:=y.frs.elem (JR _ _) b7;injection hA with hA;injection hA with hA1 hA2;subst hA1;subst hA2;simp only [Nat.zero_add] at t0 t1 t2 t3;obtain ⟨rf,bf⟩:=ZH (fs:=UI n j R (LT n)) (i:=R k) (by rw [VM];exact N);obtain ⟨ab,ac⟩:=ak.set_ (k:=R k) (by rw [VM];exact N) Z;rw [af.out] at ab;have b8:=y.others (g:=some gx) YC (ac.keep (by decide)) (fun b hb e=>by simp [Value.ownBlock] at hb;injection e with e;omega);have al:=Zx u (show w.heap.size≤gx by omega) (R k * 4) (R k * 4+1) (R k * 4+2) (R k * 4+3);obtain ⟨_,_,_,_,⟨c0,c1,c2,c3⟩,⟨f0,f1,f2,f3⟩,_⟩:=ak.at_ bf;generalize R k=ck at *;have b0:(ck:Int) < n:=(by omega);clear bf ak y Z ac
     go_upto_region 14 with (fail)
     have C0:=Zl t0;have C1:=Zl t1;have C2:=Zl t2;have C3:=Zl t3;have D0:=Zl x1;have D1:=Zl y1;have c:=Zj W8;clear t0 t1 t2 t3 x1 y1;refine Zn 13 [0,1,2,3,4,5,6,7,8,9,10,11,12,13] (by kernel_rfl) (by kernel_rfl) ?_;repeat ((first|(first|refine Zb (v:=?_) rfl rfl rfl ?_ ?_ |refine Zd (v:=?_) rfl rfl rfl ?_ ?_);rotate_left;·(intro _ _;go_simp;(try go_bits);(try with_reducible rfl))|refine Ze rfl rfl rfl ?_);(try simp only [py]))
     refine Zf rfl rfl (fun _ kq=>?_);go_simp;refine kq.out _ _ (.inl (by decide)) ?_;clear kq;(try simp only [py]);refine Zv ?_;clear C0 C1 C2 C3 D0 D1;go_wp2;go_roundw
     case rel=>exact ⟨j+1,(k:Int) - 1,by have:=b6.out;omega,by have:=b6.out;omega,rfl,b8,ab,(al _ _ _ _).drew⟩
     case measure=>simp [intOf] <;> omega
end Go.Proofs.YtgbhebappffbdaaGreat
