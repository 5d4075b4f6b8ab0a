/- Lemmas of the claim; no condition. -/
import Derived.Test.YtobadipflggkiaaGreatW11
set_option linter.all false
set_option maxRecDepth 100000
set_option maxHeartbeats 40000000
namespace Go.Proofs.YtobadipflggkiaaGreat
open Go.RowKit
open Pl Tryz
attribute [local go_sem ↓] Go.wp_at_zero Go.wp_at_succ
section
def Zqf(P:Nat->Prop)(w w':World):Prop:=w.heap.size<=w'.heap.size/\∀b,b<w.heap.size->¬P b->w'.heap[b]? =w.heap[b]?
def Zqf.trans{P:Nat->Prop}{a b c:World}(h:Zqf P a b)(k:Zqf P b c):Zqf P a c:=⟨JW h.1 k.1,λx hx hne=>(k.2 x (je hx h.1) hne).trans (h.2 x hx hne)⟩
def Zqf.of_below{P:Nat->Prop}{w w':World}(h:Below w.heap.size w w'):Zqf P w w':=⟨h.size,λb hb _=>h.block b hb⟩
def Zqf.of_others{P:Nat->Prop}{g:Nat}{w w':World}(h:ZA (some g) w w')(hp:g<w.heap.size->P g):Zqf P w w':=⟨h.1,λb hb hn=>h.2 b hb λe=>by injection e with e;subst e;exact hn (hp hb)⟩
def Zqf.below{P:Nat->Prop}{w w' w2:World}(h:Zqf P w w')(hb:Below w'.heap.size w' w2):Zqf P w w2:=h.trans (Zqf.of_below hb)
namespace Pl
def Tdy(f:RF)(q:Rat):Prop:=f=canF q\/(f=zeroF/\q=0)
def Tdy.q{f:RF}{q:Rat}(h:Tdy f q):f.q=q:=by
 rcases h with rfl|⟨rfl,rfl⟩
 ·exact Zv _
 ·exact zeroF_q
def Tdy.rs{f:RF}{q:Rat}{J:Nat}(h:Tdy f q)(hs:Sz J q):f.Rs J:=by
 rcases h with rfl|⟨rfl,rfl⟩
 ·exact hs.rs
 ·exact(Ut 1).mono (Zkd hs)
def Tdy.len{f:RF}{q:Rat}(h:Tdy f q):0<f.num.ds.length↔q≠0:=by
 rcases h with rfl|⟨rfl,rfl⟩
 ·show 0< (Zp q.num.natAbs).length↔q≠0;by_cases e:q=0
  ·subst e;rw[show(0:Rat).num.natAbs=0 from rfl,digs_zero];simp
  ·have h1:q.num.natAbs≠0:=by
    intro h;exact e (BC.1 (Int.natAbs_eq_zero.1 h))
   constructor
   ·exact λ_=>e
   ·intro _;rcases JV (Zp q.num.natAbs).length with h2|h2
    ·exfalso;have h3:=kW h2;have h4:=Zn q.num.natAbs;rw[h3]at h4;exact h1 (by rw[<-h4];rfl)
    ·exact h2
 ·simp[zeroF,canI_zero]
def elQ(rp cp:List Int)(a:Mx)(r c i j:Nat):Mx:=λs k=>if(s<i\/(s=i/\k<j))/\rp.getD s 0<0/\cp.getD k 0<0 then a s k - a s c/a r c*a r k else a s k
def Znt(rp:List Int)(a:Mx)(r c i:Nat):Nat->Rat:=λs=>if s<i/\rp.getD s 0<0 then a s c/a r c else 0
section
variable {rp cp:List Int} {a:Mx} {r c i j:Nat}
def elQ_start:elQ rp cp a r c 0 0=a:=by
 funext s k;unfold elQ;rw[jA Qk]
def Yds{s k:Nat}(h:¬rp.getD s 0<0):elQ rp cp a r c i j s k=a s k:=by unfold elQ;rw[jA λe=>h e.2.1]
def Zwa{n s k:Nat}(hn:¬rp.getD i 0<0\/a i c=0)(hk:k<n):elQ rp cp a r c i 0 s k=elQ rp cp a r c (i+1) 0 s k:=by
 unfold elQ;by_cases e:s=i
 ·subst e;rw[jA Qk];by_cases e2:rp.getD s 0<0/\cp.getD k 0<0
  ·rw[jB ⟨Qk,e2⟩];rcases hn with hn|hn
   ·exact absurd e2.1 hn
   ·rw[hn,show(0:Rat)/a r c=0 by rw[vE];grind];grind
  ·rw[jA λh=>e2 h.2]
 ·by_cases e2:(s<i\/(s=i/\k<0))/\rp.getD s 0<0/\cp.getD k 0<0
  ·rw[jB e2,jB ⟨Qk,e2.2⟩]
  ·rw[jA e2,jA λh=>e2 ⟨Qk,h.2⟩]
def Yja{n s k:Nat}(hk:k<n):elQ rp cp a r c i n s k=elQ rp cp a r c (i+1) 0 s k:=by
 unfold elQ;by_cases e2:(s<i\/(s=i/\k<n))/\rp.getD s 0<0/\cp.getD k 0<0
 ·rw[jB e2,jB ⟨Qk,e2.2⟩]
 ·rw[jA e2,jA λh=>e2 ⟨Qk,h.2⟩]
def Zwb{s k:Nat}(hn:¬cp.getD j 0<0\/a r j=0):elQ rp cp a r c i j s k=elQ rp cp a r c i (j+1) s k:=by
 unfold elQ;by_cases e:s=i/\k=j
 ·obtain⟨rfl,rfl⟩:=e;rw[jA Qk];by_cases e2:rp.getD s 0<0/\cp.getD k 0<0
  ·rw[jB ⟨Qk,e2⟩];rcases hn with hn|hn
   ·exact absurd e2.2 hn
   ·rw[hn];grind
  ·rw[jA λh=>e2 h.2]
 ·by_cases e2:(s<i\/(s=i/\k<j))/\rp.getD s 0<0/\cp.getD k 0<0
  ·rw[jB e2,jB ⟨Qk,e2.2⟩]
  ·rw[jA e2,jA λh=>e2 ⟨Qk,h.2⟩]
def Yjb{s k:Nat}(h1:rp.getD i 0<0)(h2:cp.getD j 0<0):elQ rp cp a r c i (j+1) s k=if s=i/\k=j then a i j - a i c/a r c*a r j else elQ rp cp a r c i j s k:=by
 unfold elQ;by_cases e:s=i/\k=j
 ·rw[jB e];obtain⟨rfl,rfl⟩:=e;rw[jB ⟨Qk,h1,h2⟩]
 ·rw[jA e];by_cases e2:(s<i\/(s=i/\k<j))/\rp.getD s 0<0/\cp.getD k 0<0
  ·rw[jB e2,jB ⟨Qk,e2.2⟩]
  ·rw[jA e2,jA λh=>e2 ⟨Qk,h.2⟩]
def elQ_at:elQ rp cp a r c i j i j=a i j:=by unfold elQ;rw[jA Qk]
def Yoo{k:Nat}:elQ rp cp a r c i 0 i k=a i k:=by unfold elQ;rw[jA Qk]
def Zqg(hn:¬rp.getD i 0<0\/a i c=0)(s:Nat):Znt rp a r c i s=Znt rp a r c (i+1) s:=by
 unfold Znt;by_cases e:s=i
 ·subst e;rw[jA Qk];by_cases e2:rp.getD s 0<0
  ·rw[jB ⟨Qk,e2⟩];rcases hn with hn|hn
   ·exact absurd e2 hn
   ·rw[hn,vE];grind
  ·rw[jA λh=>e2 h.2]
 ·by_cases e2:s<i/\rp.getD s 0<0
  ·rw[jB e2,jB ⟨Qk,e2.2⟩]
  ·rw[jA e2,jA λh=>e2 ⟨Qk,h.2⟩]
def Ydt(h1:rp.getD i 0<0)(s:Nat):Znt rp a r c (i+1) s=if s=i then a i c/a r c else Znt rp a r c i s:=by
 unfold Znt;by_cases e:s=i
 ·subst e;rw[jB rfl,jB ⟨Qk,h1⟩]
 ·rw[jA e];by_cases e2:s<i/\rp.getD s 0<0
  ·rw[jB e2,jB ⟨Qk,e2.2⟩]
  ·rw[jA e2,jA λh=>e2 ⟨Qk,h.2⟩]
end
end Pl
def Zdu(V:World)(f:RF)(s9:Value)(wx:World):Prop:=
 ∃(g:Nat) (A:Option Addr) (n c:Nat) (A':Option Addr) (n' c':Nat),s9= .pointer (some ⟨g,0,none⟩)/\V.heap.size<=g/\Bk wx g 49 [.bool f.num.neg,.slice A n c,.bool f.den.neg,.slice A' n' c']/\Zx wx (.agg #[.bool f.num.neg,.slice A n c,.bool f.den.neg,.slice A' n' c']) f/\Below V.heap.size V wx
def Zdu.mk{V w:World}{g:Nat}{f:RF}{x y z u:Value}{A A':Option Addr}{n c n' c':Nat}(hB:Bk w g 49 [x,y,z,u])(hm:Zx w (.agg #[.bool f.num.neg,.slice A n c,.bool f.den.neg,.slice A' n' c']) f)(hb:Below V.heap.size V w)(hg:V.heap.size<=g):
 Zdu V f (.pointer (some ⟨g,0,none⟩)) ((((w.setCell ⟨g,0,none⟩ (.bool f.num.neg)).setCell ⟨g,1,none⟩ (.slice A n c)).setCell ⟨g,2,none⟩ (.bool f.den.neg)).setCell ⟨g,3,none⟩ (.slice A' n' c')):=
 ⟨g,A,n,c,A',n',c',rfl,hg,hB.set4 _ _ _ _,hm.keep (hB.keep4 Ql _ _ _ _),ZE hb hg _ _ _ _⟩
def Zrc(base:Nat)(w:World)(ge n:Nat)(va vr vc:Value)(G D:Nat->Nat)(rp cp:List Int)(Q:Mx)(f:Nat->Rat)(J:Nat)(vf:Value)(wr:World):Prop:=
 ∃(M:Nat->Nat->RF) (H:Nat->RF),ElM base wr ge n va vr vc M G D rp cp/\(∀i j,i<n->j<n->Tdy (M i j) (Q i j))/\Yy w.heap.size wr vf (rfL n H)/\(∀i,i<n->(H i).q=f i/\(H i).Rs J)/\
  Zf 49 w wr/\Zqf (λb=>∃i,i<n/\b=G i) w wr/\Below base w wr
def Zrc.below{base:Nat}{w wr w':World}{ge n:Nat}{va vr vc:Value}{G D:Nat->Nat}{rp cp:List Int}{Q:Mx}{f:Nat->Rat}{J:Nat}{vf:Value}(h:Zrc base w ge n va vr vc G D rp cp Q f J vf wr)(hb:Below wr.heap.size wr w')(hw:base<=w.heap.size):Zrc base w ge n va vr vc G D rp cp Q f J vf w':=by
 obtain⟨M,H,h1,h2,h3,h4,h5,h6,h7⟩:=h;exact⟨M,H,h1.below hb,h2,h3.below hb,h4,h5.trans (Zf.of_below hb),h6.below hb,Za h7 hb (JW hw h6.1)⟩
def Zrc.congr{base:Nat}{w wr:World}{ge n:Nat}{va vr vc:Value}{G D:Nat->Nat}{rp cp:List Int}{Q Q':Mx}{f f':Nat->Rat}{J:Nat}{vf:Value}(h:Zrc base w ge n va vr vc G D rp cp Q f J vf wr)(hq:∀i j,i<n->j<n->Q i j=Q' i j)(hf:∀i,i<n->f i=f' i):Zrc base w ge n va vr vc G D rp cp Q' f' J vf wr:=by
 obtain⟨M,H,h1,h2,h3,h4,h5⟩:=h;exact⟨M,H,h1,λi j hi hj=>by rw[<-hq i j hi hj];exact h2 i j hi hj,h3,λi hi=>by rw[<-hf i hi];exact h4 i hi,h5⟩
def Zrc.setF{base:Nat}{w wr:World}{ge n:Nat}{va vr vc:Value}{G D:Nat->Nat}{rp cp:List Int}{Q:Mx}{f f':Nat->Rat}{J cf:Nat}(h:Zrc base w ge n va vr vc G D rp cp Q f J (.slice (some ⟨w.heap.size,0,none⟩) n cf) wr)(hw:base<=w.heap.size)(hG:∀i,i<n->G i<w.heap.size){i:Nat}(hi:i<n){x y z u:Value}{q:RF}(hq:Zx wr (.agg #[x,y,z,u]) q)(hr:q.Rs J)(hf:∀s,s<n->f' s=if s=i then q.q else f s):
 Zrc base w ge n va vr vc G D rp cp Q f' J (.slice (some ⟨w.heap.size,0,none⟩) n cf) ((((wr.setCell ⟨w.heap.size,i*4,none⟩ x).setCell ⟨w.heap.size,i*4+1,none⟩ y).setCell ⟨w.heap.size,i*4+2,none⟩ z).setCell ⟨w.heap.size,i*4+3,none⟩ u):=by
 obtain⟨M,H,⟨e1,e2,e3,e4,e5⟩,h2,h3,h4,h5,h6,h7⟩:=h;obtain⟨g1,g2⟩:=h3.set_ (k:=i) (by rw[Zw];exact hi) hq;rw[Uy hi]at g1;have ho:=Yw (w:=wr) (g:=w.heap.size) (i:=i*4) (j:=i*4+1) (k:=i*4+2) (l:=i*4+3) (x:=x) (y:=y) (z:=z) (u:=u);refine⟨M,λs=>if s=i then q else H s,⟨g2.bk e1 Ql,e2.far ho g2 λr hr=>by have:=hG r hr;omega,e3.but g2 Ql,e4.but g2 Ql,e5⟩,h2,g1,λs hs=>?_,h5.trans g2,⟨JW h6.1 ho.1,λb hb hn=>(ho.2 b (je hb h6.1) λe=>by injection e with e;omega).trans (h6.2 b hb hn)⟩,ZC h7 hw _ _ _ _ _ _ _ _⟩;rw[hf s hs];by_cases e:s=i
 ·simp only[jB e];exact⟨trivial,hr⟩
 ·simp only[jA e];exact h4 s hs
def Zrc.setM{base:Nat}{w wr:World}{ge n:Nat}{va vr vc:Value}{G D:Nat->Nat}{rp cp:List Int}{Q Q':Mx}{f:Nat->Rat}{J cf:Nat}(h:Zrc base w ge n va vr vc G D rp cp Q f J (.slice (some ⟨w.heap.size,0,none⟩) n cf) wr)(hG:∀i,i<n->base<=G i/\G i<w.heap.size){i j:Nat}(hi:i<n)(hj:j<n){x y z u:Value}{q:Rat}(hq:Zx wr (.agg #[x,y,z,u]) (canF q))(hf:∀s k,s<n->k<n->Q' s k=if s=i/\k=j then q else Q s k):
 Zrc base w ge n va vr vc G D rp cp Q' f J (.slice (some ⟨w.heap.size,0,none⟩) n cf) ((((wr.setCell ⟨G i,j*4,none⟩ x).setCell ⟨G i,j*4+1,none⟩ y).setCell ⟨G i,j*4+2,none⟩ z).setCell ⟨G i,j*4+3,none⟩ u):=by
 obtain⟨M,H,⟨e1,e2,e3,e4,e5⟩,h2,h3,h4,h5,h6,h7⟩:=h;obtain⟨g1,g2⟩:=e2.set_ hi hj hq;have ho:=Yw (w:=wr) (g:=G i) (i:=j*4) (j:=j*4+1) (k:=j*4+2) (l:=j*4+3) (x:=x) (y:=y) (z:=z) (u:=u);have hg:=hG i hi;refine⟨_,H,⟨g2.bk e1 Ql,g1,e3.but g2 Ql,e4.but g2 Ql,e5⟩,λs k hs hk=>?_,h3.others ho (g2.keep Ql) (λb hb e=>by simp[Value.ownBlock]at hb;injection e with e;omega),h4,h5.trans g2,h6.trans (Zqf.of_others ho λ_=>⟨i,hi,rfl⟩),ZC h7 hg.1 _ _ _ _ _ _ _ _⟩;rw[hf s k hs hk];unfold Yob;by_cases e:s=i/\k=j
 ·rw[jB e,jB e];exact .inl rfl
 ·rw[jA e,jA e];exact h2 s k hs hk
def Yrx(base:Nat)(w:World)(ge n:Nat)(va vr vc:Value)(G D:Nat->Nat)(rp cp:List Int)(Q:Mx)(f:Nat->Rat)(J:Nat)(o:Ending)(w':World):Prop:=
 ∃v',o= .returned v'/\Zrc base w ge n va vr vc G D rp cp Q f J v' w'
def Zng(base ge n:Nat)(va vr vc:Value)(M0:Nat->Nat->RF)(G D:Nat->Nat)(rp cp:List Int)(a:Mx)(r c J:Nat)(w:World)(h:ElM base w ge n va vr vc M0 G D rp cp)(ht:∀i j,i<n->j<n->Tdy (M0 i j) (a i j))(hn:n<=7)(hr:r<n)(hc:c<n)(hrp:¬rp.getD r 0<0)(hp:a r c≠0)(hJ:∀i j,i<n->j<n->Sz J (a i j))(hJ2:J<=4000000)(hb:base<=w.heap.size):
 Calls prog 133 #[.pointer (some ⟨ge,0,none⟩),.int .i64 (r:Int),.int .i64 (c:Int)] w (Yrx base w ge n va vr vc G D rp cp (elQ rp cp a r c n 0) (Znt rp a r c n) (2*J)):=by
 have b:0<n:=Qk
 have cl:1<=J:=Zkd (hJ r c hr hc);have al:Hid (∀i,i<n->base<=G i/\G i<w.heap.size):=JZ λi hi=>by obtain⟨h1,h2,_,_⟩:=h.2.1.lt hi b;exact⟨h1,h2⟩
 obtain⟨b0,b1,b2,b3⟩:=h.1.four;have HJ:=JZ hJ;have HP:=JZ hp;have br:=Vo n Qk;have am:=Yy.zeros w n (by unfold maxLen;omega);have O:=Ze w (.cells (zfc n) 49);have b8:=h.1.later O;obtain⟨c7,_,_,_⟩:=b8.four;have b9:List.replicate n zeroF=rfL n λ_=>zeroF:=by
  refine jV λi=>?_
  rcases JX i n with e|e
  ·rw[YE e];simp[e]
  ·rw[JU (by simp;exact e),JU (by rw[Zw];exact e)]
 rw[b9]at am;have a3:Zrc base w ge n va vr vc G D rp cp (elQ rp cp a r c 0 0) (Znt rp a r c 0) (2*J) (.slice (some ⟨w.heap.size,0,none⟩) n n) (w.alloc (.cells (zfc n) 49)):=
  ⟨M0,λ_=>zeroF,h.below O,λi j hi hj=>by rw[elQ_start];exact ht i j hi hj,am,λi _=>⟨by unfold Znt;rw[jA Qk,zeroF_q],(Ut 1).mono Qk⟩,Zf.of_below O,Zqf.of_below O,O.mono hb⟩
 obtain⟨go,co,rfl,_,_,cj,ck,_⟩:=h.2.1.outer b;obtain⟨gr,cr,rfl,_,_,c8,cv⟩:=h.2.2.1.shape (by rw[h.2.2.2.2.1];exact b);obtain⟨gc,cc,rfl,_,_,c9,cw⟩:=h.2.2.2.1.shape (by rw[h.2.2.2.2.2];exact b);have ba:Hid (¬rp.getD r 0<0):=JZ hrp;have an:=JZ h.2.2.2.2.1;have ao:=JZ h.2.2.2.2.2;rw[an.out]at c8 b2 a3;rw[ao.out]at c9 b3 a3;rw[an.out,ao.out];have cn:(c:Int)<n:=Qk
 have cq:(r:Int)<n:=Qk
 clear h ht hJ hp am b9 b8 hrp;go_enter func133,ntmps133;go_wp2;clear b0 b1 b2 b3 c7 br O;generalize w.alloc (.cells (zfc n) 49)=W0 at *
 go_loopw [21] (λx wr=>∃i:Nat,i<=n/\x= .int .i64 i/\Zrc base w ge n (.slice (some ⟨go,0,none⟩) n co) (.slice (some ⟨gr,0,none⟩) n cr) (.slice (some ⟨gc,0,none⟩) n cc) G D rp cp (elQ rp cp a r c i 0) (Znt rp a r c i) (2*J) (.slice (some ⟨w.heap.size,0,none⟩) n n) wr) (λx _=>n - (intOf x).toNat)
 case atStart=>exact⟨0,Qk,rfl,a3⟩
 case round=>
  clear a3;obtain⟨i,hi,rfl,hA⟩:=hrel;rcases JX i n with hil|hil
  ·have HA:=JZ hA;obtain⟨M,H,⟨hB,hM,hR,hC,_,_⟩,hT,hF,hH,Z,F,a0⟩:=hA;have cs:(i:Int)<n:=Qk;obtain⟨b0,b1,b2,b3⟩:=hB.four;obtain⟨zi,aa⟩:=XI (l:=rp) (i:=i) (by rw[an.out];exact hil);obtain⟨r0,_,_,_⟩:=hR.at_ aa;have K:=Ziv aa;by_cases hz:zi<0
   ·have ap:=hT i c hil hc;rw[Yoo]at ap;have a4:=JZ ap;have bs:=JZ hT;have U:Hid (rp.getD i 0<0):=JZ (by rw[K];exact hz);obtain⟨m1,_⟩:=hM.cellAt hil;obtain⟨A1,n1,c1,A2,n2,c2,⟨x0,x1,x2,x3⟩,o⟩:=hM.at_ hil hc;obtain⟨l1,l2,l3,l4⟩:=hM.lt hil b;unfold Zcz at m1;have V:qs (a i c)=0\/qs (a i c)=1\/qs (a i c)= -1:=(by have:=VY (a i c);omega);clear aa K Z F a0 hT hF hH hR hC ap;have HM:=JZ hM;have HB:=JZ hB;clear hM hB;by_cases C:qs (a i c)=0
    ·have a5:Hid (a i c=0):=JZ (Yg.1 C);go_wp2_with fail;refine(Zy _ (M i c) _ o).mono ?_;rw[a4.out.q,C];rintro _ w1 ⟨rfl,T⟩;have a6:=JZ (HA.out.below T hb);clear b0 b1 b2 b3 r0 m1 x0 x1 x2 x3 o V;go_wp2;go_roundw
     case rel=>exact⟨i+1,Qk,by go_num,a6.out.congr (λs k hs hk=>Zwa (.inr a5.out) hk) λs hs=>Zqg (.inr a5.out) s⟩
     case measure=>exact Qn
    ·have aq:(qs (a i c)==0)=false:=(by simpa using C);clear V C;go_wp2_with fail;refine(Zy _ (M i c) _ o).mono ?_;rw[a4.out.q];rintro _ w1 ⟨rfl,T⟩;have a6:=JZ (HA.out.below T hb);have P:=HM.out.below T;have bb:=HB.out.later T;clear b0 b1 b2 b3 r0 m1 x0 x1 x2 x3 o T;obtain⟨_,b1,_,_⟩:=bb.four;obtain⟨m1,_⟩:=P.cellAt hil;obtain⟨m2,_⟩:=P.cellAt hr;unfold Zcz at m1 m2;obtain⟨A1,n1,c1,A2,n2,c2,⟨x0,x1,x2,x3⟩,o⟩:=P.at_ hil hc;obtain⟨A3,n3,c3,A4,n4,c4,⟨y0,y1,y2,y3⟩,p⟩:=P.at_ hr hc;obtain⟨r1,r2,r3,r4⟩:=P.lt hr b;have ar:Hid (Tdy (M r c) (a r c)):=JZ (by have:=bs.out r c hr hc;rwa[Yds (by have:=ba.out;omega)]at this);obtain⟨q,hq⟩:∃q,q=a i c/a r c:=⟨_,rfl⟩;have HQ:=JZ hq;have bc:Hid ((M i c).q/ (M r c).q=q):=JZ (by rw[a4.out.q,ar.out.q,hq]);have a7:(M i c).Sm:=(a4.out.rs (HJ.out i c hil hc)).sm Qk;have a8:(M r c).Sm:=(ar.out.rs (HJ.out r c hr hc)).sm Qk;have bd:(M r c).q≠0:=(by rw[ar.out.q];exact HP.out);have au:Hid (Sz (2*J) q):=JZ (by rw[hq];exact(Zbf (HJ.out i c hil hc) (HJ.out r c hr hc)).mono Qk);clear hq
     go_upto_region 6 with(fail)
     clear aq
     go_cut [9] (λs9 wx=>Zdu w1 (canF q) s9 wx)
     case first=>
      have C0:=Zm x0;have C1:=Zm x1;have C2:=Zm x2;have C3:=Zm x3;have E0:=Zm y0;have E1:=Zm y1;have E2:=Zm y2;have E3:=Zm y3;have D0:=Zm b1;have D1:=Zm m1;have D2:=Zm m2;have d:=Zc w1;clear x0 x1 x2 x3 y0 y1 y2 y3 b1 m1 m2;refine Xk 25 (.go 0 (.go 1 (.go 2 (.go 3 (.go 4 (.go 5 (.go 6 (.go 7 (.go 8 (.go 9 (.go 10 (.go 11 (.go 12 (.go 13 (.go 14 (.go 15 (.go 16 (.go 17 (.go 18 (.go 19 (.fork 20 (.go 21 (.go 22 (.go 23 (.go 24 (.go 25 (.go 26 .done)))))) 24 (.go 20 (.go 21 (.go 22 (.go 23 (.go 25 (.go 26 .done))))))))))))))))))))))))))) Qm Qm ?_;refine Qf ?_
      refine Uc rfl rfl (λ_ kq=>?_) (λ_ kq=>?_)
      ·go_simp;(with_reducible refine(XN _ _ (M i c) (M r c) _ (o.below d) (p.below d) a7 a8 bd).mono ?_);rw[bc.out];rintro _ wA ⟨vA,rfl,eA,ah⟩;have I:=Za d ah d.size;obtain⟨A6,n6,c6,B6,m6,d6,rfl,_,_⟩:=id eA;refine kq.out _ _ (.inr I) (Qg ?_);clear kq
       obtain⟨WG,b5,S,ab⟩:=Xp wA (.bool false) (.slice none 0 0) (.bool false) (.slice none 0 0);refine Qp λ_ kq=>?_;have av:=I.size;have E:=Za I ab I.size;refine kq.out _ _ (.inr E) (Qj ?_);clear kq b5;have bt:=eA.below ab;obtain⟨t0,t1,t2,t3⟩:=S.four;obtain⟨f0,f1,f2,f3⟩:=S.fourF;refine Qi ?_;refine Qi ?_;refine YQ ?_;go_wp2_with fail
       go_meet
       exact Zdu.mk S bt E av
      ·obtain⟨WG,b5,S,ab⟩:=Xp w1.drew (.bool false) (.slice none 0 0) (.bool false) (.slice none 0 0);go_simp;have av:=d.size;have E:=Za d ab d.size;refine kq.out _ _ (.inr E) (Qj ?_);clear kq b5
       change Bk WG w1.heap.size 49 _ at S
       refine Qp λ_ kq=>?_;(with_reducible refine(XN _ _ (M i c) (M r c) _ (o.below E) (p.below E) a7 a8 bd).mono ?_);rw[bc.out];rintro _ wA ⟨vA,rfl,eA,ah⟩;have I:=Za E ah E.size;obtain⟨A6,n6,c6,B6,m6,d6,rfl,_,_⟩:=id eA;refine kq.out _ _ (.inr I) (Qj ?_);clear kq;have hG:=S.later ah;refine Qf ?_
       obtain⟨t0,t1,t2,t3⟩:=hG.four;obtain⟨f0,f1,f2,f3⟩:=hG.fourF;refine Qi ?_;refine Qi ?_;refine YQ ?_;go_wp2_with fail
       go_meet
       exact Zdu.mk hG eA I av
     case rest=>
      obtain⟨gm,Am,nm,cm,ac,ad,ae,rfl,cx,A,m,bn⟩:=hcut;have be:=a6.out.below bn hb;have ct:w.heap.size<w1.heap.size:=by
       obtain⟨_,H1,_,_,ca,_⟩:=a6.out;obtain⟨g,_,e,_,h,_⟩:=ca.shape (by rw[Zw];exact b);injection e with e;injection e with e;injection e with e;omega
      clear x0 x1 x2 x3 y0 y1 y2 y3 b1 m1 m2 o p P bb bn;have X:=JZ be;obtain⟨M2,H2,_,_,b6,_⟩:=be;obtain⟨_,_,_,_,⟨c0,cb,cd,ce⟩,⟨f0,f1,f2,f3⟩,_⟩:=b6.at_ (YE (f:=H2) hil);obtain⟨_,bo⟩:=b6.set_ (k:=i) (by rw[Zw];exact hil) m;have aw:=X.out.setF hb (λs hs=>(al.out s hs).2) hil m au.out.rs (f':=Znt rp a r c (i+1)) (λs hs=>by rw[Ydt U.out,Zv,HQ.out]);have ai:=(Yw (w:=wc) (g:=w.heap.size) (i:=i*4) (j:=i*4+1) (k:=i*4+2) (l:=i*4+3) (x:= .bool (canF q).num.neg) (y:= .slice Am nm cm) (z:= .bool (canF q).den.neg) (u:= .slice ac ad ae)).bk A (by intro e;injection e with e;omega);have aj:=m.keep (bo.keep Ql);obtain⟨t0,t1,t2,t3⟩:=A.four;clear A m b6 bo
      go_upto_region 8 with(fail)
      clear t0 t1 t2 t3 c0 cb cd ce f0 f1 f2 f3;generalize((((wc.setCell ⟨w.heap.size,i*4,none⟩ (.bool (canF q).num.neg)).setCell ⟨w.heap.size,i*4+1,none⟩ (.slice Am nm cm)).setCell ⟨w.heap.size,i*4+2,none⟩ (.bool (canF q).den.neg)).setCell ⟨w.heap.size,i*4+3,none⟩ (.slice ac ad ae))=W3 at *;have b0:W3.cell? ⟨ge,0,none⟩=some (.int .i64 (n:Int)):=by
       obtain⟨_,_,hE,_⟩:=aw;exact hE.1.four.1
      go_wp2;clear b0
      go_loopw [78] (λx wr=>∃j:Nat,j<=n/\x= .int .i64 j/\Zrc base w ge n (.slice (some ⟨go,0,none⟩) n co) (.slice (some ⟨gr,0,none⟩) n cr) (.slice (some ⟨gc,0,none⟩) n cc) G D rp cp (elQ rp cp a r c i j) (Znt rp a r c (i+1)) (2*J) (.slice (some ⟨w.heap.size,0,none⟩) n n) wr/\Bk wr gm 49 [.bool (canF q).num.neg,.slice Am nm cm,.bool (canF q).den.neg,.slice ac ad ae]/\Zx wr (.agg #[.bool (canF q).num.neg,.slice Am nm cm,.bool (canF q).den.neg,.slice ac ad ae]) (canF q)) (λx _=>n - (intOf x).toNat)
      case atStart=>exact⟨0,Qk,rfl,aw,ai,aj⟩
      case round=>
       clear aw ai aj;obtain⟨j,hj,rfl,hA,A,m⟩:=hrel;rcases JX j n with hjl|hjl
       ·have ax:=JZ hA;obtain⟨M,H,⟨hB,hM,hR,hC,_,_⟩,hT,hF,hH,Z,F,a0⟩:=hA;have cu:(j:Int)<n:=Qk;obtain⟨b0,b1,b2,b3⟩:=hB.four;obtain⟨zj,af⟩:=XI (l:=cp) (i:=j) (by rw[ao.out];exact hjl);obtain⟨k0,_,_,_⟩:=hC.at_ af;have L:=Ziv af;have ay:=JZ A;have az:=JZ m;clear A m;by_cases b7:zj<0
        ·have b4:Hid (cp.getD j 0<0):=JZ (by rw[L];exact b7);have N:Hid (Tdy (M r j) (a r j)):=JZ (by have:=hT r j hr hjl;rwa[Yds (by have:=ba.out;omega)]at this);have ak:Hid (Tdy (M i j) (a i j)):=JZ (by have:=hT i j hil hjl;rwa[elQ_at]at this);obtain⟨m2,_⟩:=hM.cellAt hr;obtain⟨A3,n3,c3,A4,n4,c4,⟨y0,y1,y2,y3⟩,p⟩:=hM.at_ hr hjl;obtain⟨r1,r2,r3,r4⟩:=hM.lt hr b;unfold Zcz at m2;have HM:=JZ hM;have HB:=JZ hB;have V:qs (a r j)=0\/qs (a r j)=1\/qs (a r j)= -1:=(by have:=VY (a r j);omega);clear af L Z F a0 hT hF hH hR hC hM hB;by_cases C:qs (a r j)=0
         ·have a5:Hid (a r j=0):=JZ (Yg.1 C);go_wp2_with fail;refine(Zy _ (M r j) _ p).mono ?_;rw[N.out.q,C];rintro _ w2 ⟨rfl,B⟩;have X:=JZ (ax.out.below B hb);have bf:=ay.out.later B;have bg:=az.out.below B;clear b0 b1 b2 b3 k0 m2 y0 y1 y2 y3 p V;go_wp2;go_roundw
          case rel=>exact⟨j+1,Qk,by go_num,X.out.congr (λs k hs hk=>Zwb (.inr a5.out)) λs hs=>rfl,bf,bg⟩
          case measure=>exact Qn
         ·have aq:(qs (a r j) !=0)=true:=(by simpa using C);clear V C;go_wp2_with fail;refine(Zy _ (M r j) _ p).mono ?_;rw[N.out.q];rintro _ w2 ⟨rfl,B⟩;have X:=JZ (ax.out.below B hb);have A:=ay.out.later B;have m:=az.out.below B;have hM:=HM.out.below B;have hB:=HB.out.later B;clear b0 b1 b2 b3 k0 m2 y0 y1 y2 y3 p B;obtain⟨_,b1,_,_⟩:=hB.four;obtain⟨m1,_⟩:=hM.cellAt hil;obtain⟨m2,_⟩:=hM.cellAt hr;unfold Zcz at m1 m2;obtain⟨l1,l2,l3,l4⟩:=hM.lt hil b;obtain⟨A1,n1,c1,A2,n2,c2,⟨x0,x1,x2,x3⟩,o⟩:=hM.at_ hil hjl;obtain⟨A3,n3,c3,A4,n4,c4,⟨y0,y1,y2,y3⟩,p⟩:=hM.at_ hr hjl;obtain⟨t0,t1,t2,t3⟩:=A.four;obtain⟨rj,ag⟩:∃rj,rj=a r j:=⟨_,rfl⟩;obtain⟨a1,a2⟩:∃a1,a1=a i j:=⟨_,rfl⟩;have bh:=JZ ag;have bi:=JZ a2;have bu:Hid ((M r j).q=rj):=JZ (by rw[N.out.q,ag]);have bv:Hid ((M i j).q=a1):=JZ (by rw[ak.out.q,a2]);have bj:Sz J rj:=(by rw[ag];exact HJ.out r j hr hjl);have a7:(M i j).Sm:=(ak.out.rs (HJ.out i j hil hjl)).sm Qk;have a8:(M r j).Sm:=(N.out.rs (HJ.out r j hr hjl)).sm Qk;have bw:(canF q).Sm:=au.out.rs.sm Qk;have bx:(canF (q*rj)).Sm:=(Vn au.out bj).rs.sm Qk;clear ag a2 bj hB
          go_upto_region 12 with(fail)
          clear aq;have C0:=Zm x0;have C1:=Zm x1;have C2:=Zm x2;have C3:=Zm x3;have E0:=Zm y0;have E1:=Zm y1;have E2:=Zm y2;have E3:=Zm y3;have T0:=Zm t0;have T1:=Zm t1;have T2:=Zm t2;have T3:=Zm t3;have D0:=Zm b1;have D1:=Zm m1;have D2:=Zm m2;have d:=Zc w2;clear x0 x1 x2 x3 y0 y1 y2 y3 t0 t1 t2 t3 b1 m1 m2;refine Zj 32 [0,1,2,3,4,5,6,7,8,9,10,11,12,13,14,15,16,17,18,19,20,21,22,23,24,25,26,27,28,29,30,31,32] Qm Qm ?_;refine Qb ?_
          refine Qo λ_ kq=>?_;(with_reducible refine(WV _ _ (canF q) (M r j) _ (m.below d) (p.below d) bw a8).mono ?_);rw[Zv,bu.out];rintro _ w6 ⟨v6,rfl,e6,bp⟩;have Y:=Za d bp d.size;refine kq.out _ _ (.inr Y) (Qc ?_);clear kq
          refine Qo λ_ kq=>?_;(with_reducible refine(VN _ _ (M i j) (canF (q*rj)) _ (o.below Y) e6 a7 bx).mono ?_);rw[Zv,bv.out];rintro _ w7 ⟨v7,rfl,e7,bq⟩;have R:=Za Y bq Y.size;obtain⟨B9,l9,k9,cf,cg,ch,rfl,_,_⟩:=id e7;have a9:=hM.below R;obtain⟨_,_,_,_,_,_,⟨c0,c1,c2,c3⟩,_⟩:=a9.at_ hil hjl;obtain⟨f0,f1,f2,f3⟩:=a9.frozen hil hjl;refine kq.out _ _ (.inr R) (Qc ?_);clear kq
          refine Qh ?_;refine Zl ?_;clear C0 C1 C2 C3 D0 D1 D2 E0 E1 E2 E3 T0 T1 T2 T3;obtain⟨_,ci⟩:=a9.set_ hil hjl e7;have bz:=(X.out.below R hb).setM al.out hil hjl e7 (Q':=elQ rp cp a r c i (j+1)) (λs k hs hk=>by rw[Yjb U.out b4.out,HQ.out,bh.out,bi.out]);have bl:=(Yw (w:=w7) (g:=G i) (i:=j*4) (j:=j*4+1) (k:=j*4+2) (l:=j*4+3) (x:= .bool (canF (a1 - q*rj)).num.neg) (y:= .slice B9 l9 k9) (z:= .bool (canF (a1 - q*rj)).den.neg) (u:= .slice cf cg ch)).bk (A.later R) (by intro e;injection e with e;have:=(al.out i hil).2;omega);have bm:=(m.below R).keep (ci.keep Ql);clear hM a9 A m o p e6 e7 bp bq d Y R;go_wp2;go_roundw
          case rel=>exact⟨j+1,Qk,by go_num,bz,bl,bm⟩
          case measure=>exact Qn
        ·have b4:Hid (¬cp.getD j 0<0):=JZ (by rw[L];exact b7);have c5:0<=zj:=Qk;clear af L Z F a0 hT hF hH hM hR hC hB b7;go_wp2;go_roundw
         case rel=>exact⟨j+1,Qk,by go_num,ax.out.congr (λs k hs hk=>Zwb (.inl (by have:=b4.out;omega))) λs hs=>rfl,ay.out,az.out⟩
         case measure=>exact Qn
       ·obtain rfl:n=j:=Qk
        go_wp2;go_roundw
        case rel=>exact⟨i+1,Qk,by go_num,hA.congr (λs k hs hk=>Yja hk) λs hs=>rfl⟩
        case measure=>exact Qn
   ·have U:Hid (¬rp.getD i 0<0):=JZ (by rw[K];exact hz);have c5:0<=zi:=Qk;clear aa K Z F a0 hT hF hH hM hR hC hB hz;go_wp2;go_roundw
    case rel=>exact⟨i+1,Qk,by go_num,HA.out.congr (λs k hs hk=>Zwa (.inl (by have:=U.out;omega)) hk) λs hs=>Zqg (.inl (by have:=U.out;omega)) s⟩
    case measure=>exact Qn
  ·obtain rfl:n=i:=Qk
   go_wp2;go_ret;exact⟨_,rfl,hA⟩
end
namespace Pl
def Zaz(cols:List (List En))(k t:Nat):Mx:=λi j=>if j<k then X5 (cols.getD j []) i else if j=k then X5 ((cols.getD k []).take t) i else 0
def Zsx(cols:List (List En))(i j:Nat):Zaz cols 0 0 i j=0:=by
 unfold Zaz;rw[jA Qk];split
 ·rfl
 ·rfl
def Ydu{es:List En}{t i:Nat}{e:En}(h:Inc none es)(he:es[t]? =some e):X5 (es.take (t+1)) i=if e.idx=(i:Int)then e.f.q else X5 (es.take t) i:=by
 rw[jP,he];unfold X5;simp only[Option.toList];rw[Zma]
def Zym{cols:List (List En)}{k t i0 i j:Nat}{es:List En}{e:En}(hc:cols[k]? =some es)(hinc:Inc none es)(he:es[t]? =some e)(hi:e.idx=(i0:Int)):Zaz cols k (t+1) i j=if i=i0/\j=k then e.f.q else Zaz cols k t i j:=by
 have hg:cols.getD k []=es:=by simp[List.getD,hc]
 unfold Zaz;by_cases e1:j<k
 ·rw[jB e1,jB e1,jA Qk]
 ·rw[jA e1,jA e1];by_cases e2:j=k
  ·rw[jB e2,jB e2,hg,Ydu hinc he,hi];by_cases e3:i=i0
   ·rw[jB Qk,jB ⟨e3,e2⟩]
   ·rw[jA Qk,jA Qk]
  ·rw[jA e2,jA e2,jA Qk]
def Zyn{cols:List (List En)}{k i j:Nat}{es:List En}(hc:cols[k]? =some es):Zaz cols k es.length i j=Zaz cols (k+1) 0 i j:=by
 have hg:cols.getD k []=es:=by simp[List.getD,hc]
 unfold Zaz;by_cases e1:j<k
 ·rw[jB e1,jB Qk]
 ·rw[jA e1];by_cases e2:j=k
  ·rw[jB e2,jB Qk,hg,eU,e2,hg]
  ·rw[jA e2,jA Qk];split
   ·rfl
   ·rfl
def Ydv{cols:List (List En)}{n i j:Nat}(hj:j<n):Zaz cols n 0 i j=X5 (cols.getD j []) i:=by unfold Zaz;rw[jB hj]
def Zsy(R:Nat->Nat)(i:Nat):Nat->Int
 |0=> -1
 |s+1=>if R s=i then(s:Int)else Zsy R i s
def UG(n t:Nat)(R:Nat->Nat):List Int:=(List.range n).map λi=>Zsy R i t
def Wv{n t:Nat}{R:Nat->Nat}:(UG n t R).length=n:=by simp[UG]
def VP{n t i:Nat}{R:Nat->Nat}(h:i<n):(UG n t R)[i]? =some (Zsy R i t):=by simp[UG,h]
def Zac{n t i:Nat}{R:Nat->Nat}(h:i<n):(UG n t R).getD i 0=Zsy R i t:=Ziv (VP h)
def Zav{R:Nat->Nat}{i:Nat}:∀{t:Nat},Zsy R i t<0↔∀s,s<t->R s≠i
 |0=>⟨λ_ s h=>absurd h Qk,λ_=>by unfold Zsy;omega⟩
 |t+1=>by
  unfold Zsy
  by_cases e:R t=i
  ·rw[jB e]
   exact⟨λh=>Qk,λh=>absurd e (h t Qk)⟩
  ·rw[jA e,Zav]
   exact⟨λh s hs=>by
    by_cases e2:s=t
    ·rw[e2];exact e
    ·exact h s Qk,λh s hs=>h s Qk⟩
def Yop{R:Nat->Nat}{n s:Nat}(h:Inj n n R)(hs:s<n):Zsy R (R s) n=s:=by
 have a:∀t,s<t->t<=n->Zsy R (R s) t=s:=by
  intro t
  induction t with
  |zero=>intro h1;omega
  |succ t ih=>
   intro h1 h2;unfold Zsy;by_cases e:t=s
   ·subst e;rw[jB rfl]
   ·rw[jA λg=>e (h.eq Qk hs g)];exact ih Qk Qk
 exact a n hs (JY _)
def Zlb{R R':Nat->Nat}{i:Nat}:∀{t:Nat},(∀s,s<t->R s=R' s)->Zsy R i t=Zsy R' i t
 |0,_=>rfl
 |t+1,h=>by unfold Zsy;rw[h t Qk,Zlb λs hs=>h s Qk]
def Zwc{n t r:Nat}{R:Nat->Nat}(hf:∀s,s<t->R s≠r):(UG n t R).set r (t:Int)=UG n (t+1) (Vu R t r):=by
 refine jV λi=>?_
 rcases JX i n with e|e
 ·rw[VP e,iV];unfold Zsy;rw[ZO];by_cases g:r=i
  ·subst g;rw[jB rfl,jB (by rw[Wv];exact e),jB rfl]
  ·rw[jA g,jA g,VP e,Zlb (R':=Vu R t r) λs hs=>(ZH hs).symm]
 ·rw[JU (by rw[jd,Wv];exact e),JU (by rw[Wv];exact e)]
def Ydw{n:Nat}{R:Nat->Nat}:UG n 0 R=List.replicate n (-1):=by
 refine jV λi=>?_
 rcases JX i n with e|e
 ·rw[VP e];unfold Zsy;simp[e]
 ·rw[JU (by rw[Wv];exact e),JU (by simp;exact e)]
def Vv{R:Nat->Nat}{n t r i:Nat}(hi:i<n):((UG n (t+1) (Vu R t r)).getD i 0<0)↔((∀s,s<t->R s≠i)/\i≠r):=by
 rw[Zac hi,Zav];constructor
 ·intro h;refine⟨λs hs=>?_,λe=>?_⟩
  ·have:=h s Qk;rwa[ZH hs]at this
  ·have:=h t Qk;rw[ZO]at this;exact this e.symm
 ·rintro⟨h1,h2⟩ s hs;by_cases e:s=t
  ·rw[e,ZO];exact λg=>h2 g.symm
  ·rw[ZH Qk];exact h1 s Qk
def Yjc{n t K:Nat}{A a:Mx}{R C:Nat->Nat}{m:Mx}(h:Zbr n t A a R C m){r c:Nat}(hr:r<n)(hc:c<n)(hrf:∀s,s<t->R s≠r)(hcf:∀s,s<t->C s≠c)(hp:a r c≠0)(hK:1<=K)(hs:∀i j,i<n->j<n->Sz (5^t*K) (a i j)):
 Zbr n (t+1) A (elQ (UG n (t+1) (Vu R t r)) (UG n (t+1) (Vu C t c)) a r c n 0) (Vu R t r) (Vu C t c) (Vu m t (Znt (UG n (t+1) (Vu R t r)) a r c n))/\
 (∀i,i<n->Sz (2* (5^t*K)) (Znt (UG n (t+1) (Vu R t r)) a r c n i))/\
 ∀i j,i<n->j<n->Sz (5^(t+1)*K) (elQ (UG n (t+1) (Vu R t r)) (UG n (t+1) (Vu C t c)) a r c n 0 i j):=by
 have b:∀i,i<n->Znt (UG n (t+1) (Vu R t r)) a r c n i=if(∀s,s<t->R s≠i)/\i≠r then a i c/a r c else 0:=λi hi=>by
  unfold Znt;by_cases e:(∀s,s<t->R s≠i)/\i≠r
  ·rw[jB e,jB ⟨hi,(Vv hi).2 e⟩]
  ·rw[jA e,jA λg=>e ((Vv hi).1 g.2)]
 have d:∀i j,i<n->j<n->elQ (UG n (t+1) (Vu R t r)) (UG n (t+1) (Vu C t c)) a r c n 0 i j=if((∀s,s<t->R s≠i)/\i≠r)/\((∀s,s<t->C s≠j)/\j≠c)then a i j - Znt (UG n (t+1) (Vu R t r)) a r c n i*a r j else a i j:=λi j hi hj=>by
  unfold elQ;by_cases e:((∀s,s<t->R s≠i)/\i≠r)/\((∀s,s<t->C s≠j)/\j≠c)
  ·rw[jB e,jB ⟨.inl hi,(Vv hi).2 e.1,(Vv hj).2 e.2⟩,b i hi,jB e.1]
  ·rw[jA e,jA λg=>e ⟨(Vv hi).1 g.2.1,(Vv hj).1 g.2.2⟩]
 classical
 obtain⟨b1,b2⟩:=Yrs (m':=Vu m t (Znt (UG n (t+1) (Vu R t r)) a r c n)) (t:=t) (P:=λi=>(∀s,s<t->R s≠i)/\i≠r) (Q:=λj=>(∀s,s<t->C s≠j)/\j≠c) hK hr hc hs (λi hi=>by rw[ZO,b i hi]) (a':=elQ (UG n (t+1) (Vu R t r)) (UG n (t+1) (Vu C t c)) a r c n 0) (λi j hi hj=>by rw[d i j hi hj,ZO]);refine⟨h.step hr hc hrf hcf hp (λs hs=>ZH hs) ZO (λs hs=>ZH hs) ZO (λs i hs=>by rw[ZH hs]) (λi hi=>by rw[ZO];exact b i hi) (λi j hi hj=>by rw[ZO];exact d i j hi hj),λi hi=>?_,b2⟩;have:=b1 i hi
 rwa[ZO]at this
def Zsz(R:Nat->Nat)(m:Mx)(t k:Nat):Nat->Rat:=λp=>if p=t then 1 else if R p<k then m t (R p)else 0
def Zyo{R:Nat->Nat}{m:Mx}{t:Nat}(p:Nat):Zsz R m t 0 p=if p=t then 1 else 0:=by
 unfold Zsz;split
 ·rfl
 ·rw[jA Qk]
def Ydx{n:Nat}{R:Nat->Nat}{m:Mx}{t k p:Nat}(h0:m t k=0):Zsz R m t k p=Zsz R m t (k+1) p:=by
 unfold Zsz;split
 ·rfl
 ·by_cases e:R p=k
  ·rw[jA Qk,jB Qk,e,h0]
  ·by_cases e2:R p<k
   ·rw[jB e2,jB Qk]
   ·rw[jA e2,jA Qk]
def Ydy{n:Nat}{R:Nat->Nat}{m:Mx}{t k p s:Nat}(h:Inj n n R)(ht:t<n)(hp:p<n)(hs:s<n)(hk:R s=k)(h0:m t k≠0)(hm0:m t (R t)=0):Zsz R m t (k+1) p=if p=s then m t k else Zsz R m t k p:=by
 have a:s≠t:=λe=>h0 (by rw[<-hk,e];exact hm0)
 unfold Zsz;by_cases e:p=s
 ·subst e;rw[jB rfl,jA a,jB Qk,hk]
 ·rw[jA e];split
  ·rfl
  ·have:R p≠k:=λg=>e (h.eq hp hs (by rw[g,hk]))
   by_cases e2:R p<k
   ·rw[jB e2,jB Qk]
   ·rw[jA e2,jA Qk]
def Yjd{n:Nat}{R:Nat->Nat}{m:Mx}{t p:Nat}(h:Inj n n R)(hp:p<n)(hm0:∀q,q<=t->m t (R q)=0):Zsz R m t n p=luL R m t p:=by
 unfold Zsz luL;split
 ·rfl
 ·rw[jB (h.1 p hp)];split
  ·rfl
  ·exact hm0 p Qk
def upP(R C:Nat->Nat)(a:Mx)(t k:Nat):Nat->Rat:=λs=>if s<k then a (R s) (C t)else 0
def Yje{R C:Nat->Nat}{a:Mx}{t k:Nat}(s:Nat):upP R C a t (k+1) s=if s=k then a (R k) (C t)else upP R C a t k s:=by
 unfold upP;by_cases e:s=k
 ·subst e;rw[jB rfl,jB Qk]
 ·rw[jA e];by_cases e2:s<k
  ·rw[jB e2,jB Qk]
  ·rw[jA e2,jA Qk]
def Yoq{R C:Nat->Nat}{a:Mx}{t:Nat}(s:Nat):upP R C a t (t+1) s=luU R C a t s:=by
 unfold upP luU;by_cases e:s<=t
 ·rw[jB e,jB Qk]
 ·rw[jA e,jA Qk]
end Pl
namespace Pl
def Zyp{es:List En}{e:En}:∀{a:Int},Inc (some a) (es++[e])->a<e.idx:=by
 induction es with
 |nil=>intro a h;have:=h.1;simp[leP]at this;omega
 |cons d es ih=>intro a h;have h1:=h.1;have h2:=ih h.2;simp[leP]at h1;omega
def Zyq{es:List En}{e:En}:∀{p:Option Int},Inc p (es++[e])->Inc p es/\∀(k:Nat) (d:En),es[k]? =some d->d.idx<e.idx:=by
 induction es with
 |nil=>intro p _;exact⟨trivial,λk d h=>by simp at h⟩
 |cons c es ih=>
  intro p h;obtain⟨h1,h2⟩:=ih h.2;refine⟨⟨h.1,h1⟩,λk d hd=>?_⟩
  cases k with
  |zero=>simp at hd;subst hd;exact Zyp h.2
  |succ k=>exact h2 k d (by simpa using hd)
def Yjf{n:Nat}{es:List En}(h:∀(k:Nat) (e:En),es[k]? =some e->e.idx≠(n:Int)):X5 es n=0:=by
 have a:∀(es:List En) (f:Nat->Rat),(∀(k:Nat) (e:En),es[k]? =some e->e.idx≠(n:Int))->dQ es f n=f n:=by
  intro es
  induction es with
  |nil=>intro f _;rfl
  |cons c es ih=>
   intro f h;rw[dQ,ih _ λk e he=>h (k+1) e (by simpa using he),jA (h 0 c rfl)]
 exact a es _ h
def cpyV_spV:∀{n:Nat} {es:List En},Good n es->Zra es=spV (X5 es) n
 |0,[],_=>rfl
 |0,e::es,h=>by have:=h.1 0 e rfl;omega
 |n+1,es,h=>by
  rcases List.eq_nil_or_concat es with rfl|⟨ds,e,he0⟩
  ·have h0:Good n ([]:List En):=⟨λk e h=>by simp at h,trivial,λk e h=>by simp at h⟩
   rw[XM rfl]
   exact cpyV_spV h0
  ·rw[List.concat_eq_append]at he0
   subst he0
   obtain⟨h1,h2,h3⟩:=h
   obtain⟨i1,i2⟩:=Zyq h2
   have he:(ds++[e])[ds.length]? =some e:=by simp
   have e1:=h1 _ e he
   have hl:∀(k:Nat) (d:En),ds[k]? =some d->(ds++[e])[k]? =some d:=λk d hd=>by
    rw[jI (JO.1 hd).1];exact hd
   have hc:∀i,X5 (ds++[e]) i=if e.idx=(i:Int)then e.f.q else X5 ds i:=λi=>by unfold X5;rw[Zma]
   by_cases g:e.idx=(n:Int)
   ·have hd:Good n ds:=⟨λk d hd=>by have:=i2 k d hd;have:=h1 k d (hl k d hd);omega,i1,λk d hd=>h3 k d (hl k d hd)⟩
    have hn:X5 (ds++[e]) n=e.f.q:=by rw[hc,jB g]
    rw[Wh (by rw[hn];exact h3 _ e he),hn,Wi (g:=X5 ds) λi hi=>by rw[hc,jA Qk],<-cpyV_spV hd]
    unfold Zra
    rw[List.map_append]
    simp[g]
   ·have hd:Good n (ds++[e]):=⟨λk d hd=>by
     have:=h1 k d hd
     rcases JX k ds.length with hk|hk
     ·rw[jI hk]at hd
      have:=i2 k d hd;omega
     ·rw[jH hk]at hd
      have a:k - ds.length=0:=by
       rcases JV (k - ds.length)with e|e
       ·exact e
       ·rw[JU (by simp;omega)]at hd;cases hd
      rw[a]at hd;simp at hd;subst hd;omega,h2,h3⟩
    rw[XM (Yjf λk d hk=>by have:=hd.1 k d hk;omega)];exact cpyV_spV hd
end Pl
section
def Zta{P:Program}{Q:Exit->Act->World->Prop}{id:Nat}{l:List Oper}{a:Act}{w:World}(S:World->Prop)(h0:S w.drew)(n:Nat)(is:List Nat)(hm:P.follows .mixedOrders=true)(hok:Yhi .any l.toArray n is=true)
 (h:WY P l.toArray (NoPanic Q) S n is a w.drew):(Code.region id l.toArray true).wp P Q a w:=by
 simp only[Yhi,jU,jh]at hok;obtain⟨hs,b,hl⟩:=hok;refine Be (wp_region_any hm (AnyG.any _ _ _ _ (S:=S) (n:=n) ?_));rw[<-hl];have:=AnyG.of_seq (P:=P) (Q:=NoPanic Q) (S:=S) (λc a d v w h=>h) hs is _ a w.drew false b (λ_=>h0) h
 rwa[hl]at this⊢
def Yy.othP{base:Nat}{w w':World}{P:Nat->Prop}{v:Value}{fs:List RF}(h:Yy base w v fs)(ho:Zqf P w w')(hk:ZI w w')(hne:∀b,v.ownBlock=some b->¬P b):Yy base w' v fs:=by
 obtain⟨cs,h1,h2⟩:=h;refine⟨cs,⟨h1.1,?_⟩,h2.keep hk⟩;rcases h1.2 with hn|⟨g',cap,cur,rfl,hb',hgg,rest⟩
 ·exact .inl hn
 ·exact .inr ⟨g',cap,cur,rfl,hb',(ho.2 g' (ZU hgg) (hne g' (by simp[Value.ownBlock]))).trans hgg,rest⟩
namespace Pl
def Zzo(n t:Nat)(R:Nat->Nat):List Int:=(List.range n).map λs=>if s<t then(R s:Int)else 0
def UB{n t:Nat}{R:Nat->Nat}:(Zzo n t R).length=n:=by simp[Zzo]
def Zgu{n t s:Nat}{R:Nat->Nat}(h:s<n):(Zzo n t R)[s]? =some (if s<t then(R s:Int)else 0):=by simp[Zzo,h]
def Znh{n t:Nat}{R:Nat->Nat}{l:List Int}(hl:l.length=n)(h:∀s,s<n->l[s]? =some (if s<t then(R s:Int)else 0)):l=Zzo n t R:=by
 refine jV λs=>?_
 rcases JX s n with e|e
 ·rw[h s e,Zgu e]
 ·rw[JU Qk,JU (by rw[UB];exact e)]
def Zqh{n:Nat}{R:Nat->Nat}:List.replicate n 0=Zzo n 0 R:=Znh (by simp) λs hs=>by simp[hs]
def Zwd{n t r:Nat}{R:Nat->Nat}(ht:t<n):(Zzo n t R).set t (r:Int)=Zzo n (t+1) (Vu R t r):=Znh (by simp[Zzo]) λs hs=>by
 rw[iV]
 by_cases e:t=s
 ·subst e
  rw[jB rfl,UB,jB hs,jB Qk,ZO]
 ·rw[jA e,Zgu hs]
  by_cases e2:s<t
  ·rw[jB e2,jB Qk,ZH e2]
  ·rw[jA e2,jA Qk]
def Zwe{n:Nat}{R:Nat->Nat}:Zzo n n R=Zpx n R:=by
 refine(Znh (Ziu _ _) λs hs=>?_).symm;rw[Zgt hs,jB hs]
def Zyr(n t:Nat)(L:Mx):List (List En):=(List.range n).map λs=>if s<t then spV (L s) n else []
def Vw{n t:Nat}{L:Mx}:(Zyr n t L).length=n:=by simp[Zyr]
def Zdv{n t s:Nat}{L:Mx}(h:s<n):(Zyr n t L)[s]? =some (if s<t then spV (L s) n else []):=by simp[Zyr,h]
def Zni{n t:Nat}{L:Mx}{l:List (List En)}(hl:l.length=n)(h:∀s,s<n->l[s]? =some (if s<t then spV (L s) n else [])):l=Zyr n t L:=by
 refine jV λs=>?_
 rcases JX s n with e|e
 ·rw[h s e,Zdv e]
 ·rw[JU Qk,JU (by rw[Vw];exact e)]
def Ziw{n:Nat}{L:Mx}:List.replicate n []=Zyr n 0 L:=Zni (by simp) λs hs=>by simp[hs]
def Znj{n t:Nat}{L:Mx}(ht:t<n):(Zyr n t L).set t (spV (L t) n)=Zyr n (t+1) L:=Zni (by simp[Zyr]) λs hs=>by
 rw[iV]
 by_cases e:t=s
 ·subst e
  rw[jB rfl,Vw,jB hs,jB Qk]
 ·rw[jA e,Zdv hs]
  by_cases e2:s<t
  ·rw[jB e2,jB Qk]
  ·rw[jA e2,jA Qk]
def Zwf{n:Nat}{L:Mx}:Zyr n n L=vcL n L:=by
 refine(Zni (Wt _ _) λs hs=>?_).symm;rw[Zaa hs,jB hs]
end Pl
def XW(U:World)(ge ga gr gc n:Nat)(G D:Nat->Nat)(rp cp:List Int)(Q:Mx)(wr:World):Prop:=
 ∃M,ElM U.heap.size wr ge n (.slice (some ⟨ga,0,none⟩) n n) (.slice (some ⟨gr,0,none⟩) n n) (.slice (some ⟨gc,0,none⟩) n n) M G D rp cp/\(∀i j,i<n->j<n->Tdy (M i j) (Q i j))/\Below U.heap.size U wr
section
variable {U wr w':World} {ge ga gr gc n:Nat} {G D:Nat->Nat} {rp cp:List Int} {Q Q':Mx}
def XW.below(h:XW U ge ga gr gc n G D rp cp Q wr)(hb:Below wr.heap.size wr w'):XW U ge ga gr gc n G D rp cp Q w':=by
 obtain⟨M,h1,h2,h3⟩:=h;exact⟨M,h1.below hb,h2,Za h3 hb h3.size⟩
def XW.congr(h:XW U ge ga gr gc n G D rp cp Q wr)(e:∀i j,i<n->j<n->Q i j=Q' i j):XW U ge ga gr gc n G D rp cp Q' wr:=by
 obtain⟨M,h1,h2,h3⟩:=h;exact⟨M,h1,λi j hi hj=>by rw[<-e i j hi hj];exact h2 i j hi hj,h3⟩
def XW.setM(h:XW U ge ga gr gc n G D rp cp Q wr){i j:Nat}(hi:i<n)(hj:j<n){x y z u:Value}{q:Rat}(hq:Zx wr (.agg #[x,y,z,u]) (canF q))(hf:∀s k,s<n->k<n->Q' s k=if s=i/\k=j then q else Q s k):
 XW U ge ga gr gc n G D rp cp Q' ((((wr.setCell ⟨G i,j*4,none⟩ x).setCell ⟨G i,j*4+1,none⟩ y).setCell ⟨G i,j*4+2,none⟩ z).setCell ⟨G i,j*4+3,none⟩ u):=by
 obtain⟨M,⟨e1,e2,e3,e4,e5⟩,h2,h3⟩:=h;obtain⟨g1,g2⟩:=e2.set_ hi hj hq;obtain⟨l1,_⟩:=e2.lt hi Qk;refine⟨_,⟨g2.bk e1 Ql,g1,e3.but g2 Ql,e4.but g2 Ql,e5⟩,λs k hs hk=>?_,ZC h3 l1 _ _ _ _ _ _ _ _⟩;rw[hf s k hs hk];unfold Yob;by_cases e:s=i/\k=j
 ·rw[jB e,jB e];exact .inl rfl
 ·rw[jA e,jA e];exact h2 s k hs hk
def XW.farI(h:XW U ge ga gr gc n G D rp cp Q wr){g i:Nat}{v:Value}(hk:Zf 3 wr (wr.setCell ⟨g,i,none⟩ v))(hg:U.heap.size<=g)(h1:g≠gr)(h2:g≠gc):XW U ge ga gr gc n G D rp cp Q (wr.setCell ⟨g,i,none⟩ v):=by
 obtain⟨M,⟨e1,e2,e3,e4,e5⟩,h4,h3⟩:=h;have ho:=ZA.of_set (g:=g) (i:=i) (v:=v) (w:=wr);exact⟨M,⟨hk.bk e1 Ql,e2.but hk Ql Ql Ql,e3.others ho (λb hb e=>by simp[Value.ownBlock]at hb;injection e with e;omega),e4.others ho (λb hb e=>by simp[Value.ownBlock]at hb;injection e with e;omega),e5⟩,h4,h3.setCell (p:=⟨g,i,none⟩) hg v⟩
def XW.but(h:XW U ge ga gr gc n G D rp cp Q wr){e:TypeId}(hk:Zf e wr w')(hb:Below U.heap.size U w')(h1:196≠e)(h2:34≠e)(h3:49≠e)(h4:71≠e)(h5:3≠e):XW U ge ga gr gc n G D rp cp Q w':=by
 obtain⟨M,⟨e1,e2,e3,e4,e5⟩,g4,g3⟩:=h;exact⟨M,⟨hk.bk e1 h1,e2.but hk h2 h3 h4,e3.but hk h5,e4.but hk h5,e5⟩,g4,hb⟩
def XW.setR(h:XW U ge ga gr gc n G D rp cp Q wr)(hne:gr≠gc){r:Nat}(hr:r<n){z:Int}(h0: -9223372036854775808<=z)(h1:z<=9223372036854775807):
 XW U ge ga gr gc n G D (rp.set r z) cp Q (wr.setCell ⟨gr,r,none⟩ (.int .i64 z))/\Zf 3 wr (wr.setCell ⟨gr,r,none⟩ (.int .i64 z)):=by
 obtain⟨M,⟨e1,e2,e3,e4,e5,e6⟩,h4,h3⟩:=h;obtain⟨g1,hk⟩:=e3.set_ (k:=r) Qk h0 h1;have ho:=ZA.of_set (g:=gr) (i:=r) (v:= .int .i64 z) (w:=wr);exact⟨⟨M,⟨hk.bk e1 Ql,e2.but hk Ql Ql Ql,g1,e4.others ho (λb hb e=>by simp[Value.ownBlock]at hb;injection e with e;omega),by rw[jd];exact e5,e6⟩,h4,h3.setCell (p:=⟨gr,r,none⟩) e3.base _⟩,hk⟩
def XW.setC(h:XW U ge ga gr gc n G D rp cp Q wr)(hne:gr≠gc){c:Nat}(hc:c<n){z:Int}(h0: -9223372036854775808<=z)(h1:z<=9223372036854775807):
 XW U ge ga gr gc n G D rp (cp.set c z) Q (wr.setCell ⟨gc,c,none⟩ (.int .i64 z))/\Zf 3 wr (wr.setCell ⟨gc,c,none⟩ (.int .i64 z)):=by
 obtain⟨M,⟨e1,e2,e3,e4,e5,e6⟩,h4,h3⟩:=h;obtain⟨g1,hk⟩:=e4.set_ (k:=c) Qk h0 h1;have ho:=ZA.of_set (g:=gc) (i:=c) (v:= .int .i64 z) (w:=wr);exact⟨⟨M,⟨hk.bk e1 Ql,e2.but hk Ql Ql Ql,e3.others ho (λb hb e=>by simp[Value.ownBlock]at hb;injection e with e;omega),g1,e5,by rw[jd];exact e6⟩,h4,h3.setCell (p:=⟨gc,c,none⟩) e4.base _⟩,hk⟩
end
def Yor(base n t:Nat)(F E:Nat->Nat)(m:Mx)(J:Nat)(G:Nat->Nat)(w:World):Prop:=
 ∃H:Nat->Nat->RF,∀s,s<t->Yy base w (Zcz n F E s) (rfL n (H s))/\(∀i,i<n->(H s i).q=m s i/\(H s i).Rs J)/\∀i,i<n->F s≠G i
def Wl(U:World)(gf g0 g1 gt n t J:Nat)(v2 v3:Value)(l0 l1:List Int)(F E:Nat->Nat)(m:Mx)(G:Nat->Nat)(w:World):Prop:=
 Bk w gf 159 [.slice (some ⟨g0,0,none⟩) n n,.slice (some ⟨g1,0,none⟩) n n,v2,v3]/\Zt U.heap.size w (.slice (some ⟨g0,0,none⟩) n n) l0/\Zt U.heap.size w (.slice (some ⟨g1,0,none⟩) n n) l1/\
  w.ownsRow U.heap.size 34 1 (.slice (some ⟨gt,0,none⟩) n n) n (Zrb n t F E)/\Yor U.heap.size n t F E m J G w
section
variable {U w w':World} {gf g0 g1 gt n t J:Nat} {v2 v3:Value} {l0 l1:List Int} {F E G:Nat->Nat} {m:Mx}
def Yor.below(h:Yor U.heap.size n t F E m J G w)(hb:Below w.heap.size w w'):Yor U.heap.size n t F E m J G w':=by
 obtain⟨H,h⟩:=h;exact⟨H,λs hs=>⟨(h s hs).1.below hb,(h s hs).2⟩⟩
def Yor.but{e:TypeId}(h:Yor U.heap.size n t F E m J G w)(hk:Zf e w w')(h1:49≠e)(h2:71≠e):Yor U.heap.size n t F E m J G w':=by
 obtain⟨H,h⟩:=h;exact⟨H,λs hs=>⟨(h s hs).1.but hk h1 h2,(h s hs).2⟩⟩
def Wl.below(h:Wl U gf g0 g1 gt n t J v2 v3 l0 l1 F E m G w)(hb:Below w.heap.size w w'):Wl U gf g0 g1 gt n t J v2 v3 l0 l1 F E m G w':=
 ⟨h.1.later hb,h.2.1.below hb,h.2.2.1.below hb,own_below h.2.2.2.1 hb,h.2.2.2.2.below hb⟩
def Wl.but{e:TypeId}(h:Wl U gf g0 g1 gt n t J v2 v3 l0 l1 F E m G w)(hk:Zf e w w')(h1:159≠e)(h2:34≠e)(h3:49≠e)(h4:71≠e)(h5:3≠e):Wl U gf g0 g1 gt n t J v2 v3 l0 l1 F E m G w':=
 ⟨hk.bk h.1 h1,h.2.1.but hk h5,h.2.2.1.but hk h5,hk.own h.2.2.2.1 h2,h.2.2.2.2.but hk h3 h4⟩
def Wl.set0(h:Wl U gf g0 g1 gt n t J v2 v3 l0 l1 F E m G w)(hne:g0≠g1){k:Nat}(hk:k<l0.length){z:Int}(z0: -9223372036854775808<=z)(z1:z<=9223372036854775807):
 Wl U gf g0 g1 gt n t J v2 v3 (l0.set k z) l1 F E m G (w.setCell ⟨g0,k,none⟩ (.int .i64 z))/\Zf 3 w (w.setCell ⟨g0,k,none⟩ (.int .i64 z)):=by
 obtain⟨e1,e2,e3,e4,e5⟩:=h;obtain⟨g,a⟩:=e2.set_ hk z0 z1;have ho:=ZA.of_set (g:=g0) (i:=k) (v:= .int .i64 z) (w:=w);exact⟨⟨a.bk e1 Ql,g,e3.others ho (λb hb e=>by simp[Value.ownBlock]at hb;injection e with e;omega),a.own e4 Ql,e5.but a Ql Ql⟩,a⟩
def Wl.set1(h:Wl U gf g0 g1 gt n t J v2 v3 l0 l1 F E m G w)(hne:g0≠g1){k:Nat}(hk:k<l1.length){z:Int}(z0: -9223372036854775808<=z)(z1:z<=9223372036854775807):
 Wl U gf g0 g1 gt n t J v2 v3 l0 (l1.set k z) F E m G (w.setCell ⟨g1,k,none⟩ (.int .i64 z))/\Zf 3 w (w.setCell ⟨g1,k,none⟩ (.int .i64 z)):=by
 obtain⟨e1,e2,e3,e4,e5⟩:=h;obtain⟨g,a⟩:=e3.set_ hk z0 z1;have ho:=ZA.of_set (g:=g1) (i:=k) (v:= .int .i64 z) (w:=w);exact⟨⟨a.bk e1 Ql,e2.others ho (λb hb e=>by simp[Value.ownBlock]at hb;injection e with e;omega),g,a.own e4 Ql,e5.but a Ql Ql⟩,a⟩
def Wl.farI(h:Wl U gf g0 g1 gt n t J v2 v3 l0 l1 F E m G w){g i:Nat}{v:Value}(hk:Zf 3 w (w.setCell ⟨g,i,none⟩ v))(h1:g≠g0)(h2:g≠g1):Wl U gf g0 g1 gt n t J v2 v3 l0 l1 F E m G (w.setCell ⟨g,i,none⟩ v):=by
 obtain⟨e1,e2,e3,e4,e5⟩:=h;have ho:=ZA.of_set (g:=g) (i:=i) (v:=v) (w:=w);exact⟨hk.bk e1 Ql,e2.others ho (λb hb e=>by simp[Value.ownBlock]at hb;injection e with e;omega),e3.others ho (λb hb e=>by simp[Value.ownBlock]at hb;injection e with e;omega),hk.own e4 Ql,e5.but hk Ql Ql⟩
def Wl.othP(h:Wl U gf g0 g1 gt n t J v2 v3 l0 l1 F E m G w)(ho:Zqf (λb=>∃i,i<n/\b=G i) w w')(hk:Zf 49 w w'):Wl U gf g0 g1 gt n t J v2 v3 l0 l1 F E m G w':=by
 obtain⟨e1,e2,e3,e4,H,e5⟩:=h;refine⟨hk.bk e1 Ql,e2.but hk Ql,e3.but hk Ql,hk.own e4 Ql,H,λs hs=>⟨(e5 s hs).1.othP ho (hk.keep Ql) λb hb=>?_,(e5 s hs).2⟩⟩;simp[Zcz,Value.ownBlock]at hb;subst hb;rintro⟨i,hi,e⟩;exact(e5 s hs).2.2 i hi e
def Wl.push(h:Wl U gf g0 g1 gt n t J v2 v3 l0 l1 F E m G w)(ht:t<n){g c:Nat}{H:Nat->RF}{f:Nat->Rat}(hO:Yy U.heap.size w (.slice (some ⟨g,0,none⟩) n c) (rfL n H))(hq:∀i,i<n->(H i).q=f i/\(H i).Rs J)(hg:∀i,i<n->g≠G i):
 Wl U gf g0 g1 gt n (t+1) J v2 v3 l0 l1 (Vu F t g) (Vu E t c) (Vu m t f) G (w.setCell ⟨gt,t,none⟩ (.slice (some ⟨g,0,none⟩) n c))/\Zf 34 w (w.setCell ⟨gt,t,none⟩ (.slice (some ⟨g,0,none⟩) n c)):=by
 obtain⟨e1,e2,e3,e4,K,e5⟩:=h;obtain⟨_,hb,_⟩:=Z0 e4;have hk:=Zf.setCell hb t (.slice (some ⟨g,0,none⟩) n c);have e6:=Xh e4 t (.slice (some ⟨g,0,none⟩) n c) (by rw[Wu];exact ht);rw[Zvz ht]at e6;refine⟨⟨hk.bk e1 Ql,e2.but hk Ql,e3.but hk Ql,e6,Vu K t H,λs hs=>?_⟩,hk⟩;by_cases e:s=t
 ·subst e;unfold Zcz;rw[ZO,ZO,ZO,ZO];exact⟨hO.but hk Ql Ql,hq,hg⟩
 ·unfold Zcz;rw[ZH Qk,ZH Qk,ZH Qk,ZH Qk];exact⟨(e5 s Qk).1.but hk Ql Ql,(e5 s Qk).2⟩
end
def Yos(U:World)(ge ga gr gc gf g0 g1 gt n K t:Nat)(G D:Nat->Nat)(A:Mx)(wr:World):Prop:=
 ∃(a m:Mx) (R C F E:Nat->Nat),XW U ge ga gr gc n G D (UG n t R) (UG n t C) a wr/\Zbr n t A a R C m/\(∀i j,i<n->j<n->Sz (5^t*K) (a i j))/\(∀s i,s<t->i<n->Sz (2* (5^n*K)) (m s i))/\
  Wl U gf g0 g1 gt n t (2* (5^n*K)) (.slice none 0 0) (.slice none 0 0) (Zzo n t R) (Zzo n t C) F E m G wr
def LuM(U:World)(ge ga gr gc gf g0 g1 gt gl gu go n J tl tu:Nat)(G D R C F E:Nat->Nat)(a m:Mx)(wr:World):Prop:=
 XW U ge ga gr gc n G D (UG n n R) (UG n n C) a wr/\Wl U gf g0 g1 gt n n J (.slice (some ⟨gl,0,none⟩) n n) (.slice (some ⟨gu,0,none⟩) n n) (Zpx n R) (Zpx n C) F E m G wr/\
  (∃A k c A' k' c',Bk wr go 49 [.bool (canF 1).num.neg,.slice A k c,.bool (canF 1).den.neg,.slice A' k' c']/\Zx wr (.agg #[.bool (canF 1).num.neg,.slice A k c,.bool (canF 1).den.neg,.slice A' k' c']) (canF 1))/\
  Ym U.heap.size wr (.slice (some ⟨gl,0,none⟩) n n) (Zyr n tl (luL R m))/\Ym U.heap.size wr (.slice (some ⟨gu,0,none⟩) n n) (Zyr n tu (luU R C a))
section
variable {U wr w':World} {ge ga gr gc gf g0 g1 gt gl gu go n J tl tu:Nat} {G D R C F E:Nat->Nat} {a m:Mx}
def LuM.below(h:LuM U ge ga gr gc gf g0 g1 gt gl gu go n J tl tu G D R C F E a m wr)(hb:Below wr.heap.size wr w'):LuM U ge ga gr gc gf g0 g1 gt gl gu go n J tl tu G D R C F E a m w':=by
 obtain⟨h1,h2,⟨A,k,c,A',k',c',h3,h4⟩,h5,h6⟩:=h;exact⟨h1.below hb,h2.below hb,⟨A,k,c,A',k',c',h3.later hb,h4.below hb⟩,h5.below hb,h6.below hb⟩
def Ym.others{base:Nat}{w w':World}{g:Option Nat}{v:Value}{cols:List (List En)}(h:Ym base w v cols)(ho:ZA g w w')(hk:Zf 88 w w')(hne:∀b,v.ownBlock=some b->some b≠g):Ym base w' v cols:=by
 obtain⟨cs,h1,h2⟩:=h;exact⟨cs,Zkk h1 ho hne,λk c hc=>by
  obtain⟨u,hu,hm⟩:=h2 k c hc;exact⟨u,hu,hm.but hk Ql Ql⟩⟩
def Ym.monoB{base base':Nat}{w:World}{v:Value}{cols:List (List En)}(h:Ym base w v cols)(hb:base'<=base):Ym base' w v cols:=by
 obtain⟨cs,h1,h2⟩:=h;exact⟨cs,VJ h1 hb,h2⟩
def Ym.base{base:Nat}{w:World}{g n c:Nat}{cols:List (List En)}(h:Ym base w (.slice (some ⟨g,0,none⟩) n c) cols):base<=g:=by
 obtain⟨cs,h1,_⟩:=h;have hn:n=cols.length:=(VC.of_own h1).len;subst hn;obtain⟨_,_,h3⟩:=Z0 h1;exact h3
def LuM.setL(h:LuM U ge ga gr gc gf g0 g1 gt gl gu go n J tl tu G D R C F E a m wr)(hne:gl≠gu)(ht:tl<n){v:Value}(hv:Ur wr v (spV (luL R m tl) n)):
 LuM U ge ga gr gc gf g0 g1 gt gl gu go n J (tl+1) tu G D R C F E a m (wr.setCell ⟨gl,tl,none⟩ v):=by
 obtain⟨h1,h2,⟨A,k,c,A',k',c',h3,h4⟩,h5,h6⟩:=h;obtain⟨h7,hk⟩:=h5.set_ (k:=tl) (by rw[Vw];exact ht) hv;rw[Znj ht]at h7;have ho:=ZA.of_set (g:=gl) (i:=tl) (v:=v) (w:=wr);have hb:Below U.heap.size U (wr.setCell ⟨gl,tl,none⟩ v):=by
  obtain⟨_,_,_,hb⟩:=h1;exact hb.setCell (p:=⟨gl,tl,none⟩) h5.base v
 exact⟨h1.but hk hb Ql Ql Ql Ql Ql,h2.but hk Ql Ql Ql Ql Ql,⟨A,k,c,A',k',c',hk.bk h3 Ql,h4.keep (hk.keep Ql)⟩,h7,h6.others ho hk λb hb e=>by simp[Value.ownBlock]at hb;injection e with e;omega⟩
def LuM.setU(h:LuM U ge ga gr gc gf g0 g1 gt gl gu go n J tl tu G D R C F E a m wr)(hne:gl≠gu)(ht:tu<n){v:Value}(hv:Ur wr v (spV (luU R C a tu) n)):
 LuM U ge ga gr gc gf g0 g1 gt gl gu go n J tl (tu+1) G D R C F E a m (wr.setCell ⟨gu,tu,none⟩ v):=by
 obtain⟨h1,h2,⟨A,k,c,A',k',c',h3,h4⟩,h5,h6⟩:=h;obtain⟨h7,hk⟩:=h6.set_ (k:=tu) (by rw[Vw];exact ht) hv;rw[Znj ht]at h7;have ho:=ZA.of_set (g:=gu) (i:=tu) (v:=v) (w:=wr);have hb:Below U.heap.size U (wr.setCell ⟨gu,tu,none⟩ v):=by
  obtain⟨_,_,_,hb⟩:=h1;exact hb.setCell (p:=⟨gu,tu,none⟩) h6.base v
 exact⟨h1.but hk hb Ql Ql Ql Ql Ql,h2.but hk Ql Ql Ql Ql Ql,⟨A,k,c,A',k',c',hk.bk h3 Ql,h4.keep (hk.keep Ql)⟩,h5.others ho hk λb hb e=>by simp[Value.ownBlock]at hb;injection e with e;omega,h7⟩
end
def XW.farT{U wr:World}{ge ga gr gc n:Nat}{G D:Nat->Nat}{rp cp:List Int}{Q:Mx}(h:XW U ge ga gr gc n G D rp cp Q wr){g i:Nat}{v:Value}(hk:Zf 34 wr (wr.setCell ⟨g,i,none⟩ v))(hg:U.heap.size<=g)(h1:g≠ga):XW U ge ga gr gc n G D rp cp Q (wr.setCell ⟨g,i,none⟩ v):=by
 obtain⟨M,⟨e1,⟨m1,m2,m3⟩,e3,e4,e5⟩,h4,h3⟩:=h;have ho:=ZA.of_set (g:=g) (i:=i) (v:=v) (w:=wr);exact⟨M,⟨hk.bk e1 Ql,⟨Zkk m1 ho (λb hb e=>by simp[Value.ownBlock]at hb;injection e with e;omega),λr hr=>(m2 r hr).but hk Ql Ql,m3⟩,e3.but hk Ql,e4.but hk Ql,e5⟩,h4,h3.setCell (p:=⟨g,i,none⟩) hg v⟩
section
variable {U w w':World} {gf g0 g1 gt n t J:Nat} {v2 v3:Value} {l0 l1:List Int} {F E G:Nat->Nat} {m:Mx}
def Wl.set2(h:Wl U gf g0 g1 gt n t J v2 v3 l0 l1 F E m G w)(v:Value):Wl U gf g0 g1 gt n t J v v3 l0 l1 F E m G (w.setCell ⟨gf,2,none⟩ v)/\Zf 159 w (w.setCell ⟨gf,2,none⟩ v):=by
 obtain⟨e1,e2,e3,e4,e5⟩:=h;have hk:=Zf.setCell e1 2 v;exact⟨⟨e1.set_ 2 v,e2.but hk Ql,e3.but hk Ql,hk.own e4 Ql,e5.but hk Ql Ql⟩,hk⟩
def Wl.set3(h:Wl U gf g0 g1 gt n t J v2 v3 l0 l1 F E m G w)(v:Value):Wl U gf g0 g1 gt n t J v2 v l0 l1 F E m G (w.setCell ⟨gf,3,none⟩ v)/\Zf 159 w (w.setCell ⟨gf,3,none⟩ v):=by
 obtain⟨e1,e2,e3,e4,e5⟩:=h;have hk:=Zf.setCell e1 3 v;exact⟨⟨e1.set_ 3 v,e2.but hk Ql,e3.but hk Ql,hk.own e4 Ql,e5.but hk Ql Ql⟩,hk⟩
end
def Zfy(w:World):Calls prog 51 #[.int .i64 1,.int .i64 1] w λe w'=>∃v',e= .returned (.tuple #[v',.int .i64 0])/\Zx w' v' (canF 1)/\Below w.heap.size w w':=by
 refine(VI 1 1 w Qk Qk Qk Qk).mono ?_;rintro e w' ⟨v',h1,h2,h3⟩;rw[jA Qk]at h1 h2;rw[show Rat.divInt 1 1=1 from Rat.divInt_self' Ql]at h2;exact⟨v',h1,h2,h3⟩
def MkF(U:World)(n:Nat)(D:Nat->Prop)(s1 s2 s3 s4 s5:Value)(w:World):Prop:=
 Below U.heap.size U w/\(D 1->∃g,s1= .slice (some ⟨g,0,none⟩) n n/\g<w.heap.size/\Zt U.heap.size w (.slice (some ⟨g,0,none⟩) n n) (List.replicate n 0))/\
  (D 3->∃g,s2= .slice (some ⟨g,0,none⟩) n n/\g<w.heap.size/\Zt U.heap.size w (.slice (some ⟨g,0,none⟩) n n) (List.replicate n 0))/\
  (D 4->(D 1/\D 3)/\s3= .agg #[s1,s2,.slice none 0 0,.slice none 0 0])/\(D 5->∃g,s4= .pointer (some ⟨g,0,none⟩)/\U.heap.size<=g/\Bk w g 159 [.slice none 0 0,.slice none 0 0,.slice none 0 0,.slice none 0 0])/\(D 1->D 3->s1≠s2)/\s5= .int .i64 (n:Int)
def MkF.later{U w w':World}{n:Nat}{D:Nat->Prop}{s1 s2 s3 s4 s5:Value}(h:MkF U n D s1 s2 s3 s4 s5 w)(hb:Below w.heap.size w w'):MkF U n D s1 s2 s3 s4 s5 w':=by
 obtain⟨h0,h1,h2,h3,h4,h5⟩:=h;have hs:=hb.size;refine⟨Za h0 hb h0.size,λd=>?_,λd=>?_,h3,λd=>?_,h5⟩
 ·obtain⟨g,e,k,l⟩:=h1 d;exact⟨g,e,Qk,l.below hb⟩
 ·obtain⟨g,e,k,l⟩:=h2 d;exact⟨g,e,Qk,l.below hb⟩
 ·obtain⟨g,e,k,l⟩:=h4 d;exact⟨g,e,k,l.later hb⟩
def MkF.set1{U w:World}{n:Nat}{D:Nat->Prop}{s1 s2 s3 s4 s5:Value}(h:MkF U n D s1 s2 s3 s4 s5 w)(hn:n<=maxLen)(hd:¬D 1):MkF U n (λk=>D k\/k=1) (.slice (some ⟨w.heap.size,0,none⟩) n n) s2 s3 s4 s5 (w.alloc (.cells (zic n) 3)):=by
 have hz:=Zt.zeros w n hn;obtain⟨h0,h1,h2,h3,h4,h5,h6⟩:=h.later (Ze w (.cells (zic n) 3));exact⟨h0,λ_=>⟨_,rfl,by simp,hz.monoB h.1.size⟩,λd=>h2 (d.resolve_right Ql),λd=>absurd (d.resolve_right Ql) λh7=>hd (h3 h7).1.1,λd=>h4 (d.resolve_right Ql),λ_ e he=>by
  obtain⟨g,e1,e2,_⟩:=h.2.2.1 (e.resolve_right Ql);rw[e1]at he;injection he with he;injection he with he;injection he with he;omega,h6⟩
def MkF.set3{U w:World}{n:Nat}{D:Nat->Prop}{s1 s2 s3 s4 s5:Value}(h:MkF U n D s1 s2 s3 s4 s5 w)(hn:n<=maxLen)(hd:¬D 3):MkF U n (λk=>D k\/k=3) s1 (.slice (some ⟨w.heap.size,0,none⟩) n n) s3 s4 s5 (w.alloc (.cells (zic n) 3)):=by
 have hz:=Zt.zeros w n hn;obtain⟨h0,h1,h2,h3,h4,h5,h6⟩:=h.later (Ze w (.cells (zic n) 3));exact⟨h0,λd=>h1 (d.resolve_right Ql),λ_=>⟨_,rfl,by simp,hz.monoB h.1.size⟩,λd=>absurd (d.resolve_right Ql) λh7=>hd (h3 h7).1.2,λd=>h4 (d.resolve_right Ql),λe _ he=>by
  obtain⟨g,e1,e2,_⟩:=h.2.1 (e.resolve_right Ql);rw[e1]at he;injection he with he;injection he with he;injection he with he;omega,h6⟩
def MkF.set4{U w:World}{n:Nat}{D:Nat->Prop}{s1 s2 s3 s4 s5:Value}(h:MkF U n D s1 s2 s3 s4 s5 w)(d1:D 1)(d3:D 3):MkF U n (λk=>D k\/k=4) s1 s2 (.agg #[s1,s2,.slice none 0 0,.slice none 0 0]) s4 s5 w:=by
 obtain⟨h0,h1,h2,h3,h4,h5,h6⟩:=h;exact⟨h0,λd=>h1 (d.resolve_right Ql),λd=>h2 (d.resolve_right Ql),λ_=>⟨⟨.inl d1,.inl d3⟩,rfl⟩,λd=>h4 (d.resolve_right Ql),λd e=>h5 (d.resolve_right Ql) (e.resolve_right Ql),h6⟩
def MkF.set5{U w:World}{n:Nat}{D:Nat->Prop}{s1 s2 s3 s4 s5:Value}(h:MkF U n D s1 s2 s3 s4 s5 w):MkF U n (λk=>D k\/k=5) s1 s2 s3 (.pointer (some ⟨w.heap.size,0,none⟩)) s5 (w.alloc (.cells #[.slice none 0 0,.slice none 0 0,.slice none 0 0,.slice none 0 0] 159)):=by
 have hz:=Bk.new w 159 [.slice none 0 0,.slice none 0 0,.slice none 0 0,.slice none 0 0];obtain⟨h0,h1,h2,h3,h4,h5,h6⟩:=h.later (Ze w (.cells #[.slice none 0 0,.slice none 0 0,.slice none 0 0,.slice none 0 0] 159));exact⟨h0,λd=>h1 (d.resolve_right Ql),λd=>h2 (d.resolve_right Ql),λd=>by
  obtain⟨⟨a,b⟩,e⟩:=h3 (d.resolve_right Ql);exact⟨⟨.inl a,.inl b⟩,e⟩,λ_=>⟨_,rfl,h.1.size,hz⟩,λd e=>h5 (d.resolve_right Ql) (e.resolve_right Ql),h6⟩
def Yry(U:World)(n:Nat)(s:Value)(wx:World):Prop:=
 ∃gf g0 g1,s= .pointer (some ⟨gf,0,none⟩)/\g0≠g1/\Bk wx gf 159 [.slice (some ⟨g0,0,none⟩) n n,.slice (some ⟨g1,0,none⟩) n n,.slice none 0 0,.slice none 0 0]/\
  Zt U.heap.size wx (.slice (some ⟨g0,0,none⟩) n n) (List.replicate n 0)/\Zt U.heap.size wx (.slice (some ⟨g1,0,none⟩) n n) (List.replicate n 0)/\Below U.heap.size U wx/\U.heap.size<=gf
def Yrz(n K:Nat)(Cs:Mx)(w:World)(o:Ending)(w':World):Prop:=
 Below w.heap.size w w'/\((∃(R C:Nat->Nat) (L Um:Mx) (s0 s1 s2 s3:Value),o= .returned (.tuple #[.agg #[s0,s1,s2,s3],.bool true])/\Zsu n (5^n*K) (trM Cs) R C L Um/\Zt w.heap.size w' s0 (Zpx n R)/\Zt w.heap.size w' s1 (Zpx n C)/\Ym w.heap.size w' s2 (vcL n L)/\Ym w.heap.size w' s3 (vcL n Um))\/
  (o= .returned (.tuple #[.agg #[.slice none 0 0,.slice none 0 0,.slice none 0 0,.slice none 0 0],.bool false])/\¬Xr n Cs))
end
section
attribute [local irreducible] Y9
def Zdw(v:Value)(n K:Nat)(Cs:Mx)(w:World)(h:VE w v (vcL n Cs))(hn:n<=7)(hK:1<=K)(hE:5^n*K<=4000000)(hs:∀r c,r<n->c<n->Sz K (Cs c r)):
 Calls prog 95 #[v] w (Yrz n K Cs w):=by
 obtain⟨A,c,rfl,gj,h8⟩:=h.shape;rw[Wt]at h gj⊢;have HV:=JZ h;have fq:=JZ hs;have HK:=JZ hK;have HE:=JZ hE;have gz:=Ydr n Qk;have h3:=Zab n Qk;obtain⟨W,hW,b0,T⟩:∃W,w.alloc (.cells #[.slice none 0 0,.slice none 0 0,.slice none 0 0,.slice none 0 0] 159)=W/\Bk W w.heap.size 159 [.slice none 0 0,.slice none 0 0,.slice none 0 0,.slice none 0 0]/\Below w.heap.size w W:=⟨_,rfl,Bk.new w _ _,Ze w _⟩;have dz:=JZ b0;have br:Hid (W.heap.size<=W.heap.size):=JZ (JY _);clear h hs b0 hK hE;go_enter func95,ntmps95
 go_upto_region 2 with(fail)
 clear hW
 go_cut [5] (λs5 wx=>Yrw W n s5 wx)
 case first=>
  refine Xk 9 (.go 0 (.go 1 (.go 3 (.go 5 (.bag [2,4,6,7,8] (.go 9 .done)))))) Qm Qm ?_;refine Qf ?_
  refine Zqc 29 31 33 34 5 _ _ _ _ _ (MkR W n) rfl Ql ⟨Zc W,λh=>h.elim,λh=>h.elim,λh=>h.elim,λh=>h.elim,λh=>h.elim,λh=>h.elim⟩ (iJ.2 ⟨?_,iJ.2 ⟨?_,iJ.2 ⟨?_,iJ.2 ⟨?_,iJ.2 ⟨?_,λ_ h=>absurd h eQ⟩⟩⟩⟩⟩) ?_
  ·refine WP.mk rfl λD s1 s2 s3 s4 s5 wx b d hnd o hR _ kq=>?_
   simp only[Zjl,Act.put,jX,jL,jO]at d;subst d;go_simp;have hN:=hR.set2 (by unfold maxLen;omega) hnd;exact kq.out _ _ (Or.inr hN.1) ⟨_,s2,s3,s4,s5,rfl,hN⟩
  ·refine WP.mk rfl λD s1 s2 s3 s4 s5 wx b d hnd o hR _ kq=>?_
   simp only[Zjl,Act.put,jX,jL,jO]at d;subst d;go_simp;have hN:=hR.set4 (by unfold maxLen;omega) hnd;exact kq.out _ _ (Or.inr hN.1) ⟨s1,_,s3,s4,s5,rfl,hN⟩
  ·refine WP.mk rfl λD s1 s2 s3 s4 s5 wx b d hnd o hR _ kq=>?_
   simp only[Zjl,Act.put,jX,jL,jO]at d;subst d;go_simp;have hN:=hR.set6 (by unfold maxLen;omega) hnd;exact kq.out _ _ (Or.inr hN.1) ⟨s1,s2,_,s4,s5,rfl,hN⟩
  ·refine WP.mk rfl λD s1 s2 s3 s4 s5 wx b d hnd o hR _ kq=>?_
   have d2:D 2:=o 2 Ql Qm;have d4:D 4:=o 4 Ql Qm;have d6:D 6:=o 6 Ql Qm;clear o;obtain⟨ga,rfl,_⟩:=hR.2.1 d2;obtain⟨gr,rfl,_⟩:=hR.2.2.1 d4;obtain⟨gc,rfl,_⟩:=hR.2.2.2.1 d6;simp only[Zjl,Act.put,jX,jL,jO]at d;subst d;go_simp;have hN:=hR.set7 d2 d4 d6;exact kq.out _ _ (Or.inr hN.1) ⟨_,_,_,_,s5,rfl,hN⟩
  ·refine WP.mk rfl λD s1 s2 s3 s4 s5 wx b d hnd o hR _ kq=>?_
   simp only[Zjl,Act.put,jX,jL,jO]at d;subst d;go_simp;have hN:=hR.set8;exact kq.out _ _ (Or.inr hN.1) ⟨s1,s2,s3,s4,_,rfl,hN⟩
  ·intro D s1 s2 s3 s4 s5 wx B hR;obtain⟨hb,p1,p2,p3,p4,p5,p6⟩:=hR;obtain⟨ga,rfl,hA⟩:=p1 (B 2 Ql);obtain⟨gr,rfl,_,hI⟩:=p2 (B 4 Ql);obtain⟨gc,rfl,_,hJ⟩:=p3 (B 6 Ql);obtain rfl:=(p4 (B 7 Ql)).2;obtain⟨ge,rfl,dh,hB⟩:=p5 (B 8 Ql);have cw:=p6 (B 4 Ql) (B 6 Ql);obtain⟨t0,t1,t2,t3⟩:=hB.four;obtain⟨f0,f1,f2,f3⟩:=hB.fourF;simp only[Zjl,Act.put,jX,jL,jO];refine Qp λ_ kq=>?_;refine kq.out _ _ (.inl Ql) ?_;clear kq;refine YQ ?_;go_wp2_with fail
   go_meet
   have k1:=hB.but4 (.int .i64 (n:Int)) (.slice (some ⟨ga,0,none⟩) n n) (.slice (some ⟨gr,0,none⟩) n n) (.slice (some ⟨gc,0,none⟩) n n);exact⟨ge,ga,gr,gc,rfl,λe=>cw (by rw[e]),hB.set4 _ _ _ _,k1.own hA Ql,hI.but k1 Ql,hJ.but k1 Ql,ZE hb dh _ _ _ _,dh⟩
 case rest=>
  obtain⟨ge,ga,gr,gc,rfl,cp,hB,hA,hI,hJ,l,dh⟩:=hcut;have e0:Yon W ge ga gr gc n 0 wc:=⟨λ_=>0,λ_=>0,hB,by rw[Zqd];exact hA,λr hr=>absurd hr Qk,λr s hr=>absurd hr Qk,by rw[Zqe];exact hI,by rw[Zqe];exact hJ,l⟩;have ch:=Vo n Qk;clear hB hA hI hJ l;go_wp2
  go_loopw [36] (λx wr=>∃i:Nat,i<=n/\x= .int .i64 i/\Yon W ge ga gr gc n i wr) (λx _=>n - (intOf x).toNat)
  case atStart=>exact⟨0,Qk,rfl,e0⟩
  case round=>
   clear e0;obtain⟨i,hi,rfl,G,D,hB,hA,hR,af,hI,hJ,l⟩:=hrel;rcases JX i n with hil|hil
   ·have fr:(i:Int)<n:=Qk;obtain⟨_,b1,_,_⟩:=hB.four;obtain⟨_,_,gk⟩:=Z0 hA;have HA:=JZ hA;have HB:=JZ hB;have e3:=JZ hR;have fs:=JZ af;have HI:=JZ hI;have HJ:=JZ hJ;have F:=Ze wr.drew (.cells (zfc n) 49);have cx:=Yy.zeros wr.drew n (by unfold maxLen;omega);obtain⟨W1,cb⟩:∃W1,wr.drew.alloc (.cells (zfc n) 49)=W1:=⟨_,rfl⟩;rw[cb]at F cx;have Y:Below wr.heap.size wr W1:=Za (Zc wr) F (JY _);obtain⟨m0,m1⟩:=ZN (own_below hA Y) (Zvy (G:=G) (D:=D) hil);clear hA hB hR af hI hJ F
    go_upto_region 6 with(fail)
    have C1:=Zm b1;have y:=Zc wr;clear b1;refine Zj 6 [0,1,2,3,4,5,6] Qm Qm ?_;refine Qb ?_
    refine Qo λ_ kq=>?_;refine kq.out _ _ (.inr Y) (Qc ?_);clear kq cb
    refine Qh ?_;refine Zl ?_;clear C1;have av:=own_below HA.out Y;have aw:=Xh av i (.slice (some ⟨wr.heap.size,0,none⟩) n n) (by rw[Wu];exact hil);rw[Zvz hil]at aw;obtain⟨_,eu,_⟩:=Z0 av;have kb:=Zf.setCell eu i (.slice (some ⟨wr.heap.size,0,none⟩) n n);have P:=kb.bk (HB.out.later Y) Ql;have bs:=(HI.out.below Y).but kb Ql;have bt:=(HJ.out.below Y).but kb Ql;have J:=(Za l Y l.size).setCell (p:=⟨ga,i,none⟩) gk (.slice (some ⟨wr.heap.size,0,none⟩) n n);have a5:∀r,r<i+1->Yy W.heap.size (W1.setCell ⟨ga,i,none⟩ (.slice (some ⟨wr.heap.size,0,none⟩) n n)) (Zcz n (Vu G i wr.heap.size) (Vu D i n) r) (rfL n λ_=>zeroF):=λr hr=>by
     by_cases e:r=i
     ·subst e;unfold Zcz;rw[ZO,ZO,<-Zdt];exact(Yy.monoB cx l.size).but kb Ql Ql
     ·unfold Zcz;rw[ZH Qk,ZH Qk];exact((e3.out r Qk).below Y).but kb Ql Ql
    have cj:∀r s,r<i+1->s<i+1->Vu G i wr.heap.size r=Vu G i wr.heap.size s->r=s:=λr s hr hs e=>by
     have e4:∀q,q<i->G q<wr.heap.size:=λq hq=>by
      obtain⟨g,c,hv,_,h2,_⟩:=(e3.out q hq).shape (by rw[Zw];omega);unfold Zcz at hv;injection hv with e1;injection e1 with e1;injection e1 with e1;omega
     by_cases e1:r=i
     ·by_cases e2:s=i
      ·omega
      ·rw[e1,ZO,ZH (show s<i by omega)]at e;have:=e4 s Qk;omega
     ·by_cases e2:s=i
      ·rw[e2,ZO,ZH (show r<i by omega)]at e;have:=e4 r Qk;omega
      ·rw[ZH (show r<i by omega),ZH (show s<i by omega)]at e;exact fs.out r s Qk Qk e
    have ft:=JZ a5;have e5:=JZ cj;clear av eu kb m0 m1 Y cx a5 cj l;generalize W1.setCell ⟨ga,i,none⟩ (.slice (some ⟨wr.heap.size,0,none⟩) n n)=W3 at *;obtain⟨_,_,b2,b3⟩:=P.four;obtain⟨x0,x1,_,_⟩:=bs.at_ (Znf hil);obtain⟨y0,y1,_,_⟩:=bt.at_ (Znf hil);obtain⟨ev,k3⟩:=bs.set_ (k:=i) (z:= -1) (by rw[XR];exact hil) Qk Qk;have cy:=bt.others (ZA.of_set (g:=gr) (i:=i) (v:= .int .i64 (-1)) (w:=W3)) (λb hb e=>by simp[Value.ownBlock]at hb;injection e with e;omega);obtain⟨ap,k4⟩:=cy.set_ (k:=i) (z:= -1) (by rw[XR];exact hil) Qk Qk;have cz:=ev.others (ZA.of_set (g:=gc) (i:=i) (v:= .int .i64 (-1)) (w:=W3.setCell ⟨gr,i,none⟩ (.int .i64 (-1)))) (λb hb e=>by simp[Value.ownBlock]at hb;injection e with e;omega);rw[Yiy hil]at cz ap;have k5:=k3.trans k4;have a2:=(J.setCell (p:=⟨gr,i,none⟩) bs.base (.int .i64 (-1))).setCell (p:=⟨gc,i,none⟩) bt.base (.int .i64 (-1));have fu:Yon W ge ga gr gc n (i+1) ((W3.setCell ⟨gr,i,none⟩ (.int .i64 (-1))).setCell ⟨gc,i,none⟩ (.int .i64 (-1))):=
     ⟨_,_,k5.bk P Ql,k5.own aw Ql,λr hr=>(ft.out r hr).but k5 Ql Ql,e5.out,cz,ap,a2⟩
    obtain⟨h9,ha,_,_⟩:=cy.at_ (Znf hil);clear aw bs bt ev cy cz ap k3 k4 k5 J a2 P;go_wp2;go_roundw
    case rel=>exact⟨i+1,Qk,by go_num,fu⟩
    case measure=>exact Qn
   ·obtain rfl:n=i:=Qk
    have hM:Zgs W.heap.size wr (.slice (some ⟨ga,0,none⟩) n n) n n (λ_ _=>zeroF) G D:=⟨by rw[<-Zvx];exact hA,hR,af⟩;rw[Yiz,<-Ydw (R:=λ_=>0)]at hI hJ;have hF:XW W ge ga gr gc n G D (UG n 0 λ_=>0) (UG n 0 λ_=>0) (Zaz (vcL n Cs) 0 0) wr:=⟨_,⟨hB,hM,hI,hJ,Wv,Wv⟩,λi j _ _=> .inr ⟨rfl,Zsx _ _ _⟩,l⟩;clear hA hR af hI hJ hM hB ch l;go_wp2
    go_loopw [56] (λx wr=>∃k:Nat,k<=n/\x= .int .i64 k/\XW W ge ga gr gc n G D (UG n 0 λ_=>0) (UG n 0 λ_=>0) (Zaz (vcL n Cs) k 0) wr) (λx _=>n - (intOf x).toNat)
    case atStart=>exact⟨0,Qk,rfl,hF⟩
    case round=>
     clear hF;obtain⟨k,hk,rfl,hF⟩:=hrel;rcases JX k n with hkl|hkl
     ·obtain⟨bc,oc,A1,c1,rfl,x0,hL⟩:=HV.out.vc (JR _ _) hkl;have I:=Za T hF.choose_spec.2.2 T.size;have y0:=Zi I x0;have e7:(k:Int)<n:=Qk;have e8:0<n:=Qk;obtain⟨ln,di⟩:∃ln,ln=(spV (Cs k) n).length:=⟨_,rfl⟩;have ea:=JZ di;rw[<-di]at x0 y0 hL;obtain⟨-,ew,ex⟩:=hL.len;have HL:=JZ hL;clear hL di I x0;go_wp2;clear y0
      go_loopw [63] (λx wr=>∃t:Nat,t<=ln/\x= .int .i64 t/\XW W ge ga gr gc n G D (UG n 0 λ_=>0) (UG n 0 λ_=>0) (Zaz (vcL n Cs) k t) wr) (λx _=>ln - (intOf x).toNat)
      case atStart=>exact⟨0,Qk,rfl,hF⟩
      case round=>
       clear hF;obtain⟨t,ht,rfl,hF⟩:=hrel;rcases JX t ln with htl|htl
       ·obtain⟨e,he⟩:=X3 (es:=spV (Cs k) n) (i:=t) (by rw[<-ea.out];exact htl);obtain⟨i0,bd,ey,ez,f4⟩:=Zbw he;obtain⟨b,hd,A2,n2,c2,A3,n3,c3,rfl,_,⟨x0,x1,x2,x3,x4⟩,f5⟩:=HL.out.elem (Za T hF.choose_spec.2.2 T.size) he;have fv:Hid (∀i j,i<n->j<n->Zaz (vcL n Cs) k (t+1) i j=if i=i0/\j=k then Cs k i0 else Zaz (vcL n Cs) k t i j):=JZ λi j _ _=>by
         rw[Zym (Zaa hkl) (Zmu _ _) he ey,ez,Zv]
        obtain⟨ei,f⟩:=e;simp only at *;subst ey ez;obtain⟨W1,cb,hV,dj⟩:=Zkf wr (.int .i64 (i0:Int)) (.bool (canF (Cs k i0)).num.neg) (.slice A2 n2 c2) (.bool (canF (Cs k i0)).den.neg) (.slice A3 n3 c3);obtain⟨v0,v1,v2,v3,v4⟩:=hV.five;have Z:=hF.below dj;have eb:=f5.below dj;obtain⟨M,⟨hB,hM,_⟩,_⟩:=id Z;obtain⟨_,b1,_,_⟩:=hB.four;obtain⟨m1,_⟩:=hM.cellAt bd;unfold Zcz at m1;obtain⟨l1,l2,l3,l4⟩:=hM.lt bd e8;obtain⟨_,_,_,_,_,_,⟨c0,gm,gn,gp⟩,_⟩:=hM.at_ bd hkl;obtain⟨f0,f1,f2,f3⟩:=hM.frozen bd hkl;have fr:(i0:Int)<n:=Qk;clear hF f5 he f4 hM hB hV dj
        go_upto_region 15 with(fail)
        clear cb;have C0:=Zm v0;have C1:=Zm v1;have C2:=Zm v2;have C3:=Zm v3;have C4:=Zm v4;have D1:=Zm b1;have D2:=Zm m1;have y:=Zc W1;clear v0 v1 v2 v3 v4 x0 x1 x2 x3 x4 b1 m1;refine Zj 10 [0,1,2,3,4,5,6,7,8,9,10] Qm Qm ?_;refine Qb ?_
        refine Qh ?_;refine Zl ?_;clear C0 C1 C2 C3 C4 D1 D2;have ag:=(Z.below y).setM bd hkl (eb.below y) fv.out;clear Z eb y c0 gm gn gp f0 f1 f2 f3;go_wp2;go_roundw
        case rel=>exact⟨t+1,Qk,by go_num,ag⟩
        case measure=>exact Qn
       ·obtain rfl:ln=t:=Qk
        have ag:=hF.congr (Q':=Zaz (vcL n Cs) (k+1) 0) λi j _ _=>by rw[ea.out];exact Zyn (Zaa hkl)
        clear hF;go_wp2;go_roundw
        case rel=>exact⟨k+1,Qk,by go_num,ag⟩
        case measure=>exact Qn
     ·obtain rfl:n=k:=Qk
      go_upto_region 18 with(fail)
      go_cut [11] (λs11 wx=>Yry wr n s11 wx)
      case first=>
       refine Xk 6 (.go 0 (.go 2 (.bag [1,3,4,5] (.go 6 .done)))) Qm Qm ?_;refine Qf ?_
       refine Zqc 80 82 83 11 4 _ _ _ _ _ (MkF wr n) rfl Ql ⟨Zc wr,λh=>h.elim,λh=>h.elim,λh=>h.elim,λh=>h.elim,λh=>h.elim,rfl⟩ (iJ.2 ⟨?_,iJ.2 ⟨?_,iJ.2 ⟨?_,iJ.2 ⟨?_,λ_ h=>absurd h eQ⟩⟩⟩⟩) ?_
       ·refine WP.mk rfl λD s1 s2 s3 s4 s5 wx b d hnd o hR _ kq=>?_
        obtain rfl:=hR.2.2.2.2.2.2;simp only[Zjl,Act.put,jX,jL,jO]at d;subst d;go_simp;have hN:=hR.set1 (by unfold maxLen;omega) hnd;exact kq.out _ _ (Or.inr hN.1) ⟨_,s2,s3,s4,_,rfl,hN⟩
       ·refine WP.mk rfl λD s1 s2 s3 s4 s5 wx b d hnd o hR _ kq=>?_
        obtain rfl:=hR.2.2.2.2.2.2;simp only[Zjl,Act.put,jX,jL,jO]at d;subst d;go_simp;have hN:=hR.set3 (by unfold maxLen;omega) hnd;exact kq.out _ _ (Or.inr hN.1) ⟨s1,_,s3,s4,_,rfl,hN⟩
       ·refine WP.mk rfl λD s1 s2 s3 s4 s5 wx b d hnd o hR _ kq=>?_
        obtain rfl:=hR.2.2.2.2.2.2;have d1:D 1:=o 1 Ql Qm;have d3:D 3:=o 3 Ql Qm;clear o;obtain⟨hg,rfl,_⟩:=hR.2.1 d1;obtain⟨hh,rfl,_⟩:=hR.2.2.1 d3;simp only[Zjl,Act.put,jX,jL,jO]at d;subst d;go_simp;have hN:=hR.set4 d1 d3;exact kq.out _ _ (Or.inr hN.1) ⟨_,_,_,s4,_,rfl,hN⟩
       ·refine WP.mk rfl λD s1 s2 s3 s4 s5 wx b d hnd o hR _ kq=>?_
        obtain rfl:=hR.2.2.2.2.2.2;simp only[Zjl,Act.put,jX,jL,jO]at d;subst d;go_simp;have hN:=hR.set5;exact kq.out _ _ (Or.inr hN.1) ⟨s1,s2,s3,_,_,rfl,hN⟩
       ·intro D s1 s2 s3 s4 s5 wx B hR;obtain⟨hb,p1,p2,p3,p4,p5,rfl⟩:=hR;obtain⟨g0,rfl,_,hI⟩:=p1 (B 1 Ql);obtain⟨g1,rfl,_,hJ⟩:=p2 (B 3 Ql);obtain rfl:=(p3 (B 4 Ql)).2;obtain⟨gf,rfl,cc,hB⟩:=p4 (B 5 Ql);have cw:=p5 (B 1 Ql) (B 3 Ql);obtain⟨t0,t1,t2,t3⟩:=hB.four;obtain⟨f0,f1,f2,f3⟩:=hB.fourF;simp only[Zjl,Act.put,jX,jL,jO];refine Qp λ_ kq=>?_;refine kq.out _ _ (.inl Ql) ?_;clear kq;refine YQ ?_;go_wp2_with fail
        go_meet
        have k1:=hB.but4 (.slice (some ⟨g0,0,none⟩) n n) (.slice (some ⟨g1,0,none⟩) n n) (.slice none 0 0) (.slice none 0 0);exact⟨gf,g0,g1,rfl,λe=>cw (by rw[e]),hB.set4 _ _ _ _,hI.but k1 Ql,hJ.but k1 Ql,ZE hb cc _ _ _ _,cc⟩
      case rest=>
       obtain⟨gf,g0,g1,rfl,cr,hB,hI,hJ,l,cc⟩:=hcut;have Z:=hF.below l;obtain⟨_,⟨bu,f6,a4,dk,ew,ex⟩,_,O⟩:=id hF;have ah:Hid (W.heap.size<=g0/\wr.heap.size<=g0/\gr<wr.heap.size/\gc<wr.heap.size):=JZ ⟨JW O.size hI.base,hI.base,U4 a4.1 gr rfl,U4 dk.1 gc rfl⟩;have ai:Hid (W.heap.size<=g1/\wr.heap.size<=g1/\gr<wr.heap.size/\gc<wr.heap.size):=JZ ⟨JW O.size hJ.base,hJ.base,U4 a4.1 gr rfl,U4 dk.1 gc rfl⟩;have fw:=U4 f6.1 ga rfl;have ec:Hid (W.heap.size<=gf):=JZ (JW O.size cc);have ed:=l.size;have ee:Hid (W.heap.size<=wc.heap.size/\ga<wc.heap.size):=JZ ⟨by have:=O.size;omega,Qk⟩;have hz:=Zvw 34 wc n (by unfold maxLen;omega);have F:=Ze wc (.cells (zvc n) 34);have ax:Yos W ge ga gr gc gf g0 g1 wc.heap.size n K 0 G D (trM Cs) (wc.alloc (.cells (zvc n) 34)):=by
        refine⟨trM Cs,λ_ _=>0,λ_=>0,λ_=>0,λ_=>0,λ_=>0,(Z.below F).congr λi j hi hj=>?_,Zbr.start _ _ _ _ _,λi j hi hj=>by rw[Nat.pow_zero,vv];exact fq.out i j hi hj,λs i hs=>absurd hs Qk,hB.later F,?_,?_,?_,λ_ _=>zeroF,λs hs=>absurd hs Qk⟩
        ·rw[Ydv hj,show(vcL n Cs).getD j []=spV (Cs j) n by simp[List.getD,Zaa hj],Zku,jB hi];rfl
        ·rw[<-Zqh];exact(hI.below F).monoB O.size
        ·rw[<-Zqh];exact(hJ.below F).monoB O.size
        ·rw[Zqd];exact VJ hz (JW O.size ed)
       clear hB hI hJ l Z bu f6 a4 dk ew ex O hz F hF fw ed;go_wp2;generalize wc.heap.size=gt at *;generalize wc.alloc (.cells (zvc n) 34)=W5 at *
       go_loopw [87] (λx wr=>∃t:Nat,t<=n/\x= .int .i64 t/\Yos W ge ga gr gc gf g0 g1 gt n K t G D (trM Cs) wr) (λx _=>n - (intOf x).toNat)
       case atStart=>exact⟨0,Qk,rfl,ax⟩
       case round=>
        clear ax;obtain⟨t,ht,rfl,hL⟩:=hrel;rcases JX t n with htl|htl
        ·obtain⟨a,m,R,C,Ff,E,hF,be,bf,bg,hR⟩:=hL;obtain⟨M,hE,hT,hb⟩:=id hF;have HF:=JZ hF;have HR:=JZ hR;have L:=JZ be;have ay:=JZ bf;have d0:=JZ bg;have HT:=JZ hT;have fx:Hid (∀i,i<n->G i<wr.heap.size):=JZ λi hi=>(hE.2.1.lt hi Qk).2.1
         have a3:=Za T hb T.size;have fy:(t:Int)<n:=Qk;clear hF be bf bg hR hT hb;go_wp2_with fail;refine(Zyl W.heap.size ge n _ _ _ M G D _ _ _ hE Qk).mono ?_;rintro _ w1 ⟨r0,c0,ok,rfl,dw,dx,ae⟩;clear hE
         cases ok with
         |false=>
          have o:¬Xr n Cs:=L.out.dep htl λi j hi hj h1 h2=>by
           have hz:=dx rfl i j hi hj;unfold Zyj at hz;rw[Zac hi,Zac hj,kE (Zav.2 h1),kE (Zav.2 h2)]at hz;simp only[Bool.true_and,vM]at hz;by_cases e:a i j=0
           ·exact e
           ·exact absurd ((HT.out i j hi hj).len.2 e) hz
          have d5:=dz.out.later (Za (HF.out.choose_spec.2.2.mono br.out) ae (JW br.out HF.out.choose_spec.2.2.size));have F:=Za a3 ae a3.size;obtain⟨t0,t1,t2,t3⟩:=d5.four;obtain⟨f0,f1,f2,f3⟩:=d5.fourF;clear dw dx a3;go_wp2;refine Xb results95 underlying159 Qm rfl (d5.set4 _ _ _ _) rfl ?_;exact⟨ZE F (JY _) _ _ _ _,.inr ⟨rfl,o⟩⟩
         |true=>
          obtain⟨r,c,rfl,rfl,hr,hc,bh⟩:=dw rfl;unfold Zyj at bh;rw[Zac hr,Zac hc,jU,jU,jh,jh,jh]at bh;obtain⟨f7,f8,f9⟩:=bh;have ef:=JZ (Zav.1 f7);have eg:=JZ (Zav.1 f8);have HP:=JZ ((HT.out r c hr hc).len.1 f9);have g2:(r:Int)<n:=Qk;have g3:(c:Int)<n:=Qk;clear f7 f8 f9 dw dx;have Z:=HF.out.below ae;have aj:=HR.out.below ae;obtain⟨a5,k2⟩:=aj.set0 cr (k:=t) (z:=(r:Int)) (by rw[UB];exact htl) Qk Qk;obtain⟨a6,k3⟩:=a5.set1 cr (k:=t) (z:=(c:Int)) (by rw[UB];exact htl) Qk Qk;rw[Zwd htl]at a5 a6;rw[Zwd htl]at a6;have ag:=Z.farI k2 ah.out.1 (by have:=ah.out;omega) (by have:=ah.out;omega);have az:=ag.farI k3 ai.out.1 (by have:=ai.out;omega) (by have:=ai.out;omega);obtain⟨y0,y1,_,_⟩:=aj.2.1.at_ (Zgu htl);obtain⟨z0,z1,_,_⟩:=aj.2.2.1.at_ (Zgu htl);have eh:=aj.1;have bu:=a5.1;have b0:=a6.1;obtain⟨s0,s1,_,_⟩:=aj.1.four;have az:=az.below (Zc _);have a6:=a6.below (Zc _);clear Z aj a5 ag k2 k3
          go_upto_region 26 with(fail)
          clear s0 s1;have C0:∀w',Bk w' gf 159 [.slice (some ⟨g0,0,none⟩) n n,.slice (some ⟨g1,0,none⟩) n n,.slice none 0 0,.slice none 0 0]->w'.cell? ⟨gf,0,none⟩=some (.slice (some ⟨g0,0,none⟩) n n):=λw' h=>h.four.1
          have C1:∀w',Bk w' gf 159 [.slice (some ⟨g0,0,none⟩) n n,.slice (some ⟨g1,0,none⟩) n n,.slice none 0 0,.slice none 0 0]->w'.cell? ⟨gf,1,none⟩=some (.slice (some ⟨g1,0,none⟩) n n):=λw' h=>h.four.2.1
          refine Zta (λw'=>Bk w' gf 159 [.slice (some ⟨g0,0,none⟩) n n,.slice (some ⟨g1,0,none⟩) n n,.slice none 0 0,.slice none 0 0]) eh 12 [0,1,2,3,4,5,6,7,8,9,10,11] Qm Qm ?_;refine Qb ?_
          refine Qo λ_ kq=>?_;refine kq.out _ _ (.inr bu) (Qc ?_);clear kq
          refine Qo λ_ kq=>?_;refine kq.out _ _ (.inr b0) (Qj ?_);clear kq;refine Zl ?_;clear C0 C1 eh bu b0 y0 y1 z0 z1;have F:=Za a3 ae a3.size;have h4:=((F.setCell (p:=⟨g0,t,none⟩) (JW T.size ah.out.1) (.int .i64 (r:Int))).setCell (p:=⟨g1,t,none⟩) (JW T.size ai.out.1) (.int .i64 (c:Int))).drew;have ej:wr.heap.size<=((w1.setCell ⟨g0,t,none⟩ (.int .i64 (r:Int))).setCell ⟨g1,t,none⟩ (.int .i64 (c:Int))).drew.heap.size:=(by simpa using ae.size);clear ae a3 F;generalize((w1.setCell ⟨g0,t,none⟩ (.int .i64 (r:Int))).setCell ⟨g1,t,none⟩ (.int .i64 (c:Int))).drew=W2 at *;obtain⟨_,⟨⟨hB,_,hI,hJ,_,_⟩,_,_⟩⟩:=id az;obtain⟨_,_,b2,b3⟩:=hB.four;obtain⟨cd,k4⟩:=az.setR cp hr (z:=(t:Int)) Qk Qk;obtain⟨al,k5⟩:=cd.setC cp hc (z:=(t:Int)) Qk Qk;rw[Zwc ef.out]at cd al;rw[Zwc eg.out]at al;have ek:=a6.farI k4 (by have:=ah.out;omega) (by have:=ai.out;omega);have a7:=ek.farI k5 (by have:=ah.out;omega) (by have:=ai.out;omega);obtain⟨y0,y1,_,_⟩:=hI.at_ (VP hr);obtain⟨_,⟨⟨_,_,_,ap,_,_⟩,_,_⟩⟩:=id cd;obtain⟨z0,z1,_,_⟩:=hJ.at_ (VP hc);obtain⟨gs,gv,_,_⟩:=ap.at_ (VP hc);have h5:wr.heap.size<=((W2.setCell ⟨gr,r,none⟩ (.int .i64 (t:Int))).setCell ⟨gc,c,none⟩ (.int .i64 (t:Int))).heap.size:=(by simpa using ej);clear az cd a6 ek k4 k5 hB hI hJ ap;go_wp2_with fail;clear b2 b3 y0 y1 z0 z1 gs gv;generalize(W2.setCell ⟨gr,r,none⟩ (.int .i64 (t:Int))).setCell ⟨gc,c,none⟩ (.int .i64 (t:Int))=W4 at *;obtain⟨M4,fa,fb,ce⟩:=al;have el:5^t*K<=5^n*K:=JS K (jS Ql Qk);have em:¬(UG n (t+1) (Vu R t r)).getD r 0<0:=λg=>((Vv hr).1 g).2 rfl
          refine(Zng W.heap.size ge n _ _ _ M4 G D _ _ a r c (5^t*K) _ fa fb Qk hr hc em HP.out ay.out (by have:=HE.out;omega) ce.size).mono ?_;rintro _ w5 ⟨v',rfl,M5,H,fm,fn,dy,hH,fo,fp,a2⟩;obtain⟨cs,cu,cv⟩:=Yjc L.out hr hc ef.out eg.out HP.out HK.out ay.out;obtain⟨g,cg,fc,hl,hm,gw,ho⟩:=dy.shape (by rw[Zw];omega);rw[Zw]at fc gw;subst fc;have ak:XW W ge ga gr gc n G D (UG n (t+1) (Vu R t r)) (UG n (t+1) (Vu C t c)) (elQ (UG n (t+1) (Vu R t r)) (UG n (t+1) (Vu C t c)) a r c n 0) w5:=⟨M5,fm,fn,ce.trans a2⟩;have a8:=a7.othP fp fo;obtain⟨m0,m1⟩:=ZN a8.2.2.2.1 (Zvy (G:=Ff) (D:=E) htl);obtain⟨a9,k7⟩:=a8.push htl (Yy.monoB dy ce.size) (λi hi=>⟨(hH i hi).1,(hH i hi).2.mono Qk⟩) (λi hi=>by have:=fx.out i hi;omega);have b4:=ak.farT k7 (v:= .slice (some ⟨g,0,none⟩) n cg) ee.out.1 (by have:=ee.out;omega);have g4:Yos W ge ga gr gc gf g0 g1 gt n K (t+1) G D (trM Cs) (w5.setCell ⟨gt,t,none⟩ (.slice (some ⟨g,0,none⟩) n cg)):=⟨_,_,_,_,_,_,b4,cs,cv,λs i hs hi=>by
           by_cases e:s=t
           ·subst e;rw[ZO];exact(cu i hi).mono Qk
           ·rw[ZH Qk];exact d0.out s i Qk hi,a9⟩
          clear fa fb ce fm fn dy hH fo fp a2 cs cu cv ak a8 a9 k7 b4 a7 em el;go_wp2;go_roundw
          case rel=>exact⟨t+1,Qk,by go_num,g4⟩
          case measure=>exact Qn
        ·obtain rfl:n=t:=Qk
         obtain⟨a,m,R,C,Ff,E,hF,be,bf,bg,hR⟩:=hL;rw[Zwe,Zwe]at hR;have L:=JZ be;have ay:=JZ bf;have d0:=JZ bg;have d7:Hid (1<=5^n*K):=JZ (aA (jg Ql) HK.out);have en:=Zit n Qk;have bv:=Ze wr (.cells (zvc n) 88);have eo:=Ym.zeros wr n (by unfold maxLen;omega);have al:=hF.below bv;have a7:=hR.below bv;obtain⟨a8,k6⟩:=a7.set2 (.slice (some ⟨wr.heap.size,0,none⟩) n n);obtain⟨s0,s1,s2,s3⟩:=a7.1.four;obtain⟨f0,f1,f2,f3⟩:=a7.1.fourF;have bw:=hF.choose_spec.2.2;have N:=(Za bw bv bw.size).setCell (p:=⟨gf,2,none⟩) ec.out (.slice (some ⟨wr.heap.size,0,none⟩) n n);have ak:=al.but k6 N Ql Ql Ql Ql Ql;have d8:=eo.but k6 Ql Ql Ql;have g5:=bw.size;obtain⟨gl,dl⟩:∃gl,gl=wr.heap.size:=⟨_,rfl⟩;have ep:Hid (W.heap.size<=gl):=JZ Qk;clear be bf bg hF hR al a7 eo k6 bw bv
         go_upto_region 31 with(fail)
         clear s0 s1 s2 s3 f0 f1 f2 f3;have b5:((wr.alloc (.cells (zvc n) 88)).setCell ⟨gf,2,none⟩ (.slice (some ⟨wr.heap.size,0,none⟩) n n)).heap.size=gl+1:=(by rw[dl];simp);rw[<-dl]at a8 d8 N ak b5⊢;generalize(wr.alloc (.cells (zvc n) 88)).setCell ⟨gf,2,none⟩ (.slice (some ⟨gl,0,none⟩) n n)=W6 at *;have g6:=JZ b5;clear b5 dl g5;have b6:=Ze W6 (.cells (zvc n) 88);have er:=Ym.zeros W6 n (by unfold maxLen;omega);have b4:=ak.below b6;have a9:=a8.below b6;have ck:=d8.below b6;obtain⟨dm,k8⟩:=a9.set3 (.slice (some ⟨W6.heap.size,0,none⟩) n n);obtain⟨s0,s1,s2,s3⟩:=a9.1.four;obtain⟨f0,f1,f2,f3⟩:=a9.1.fourF;have d9:=(Za N b6 N.size).setCell (p:=⟨gf,3,none⟩) ec.out (.slice (some ⟨W6.heap.size,0,none⟩) n n);have da:=b4.but k8 d9 Ql Ql Ql Ql Ql;have db:=(ck.but k8 Ql Ql Ql).monoB ep.out;have dc:=(er.but k8 Ql Ql Ql).monoB (show W.heap.size<=W6.heap.size from N.size);obtain⟨gu,fd⟩:∃gu,gu=W6.heap.size:=⟨_,rfl⟩;have cl:gl≠gu:=(by have:=g6.out;omega);have g7:=JZ fd;clear fd;clear ak a8 d8 b4 a9 er ck k8 N b6;go_wp2_with fail;clear s0 s1 s2 s3 f0 f1 f2 f3;rw[<-g7.out]at dm dc da d9 db⊢;generalize(W6.alloc (.cells (zvc n) 88)).setCell ⟨gf,3,none⟩ (.slice (some ⟨gu,0,none⟩) n n)=W8 at *;refine(Zfy _).mono ?_;rintro _ w9 ⟨v9,rfl,e9,a1⟩;obtain⟨Ao,ko,co,aa,ab,ac,rfl,_,_⟩:=id e9;have b7:=Bk.new w9 49 [.bool (canF 1).num.neg,.slice Ao ko co,.bool (canF 1).den.neg,.slice aa ab ac];have am:=Ze w9 (.cells #[.bool (canF 1).num.neg,.slice Ao ko co,.bool (canF 1).den.neg,.slice aa ab ac] 49);have d:=Za a1 am a1.size;have ax:LuM W ge ga gr gc gf g0 g1 gt gl gu w9.heap.size n (2* (5^n*K)) 0 0 G D R C Ff E a m (w9.alloc (.cells #[.bool (canF 1).num.neg,.slice Ao ko co,.bool (canF 1).den.neg,.slice aa ab ac] 49)):=
          ⟨da.below d,dm.below d,⟨_,_,_,_,_,_,b7,e9.below am⟩,by rw[<-Ziw];exact db.below d,by rw[<-Ziw];exact dc.below d⟩
         clear da dm db dc b7 am d e9 a1 d9;go_wp2;generalize w9.heap.size=go at *;generalize w9.alloc (.cells #[.bool (canF 1).num.neg,.slice Ao ko co,.bool (canF 1).den.neg,.slice aa ab ac] 49)=W9 at *;clear en
         go_loopw [136] (λx wr=>∃t:Nat,t<=n/\x= .int .i64 t/\LuM W ge ga gr gc gf g0 g1 gt gl gu go n (2* (5^n*K)) t t G D R C Ff E a m wr) (λx _=>n - (intOf x).toNat)
         case atStart=>exact⟨0,Qk,rfl,ax⟩
         case round=>
          clear ax;obtain⟨t,ht,rfl,dn⟩:=hrel;rcases JX t n with htl|htl
          ·have bx:=JZ dn;obtain⟨-,bi,⟨Ao,ko,co,aa,ab,ac,b7,fe⟩,-⟩:=dn;have ch:=Vo n Qk;have an:=Yy.zeros wr n (by unfold maxLen;omega);have S:=Ze wr (.cells (zfc n) 49);have am:=b7.later S;have cm:=fe.below S;obtain⟨o0,o1,o2,o3⟩:=am.four;have fy:(t:Int)<n:=Qk;obtain⟨_,_,_,_,⟨c0,c1,c2,c3⟩,⟨f0,f1,f2,f3⟩,-⟩:=an.at_ (k:=t) (f:=zeroF) (by simp[htl]);obtain⟨dp,k1⟩:=an.set_ (k:=t) (by simpa using htl) cm;rw[Zdt,Uy htl]at dp;have b8:=ZC S (JY _) (t*4) (t*4+1) (t*4+2) (t*4+3) (.bool (canF 1).num.neg) (.slice Ao ko co) (.bool (canF 1).den.neg) (.slice aa ab ac);obtain⟨m0,_⟩:=ZN (own_below bi.2.2.2.1 b8) (by rw[Zvx];exact Zda htl);unfold Zcz at m0;obtain⟨_,bj⟩:=bi.2.2.2.2;obtain⟨gq,cq,aq,-,-,ff,gx⟩:=(bj t htl).1.shape (by rw[Zw];omega);rw[Zw]at aq ff;unfold Zcz at aq;injection aq with hv1 hv2 aq;clear hv1 hv2;rw[<-aq]at ff gx;clear bi b7 fe am cm an bj aq
           go_upto_region 37 with(fail)
           generalize wr.alloc (.cells (zfc n) 49)=W6 at *
           go_upto_region 38 with(fail)
           clear o0 o1 o2 o3 c0 c1 c2 c3 f0 f1 f2 f3 k1 S;generalize(((W6.setCell ⟨wr.heap.size,t*4,none⟩ (.bool (canF 1).num.neg)).setCell ⟨wr.heap.size,t*4+1,none⟩ (.slice Ao ko co)).setCell ⟨wr.heap.size,t*4+2,none⟩ (.bool (canF 1).den.neg)).setCell ⟨wr.heap.size,t*4+3,none⟩ (.slice aa ab ac)=W8 at *;go_wp2;clear m0;generalize wr=V at *
           go_loopw [150] (λx wr=>∃k:Nat,k<=n/\x= .int .i64 k/\Below V.heap.size V wr/\∃L':Nat->RF,Yy V.heap.size wr (.slice (some ⟨V.heap.size,0,none⟩) n n) (rfL n L')/\∀p,p<n->(L' p).q=Zsz R m t k p/\(L' p).Rs (2* (5^n*K))) (λx _=>n - (intOf x).toNat)
           case atStart=>exact⟨0,Qk,rfl,b8,_,dp,λp hp=>by
            rw[Zyo];by_cases e:p=t
            ·simp only[jB e];exact⟨Zv _,Sz_one.rs.mono (by have:=d7.out;omega)⟩
            ·simp only[jA e];exact⟨zeroF_q,(Ut 1).mono (by have:=d7.out;omega)⟩⟩
           case round=>
            clear dp b8;obtain⟨k,hk,rfl,l,L',hO,U⟩:=hrel;rcases JX k n with hkl|hkl
            ·obtain⟨-,fg,-⟩:=bx.out;obtain⟨H0,bj⟩:=fg.2.2.2.2;obtain⟨fh,fi,-⟩:=bj t htl;obtain⟨bl,bm⟩:=fi k hkl;obtain⟨bz,oz,A5,n5,c5,A6,n6,c6,dq,_,⟨x0,x1,x2,x3⟩,ar⟩:=fh.frs.elem l (YE hkl);injection dq with dq;injection dq with av aw;subst av;subst aw;simp only[ji]at x0 x1 x2 x3;obtain⟨sx,bn,dr⟩:=L.out.ri.onto hkl;obtain⟨fz,fj⟩:∃fz,fz=H0 t k:=⟨_,rfl⟩;rw[<-fj]at x0 x2 ar bl bm;have et:=JZ bl;have g8:=JZ bm;have e7:(k:Int)<n:=Qk;have h6:(sx:Int)<n:=Qk;have g9:Hid (m t k≠0->∀p,p<n->Zsz R m t (k+1) p=if p=sx then m t k else Zsz R m t k p):=JZ λh0 p hp=>Ydy L.out.ri htl hp bn dr h0 (L.out.m0 t t htl (JY _))
             have gb:Hid (m t k=0->∀p,p<n->Zsz R m t k p=Zsz R m t (k+1) p):=JZ λh0 p hp=>Ydx (n:=n) h0
             have gd:Hid ((UG n n R)[k]? =some (sx:Int)):=JZ (by rw[VP hkl,<-dr,Yop L.out.ri bn]);clear fg bj fh fi fj dr bl bm;obtain⟨W9,gy,ds,a1⟩:=Xp wr (.bool fz.num.neg) (.slice A5 n5 c5) (.bool fz.den.neg) (.slice A6 n6 c6);obtain⟨v0,v1,v2,v3⟩:=ds.four;have dd:=ar.below a1;go_wp2_with fail;clear gy;refine(Zy _ fz _ dd).mono ?_;rw[et.out];rintro _ w2 ⟨rfl,bq⟩;have J:=Za (Za l a1 l.size) bq (JW l.size a1.size);have c4:=(hO.below a1).below bq;have de:=dd.below bq;have P:=ds.later bq;clear hO ar dd ds l a1 bq v0 v1 v2 v3 x0 x1 x2 x3;by_cases au:qs (m t k)=0
             ·have df:=JZ (Yg.1 au);rw[au];clear de P au;go_wp2;go_roundw
              case rel=>exact⟨k+1,Qk,by go_num,J,L',c4,λp hp=>⟨by rw[(U p hp).1,gb.out df.out p hp],(U p hp).2⟩⟩
              case measure=>exact Qn
             ·have df:Hid (m t k≠0):=JZ λe=>au (Yg.2 e)
              have gg:(qs (m t k) !=0)=true:=(by simpa using au);clear au;obtain⟨v0,v1,v2,v3⟩:=P.four;obtain⟨⟨M0,⟨bo,-,ad,-⟩,-⟩,-⟩:=bx.out.below J;obtain⟨_,_,b2,_⟩:=bo.four;obtain⟨p0,_,_,_⟩:=ad.at_ gd.out;obtain⟨_,_,_,_,⟨c0,c1,c2,c3⟩,⟨f0,f1,f2,f3⟩,_⟩:=c4.at_ (YE (f:=L') bn);clear bo ad P
              go_upto_region 42 with(fail)
              clear gg;have C0:=Zm v0;have C1:=Zm v1;have C2:=Zm v2;have C3:=Zm v3;have D0:=Zm b2;have D1:=Zm p0;have y:=Zc w2;clear v0 v1 v2 v3 b2 p0;refine Zj 8 [0,1,2,3,4,5,6,7,8] Qm Qm ?_;refine Qb ?_
              refine Qh ?_;refine Zl ?_;clear C0 C1 C2 C3 D0 D1;obtain⟨bp,_⟩:=(c4.below y).set_ (k:=sx) (by rw[Zw];exact bn) (de.below y);rw[Uy bn]at bp;have b9:=ZC (Za J y J.size) (JY _) (sx*4) (sx*4+1) (sx*4+2) (sx*4+3);clear c4 de J y c0 c1 c2 c3 f0 f1 f2 f3;go_wp2;go_roundw
              case rel=>
               refine⟨k+1,Qk,by go_num,b9 _ _ _ _,_,bp,λp hp=>?_⟩;rw[g9.out df.out p hp];by_cases e:p=sx
               ·simp only[jB e];exact⟨et.out,g8.out⟩
               ·simp only[jA e];exact U p hp
              case measure=>exact Qn
            ·obtain rfl:n=k:=Qk
             have I:=bx.out.below l;obtain⟨-,⟨X,-⟩,-,-,-⟩:=id I;obtain⟨-,-,s2,-⟩:=X.four;have ba:RsL (2* (5^n*K)) (rfL n L'):=λi f hf=>by
              have hi:i<n:=(by have:=(JO.1 hf).1;rwa[Zw]at this);rw[YE hi]at hf;injection hf with hf;subst hf;exact(U i hi).2
             have dg:Hid (spV (qAt (rfL n L')) (rfL n L').length=spV (luL R m t) n):=JZ (by
              rw[Zw];exact Wi λi hi=>by rw[Zmz hi,(U i hi).1,Yjd L.out.ri hi λq hq=>L.out.m0 t q htl hq])
             clear U X
             go_upto_region 44 with(fail)
             have D0:=Zm s2;have y:=Zc wr;clear s2;refine Zj 9 [0,1,2,3,4,5,6,7,8,9] Qm Qm ?_;refine Qb ?_
             refine Qo λ_ kq=>?_;(with_reducible refine(Xv _ _ (2* (5^n*K)) _ (hO.frs.below y) (by rw[Zw];omega) ba (by have:=HE.out;omega)).mono ?_);rintro _ w6 ⟨v6,rfl,e6,N⟩;have a0:=Za y N y.size;rw[dg.out]at e6;obtain⟨A7,n7,c7,rfl⟩:∃A n c,v6= .slice A n c:=by obtain⟨A,c,e,_⟩:=e6.vec.shape;exact⟨A,_,c,e⟩
             obtain⟨_,dt,du,_⟩:=(I.below a0).2.2.2.1.at_ (Zdv htl);refine kq.out _ _ (.inr a0) (Qc ?_);clear kq
             refine Qh ?_;refine Zl ?_;clear D0;have F:=(I.below a0).setL cl htl e6.vec;clear I hO l y a0 N e6 dt du bx;generalize w6.setCell ⟨gl,t,none⟩ (.slice A7 n7 c7)=W7 at *;have an:=Yy.zeros W7 n (by unfold maxLen;omega);have S:=Ze W7 (.cells (zfc n) 49);have cn:=JZ F;clear F;go_wp2
             go_loopw [180] (λx wr=>∃k:Nat,k<=t+1/\x= .int .i64 k/\Below W7.heap.size W7 wr/\∃L':Nat->RF,Yy W7.heap.size wr (.slice (some ⟨W7.heap.size,0,none⟩) n n) (rfL n L')/\∀p,p<n->(L' p).q=upP R C a t k p/\(L' p).Rs (2* (5^n*K))) (λx _=>t+1 - (intOf x).toNat)
             case atStart=>exact⟨0,Qk,rfl,S,λ_=>zeroF,by rw[<-Zdt];exact an,λp hp=>⟨by unfold upP;rw[jA Qk];exact zeroF_q,(Ut 1).mono (by have:=d7.out;omega)⟩⟩
             case round=>
              clear an S;obtain⟨k,hk,rfl,l,L',hO,U⟩:=hrel;rcases JX k (t+1)with hkl|hkl
              ·have I:=cn.out.below l;obtain⟨⟨M0,⟨bo,cf,-⟩,dv,-⟩,⟨X,ad,a4,-⟩,-⟩:=I;have bb:k<n:=Qk;have ao:R k<n:=L.out.ri.1 k bb;have c8:C t<n:=L.out.ci.1 t htl;obtain⟨_,b1,_,_⟩:=bo.four;obtain⟨s0,s1,_,_⟩:=X.four;obtain⟨y0,_,_,_⟩:=ad.at_ (Zgt bb);obtain⟨z0,_,_,_⟩:=a4.at_ (Zgt htl);obtain⟨m1,_⟩:=cf.cellAt ao;unfold Zcz at m1;obtain⟨l1,l2,l3,l4⟩:=cf.lt ao Qk;obtain⟨A5,n5,c5,A6,n6,c6,⟨x0,x1,x2,x3⟩,ar⟩:=cf.at_ ao c8;have gh:Hid ((M0 (R k) (C t)).q=a (R k) (C t)/\(M0 (R k) (C t)).Rs (2* (5^n*K))):=JZ ⟨(dv _ _ ao c8).q,((dv _ _ ao c8).rs (ay.out _ _ ao c8)).mono Qk⟩;have gi:Hid (∀p,upP R C a t (k+1) p=if p=k then a (R k) (C t)else upP R C a t k p):=JZ λp=>Yje p
               obtain⟨_,_,_,_,⟨c0,c1,c2,c3⟩,⟨f0,f1,f2,f3⟩,_⟩:=hO.at_ (YE (f:=L') bb);generalize M0 (R k) (C t)=fz at *;generalize a (R k) (C t)=qz at *;generalize R k=rk at *;generalize C t=ct at *;have e7:(k:Int)<n:=Qk;have g2:(rk:Int)<n:=Qk;have g3:(ct:Int)<n:=Qk;clear bo cf dv X ad a4
               go_upto_region 49 with(fail)
               have C0:=Zm x0;have C1:=Zm x1;have C2:=Zm x2;have C3:=Zm x3;have D0:=Zm b1;have D1:=Zm s0;have D2:=Zm s1;have D3:=Zm y0;have D4:=Zm z0;have D5:=Zm m1;have y:=Zc wr;clear x0 x1 x2 x3 b1 s0 s1 y0 z0 m1;refine Zj 19 [0,1,2,3,4,5,6,7,8,9,10,11,12,13,14,15,16,17,18,19] Qm Qm ?_;refine Qb ?_
               refine Qh ?_;refine Zl ?_;clear C0 C1 C2 C3 D0 D1 D2 D3 D4 D5;obtain⟨bp,_⟩:=(hO.below y).set_ (k:=k) (by rw[Zw];exact bb) (ar.below y);rw[Uy bb]at bp;have b9:=ZC (Za l y l.size) (JY _) (k*4) (k*4+1) (k*4+2) (k*4+3);clear hO ar l y c0 c1 c2 c3 f0 f1 f2 f3;go_wp2;go_roundw
               case rel=>
                refine⟨k+1,Qk,by go_num,b9 _ _ _ _,_,bp,λp hp=>?_⟩;rw[gi.out p];by_cases e:p=k
                ·simp only[jB e];exact gh.out
                ·simp only[jA e];exact U p hp
               case measure=>exact Qn
              ·obtain rfl:k=t+1:=Qk
               have I:=cn.out.below l;obtain⟨-,⟨X,-⟩,-,-,-⟩:=id I;obtain⟨-,-,-,s3⟩:=X.four;have ba:RsL (2* (5^n*K)) (rfL n L'):=λi f hf=>by
                have hi:i<n:=(by have:=(JO.1 hf).1;rwa[Zw]at this);rw[YE hi]at hf;injection hf with hf;subst hf;exact(U i hi).2
               have dg:Hid (spV (qAt (rfL n L')) (rfL n L').length=spV (luU R C a t) n):=JZ (by
                rw[Zw];exact Wi λi hi=>by rw[Zmz hi,(U i hi).1,Yoq])
               clear U X
               go_upto_region 51 with(fail)
               have D0:=Zm s3;have y:=Zc wr;clear s3;refine Zj 9 [0,1,2,3,4,5,6,7,8,9] Qm Qm ?_;refine Qb ?_
               refine Qo λ_ kq=>?_;(with_reducible refine(Xv _ _ (2* (5^n*K)) _ (hO.frs.below y) (by rw[Zw];omega) ba (by have:=HE.out;omega)).mono ?_);rintro _ w6 ⟨v6,rfl,e6,N⟩;have a0:=Za y N y.size;rw[dg.out]at e6;obtain⟨A7,n7,c7,rfl⟩:∃A n c,v6= .slice A n c:=by obtain⟨A,c,e,_⟩:=e6.vec.shape;exact⟨A,_,c,e⟩
               obtain⟨_,dt,du,_⟩:=(I.below a0).2.2.2.2.at_ (Zdv htl);refine kq.out _ _ (.inr a0) (Qc ?_);clear kq
               refine Qh ?_;refine Zl ?_;clear D0;have F:=(I.below a0).setU cl htl e6.vec;clear I hO l y a0 N e6 dt du;go_wp2;go_roundw
               case rel=>exact⟨t+1,Qk,by go_num,F⟩
               case measure=>exact Qn
          ·obtain rfl:n=t:=Qk
           obtain⟨⟨_,-,-,O⟩,⟨X,ad,a4,-,-⟩,-,fk,fl⟩:=dn;rw[Zwf]at fk fl;obtain⟨s0,s1,s2,s3⟩:=X.four;have h7:=(O.mono br.out);have c9:=dz.out.later (O.mono br.out);have a3:=Za T O T.size;have ca:=T.size;obtain⟨t0,t1,t2,t3⟩:=c9.four;obtain⟨f0,f1,f2,f3⟩:=c9.fourF;go_wp2;have kk:=c9.but4 (.slice (some ⟨g0,0,none⟩) n n) (.slice (some ⟨g1,0,none⟩) n n) (.slice (some ⟨gl,0,none⟩) n n) (.slice (some ⟨gu,0,none⟩) n n);refine Xb results95 underlying159 Qm rfl (c9.set4 _ _ _ _) rfl ?_;exact⟨ZE a3 (JY _) _ _ _ _,.inl ⟨R,C,luL R m,luU R C a,_,_,_,_,rfl,L.out.facS Qk HK.out HE.out ay.out d0.out,(ad.but kk Ql).monoB ca,(a4.but kk Ql).monoB ca,(fk.but kk Ql Ql Ql).monoB ca,(fl.but kk Ql Ql Ql).monoB ca⟩⟩
end
section
def Zlc(base bi:Nat)(w:World)(v:Value)(T n:Nat)(k:Nat->Nat)(im:Mx):Prop:=
 ∃cs,w.ownsRow base 171 2 v T cs/\∀t,t<T->∃u,cs[t*2]? =some (.int .i64 (k t:Int))/\cs[t*2+1]? =some u/\Yy bi w u (Yn n (im t))
section
variable {base bi:Nat} {w w':World} {v:Value} {T n:Nat} {k:Nat->Nat} {im:Mx}
def Zlc.below(h:Zlc base bi w v T n k im)(hb:Below w.heap.size w w'):Zlc base bi w' v T n k im:=by
 obtain⟨cs,h1,h2⟩:=h;exact⟨cs,own_below h1 hb,λt ht=>by
  obtain⟨u,e1,e2,e3⟩:=h2 t ht;exact⟨u,e1,e2,e3.below hb⟩⟩
def Zlc.but{e:TypeId}(h:Zlc base bi w v T n k im)(hk:Zf e w w')(h1:171≠e)(h2:49≠e)(h3:71≠e):Zlc base bi w' v T n k im:=by
 obtain⟨cs,g1,g2⟩:=h;exact⟨cs,hk.own g1 h1,λt ht=>by
  obtain⟨u,e1,e2,e3⟩:=g2 t ht;exact⟨u,e1,e2,e3.but hk h2 h3⟩⟩
def Zlc.farF(h:Zlc base bi w v T n k im){g:Nat}(ho:ZA (some g) w w')(hk:Zf 49 w w')(hg:g<bi):Zlc base bi w' v T n k im:=by
 obtain⟨cs,g1,g2⟩:=h;exact⟨cs,hk.own g1 Ql,λt ht=>by
  obtain⟨u,e1,e2,e3⟩:=g2 t ht;exact⟨u,e1,e2,e3.others ho (hk.keep Ql) λb hb e=>by
   have:=e3.own_ge b hb;injection e with e;omega⟩⟩
def Zlc.nil(base bi:Nat)(w:World)(n:Nat)(k:Nat->Nat)(im:Mx):Zlc base bi w (.slice none 0 0) 0 n k im:=⟨[],kY _ _ _ _,λt ht=>absurd ht Qk⟩
end
def Zfc(base bi:Nat)(w:World)(g n K:Nat)(Cs:Mx):Prop:=
 ∃(T gc cc:Nat) (k R C:Nat->Nat) (im V L Um:Mx) (CC:Nat->Mx) (s0 s1 s2 s3 vu:Value),
  Bk w g 164 [.int .i64 (n:Int),.slice (some ⟨gc,0,none⟩) n cc,s0,s1,s2,s3,vu]/\(base<=g/\T<=16/\5^n*K<=4000000/\CC T=Cs)/\Ups n K T k im V CC/\Zsu n (5^n*K) (trM (CC 0)) R C L Um/\
  Ym base w (.slice (some ⟨gc,0,none⟩) n cc) (vcL n Cs)/\Zt base w s0 (Zpx n R)/\Zt base w s1 (Zpx n C)/\Ym (gc+1) w s2 (vcL n L)/\Ym (gc+1) w s3 (vcL n Um)/\Zlc base bi w vu T n k im
section
variable {base bi g n K:Nat} {w w':World} {Cs:Mx}
def Zfc.below(h:Zfc base bi w g n K Cs)(hb:Below w.heap.size w w'):Zfc base bi w' g n K Cs:=by
 obtain⟨T,gc,cc,k,R,C,im,V,L,Um,CC,s0,s1,s2,s3,vu,h1,h2,h3,h4,h5,h6,h7,h8,h9,a⟩:=h;exact⟨T,gc,cc,k,R,C,im,V,L,Um,CC,s0,s1,s2,s3,vu,h1.later hb,h2,h3,h4,h5.below hb,h6.below hb,h7.below hb,h8.below hb,h9.below hb,a.below hb⟩
def Zfc.but{e:TypeId}(h:Zfc base bi w g n K Cs)(hk:Zf e w w')(e1:164≠e)(e2:88≠e)(e3:86≠e)(e4:71≠e)(e5:3≠e)(e6:171≠e)(e7:49≠e):Zfc base bi w' g n K Cs:=by
 obtain⟨T,gc,cc,k,R,C,im,V,L,Um,CC,s0,s1,s2,s3,vu,h1,h2,h3,h4,h5,h6,h7,h8,h9,a⟩:=h;exact⟨T,gc,cc,k,R,C,im,V,L,Um,CC,s0,s1,s2,s3,vu,hk.bk h1 e1,h2,h3,h4,h5.but hk e2 e3 e4,h6.but hk e5,h7.but hk e5,h8.but hk e2 e3 e4,h9.but hk e2 e3 e4,a.but hk e6 e7 e4⟩
def Zfc.farF(h:Zfc base bi w g n K Cs){b:Nat}(ho:ZA (some b) w w')(hk:Zf 49 w w')(hb:b<bi):Zfc base bi w' g n K Cs:=by
 obtain⟨T,gc,cc,k,R,C,im,V,L,Um,CC,s0,s1,s2,s3,vu,h1,h2,h3,h4,h5,h6,h7,h8,h9,a⟩:=h;exact⟨T,gc,cc,k,R,C,im,V,L,Um,CC,s0,s1,s2,s3,vu,hk.bk h1 Ql,h2,h3,h4,h5.but hk Ql Ql Ql,h6.but hk Ql,h7.but hk Ql,h8.but hk Ql Ql Ql,h9.but hk Ql Ql Ql,a.farF ho hk hb⟩
def Zt.ge{base:Nat}{w:World}{v:Value}{zs:List Int}(h:Zt base w v zs):∀b,v.ownBlock=some b->base<=b:=by
 intro b hb;rcases h.1.2 with⟨rfl,_⟩|⟨g',cap,cur,rfl,hb',_⟩
 ·simp[Value.ownBlock]at hb
 ·simp[Value.ownBlock]at hb;omega
def Zfc.farI(h:Zfc base bi w g n K Cs){b:Nat}(ho:ZA (some b) w w')(hk:Zf 3 w w')(hb:b<base):Zfc base bi w' g n K Cs:=by
 obtain⟨T,gc,cc,k,R,C,im,V,L,Um,CC,s0,s1,s2,s3,vu,h1,h2,h3,h4,h5,h6,h7,h8,h9,a⟩:=h;exact⟨T,gc,cc,k,R,C,im,V,L,Um,CC,s0,s1,s2,s3,vu,hk.bk h1 Ql,h2,h3,h4,h5.but hk Ql Ql Ql,h6.others ho (λx hx e=>by have:=h6.ge x hx;injection e with e;omega),h7.others ho (λx hx e=>by have:=h7.ge x hx;injection e with e;omega),h8.but hk Ql Ql Ql,h9.but hk Ql Ql Ql,a.but hk Ql Ql Ql⟩
def Zt.nshape{base:Nat}{w:World}{v:Value}{n:Nat}{R:Nat->Nat}(h:Zt base w v (Zpx n R)):∃A c,v= .slice A n c:=by
 obtain⟨A,m,c,rfl⟩:=h.sliceN;have:=h.len;rw[Ziu]at this;subst this;exact⟨A,c,rfl⟩
def Ym.nshape{base:Nat}{w:World}{v:Value}{n:Nat}{L:Mx}(h:Ym base w v (vcL n L)):∃A c,v= .slice A n c:=by
 obtain⟨A,c,rfl⟩:=h.slice;rw[Wt];exact⟨A,c,rfl⟩
def Yls{w:World}{g n:Nat}{vn vc s0 s1 s2 s3 vu:Value}{R C:Nat->Nat}{L Um:Mx}{b0 b1 b2 b3:Nat}(h:Bk w g 164 [vn,vc,s0,s1,s2,s3,vu])(h6:Zt b0 w s0 (Zpx n R))(h7:Zt b1 w s1 (Zpx n C))(h8:Ym b2 w s2 (vcL n L))(h9:Ym b3 w s3 (vcL n Um)):Ypw w g 2 n R C L Um:=by
 obtain⟨A0,c0,rfl⟩:=h6.nshape;obtain⟨A1,c1,rfl⟩:=h7.nshape;obtain⟨A2,c2,rfl⟩:=h8.nshape;obtain⟨A3,c3,rfl⟩:=h9.nshape;exact⟨A0,c0,A1,c1,A2,c2,A3,c3,⟨h.cellAt 2 rfl,h.cellAt 3 rfl,h.cellAt 4 rfl,h.cellAt 5 rfl⟩,h6.ints,h7.ints,h8.vecs,h9.vecs⟩
end
namespace Pl
def Good.enI{n:Nat}{es:List En}(h:Good n es)(hn:n<=4096):EnI es:=λk e he=>by have:=h.1 k e he;omega
end Pl
def Ytm(n K:Nat)(Cs:Mx)(w:World)(o:Ending)(w':World):Prop:=
 Below w.heap.size w w'/\((∃g,o= .returned (.tuple #[.pointer (some ⟨g,0,none⟩),.int .i64 0])/\Xr n Cs/\∀bi,Zfc w.heap.size bi w' g n K Cs)\/(o= .returned (.tuple #[.pointer none,.int .i64 13])/\¬Xr n Cs))
end
def Yjg(v:Value)(n K:Nat)(cols:List (List En))(Cs:Mx)(w:World)(h:VE w v cols)(hl:cols.length=n)(hn:n<=7)(hK:1<=K)(hE:5^n*K<=4000000)(hg:∀(k:Nat) (c:List En),cols[k]? =some c->Pl.Good n c/\∀(j:Nat) (e:En),c[j]? =some e->e.f.Rs K)(hCs:∀(k:Nat) (c:List En),cols[k]? =some c->Cs k=X5 c):
 Calls prog 55 #[.int .i64 (n:Int),v] w (Ytm n K Cs w):=by
 obtain⟨A,c,rfl,Z,a5⟩:=h.shape;rw[hl]at h Z⊢;have HV:=JZ h;have HG:=JZ hg;have HL:=JZ hl;have HK:=JZ hK;have HE:=JZ hE;have F:Hid (∀r c,r<n->c<n->Sz K (Cs c r)):=JZ λr c hr hc=>by
  obtain⟨d,hd⟩:=WC (cs:=cols) (i:=c) Qk;rw[hCs c d hd];exact Sz_col (hg c d hd).2 hK r
 have a2:K<=4000000:=JW (vR K (jg Ql)) hE;have a3:=Zit n Qk;have B:=Ym.zeros w n (by unfold maxLen;omega);have G:=Ze w (.cells (zvc n) 88);rw[Ziw (L:=Cs)]at B;have T:=JZ hCs;clear h hg hl hK hE hCs;go_enter func55,ntmps55;go_wp2;generalize w.alloc (.cells (zvc n) 88)=W at *
 go_loopw [26] (λx wr=>∃k:Nat,k<=n/\x= .int .i64 k/\Ym w.heap.size wr (.slice (some ⟨w.heap.size,0,none⟩) n n) (Zyr n k Cs)/\Below w.heap.size w wr) (λx _=>n - (intOf x).toNat)
 case atStart=>exact⟨0,Qk,rfl,B,G⟩
 case round=>
  clear B G;obtain⟨k,hk,rfl,hO,g⟩:=hrel;rcases JX k n with hkl|hkl
  ·obtain⟨es,u⟩:=WC (cs:=cols) (i:=k) (by rw[HL.out];exact hkl);obtain⟨q,P⟩:=HG.out k es u;obtain⟨b,a6,A1,c1,rfl,_,x0,hv⟩:=HV.out.elem g u;have a4:(k:Int)<n:=Qk;have HM:=JZ (T.out k es u);have HC:=JZ (cpyV_spV q);have U:Hid (vecErr es (n:Int)=0):=JZ (q.err Qk);have V:=JZ P;have H:=q.enI Qk;have X:Hid (es.length<=1099511627776):=JZ (by
    have e1:(Zra es).length=es.length:=(by simp[Zra]);rw[cpyV_spV q]at e1;have:=Vh (f:=X5 es) n;omega)
   clear u q P;go_wp2_with fail;refine(X4 _ es (n:Int) _ hv H Qk Qk).mono ?_;rw[U.out];rintro _ w1 ⟨rfl,l⟩;have I:=hv.below l;have s:=hO.below l;have a:=Za g l g.size;clear hv hO g l x0 H;go_wp2_with fail;refine(Zbi _ es K _ I V.out Qk X.out).mono ?_;rintro _ w2 ⟨v2,rfl,e2,E⟩;rw[HC.out,<-HM.out]at e2;have D:=s.below E;have y:=Za a E a.size;obtain⟨_,m0,m1,-⟩:=D.at_ (Zdv (t:=k) (L:=Cs) hkl);obtain⟨S,_⟩:=D.set_ (k:=k) (by rw[Vw];exact hkl) e2.vec;rw[Znj hkl]at S;have J:=y.setCell (p:=⟨w.heap.size,k,none⟩) (JY _) v2;obtain⟨A2,n2,c2,rfl⟩:∃A n c,v2= .slice A n c:=by obtain⟨A,c,e,_⟩:=e2.vec.shape;exact⟨A,_,c,e⟩
   clear I s D a y e2 E;go_wp2;go_roundw
   case rel=>exact⟨k+1,Qk,by go_num,S,J⟩
   case measure=>exact Qn
  ·obtain rfl:n=k:=Qk
   rw[Zwf]at hO;have HO:=JZ hO;go_wp2_with fail;refine(Zdw _ n K _ _ hO.vecs Qk HK.out HE.out F.out).mono ?_;clear hO;rintro _ w1 ⟨l,⟨R,C,L,Um,s0,s1,s2,s3,rfl,hF,h0,h1,h2,h3⟩|⟨rfl,a1⟩⟩
   ·have s:=HO.out.below l;have a:=Za g l g.size;have M:=g.size;have N:w.heap.size<wr.heap.size:=by
     obtain⟨cs,hh,_⟩:=HO.out;exact U4 hh w.heap.size rfl
    have z:Xr n Cs:=hF.fac.indep;have O:=JZ z;have HF:=JZ hF;obtain⟨A0,c0,rfl⟩:=h0.nshape;obtain⟨A1,c1,rfl⟩:=h1.nshape;obtain⟨A2,c2,rfl⟩:=h2.nshape;obtain⟨A3,c3,rfl⟩:=h3.nshape;have hX:=Bk.new w1 159 [.slice A0 n c0,.slice A1 n c1,.slice A2 n c2,.slice A3 n c3];have o:=Ze w1 (.cells #[.slice A0 n c0,.slice A1 n c1,.slice A2 n c2,.slice A3 n c3] 159);clear hF z g;obtain⟨W2,a0,hX,o⟩:∃W2,w1.alloc (.cells #[.slice A0 n c0,.slice A1 n c1,.slice A2 n c2,.slice A3 n c3] 159)=W2/\Bk W2 w1.heap.size 159 [.slice A0 n c0,.slice A1 n c1,.slice A2 n c2,.slice A3 n c3]/\Below w1.heap.size w1 W2:=⟨_,rfl,hX,o⟩;obtain⟨x0,x1,x2,x3⟩:=hX.four;go_wp2;clear a0 x0 x1 x2 x3 hX;have hY:=Bk.new W2 164 [.int .i64 (n:Int),.slice (some ⟨w.heap.size,0,none⟩) n n,.slice A0 n c0,.slice A1 n c1,.slice A2 n c2,.slice A3 n c3,.slice none 0 0];have Y:=Ze W2 (.cells #[.int .i64 (n:Int),.slice (some ⟨w.heap.size,0,none⟩) n n,.slice A0 n c0,.slice A1 n c1,.slice A2 n c2,.slice A3 n c3,.slice none 0 0] 164);have m:=Za o Y o.size;go_ret2;refine⟨Za a m a.size,.inl ⟨_,rfl,O.out,λbi=>⟨0,w.heap.size,n,λ_=>0,R,C,λ_ _=>0,λ_ _=>0,L,Um,λ_=>Cs,_,_,_,_,_,hY,⟨JW a.size o.size,Qk,HE.out,rfl⟩,Ups.zero F.out O.out _ _ _,HF.out,s.below m,(h0.below m).monoB M,(h1.below m).monoB M,(h2.below m).monoB N,(h3.below m).monoB N,Zlc.nil _ _ _ _ _ _⟩⟩⟩
   ·have a:=Za g l g.size;clear g l;go_wp2;go_ret2;exact⟨Za a (Ze _ _) a.size,.inr ⟨rfl,a1⟩⟩
namespace Pl
def Zgv(k:Nat)(im x:Nat->Rat)(i:Nat):Nat->Rat:=λj=>if j=k then x k/im k else if j<i then x j - im j* (x k/im k)else x j
def Yjh{k n:Nat}{im x:Nat->Rat}{j:Nat}(hj:j<n):Zgv k im x n j=Zyg k im x j:=by
 unfold Zgv Zyg;by_cases e:j=k
 ·rw[jB e,jB e]
 ·rw[jA e,jA e,jB hj]
def Zqi{k i:Nat}{im x:Nat->Rat}(h:i=k\/im i=0)(j:Nat):Zgv k im x i j=Zgv k im x (i+1) j:=by
 unfold Zgv;by_cases e:j=k
 ·rw[jB e,jB e]
 ·rw[jA e,jA e];by_cases e2:j<i
  ·rw[jB e2,jB Qk]
  ·rw[jA e2];by_cases e3:j=i
   ·subst e3;rw[jB Qk];rcases h with h|h
    ·exact absurd h e
    ·rw[h];grind
   ·rw[jA Qk]
def Ydz{k i:Nat}{im x:Nat->Rat}(h:i≠k)(j:Nat):Zgv k im x (i+1) j=if j=i then x i - im i* (x k/im k)else Zgv k im x i j:=by
 unfold Zgv;by_cases e:j=i
 ·subst e;rw[jB rfl,jA h,jB Qk]
 ·rw[jA e];by_cases e2:j=k
  ·rw[jB e2,jB e2]
  ·rw[jA e2,jA e2];by_cases e3:j<i
   ·rw[jB e3,jB Qk]
   ·rw[jA e3,jA Qk]
def Yea{k i:Nat}{im x:Nat->Rat}(h:i≠k):Zgv k im x i i=x i:=by unfold Zgv;rw[jA h,jA Qk]
def Ysa{k i:Nat}{im x:Nat->Rat}:Zgv k im x i k=x k/im k:=by unfold Zgv;rw[jB rfl]
end Pl
def Zlc.shape{base bi:Nat}{w:World}{v:Value}{T n:Nat}{k:Nat->Nat}{im:Mx}(h:Zlc base bi w v T n k im):∃A c,v= .slice A T c/\T<=c/\c<=9223372036854775807:=by
 obtain⟨cs,h1,_⟩:=h;exact(VC.of_own h1).shape
def Zlc.elem{base bi:Nat}{w wr:World}{A:Option Addr}{c T n:Nat}{k:Nat->Nat}{im:Mx}(h:Zlc base bi w (.slice A T c) T n k im)(hb:Below w.heap.size w wr){t:Nat}(ht:t<T):
 ∃gu B d,A=some ⟨gu,0,none⟩/\gu<w.heap.size/\(wr.cell? ⟨gu,t*2,none⟩=some (.int .i64 (k t:Int))/\wr.cell? ⟨gu,t*2+1,none⟩=some (.slice B n d))/\(n<=d/\d<=9223372036854775807)/\UY wr (.slice B n d) (Yn n (im t)):=by
 obtain⟨cs,h1,h2⟩:=h;obtain⟨u,e1,e2,e3⟩:=h2 t ht;obtain⟨B,d,rfl⟩:=e3.slice;rw[Zo]at e2 e3;rcases h1.2 with⟨e,hz⟩|⟨g',cap,cur,hv,hb',hg,hnc,hcm,hcs,htake⟩
 ·omega
 ·injection hv with a1 a2 a3;subst a1;obtain⟨_,l2,l3⟩:=e3.frs.len;exact⟨g',B,d,rfl,ZU hg,⟨Zi hb (ZN h1 e1).1,Zi hb (ZN h1 e2).1⟩,⟨l2,l3⟩,e3.frs.below hb⟩
def Zld(base bi g n K:Nat)(Cs:Mx)(vc:Value)(b:Nat->Rat)(w:World)(hB:Zfc base bi w g n K Cs)(h2:UY w vc (Yn n b))(hb:∀i,i<n->Sz K (b i)):
 Calls prog 103 #[.pointer (some ⟨g,0,none⟩),vc] w λo w'=>∃v' x,o= .returned v'/\(∀r,r<n->mulC n Cs x r=b r)/\(∀i,i<n->Sz (5^n*K) (x i))/\Yy w.heap.size w' v' (Yn n x)/\Below w.heap.size w w':=by
 obtain⟨T,gc,cc,k,R,C,im,V,L,Um,CC,s0,s1,s2,s3,vu,hX,⟨da,hT,hE,bs⟩,hU,hF,hO,i0,i1,v2,v3,ay⟩:=hB;obtain⟨Au,cu,rfl,cy,cz⟩:=ay.shape;have al:=Yls hX i0 i1 v2 v3;obtain⟨x0,P⟩:∃x0,x0=solQ n R C L Um b:=⟨_,rfl⟩;have ad:∀r,r<n->mulC n (CC 0) x0 r=b r:=by rw[P];exact hF.fac.solQ b
 have ap:=JZ (hU.xB ad hb);have ba:=JZ (hU.solves ad T (JY _));have ce:=JZ hU.imB;have cf:=JZ hU.kn;have cg:=JZ hU.nz;have HE:=JZ hE;have ch:Hid (K<=5^n*K):=JZ (vR K (jg Ql));have ci:=JZ bs;have bb:=JZ ay;have cj:∀i,i<n->Sz (5^n*K) (solQ n R C L Um b i):=λi hi=>by rw[<-P];exact hU.xB ad hb 0 (iI _) i hi
 have ck:=JZ P;obtain⟨y0,y1⟩:w.cell? ⟨g,6,none⟩=some (.slice Au T cu)/\w.cell? ⟨g,0,none⟩=some (.int .i64 (n:Int)):=⟨hX.cellAt 6 rfl,hX.cellAt 0 rfl⟩;have d4:=hF.n7;have HF:=JZ hF;have cl:=JZ al;have cm:K<=30* (5^n*K):=by have:=ch.out;omega
 clear hU ad hE bs ay hX hO i0 i1 v2 v3 al hF P;go_enter func103,ntmps103;go_wp2_with fail;refine(Zqa g 2 vc n (5^n*K) K (trM (CC 0)) R C L Um b _ cl.out h2 HF.out hb cm cj).mono ?_;rintro _ w1 ⟨v1,rfl,e1,b8⟩;rw[<-ck.out]at e1;obtain⟨A5,c5,bt⟩:=e1.slice;rw[Zo]at bt;subst bt;obtain⟨-,d0,d3⟩:=e1.frs.len;have y2:=Zi b8 y0;clear y0 y1 h2;go_wp2;clear y2
 go_loopw [19] (λx wr=>∃t:Nat,t<=T/\x= .int .i64 t/\Yy w.heap.size wr (.slice A5 n c5) (Yn n (xN k im x0 t))/\Below w.heap.size w wr) (λx _=>T - (intOf x).toNat)
 case atStart=>exact⟨0,Qk,rfl,e1,b8⟩
 case round=>
  clear e1 b8;obtain⟨t,ht,rfl,hO,a⟩:=hrel;rcases JX t T with htl|htl
  ·have A:=cf.out t htl;obtain⟨gx,cx,bu,bv,cv,-,-⟩:=hO.shape (by rw[Zo];omega);rw[Zo]at bu;injection bu with a1 a2 a3;subst a1;clear a2 a3 cx;obtain⟨gu,B,d,rfl,-,⟨u0,u1⟩,⟨d1,d2⟩,az⟩:=bb.out.elem a htl;obtain⟨X,a9⟩:∃X,X=xN k im x0 t:=⟨_,rfl⟩;obtain⟨M,O⟩:∃M,M=im t:=⟨_,rfl⟩;obtain⟨kt,aa⟩:∃kt,kt=k t:=⟨_,rfl⟩;have am:Hid (Yn n (xN k im x0 (t+1))=Yn n (Zyg kt M X)):=JZ (by rw[a9,O,aa];rfl);have bc:Hid (∀i,i<n->Sz (5^n*K) (X i)):=JZ λi hi=>by rw[a9];exact ap.out t ht i hi
   have aq:Hid (∀i,i<n->Sz (5^n*K) (M i)):=JZ λi hi=>by rw[O];exact ce.out t htl i hi
   have cn:Hid (∀i,i<n->Sz (5^n*K) (Zyg kt M X i)):=JZ λi hi=>by
    have:=ap.out (t+1) Qk i hi;rw[a9,O,aa];exact this
   have co:Hid (M kt≠0):=JZ (by rw[O,aa];exact cg.out t htl);rw[<-a9]at hO;rw[<-O]at az;have bd:Hid (UY w (.slice B n d) (Yn n M)):=JZ (by
    obtain⟨_,B',d',ab,-,⟨-,e2⟩,-,h3⟩:=bb.out.elem (JR _ _) htl;injection ab with ab;injection ab with ab;subst ab;have e3:=Zi a e2;rw[u1]at e3;injection e3 with e3;injection e3 with b1 b2 b3;subst b1 b3;rw[O];exact h3)
   rw[<-aa]at A u0;clear a9 O aa;obtain⟨W1,bw,hV,b0⟩:∃W1,wr.alloc (.cells #[.int .i64 (kt:Int),.slice B n d] 171)=W1/\Bk W1 wr.heap.size 171 [.int .i64 (kt:Int),.slice B n d]/\Below wr.heap.size wr W1:=⟨_,rfl,Bk.new wr _ _,Ze wr _⟩;have S:=hO.below b0;have U:=az.below b0;have u:=Za a b0 a.size;obtain⟨l,m,_,_⟩:=hV.two;have Y:(Yn n X)[kt]? =some (canF (X kt)):=ZG A;obtain⟨bz,oz,A6,n6,c6,A7,n7,c7,hA,_,⟨t0,t1,t2,t3⟩,c⟩:=S.frs.elem (JR _ _) Y;injection hA with hA;injection hA with hA1 hA2;subst hA1;subst hA2;simp only[ji]at t0 t1 t2 t3;have d5:(kt:Int)<n:=Qk;have d6:(t:Int)<T:=Qk;have Z:qs (X kt)=0\/qs (X kt)=1\/qs (X kt)= -1:=(by have:=VY (X kt);omega);clear hO a az;by_cases p:qs (X kt)=0
   ·have cp:=JZ (Yg.1 p);clear Z;go_wp2_with fail;clear bw;refine(Zy _ (canF (X kt)) _ c).mono ?_;rw[Zv,p];rintro _ w2 ⟨rfl,s⟩;have a0:=S.below s;have F:=Za u s u.size;clear S u U hV t0 t1 t2 t3 c l m u0 u1 s p;go_wp2;go_roundw
    case rel=>exact⟨t+1,Qk,by go_num,by rw[am.out,Yc λi hi=>Ydl cp.out i];exact a0,F⟩
    case measure=>exact Qn
   ·have ar:(qs (X kt)==0)=false:=(by simpa using p);clear Z p;go_wp2_with fail;clear bw;refine(Zy _ (canF (X kt)) _ c).mono ?_;rw[Zv];rintro _ w2 ⟨rfl,s⟩;have a0:=S.below s;have an:=U.below s;have au:=hV.later s;have F:=Za u s u.size;have be:=c.below s;have d7:w.heap.size<wr.heap.size/\gx<wr.heap.size:=⟨Qk,cv⟩;clear S u U hV t0 t1 t2 t3 c l m u0 u1;obtain⟨l,m,_,_⟩:=au.two;obtain⟨bz,oz,A6,n6,c6,A7,n7,c7,hA,_,⟨t0,t1,t2,t3⟩,c⟩:=a0.frs.elem (JR _ _) Y;injection hA with hA;injection hA with hA1 hA2;subst hA1;subst hA2;simp only[ji]at t0 t1 t2 t3;obtain⟨bm,om,A8,n8,c8,A9,n9,c9,rfl,_,⟨z0,z1,z2,z3⟩,b4⟩:=an.elem (JR _ _) (ZG A);obtain⟨xk,ae⟩:∃xk,xk=X kt:=⟨_,rfl⟩;obtain⟨mk,G⟩:∃mk,mk=M kt:=⟨_,rfl⟩;have cq:=JZ ae;have cr:=JZ G;have a4:(canF xk).Sm:=(by rw[ae];exact(bc.out kt A).rs.sm (by have:=HE.out;omega));have bf:(canF mk).Sm:=(by rw[G];exact(aq.out kt A).rs.sm (by have:=HE.out;omega));have bg:(canF mk).q≠0:=(by rw[Zv,G];exact co.out);rw[<-ae]at t0 t2 c Y;rw[<-G]at z0 z2 b4;have hO:=a0;clear ae G a0 an be s;have cs:Hid ((Yn n X).set kt (canF (xk/mk))=Yn n (Zgv kt M X 0)):=JZ (by
     rw[Us A];exact Yc λi hi=>by
      unfold Zgv;rw[cq.out,cr.out];by_cases e:i=kt
      ·rw[jB e,jB e]
      ·rw[jA e,jA e,jA Qk])
    go_upto_region 6 with(fail)
    clear ar;have C0:=Zm t0;have C1:=Zm t1;have C2:=Zm t2;have C3:=Zm t3;have D0:=Zm z0;have D1:=Zm z1;have D2:=Zm z2;have D3:=Zm z3;have U0:=Zm l;have U1:=Zm m;have f:=Zc w2;clear t0 t1 t2 t3 z0 z1 z2 z3 l m;refine Zj 19 [0,1,2,3,4,5,6,7,8,9,10,11,12,13,14,15,16,17,18,19] Qm Qm ?_;refine Qb ?_
    refine Qo λ_ kq=>?_;(with_reducible refine(XN _ _ (canF xk) (canF mk) _ (c.below f) (b4.below f) a4 bf bg).mono ?_);rw[Zv,Zv];rintro _ w6 ⟨v6,rfl,e6,ac⟩;have h:=Za f ac f.size;obtain⟨B9,l9,k9,af,ag,ah,rfl,_,_⟩:=id e6;have av:=hO.below h;obtain⟨_,_,_,_,⟨c0,c1,c2,c3⟩,⟨f0,f1,f2,f3⟩,-⟩:=av.at_ Y;refine kq.out _ _ (.inr h) (Qc ?_);clear kq
    refine Qh ?_;refine Zl ?_;clear C0 C1 C2 C3 D0 D1 D2 D3 U0 U1;obtain⟨N,bx⟩:=av.set_ (k:=kt) (by rw[Zo];exact A) e6;rw[cs.out]at N;have bh:=bx.bk (au.later h) Ql;have ao:=ZC (Za F h F.size) bv (kt*4) (kt*4+1) (kt*4+2) (kt*4+3) (.bool (canF (xk/mk)).num.neg) (.slice B9 l9 k9) (.bool (canF (xk/mk)).den.neg) (.slice af ag ah);generalize((((w6.setCell ⟨gx,kt*4,none⟩ (.bool (canF (xk/mk)).num.neg)).setCell ⟨gx,kt*4+1,none⟩ (.slice B9 l9 k9)).setCell ⟨gx,kt*4+2,none⟩ (.bool (canF (xk/mk)).den.neg)).setCell ⟨gx,kt*4+3,none⟩ (.slice af ag ah))=W7 at *;generalize wr.heap.size=cw at *;clear hO av e6 ac f h bx F au c b4 Y a4 bf bg c0 c1 c2 c3 f0 f1 f2 f3;go_wp2
    go_loopw [51] (λx wx=>∃i:Nat,i<=n/\x= .int .i64 i/\Yy w.heap.size wx (.slice (some ⟨gx,0,none⟩) n c5) (Yn n (Zgv kt M X i))/\Bk wx cw 171 [.int .i64 (kt:Int),.slice (some ⟨bm,om,none⟩) n d]/\Below w.heap.size w wx) (λx _=>n - (intOf x).toNat)
    case atStart=>exact⟨0,Qk,rfl,N,bh,ao⟩
    case round=>
     clear N bh ao;obtain⟨i,hi,rfl,hO,hV,a⟩:=hrel;rcases JX i n with hil|hil
     ·obtain⟨l,m,_,_⟩:=hV.two;have d8:(i:Int)<n:=Qk;by_cases b9:i=kt
      ·have aw:Hid (Yn n (Zgv kt M X i)=Yn n (Zgv kt M X (i+1))):=JZ (Yc λj _=>Zqi (.inl b9) j);subst b9;rw[aw.out]at hO;go_wp2;go_roundw
       case rel=>exact⟨i+1,Qk,by go_num,hO,hV,a⟩
       case measure=>exact Qn
      ·have bj:=JZ b9;have d9:(i:Int)≠kt:=Qk;obtain⟨b',o',A8,n8,c8,A9,n9,c9,hA,_,⟨z0,z1,z2,z3⟩,H⟩:=bd.out.elem a (ZG hil);injection hA with hA;injection hA with hA1 hA2;subst hA1;subst hA2;have Z:qs (M i)=0\/qs (M i)=1\/qs (M i)= -1:=(by have:=VY (M i);omega);by_cases p:qs (M i)=0
       ·have aw:Hid (Yn n (Zgv kt M X i)=Yn n (Zgv kt M X (i+1))):=JZ (Yc λj _=>Zqi (.inr (Yg.1 p)) j);clear Z;go_wp2_with fail;refine(Zy _ (canF (M i)) _ H).mono ?_;rw[Zv,p];rintro _ w3 ⟨rfl,D⟩;have J:=hO.below D;rw[aw.out]at J;have a5:=hV.later D;have y:=Za a D a.size;clear hO hV a D p z0 z1 z2 z3 H l m;go_wp2;go_roundw
        case rel=>exact⟨i+1,Qk,by go_num,J,a5,y⟩
        case measure=>exact Qn
       ·have ar:(qs (M i) !=0)=true:=(by simpa using p);clear Z p;go_wp2_with fail;refine(Zy _ (canF (M i)) _ H).mono ?_;rw[Zv];rintro _ w3 ⟨rfl,D⟩;have J:=hO.below D;have a5:=hV.later D;have y:=Za a D a.size;clear hO hV a D z0 z1 z2 z3 H l m;obtain⟨l,m,_,_⟩:=a5.two;obtain⟨b',o',A8,n8,c8,A9,n9,c9,hA,_,⟨z0,z1,z2,z3⟩,H⟩:=bd.out.elem y (ZG hil);injection hA with hA;injection hA with hA1 hA2;subst hA1;subst hA2;obtain⟨b',o',A4,n4,c4,A5,n5,db,hA,_,⟨ai,b5,aj,b6⟩,c⟩:=J.frs.elem (JR _ _) (ZG hil);injection hA with hA;injection hA with hA1 hA2;subst hA1;subst hA2;obtain⟨b',o',A6,n6,c6,A7,n7,c7,hA,_,⟨t0,t1,t2,t3⟩,b7⟩:=J.frs.elem (JR _ _) (ZG A);injection hA with hA;injection hA with hA1 hA2;subst hA1;subst hA2;simp only[ji]at ai b5 aj b6 t0 t1 t2 t3;obtain⟨xi,ak⟩:∃xi,xi=Zgv kt M X i i:=⟨_,rfl⟩;obtain⟨mi,I⟩:∃mi,mi=M i:=⟨_,rfl⟩;obtain⟨z,hz⟩:∃z,z=Zgv kt M X i kt:=⟨_,rfl⟩;have a6:xi=X i:=(by rw[ak,Yea bj.out]);have ax:z=X kt/M kt:=(by rw[hz,Ysa]);have bl:Hid ((Yn n (Zgv kt M X i)).set i (canF (xi - mi*z))=Yn n (Zgv kt M X (i+1))):=JZ (by
         rw[Us hil];exact Yc λj hj=>by rw[Ydz bj.out,a6,I,ax])
        have a4:(canF xi).Sm:=(by rw[a6];exact(bc.out i hil).rs.sm (by have:=HE.out;omega));have bn:(canF mi).Sm:=(by rw[I];exact(aq.out i hil).rs.sm (by have:=HE.out;omega));have a7:Sz (5^n*K) z:=by
         have:=cn.out kt A;unfold Zyg at this;rw[jB rfl]at this;rw[ax];exact this
        have bo:(canF z).Sm:=a7.rs.sm (by have:=HE.out;omega);have bp:(canF (mi*z)).Sm:=(Vn (by rw[I];exact aq.out i hil) a7).rs.sm (by have:=HE.out;omega);have bq:(Yn n (Zgv kt M X i))[i]? =some (canF xi):=(by rw[ak];exact ZG hil);rw[<-ak]at ai aj c;rw[<-I]at z0 z2 H;rw[<-hz]at t0 t2 b7;have hO:=J;clear ak I hz a6 ax a7 J
        go_upto_region 11 with(fail)
        clear ar;have C0:=Zm t0;have C1:=Zm t1;have C2:=Zm t2;have C3:=Zm t3;have D0:=Zm z0;have D1:=Zm z1;have D2:=Zm z2;have D3:=Zm z3;have E0:=Zm ai;have E1:=Zm b5;have E2:=Zm aj;have E3:=Zm b6;have U0:=Zm l;have U1:=Zm m;have f:=Zc w3;clear t0 t1 t2 t3 z0 z1 z2 z3 ai b5 aj b6 l m;refine Zj 19 [0,1,2,3,4,5,6,7,8,9,10,11,12,13,14,15,16,17,18,19] Qm Qm ?_;refine Qb ?_
        refine Qo λ_ kq=>?_;(with_reducible refine(WV _ _ (canF mi) (canF z) _ (H.below f) (b7.below f) bn bo).mono ?_);rw[Zv,Zv];rintro _ w6 ⟨v6,rfl,e6,ac⟩;have h:=Za f ac f.size;refine kq.out _ _ (.inr h) (Qc ?_);clear kq
        refine Qo λ_ kq=>?_;(with_reducible refine(VN _ _ (canF xi) (canF (mi*z)) _ (c.below h) e6 a4 bp).mono ?_);rw[Zv,Zv];rintro _ w7 ⟨v7,rfl,e7,cd⟩;have a8:=Za h cd h.size;obtain⟨B9,l9,k9,af,ag,ah,rfl,_,_⟩:=id e7;have N:=hO.below a8;obtain⟨_,_,_,_,⟨c0,c1,c2,c3⟩,⟨f0,f1,f2,f3⟩,-⟩:=N.at_ bq;refine kq.out _ _ (.inr a8) (Qc ?_);clear kq
        refine Qh ?_;refine Zl ?_;clear C0 C1 C2 C3 D0 D1 D2 D3 E0 E1 E2 E3 U0 U1;obtain⟨ca,cb⟩:=N.set_ (k:=i) (by rw[Zo];exact hil) e7;rw[bl.out]at ca;have ct:=cb.bk (a5.later a8) Ql;have br:=ZC (Za y a8 y.size) bv (i*4) (i*4+1) (i*4+2) (i*4+3) (.bool (canF (xi - mi*z)).num.neg) (.slice B9 l9 k9) (.bool (canF (xi - mi*z)).den.neg) (.slice af ag ah);clear hO N a5 y f h a8 e6 e7 ac cd c0 c1 c2 c3 f0 f1 f2 f3 c H b7 cb a4 bn bo bp bq bl;go_wp2;go_roundw
        case rel=>exact⟨i+1,Qk,by go_num,ca,ct,br⟩
        case measure=>exact Qn
     ·obtain rfl:n=i:=Qk
      rw[Yc λj hj=>Yjh hj,<-am.out]at hO;go_wp2;go_roundw
      case rel=>exact⟨t+1,Qk,by go_num,hO,a⟩
      case measure=>exact Qn
  ·obtain rfl:T=t:=Qk
   go_wp2;go_ret;exact⟨_,_,rfl,λr hr=>by rw[<-ci.out];exact ba.out r hr,ap.out _ (JY _),hO,a⟩
namespace Pl
def Ve(k:Nat)(M X:Nat->Rat)(i:Nat):Rat:=X k - ZF (λi=>if i=k then 0 else M i*X i) i
def Zle{k:Nat}{M X:Nat->Rat}:Ve k M X 0=X k:=by unfold Ve;rw[Yz];grind
def Zfd{k i:Nat}{M X:Nat->Rat}(h:i=k\/M i=0\/X i=0):Ve k M X i=Ve k M X (i+1):=by
 unfold Ve;rw[Zz];by_cases e:i=k
 ·rw[jB e];grind
 ·rw[jA e];rcases h with h|h|h
  ·exact absurd h e
  ·rw[h];grind
  ·rw[h];grind
def Zys{k i:Nat}{M X:Nat->Rat}(h:i≠k):Ve k M X (i+1)=Ve k M X i - M i*X i:=by
 unfold Ve;rw[Zz,jA h];grind
def Yot{n k i E:Nat}{M X:Nat->Rat}(hE:1<=E)(hn:n<=7)(hk:k<n)(hx:∀i,i<n->Sz (22*E) (X i))(hm:∀i,i<n->Sz E (M i))(hi:i<=n):Sz (200*E) (Ve k M X i):=by
 have h1:Sz (1+i* (23*E+1)) (ZF (λi=>if i=k then 0 else M i*X i) i):=Zor λj hj=>by
  split
  ·exact Sz_zero.mono Qk
  ·exact(Vn (hm j Qk) (hx j Qk)).mono Qk
 have h2:i* (23*E+1)<=7* (23*E+1):=JS _ Qk;exact(Zfm (hx k hk) h1).mono Qk
end Pl
def Znk(w:World)(g:Nat)(q:Rat):Prop:=
 ∃A n c A' n' c',Bk w g 49 [.bool (canF q).num.neg,.slice A n c,.bool (canF q).den.neg,.slice A' n' c']/\Zx w (.agg #[.bool (canF q).num.neg,.slice A n c,.bool (canF q).den.neg,.slice A' n' c']) (canF q)
def Znk.below{w w':World}{g:Nat}{q:Rat}(h:Znk w g q)(hb:Below w.heap.size w w'):Znk w' g q:=by
 obtain⟨A,n,c,A',n',c',h1,h2⟩:=h;exact⟨A,n,c,A',n',c',h1.later hb,h2.below hb⟩
def Zyt(base bi g n K:Nat)(Cs:Mx)(v:Value)(es:List En)(w:World)(hB:Zfc base bi w g n K Cs)(h:Ur w v es)(hgo:Pl.Good n es)(hrs:∀(k:Nat) (e:En),es[k]? =some e->e.f.Rs K):
 Calls prog 97 #[.pointer (some ⟨g,0,none⟩),v] w λo w'=>∃v' x,o= .returned (.tuple #[v',.int .i64 0])/\(∀r,r<n->mulC n Cs x r=X5 es r)/\(∀i,i<n->Sz (5^n*K) (x i))/\VK w.heap.size w' v' (spV x n)/\Below w.heap.size w w':=by
 have HB:=JZ hB;obtain⟨T,gc,cc,k,R,C,im,V,L,Um,CC,s0,s1,s2,s3,vu,hX,⟨s,hT,hE,t⟩,hU,hF,-⟩:=hB;have y1:w.cell? ⟨g,0,none⟩=some (.int .i64 (n:Int)):=hX.cellAt 0 rfl;have u:=hF.n7;have p:Hid (1<=K):=JZ (vI λe=>by have:=hF.e1;subst e;simp at this);have HE:Hid (5^n*K<=4000000):=JZ hE;have q:Hid (K<=4000000):=JZ (JW (vR K (jg Ql)) hE);clear hX hU hF t hE hT s;go_enter func97,ntmps97;go_wp2_with fail;refine(Vt v es n K _ h Qk hrs (by have:=q.out;omega) hgo).mono ?_;rintro _ w1 ⟨v1,rfl,e1,b⟩;obtain⟨A1,c1,rfl⟩:=e1.slice;clear y1 h;go_wp2_with fail;refine(Zld base bi g n K Cs _ (X5 es) _ (HB.out.below b) e1.frs (λi _=>Sz_col hrs p.out i)).mono ?_;rintro _ w2 ⟨v2,x,rfl,hx,j,e2,l⟩;have HX:=JZ hx;have c:=JZ j;have a:=Za b l b.size;obtain⟨A2,c2,rfl⟩:=e2.slice;clear e1 hx j l;go_wp2_with fail;refine(Xv _ (Yn n x) (5^n*K) _ e2.frs (by rw[Zo];omega) (Zlz λi hi=>c.out i hi) (by have:=HE.out;omega)).mono ?_;rw[Zo,Wi (g:=x) λi hi=>YB hi];rintro _ w3 ⟨v3,rfl,e3,m⟩;have d:=Za a m a.size;have e3:VK w.heap.size w3 v3 (spV x n):=by
  obtain⟨cs,g1,g2⟩:=e3;exact⟨cs,VJ g1 a.size,g2⟩
 clear e2 b a m;go_wp2;go_ret2;exact⟨_,x,rfl,HX.out,c.out,e3,d⟩
def Ztb(base bi g n K:Nat)(Cs:Mx)(v:Value)(es:List En)(w:World)(hB:Zfc base bi w g n K Cs)(h:Ur w v es)(hgo:Pl.Good n es)(hrs:∀(k:Nat) (e:En),es[k]? =some e->e.f.Rs K):
 Calls prog 101 #[.pointer (some ⟨g,0,none⟩),v] w λo w'=>∃v' y,o= .returned (.tuple #[v',.int .i64 0])/\(∀c,c<n->mulC n (trM Cs) y c=X5 es c)/\(∀i,i<n->Sz (5^n*K) (y i))/\VK w.heap.size w' v' (spV y n)/\Below w.heap.size w w':=by
 obtain⟨T,gc,cc,k,R,C,im,V,L,Um,CC,s0,s1,s2,s3,vu,hX,⟨dj,hT,hE,cq⟩,hU,hF,hO,i0,i1,v2,v3,bl⟩:=hB;obtain⟨Au,cu,rfl,cr,dx⟩:=bl.shape;have b9:=Yls hX i0 i1 v2 v3;have bs:=hF.n7;have ba:1<=K:=vI λe=>by have:=hF.e1;subst e;simp at this
 obtain⟨d,hd⟩:∃d,d=X5 es:=⟨_,rfl⟩;have bb:∀r,r<n->Sz K (d r):=λr _=>by rw[hd];exact Sz_col hrs ba r
 have hy:∀c,c<n->mulC n (trM (CC 0)) (solT n R C L Um (cN n T k im d T)) c=cN n T k im d T c:=hF.fac.solT _;have bt:=JZ (hU.cB bs ba bb hy);have bc:=JZ (hU.yB bb hy);have bu:=JZ (hU.solvesT hy T (JY _));have cz:=JZ hU.imB;have d0:=JZ hU.kn;have d3:=JZ hU.nz;have HE:=JZ hE;have d4:Hid (1<=5^n*K):=JZ hF.e1;have d5:=JZ bs;have d6:=JZ cq;have bv:=JZ bl;have HD:=JZ hd;have d7:=JZ b9;have HF:=JZ hF;have HY:Hid (w.cell? ⟨g,6,none⟩=some (.slice Au T cu)):=JZ (hX.cellAt 6 rfl);have y1:w.cell? ⟨g,0,none⟩=some (.int .i64 (n:Int)):=hX.cellAt 0 rfl;have d8:Hid (K<=4000000):=JZ (JW (vR K (jg Ql)) hE);have d9:=JZ hgo;have da:=JZ hrs;clear hX hU hF cq hE dj bl hO i0 i1 v2 v3 b9 hy bb hd ba hgo hrs;go_enter func101,ntmps101;go_wp2_with fail;refine(Vt v es n K _ h Qk da.out (by have:=d8.out;omega) d9.out).mono ?_;rintro _ w1 ⟨v1,rfl,e1,bq⟩;obtain⟨A5,c5,ct⟩:=e1.slice;rw[Zo]at ct;subst ct;obtain⟨-,dy,dz⟩:=e1.frs.len;rw[<-HD.out]at e1;clear y1 h;have y2:=Zi bq HY.out;go_wp2;clear y2
 go_loopw [8] (λx wr=>∃(j:Nat) (tz:Int),j<=T/\tz=(T:Int) - 1 - j/\x= .int .i64 tz/\Yy w.heap.size wr (.slice A5 n c5) (Yn n (cN n T k im d j))/\Below w.heap.size w wr) (λx _=>(intOf x+1).toNat)
 case atStart=>exact⟨0,(T:Int) - 1,Qk,Qk,rfl,e1,bq⟩
 case round=>
  clear e1 bq;obtain⟨j,tz,hj,bn,rfl,hO,a⟩:=hrel;rcases jR tz 0 with hneg|aj
  ·obtain rfl:T=j:=Qk
   clear bn;have HO:=JZ hO;clear hO;go_wp2_with fail;refine(Zne g 2 _ n (5^n*K) (trM (CC 0)) R C L Um _ _ (d7.out.below a) HO.out.frs HF.out (λi hi=>(bt.out T (JY _) i hi).mono Qk) bc.out).mono ?_;rintro _ w2 ⟨v2,rfl,e2,cw⟩;have D:=Za a cw a.size;obtain⟨A2,c2,rfl⟩:=e2.slice;obtain⟨y,b6⟩:∃y,y=solT n R C L Um (cN n T k im d T):=⟨_,rfl⟩;have bd:=JZ b6;rw[<-b6]at e2;rw[<-b6];clear a cw b6;go_wp2_with fail;refine(Xv _ (Yn n y) (5^n*K) _ e2.frs (by rw[Zo];omega) (Zlz λi hi=>by rw[bd.out];exact bc.out i hi) (by have:=HE.out;omega)).mono ?_;rw[Zo,Wi (g:=y) λi hi=>YB hi];rintro _ w3 ⟨v3,rfl,e3,p⟩;have m:=Za D p D.size;have e3:VK w.heap.size w3 v3 (spV y n):=by
    obtain⟨cs,g1,g2⟩:=e3;exact⟨cs,VJ g1 D.size,g2⟩
   clear e2 D p;go_wp2;go_ret2;exact⟨_,y,rfl,λc hc=>by
    have:=bu.out c hc;rw[eT]at this;rw[<-d6.out,bd.out,this,<-HD.out];rfl,λi hi=>by rw[bd.out];exact bc.out i hi,e3,m⟩
  ·obtain⟨t,rfl⟩:=JT aj;have ai:t<T:=Qk;have be:=JZ bn;clear bn aj;have Z:=d0.out t ai;have aj:0<n:=Qk;obtain⟨gx,cx,cv,dk,dl,-,-⟩:=hO.shape (by rw[Zo];omega);rw[Zo]at cv;injection cv with a1 a2 a3;subst a1;clear a2 a3 cx;obtain⟨gu,B,d',rfl,-,⟨u0,u1⟩,⟨d1,d2⟩,bo⟩:=bv.out.elem a ai;obtain⟨X,b7⟩:∃X,X=cN n T k im d j:=⟨_,rfl⟩;obtain⟨M,ae⟩:∃M,M=im t:=⟨_,rfl⟩;obtain⟨kt,b8⟩:∃kt,kt=k t:=⟨_,rfl⟩;have bw:Hid (Yn n (cN n T k im d (j+1))=Yn n (Zsv n kt M X)):=JZ (by
    rw[b7,ae,b8,show t=T - 1 - j by have:=be.out;omega];rfl)
   have bf:Hid (∀i,i<n->Sz (22* (5^n*K)) (X i)):=JZ λi hi=>by rw[b7];exact bt.out j hj i hi
   have b0:Hid (∀i,i<n->Sz (5^n*K) (M i)):=JZ λi hi=>by rw[ae];exact cz.out t ai i hi
   have db:Hid (M kt≠0):=JZ (by rw[ae,b8];exact d3.out t ai);rw[<-b7]at hO;rw[<-ae]at bo;rw[<-b8]at Z u0;have bg:Hid (UY w (.slice B n d') (Yn n M)):=JZ (by
    obtain⟨_,B',eb,au,-,⟨-,e2⟩,-,h3⟩:=bv.out.elem (JR _ _) ai;injection au with au;injection au with au;subst au;have e3:=Zi a e2;rw[u1]at e3;injection e3 with e3;injection e3 with b1 b2 b3;subst b1 b3;rw[ae];exact h3)
   clear b7 ae b8;have bx:∀i,Ve kt M X i=X kt - ZF (λi=>if i=kt then 0 else M i*X i) i:=λ_=>rfl
   have ca:Hid (∀i,i<=n->Sz (200* (5^n*K)) (Ve kt M X i)):=JZ λi hi=>Yot d4.out (by have:=d5.out;omega) Z bf.out b0.out hi
   clear bx;have e0:T<=cu:=(by have:=cr;omega);obtain⟨W1,dm,hV,av⟩:∃W1,wr.alloc (.cells #[.int .i64 (kt:Int),.slice B n d'] 171)=W1/\Bk W1 wr.heap.size 171 [.int .i64 (kt:Int),.slice B n d']/\Below wr.heap.size wr W1:=⟨_,rfl,Bk.new wr _ _,Ze wr _⟩;have bh:=hO.below av;have cb:=bo.below av;have ab:=Za a av a.size;obtain⟨s,A,_,_⟩:=hV.two;have cd:(Yn n X)[kt]? =some (canF (X kt)):=ZG Z;obtain⟨bz,oz,A6,n6,c6,A7,n7,c7,hA,_,⟨t0,t1,t2,t3⟩,F⟩:=bh.frs.elem (JR _ _) cd;injection hA with hA;injection hA with hA1 hA2;subst hA1;subst hA2;simp only[ji]at t0 t1 t2 t3;have e4:(kt:Int)<n:=Qk;have y2:=Zi a HY.out;have hR:=Bk.new W1 49 [.bool (canF (X kt)).num.neg,.slice A6 n6 c6,.bool (canF (X kt)).den.neg,.slice A7 n7 c7];have ak:=Ze W1 (.cells #[.bool (canF (X kt)).num.neg,.slice A6 n6 c6,.bool (canF (X kt)).den.neg,.slice A7 n7 c7] 49);have e5:gx<W1.heap.size:=je dl av.size;have dc:w.heap.size<=W1.heap.size:=ab.size;have dw:w.heap.size<=wr.heap.size:=a.size;have e8:(t:Int)<T:=Qk;clear hO a bo
   go_upto_region 8 with(fail)
   clear u0 u1 y2;clear dm;go_wp2;clear s A t0 t1 t2 t3;have ce:=bh.below ak;have cf:=hV.later ak;have cg:=F.below ak;have D:=Za ab ak ab.size;clear bh cb hV F ab ak av;generalize W1.alloc (.cells #[.bool (canF (X kt)).num.neg,.slice A6 n6 c6,.bool (canF (X kt)).den.neg,.slice A7 n7 c7] 49)=W2 at *;generalize W1.heap.size=gr at *;generalize wr.heap.size=dv at *
   go_loopw [48] (λx wx=>∃i:Nat,i<=n/\x= .int .i64 i/\Yy w.heap.size wx (.slice (some ⟨gx,0,none⟩) n c5) (Yn n X)/\Bk wx dv 171 [.int .i64 (kt:Int),.slice B n d']/\Znk wx gr (Ve kt M X i)/\Below w.heap.size w wx) (λx _=>n - (intOf x).toNat)
   case atStart=>exact⟨0,Qk,rfl,ce,cf,⟨A6,n6,c6,A7,n7,c7,by rw[Zle];exact hR,by rw[Zle];exact cg⟩,D⟩
   case round=>
    clear ce cf hR cg D;obtain⟨i,hi,rfl,hO,hV,a6,a⟩:=hrel;rcases JX i n with hil|hil
    ·obtain⟨s,A,_,_⟩:=hV.two;have e9:(i:Int)<n:=Qk;by_cases br:i=kt
     ·have al:Hid (Ve kt M X i=Ve kt M X (i+1)):=JZ (Zfd (.inl br));subst br;rw[al.out]at a6;go_wp2;go_roundw
      case rel=>exact⟨i+1,Qk,by go_num,hO,hV,a6,a⟩
      case measure=>exact Qn
     ·have dd:=JZ br;have ea:(i:Int)≠kt:=Qk;obtain⟨bm,om,A8,n8,c8,A9,n9,c9,rfl,_,⟨z0,z1,z2,z3⟩,O⟩:=bg.out.elem a (ZG hil);have am:qs (M i)=0\/qs (M i)=1\/qs (M i)= -1:=(by have:=VY (M i);omega);by_cases ay:qs (M i)=0
      ·have al:Hid (Ve kt M X i=Ve kt M X (i+1)):=JZ (Zfd (.inr (.inl (Yg.1 ay))));clear am;go_wp2_with fail;refine(Zy _ (canF (M i)) _ O).mono ?_;rw[Zv,ay];rintro _ w3 ⟨rfl,p⟩;have a0:=hO.below p;have a4:=a6.below p;rw[al.out]at a4;have a5:=hV.later p;have m:=Za a p a.size;clear hO hV a6 a p ay z0 z1 z2 z3 O s A;go_wp2;go_roundw
       case rel=>exact⟨i+1,Qk,by go_num,a0,a5,a4,m⟩
       case measure=>exact Qn
      ·have de:(qs (M i) !=0)=true:=(by simpa using ay);clear am ay;go_wp2_with fail;refine(Zy _ (canF (M i)) _ O).mono ?_;rw[Zv];rintro _ w3 ⟨rfl,p⟩;have a0:=hO.below p;have a4:=a6.below p;have a5:=hV.later p;have m:=Za a p a.size;clear hO hV a6 a p z0 z1 z2 z3 O s A;obtain⟨s,A,_,_⟩:=a5.two;obtain⟨b',o',A4,n4,c4,A5,n5,dn,hA,_,⟨P,a7,S,a8⟩,F⟩:=a0.frs.elem (JR _ _) (ZG hil);injection hA with hA;injection hA with hA1 hA2;subst hA1;subst hA2;simp only[ji]at P a7 S a8;have am:qs (X i)=0\/qs (X i)=1\/qs (X i)= -1:=(by have:=VY (X i);omega);by_cases az:qs (X i)=0
       ·have al:Hid (Ve kt M X i=Ve kt M X (i+1)):=JZ (Zfd (.inr (.inr (Yg.1 az))));clear am;go_wp2_with fail;refine(Zy _ (canF (X i)) _ F).mono ?_;rw[Zv,az];rintro _ w4 ⟨rfl,G⟩;have df:=a0.below G;have b4:=a4.below G;rw[al.out]at b4;have an:=a5.later G;have I:=Za m G m.size;clear a0 a5 a4 m G az P a7 S a8 F s A;go_wp2;go_roundw
        case rel=>exact⟨i+1,Qk,by go_num,df,an,b4,I⟩
        case measure=>exact Qn
       ·have dg:(qs (X i) !=0)=true:=(by simpa using az);clear am az;go_wp2_with fail;refine(Zy _ (canF (X i)) _ F).mono ?_;rw[Zv];rintro _ w4 ⟨rfl,G⟩;have hO:=a0.below G;have b4:=a4.below G;have an:=a5.later G;have I:=Za m G m.size;clear a0 a5 a4 m G P a7 S a8 F s A;obtain⟨s,A,_,_⟩:=an.two;obtain⟨b',o',A4,n4,c4,A5,n5,dn,hA,_,⟨P,a7,S,a8⟩,F⟩:=hO.frs.elem (JR _ _) (ZG hil);injection hA with hA;injection hA with hA1 hA2;subst hA1;subst hA2;obtain⟨b',o',A8,n8,c8,A9,n9,c9,hA,_,⟨z0,z1,z2,z3⟩,O⟩:=bg.out.elem I (ZG hil);injection hA with hA;injection hA with hA1 hA2;subst hA1;subst hA2;simp only[ji]at P a7 S a8;obtain⟨dp,dq,dr,ds,dt,du,a9,aa⟩:=b4;obtain⟨t0,t1,t2,t3⟩:=a9.four;have ao:Hid (Ve kt M X (i+1)=Ve kt M X i - M i*X i):=JZ (Zys dd.out);obtain⟨rr,J⟩:∃rr,rr=Ve kt M X i:=⟨_,rfl⟩;obtain⟨xi,aw⟩:∃xi,xi=X i:=⟨_,rfl⟩;obtain⟨mi,U⟩:∃mi,mi=M i:=⟨_,rfl⟩;have ch:(canF xi).Sm:=(by rw[aw];exact(bf.out i hil).rs.sm (by have:=HE.out;omega));have ci:(canF mi).Sm:=(by rw[U];exact(b0.out i hil).rs.sm (by have:=HE.out;omega));have ap:(canF rr).Sm:=(by rw[J];exact(ca.out i hi).rs.sm (by have:=HE.out;omega));have cj:(canF (mi*xi)).Sm:=(Vn (by rw[U];exact b0.out i hil) (by rw[aw];exact bf.out i hil)).rs.sm (by have:=HE.out;omega);have ck:=JZ J;have cl:=JZ aw;have cm:=JZ U;rw[<-aw]at P S F;rw[<-U]at z0 z2 O;rw[<-J]at t0 t2 aa a9;clear aw U J
        go_upto_region 13 with(fail)
        clear de dg;have C0:=Zm t0;have C1:=Zm t1;have C2:=Zm t2;have C3:=Zm t3;have D0:=Zm z0;have D1:=Zm z1;have D2:=Zm z2;have D3:=Zm z3;have E0:=Zm P;have E1:=Zm a7;have E2:=Zm S;have E3:=Zm a8;have U0:=Zm s;have U1:=Zm A;have E:=Zc w4;clear t0 t1 t2 t3 z0 z1 z2 z3 P a7 S a8 s A;refine Zj 12 [0,1,2,3,4,5,6,7,8,9,10,11,12] Qm Qm ?_;refine Qb ?_
        refine Qo λ_ kq=>?_;(with_reducible refine(WV _ _ (canF mi) (canF xi) _ (O.below E) (F.below E) ci ch).mono ?_);rw[Zv,Zv];rintro _ w6 ⟨v6,rfl,e6,ax⟩;have H:=Za E ax E.size;refine kq.out _ _ (.inr H) (Qc ?_);clear kq
        refine Qo λ_ kq=>?_;(with_reducible refine(VN _ _ (canF rr) (canF (mi*xi)) _ (aa.below H) e6 ap cj).mono ?_);rw[Zv,Zv];rintro _ w7 ⟨v7,rfl,e7,cy⟩;have ac:=Za H cy H.size;obtain⟨B9,l9,k9,af,ag,ah,rfl,_,_⟩:=id e7;have aq:=a9.later ac;obtain⟨c0,c1,c2,c3⟩:=aq.four;obtain⟨f0,f1,f2,f3⟩:=aq.fourF;refine kq.out _ _ (.inr ac) (Qc ?_);clear kq
        refine Qh ?_;refine Zl ?_;clear C0 C1 C2 C3 D0 D1 D2 D3 E0 E1 E2 E3 U0 U1;have cn:=Yw (w:=w7) (g:=gr) (i:=0) (j:=1) (k:=2) (l:=3) (x:= .bool (canF (rr - mi*xi)).num.neg) (y:= .slice B9 l9 k9) (z:= .bool (canF (rr - mi*xi)).den.neg) (u:= .slice af ag ah);have ad:=aq.but4 (.bool (canF (rr - mi*xi)).num.neg) (.slice B9 l9 k9) (.bool (canF (rr - mi*xi)).den.neg) (.slice af ag ah);have b5:=(hO.below ac).others cn (ad.keep Ql) (λb hb e=>by simp[Value.ownBlock]at hb;injection e with e;omega);have dh:=ad.bk (an.later ac) Ql;have ar:=ZE (Za I ac I.size) dc (.bool (canF (rr - mi*xi)).num.neg) (.slice B9 l9 k9) (.bool (canF (rr - mi*xi)).den.neg) (.slice af ag ah);have di:Znk _ gr (Ve kt M X (i+1)):=⟨B9,l9,k9,af,ag,ah,by rw[ao.out,<-ck.out,<-cm.out,<-cl.out];exact aq.set4 _ _ _ _,by rw[ao.out,<-ck.out,<-cm.out,<-cl.out];exact e7.keep (ad.keep Ql)⟩;clear hO aq an I E H ac e6 e7 ax cy c0 c1 c2 c3 f0 f1 f2 f3 F O aa ad cn ch ci ap cj a9;go_wp2;go_roundw
        case rel=>exact⟨i+1,Qk,by go_num,b5,dh,di,ar⟩
        case measure=>exact Qn
    ·obtain rfl:n=i:=Qk
     obtain⟨dp,dq,dr,ds,dt,du,a9,aa⟩:=a6;obtain⟨t0,t1,t2,t3⟩:=a9.four;obtain⟨s,A,_,_⟩:=hV.two;obtain⟨bm,om,A8,n8,c8,A9,n9,c9,rfl,_,⟨z0,z1,z2,z3⟩,bp⟩:=bg.out.elem a (ZG Z);have ao:Hid ((Yn n X).set kt (canF (Ve kt M X n/M kt))=Yn n (Zsv n kt M X)):=JZ (by
      rw[Us Z];exact Yc λi hi=>rfl)
     obtain⟨rr,J⟩:∃rr,rr=Ve kt M X n:=⟨_,rfl⟩;obtain⟨mk,Y⟩:∃mk,mk=M kt:=⟨_,rfl⟩;have co:(canF mk).Sm:=(by rw[Y];exact(b0.out kt Z).rs.sm (by have:=HE.out;omega));have ap:(canF rr).Sm:=(by rw[J];exact(ca.out n (JY _)).rs.sm (by have:=HE.out;omega));have cp:(canF mk).q≠0:=(by rw[Zv,Y];exact db.out);rw[<-J,<-Y]at ao;rw[<-Y]at z0 z2 bp;rw[<-J]at t0 t2 aa;clear Y J a9
     go_upto_region 15 with(fail)
     have C0:=Zm t0;have C1:=Zm t1;have C2:=Zm t2;have C3:=Zm t3;have D0:=Zm z0;have D1:=Zm z1;have D2:=Zm z2;have D3:=Zm z3;have U0:=Zm s;have U1:=Zm A;have E:=Zc wr;clear t0 t1 t2 t3 z0 z1 z2 z3 s A;refine Zj 15 [0,1,2,3,4,5,6,7,8,9,10,11,12,13,14,15] Qm Qm ?_;refine Qb ?_
     refine Qo λ_ kq=>?_;(with_reducible refine(XN _ _ (canF rr) (canF mk) _ (aa.below E) (bp.below E) ap co cp).mono ?_);rw[Zv,Zv];rintro _ w6 ⟨v6,rfl,e6,ax⟩;have H:=Za E ax E.size;obtain⟨B9,l9,k9,af,ag,ah,rfl,_,_⟩:=id e6;have bj:=hO.below H;obtain⟨_,_,_,_,⟨c0,c1,c2,c3⟩,⟨f0,f1,f2,f3⟩,-⟩:=bj.at_ cd;refine kq.out _ _ (.inr H) (Qc ?_);clear kq
     refine Qh ?_;refine Zl ?_;clear C0 C1 C2 C3 D0 D1 D2 D3 U0 U1;obtain⟨b5,ad⟩:=bj.set_ (k:=kt) (by rw[Zo];exact Z) e6;rw[ao.out,<-bw.out]at b5;have ar:=ZC (Za a H a.size) dk (kt*4) (kt*4+1) (kt*4+2) (kt*4+3) (.bool (canF (rr/mk)).num.neg) (.slice B9 l9 k9) (.bool (canF (rr/mk)).den.neg) (.slice af ag ah);clear hO bj hV a E H e6 ax c0 c1 c2 c3 f0 f1 f2 f3 aa bp ad ap co cp;go_wp2;go_roundw
     case rel=>exact⟨j+1,(t:Int) - 1,by have:=be.out;omega,by have:=be.out;omega,by go_num,b5,ar⟩
     case measure=>simp[intOf]
end Go.Proofs.YtobadipflggkiaaGreat
