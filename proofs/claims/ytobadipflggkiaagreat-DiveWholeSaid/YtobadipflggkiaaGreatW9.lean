/- Lemmas of the claim; no condition. -/
import Derived.Test.YtobadipflggkiaaGreatW10
import Derived.Test.YtobadipflggkiaaGreatW12
set_option linter.all false
set_option maxRecDepth 100000
set_option maxHeartbeats 40000000
namespace Go.Proofs.YtobadipflggkiaaGreat
open Go.RowKit
open Pl Tryz
attribute [local go_sem ↓] Go.wp_at_zero Go.wp_at_succ
namespace Pl
def Yhe(m:Nat)(f:Nat->Rat)(rs:List RF):Bool:=decide (∀i,i<m->f i=qAt rs i)
def Zxq{m:Nat}{f:Nat->Rat}{rs:List RF}(h:∀i,i<m->f i=qAt rs i):Yhe m f rs=true:=by
 unfold Yhe;rw[kE];exact h
end Pl
def Zoz(b off j:Nat):(⟨b,off,none⟩:Addr).add j=⟨b,off+j,none⟩:=by
 unfold Addr.add;split
 ·rename_i h;subst h;rfl
 ·rfl
namespace Pl
structure Prf where
 st:Int
 x:List RF
 y:List RF
 ray:List RF
end Pl
def ZQ{P:Program}{ops:Array Oper}{Q:Exit->Act->World->Prop}{S:World->Prop}{n:Nat}{o:Oper}{i:Nat}{is:List Nat}{a:Act}{w:World}(ho:ops[i]? =some o)(hf:X7 ops n i=false)(hw:Region.wanted o (yielded ops a.tmps)=false)(hS:S w)(h:WY P ops Q S n is (a.put o.dst undef) w):WY P ops Q S n (i::is) a w:=by
 refine Zd ho hf λK hK=>?_
 rw[jA (by rw[hw];simp)];exact hK _ _ (.inr hS) h
namespace Pl
def Ynh(p:LPd)(x:Prf):Bool:=Ybf p x.x && (nnB x.ray && (Yhe p.right.length (Ua p x.ray p.cols.length) [] && decide (qs (Zxm p.cost x.ray p.cols.length)<0)))
end Pl
namespace Pl
def Zeo(s:LSt)(Z:List RF):Nat->Nat->Rat
 |0=>λ_=>0
 |k+1=>λj=>if s.at_ k=(j:Int)then qAt Z k else Zeo s Z k j
def Zap(s:LSt)(Z:List RF)(k j:Nat):Zeo s Z (k+1) j=if s.at_ k=(j:Int)then qAt Z k else Zeo s Z k j:=rfl
def Zmg(p:LPd)(s:LSt):List RF:=Yn p.cols.length (Zeo s (zL p s) (zL p s).length)
def Zux{m:Nat}{cols:Mx}{b:Nat->Rat}{k:Nat}{f:RF}(h:(Zqx m cols b)[k]? =some f):f=canF (qAt (Zqx m cols b) k):=by
 cases e:XC m cols b with
 |none=>rw[Ybn e]at h;simp at h
 |some x=>
  rw[Zhv e]at h⊢;have hk:k<m:=by have:=(JO.1 h).1;rwa[Zo]at this
  rw[ZG hk]at h;injection h with h;rw[YB hk,<-h]
end Pl
namespace Pl
def Zqz(t:LSt)(D:List RF)(j:Int):Nat->Nat->Rat
 |0=>λi=>if j=(i:Int)then 1 else 0
 |k+1=>λi=>if t.at_ k=(i:Int)then -qAt D k else Zqz t D j k i
def Zdh(t:LSt)(D:List RF)(j:Int)(k i:Nat):Zqz t D j (k+1) i=if t.at_ k=(i:Int)then -qAt D k else Zqz t D j k i:=rfl
def Zko(p:LPd)(t:LSt):List RF:=Yn p.cols.length (Zqz t (Ud p t) (Zgd p t) (Ud p t).length)
def Ytc(p:LPd)(t:LSt):Prf:=if Xa p t=1 then⟨1,Zmg p t,XF p t,[]⟩else if Xa p t=2 then⟨2,[],XF p t,[]⟩else if Xa p t=3 then⟨3,Zmg p t,[],Zko p t⟩else⟨0,[],[],[]⟩
def Ytk(p:LPd)(t:LSt):Int:=if Xa p t=0 then 16 else 0
def Yra{p:LPd}{t:LSt}(h:Xa p t=3):Ytc p t=⟨3,Zmg p t,[],Zko p t⟩/\Ytk p t=0:=by unfold Ytc Ytk;rw[h];exact⟨rfl,rfl⟩
end Pl
section
namespace Pl
section
variable {p:LPd} {s:LSt}
def Zkp{Z:List RF}{j:Nat}:∀{k:Nat},(∀l,l<k->s.at_ l≠(j:Int))->Zeo s Z k j=0
 |0,_=>rfl
 |k+1,h=>by rw[Zap,jA (h k Qk)];exact Zkp λl hl=>h l Qk
def Zva{n m:Nat}{Z:List RF}(hin:∀l,l<m->s.at_ l<n)(hdup:∀i,i<m->∀k,k<i->s.at_ i≠s.at_ k)(f:Nat->Rat):∀k,k<=m->ZF (λj=>Zeo s Z k j*f j) n=ZF (λl=>if 0<=s.at_ l then qAt Z l*f (s.at_ l).toNat else 0) k
 |0,_=>by rw[Yz];exact XD λj _=>by show(0:Rat)*f j=0;grind
 |k+1,hk=>by
  rw[Zz,<-Zva hin hdup f k Qk]
  by_cases h0:0<=s.at_ k
  ·rw[jB h0]
   obtain⟨j0,hj0⟩:=JT h0
   have hj:j0<n:=by have:=hin k Qk;omega
   rw[hj0,JP]
   have e:ZF (λj=>Zeo s Z (k+1) j*f j) n=ZF (λj=>Zeo s Z k j*f j+(if j=j0 then qAt Z k*f j0 else 0)) n:=Zk λj _=>by
    rw[Zap,hj0]
    by_cases g:j=j0
    ·subst g
     rw[jB rfl,jB rfl,Zkp λl hl e=>hdup k Qk l hl (by rw[hj0,e])];grind
    ·rw[jA Qk,jA g];grind
   rw[e,Xq,XL hj]
  ·rw[jA h0]
   have e:ZF (λj=>Zeo s Z (k+1) j*f j) n=ZF (λj=>Zeo s Z k j*f j) n:=Zk λj _=>by rw[Zap,jA Qk]
   rw[e];grind
def Zpf{Z:List RF}(h:∀k,0<=qAt Z k):∀(k j:Nat),0<=Zeo s Z k j
 |0,j=>by show(0:Rat)<=0;exact aF
 |k+1,j=>by
  rw[Zap];split
  ·exact h k
  ·exact Zpf h k j
def Val.range(h:Val p s):∀l,l<p.right.length->s.at_ l<p.cols.length:=λl hl=>by
 have hl':l<s.basis.length:=by rw[h.fit.len];exact hl
 rw[LSt.at_eq (JQ hl')]
 exact(h.fit.in_ l _ (JQ hl')).2
def Yby(j:Nat)(hj:j<p.cols.length):qAt (Zmg p s) j=Zeo s (zL p s) (zL p s).length j:=by unfold Zmg;exact YB hj
def Zxx(h:Val p s)(h2:s.phase=2):∀r,r<p.right.length->Ua p (Zmg p s) p.cols.length r=qAt p.right r:=λr hr=>by
 unfold Ua
 rw[Zk (g:=λj=>Zeo s (zL p s) (zL p s).length j*p.col (j:Int) r) λj hj=>by rw[Yby j hj],Zva (m:=p.right.length) h.range h.dup (λj=>p.col (j:Int) r) _ (by rw[Zer h.reg];exact JY _),Zer h.reg,<-Zkl h.reg r hr]
 unfold mulC
 exact Zk λl hl=>by
  show _=p.col (s.at_ l) r*_
  by_cases g:0<=s.at_ l
  ·rw[jB g,jv g];grind
  ·rw[jA g,h.art h2 l hl Qk];grind
def Ytd(h:Val p s)(k:Nat):0<=qAt (zL p s) k:=by
 rcases JX k p.right.length with e|e
 ·exact h.pos k e
 ·rw[Ygx (by rw[Zer h.reg];exact e)];exact aF
def Zpg{q:Rat}(h:0<=q):0<=qs q:=Int.not_lt.1 λg=>by have:=UE.1 g;grind
def Yno{xs:List RF}(he:lpErr p=0)(hl:xs.length=p.cols.length)(hp:∀j,j<p.cols.length->0<=qAt xs j)(ht:∀r,r<p.right.length->Ua p xs p.cols.length r=qAt p.right r):Ybf p xs=true:=by
 rw[Yng he hl (Zuq λi hi=>Zpg (hp i (by rw[<-hl];exact hi)))];exact Yha (Zo _ _) λi hi=>by rw[Zo]at hi;rw[YB hi,ht i hi]
def primL_length:(Zmg p s).length=p.cols.length:=by unfold Zmg;exact Zo _ _
def Ybz(he:lpErr p=0)(h:Val p s)(h2:s.phase=2):Ybf p (Zmg p s)=true:=
 Yno he primL_length (λj hj=>by rw[Yby j hj];exact Zpf (Ytd h) _ _) (Zxx h h2)
def Yhq(hq:Zmf p s=none):∀j,j<p.cols.length->0<=VA p s (j:Int):=λj hj=>fV.1 (U6 hq j (iI _) Qk)
def Yca(j:Int):Yfi p s j=Ybg (XF p s) (p.col j) p.right.length:=Zk λr _=>by grind
def Yrb(h:Val p s)(h2:s.phase=2)(hq:Zmf p s=none):Yhf p (XF p s) p.cols.length:=λj hj=>by
 have:=Yhq hq j hj
 rw[Zfs h.reg,h2,Ub Qk,JP,Yca]at this
 grind
def Zxy(h:Val p s):Zxm (XF p s) p.right p.right.length=Zax p s.phase s:=by
 rw[<-Yhp h.reg];exact Zk λr _=>by grind
def Yrc(h:Xa p s=1):Zmf p s=none/\s.phase≠1:=by
 cases e:Zmf p s with
 |none=>
  rw[(WF e).1]at h;refine⟨rfl,λg=>?_⟩;rw[jB g]at h;omega
 |some j=>rw[(Xl e).1]at h;split at h <;> omega
def Yrd(h:Xa p s=2):Zmf p s=none/\s.phase=1:=by
 cases e:Zmf p s with
 |none=>
  rw[(WF e).1]at h;by_cases g:s.phase=1
  ·exact⟨rfl,g⟩
  ·rw[jA g]at h;omega
 |some j=>rw[(Xl e).1]at h;split at h <;> omega
def Zia{D:List RF}:∀{n:Nat},X8 s D n=true->s.phase=2/\∀k,k<n->¬(0<qAt D k\/(s.at_ k<0/\qAt D k≠0))
 |0,h=>⟨by simpa[X8]using h,λk hk=>Qk⟩
 |n+1,h=>by
  unfold X8 at h
  split at h
  ·cases h
  ·rename_i g
   obtain⟨h1,h2⟩:=Zia h
   refine⟨h1,λk hk=>?_⟩
   rcases JX k n with e|e
   ·exact h2 k e
   ·obtain rfl:k=n:=Qk
    exact g
def Yre(h:Xa p s=3):∃j:Nat,Zmf p s=some j/\j<p.cols.length/\VA p s (j:Int)<0/\Zgd p s=(j:Int)/\Ud p s=dirL p s (j:Int)/\s.phase=2/\∀k,k< (dirL p s (j:Int)).length->¬(0<qAt (dirL p s (j:Int)) k\/(s.at_ k<0/\qAt (dirL p s (j:Int)) k≠0)):=by
 cases e:Zmf p s with
 |none=>rw[(WF e).1]at h;split at h <;> omega
 |some j=>
  have h1:=Xl e;rw[h1.1]at h;split at h
  ·rename_i g
   obtain⟨g1,g2⟩:=Zia g;have h2:=YI e;exact⟨j,rfl,Qk,h2.2.2.1,h1.2.1,h1.2.2,g1,g2⟩
  ·omega
def Zsg{n m:Nat}{D:List RF}{j:Nat}(hj:j<n)(hin:∀l,l<m->s.at_ l<n)(hdup:∀i,i<m->∀k,k<i->s.at_ i≠s.at_ k)(hne:∀l,l<m->s.at_ l≠(j:Int))(f:Nat->Rat):∀k,k<=m->ZF (λi=>Zqz s D (j:Int) k i*f i) n=f j - ZF (λl=>if 0<=s.at_ l then qAt D l*f (s.at_ l).toNat else 0) k
 |0,_=>by
  rw[Yz,Z5 hj λi _ hi=>by show(if(j:Int)=(i:Int)then(1:Rat)else 0)*f i=0;rw[jA Qk];grind]
  show(if(j:Int)=(j:Int)then(1:Rat)else 0)*f j=_
  rw[jB rfl];grind
 |k+1,hk=>by
  have ih:=Zsg hj hin hdup hne f k Qk (D:=D)
  rw[Zz]
  by_cases h0:0<=s.at_ k
  ·rw[jB h0]
   obtain⟨j0,hj0⟩:=JT h0
   have hjn:j0<n:=by have:=hin k Qk;omega
   rw[hj0,JP]
   have hz:Zqz s D (j:Int) k j0=0:=by
    have a:∀q,q<=k->Zqz s D (j:Int) q j0=0:=by
     intro q
     induction q with
     |zero=>intro _;show(if(j:Int)=(j0:Int)then(1:Rat)else 0)=0;rw[jA λe=>hne k Qk (by rw[hj0,e])]
     |succ q ihq=>intro hq;rw[Zdh,jA λe=>hdup k Qk q Qk (by rw[hj0,e])];exact ihq Qk
    exact a k (JY _)
   have e:ZF (λi=>Zqz s D (j:Int) (k+1) i*f i) n=ZF (λi=>Zqz s D (j:Int) k i*f i+(if i=j0 then -(qAt D k*f j0)else 0)) n:=Zk λi _=>by
    rw[Zdh,hj0];by_cases g:i=j0
    ·subst g;rw[jB rfl,jB rfl,hz];grind
    ·rw[jA Qk,jA g];grind
   rw[e,Xq,XL hjn,ih];grind
  ·rw[jA h0];have e:ZF (λi=>Zqz s D (j:Int) (k+1) i*f i) n=ZF (λi=>Zqz s D (j:Int) k i*f i) n:=Zk λi _=>by rw[Zdh,jA Qk]
   rw[e,ih];grind
def Zvb{D:List RF}{j:Int}{n:Nat}(h:∀k,k<n->qAt D k<=0):∀(k i:Nat),k<=n->0<=Zqz s D j k i
 |0,i,_=>by show(0:Rat)<=(if j=(i:Int)then 1 else 0);split <;> decide
 |k+1,i,hk=>by
  rw[Zdh];split
  ·have:=h k Qk;grind
  ·exact Zvb h k i Qk
def Yrf(he:lpErr p=0)(h:Val p s)(hq:Xa p s=3):Ynh p (Ytc p s)=true:=by
 obtain⟨j,u,hj,a,hJ,hD,h2,n⟩:=Yre hq;have d:=Zbv h.reg (j:Int);have m:∀l,l<p.right.length->s.at_ l≠(j:Int):=λl hl e=>by
  rw[<-e,U5 h.reg hl]at a;exact absurd a Ql
 have o:∀k,k<p.right.length->qAt (dirL p s (j:Int)) k<=0:=λk hk=>fV.1 λg=>n k (by rw[d];exact hk) (.inl g)
 have q:∀k,k<p.right.length->s.at_ k<0->qAt (dirL p s (j:Int)) k=0:=λk hk ha=>by
  by_cases e:qAt (dirL p s (j:Int)) k=0
  ·exact e
  ·exact absurd (.inr ⟨ha,e⟩) (n k (by rw[d];exact hk))
 have b:Zko p s=Yn p.cols.length (Zqz s (dirL p s (j:Int)) (j:Int) p.right.length):=by unfold Zko;rw[hD,hJ,d]
 have f:∀i,i<p.cols.length->qAt (Zko p s) i=Zqz s (dirL p s (j:Int)) (j:Int) p.right.length i:=λi hi=>by rw[b,YB hi]
 rw[(Yra hq).1];unfold Ynh;simp only[jU,jh];refine⟨Ybz he h h2,Zuq λi hi=>?_,Zxq λr hr=>?_,?_⟩
 ·have t:i<p.cols.length:=by rw[b,Zo]at hi;exact hi
  show 0<=qs (qAt (Zko p s) i);rw[f i t];exact Zpg (Zvb o _ i (JY _))
 ·show Ua p (Zko p s) p.cols.length r=qAt [] r;unfold Ua;rw[Zk (g:=λi=>Zqz s (dirL p s (j:Int)) (j:Int) p.right.length i*p.col (i:Int) r) λi hi=>by rw[f i hi],Zsg hj h.range h.dup m (λi=>p.col (i:Int) r) _ (JY _),<-Wx h.reg (j:Int) r hr];unfold mulC;have e:ZF (λc=>s.mat p c r*qAt (dirL p s (j:Int)) c) p.right.length=ZF (λl=>if 0<=s.at_ l then qAt (dirL p s (j:Int)) l*p.col (((s.at_ l).toNat:Nat):Int) r else 0) p.right.length:=Zk λl hl=>by
   show p.col (s.at_ l) r*_=_;by_cases g:0<=s.at_ l
   ·rw[jB g,jv g];grind
   ·rw[jA g,q l hl Qk];grind
  rw[e,Rat.sub_self];rfl
 ·show qs (Zxm p.cost (Zko p s) p.cols.length)<0;refine UE.2 ?_;unfold Zxm;rw[Zk (g:=λi=>Zqz s (dirL p s (j:Int)) (j:Int) p.right.length i*qAt p.cost i) λi hi=>by rw[f i hi];grind,Zsg hj h.range h.dup m (λi=>qAt p.cost i) _ (JY _)];rw[Zfs h.reg,Zgm h.reg,h2,Ub Qk,JP]at a;have e:ZF (λi=>XE p 2 (s.at_ i)*qAt (dirL p s (j:Int)) i) p.right.length=ZF (λl=>if 0<=s.at_ l then qAt (dirL p s (j:Int)) l*qAt p.cost (s.at_ l).toNat else 0) p.right.length:=Zk λl hl=>by
   by_cases g:0<=s.at_ l
   ·rw[jB g,Ub g];grind
   ·rw[jA g,Ws Qk Qk];grind
  rw[e]at a;exact a
end
end Pl
end
section
namespace Pl
section
variable {p:LPd} {s:LSt}
def Yrg(h:Val p s)(hq:Xa p s=1){xs:List RF}(hx:∀j,j<p.cols.length->0<=qAt xs j)(ht:∀r,r<p.right.length->Ua p xs p.cols.length r=qAt p.right r):Zax p 2 s<=Zxm p.cost xs p.cols.length:=by
 obtain⟨h1,h2⟩:=Yrc hq;have a:s.phase=2:=by have:=h.ph;omega
 have:=weak (xs:=xs) (Yrb h a h1) hx ht
 rwa[Zxy h,a]at this
structure Perm (p:LPd) (s t:LSt) (F:Nat->Nat):Prop where
 inj:Inj p.right.length p.right.length F
 at_:∀i,i<p.right.length->t.at_ i=s.at_ (F i)
def Perm.mat{t:LSt}{F:Nat->Nat}(c:Perm p s t F){i:Nat}(hi:i<p.right.length):t.mat p i=s.mat p (F i):=by
 show p.col (t.at_ i)=p.col (s.at_ (F i));rw[c.at_ i hi]
def Perm.reg{t:LSt}{F:Nat->Nat}(c:Perm p s t F)(h:Reg p s):Reg p t:=by
 intro y hy k hk;have hg:∃g:Nat->Rat,∀i,i<p.right.length->g (F i)=y i:=by
  refine⟨λj=>ZF (λi=>if F i=j then y i else 0) p.right.length,λi hi=>?_⟩;show ZF (λi'=>if F i'=F i then y i' else 0) p.right.length=y i;rw[Z5 hi λi' hi' hne=>jA λe=>hne (c.inj.eq hi' hi e),jB rfl]
 obtain⟨g,hg⟩:=hg;have:∀r,r<p.right.length->mulC p.right.length (s.mat p) g r=0:=λr hr=>by
  rw[<-hy r hr];unfold mulC;rw[<-Vp c.inj (λj=>s.mat p j r*g j)];exact Zk λi hi=>by rw[c.mat hi,hg i hi]
 rw[<-hg k hk];exact h g this (F k) (c.inj.1 k hk)
def Perm.z{t:LSt}{F:Nat->Nat}(c:Perm p s t F)(h:Reg p s):∀i,i<p.right.length->qAt (zL p t) i=qAt (zL p s) (F i):=by
 refine Zuy (c.reg h) (x:=λi=>qAt (zL p s) (F i)) λr hr=>?_
 rw[<-Zkl h r hr];unfold mulC;rw[<-Vp c.inj (λj=>s.mat p j r*qAt (zL p s) j)];exact Zk λi hi=>by rw[c.mat hi]
def Perm.obj{t:LSt}{F:Nat->Nat}(c:Perm p s t F)(h:Reg p s)(ph:Int):Zax p ph t=Zax p ph s:=by
 unfold Zax;rw[<-Vp c.inj (λj=>XE p ph (s.at_ j)*qAt (zL p s) j)];exact Zk λi hi=>by rw[c.at_ i hi,c.z h i hi]
end
end Pl
end
namespace Pl
def InB(p:LPd)(s:LSt)(u:Int):Prop:=∃l,l<p.right.length/\s.at_ l=u
def Sam(p:LPd)(s t:LSt):Prop:=∀u,InB p s u↔InB p t u
def Sam.symm{p:LPd}{s t:LSt}(h:Sam p s t):Sam p t s:=λu=>(h u).symm
def Sam.perm{p:LPd}{s t:LSt}(h:Sam p s t)(ht:Val p t):∃F,Perm p s t F:=by
 have hc:∀i,∃l,i<p.right.length->l<p.right.length/\s.at_ l=t.at_ i:=λi=>by
  by_cases hi:i<p.right.length
  ·obtain⟨l,h1,h2⟩:=(h (t.at_ i)).2 ⟨i,hi,rfl⟩;exact⟨l,λ_=>⟨h1,h2⟩⟩
  ·exact⟨0,λg=>absurd g hi⟩
 have hF:∃F:Nat->Nat,∀i,i<p.right.length->F i<p.right.length/\s.at_ (F i)=t.at_ i:=⟨λi=>(hc i).choose,λi hi=>(hc i).choose_spec hi⟩;obtain⟨F,hF⟩:=hF;refine⟨F,⟨λi hi=>(hF i hi).1,λi k hik hk e=>?_⟩,λi hi=>(hF i hi).2.symm⟩;have h1:=(hF i Qk).2;have h2:=(hF k hk).2;rw[e,h2]at h1;exact ht.dup k hk i hik h1
def xv(p:LPd)(s:LSt)(u:Int):Rat:=ZF (λl=>if s.at_ l=u then qAt (zL p s) l else 0) p.right.length
def Yrh{p:LPd}{s:LSt}(h:Val p s){l:Nat}(hl:l<p.right.length):xv p s (s.at_ l)=qAt (zL p s) l:=by
 unfold xv;rw[Z5 hl λi hi hne=>jA λe=>?_,jB rfl];rcases JX i l with g|g
 ·exact h.dup l hl i g e.symm
 ·exact h.dup i hi l Qk e
def Yhr{p:LPd}{S:Nat->LSt}{I J:Nat->Nat}{a b:Nat}{φ:Int}(hab:a<b)(hv:∀k,a<=k->k<=b->Val p (S k))(hs:∀k,a<=k->k<b->Stp p (S k) (S (k+1)) (I k) (J k))(hph:∀k,a<=k->k<=b->(S k).phase=φ)(heq:Sam p (S a) (S b)):False:=by
 have q:∀k,a<=k->k<b->∀l,(S (k+1)).at_ l=if l=I k then(J k:Int)else(S k).at_ l:=λk h1 h2 l=>(hs k h1 h2).at_ (hv k h1 Qk) l
 have D:∀k,a<=k->k<b->Zax p φ (S (k+1))=Zax p φ (S k)+VA p (S k) (J k:Int)* (qAt (zL p (S k)) (I k)/qAt (dirL p (S k) (J k:Int)) (I k)):=λk h1 h2=>by
  have:=(hs k h1 h2).piv.obj (hv k h1 Qk);rw[hph k h1 Qk]at this;rw[(hs k h1 h2).eq,Zkm];exact this
 have G:∀k,a<=k->k<b->Zax p φ (S (k+1))<=Zax p φ (S k):=λk h1 h2=>by
  have:=(hs k h1 h2).piv.obj_le (hv k h1 Qk);rw[hph k h1 Qk]at this;rw[(hs k h1 h2).eq,Zkm];exact this
 have s:∀d x,a<=x->x+d<=b->Zax p φ (S (x+d))<=Zax p φ (S x):=by
  intro d
  induction d with
  |zero=>intro x _ _;exact aF
  |succ d ih=>
   intro x h1 h2;have e1:=ih x h1 Qk;have e2:=G (x+d) Qk Qk;rw[show x+(d+1)=x+d+1 by omega];grind
 have O:Zax p φ (S a)=Zax p φ (S b):=by
  obtain⟨F,c⟩:=heq.perm (hv b Qk (JY _));exact(c.obj (hv a (JY _) Qk).reg φ).symm
 have v:∀k,a<=k->k<b->Zax p φ (S (k+1))=Zax p φ (S k):=λk h1 h2=>by
  have e1:=s (k - a) a (JY _) Qk;rw[show a+(k - a)=k by omega]at e1;have e2:=s (b - (k+1)) (k+1) Qk Qk;rw[show k+1+(b - (k+1))=b by omega]at e2;have e3:=G k h1 h2;grind
 have h:∀k,a<=k->k<b->qAt (zL p (S k)) (I k)=0:=λk h1 h2=>by
  have e1:=D k h1 h2;rw[v k h1 h2]at e1;have hr:=(hs k h1 h2).piv.red;have e2:VA p (S k) (J k:Int)* (qAt (zL p (S k)) (I k)/qAt (dirL p (S k) (J k:Int)) (I k))=0:=by grind
  have e3:qAt (zL p (S k)) (I k)/qAt (dirL p (S k) (J k:Int)) (I k)=0:=by
   rcases Rat.mul_eq_zero.1 e2 with g|g
   ·rw[g]at hr;exact absurd hr Ql
   ·exact g
  have e4:=kr (a:=qAt (zL p (S k)) (I k)) (hs k h1 h2).piv.d0;rw[e3]at e4;grind
 have hZ:∀k,a<=k->k<b->∀l,l<p.right.length->qAt (zL p (S (k+1))) l=qAt (zL p (S k)) l:=λk h1 h2 l hl=>by
  obtain⟨_,z1,z2⟩:=(hs k h1 h2).piv.z (hv k h1 Qk);rw[(hs k h1 h2).eq,settle_zL];by_cases e:l=I k
  ·rw[e,z1,h k h1 h2];simp[vE]
  ·rw[z2 l hl e,h k h1 h2];simp[vE];grind
 have H:∀k,a<=k->k<b->qAt (zL p (S (k+1))) (I k)=0:=λk h1 h2=>by
  rw[hZ k h1 h2 _ (hs k h1 h2).piv.hi];exact h k h1 h2
 have hX:∀k,a<=k->k<b->∀u,xv p (S (k+1)) u=xv p (S k) u:=λk h1 h2 u=>by
  unfold xv;refine Zk λl hl=>?_
  by_cases e:l=I k
  ·rw[e,H k h1 h2,h k h1 h2];simp
  ·rw[q k h1 h2,jA e,hZ k h1 h2 l hl]
 have K:∀d x,a<=x->x+d<=b->∀u,xv p (S (x+d)) u=xv p (S x) u:=by
  intro d
  induction d with
  |zero=>intro x _ _ u;rfl
  |succ d ih=>
   intro x h1 h2 u;rw[show x+(d+1)=x+d+1 by omega,hX (x+d) Qk Qk u];exact ih x h1 Qk u
 have R:∀x y,a<=x->x<=b->a<=y->y<=b->∀u,xv p (S x) u=xv p (S y) u:=λx y h1 h2 h3 h4 u=>by
  have e1:=K (x - a) a (JY _) Qk u;have e2:=K (y - a) a (JY _) Qk u;rw[show a+(x - a)=x by omega]at e1;rw[show a+(y - a)=y by omega]at e2;rw[e1,e2]
 obtain⟨k0,i,m,t⟩:=greatest J (a:=a) (d:=b - a - 1);rw[show a+(b - a - 1)+1=b by omega]at m t;have hc:∀u,InB p (S a) u↔InB p (S b) u:=heq;have L:∀k,a<=k->k<b->∀l,l<p.right.length->(S k).at_ l≠(J k:Int):=λk h1 h2 l hl e=>by
  have hr:=(hs k h1 h2).piv.red;rw[<-e,U5 (hv k h1 Qk).reg hl]at hr;exact absurd hr Ql
 obtain⟨k1,f,j,a1,a2⟩:=Ylm (P:=λk=>InB p (S k) (J k0:Int)) (a:=a) (b:=b) (x:=k0+1) (y:=k0) ⟨Qk,Qk⟩ ⟨Qk,Qk⟩ (hc _) ⟨I k0,(hs k0 i m).piv.hi,by rw[q k0 i m,jB rfl]⟩ (λ⟨l,hl,e⟩=>L k0 i m l hl e);have n:(S k1).at_ (I k1)=(J k0:Int):=by
  obtain⟨l,hl,e⟩:=a1;by_cases g:l=I k1
  ·rw[<-g];exact e
  ·exact absurd ⟨l,hl,by rw[q k1 f j,jA g];exact e⟩ a2
 have T:J k1<J k0:=by
  have e1:=t k1 f j;have e2:J k1≠J k0:=λe=>L k1 f j (I k1) (hs k1 f j).piv.hi (by rw[n,e])
  omega
 have v0:=hv k0 i Qk;have v1:=hv k1 f Qk;have p0:=hph k0 i Qk;have p1:=hph k1 f Qk
 have a6:VA p (S k1) (J k1:Int)=VA p (S k0) (J k1:Int) - ZF (λk=>VA p (S k0) ((S k1).at_ k)*qAt (dirL p (S k1) (J k1:Int)) k) p.right.length:=by
  rw[Zfs v1.reg,Zfs v0.reg,Zgm v1.reg,p0,p1];have e1:Yfi p (S k0) (J k1:Int)=ZF (λk=>Yfi p (S k0) ((S k1).at_ k)*qAt (dirL p (S k1) (J k1:Int)) k) p.right.length:=by
   unfold Yfi;rw[Zk (g:=λr=>ZF (λk=>qAt (dirL p (S k1) (J k1:Int)) k* (p.col ((S k1).at_ k) r*qAt (XF p (S k0)) r)) p.right.length) λr hr=>by
    rw[<-Wx v1.reg (J k1:Int) r hr];unfold mulC;rw[aO,<-Yq];exact Zk λk _=>by show _* (p.col ((S k1).at_ k) r*_)=_;grind]
   rw[WE];exact Zk λk _=>by rw[Yq];grind
  have e2:ZF (λk=>VA p (S k0) ((S k1).at_ k)*qAt (dirL p (S k1) (J k1:Int)) k) p.right.length=ZF (λk=>XE p φ ((S k1).at_ k)*qAt (dirL p (S k1) (J k1:Int)) k - Yfi p (S k0) ((S k1).at_ k)*qAt (dirL p (S k1) (J k1:Int)) k) p.right.length:=Zk λk _=>by
   rw[Zfs v0.reg,p0];grind
  rw[e2,Zcw,<-e1];grind
 have U:∃k,k<p.right.length/\0<VA p (S k0) ((S k1).at_ k)*qAt (dirL p (S k1) (J k1:Int)) k:=by
  by_cases g:∃k,k<p.right.length/\0<VA p (S k0) ((S k1).at_ k)*qAt (dirL p (S k1) (J k1:Int)) k
  ·exact g
  ·exfalso;have h1:ZF (λk=>VA p (S k0) ((S k1).at_ k)*qAt (dirL p (S k1) (J k1:Int)) k) p.right.length<=ZF (λ_=>0) p.right.length:=Zmb λk hk=>fV.1 λe=>g ⟨k,hk,e⟩
   rw[Xi]at h1;have h2:=(hs k1 f j).piv.red;have h3:=(hs k0 i m).ent (J k1) T;grind
 obtain⟨k,hk,o⟩:=U
 have hu:∀l,l<p.right.length->(S k0).at_ l≠(S k1).at_ k:=λl hl e=>by
  rw[<-e,U5 v0.reg hl]at o;simp at o
 obtain⟨k2,B,C,a3,a4⟩:=Ylm (P:=λx=>¬InB p (S x) ((S k1).at_ k)) (a:=a) (b:=b) (x:=k0) (y:=k1) ⟨i,Qk⟩ ⟨f,Qk⟩ (not_congr (hc _)) (λ⟨l,hl,e⟩=>hu l hl e) (λg=>g ⟨k,hk,rfl⟩);obtain⟨l2,N,e2⟩:InB p (S (k2+1)) ((S k1).at_ k):=fF a4;have M:l2=I k2:=by
  by_cases g:l2=I k2
  ·exact g
  ·exfalso;rw[q k2 B C,jA g]at e2;exact a3 ⟨l2,N,e2⟩
 subst M;have A:(S k1).at_ k=(J k2:Int):=by rw[<-e2,q k2 B C,jB rfl]
 have V:qAt (zL p (S k1)) k=0:=by
  rw[<-Yrh v1 hk,R k1 (k2+1) f Qk Qk Qk,<-e2,Yrh (hv (k2+1) Qk Qk) N];exact H k2 B C
 obtain⟨a5,E⟩:=(hs k1 f j).lv (by rw[n];omega);have X:=(hs k0 i m).piv.red;have Y:J k2<J k0:=by
  have e1:=t k2 B C;have e2:J k2≠J k0:=λe=>by
   have Z:k=I k1:=by
    by_cases g:k=I k1
    ·exact g
    ·exfalso;have e3:(S k1).at_ k=(S k1).at_ (I k1):=(by rw[A,n,e]);rcases JX k (I k1)with g2|g2
     ·exact v1.dup (I k1) (hs k1 f j).piv.hi k g2 e3.symm
     ·exact v1.dup k hk (I k1) Qk e3
   rw[A,e,Z]at o;have:0<= -VA p (S k0) (J k0:Int)*qAt (dirL p (S k1) (J k1:Int)) (I k1):=gP (by grind) (BK a5);grind
  omega
 have a7:=(hs k0 i m).ent (J k2) Y;rw[A]at o;have a0:0<qAt (dirL p (S k1) (J k1:Int)) k:=by
  by_cases g:0<qAt (dirL p (S k1) (J k1:Int)) k
  ·exact g
  ·exfalso;have:0<=VA p (S k0) (J k2:Int)* -qAt (dirL p (S k1) (J k1:Int)) k:=gP (by grind) (by grind);grind
 have r1:WH (zL p (S k1)) (dirL p (S k1) (J k1:Int)) (I k1)=0:=by unfold WH;rw[h k1 f j];simp[vE]
 have r2:WH (zL p (S k1)) (dirL p (S k1) (J k1:Int)) k=0:=by unfold WH;rw[V];simp[vE]
 rcases E k hk a0 with g|⟨_,g⟩
 ·rw[r1,r2]at g;exact absurd g Ql
 ·rw[n,A]at g;unfold ordQ at g;rw[jB Qk,jB Qk]at g;omega
def Ycb{p:LPd}{s t:LSt}(hs:Val p s)(ht:Val p t)(ss:WN p s)(st:WN p t)(h:Sam p s t):s.phase=t.phase:=by
 have a:∀u,Val p u->WN p u->(u.phase=2↔∀i,i<p.right.length->u.at_ i<0->qAt (zL p u) i=0):=λu hu su=>by
  refine⟨hu.art,λe=>?_⟩;have h1:Zdb u (zL p u) (zL p u).length=false:=Zet λk hk ha=>e k (by rw[<-Zer hu.reg];exact hk) ha
  have h2:(settleQ p u).phase=u.phase:=congrArg LSt.phase su;rw[<-h2];show(if Zdb u (zL p u) (zL p u).length=true then u.phase else 2)=2;rw[h1,jA Ql]
 have e1:=a s hs ss;have e2:=a t ht st;have e3:(∀i,i<p.right.length->s.at_ i<0->qAt (zL p s) i=0)↔(∀i,i<p.right.length->t.at_ i<0->qAt (zL p t) i=0):=by
  obtain⟨F,c⟩:=h.perm ht;obtain⟨G,d⟩:=h.symm.perm hs;exact⟨λg i hi ha=>by rw[c.z hs.reg i hi];exact g _ (c.inj.1 i hi) (by rw[<-c.at_ i hi];exact ha),λg i hi ha=>by rw[d.z ht.reg i hi];exact g _ (d.inj.1 i hi) (by rw[<-d.at_ i hi];exact ha)⟩
 have e4:s.phase=2↔t.phase=2:=by rw[e1,e2,e3]
 have:=hs.ph;have:=ht.ph;omega
def Ycc{p:LPd}{s:LSt}(h:Val p s)(ss:WN p s){n:Nat}(hr:∀k,k<n->Zbu p (runL p k s)≠none){a b:Nat}(hab:a<b)(hb:b<=n):¬Sam p (runL p a s) (runL p b s):=by
 intro o;have l:∀k,k<n->Zbu p (runL p k s)=some (runL p (k+1) s):=λk hk=>by
  cases e:Zbu p (runL p k s)with
  |none=>exact absurd e (hr k hk)
  |some t=>rw[Zaq (a:=k) (b:=1),XG e];rfl
 have m:∀k,∃i j:Nat,k<n->Stp p (runL p k s) (runL p (k+1) s) i j:=λk=>by
  by_cases hk:k<n
  ·obtain⟨i,j,c⟩:=Yqz (YY h ss k).1 (l k hk);exact⟨i,j,λ_=>c⟩
  ·exact⟨0,0,λg=>absurd g hk⟩
 have hI:∃I:Nat->Nat,∀k,∃j:Nat,k<n->Stp p (runL p k s) (runL p (k+1) s) (I k) j:=⟨λk=>(m k).choose,λk=>(m k).choose_spec⟩;obtain⟨I,hI⟩:=hI;have hJ:∃J:Nat->Nat,∀k,k<n->Stp p (runL p k s) (runL p (k+1) s) (I k) (J k):=⟨λk=>(hI k).choose,λk=>(hI k).choose_spec⟩;obtain⟨J,hJ⟩:=hJ;have f:∀d x,x+d<=n->(runL p x s).phase<=(runL p (x+d) s).phase:=λd x _=>by
  rw[Zaq];exact runL_phase (YY h ss x).1
 have q:(runL p a s).phase=(runL p b s).phase:=Ycb (YY h ss a).1 (YY h ss b).1 (YY h ss a).2 (YY h ss b).2 o;refine Yhr (p:=p) (S:=λk=>runL p k s) (I:=I) (J:=J) (φ:=(runL p a s).phase) hab (λk _ _=>(YY h ss k).1) (λk h1 h2=>hJ k Qk) (λk h1 h2=>?_) o;have e1:=f (k - a) a Qk;have e2:=f (b - k) k Qk;rw[show a+(k - a)=k by omega]at e1;rw[show k+(b - k)=b by omega]at e2;show(runL p k s).phase=_;omega
end Pl
namespace Pl
def cb:Nat->Nat->Nat
 |0,0=>1
 |0,_+1=>0
 |k+1,0=>cb k 0
 |k+1,m+1=>cb k (m+1)+cb k m
def pcn:Nat->Nat->Nat
 |0,_=>0
 |k+1,c=>if c<2^k then pcn k c else pcn k (c - 2^k)+1
def rkb:Nat->Nat->Nat->Nat
 |0,_,_=>0
 |k+1,m,c=>if c<2^k then rkb k m c else cb k m+rkb k (m - 1) (c - 2^k)
def rkb_lt:∀{k m c:Nat},c<2^k->pcn k c=m->rkb k m c<cb k m
 |0,m,c,_,h=>by
  have:m=0:=by rw[<-h];rfl
  subst this
  show 0<1
  omega
 |k+1,m,c,hc,h=>by
  have h2:2^(k+1)=2^k+2^k:=by rw[jf];omega
  unfold pcn at h
  unfold rkb
  split
  ·rename_i g
   rw[jB g]at h
   have:=rkb_lt g h
   cases m with
   |zero=>exact this
   |succ m=>show _<cb k (m+1)+cb k m;omega
  ·rename_i g
   rw[jA g]at h
   obtain⟨m',rfl⟩:∃m',m=m'+1:=⟨m - 1,Qk⟩
   have:=rkb_lt (k:=k) (m:=m') (c:=c - 2^k) Qk Qk
   show cb k (m'+1)+rkb k (m'+1 - 1) (c - 2^k)<cb k (m'+1)+cb k m'
   rw[show m'+1 - 1=m' by omega]
   omega
def rkb_inj:∀{k m c d:Nat},c<2^k->d<2^k->pcn k c=m->pcn k d=m->rkb k m c=rkb k m d->c=d
 |0,_,c,d,hc,hd,_,_,_=>by simp at hc hd;omega
 |k+1,m,c,d,hc,hd,h1,h2,h=>by
  have h3:2^(k+1)=2^k+2^k:=by rw[jf];omega
  unfold pcn at h1 h2
  unfold rkb at h
  by_cases g:c<2^k <;> by_cases g':d<2^k
  ·rw[jB g]at h1 h
   rw[jB g']at h2 h
   exact rkb_inj g g' h1 h2 h
  ·rw[jB g]at h1 h
   rw[jA g']at h
   have:=rkb_lt g h1
   omega
  ·rw[jA g]at h
   rw[jB g']at h2 h
   have:=rkb_lt g' h2
   omega
  ·rw[jA g]at h1 h
   rw[jA g']at h2 h
   have:=rkb_inj (k:=k) (m:=m - 1) (c:=c - 2^k) (d:=d - 2^k) Qk Qk Qk Qk Qk
   omega
def cb_all:∀m,m<8->cb 13 m<=1716:=by decide+kernel
def Ycd(l:List Nat):Nat:=(l.map λa=>2^a).sum
def Ue{l:List Nat}{k:Nat}(h:k∈l):Ycd l=2^k+Ycd (l.erase k):=by
 unfold Ycd;rw[((List.perm_cons_erase h).map λa=>2^a).sum_nat,kM,aY]
def setN_ok:∀{k:Nat} {l:List Nat},l.Nodup->(∀a∈l,a<k)->Ycd l<2^k/\pcn k (Ycd l)=l.length
 |0,l,_,h=>by
  cases l with
  |nil=>exact⟨Ql,rfl⟩
  |cons a l=>exact absurd (h a (jK ..)) Qk
 |k+1,l,hn,h=>by
  have h2:2^(k+1)=2^k+2^k:=by rw[jf];omega
  by_cases hk:k∈l
  ·obtain⟨a1,a2⟩:=setN_ok (k:=k) (l:=l.erase k) (hn.erase k) λa ha=>by
    have h1:=(hn.mem_erase_iff).1 ha
    have:=h a h1.2
    have:=h1.1
    omega
   rw[fJ hk]at a2
   have hp:=List.length_pos_of_mem hk
   rw[Ue hk]
   refine⟨Qk,?_⟩
   unfold pcn
   rw[jA Qk,show 2^k+Ycd (l.erase k) - 2^k=Ycd (l.erase k) by omega,a2]
   omega
  ·obtain⟨a1,a2⟩:=setN_ok (k:=k) (l:=l) hn λa ha=>by
    have:=h a ha
    have:a≠k:=λe=>hk (e▸ha)
    omega
   refine⟨Qk,?_⟩
   unfold pcn
   rw[jB a1,a2]
def setN_mem:∀{k:Nat} {l r:List Nat},l.Nodup->r.Nodup->(∀a∈l,a<k)->(∀a∈r,a<k)->Ycd l=Ycd r->∀a,a∈l->a∈r
 |0,l,_,_,_,h,_,_=>λa ha=>absurd (h a ha) Qk
 |k+1,l,r,hl,hr,h,g,e=>by
  have sm:∀{l:List Nat},l.Nodup->(∀a∈l,a<k+1)->k ∉ l->Ycd l<2^k/\∀a∈l,a<k:=fun{l} hn h hk=>by
   have hb:∀a∈l,a<k:=λa ha=>by
    have:=h a ha
    have:a≠k:=λe=>hk (e▸ha)
    omega
   exact⟨(setN_ok hn hb).1,hb⟩
  have er:∀{l:List Nat},l.Nodup->(∀a∈l,a<k+1)->∀a∈l.erase k,a<k:=fun{l} hn h a ha=>by
   have h1:=(hn.mem_erase_iff).1 ha
   have:=h a h1.2
   have:=h1.1
   omega
  intro a ha
  by_cases hk:k∈l <;> by_cases hk':k∈r
  ·rw[Ue hk,Ue hk']at e
   by_cases hak:a=k
   ·rw[hak];exact hk'
   ·exact aS (setN_mem (hl.erase k) (hr.erase k) (er hl h) (er hr g) Qk a ((hl.mem_erase_iff).2 ⟨hak,ha⟩))
  ·rw[Ue hk]at e
   have:=(sm hr g hk').1
   omega
  ·rw[Ue hk']at e
   have:=(sm hl h hk).1
   omega
  ·exact setN_mem hl hr (sm hl h hk).2 (sm hr g hk').2 e a ha
def NA(p:LPd)(s:LSt):Prop:=∀i,i<p.right.length->0<=s.at_ i
def NA.piv{p:LPd}{s t:LSt}(h:NA p s)(hv:Val p s)(e:Zbu p s=some t):NA p t:=by
 obtain⟨i,j,c,rfl⟩:=Zuz hv e;intro k hk;rw[Zpc,Vs (by rw[hv.fit.len];exact c.hi)];split
 ·omega
 ·exact h k hk
def NA.run{p:LPd}:∀{n:Nat} {s:LSt},NA p s->Val p s->NA p (runL p n s)
 |0,_,h,_=>h
 |n+1,s,h,hv=>by
  cases e:Zbu p s with
  |none=>rw[Xm e];exact h
  |some t=>rw[XG e];exact(h.piv hv e).run (Zdg hv e)
def Yfj(p:LPd)(s:LSt):List Nat:=(List.range p.right.length).map λl=>(s.at_ l).toNat
def Ynp{p:LPd}{s:LSt}(h:NA p s)(hv:Val p s)(hn:p.cols.length<=13):(Yfj p s).Nodup/\(∀a∈Yfj p s,a<13)/\(Yfj p s).length=p.right.length:=by
 refine⟨?_,λa ha=>?_,by simp[Yfj]⟩
 ·unfold Yfj;rw[vS,gD];refine List.Pairwise.imp_of_mem (fun{a b} ha hb hab=>?_) List.pairwise_lt_range;rw[iT]at ha hb;have h1:=h a ha;have h2:=h b hb;have h3:=hv.dup b hb a hab;omega
 ·obtain⟨l,hl,rfl⟩:=jb.1 ha;rw[iT]at hl;have:=hv.range l hl;have:=h l hl;omega
def Yhs{p:LPd}{s t:LSt}(h:NA p s)(g:NA p t)(e:∀a,a∈Yfj p s↔a∈Yfj p t):Sam p s t:=by
 have c:∀{s t:LSt},NA p s->NA p t->(∀a,a∈Yfj p s->a∈Yfj p t)->∀u,InB p s u->InB p t u:=fun{s t} h g e u ⟨l,hl,hu⟩=>by
  have h1:=e (s.at_ l).toNat (jb.2 ⟨l,iT.2 hl,rfl⟩);obtain⟨l',b,h2⟩:=jb.1 h1;rw[iT]at b;have h3:=h l hl;have h4:=g l' b;exact⟨l',b,Qk⟩
 exact λu=>⟨c h g (λa=>(e a).1) u,c g h (λa=>(e a).2) u⟩
def Zxz{p:LPd}(hm:p.right.length<=7)(hn:p.cols.length<=13){s:LSt}(v0:Val p s)(s0:WN p s)(na:NA p s){N:Nat}(hN:1716<=N):Zbu p (runL p N s)=none:=by
 by_cases hr:∃k,k<N/\Zbu p (runL p k s)=none
 ·obtain⟨k,hk,e⟩:=hr;rw[show N=k+(N - k) by omega,Zaq,Xm e];exact e
 ·exfalso;have d:∀k,k<N->Zbu p (runL p k s)≠none:=λk hk e=>hr ⟨k,hk,e⟩
  have b:=λk=>Ynp (na.run (n:=k) v0) (YY v0 s0 k).1 hn
  have c:=λk=>setN_ok (b k).1 (b k).2.1
  obtain⟨i,j,f,hj,he⟩:=pigeon 1716 (N+1) (λk=>rkb 13 p.right.length (Ycd (Yfj p (runL p k s)))) Qk λk _=>by
   have h1:=rkb_lt (c k).1 (c k).2;rw[(b k).2.2]at h1;have:=cb_all p.right.length Qk;show rkb 13 _ _<1716;omega
  have e1:=rkb_inj (c i).1 (c j).1 ((c i).2.trans (b i).2.2) ((c j).2.trans (b j).2.2) he;exact Ycc v0 s0 d f Qk (Yhs (na.run v0) (na.run v0) λa=>⟨setN_mem (b i).1 (b j).1 (b i).2.1 (b j).2.1 e1 a,setN_mem (b j).1 (b i).1 (b j).2.1 (b i).2.1 e1.symm a⟩)
end Pl
namespace Pl
structure IdP (p:LPd):Prop where
 le:p.right.length<=p.cols.length
 col:∀i,i<p.right.length->∀r,r<p.right.length->p.col (i:Int) r=if r=i then 1 else 0
 pos:∀i,i<p.right.length->0<qAt p.right i
def stI(p:LPd)(k:Nat):LSt:=⟨if k<p.right.length then 1 else 2,(List.range p.right.length).map λi=>if i<k then(i:Int)else -1 - (i:Int),k⟩
def Yce{p:LPd}{k i:Nat}(hi:i<p.right.length):(stI p k).at_ i=if i<k then(i:Int)else -1 - (i:Int):=LSt.at_eq (by simp[stI,hi])
def IdM(p:LPd)(s:LSt):Prop:=∀i,i<p.right.length->∀r,r<p.right.length->s.mat p i r=if r=i then 1 else 0
def IdM.mulC{p:LPd}{s:LSt}(h:IdM p s)(x:Nat->Rat){r:Nat}(hr:r<p.right.length):Pl.mulC p.right.length (s.mat p) x r=x r:=by
 unfold Pl.mulC;rw[Z5 hr λi hi hne=>by rw[h i hi r hr,jA (λe=>hne e.symm)];grind,h r hr r hr,jB rfl];grind
def IdM.reg{p:LPd}{s:LSt}(h:IdM p s):Reg p s:=λy hy k hk=>by rw[<-h.mulC y hk];exact hy k hk
def IdM.z{p:LPd}{s:LSt}(h:IdM p s):∀i,i<p.right.length->qAt (zL p s) i=qAt p.right i:=Zuy h.reg λr hr=>h.mulC _ hr
def IdM.dual{p:LPd}{s:LSt}(h:IdM p s){k:Nat}(hk:k<p.right.length):qAt (XF p s) k=XE p s.phase (s.at_ k):=by
 rw[<-Zhy h.reg k hk,Z5 hk λi hi hne=>by rw[h k hk i hi,jA hne];grind,h k hk k hk,jB rfl];grind
def IdP.mat{p:LPd}(h:IdP p){ph pv:Int}{k:Nat}{b:List Int}(hb:∀i,i<p.right.length->(LSt.mk ph b pv).at_ i=if i<k then(i:Int)else -1 - (i:Int)):IdM p ⟨ph,b,pv⟩:=λi hi r hr=>by
 show p.col ((LSt.mk ph b pv).at_ i) r=_
 rw[hb i hi]
 split
 ·exact h.col i hi r hr
 ·rw[LPd.col_neg]
  have:=h.pos i hi
  simp only
  split
  ·rw[jA λg=>by have:=UE.1 g;grind]
  ·rfl
def Yln{p:LPd}(h:IdP p){k:Nat}{ph pv:Int}{b:List Int}(hb:∀i,i<p.right.length->(LSt.mk ph b pv).at_ i=if i<k then(i:Int)else -1 - (i:Int)):(settleQ p ⟨ph,b,pv⟩)=⟨if k<p.right.length then ph else 2,b,pv⟩:=by
 have hm:=h.mat hb;unfold settleQ;by_cases hk:k<p.right.length
 ·have:Zdb ⟨ph,b,pv⟩ (zL p ⟨ph,b,pv⟩) (zL p ⟨ph,b,pv⟩).length=true:=Zdc (k:=k) (by rw[hb k hk,jA Qk];omega) (by rw[hm.z k hk];have:=h.pos k hk;grind) (by rw[Zer hm.reg];exact hk);rw[this,jB rfl,jB hk]
 ·have:Zdb ⟨ph,b,pv⟩ (zL p ⟨ph,b,pv⟩) (zL p ⟨ph,b,pv⟩).length=false:=Zet λi hi ha=>by
   rw[Zer hm.reg]at hi;rw[hb i hi,jB Qk]at ha;omega
  rw[this,jA Ql,jA hk]
def Yht{p:LPd}(h:IdP p):settleQ p (YG p)=stI p 0:=by
 have:=Yln h (k:=0) (ph:=1) (pv:=0) (b:=Zsf p.right.length) λi hi=>by
  rw[jA Qk];exact Zdd hi
 show settleQ p ⟨1,Zsf p.right.length,0⟩=_;rw[this];unfold stI Zsf;simp
def Zkq{p:LPd}{s:LSt}{Z D:List RF}{k:Nat}(hk:0<qAt D k)(h:∀i,i≠k->¬0<qAt D i):∀n,Ye p s Z D n=if k<n then some k else none
 |0=>by rw[jA Qk];rfl
 |n+1=>by
  have ih:=Zkq (p:=p) (s:=s) (Z:=Z) hk h n
  by_cases e:n=k
  ·subst e
   rw[jA Qk]at ih
   rw[Y6 ih hk,jB Qk]
  ·rw[Xt (h n e),ih]
   by_cases g:k<n
   ·rw[jB g,jB Qk]
   ·rw[jA g,jA Qk]
def Yhu{p:LPd}(h:IdP p){k:Nat}(hk:k<p.right.length):Zbu p (stI p k)=some (stI p (k+1)):=by
 have hm:IdM p (stI p k):=h.mat λi hi=>Yce hi
 have c:(stI p k).phase=1:=by show(if k<p.right.length then(1:Int)else 2)=1;rw[jB hk]
 have hd:∀i,i<p.right.length->qAt (XF p (stI p k)) i=if i<k then 0 else 1:=λi hi=>by
  rw[hm.dual hi,c,Yce hi];split
  ·exact Ws Qk Qk
  ·exact Zhw Qk
 have a:∀j,j<p.right.length->VA p (stI p k) (j:Int)=if j<k then 0 else -1:=λj hj=>by
  rw[Zfs hm.reg,c,Ws Qk Qk];have:Yfi p (stI p k) (j:Int)=qAt (XF p (stI p k)) j:=by
   unfold Yfi;rw[Z5 hj λi hi hne=>by rw[h.col j hj i hi,jA hne];grind,h.col j hj j hj,jB rfl];grind
  rw[this,hd j hj];split <;> grind
 have d:Zmf p (stI p k)=some k:=WZ (iI _) (by have:=h.le;omega) (by show VA _ _ _<0;rw[a k hk,jA Qk];decide) λi _ hi=>by
  show¬VA _ _ _<0;rw[a i Qk,jB hi];decide
 have b:∀i,i<p.right.length->qAt (dirL p (stI p k) (k:Int)) i=if i=k then 1 else 0:=λi hi=>by
  have:=Wx hm.reg (k:Int) i hi;rw[hm.mulC _ hi,h.col k hk i hi]at this;exact this
 have f:=Zbv hm.reg (k:Int);have m:∀i,i≠k->¬0<qAt (dirL p (stI p k) (k:Int)) i:=λi hne=>by
  rcases JX i p.right.length with hi|hi
  ·rw[b i hi,jA hne];decide
  ·have:qAt (dirL p (stI p k) (k:Int)) i=0:=by
    unfold qAt;rw[JU (by rw[f];exact hi)]
   rw[this];decide
 obtain⟨h1,h2,h3⟩:=Xl d;have n:Xa p (stI p k)=0:=by
  rw[h1]
  cases hs:X8 (stI p k) (dirL p (stI p k) (k:Int)) (dirL p (stI p k) (k:Int)).length with
  |false=>rfl
  |true=>have:=(Zia hs).1;omega
 have o:Vb p (stI p k) (zL p (stI p k)) (Ud p (stI p k))=some k:=by
  rw[h3,Zbt Qk,Zkq (by rw[b k hk,jB rfl];decide) m,jB (by rw[f];exact hk)]
 rw[Zpa n o,h2]
 congr 1
 have l:∀i,i<p.right.length->(LSt.mk (stI p k).phase ((stI p k).basis.set k (k:Int)) ((stI p k).pivots+1)).at_ i=if i<k+1 then(i:Int)else -1 - (i:Int):=λi hi=>by
  refine LSt.at_eq ?_;show((stI p k).basis.set k (k:Int))[i]? =_;rw[iV];by_cases e:k=i
  ·subst e;rw[jB rfl,jB (by simp[stI,hk]),jB Qk]
  ·rw[jA e];have:(stI p k).basis[i]? =some (if i<k then(i:Int)else -1 - (i:Int)):=by simp[stI,hi]
   rw[this];by_cases g:i<k
   ·rw[jB g,jB Qk]
   ·rw[jA g,jA Qk]
 rw[Yln h l,c];unfold stI
 congr 1
 refine jV λi=>?_
 rcases JX i p.right.length with hi|hi
 ·have h4:=l i hi;have h5:i< ((stI p k).basis.set k (k:Int)).length:=by simp[stI,hi]
  rw[LSt.at_eq (JQ h5)]at h4;show((stI p k).basis.set k (k:Int))[i]? =_;rw[JQ h5,h4];simp[hi]
 ·rw[JU (by simpa using hi),JU (by simpa using hi)]
def Ycf{p:LPd}(h:IdP p):∀k,k<=p.right.length->runL p k (settleQ p (YG p))=stI p k
 |0,_=>Yht h
 |k+1,hk=>by
  rw[Zaq (a:=k) (b:=1),Ycf h k Qk,XG (Yhu h Qk)]
  rfl
def Yri{p:LPd}(h:IdP p)(hm:p.right.length<=7)(hn:p.cols.length<=13){N:Nat}(hN:1723<=N):
 Val p (runL p N (settleQ p (YG p)))/\(runL p N (settleQ p (YG p))).phase=2/\Xa p (runL p N (settleQ p (YG p)))≠0:=by
 have v0:=(Zde p).settle;have s0:WN p (settleQ p (YG p)):=settled_settle;have e:=Ycf h p.right.length (JY _);have v1:=(YY v0 s0 p.right.length).1;have s1:=(YY v0 s0 p.right.length).2;have e2:runL p N (settleQ p (YG p))=runL p (N - p.right.length) (stI p p.right.length):=by rw[<-e,<-Zaq];congr 1;omega
 rw[e]at v1 s1;have b:(stI p p.right.length).phase=2:=by show(if p.right.length<p.right.length then(1:Int)else 2)=2;rw[jA Qk]
 have hv:=(YY v1 s1 (N - p.right.length)).1;rw[e2];have a:(runL p (N - p.right.length) (stI p p.right.length)).phase=2:=by
  have h1:=runL_phase (n:=N - p.right.length) v1;have:=hv.ph;omega
 refine⟨hv,a,λhq=>?_⟩;exact Ynn hv hq (Zxz hm hn v1 s1 (λi hi=>by rw[Yce hi,jB hi];omega) Qk)
end Pl
namespace Pl
def kZ(z:Int):RF:=canF (z:Rat)
def Yfm(z:Int):(kZ z).q=(z:Rat):=Zv _
def Zyd{z:Int}(h: -4294967296<z)(h2:z<4294967296):(kZ z).Rs 1:=(Zuu h h2).rs
def coefP(x:Ct)(l:List Int):Int:=((l.filter λf=>decide (f∈x.rows)).length:Int)/x.dv
def Zez(n:Nat)(l:List Int):Nat->List Ct->List En
 |_,[]=>[]
 |k,x::xs=>(if coefP x l≠0 then [⟨((n+k:Nat):Int),kZ (coefP x l)⟩]else [])++Zez n l (k+1) xs
def Zpo(n:Nat)(l:List Int)(x:Ct):∀(xs:List Ct) (k:Nat),Zez n l k (xs++[x])=Zez n l k xs++(if coefP x l≠0 then [⟨((n+(k+xs.length):Nat):Int),kZ (coefP x l)⟩]else [])
 | [],k=>by simp[Zez]
 |y::xs,k=>by
  rw[vW,Zez,Zpo n l x xs (k+1),Zez,dS,ky,show k+1+xs.length=k+(xs.length+1) by omega]
def Zmq(R l:List Int):List En:=l.map λf=>⟨(posR R f:Nat),kZ 1⟩
def Yil(m:Ms)(c:Cl):List En:=Zmq m.rows (Yj c.ops)++Zez m.rows.length c.ops 0 m.cuts
def Zdo(i:Nat):List En:=[⟨(i:Int),kZ 1⟩]
def Zig(m:Ms):List RF:=(m.rows.map λ_=>kZ 1)++m.cuts.map λx=>kZ ((x.rows.length:Int)/x.dv)
def Zmr(m:Ms):List RF:=(m.rows.map λ_=>kZ m.pen)++(m.cuts.map λ_=>kZ 0)++m.cols.map λc=>kZ c.cost
def Zsm(m:Ms):List (List En):=((List.range m.rows.length).map Zdo)++((List.range m.cuts.length).map λk=>Zdo (m.rows.length+k))++m.cols.map (Yil m)
def lpM(m:Ms):LPd:=⟨Zmr m,Zsm m,Zig m⟩
def Xn(m:Ms):(lpM m).right.length=m.rows.length+m.cuts.length:=by simp[lpM,Zig]
def Xu(m:Ms):(lpM m).cols.length=m.rows.length+m.cuts.length+m.cols.length:=by simp[lpM,Zsm];omega
def Zvh(m:Ms):(lpM m).cost.length=m.rows.length+m.cuts.length+m.cols.length:=by simp[lpM,Zmr];omega
def Zpp{m:Ms}{i:Nat}(hi:i<m.rows.length+m.cuts.length):(lpM m).cols[i]? =some (Zdo i):=by
 show(Zsm m)[i]? =_;unfold Zsm;rw[jI (by simp;omega)];rcases JX i m.rows.length with h|h
 ·rw[jI (by simp;omega)];simp[h]
 ·rw[jH (by simpa using h)];simp only[BD,aQ,bJ];rw[List.getElem?_range Qk];simp[Nat.add_sub_cancel' h]
def Zvi{m:Ms}{j:Nat}{c:Cl}(hc:m.cols[j]? =some c):(lpM m).cols[m.rows.length+m.cuts.length+j]? =some (Yil m c):=by
 show(Zsm m)[m.rows.length+m.cuts.length+j]? =_;unfold Zsm;rw[jH (by simp)];simp[hc]
def Zvj{m:Ms}{i:Nat}{es:List En}(h:(lpM m).cols[i]? =some es):(i<m.rows.length+m.cuts.length/\es=Zdo i)\/∃j c,i=m.rows.length+m.cuts.length+j/\m.cols[j]? =some c/\es=Yil m c:=by
 rcases JX i (m.rows.length+m.cuts.length)with hi|hi
 ·rw[Zpp hi]at h;injection h with h;exact .inl ⟨hi,h.symm⟩
 ·have hl:=(JO.1 h).1;rw[Xu]at hl;obtain⟨j,rfl⟩:∃j,i=m.rows.length+m.cuts.length+j:=⟨i - (m.rows.length+m.cuts.length),Qk⟩;obtain⟨c,hc⟩:∃c,m.cols[j]? =some c:=⟨m.cols[j]' Qk,JQ _⟩;rw[Zvi hc]at h;injection h with h;exact .inr ⟨j,c,rfl,hc,h.symm⟩
def Zih(a b:List En)(f:Nat->Rat):dQ (a++b) f=dQ b (dQ a f):=by
 induction a generalizing f with
 |nil=>rfl
 |cons e a ih=>rw[vW,dQ,dQ,ih]
def Ycr{es:List En}{f:Nat->Rat}{r:Nat}(h:∀e∈es,e.idx≠(r:Int)):dQ es f r=f r:=by
 induction es generalizing f with
 |nil=>rfl
 |cons e es ih=>
  rw[dQ,ih λd hd=>h d (jG _ hd)];show(if e.idx=(r:Int)then e.f.q else f r)=f r;rw[jA (h e (jK ..))]
def Ycs{R:List Int}(hR:R.Pairwise (·< ·)){r:Nat}{g:Int}(hg:R[r]? =some g):∀(l:List Int) (f:Nat->Rat),(∀y∈l,y∈R)->dQ (Zmq R l) f r=if g∈l then 1 else f r
 | [],f,_=>by simp[Zmq,dQ]
 |y::l,f,hl=>by
  have ih:=Ycs hR hg l (λi=>if((posR R y:Nat):Int)=(i:Int)then(kZ 1).q else f i) λz hz=>hl z (jG _ hz)
  show dQ (Zmq R l) _ r=_
  rw[ih]
  have hy:=hl y (jK ..)
  by_cases e:y=g
  ·subst e
   have hp:=Zsj hR hg
   rw[jB (jK ..)]
   split
   ·rfl
   ·show(if((posR R y:Nat):Int)=(r:Int)then(kZ 1).q else f r)=1
    rw[jB Qk,Yfm];rfl
  ·have hne:posR R y≠r:=λh=>by
    have:=VL hR hy
    rw[h,hg]at this
    injection this with this
    exact e this.symm
   by_cases hm:g∈l
   ·rw[jB hm,jB (jG _ hm)]
   ·rw[jA hm]
    show(if((posR R y:Nat):Int)=(r:Int)then(kZ 1).q else f r)=_
    rw[jA Qk,jA (λh=>by rcases jw.1 h with h|h;exact e h.symm;exact hm h)]
def Ux{n:Nat}{l:List Int}:∀{xs:List Ct} {k:Nat} {e:En},e∈Zez n l k xs->∃j x,xs[j]? =some x/\e.idx=((n+(k+j):Nat):Int)/\e.f=kZ (coefP x l)/\coefP x l≠0
 | [],_,_,h=>by simp[Zez]at h
 |x::xs,k,e,h=>by
  rw[Zez,jW]at h
  rcases h with h|h
  ·by_cases hc:coefP x l≠0
   ·rw[jB hc]at h
    have:e=⟨((n+k:Nat):Int),kZ (coefP x l)⟩:=by simpa using h
    subst this
    exact⟨0,x,rfl,rfl,rfl,hc⟩
   ·rw[jA hc]at h;simp at h
  ·obtain⟨j,y,h1,h2,h3⟩:=Ux h
   exact⟨j+1,y,by simpa using h1,by rw[h2];congr 1;omega,h3⟩
def Yct{n:Nat}{l:List Int}{f:Nat->Rat}:∀{xs:List Ct} {k j:Nat} {x:Ct},xs[j]? =some x->f (n+(k+j))=0->dQ (Zez n l k xs) f (n+(k+j))=(coefP x l:Rat)
 | [],_,_,_,h,_=>by simp at h
 |y::xs,k,0,x,h,hf=>by
  simp at h;subst h
  rw[Zez,Zih,Ycr λe he=>?_]
  ·by_cases hc:coefP y l≠0
   ·rw[jB hc]
    show(if((n+k:Nat):Int)=((n+(k+0):Nat):Int)then(kZ (coefP y l)).q else f _)=_
    rw[jB (by simp),Yfm]
   ·rw[jA hc]
    have:coefP y l=0:=fF hc
    show f _=_
    rw[hf,this];rfl
  ·obtain⟨j,_,_,h2,_⟩:=Ux he
   omega
 |y::xs,k,j+1,x,h,hf=>by
  rw[Zez,Zih]
  have h':xs[j]? =some x:=by simpa using h
  have e:n+(k+(j+1))=n+(k+1+j):=Qk
  rw[e]at hf⊢
  refine Yct h' ?_
  by_cases hc:coefP y l≠0
  ·rw[jB hc]
   show(if((n+k:Nat):Int)=((n+(k+1+j):Nat):Int)then _ else f _)=0
   rw[jA Qk];exact hf
  ·rw[jA hc];exact hf
def Ylp(m:Ms)(c:Cl)(r:Nat):Int:=match m.rows[r]? with|some g=>if g∈c.ops then 1 else 0|none=>match m.cuts[r - m.rows.length]? with|some x=>coefP x c.ops|none=>0
def Zgq{m:Ms}{c:Cl}{r:Nat}{g:Int}(h:m.rows[r]? =some g):Ylp m c r=if g∈c.ops then 1 else 0:=by unfold Ylp;rw[h]
def Zms{m:Ms}{c:Cl}{k:Nat}{x:Ct}(h:m.cuts[k]? =some x):Ylp m c (m.rows.length+k)=coefP x c.ops:=by
 unfold Ylp;rw[JU Qk,dB,h]
def Zas{m:Ms}{r:Nat}(h:r<m.rows.length+m.cuts.length):(∃g,m.rows[r]? =some g)\/∃k x,r=m.rows.length+k/\m.cuts[k]? =some x:=by
 rcases JX r m.rows.length with g|g
 ·exact .inl ⟨_,JQ g⟩
 ·exact .inr ⟨r - m.rows.length,_,Qk,JQ (show r - m.rows.length<m.cuts.length by omega)⟩
def Zdp{m:Ms}{i:Nat}(hi:i<m.rows.length+m.cuts.length)(r:Nat):(lpM m).col (i:Int) r=if r=i then 1 else 0:=by
 rw[LPd.col_pos (Zpp hi)];show(if((i:Int))=(r:Int)then(kZ 1).q else 0)=_;by_cases e:r=i
 ·rw[jB e,jB Qk,Yfm];rfl
 ·rw[jA e,jA Qk]
def Zsn{m:Ms}(ok:VM m){j:Nat}{c:Cl}(hc:m.cols[j]? =some c){r:Nat}(hr:r<m.rows.length+m.cuts.length):(lpM m).col ((m.rows.length+m.cuts.length+j:Nat):Int) r=(Ylp m c r:Rat):=by
 have b:=jC hc;have a:∀y∈Yj c.ops,y∈m.rows:=λy hy=>ok.sub c b y ((YS ltI).1 hy)
 rw[LPd.col_pos (Zvi hc)];unfold Yil X5;rw[Zih];rcases Zas hr with⟨g,hg⟩|⟨k,x,rfl,hx⟩
 ·have d:=(JO.1 hg).1;rw[Ycr λe he=>by obtain⟨j,_,_,h2,_⟩:=Ux he;omega,Ycs ok.asc hg _ _ a,Zgq hg];have:g∈Yj c.ops↔g∈c.ops:=YS ltI;by_cases h:g∈c.ops
  ·rw[jB (this.2 h),jB h];rfl
  ·rw[jA (λe=>h (this.1 e)),jA h];rfl
 ·rw[Zms hx];have:=Yct (n:=m.rows.length) (l:=c.ops) (f:=dQ (Zmq m.rows (Yj c.ops)) λ_=>0) (k:=0) hx (by
   rw[Ycr λe he=>?_];obtain⟨y,hy,rfl⟩:=jb.1 he;have:=U8 ok.asc (a y hy);show((posR m.rows y:Nat):Int)≠_;omega)
  simpa using this
def Zvk{m:Ms}(ok:VM m){c:Cl}(hc:c∈m.cols){x:Ct}(hx:x∈m.cuts):0<=coefP x c.ops/\coefP x c.ops<=6:=by
 have h1:=(ok.cut x hx).2.2.1;have h2:=ok.opl hc;have h3:=jq (λf=>decide (f∈x.rows)) c.ops;unfold coefP;refine⟨vV Qk Qk,?_⟩;have:=vJ (a:=((c.ops.filter λf=>decide (f∈x.rows)).length:Int)) x.dv Qk;omega
def Zvl{m:Ms}(ok:VM m){x:Ct}(hx:x∈m.cuts):1<=(x.rows.length:Int)/x.dv/\(x.rows.length:Int)/x.dv<=6:=by
 obtain⟨h1,h2,h3,h4⟩:=ok.cut x hx;have h5:x.rows.length<=m.rows.length:=ZZ (h1.imp fun{a b} hab=>Qk) h2;have h6:=ok.row1;have h7:=vJ (a:=(x.rows.length:Int)) x.dv Qk;have h8:=(dJ (a:=1) (b:=(x.rows.length:Int)) (show 0<x.dv by omega)).2 Qk;omega
def Yrm{m:Ms}(ok:VM m):(lpM m).Ok 1:=by
 have h1:(kZ 1).Rs 1:=Zyd Ql Ql;have mk:∀(l:List RF),(∀f∈l,f.Rs 1)->RsL 1 l:=λl h i f hf=>h f (jC hf)
 refine⟨mk _ λf hf=>?_,mk _ λf hf=>?_,λi es he=>?_⟩
 ·rcases jW.1 hf with hf|hf
  ·rcases jW.1 hf with hf|hf
   ·obtain⟨_,_,rfl⟩:=jb.1 hf;have:=ok.pen0;have:=ok.pen1;exact Zyd Qk Qk
   ·obtain⟨_,_,rfl⟩:=jb.1 hf;exact Zyd Ql Ql
  ·obtain⟨c,hc,rfl⟩:=jb.1 hf;have:=ok.cost c hc;exact Zyd Qk Qk
 ·rcases jW.1 hf with hf|hf
  ·obtain⟨_,_,rfl⟩:=jb.1 hf;exact h1
  ·obtain⟨x,hx,rfl⟩:=jb.1 hf;have:=Zvl ok hx;exact Zyd Qk Qk
 ·have b:i<10000:=by
   have h:=(JO.1 he).1;rw[Xu]at h;have:=ok.row1;have:=ok.ncut;have:=ok.ncol;omega
  have d:=ok.row1;have g:=ok.ncut;have a:∀e∈es,(0<=e.idx/\e.idx<=10000)/\e.f.Rs 1:=by
   rcases Zvj he with⟨hi,rfl⟩|⟨j,c,rfl,hc,rfl⟩
   ·intro e h;have:e=⟨(i:Int),kZ 1⟩:=by simpa[Zdo]using h
    subst this;exact⟨by simp only;omega,h1⟩
   ·intro e h;rcases jW.1 h with h|h
    ·obtain⟨y,hy,rfl⟩:=jb.1 h;have:=Ycp m.rows y;exact⟨by simp only;omega,h1⟩
    ·obtain⟨j',x,g1,g2,g3,_⟩:=Ux h;have:=(JO.1 g1).1;have hb:=Zvk ok (jC hc) (jC g1);rw[g3];exact⟨Qk,Zyd Qk Qk⟩
  exact⟨λk e hk=>by have:=(a e (jC hk)).1;omega,λk e hk=>(a e (jC hk)).2⟩
def Ycu{n:Int}:∀(es:List En) (p:Option Int),es.Pairwise (λa b=>a.idx<b.idx)->(∀e∈es,0<=e.idx/\e.idx<n/\e.f.q≠0)->(∀j,p=some j->∀e∈es,j<e.idx)->Zcu n es p=0
 | [],_,_,_,_=>rfl
 |e::es,p,hp,h,hq=>by
  rw[jT]at hp
  have h1:=h e (jK ..)
  rw[Zcu,jA Qk,jA,jA h1.2.2]
  ·exact Ycu es _ hp.2 (λd hd=>h d (jG _ hd)) λj hj d hd=>by injection hj with hj;subst hj;exact hp.1 d hd
  ·cases p with
   |none=>simp[leP]
   |some j=>have:=hq j rfl e (jK ..);simp[leP];omega
def Ycv{R:List Int}(h:R.Pairwise (·< ·)){f g:Int}(hf:f∈R)(hg:g∈R)(hlt:f<g):posR R f<posR R g:=by
 rcases kF (posR R f) (posR R g)with e|e|e
 ·exact e
 ·have:=Zmo h hf hg e;omega
 ·have:=V3 h e (VL h hg) (VL h hf);omega
def Zvm{n:Nat}{l:List Int}:∀(xs:List Ct) (k:Nat),(Zez n l k xs).Pairwise λa b=>a.idx<b.idx
 | [],_=>by simp[Zez]
 |x::xs,k=>by
  rw[Zez,kg]
  refine⟨?_,Zvm xs (k+1),λa ha b hb=>?_⟩
  ·split <;> simp
  ·obtain⟨j,_,_,h2,_⟩:=Ux hb
   split at ha
   ·have:a=⟨((n+k:Nat):Int),kZ (coefP x l)⟩:=by simpa using ha
    subst this
    simp only;omega
   ·simp at ha
def Ycw{m:Ms}(ok:VM m){i:Nat}{es:List En}(he:(lpM m).cols[i]? =some es):es.Pairwise (λa b=>a.idx<b.idx)/\∀e∈es,0<=e.idx/\e.idx< ((m.rows.length+m.cuts.length:Nat):Int)/\e.f.q≠0:=by
 have h1:(kZ 1).q≠0:=by rw[Yfm];decide
 rcases Zvj he with⟨hi,rfl⟩|⟨j,c,rfl,hc,rfl⟩
 ·refine⟨by simp[Zdo],λe h=>?_⟩;have:e=⟨(i:Int),kZ 1⟩:=by simpa[Zdo]using h
  subst this;exact⟨by simp only;omega,by simp only;omega,h1⟩
 ·have g:=jC hc;have d:∀y∈Yj c.ops,y∈m.rows:=λy hy=>ok.sub c g y ((YS ltI).1 hy)
  refine⟨?_,λe h=>?_⟩
  ·unfold Yil;rw[kg];refine⟨?_,Zvm _ _,λa ha b hb=>?_⟩
   ·unfold Zmq;rw[gD];refine(Zdk (ok.nd c g)).imp_of_mem fun{a b} ha hb hab=>?_
    have:=Ycv ok.asc (d a ha) (d b hb) hab;simp only;omega
   ·obtain⟨y,hy,rfl⟩:=jb.1 ha;obtain⟨j',_,_,g2,_⟩:=Ux hb;have:=U8 ok.asc (d y hy);simp only;omega
  ·rcases jW.1 h with h|h
   ·obtain⟨y,hy,rfl⟩:=jb.1 h;have:=U8 ok.asc (d y hy);exact⟨by simp only;omega,by simp only;omega,h1⟩
   ·obtain⟨j',x,g1,g2,g3,g4⟩:=Ux h;have:=(JO.1 g1).1;refine⟨Qk,Qk,?_⟩;rw[g3,Yfm];intro e;exact g4 (by exact_mod_cast e)
def Ycx{m:Ms}(ok:VM m):lpErr (lpM m)=0:=by
 have h1:=ok.row1;have h2:=ok.ncut;have h3:=ok.ncol;unfold lpErr;rw[jA (by rw[Xn,Xu];omega),jA (by rw[Zvh,Xu];simp),Xn];have:∀(cs:List (List En)),(∀es∈cs,vecErr es ((m.rows.length+m.cuts.length:Nat):Int)=0)->X0 ((m.rows.length+m.cuts.length:Nat):Int) cs=0:=by
  intro cs
  induction cs with
  |nil=>intro _;rfl
  |cons c cs ih=>intro h;rw[X0,jB (h c (jK ..))];exact ih λes hes=>h es (jG _ hes)
 refine this _ λes hes=>?_
 obtain⟨i,hi⟩:=kS.1 hes;obtain⟨g1,g2⟩:=Ycw ok hi;unfold vecErr;rw[jA Qk];exact Ycu es none g1 g2 λj hj=>by cases hj
def Ynt{m:Ms}(ok:VM m)(h5:m.rows.length<=5):(lpM m).Fit 1/\(lpM m).right.length<=7/\5^(lpM m).right.length*1<=4000000:=by
 have h2:=ok.ncut;have h3:=ok.ncol;have hr:=Xn m;have hp:5^(lpM m).right.length*1<=78125:=by
  have:5^(lpM m).right.length<=5^7:=jS Ql Qk;omega
 refine⟨⟨Yrm ok,λi es he k e hk=>?_,Qk,by rw[Zvh,Xu],by rw[Xu];omega,Ql,Qk⟩,Qk,Qk⟩;have:=(Ycw ok he).2 e (jC hk);rw[hr];omega
def Zmt{m:Ms}{r:Nat}(h:r<m.rows.length+m.cuts.length):∃z:Int,qAt (lpM m).right r=(z:Rat)/\1<=z/\(∀g,m.rows[r]? =some g->z=1)/\(∀k x,r=m.rows.length+k->m.cuts[k]? =some x->z=(x.rows.length:Int)/x.dv)\/¬VM m:=by
 by_cases ok:VM m
 ·refine⟨(match m.cuts[r - m.rows.length]? with|some x=>if r<m.rows.length then 1 else(x.rows.length:Int)/x.dv|none=>1),.inl ?_⟩;rcases Zas h with⟨g,hg⟩|⟨k,x,rfl,hx⟩
  ·have hr:=(JO.1 hg).1;have e:(match m.cuts[r - m.rows.length]? with|some x=>if r<m.rows.length then 1 else(x.rows.length:Int)/x.dv|none=>1)=(1:Int):=by
    split
    ·rw[jB hr]
    ·rfl
   rw[e];refine⟨?_,Qk,λ_ _=>rfl,λk x hk=>Qk⟩;show qAt (Zig m) r=_;unfold qAt Zig;rw[jI (by simpa using hr)];simp[hg,Yfm]
  ·rw[dB,hx];simp only;rw[jA Qk];refine⟨?_,(Zvl ok (jC hx)).1,λg hg=>?_,λk' y hk hy=>?_⟩
   ·show qAt (Zig m) _=_;unfold qAt Zig;rw[jH (by simp)];simp[hx,Yfm]
   ·have:=(JO.1 hg).1;omega
   ·obtain rfl:k'=k:=Qk
    rw[hx]at hy;injection hy with hy;rw[hy]
 ·exact⟨0,.inr ok⟩
def Yrn{m:Ms}(ok:VM m):IdP (lpM m):=by
 refine⟨by rw[Xn,Xu];omega,λi hi r _=>Zdp (by rw[Xn]at hi;exact hi) r,λi hi=>?_⟩;rw[Xn]at hi;obtain⟨z,h|h⟩:=Zmt hi
 ·rw[h.1];have:(0:Rat)< ((z:Int):Rat):=by exact_mod_cast (show(0:Int)<z by omega)
  exact this
 ·exact absurd ok h
end Pl
namespace Pl
def Zat(f:Nat->Rat)(a:Nat):∀b,ZF f (a+b)=ZF f a+ZF (λj=>f (a+j)) b
 |0=>by rw[Yz];grind
 |b+1=>by rw[<-ve,Zz,Zat f a b,Zz];grind
def Zvn(m:Ms)(i:Int)(r:Nat):Int:=match m.cols[i.toNat]? with|some c=>Ylp m c r|none=>0
def Zdq(m:Ms)(i:Int):List Int:=match m.cols[i.toNat]? with|some c=>c.ops|none=>[]
def Zay(b:List Int)(f:Int->Int):Int:=(b.map f).sum
def Y7(i:Int)(b:List Int)(f:Int->Int):Zay (i::b) f=f i+Zay b f:=by simp[Zay]
def Ycy{b:List Int}{f:Int->Int}(h:∀i∈b,f i=0):Zay b f=0:=by
 induction b with
 |nil=>rfl
 |cons i b ih=>rw[Y7,h i (jK ..),ih λj hj=>h j (jG _ hj)];rfl
def Ycz{b:List Int}{f g:Int->Int}(h:∀i∈b,f i<=g i):Zay b f<=Zay b g:=by
 induction b with
 |nil=>exact ib _
 |cons i b ih=>
  rw[Y7,Y7];have:=h i (jK ..);have:=ih λj hj=>h j (jG _ hj)
  omega
def Zkt{b:List Int}{f g:Int->Int}(h:∀i∈b,f i=g i):Zay b f=Zay b g:=Int.le_antisymm (Ycz λi hi=>by rw[h i hi];exact ib _) (Ycz λi hi=>by rw[h i hi];exact ib _)
def Zso{q:Nat}(g:Int->Int):∀(b:List Int),b.Nodup->(∀i∈b,0<=i/\i<q)->ZF (λj=>if(j:Int)∈b then((g (j:Int):Int):Rat)else 0) q=((Zay b g:Int):Rat)
 | [],_,_=>by
  rw[Zk (g:=λ_=>0) λj _=>by simp,Xi];rfl
 |i::b,hn,h=>by
  rw[dP]at hn
  have hi:=h i (jK ..)
  obtain⟨k,rfl⟩:=JT hi.1
  have hk:k<q:=Qk
  have ih:=Zso g b hn.2 λj hj=>h j (jG _ hj)
  rw[Zk (g:=λj=>(if j=k then((g (k:Int):Int):Rat)else 0)+if(j:Int)∈b then((g (j:Int):Int):Rat)else 0) λj _=>?_,Xq,XL hk,ih,Y7,Rat.intCast_add]
  by_cases e:j=k
  ·subst e
   rw[jB (jK ..),jB rfl,jA hn.1];grind
  ·rw[jA e]
   by_cases hj:(j:Int)∈b
   ·rw[jB (jG _ hj),jB hj];grind
   ·rw[jA hj,jA λh=>by rcases jw.1 h with h|h;exact e Qk;exact hj h];grind
def DjO(m:Ms)(b:List Int):Prop:=b.Pairwise λi j=>∀f∈Zdq m i,f ∉ Zdq m j
def Yro{m:Ms}(ok:VM m){b:List Int}(h:Sel (dcs m) b):DjO m b:=by
 refine h.dj.imp_of_mem fun{i j} hi hj hij=>?_
 obtain⟨i0,i1⟩:=h.rg i hi;obtain⟨j0,j1⟩:=h.rg j hj;rw[YD]at i1 j1;obtain⟨k,rfl⟩:=JT i0;obtain⟨l,rfl⟩:=JT j0;have hc:m.cols[k]? =some m.cols[k]:=JQ Qk;have hd:m.cols[l]? =some m.cols[l]:=JQ Qk;rw[XH (Zbh hc),XH (Zbh hd),Zpm ok (jC hc) (jC hd)]at hij;unfold Zdq;simp only[JP,hc,hd];exact hij
def Yda{m:Ms}{g:Int}:∀(b:List Int),DjO m b->0<=Zay b (λi=>if g∈Zdq m i then 1 else 0)/\Zay b (λi=>if g∈Zdq m i then 1 else 0)<=1
 | [],_=>by simp[Zay]
 |i::b,h=>by
  unfold DjO at h
  rw[jT]at h
  have ih:=Yda (m:=m) (g:=g) b h.2
  rw[Y7]
  by_cases e:g∈Zdq m i
  ·rw[jB e,Ycy λj hj=>jA (h.1 j hj g e)];omega
  ·rw[jA e];omega
def Ylq{m:Ms}{R:List Int}(hnd:∀i,(Zdq m i).Nodup):∀(b:List Int),DjO m b->(b.flatMap λi=>(Zdq m i).filter λf=>decide (f∈R)).Nodup/\Zay b (λi=>(((Zdq m i).filter λf=>decide (f∈R)).length:Int))=((b.flatMap λi=>(Zdq m i).filter λf=>decide (f∈R)).length:Int)
 | [],_=>by simp[Zay]
 |i::b,h=>by
  unfold DjO at h
  rw[jT]at h
  obtain⟨i1,i2⟩:=Ylq (R:=R) hnd b h.2
  rw[List.flatMap_cons,Y7,i2]
  refine⟨?_,by rw[kQ];omega⟩
  rw[Bg]
  refine⟨(hnd i).filter _,i1,λa ha c hc e=>?_⟩
  subst e
  obtain⟨j,hj,hc⟩:=List.mem_flatMap.1 hc
  exact h.1 j hj a (jk.1 ha).1 (jk.1 hc).1
def Ydb{d:Int}(hd:0<d)(f:Int->Int):∀(b:List Int),Zay b (λi=>f i/d)<=Zay b f/d
 | []=>by simp[Zay]
 |i::b=>by
  have ih:=Ydb hd f b
  rw[Y7,Y7]
  have h:f i/d+Zay b f/d<=(f i+Zay b f)/d:=by
   refine(dJ hd).2 ?_;have h1:=Int.ediv_mul_le (f i) (show d≠0 by omega);have h2:=Int.ediv_mul_le (Zay b f) (show d≠0 by omega);rw[iH];omega
  omega
def Ydc{m:Ms}(ok:VM m)(i:Int):(Zdq m i).Nodup:=by
 unfold Zdq;split
 ·rename_i c hc;exact ok.nd c (jC hc)
 ·simp
def Yrp{m:Ms}(ok:VM m){x:Ct}(hx:x∈m.cuts){b:List Int}(h:DjO m b):Zay b (λi=>coefP x (Zdq m i))<=(x.rows.length:Int)/x.dv:=by
 obtain⟨h1,h2,h3,h4⟩:=ok.cut x hx;obtain⟨c1,c2⟩:=Ylq (R:=x.rows) (Ydc ok) b h;refine gH (Ydb (show 0<x.dv by omega) _ b) ?_;refine Int.ediv_le_ediv Qk ?_;rw[c2];have:=ZZ c1 (b:=x.rows) λa ha=>by
  obtain⟨j,_,hc⟩:=List.mem_flatMap.1 ha;simpa using(jk.1 hc).2
 omega
def Zvo{m:Ms}{i:Int}(hi:∃c,m.cols[i.toNat]? =some c){r:Nat}{g:Int}(h:m.rows[r]? =some g):Zvn m i r=if g∈Zdq m i then 1 else 0:=by
 obtain⟨c,hc⟩:=hi;unfold Zvn Zdq;rw[hc];exact Zgq h
def Yim{m:Ms}{i:Int}(hi:∃c,m.cols[i.toNat]? =some c){k:Nat}{x:Ct}(h:m.cuts[k]? =some x):Zvn m i (m.rows.length+k)=coefP x (Zdq m i):=by
 obtain⟨c,hc⟩:=hi;unfold Zvn Zdq;rw[hc];exact Zms h
def Ynu(m:Ms)(b:List Int)(r:Nat):Rat:=qAt (lpM m).right r - ((Zay b (λi=>Zvn m i r):Int):Rat)
def Ynv{m:Ms}(ok:VM m){b:List Int}(h:Sel (dcs m) b){r:Nat}(hr:r<m.rows.length+m.cuts.length):0<=Ynu m b r:=by
 have hd:=Yro ok h;have a:∀i∈b,∃c,m.cols[i.toNat]? =some c:=λi hi=>by
  have:=h.rg i hi;rw[YD]at this;exact⟨_,JQ (show i.toNat<m.cols.length by omega)⟩
 obtain⟨z,hz|hz⟩:=Zmt hr
 ·obtain⟨z1,z2,z3,z4⟩:=hz;have d:Zay b (λi=>Zvn m i r)<=z:=by
   rcases Zas hr with⟨g,hg⟩|⟨k,x,rfl,hx⟩
   ·rw[z3 g hg,Zkt λi hi=>Zvo (a i hi) hg];exact(Yda b hd).2
   ·rw[z4 k x rfl hx,Zkt λi hi=>Yim (a i hi) hx];exact Yrp ok (jC hx) hd
  unfold Ynu;rw[z1];have:((Zay b (λi=>Zvn m i r):Int):Rat)<=((z:Int):Rat):=by exact_mod_cast d
  grind
 ·exact absurd ok hz
def xsM(m:Ms)(b:List Int):List RF:=Yn (m.rows.length+m.cuts.length+m.cols.length) λj=>if j<m.rows.length+m.cuts.length then Ynu m b j else if((j - (m.rows.length+m.cuts.length):Nat):Int)∈b then 1 else 0
def Ydd{m:Ms}{b:List Int}{j:Nat}(h:j<m.rows.length+m.cuts.length):qAt (xsM m b) j=Ynu m b j:=by
 unfold xsM;rw[YB Qk,jB h]
def Yde{m:Ms}{b:List Int}{j:Nat}(h:j<m.cols.length):qAt (xsM m b) (m.rows.length+m.cuts.length+j)=if(j:Int)∈b then 1 else 0:=by
 unfold xsM;rw[YB Qk,jA Qk,dB]
def Yrq{m:Ms}(ok:VM m){b:List Int}(h:Sel (dcs m) b):∀j,j< (lpM m).cols.length->0<=qAt (xsM m b) j:=λj hj=>by
 rw[Xu]at hj
 rcases JX j (m.rows.length+m.cuts.length)with g|g
 ·rw[Ydd g];exact Ynv ok h g
 ·obtain⟨k,rfl⟩:∃k,j=m.rows.length+m.cuts.length+k:=⟨j - (m.rows.length+m.cuts.length),Qk⟩
  rw[Yde Qk]
  split <;> decide
def Yin{m:Ms}(ok:VM m){b:List Int}(h:Sel (dcs m) b):∀r,r< (lpM m).right.length->Ua (lpM m) (xsM m b) (lpM m).cols.length r=qAt (lpM m).right r:=λr hr=>by
 rw[Xn]at hr
 unfold Ua
 rw[Xu,Zat]
 have e1:ZF (λj=>qAt (xsM m b) j* (lpM m).col (j:Int) r) (m.rows.length+m.cuts.length)=Ynu m b r:=by
  rw[Z5 hr λi hi hne=>by rw[Zdp hi,jA (λe=>hne e.symm)];grind,Zdp hr,jB rfl,Ydd hr];grind
 have e2:ZF (λj=>qAt (xsM m b) (m.rows.length+m.cuts.length+j)* (lpM m).col ((m.rows.length+m.cuts.length+j:Nat):Int) r) m.cols.length=((Zay b (λi=>Zvn m i r):Int):Rat):=by
  rw[<-Zso (q:=m.cols.length) (λi=>Zvn m i r) b h.nodup λi hi=>by have:=h.rg i hi;rw[YD]at this;exact this];refine Zk λj hj=>?_
  have hc:m.cols[j]? =some m.cols[j]:=JQ hj;rw[Yde hj,Zsn ok hc hr];have:Zvn m (j:Int) r=Ylp m m.cols[j] r:=by unfold Zvn;rw[JP,hc]
  rw[this];split <;> grind
 rw[e1,e2];unfold Ynu;grind
def Ydf{m:Ms}(ok:VM m){i:Int}(hi:∃c,m.cols[i.toNat]? =some c):ZF (λr=>((Zvn m i r:Int):Rat)) m.rows.length=(((Zdq m i).length:Int):Rat):=by
 have g:∀k,k<=m.rows.length->ZF (λr=>((Zvn m i r:Int):Rat)) k=((((m.rows.take k).filter λf=>decide (f∈Zdq m i)).length:Int):Rat):=by
  intro k
  induction k with
  |zero=>intro _;simp[Yz]
  |succ k ih=>
   intro hk;have hg:m.rows[k]? =some m.rows[k]:=JQ Qk;rw[Zz,ih Qk,jP,hg,dN,kQ,Zvo hi hg];by_cases e:m.rows[k]∈Zdq m i
   ·rw[jB e];simp[e]
   ·rw[jA e];simp[e];grind
 rw[g _ (JY _),eU]
 congr 2
 have h:m.rows.Nodup:=ok.asc.imp fun{a b} hab=>Qk
 obtain⟨c,hc⟩:=hi;have d:∀f∈Zdq m i,f∈m.rows:=by unfold Zdq;rw[hc];exact ok.sub c (jC hc)
 have:=Nat.le_antisymm (ZZ (h.filter λf=>decide (f∈Zdq m i)) (b:=Zdq m i) λa ha=>by simpa using(jk.1 ha).2) (ZZ (Ydc ok i) λa ha=>jk.2 ⟨d a ha,by simpa using ha⟩);omega
def Yio{m:Ms}{i:Nat}(h:i<m.rows.length):qAt (lpM m).cost i=(m.pen:Rat):=by
 show qAt (Zmr m) i=_;unfold qAt Zmr;rw[dS,jI (by simpa using h)];simp[h,Yfm]
def Yip{m:Ms}{k:Nat}(h:k<m.cuts.length):qAt (lpM m).cost (m.rows.length+k)=0:=by
 show qAt (Zmr m) _=_;unfold qAt Zmr;rw[dS,jH (by simp)];simp[h,Yfm,List.getElem?_append]
def Yiq{m:Ms}{j:Nat}{c:Cl}(h:m.cols[j]? =some c):qAt (lpM m).cost (m.rows.length+m.cuts.length+j)=(c.cost:Rat):=by
 show qAt (Zmr m) _=_;unfold qAt Zmr;rw[jH (by simp)];simp[h,Yfm]
def Zsp(m:Ms)(i:Int):Int:=match m.cols[i.toNat]? with|some c=>c.cost|none=>0
def Ydg(b:List Int)(f:Int->Nat->Int)(n:Nat):ZF (λr=>((Zay b (λi=>f i r):Int):Rat)) n=(b.map λi=>ZF (λr=>((f i r:Int):Rat)) n).foldr (·+·) 0:=by
 induction b with
 |nil=>exact XD λ_ _=>rfl
 |cons i b ih=>
  rw[kM,List.foldr_cons,<-ih,<-Xq];exact Zk λr _=>by rw[Y7,Rat.intCast_add]
def Zye(b:List Int)(g:Int->Rat)(h:Int->Int)(e:∀i∈b,g i=((h i:Int):Rat)):(b.map g).foldr (·+·) 0=((Zay b h:Int):Rat):=by
 induction b with
 |nil=>rfl
 |cons i b ih=>rw[kM,List.foldr_cons,Y7,Rat.intCast_add,ih λj hj=>e j (jG _ hj),e i (jK ..)]
def Ynw{m:Ms}(ok:VM m){b:List Int}(h:Sel (dcs m) b):Zxm (lpM m).cost (xsM m b) (lpM m).cols.length=((m.pen*m.rows.length+YZ (dcs m) b:Int):Rat):=by
 have a:∀i∈b,∃c,m.cols[i.toNat]? =some c:=λi hi=>by
  have:=h.rg i hi;rw[YD]at this;exact⟨_,JQ (show i.toNat<m.cols.length by omega)⟩
 unfold Zxm;rw[Xu,Zat,Zat];have e1:ZF (λi=>qAt (lpM m).cost i*qAt (xsM m b) i) m.rows.length=(m.pen:Rat)* (((m.rows.length:Int):Rat) - ((Zay b (λi=>((Zdq m i).length:Int)):Int):Rat)):=by
  rw[Zk (g:=λi=>(m.pen:Rat)* (1 - ((Zay b (λj=>Zvn m j i):Int):Rat))) λi hi=>?_,Yq,Zcw,Ydg,Zye b _ (λi=>((Zdq m i).length:Int)) λi hi=>Ydf ok (a i hi)]
  ·congr 2
   have:∀n:Nat,ZF (λ_=>(1:Rat)) n=((n:Int):Rat):=by
    intro n
    induction n with
    |zero=>rfl
    |succ n ih=>rw[Zz,ih];push_cast;grind
   exact this _
  ·rw[Yio hi,Ydd Qk]
   congr 1
   unfold Ynu;obtain⟨z,hz|hz⟩:=Zmt (m:=m) (r:=i) Qk
   ·rw[hz.1,hz.2.2.1 _ (JQ hi)];rfl
   ·exact absurd ok hz
 have e2:ZF (λj=>qAt (lpM m).cost (m.rows.length+j)*qAt (xsM m b) (m.rows.length+j)) m.cuts.length=0:=XD λk hk=>by rw[Yip hk];grind
 have e3:ZF (λj=>qAt (lpM m).cost (m.rows.length+m.cuts.length+j)*qAt (xsM m b) (m.rows.length+m.cuts.length+j)) m.cols.length=((Zay b (Zsp m):Int):Rat):=by
  rw[<-Zso (q:=m.cols.length) (Zsp m) b h.nodup λi hi=>by have:=h.rg i hi;rw[YD]at this;exact this];refine Zk λj hj=>?_
  have hc:m.cols[j]? =some m.cols[j]:=JQ hj;rw[Yde hj,Yiq hc];have:Zsp m (j:Int)=(m.cols[j]).cost:=by unfold Zsp;rw[JP,hc]
  rw[this];split <;> grind
 have e4:YZ (dcs m) b=Zay b (Zsp m) - m.pen*Zay b (λi=>((Zdq m i).length:Int)):=by
  clear e1 e2 e3 h
  induction b with
  |nil=>simp[YZ,Zay]
  |cons i b ih=>
   obtain⟨c,hc⟩:=a i (jK ..);have h1:YZ (dcs m) (i::b)=suI (dcs m) i+YZ (dcs m) b:=(by simp[YZ]);have h2:suI (dcs m) i=Zsp m i - m.pen* ((Zdq m i).length:Int):=by
    unfold suI Zsp Zdq;have:(dcs m)[i.toNat]? =some (dcol m i.toNat c):=Zbh hc;rw[this,hc];rfl
   rw[h1,ih λj hj=>a j (jG _ hj),h2,Y7,Y7,gI];omega
 rw[e1,e2,e3,e4]
 push_cast
 grind
def Yir{m:Ms}(ok:VM m)(h5:m.rows.length<=5){b:List Int}(h:Sel (dcs m) b){N:Nat}(hN:1723<=N):
 Val (lpM m) (runL (lpM m) N (settleQ (lpM m) (YG (lpM m))))/\Zax (lpM m) 2 (runL (lpM m) N (settleQ (lpM m) (YG (lpM m))))<=((m.pen*m.rows.length+YZ (dcs m) b:Int):Rat):=by
 have h2:=ok.ncut;have h3:=ok.ncol;obtain⟨v,ph,st⟩:=Yri (Yrn ok) (by rw[Xn];omega) (by rw[Xu];omega) hN;refine⟨v,?_⟩;generalize runL (lpM m) N (settleQ (lpM m) (YG (lpM m)))=s at v ph st⊢;have f:Xa (lpM m) s=1\/Xa (lpM m) s=2\/Xa (lpM m) s=3:=by
  cases he:Zmf (lpM m) s with
  |none=>have:=(WF he).1;split at this <;> omega
  |some j=>have:=(Xl he).1;split at this <;> omega
 rcases f with hq|hq|hq
 ·have:=Yrg v hq (Yrq ok h) (Yin ok h);rw[Ynw ok h]at this;exact this
 ·have:=(Yrd hq).2;omega
 ·exfalso;have hh:=Yrf (Ycx ok) v hq;rw[(Yra hq).1]at hh;unfold Ynh at hh;simp only[jU,jh]at hh;obtain⟨_,r1,r2,r3⟩:=hh;have hl:(Zko (lpM m) s).length=(lpM m).cols.length:=by unfold Zko;exact Zo _ _
  have d:∀j,j< (lpM m).cols.length->0<=qAt (Zko (lpM m) s) j:=λj hj=>by
   have h5:0<=qs (qAt (Zko (lpM m) s) j):=by
    simp only[nnB,jh]at r1;exact r1 j (by rw[hl];exact hj)
   exact fV.1 λg=>by have:=UE.2 g;omega
  have l:∀r,qAt ([]:List RF) r=0:=λr=>rfl
  have a:∀j,j< (lpM m).cols.length->∀r,r< (lpM m).right.length->0<=(lpM m).col (j:Int) r:=λj hj r hr=>by
   rw[Xu]at hj;rw[Xn]at hr;rcases JX j (m.rows.length+m.cuts.length)with g|g
   ·rw[Zdp g];split <;> decide
   ·obtain⟨k,rfl⟩:∃k,j=m.rows.length+m.cuts.length+k:=⟨j - (m.rows.length+m.cuts.length),Qk⟩;have hc:m.cols[k]? =some (m.cols[k]' Qk):=JQ _;rw[Zsn ok hc hr];have h0:0<=Ylp m (m.cols[k]' Qk) r:=by
     rcases Zas hr with⟨g,hg⟩|⟨k',x,rfl,hx⟩
     ·rw[Zgq hg];split <;> omega
     ·rw[Zms hx];exact(Zvk ok (jC hc) (jC hx)).1
    exact_mod_cast h0
  have c:∀r,r< (lpM m).right.length->∀j,j< (lpM m).cols.length->qAt (Zko (lpM m) s) j* (lpM m).col (j:Int) r=0:=by
   intro r hr;have hs:Ua (lpM m) (Zko (lpM m) s) (lpM m).cols.length r=0:=by
    simp only[Yhe,jh]at r2;rw[r2 r hr,l]
   have u:∀n,n<=(lpM m).cols.length->ZF (λj=>qAt (Zko (lpM m) s) j* (lpM m).col (j:Int) r) n=0->∀j,j<n->qAt (Zko (lpM m) s) j* (lpM m).col (j:Int) r=0:=by
    intro n
    induction n with
    |zero=>intro _ _ j hj;omega
    |succ n ih=>
     intro hn h0 j hj;rw[Zz]at h0;have a1:0<=ZF (λj=>qAt (Zko (lpM m) s) j* (lpM m).col (j:Int) r) n:=Zrz λi hi=>gP (d i Qk) (a i Qk r hr)
     have a2:0<=qAt (Zko (lpM m) s) n* (lpM m).col (n:Int) r:=gP (d n Qk) (a n Qk r hr);rcases JX j n with e|e
     ·exact ih Qk (by grind) j e
     ·obtain rfl:j=n:=Qk
      grind
   exact u _ (JY _) hs
  have o:∀j,j< (lpM m).cols.length->qAt (Zko (lpM m) s) j=0:=λj hj=>by
   have y:=hj;rw[Xu]at y;rcases JX j (m.rows.length+m.cuts.length)with g|g
   ·have:=c j (by rw[Xn];exact g) j hj;rw[Zdp g,jB rfl]at this;grind
   ·obtain⟨k,rfl⟩:∃k,j=m.rows.length+m.cuts.length+k:=⟨j - (m.rows.length+m.cuts.length),Qk⟩;have hc:m.cols[k]? =some (m.cols[k]' Qk):=JQ _;have p:=jC hc;obtain⟨g0,t⟩:=fG _ (ok.ne _ p);have q:=ok.sub _ p g0 t;have hr:=U8 ok.asc q;have:=c (posR m.rows g0) (by rw[Xn];omega) _ hj;rw[Zsn ok hc Qk,Zgq (VL ok.asc q),jB t]at this;have e1:((1:Int):Rat)=1:=rfl;rw[e1]at this;grind
  have h4:Zxm (lpM m).cost (Zko (lpM m) s) (lpM m).cols.length=0:=XD λj hj=>by rw[o j hj];grind
  rw[h4]at r3;exact absurd r3 Ql
end Pl
section
section
variable {α:Type} {R:World->α->List Value->Prop}
def RdM(R:World->α->List Value->Prop)(t:TypeId)(s:Nat)(w:World)(v:Value)(l:List α):Prop:=
 ∃cs,VC w t s v l.length cs/\∀(k:Nat) (x:α),l[k]? =some x->∃u,R w x u/\u.length=s/\∀(j:Nat) (y:Value),u[j]? =some y->cs[k*s+j]? =some y
def RdO(R:World->α->List Value->Prop)(t:TypeId)(s base:Nat)(w:World)(v:Value)(l:List α):Prop:=
 ∃cs,w.ownsRow base t s v l.length cs/\∀(k:Nat) (x:α),l[k]? =some x->∃u,R w x u/\u.length=s/\∀(j:Nat) (y:Value),u[j]? =some y->cs[k*s+j]? =some y
def RdO.rd{t:TypeId}{s base:Nat}{w:World}{v:Value}{l:List α}(h:RdO R t s base w v l):RdM R t s w v l:=by
 obtain⟨cs,h1,h2⟩:=h;exact⟨cs,VC.of_own h1,h2⟩
def RdM.keep{e t:TypeId}{s:Nat}{w w':World}{v:Value}{l:List α}(h:RdM R t s w v l)(hk:Zf e w w')(ht:t≠e)(hR:∀x u,R w x u->R w' x u):RdM R t s w' v l:=by
 obtain⟨cs,h1,h2⟩:=h;exact⟨cs,hk.row h1 ht,λk x hx=>by obtain⟨u,g1,g2⟩:=h2 k x hx;exact⟨u,hR _ _ g1,g2⟩⟩
def RdO.keep{e t:TypeId}{s base:Nat}{w w':World}{v:Value}{l:List α}(h:RdO R t s base w v l)(hk:Zf e w w')(ht:t≠e)(hR:∀x u,R w x u->R w' x u):RdO R t s base w' v l:=by
 obtain⟨cs,h1,h2⟩:=h;exact⟨cs,hk.own h1 ht,λk x hx=>by obtain⟨u,g1,g2⟩:=h2 k x hx;exact⟨u,hR _ _ g1,g2⟩⟩
def RdM.below{t:TypeId}{s:Nat}{w w':World}{v:Value}{l:List α}(h:RdM R t s w v l)(hb:Below w.heap.size w w')(hR:∀x u,R w x u->R w' x u):RdM R t s w' v l:=by
 obtain⟨cs,h1,h2⟩:=h;exact⟨cs,h1.below hb,λk x hx=>by obtain⟨u,g1,g2⟩:=h2 k x hx;exact⟨u,hR _ _ g1,g2⟩⟩
def RdO.below{t:TypeId}{s base:Nat}{w w':World}{v:Value}{l:List α}(h:RdO R t s base w v l)(hb:Below w.heap.size w w')(hR:∀x u,R w x u->R w' x u):RdO R t s base w' v l:=by
 obtain⟨cs,h1,h2⟩:=h;exact⟨cs,own_below h1 hb,λk x hx=>by obtain⟨u,g1,g2⟩:=h2 k x hx;exact⟨u,hR _ _ g1,g2⟩⟩
def RdM.shape{t:TypeId}{s:Nat}{w:World}{v:Value}{l:List α}(h:RdM R t s w v l):∃A c,v= .slice A l.length c/\l.length<=c/\c<=9223372036854775807:=by
 obtain⟨cs,h1,h2⟩:=h;exact h1.shape
def RdM.len{t:TypeId}{s n c:Nat}{A:Option Addr}{w:World}{l:List α}(h:RdM R t s w (.slice A n c) l):n=l.length/\n<=c/\c<=9223372036854775807:=by
 obtain⟨A',c',e,h1,h2⟩:=h.shape;injection e with _ e2 e3;subst e2 e3;exact⟨rfl,h1,h2⟩
def RdO.nil(t:TypeId)(s base:Nat)(w:World):RdO R t s base w (.slice none 0 0) []:=⟨[],kY _ _ _ _,λk x h=>by simp at h⟩
def RdM.nil(t:TypeId)(s:Nat)(w:World)(A:Option Addr)(c:Nat)(hm:c<=maxLen):RdM R t s w (.slice A 0 c) []:=⟨[],VC.nil _ _ _ _ _ hm,λk x h=>by simp at h⟩
def RdO.slice{t:TypeId}{s base:Nat}{w:World}{v:Value}{l:List α}(h:RdO R t s base w v l):∃A c,v= .slice A l.length c:=by
 obtain⟨A,c,e,_,_⟩:=h.rd.shape;exact⟨A,c,e⟩
def RdO.sliceN{t:TypeId}{s base:Nat}{w:World}{v:Value}{l:List α}(h:RdO R t s base w v l):∃A n c,v= .slice A n c:=by
 obtain⟨A,c,e⟩:=h.slice;exact⟨A,_,c,e⟩
def RdO.mono{t:TypeId}{s base base':Nat}{w:World}{v:Value}{l:List α}(h:RdO R t s base w v l)(hb:base'<=base):RdO R t s base' w v l:=by
 obtain⟨cs,h1,h2⟩:=h;exact⟨cs,VJ h1 hb,h2⟩
def RdM.elem{t:TypeId}{s n c:Nat}{A:Option Addr}{w:World}{l:List α}(h:RdM R t s w (.slice A n c) l){k:Nat}{x:α}(hx:l[k]? =some x):
 ∃b off u,A=some ⟨b,off,none⟩/\b<w.heap.size/\R w x u/\u.length=s/\∀(j:Nat) (y:Value),u[j]? =some y->w.cell? ⟨b,off+k*s+j,none⟩=some y:=by
 obtain⟨cs,h1,h2⟩:=h;obtain⟨u,g1,g2,g3⟩:=h2 k x hx;have hk:k<l.length:=(JO.1 hx).1;have hn:=h1.len;subst hn;obtain⟨b,off,hA,a,hc⟩:=h1.at_ Qk;exact⟨b,off,u,hA,a,g1,g2,λj y hj=>by rw[ve];exact hc _ _ (g3 j y hj)⟩
def RdO.snoc{t:TypeId}{s base:Nat}{w w':World}{v':Value}{l:List α}{cs u:List Value}{x:α}(hl:cs.length=l.length*s)(h2:∀(k:Nat) (x:α),l[k]? =some x->∃u,R w x u/\u.length=s/\∀(j:Nat) (y:Value),u[j]? =some y->cs[k*s+j]? =some y)
 (hR:∀x u,R w x u->R w' x u) (hx:R w' x u) (hu:u.length=s) (g1:w'.ownsRow base t s v' (l.length+1) (cs++u)):RdO R t s base w' v' (l++[x]):=by
 refine⟨cs++u,by simpa using g1,λk y hy=>?_⟩;rcases JX k l.length with hk|hk
 ·rw[jI hk]at hy;obtain⟨u',a1,a2,a3⟩:=h2 k y hy;refine⟨u',hR _ _ a1,a2,λj z hj=>?_⟩;have:=a3 j z hj;rw[jI (JO.1 this).1];exact this
 ·rw[jH hk]at hy;have a:k=l.length:=by
   rcases JV (k - l.length)with e|e
   ·omega
   ·rw[JU (by simp;omega)]at hy;cases hy
  subst a;simp at hy;subst hy;refine⟨u,hx,hu,λj z hj=>?_⟩;rw[jH Qk,hl,show l.length*s+j - l.length*s=j by omega];exact hj
def Wm(ty t e:TypeId)(i:TypeInfo)(z:Value)(size bytes:Nat)(ht:prog.underlying t=some (.slice e))(hi:prog.info? e=some i)(hz:i.zero=some z)
 (hsize:i.size=size) (hby:i.bytes=bytes) (hzs:z.cells.size=size) (hsz:0<size) (W:World) (base:Nat) (v:Value) (l:List α) (x:α) (news:List Value) (hown:RdO R e size base W v l)
 (hl:news.length=size) (h1:∀u∈news,u.oneCell'=true) (hn:l.length+1<=1099511627776) (hb:bytes<=128) (hbase:base<=W.heap.size) (hR:∀w',Zf e W w'->∀x u,R W x u->R w' x u) (hx:R W x news):
 ∃v' w',(Builtin.append_ #[t,t] ty #[v,.slice (some ⟨W.heap.size,0,none⟩) 1 1]).run prog (W.alloc (.cells news.toArray e))= .ok v' w'/\RdO R e size base w' v' (l++[x])/\Zf e W w'/\Below base W w'/\ZA v.ownBlock W w'/\(v'.ownBlock=v.ownBlock\/∀g,v'.ownBlock=some g->W.heap.size<=g):=by
 obtain⟨cs,g1,g2⟩:=hown;have a:(l.length+1)*bytes<=1099511627776*128:=gL hn hb;obtain⟨v',w',hr,q1,q2,q3,q4,q5⟩:=Xj ty t e i z size bytes ht hi hz hsize hby hzs hsz W base v l.length cs news g1 hl h1 (by unfold maxLen;omega) Qk hbase;exact⟨v',w',hr,RdO.snoc g1.1 g2 (hR w' q2) (hR w' q2 _ _ hx) hl (by simpa using q1),q2,q3,q4,q5⟩
end
def YF(w:World)(v:Value)(zs:List Int):Prop:=VC w 3 1 v zs.length (zs.map λz=>Value.int .i64 z)/\∀z∈zs,-9223372036854775808<=z/\z<=9223372036854775807
def Zt.typed{base:Nat}{w:World}{v:Value}{zs:List Int}(h:Zt base w v zs):YF w v zs:=⟨VC.of_own h.1,h.2⟩
def YF.below{w w':World}{v:Value}{zs:List Int}(h:YF w v zs)(hb:Below w.heap.size w w'):YF w' v zs:=⟨h.1.below hb,h.2⟩
def YF.but{e:TypeId}{w w':World}{v:Value}{zs:List Int}(h:YF w v zs)(hk:Zf e w w')(ht:3≠e):YF w' v zs:=⟨hk.row h.1 ht,h.2⟩
def YF.ints{w:World}{v:Value}{zs:List Int}(h:YF w v zs):Z6 w v zs:=by
 obtain⟨A,c,hv,hl,hc,hm,a⟩:=h.1;refine⟨A,c,hv,hc,hm,λhp=>?_,h.2⟩;obtain⟨b,d,cs,fz,hA,hb,hx⟩:=a hp;refine⟨b,d,hA,λi hi=>?_⟩;rw[eB w b (d+i) cs _ fz hb,hx i (.int .i64 (zs.getD i 0)) (by simp[List.getD,JQ hi])]
def YF.shape{w:World}{v:Value}{zs:List Int}(h:YF w v zs):∃A c,v= .slice A zs.length c/\zs.length<=c/\c<=9223372036854775807:=h.1.shape
def YF.nil(w:World)(A:Option Addr)(c:Nat)(hm:c<=maxLen):YF w (.slice A 0 c) []:=⟨VC.nil _ _ _ _ _ hm,λz h=>by simp at h⟩
def TkR(_:World)(t:Tk)(u:List Value):Prop:=u=[.int .i64 t.fl,.bool t.hd]/\ -9223372036854775808<=t.fl/\t.fl<=9223372036854775807
def DutM:World->Value->List Tk->Prop:=RdM TkR 107 2
def DuR(w:World)(d:List Tk)(u:List Value):Prop:=∃A n c,u=[.slice A n c]/\DutM w (.slice A n c) d
def DutsM:World->Value->List (List Tk)->Prop:=RdM DuR 109 1
def ClR(w:World)(c:Cl)(u:List Value):Prop:=∃b A n k,u=[.string b,.slice A n k,.int .i64 c.cost]/\DutsM w (.slice A n k) c.dut
def ClsM:World->Value->List Cl->Prop:=RdM ClR 64 3
def CtR(w:World)(x:Ct)(u:List Value):Prop:=∃A n c,u=[.slice A n c,.int .i64 x.dv]/\YF w (.slice A n c) x.rows
def CutsM:World->Value->List Ct->Prop:=RdM CtR 67 2
section
variable {w w':World} {e:TypeId} {v:Value}
def DutM.below{d:List Tk}(h:DutM w v d)(hb:Below w.heap.size w w'):DutM w' v d:=RdM.below h hb λ_ _ h=>h
def DutM.but{d:List Tk}(h:DutM w v d)(hk:Zf e w w')(h1:107≠e):DutM w' v d:=RdM.keep h hk h1 λ_ _ h=>h
def DuR.below{d:List Tk}{u:List Value}(h:DuR w d u)(hb:Below w.heap.size w w'):DuR w' d u:=by
 obtain⟨A,n,c,h1,h2⟩:=h;exact⟨A,n,c,h1,h2.below hb⟩
def DuR.but{d:List Tk}{u:List Value}(h:DuR w d u)(hk:Zf e w w')(h1:107≠e):DuR w' d u:=by
 obtain⟨A,n,c,g1,g2⟩:=h;exact⟨A,n,c,g1,g2.but hk h1⟩
def DutsM.below{p:List (List Tk)}(h:DutsM w v p)(hb:Below w.heap.size w w'):DutsM w' v p:=RdM.below h hb λ_ _ h=>h.below hb
def DutsM.but{p:List (List Tk)}(h:DutsM w v p)(hk:Zf e w w')(h1:107≠e)(h2:109≠e):DutsM w' v p:=RdM.keep h hk h2 λ_ _ h=>h.but hk h1
def ClR.below{c:Cl}{u:List Value}(h:ClR w c u)(hb:Below w.heap.size w w'):ClR w' c u:=by
 obtain⟨b,A,n,k,h1,h2⟩:=h;exact⟨b,A,n,k,h1,h2.below hb⟩
def ClR.but{c:Cl}{u:List Value}(h:ClR w c u)(hk:Zf e w w')(h1:107≠e)(h2:109≠e):ClR w' c u:=by
 obtain⟨b,A,n,k,g1,g2⟩:=h;exact⟨b,A,n,k,g1,g2.but hk h1 h2⟩
def ClsM.below{cs:List Cl}(h:ClsM w v cs)(hb:Below w.heap.size w w'):ClsM w' v cs:=RdM.below h hb λ_ _ h=>h.below hb
def ClsM.but{cs:List Cl}(h:ClsM w v cs)(hk:Zf e w w')(h1:107≠e)(h2:109≠e)(h3:64≠e):ClsM w' v cs:=RdM.keep h hk h3 λ_ _ h=>h.but hk h1 h2
def CtR.below{x:Ct}{u:List Value}(h:CtR w x u)(hb:Below w.heap.size w w'):CtR w' x u:=by
 obtain⟨A,n,c,h1,h2⟩:=h;exact⟨A,n,c,h1,h2.below hb⟩
def CtR.but{x:Ct}{u:List Value}(h:CtR w x u)(hk:Zf e w w')(h1:3≠e):CtR w' x u:=by
 obtain⟨A,n,c,g1,g2⟩:=h;exact⟨A,n,c,g1,g2.but hk h1⟩
def CutsM.below{xs:List Ct}(h:CutsM w v xs)(hb:Below w.heap.size w w'):CutsM w' v xs:=RdM.below h hb λ_ _ h=>h.below hb
def CutsM.but{xs:List Ct}(h:CutsM w v xs)(hk:Zf e w w')(h1:3≠e)(h2:67≠e):CutsM w' v xs:=RdM.keep h hk h2 λ_ _ h=>h.but hk h1
end
def DutM.elem{w wr:World}{A:Option Addr}{n c:Nat}{d:List Tk}(h:DutM w (.slice A n c) d)(hb:Below w.heap.size w wr){k:Nat}{t:Tk}(ht:d[k]? =some t):
 ∃b off,A=some ⟨b,off,none⟩/\b<w.heap.size/\wr.cell? ⟨b,off+k*2,none⟩=some (.int .i64 t.fl)/\wr.cell? ⟨b,off+k*2+1,none⟩=some (.bool t.hd)/\ -9223372036854775808<=t.fl/\t.fl<=9223372036854775807:=by
 obtain⟨b,off,u,hA,a,⟨rfl,r1,r2⟩,hl,hc⟩:=RdM.elem h ht;exact⟨b,off,hA,a,Zi hb (hc 0 _ rfl),Zi hb (hc 1 _ rfl),r1,r2⟩
def DutsM.elem{w wr:World}{A:Option Addr}{n c:Nat}{p:List (List Tk)}(h:DutsM w (.slice A n c) p)(hb:Below w.heap.size w wr){k:Nat}{d:List Tk}(hd:p[k]? =some d):
 ∃b off A1 c1,A=some ⟨b,off,none⟩/\b<w.heap.size/\wr.cell? ⟨b,off+k,none⟩=some (.slice A1 d.length c1)/\DutM wr (.slice A1 d.length c1) d/\d.length<=c1/\c1<=9223372036854775807:=by
 obtain⟨b,off,u,hA,a,⟨A1,n1,c1,rfl,hD⟩,hl,hc⟩:=RdM.elem h hd;obtain⟨e1,e2,e3⟩:=RdM.len hD;subst e1;have h0:=Zi hb (hc 0 _ rfl);rw[BZ,dI]at h0;exact⟨b,off,A1,c1,hA,a,h0,hD.below hb,e2,e3⟩
def ClsM.elem{w wr:World}{A:Option Addr}{n c:Nat}{cs:List Cl}(h:ClsM w (.slice A n c) cs)(hb:Below w.heap.size w wr){k:Nat}{x:Cl}(hx:cs[k]? =some x):
 ∃b off s A1 n1 c1,A=some ⟨b,off,none⟩/\b<w.heap.size/\wr.cell? ⟨b,off+k*3,none⟩=some (.string s)/\wr.cell? ⟨b,off+k*3+1,none⟩=some (.slice A1 n1 c1)/\wr.cell? ⟨b,off+k*3+2,none⟩=some (.int .i64 x.cost)/\DutsM wr (.slice A1 n1 c1) x.dut:=by
 obtain⟨b,off,u,hA,a,⟨s,A1,n1,c1,rfl,hD⟩,hl,hc⟩:=RdM.elem h hx;exact⟨b,off,s,A1,n1,c1,hA,a,Zi hb (hc 0 _ rfl),Zi hb (hc 1 _ rfl),Zi hb (hc 2 _ rfl),hD.below hb⟩
def CutsM.elem{w wr:World}{A:Option Addr}{n c:Nat}{xs:List Ct}(h:CutsM w (.slice A n c) xs)(hb:Below w.heap.size w wr){k:Nat}{x:Ct}(hx:xs[k]? =some x):
 ∃b off A1 n1 c1,A=some ⟨b,off,none⟩/\b<w.heap.size/\wr.cell? ⟨b,off+k*2,none⟩=some (.slice A1 n1 c1)/\wr.cell? ⟨b,off+k*2+1,none⟩=some (.int .i64 x.dv)/\YF wr (.slice A1 n1 c1) x.rows:=by
 obtain⟨b,off,u,hA,a,⟨A1,n1,c1,rfl,hD⟩,hl,hc⟩:=RdM.elem h hx;exact⟨b,off,A1,n1,c1,hA,a,Zi hb (hc 0 _ rfl),Zi hb (hc 1 _ rfl),hD.below hb⟩
def MsM(w:World)(v:Value)(m:Ms):Prop:=
 ∃A n c A' n' c' A'' n'' c'',v= .agg #[.int .i64 m.fl,.slice A n c,.int .i64 m.pen,.slice A' n' c',.slice A'' n'' c'']/\YF w (.slice A n c) m.rows/\ClsM w (.slice A' n' c') m.cols/\CutsM w (.slice A'' n'' c'') m.cuts
def MsM.below{w w':World}{v:Value}{m:Ms}(h:MsM w v m)(hb:Below w.heap.size w w'):MsM w' v m:=by
 obtain⟨A,n,c,A',n',c',a,b,d,h1,h2,h3,h4⟩:=h;exact⟨A,n,c,A',n',c',a,b,d,h1,h2.below hb,h3.below hb,h4.below hb⟩
def Zbj(w:World)(a b c d e:Value):∃W,w.alloc (.cells #[a,b,c,d,e] 26)=W/\Bk W w.heap.size 26 [a,b,c,d,e]/\Below w.heap.size w W:=
 ⟨_,rfl,Bk.new w _ [a,b,c,d,e],(JR _ _).alloc (JY _) _⟩
end
def Z6.elem{w wr:World}{A:Option Addr}{n c:Nat}{zs:List Int}(h:Z6 w (.slice A n c) zs)(hb:Below w.heap.size w wr){k:Nat}(hk:k<n):
 ∃b off z,A=some ⟨b,off,none⟩/\wr.cell? ⟨b,off+k,none⟩=some (.int .i64 z)/\zs[k]? =some z/\ -9223372036854775808<=z/\z<=9223372036854775807:=by
 obtain⟨b,off,z,h1,h2,h3⟩:=h.at_ hk;exact⟨b,off,z,h1,Zi hb h2,h3⟩
def Z6.lenE{w:World}{A:Option Addr}{n c:Nat}{zs:List Int}(h:Z6 w (.slice A n c) zs):n=zs.length:=by
 obtain⟨A',c',e,_⟩:=h.shape;injection e
namespace Pl
def UC{α:Type}{l:List α}{k:Nat}{x y:α}(h:l[k]? =some y):x∈l.take (k+1)↔x∈l.take k\/x=y:=by
 rw[jP,h];simp
def YK{α:Type}{l:List α}{n:Nat}(h:n=l.length):l.take n=l:=by rw[h,eU]
end Pl
def Yej(v:Value)(zs:List Int)(z:Int)(w:World)(h:Z6 w v zs):
 Calls prog 27 #[v,.int .i64 z] w λe w'=>e= .returned (.bool (decide (z∈zs)))/\Below w.heap.size w w':=by
 obtain⟨A,c,rfl,hc,i⟩:=h.shape;obtain⟨n,hn⟩:∃n,n=zs.length:=⟨_,rfl⟩;rw[<-hn]at h hc⊢;have HN:=JZ hn;have HI:=JZ h;clear h hn;go_enter func27,ntmps27;go_wp2
 go_loopw [5] (λx wr=>∃k:Nat,k<=n/\x= .int .i64 k/\Below w.heap.size w wr/\Hid (z ∉ zs.take k)) (λx _=>n - (intOf x).toNat)
 case atStart=>exact⟨0,Qk,rfl,JR _ _,JZ (by simp)⟩
 case round=>
  obtain⟨k,hk,rfl,hb,HT⟩:=hrel;rcases JX k n with hkl|hkl
  ·obtain⟨b,j,y,hA,f,hy,_,_⟩:=HI.out.elem hb hkl;subst hA;have HY:=JZ hy;clear hy;by_cases a:y=z
   ·subst a;go_wp2;go_ret;exact⟨YP (by rw[iR];exact jC HY.out),hb⟩
   ·have g:(y==z)=false:=(by simpa using a);have d:Hid (z ∉ zs.take (k+1)):=JZ (by rw[UC HY.out];rintro(e|e);exact HT.out e;exact a e.symm);clear a;go_wp2;go_roundw
    case rel=>exact⟨k+1,Qk,by go_num,hb,d⟩
    case measure=>exact Qn
  ·obtain rfl:n=k:=Qk
   go_wp2;go_ret;exact⟨YP (by have:=HT.out;rw[YK HN.out]at this;simpa using this),hb⟩
def Zad(v1 v2:Value)(xs ys:List Int)(w:World)(h:Z6 w v1 xs)(h2:Z6 w v2 ys):
 Calls prog 12 #[v1,v2] w λe w'=>e= .returned (.bool (decide (xs=ys)))/\Below w.heap.size w w':=by
 obtain⟨A,c,rfl,hc,D⟩:=h.shape;obtain⟨B,d,rfl,hd,E⟩:=h2.shape;obtain⟨n,hn⟩:∃n,n=xs.length:=⟨_,rfl⟩;obtain⟨m,hm⟩:∃m,m=ys.length:=⟨_,rfl⟩;rw[<-hn]at h hc⊢;rw[<-hm]at h2 hd⊢;have HN:=JZ hn;have HM:=JZ hm;have HI:=JZ h;have HJ:=JZ h2;clear h h2 hn hm;by_cases q:n=m
 ·subst q;go_enter func12,ntmps12;go_wp2
  go_loopw [5] (λx wr=>∃k:Nat,k<=n/\x= .int .i64 k/\Below w.heap.size w wr/\Hid (xs.take k=ys.take k)) (λx _=>n - (intOf x).toNat)
  case atStart=>exact⟨0,Qk,rfl,JR _ _,JZ (by simp)⟩
  case round=>
   obtain⟨k,hk,rfl,hb,HT⟩:=hrel;rcases JX k n with hkl|hkl
   ·obtain⟨b,F,y,hA,f,hy,_,_⟩:=HI.out.elem hb hkl;obtain⟨b',z,y',t,a,p,_,_⟩:=HJ.out.elem hb hkl;subst hA t;have HY:=JZ hy;have o:=JZ p;clear hy p;have C:(k:Int)<n:=Qk;by_cases i:y=y'
    ·subst i;have r:Hid (xs.take (k+1)=ys.take (k+1)):=JZ (by rw[jP,jP,HY.out,o.out,HT.out])
     go_upto_region 6 with(fail)
     have C0:=Zm f;have C1:=Zm a;have g:=Zc wr;clear f a;refine Zj 9 [0,1,2,3,4,5,6,7,8] Qm Qm ?_;refine Qb ?_
     refine Zl ?_;have j:=Za hb g hb.size;clear C0 C1 hb g;go_wp2;go_roundw
     case rel=>exact⟨k+1,Qk,by go_num,j,r⟩
     case measure=>exact Qn
    ·have s:(y !=y')=true:=(by simpa using i);have u:(y==y')=false:=(by simpa using i);have HF:Hid (xs≠ys):=JZ (λe=>i (by have h1:=HY.out;rw[e,o.out]at h1;exact(Option.some.inj h1).symm));clear i
     go_upto_region 6 with(fail)
     have C0:=Zm f;have C1:=Zm a;have g:=Zc wr;clear f a;refine Zj 9 [0,1,2,3,4,5,6,7,8] Qm Qm ?_;refine Qb ?_
     refine Zl ?_;have j:=Za hb g hb.size;clear C0 C1 hb g;go_wp2;go_ret;exact⟨YP (by simpa using HF.out),j⟩
   ·obtain rfl:n=k:=Qk
    go_wp2;go_ret;exact⟨YP (by have:=HT.out;rw[YK HN.out,YK HM.out]at this;simpa using this),hb⟩
 ·have s:((n:Int) !=m)=true:=by simp;omega
  have HF:Hid (xs≠ys):=JZ (λe=>q (by rw[HN.out,HM.out,e]));go_enter func12,ntmps12;go_wp2;go_ret;exact⟨YP (by simpa using HF.out),JR _ _⟩
def V4(ty:TypeId)(W:World)(base:Nat)(v:Value)(zs:List Int)(z:Int)(hown:Zt base W v zs)(h0: -9223372036854775808<=z)(h1:z<=9223372036854775807)(hn:zs.length+1<=1099511627776)(hbase:base<=W.heap.size):
 ∃v' w',(Builtin.append_ #[22,22] ty #[v,.slice (some ⟨W.heap.size,0,none⟩) 1 1]).run prog (W.alloc (.cells #[.int .i64 z] 3))= .ok v' w'/\Zt base w' v' (zs++[z])/\Zf 3 W w'/\Below base W w'/\ZA v.ownBlock W w'/\(v'.ownBlock=v.ownBlock\/∀g,v'.ownBlock=some g->W.heap.size<=g):=by
 obtain⟨i0,hi,a,b,c⟩:=kL info_intT;obtain⟨v',w',hr,g1,g2,g3,g4,g5⟩:=Xj ty 22 3 i0 _ 1 8 underlying22 hi a b c rfl Ql W base v zs.length (zs.map λz=>Value.int .i64 z) [.int .i64 z] hown.1 rfl (λu hu=>by simp at hu;subst hu;rfl) (by unfold maxLen;omega) Qk hbase;refine⟨v',w',hr,⟨by simpa using g1,λy hy=>?_⟩,g2,g3,g4,g5⟩;rcases jW.1 hy with hy|hy
 ·exact hown.2 y hy
 ·simp at hy;subst hy;exact⟨h0,h1⟩
def Yb{ops:Array Oper}{rest:List Oper}{o:Oper}{a:Act}{Q:Exit->Act->World->Prop}(hgd:o.guard=none)(s x:Operand)
 (ho:o.op= .call { callee:= .builtin .append,args:=#[s,x],argTypes:=#[22,22] })
 (W:World) (base:Nat) (v:Value) (zs:List Int) (hs:a.eval s=v) (hown:Zt base W v zs) (z:Int)
 (hx:a.eval x= .slice (some ⟨W.heap.size,0,none⟩) 1 1) (h0: -9223372036854775808<=z) (h1:z<=9223372036854775807) (hn:zs.length+1<=1099511627776) (hbase:base<=W.heap.size)
 (h:∀v' w',Zt base w' v' (zs++[z])->Zf 3 W w'->Below base W w'->ZA v.ownBlock W w'->(v'.ownBlock=v.ownBlock\/∀g,v'.ownBlock=some g->W.heap.size<=g)->wpList prog ops Q rest (a.put o.dst v') w'):
 wpList prog ops Q (o::rest) a (W.alloc (.cells #[.int .i64 z] 3)):=by
 refine eP hgd λK hK=>?_
 obtain⟨v',w',hr,g1,g2,g3,g4,g5⟩:=V4 o.type W base v zs z hown h0 h1 hn hbase;unfold Oper.wp execOp;simp only[ho,resolve,invoke,builtin,vP,bP,vD,vL,kM,gG,hs,hx,hr];exact hK _ _ (h v' w' g1 g2 g3 g4 g5)
def Zno(x y:Int)(w:World):Calls prog 46 #[.int .i64 x,.int .i64 y] w λe w'=>e= .returned (.bool (decide (x<y)))/\w'=w:=by
 by_cases h:x<y
 ·go_enter func46,ntmps46;go_wp2;go_ret;exact⟨YP (by simpa using h),rfl⟩
 ·have h':y<=x:=Qk
  go_enter func46,ntmps46;go_wp2;go_ret;exact⟨YP (by simpa using h'),rfl⟩
def Zti(x:Int)(w:World)(h0:0<=x)(h1:x<=12):
 Calls prog 129 #[.int .u64 x] w λe w'=>(∃l:Int,e= .returned (.int .i64 l))/\w'=w:=by
 go_enter func129,ntmps129;go_wp2_with fail;go_ret;exact⟨⟨_,rfl⟩,rfl⟩
def Yek(x:Int)(w:World)(h0:0<=x)(h1:x<=12):
 Calls prog 90 #[.int .u64 x] w λe w'=>(∃l:Int,e= .returned (.int .i64 l))/\w'=w:=by
 go_enter func90,ntmps90;go_wp2_with fail;refine(Zti x _ h0 h1).mono ?_;rintro _ _ ⟨⟨l,rfl⟩,rfl⟩;go_wp2;go_ret;exact⟨⟨_,rfl⟩,rfl⟩
namespace Pl
def Zqm(l:List Int):Srt ltI (Yj l):=Zib Ycg Ych l
def Yoy{x y:Int}:ltI x y=true↔x<y:=by simp[ltI]
def Yoz{x y:Int}:ltI x y=false↔y<=x:=by simp[ltI]
def Zja{zs:List Int}{i:Nat}{x:Int}(h:zs[i]? =some x):Yj (zs.take (i+1))=VB ltI x (Yj (zs.take i)):=by
 rw[jP,h];exact Zyc _ _
def drop_at{α:Type}{l:List α}{i:Nat}{x:α}(h:l[i]? =some x):l.drop i=x::l.drop (i+1):=by
 obtain⟨hi,rfl⟩:=JO.1 h;exact iK hi
def Zwh{α:Type}{a b:List α}{x y:α}{j:Nat}(hj:a.length=j):((a++y::x::b).set (j+1) y).set j x=a++x::y::b:=by
 subst hj;simp[List.set_append]
end Pl
def Vy(base:Nat)(w:World)(v:Value)(zs:List Int)(w':World):Prop:=Zt base w' v zs/\Zf 3 w w'/\ZA v.ownBlock w w'/\Below base w w'
def Vy.after{base:Nat}{w w1 w2:World}{v:Value}{zs:List Int}(h:Vy base w v zs w1)(hS:Below w1.heap.size w1 w2)(hb:base<=w.heap.size):Vy base w v zs w2:=
 ⟨h.1.below hS,h.2.1.then (hS.mono h.2.2.1.1),⟨JW h.2.2.1.1 hS.size,λb hb hne=>(hS.block b (je hb h.2.2.1.1)).trans (h.2.2.1.2 b hb hne)⟩,h.2.2.2.trans (hS.mono (JW hb h.2.2.1.1))⟩
def Vy.put{base:Nat}{w w1:World}{g n c:Nat}{zs:List Int}(h:Vy base w (.slice (some ⟨g,0,none⟩) n c) zs w1)(hb:base<=g){j k:Nat}{x y:Int}(hj:j<zs.length)(hk:k<zs.length)(hx: -9223372036854775808<=x/\x<=9223372036854775807)(hy: -9223372036854775808<=y/\y<=9223372036854775807):
 Vy base w (.slice (some ⟨g,0,none⟩) n c) ((zs.set j x).set k y) ((w1.setCell ⟨g,j,none⟩ (.int .i64 x)).setCell ⟨g,k,none⟩ (.int .i64 y)):=by
 obtain⟨h1,h2,h3,h4⟩:=h;obtain⟨a1,a2⟩:=h1.set_ hj hx.1 hx.2;obtain⟨b1,b2⟩:=a1.set_ (k:=k) (by simpa using hk) hy.1 hy.2;exact⟨b1,h2.trans (a2.trans b2),h3.trans (ZA.of_set.trans ZA.of_set),(h4.setCell (p:=⟨g,j,none⟩) hb _).setCell (p:=⟨g,k,none⟩) hb _⟩
def Zjt(base:Nat)(v:Value)(zs:List Int)(w:World)(h:Zt base w v zs)(hl:zs.length<=12)(n:Int)(hn:n=zs.length):
 Calls prog 120 #[v,.int .i64 0,.int .i64 n] w λe w'=>e= .returned (.tuple #[])/\Vy base w v (Yj zs) w':=by
 obtain⟨m,hm⟩:∃m,m=zs.length:=⟨_,rfl⟩;rw[<-hm]at hl hn;subst hn;have HM:=JZ hm;rcases JX 1 m with hm1|hm1
 ·obtain⟨g,c,rfl,J,L,K,M⟩:=h.shape Qk;rw[<-hm]at h K⊢;have C:=JZ J;have r:base<=w.heap.size:=Qk
  have HI:=JZ h;clear h hm;go_enter func120,ntmps120;go_wp2
  go_loopw [6,7] (λs6 s7 wr=>∃i:Nat,1<=i/\i<=m/\s6= .int .i64 i/\Vy base w (.slice (some ⟨g,0,none⟩) m c) (Yj (zs.take i)++zs.drop i) wr) (λs6 _ _=>m - (intOf s6).toNat)
  case atStart=>exact⟨1,Qk,Qk,rfl,by
   have e:Yj (zs.take 1)++zs.drop 1=zs:=by
    cases zs with
    |nil=>rfl
    |cons x zs=>simp[Yj,YC,VB]
   rw[e];exact⟨HI.out,Zf.refl _ _,⟨JY _,λ_ _ _=>rfl⟩,JR _ _⟩⟩
  case round=>
   obtain⟨i,N,hi,rfl,HS⟩:=hrel;rcases JX i m with hil|hil
   ·obtain⟨x,hx⟩:∃x,zs[i]? =some x:=⟨zs[i]'(by rw[<-HM.out];exact hil),JQ _⟩;have HX:=JZ hx;clear hx;have D:=JZ HS;clear HS;go_wp2
    go_loopw [7] (λs7 wx=>∃(j:Nat) (a b:List Int),j<=i/\s7= .int .i64 j/\Hid (a.length=j/\Yj (zs.take i)=a++b/\VB ltI x (Yj (zs.take i))=VB ltI x a++b)/\Hid (Vy base w (.slice (some ⟨g,0,none⟩) m c) (a++x::(b++zs.drop (i+1))) wx)) (λs7 _=>(intOf s7).toNat)
    case atStart=>exact⟨i,Yj (zs.take i),[],Qk,rfl,JZ ⟨by unfold Yj;rw[WI,kN,<-HM.out];omega,by simp,by simp⟩,JZ (by
     have:=D.out;rw[drop_at HX.out]at this;simpa using this)⟩
    case round=>
     obtain⟨j,a,b,hj,rfl,HA,HW⟩:=hrel;have f:Hid ((j=0\/∃a' y,a=a'++[y]/\y<=x)->a++x::(b++zs.drop (i+1))=Yj (zs.take (i+1))++zs.drop (i+1)):=JZ (λhs=>by
      obtain⟨h1,h2,h3⟩:=HA.out;rw[Zja HX.out,h3];rcases hs with hs|⟨a',y,rfl,hyx⟩
      ·have:a=[]:=kW Qk;subst this;simp[VB]
      ·have o:=Zqm (zs.take i);rw[h2]at o;rw[Zph Yci (gY (vg _ _) o) (Yoz.2 hyx)];simp)
     rcases JV j with hj0|hj0
     ·subst hj0
      go_upto_region 4 with(fail)
      have l:=Zc wr;refine Zj 15 [0,1,2,3,4,5,6,7,8,9,10,11,12,13,14] Qm Qm ?_;refine Qd ?_
      refine Zl ?_;have HE:=JZ (f.out (.inl rfl));clear f;go_wp2;go_roundw
      case rel=>exact⟨i+1,Qk,Qk,by go_num,by
       have:=HW.out;rw[HE.out]at this;exact this.after l r⟩
      case measure=>exact Qn
     ·obtain⟨p,rfl⟩:∃p,j=p+1:=⟨j - 1,Qk⟩;obtain⟨a',y,rfl,hp⟩:∃a' y,a=a'++[y]/\a'.length=p:=by
       have h1:=HA.out.1;have u:a≠[]:=λe=>by subst e;simp at h1
       refine⟨a.dropLast,a.getLast u,(List.dropLast_concat_getLast u).symm,by simp;omega⟩
      have HP:=JZ hp;have hL:(a'++[y]++x::(b++zs.drop (i+1)))=a'++y::x::(b++zs.drop (i+1)):=(by simp);have q:=HW.out;rw[hL]at q;obtain⟨cx,fx,bx⟩:=q.1.at_ (k:=p+1) (z:=x) (by rw[<-hp];simp);obtain⟨cy,fy,B⟩:=q.1.at_ (k:=p) (z:=y) (by rw[<-hp];simp);have E:=JZ bx;have F:=JZ B;have G:=JZ q;clear hp hL q bx B;have p0:(0:Int)<=(p:Int)+1:=Qk;have p1:(p:Int)+1<m:=Qk;have p2:(p:Int)<m:=Qk;have p3:(0:Int)< (p:Int)+1:=Qk;rcases jR x y with hxy|hxy
      ·have HN:Hid (a'.length=p/\Yj (zs.take i)=a'++(y::b)/\VB ltI x (Yj (zs.take i))=VB ltI x a'++(y::b)):=JZ (by
        obtain⟨_,h2,h3⟩:=HA.out;refine⟨HP.out,by simpa using h2,?_⟩;have o:=Zqm (zs.take i);rw[h2]at o;rw[h3,Zpi Ycg Ych Yci (gY (vg _ _) o) (Yoy.2 hxy)];simp)
       have hd:decide (x<y)=true:=(by simpa using hxy);have C0:=Zm cx;have C1:=Zm cy;have l:=Zc wr
       go_upto_region 4 with(fail)
       clear cx cy;refine Zj 15 [0,1,2,3,4,5,6,7,8,9,10,11,12,13,14] Qm Qm ?_;refine Qd ?_
       refine Qo λ_ kq=>?_;(with_reducible refine(Zno x y _).mono ?_);rintro _ _ ⟨rfl,rfl⟩;rw[hd];refine kq.out _ _ (.inr l) (Qe ?_);clear kq
       refine Zl ?_;clear C0 C1 f
       go_upto_region 6 with(fail)
       have s:=JZ (G.out.after l r);generalize wr.drew=W1 at *;obtain⟨cx,fx,_⟩:=s.out.1.at_ (k:=p+1) (z:=x) (by rw[<-HP.out];simp);obtain⟨cy,fy,_⟩:=s.out.1.at_ (k:=p) (z:=y) (by rw[<-HP.out];simp);have C0:=Zm cx;have C1:=Zm cy;have H:=Zc W1;clear l;refine Zj 15 [0,1,2,3,4,5,6,7,8,9,10,11,12,13,14,15,16,17] Qm Qm ?_;refine Qb ?_
       refine Qh ?_;refine Qh ?_;refine Qh ?_;refine Zl ?_;have t:=s.out.put C.out (j:=p+1) (k:=p) (x:=y) (y:=x) (by rw[<-HP.out];simp) (by rw[<-HP.out];simp) F.out E.out;rw[Zwh HP.out]at t;have I:=JZ (t.after (Zc _) r);generalize((W1.setCell ⟨g,p+1,none⟩ (.int .i64 y)).setCell ⟨g,p,none⟩ (.int .i64 x)).drew=W2 at *;clear C0 C1 H t cx cy;go_wp2;go_roundw
       case rel=>exact⟨p,a',y::b,Qk,by go_num,HN,I⟩
       case measure=>simp[intOf]
      ·have HE:=JZ (f.out (.inr ⟨a',y,rfl,hxy⟩));have hd:decide (x<y)=false:=(by simpa using hxy);have C0:=Zm cx;have C1:=Zm cy;have l:=Zc wr;clear f
       go_upto_region 4 with(fail)
       clear cx cy;refine Zj 15 [0,1,2,3,4,5,6,7,8,9,10,11,12,13,14] Qm Qm ?_;refine Qd ?_
       refine Qo λ_ kq=>?_;(with_reducible refine(Zno x y _).mono ?_);rintro _ _ ⟨rfl,rfl⟩;rw[hd];refine kq.out _ _ (.inr l) (Qe ?_);clear kq
       refine Zl ?_;clear C0 C1;go_wp2;go_roundw
       case rel=>exact⟨i+1,Qk,Qk,by go_num,by
        have:=HW.out;rw[HE.out]at this;exact this.after l r⟩
       case measure=>exact Qn
   ·obtain rfl:i=m:=Qk
    go_wp2
    go_end0
    exact⟨rfl,by
     have e:Yj (zs.take i)++zs.drop i=Yj zs:=(by rw[HM.out];simp);rw[e]at HS;exact HS⟩
 ·have HI:=JZ h;have HV:Hid (∃A c',v= .slice A m c'):=JZ (by
   obtain⟨A,n',c',rfl⟩:=h.sliceN;have:=h.len;exact⟨A,c',by rw[this,hm]⟩)
  have HE:Hid (Yj zs=zs):=JZ (by
   match zs,hm with
   | [],_=>rfl
   | [x],_=>rfl
   |x::y::zs,hm=>simp at hm;omega)
  clear h hm;go_enter func120,ntmps120;go_wp2
  go_loopw [6] (λs6 wr=>s6= .int .i64 1/\wr=w) (λs6 _=>0)
  case atStart=>exact⟨rfl,rfl⟩
  case round=>
   obtain⟨rfl,rfl⟩:=hrel;go_wp2
   go_end0
   exact⟨rfl,by rw[HE.out];exact⟨HI.out,Zf.refl _ _,⟨JY _,λ_ _ _=>rfl⟩,JR _ _⟩⟩
def Yjk(base:Nat)(v:Value)(zs:List Int)(w:World)(h:Zt base w v zs)(hl:zs.length<=12)(n:Int)(hn:n=zs.length)(k:Int):
 Calls prog 89 #[v,.int .i64 0,.int .i64 n,.int .i64 k] w λe w'=>e= .returned (.tuple #[])/\Vy base w v (Yj zs) w':=by
 have a:0<=n:=Qk
 have b:n<=12:=Qk
 have HI:=JZ h;have HN:=JZ hn;obtain⟨A,n',c',rfl⟩:=h.sliceN;clear h hn;go_enter func89,ntmps89;go_wp2;refine wp_loop_rounds 1 ?_;rw[rounds_succ];go_wp2_with fail;refine(Zjt base _ zs _ HI.out hl n HN.out).mono ?_;rintro _ w1 ⟨rfl,hs⟩;go_wp2;(try simp only[Exit.inBlock,Exit.then]);refine iP (Bn rfl _ _ _) rfl ?_;exact⟨rfl,hs⟩
def Zjb(base:Nat)(v:Value)(zs:List Int)(w:World)(h:Zt base w v zs)(hl:zs.length<=12):
 Calls prog 50 #[v] w λe w'=>e= .returned (.tuple #[])/\Vy base w v (Yj zs) w':=by
 obtain⟨A,n,c,rfl⟩:=h.sliceN;have hn:=h.len;have HI:=JZ h;have HN:=JZ hn;have a:n<=12:=Qk
 clear h hn;go_enter func50,ntmps50;go_wp2_with fail;refine(Yek (n:Int) _ Qk Qk).mono ?_;rintro _ _ ⟨⟨l,rfl⟩,rfl⟩;go_wp2_with fail;refine(Yjk base _ zs _ HI.out hl n (by rw[HN.out]) l).mono ?_;rintro _ w1 ⟨rfl,hs⟩;go_wp2
 go_end0
 exact⟨rfl,hs⟩
def XO(ty:TypeId)(W:World)(base:Nat)(v0 v:Value)(ys zs:List Int)(h0:Zt base W v0 ys)(h:Z6 W v zs)(hn:ys.length+zs.length<=1099511627776)(hbase:base<=W.heap.size):
 ∃v' w',(Builtin.append_ #[22,22] ty #[v0,v]).run prog W= .ok v' w'/\Zt base w' v' (ys++zs)/\Zf 3 W w'/\Below base W w'/\ZA v0.ownBlock W w'/\(v'.ownBlock=v0.ownBlock\/∀g,v'.ownBlock=some g->W.heap.size<=g):=by
 obtain⟨A,c,rfl,hc,hm,d,o⟩:=h;obtain⟨i0,hi,i,p,q⟩:=kL info_intT
 cases A with
 |none=>
  have m:zs.length=0:=by
   rcases JV zs.length with e|e
   ·exact e
   ·obtain⟨b,r,e1,_⟩:=d e;cases e1
  have n:zs=[]:=kW m;subst n;refine⟨v0,W,?_,by simpa using h0,Zf.refl _ _,JR _ _,⟨JY _,λ_ _ _=>rfl⟩,.inl rfl⟩;rcases h0.1.2 with⟨rfl,_⟩|⟨g,cap,cur,rfl,hb,hg,hnc,hcm,hcs,htake⟩
  ·simp[Builtin.append_,BU underlying22,sizeOf,typeInfo,zeroValue,hi,i,Builtin.lenOf,run_firstCells_none]
  ·simp[Builtin.append_,BU underlying22,sizeOf,typeInfo,zeroValue,hi,i,Builtin.lenOf,run_firstCells_none,hnc,storeCells]
 |some ad=>
  obtain⟨v',w',hr,g1,g2,g3,g4⟩:=aM (P:=prog) W base 22 ty 3 i0 _ 1 8 underlying22 hi i p q rfl Ql v0 ys.length (ys.map λz=>Value.int .i64 z) h0.1 ad zs.length c (zs.map λz=>Value.int .i64 z) (by simp) (λj u hj=>by
   have f:j<zs.length:=(by have h9:=(JO.1 hj).1;simpa using h9);obtain⟨b,r,e,hx⟩:=d Qk;have e:=Option.some.inj e;rw[e,Zoz,hx j f];simp[JQ f]at hj;rw[<-hj];simp[List.getD,JQ f]) (λu hu=>by simp at hu;obtain⟨z,_,rfl⟩:=hu;rfl) (by unfold maxLen;omega) Qk hbase
  refine⟨v',w',hr,⟨by simpa using g1,λy hy=>?_⟩,?_,?_,⟨g2.size,λb hb l=>g2.block b hb l⟩,?_⟩
  ·rcases jW.1 hy with hy|hy
   ·exact h0.2 y hy
   ·exact o y hy
  ·intro b cs t' fz l a;refine(g2.block b (ZU a) ?_).trans a;intro e1;rcases h0.1.2 with⟨rfl,_⟩|⟨g,cap,cur,rfl,_,hg,_⟩
   ·simp[Value.ownBlock]at e1
   ·simp[Value.ownBlock]at e1;subst e1;rw[hg]at a;injection a with a;injection a with _ h2 _;exact l h2.symm
  ·exact(JR _ _).grown g2 hbase (λk hk=>(h0.1.lt k hk).1)
  ·rcases g4 with g4|g4
   ·exact .inl g4
   ·right;intro g hg;rw[g4]at hg;injection hg with hg;omega
def Vz(v:Value)(zs:List Int)(t:Int)(w:World)(h:Z6 w v zs)(hs:zs.Pairwise (·< ·))(hl:zs.length<=1000):
 Calls prog 22 #[v,.int .i64 t] w λe w'=>e= .returned (.tuple #[.int .i64 (posR zs t:Nat),.bool (decide (t∈zs))])/\Below w.heap.size w w':=by
 obtain⟨A,c,rfl,hc,z⟩:=h.shape;obtain⟨n,hn⟩:∃n,n=zs.length:=⟨_,rfl⟩;rw[<-hn]at h hc hl⊢;have HN:=JZ hn;have HI:=JZ h;have HS:=JZ hs;clear h hn hs;go_enter func22,ntmps22;go_wp2
 go_loopw [7,8,9] (λs7 s8 _ wr=>∃i j:Nat,i<=j/\j<=n/\s7= .int .i64 i/\s8= .int .i64 j/\Below w.heap.size w wr/\Hid (∀(k:Nat) (x:Int),k<i->zs[k]? =some x->x<t)/\Hid (∀(k:Nat) (x:Int),j<=k->zs[k]? =some x->t<=x)) (λs7 s8 _ _=>(intOf s8).toNat - (intOf s7).toNat)
 case atStart=>exact⟨0,n,Qk,Qk,rfl,rfl,JR _ _,JZ (λk x hk=>Qk),JZ (λk x hk hx=>by have:=(JO.1 hx).1;have:=HN.out;omega)⟩
 case round=>
  obtain⟨i,j,B,p,rfl,rfl,hb,HA,HB⟩:=hrel;rcases JX i j with hlt|hlt
  ·have r:(i:Int)<j:=Qk;have l:(i+j)/2<n:=Qk;obtain⟨b,q,y,hA,g,hy,_,_⟩:=HI.out.elem hb l;subst hA;have HY:=JZ hy;clear hy;have q0:(0:Int)<=((i:Int)+j)/2:=Qk;have q1:((i:Int)+j)/2<n:=Qk;have q2:(((i:Int)+j)/2).toNat=(i+j)/2:=Qk;go_wp2_with fail;refine(Zno y t _).mono ?_;rintro _ _ ⟨rfl,rfl⟩;by_cases d:y<t
   ·have hd:decide (y<t)=true:=(by simpa using d);rw[hd];have m:Hid (∀(k:Nat) (x:Int),k< (i+j)/2+1->zs[k]? =some x->x<t):=JZ (λk x hk hx=>by
     rcases JX k ((i+j)/2)with e|e
     ·have:=V3 HS.out e hx HY.out;omega
     ·obtain rfl:k=(i+j)/2:=Qk
      rw[HY.out]at hx;injection hx with hx;omega)
    go_wp2;go_roundw
    case rel=>exact⟨(i+j)/2+1,j,Qk,Qk,by go_num,rfl,hb,m,HB⟩
    case measure=>exact Qn
   ·have hd:decide (y<t)=false:=(by simpa using d);rw[hd];have o:Hid (∀(k:Nat) (x:Int),(i+j)/2<=k->zs[k]? =some x->t<=x):=JZ (λk x hk hx=>by
     rcases JX ((i+j)/2) k with e|e
     ·have:=V3 HS.out e HY.out hx;omega
     ·obtain rfl:k=(i+j)/2:=Qk
      rw[HY.out]at hx;injection hx with hx;omega)
    go_wp2;go_roundw
    case rel=>exact⟨i,(i+j)/2,Qk,Qk,rfl,by go_num,hb,HA,o⟩
    case measure=>exact Qn
  ·obtain rfl:i=j:=Qk
   have f:Hid (posR zs t=i):=JZ (Yco (by rw[<-HN.out];exact p) HA.out HB.out);rcases JX i n with hin|hin
   ·have s:(i:Int)<n:=Qk;obtain⟨b,q,y,hA,g,hy,_,_⟩:=HI.out.elem hb hin;subst hA;have HY:=JZ hy;clear hy;by_cases d:y=t
    ·subst d;have HM:Hid (decide (y∈zs)=true):=JZ (by rw[iR];exact jC HY.out);go_wp2;go_ret2;exact⟨by rw[f.out,HM.out];rfl,hb⟩
    ·have u:(y==t)=false:=(by simpa using d);have HM:Hid (decide (t∈zs)=false):=JZ (by
      rw[vM];intro hm;obtain⟨k,hk⟩:=kS.1 hm;rcases kF k i with e|e|e
      ·have:=HA.out k t e hk;omega
      ·subst e;rw[HY.out]at hk;injection hk with hk;exact d hk
      ·have a:=HB.out i y (JY _) HY.out;have b:=V3 HS.out e HY.out hk;omega)
     clear d;go_wp2;go_ret2;exact⟨by rw[f.out,HM.out];rfl,hb⟩
   ·have HM:Hid (decide (t∈zs)=false):=JZ (by
     rw[vM];intro hm;obtain⟨k,hk⟩:=kS.1 hm;have:=(JO.1 hk).1;have:=HN.out;have:=HA.out k t Qk hk;omega)
    go_wp2;go_ret2;exact⟨by rw[f.out,HM.out];rfl,hb⟩
def Zjc(v:Value)(zs:List Int)(w:World)(h:Z6 w v zs)(hl:zs.length<=1000000):
 Calls prog 23 #[v] w λe w'=>∃v',e= .returned v'/\Zt w.heap.size w' v' zs/\Below w.heap.size w w':=by
 obtain⟨A,c,rfl,hc,i⟩:=h.shape;have d:=λ(W:World) (a:Option Addr)=>fI (P:=prog) W 22 3 a zs.length c 0 0 underlying22
 cases A with
 |none=>
  have hz:zs=[]:=by
   obtain⟨A',c',e,_,_,h4,_⟩:=h;injection e with e1 _ _;subst e1;rcases JV zs.length with e|e
   ·exact kW e
   ·obtain⟨b,j,e,_⟩:=h4 e;cases e
  subst hz;have:=d w none;simp only[fO]at this;clear h d;go_enter func23,ntmps23;go_wp2;go_ret;exact⟨_,rfl,Zt.nil _ _,JR _ _⟩
 |some ad=>
  have:=d w (some ad);clear d;have h0:Zt w.heap.size (w.alloc (.cells #[] 3)) (.slice (some ⟨w.heap.size,0,none⟩) 0 0) []:=⟨BQ w #[] 0 (JY _) (by simp) (by simp),λz hz=>by simp at hz⟩;have f:Below w.heap.size w (w.alloc (.cells #[] 3)):=(JR _ _).alloc (JY _) _;obtain⟨v',w',hr,g1,_,g3,_,_⟩:=XO 22 _ w.heap.size _ _ [] zs h0 (h.below f) (by simp;omega) (by simp);have G1:=JZ g1;have g:=f.trans g3;clear h h0 g1 g3;go_enter func23,ntmps23;go_wp2_with(at_builtin;refine wpList_append_run hr rfl rfl rfl rfl rfl ?_);go_wp2;go_ret;exact⟨_,rfl,by simpa using G1.out,g⟩
def Z6.cellAt{w wr:World}{b off n c:Nat}{zs:List Int}(h:Z6 w (.slice (some ⟨b,off,none⟩) n c) zs)(hb:Below w.heap.size w wr){k:Nat}{z:Int}(hz:zs[k]? =some z):wr.cell? ⟨b,off+k,none⟩=some (.int .i64 z):=by
 have hk:=(JO.1 hz).1;obtain⟨b',a,z',h1,h2,h3,_⟩:=h.elem hb (k:=k) (by rw[h.lenE];exact hk);injection h1 with h1;injection h1 with e1 e2 _;subst e1 e2;rw[hz]at h3;injection h3 with h3;subst h3;exact h2
def Z6.lenC{w:World}{A:Option Addr}{n c:Nat}{zs:List Int}(h:Z6 w (.slice A n c) zs):n=zs.length/\n<=c/\c<=9223372036854775807:=by
 obtain⟨A',c',e,h1,h2⟩:=h.shape;injection e with _ e2 e3;subst e2 e3;exact⟨rfl,h1,h2⟩
def Zfh(w:World)(x y:Value):∃W,w.alloc (.cells #[x,y] 67)=W/\Bk W w.heap.size 67 [x,y]/\Below w.heap.size w W:=⟨_,rfl,Bk.new w _ [x,y],Ze w _⟩
def Zgw(w:World)(x y:Value):∃W,w.alloc (.cells #[x,y] 62)=W/\Bk W w.heap.size 62 [x,y]/\Below w.heap.size w W:=⟨_,rfl,Bk.new w _ [x,y],Ze w _⟩
def Zqn(R:List Int)(x:Ct):Prop:=x.rows.Pairwise (·< ·)/\(∀r∈x.rows,r∈R)/\2<=x.dv/\x.dv<=x.rows.length
def Zqo(v1:Value)(R:List Int)(A:Option Addr)(n c:Nat)(x:Ct)(w:World)(h:Z6 w v1 R)(h2:Z6 w (.slice A n c) x.rows)(ok:Zqn R x)(hR:R.Pairwise (·< ·))(hl:R.length<=1000)(hl2:x.rows.length<=1000):
 Calls prog 45 #[v1,.agg #[.slice A n c,.int .i64 x.dv]] w λe w'=>e= .returned (.bool true)/\Below w.heap.size w w':=by
 obtain⟨o1,o2,o3,o4⟩:=ok;have hn:=h2.lenE;have q:x.dv<=n:=Qk
 obtain⟨W,hW,hX,l⟩:=Zfh w (.slice A n c) (.int .i64 x.dv);obtain⟨-,u,v⟩:=h2.lenC;have HI:=JZ h;have HJ:=JZ h2;have HA:=JZ o1;have HB:=JZ o2;have HR:=JZ hR;have HN:=JZ hn;have r:n<=1000:=Qk
 obtain⟨x0,x1,_,_⟩:=hX.two;clear h h2 o1 o2 o4 hn hR hl2;generalize x.dv=D at *;go_enter func45,ntmps45;go_wp2;clear x0 x1
 go_loopw [5,6,7,8,12,17] (λ_ _ _ _ x _ wr=>∃k:Nat,k<=n/\x= .int .i64 k/\Below w.heap.size w wr/\Bk wr w.heap.size 67 [.slice A n c,.int .i64 D]) (λ_ _ _ _ x _ _=>n - (intOf x).toNat)
 case atStart=>exact⟨0,Qk,rfl,l,hX⟩
 case round=>
  clear hW l hX;obtain⟨k,hk,rfl,hb,hB⟩:=hrel;obtain⟨x0,x1,_,_⟩:=hB.two;rcases JX k n with hkl|hkl
  ·obtain⟨b,z,y,hA,f,hy,_,_⟩:=HJ.out.elem hb hkl;subst hA;have HY:=JZ hy;have HM:Hid (decide (y∈R)=true):=JZ (by rw[iR];exact HB.out y (jC hy));clear hy;go_wp2_with fail;refine(Vz _ R y _ (HI.out.below hb) HR.out hl).mono ?_;rw[HM.out];rintro _ w1 ⟨rfl,i⟩;have a:=hB.later i;have d:=Za hb i hb.size;obtain⟨x0,x1,_,_⟩:=a.two;generalize posR R y=P;clear hB hb i f;rcases JV k with hk0|hk0
   ·subst hk0;go_wp2;go_roundw
    case rel=>exact⟨1,Qk,by go_num,d,a⟩
    case measure=>exact Qn
   ·obtain⟨j,rfl⟩:∃j,k=j+1:=⟨k - 1,Qk⟩;obtain⟨b',p,y',g,o,m,_,_⟩:=HJ.out.elem d (show j<n by omega);injection g with g;injection g with e1 e2 _;subst e1 e2;have s:y'<y:=V3 HA.out (aT j) m HY.out;have t:¬y<=y':=Qk;have j0:(0:Int)< (j:Int)+1:=Qk;have j1:(j:Int)<n:=Qk;clear m;go_wp2;go_roundw
    case rel=>exact⟨j+1+1,Qk,by go_num,d,a⟩
    case measure=>exact Qn
  ·obtain rfl:n=k:=Qk
   go_wp2;go_ret;exact⟨rfl,hb⟩
namespace Pl
def Yel{p:List (List Tk)}{k:Nat}{d:List Tk}(h:p[k]? =some d)(j:Nat):(opP (p.take k)++opD (d.take j)).length<=(opP p).length:=by
 have e1:p=p.take k++(d::p.drop (k+1)):=by
  obtain⟨hk,rfl⟩:=JO.1 h;rw[<-iK hk,gT]
 have e2:d=d.take j++d.drop j:=(gT j d).symm;have h1:opP p=opP (p.take k)++(opD d++opP (p.drop (k+1))):=by
  conv=>lhs;rw[e1,Zew]
  rfl
 have h2:opD d=opD (d.take j)++opD (d.drop j):=by
  conv=>lhs;rw[e2,Zev]
 rw[h1,h2];simp only[kQ];omega
end Pl
def Zbk(s:ByteArray)(A:Option Addr)(n c:Nat)(p:List (List Tk))(w:World)(h:DutsM w (.slice A n c) p)(hl:(opP p).length<=1000):
 Calls prog 26 #[.agg #[.string s,.slice A n c]] w λe w'=>∃v',e= .returned v'/\Zt w.heap.size w' v' (opP p)/\Below w.heap.size w w':=by
 obtain⟨W,hW,hX,o⟩:=Zgw w (.string s) (.slice A n c);obtain⟨hn,G,H⟩:=RdM.len h;have HN:=JZ hn;have HI:=JZ h;clear h hn;obtain⟨x0,x1,_,_⟩:=hX.two;go_enter func26,ntmps26;go_wp2;clear x0 x1
 go_loopw [3,4,5] (λs3 s4 _ wr=>∃k:Nat,k<=n/\s4= .int .i64 k/\Below w.heap.size w wr/\Bk wr w.heap.size 62 [.string s,.slice A n c]/\Hid (Zt w.heap.size wr s3 (opP (p.take k)))) (λ_ x _ _=>n - (intOf x).toNat)
 case atStart=>exact⟨0,Qk,rfl,o,hX,JZ (by simpa[opP]using Zt.nil _ _)⟩
 case round=>
  clear hW o hX;obtain⟨k,hk,rfl,hb,hB,HO⟩:=hrel;obtain⟨x0,x1,_,_⟩:=hB.two;rcases JX k n with hkl|hkl
  ·have F:(k:Int)<n:=Qk;obtain⟨d,hd⟩:∃d,p[k]? =some d:=⟨p[k]'(by rw[<-HN.out];exact hkl),JQ _⟩;have HD:=JZ hd;obtain⟨b,u,A1,c1,hA,I,a,hD,v,J⟩:=HI.out.elem (JR _ _) hd;subst hA;have i:=JZ hD;have HC:=JZ a;obtain⟨m,hm⟩:∃m,m=d.length:=⟨_,rfl⟩;have HM:=JZ hm;rw[<-hm]at v HC i;clear hd hD a hm;go_wp2;clear x0 x1
   go_loopw [3,5] (λs3 s5 wx=>∃j:Nat,j<=m/\s5= .int .i64 j/\Below w.heap.size w wx/\Bk wx w.heap.size 62 [.string s,.slice (some ⟨b,u,none⟩) n c]/\Hid (Zt w.heap.size wx s3 (opP (p.take k)++opD (d.take j)))) (λ_ x _=>m - (intOf x).toNat)
   case atStart=>exact⟨0,Qk,rfl,hb,hB,JZ (by simpa[opD]using HO.out)⟩
   case round=>
    clear hb hB HO;obtain⟨j,hj,rfl,hb,hB,HO⟩:=hrel;obtain⟨x0,x1,_,_⟩:=hB.two;have a:=Zi hb HC.out;rcases JX j m with hjl|hjl
    ·obtain⟨t,ht⟩:∃t,d[j]? =some t:=⟨d[j]'(by rw[<-HM.out];exact hjl),JQ _⟩;have HT:=JZ ht;obtain⟨b1,D,y,E,hf,hh,t0,t1⟩:=i.out.elem hb ht;subst y;clear ht
     cases hhd:t.hd with
     |true=>
      rw[hhd]at hh;have f:Hid (Zt w.heap.size wr (_) (opP (p.take k)++opD (d.take (j+1)))):=JZ (by rw[Zgn HT.out,jB hhd,BF];exact HO.out);go_wp2;go_roundw
      case rel=>exact⟨j+1,Qk,by go_num,hb,hB,f⟩
      case measure=>exact Qn
     |false=>
      rw[hhd]at hh;have l:(opP (p.take k)++opD (d.take j)).length+1<=1099511627776:=(by have:=Yel HD.out j;omega);have q:=hb.size;have HE:Hid (opP (p.take k)++opD (d.take (j+1))=opP (p.take k)++opD (d.take j)++[t.fl]):=JZ (by rw[Zgn HT.out,jA (by simp[hhd])];simp);generalize opP (p.take k)++opD (d.take j)=ys at *;generalize t.fl=z at *;go_wp2_with(at_builtin;refine Yb rfl (.tmp 33) (.tmp 43) rfl wr w.heap.size u3 ys rfl HO.out z rfl t0 t1 l q ?_);intro v' w4 g B C _ _;have r:=B.bk hB Ql;go_wp2;go_roundw
      case rel=>exact⟨j+1,Qk,by go_num,hb.trans C,r,JZ (by rw[HE.out];exact g)⟩
      case measure=>exact Qn
    ·obtain rfl:m=j:=Qk
     have f:Hid (Zt w.heap.size wr (_) (opP (p.take (k+1)))):=JZ (by rw[Zvc HD.out];have:=HO.out;rw[YK HM.out]at this;exact this);go_wp2;go_roundw
     case rel=>exact⟨k+1,Qk,by go_num,hb,hB,f⟩
     case measure=>exact Qn
  ·obtain rfl:n=k:=Qk
   go_wp2;go_ret;exact⟨_,rfl,by have:=HO.out;rw[YK HN.out]at this;exact this,hb⟩
def Yjl(w:World)(x y:Value):∃W W',w.alloc (.cells #[x,y] 107)=W/\W.setCell ⟨w.heap.size,1,none⟩ y=W'/\Bk W w.heap.size 107 [x,y]/\Below w.heap.size w W/\Bk W' w.heap.size 107 [x,y]/\Below w.heap.size w W':=
 ⟨_,_,rfl,rfl,Bk.new w _ [x,y],Ze w _,by simpa using(Bk.new w 107 [x,y]).set_ 1 y,(Ze w _).setCell (p:=⟨w.heap.size,1,none⟩) (JY _) y⟩
def VR(s:ByteArray)(A:Option Addr)(n c:Nat)(p:List (List Tk))(w:World)(h:DutsM w (.slice A n c) p)(hl:(opP p).length<=1000):
 Calls prog 44 #[.agg #[.string s,.slice A n c]] w λe w'=>∃v',e= .returned v'/\Zt w.heap.size w' v' (opP p)/\Below w.heap.size w w':=by
 obtain⟨W,hW,hX,y⟩:=Zgw w (.string s) (.slice A n c);obtain⟨hn,P,R⟩:=RdM.len h;have HN:=JZ hn;have HI:=JZ h;clear h hn;obtain⟨x0,x1,_,_⟩:=hX.two;go_enter func44,ntmps44;go_wp2;clear x0 x1
 go_loopw [3,11] (λs3 s4 wr=>∃k:Nat,k<=n/\s4= .int .i64 k/\Below w.heap.size w wr/\Bk wr w.heap.size 62 [.string s,.slice A n c]/\Hid (Zt w.heap.size wr s3 (opP (p.take k)))) (λ_ x _=>n - (intOf x).toNat)
 case atStart=>exact⟨0,Qk,rfl,y,hX,JZ (by simpa[opP]using Zt.nil _ _)⟩
 case round=>
  clear hW y hX;obtain⟨k,hk,rfl,hb,hB,HO⟩:=hrel;obtain⟨x0,x1,_,_⟩:=hB.two;rcases JX k n with hkl|hkl
  ·have N:(k:Int)<n:=Qk;obtain⟨d,hd⟩:∃d,p[k]? =some d:=⟨p[k]'(by rw[<-HN.out];exact hkl),JQ _⟩;have HD:=JZ hd;obtain⟨b,F,A1,c1,hA,S,a,hD,G,T⟩:=HI.out.elem (JR _ _) hd;subst hA;have u:=JZ hD;have a:=Zi hb a;obtain⟨m,hm⟩:∃m,m=d.length:=⟨_,rfl⟩;have HM:=JZ hm;rw[<-hm]at G a u;have O:=hb;clear hd hD hm;go_wp2;clear x0 x1 a;generalize wr=wo at *
   go_loopw [3,17] (λs3 s5 wx=>∃j:Nat,j<=m/\s5= .int .i64 j/\Below w.heap.size w wx/\Bk wx w.heap.size 62 [.string s,.slice (some ⟨b,F,none⟩) n c]/\Hid (Zt w.heap.size wx s3 (opP (p.take k)++opD (d.take j)))) (λ_ x _=>m - (intOf x).toNat)
   case atStart=>exact⟨0,Qk,rfl,hb,hB,JZ (by simpa[opD]using HO.out)⟩
   case round=>
    clear hb hB HO;obtain⟨j,hj,rfl,hb,hB,HO⟩:=hrel;obtain⟨x0,x1,_,_⟩:=hB.two;rcases JX j m with hjl|hjl
    ·obtain⟨t,ht⟩:∃t,d[j]? =some t:=⟨d[j]'(by rw[<-HM.out];exact hjl),JQ _⟩;have HT:=JZ ht;obtain⟨b1,L,H,M,hf,hh,t0,t1⟩:=u.out.elem hb ht;subst H;clear ht;obtain⟨W2,W3,B,o,I,f,hK,q⟩:=Yjl wr (.int .i64 t.fl) (.bool t.hd);obtain⟨k0,k1,f0,f1⟩:=I.two;obtain⟨k2,k3,_,_⟩:=hK.two
     cases hhd:t.hd with
     |true=>
      rw[hhd]at hh B o k1 k3;clear o k2 k3;have g:=Za hb f hb.size;have i:=hB.later f;have l:Hid (Zt w.heap.size W2 (_) (opP (p.take k)++opD (d.take (j+1)))):=JZ (by rw[Zgn HT.out,jB hhd,BF];exact HO.out.below f);go_wp2;go_roundw
      case rel=>exact⟨j+1,Qk,by go_num,g,i,l⟩
      case measure=>exact Qn
     |false=>
      rw[hhd]at hh B o k1 k3;have g:=Za hb q hb.size;have i:=hB.later q;have C:=JZ (HO.out.below q);have v:(opP (p.take k)++opD (d.take j)).length+1<=1099511627776:=(by have:=Yel HD.out j;omega);have D:=g.size;have HE:Hid (opP (p.take k)++opD (d.take (j+1))=opP (p.take k)++opD (d.take j)++[t.fl]):=JZ (by rw[Zgn HT.out,jA (by simp[hhd])];simp);generalize opP (p.take k)++opD (d.take j)=ys at *;generalize t.fl=z at *;go_wp2_with(at_builtin;refine Yb rfl (.tmp 24) (.tmp 27) rfl W3 w.heap.size u3 ys rfl C.out z rfl t0 t1 v D ?_);intro v' w4 r J K _ _;have E:=J.bk i Ql;go_wp2;go_roundw
      case rel=>exact⟨j+1,Qk,by go_num,g.trans K,E,JZ (by rw[HE.out];exact r)⟩
      case measure=>exact Qn
    ·obtain rfl:m=j:=Qk
     have l:Hid (Zt w.heap.size wr (_) (opP (p.take (k+1)))):=JZ (by rw[Zvc HD.out];have:=HO.out;rw[YK HM.out]at this;exact this);go_wp2;go_roundw
     case rel=>exact⟨k+1,Qk,by go_num,hb,hB,l⟩
     case measure=>exact Qn
  ·obtain rfl:n=k:=Qk
   go_wp2;go_ret;exact⟨_,rfl,by have:=HO.out;rw[YK HN.out]at this;exact this,hb⟩
end Go.Proofs.YtobadipflggkiaaGreat
