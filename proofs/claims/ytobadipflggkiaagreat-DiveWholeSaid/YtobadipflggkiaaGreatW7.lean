/- Lemmas of the claim; no condition. -/
import Derived.OpenShut
import Derived.Test.YtobadipflggkiaaGreatW5
set_option linter.all false
set_option maxRecDepth 100000
set_option maxHeartbeats 40000000
namespace Go.Proofs.YtobadipflggkiaaGreat
open Go.RowKit
open Pl Tryz
attribute [local go_sem ↓] Go.wp_at_zero Go.wp_at_succ
namespace Pl
def Yn(m:Nat)(f:Nat->Rat):List RF:=(List.range m).map λi=>canF (f i)
def Zo(m:Nat)(f:Nat->Rat):(Yn m f).length=m:=by simp[Yn]
def ZG{m i:Nat}{f:Nat->Rat}(h:i<m):(Yn m f)[i]? =some (canF (f i)):=by simp[Yn,h]
def YB{m i:Nat}{f:Nat->Rat}(h:i<m):qAt (Yn m f) i=f i:=by rw[YW (ZG h),Zv]
def Yc{m:Nat}{f g:Nat->Rat}(h:∀i,i<m->f i=g i):Yn m f=Yn m g:=by
 unfold Yn;apply fH;intro i hi;rw[h i (iT.1 hi)]
def Us{m k:Nat}{f:Nat->Rat}{q:Rat}(h:k<m):(Yn m f).set k (canF q)=Yn m λi=>if i=k then q else f i:=by
 apply jV;intro i;rcases JX i m with hi|hi
 ·rw[ZG hi];by_cases a:i=k
  ·subst a;rw[jM (by rw[Zo];exact h),jB rfl]
  ·rw[jE Qk,ZG hi,jA a]
 ·rw[JU (by simp[Zo];exact hi),JU (by rw[Zo];exact hi)]
def Zlz{m K:Nat}{f:Nat->Rat}(h:∀i,i<m->Sz K (f i)):RsL K (Yn m f):=by
 intro i g hg;have hi:i<m:=by have:=(JO.1 hg).1;rw[Zo]at this;exact this
 rw[ZG hi]at hg;injection hg with hg;subst hg;exact(h i hi).rs
def nnB(fs:List RF):Bool:=decide (∀i,i<fs.length->0<=qs (qAt fs i))
def Zuq{fs:List RF}(h:∀i,i<fs.length->0<=qs (qAt fs i)):nnB fs=true:=by simpa[nnB]using h
def eqB(xs ys:List RF):Bool:=decide (xs.length=ys.length/\∀i,i<xs.length->qAt xs i=qAt ys i)
def Yha{xs ys:List RF}(h1:xs.length=ys.length)(h:∀i,i<xs.length->qAt xs i=qAt ys i):eqB xs ys=true:=by
 unfold eqB;rw[kE];exact⟨h1,h⟩
def dQ:List En->(Nat->Rat)->Nat->Rat
 | [],f=>f
 |e::es,f=>dQ es λi=>if e.idx=(i:Int)then e.f.q else f i
def Zma(es:List En)(e:En)(f:Nat->Rat):dQ (es++[e]) f=λ(i:Nat)=>if e.idx=(i:Int)then e.f.q else dQ es f i:=by
 induction es generalizing f with
 |nil=>rfl
 |cons d es ih=>rw[vW,dQ,ih];rfl
def Yne{es:List En}{k:Nat}{e:En}(h:es[k]? =some e)(f:Nat->Rat):dQ (es.take (k+1)) f=λ(i:Nat)=>if e.idx=(i:Int)then e.f.q else dQ (es.take k) f i:=by
 rw[jP,h,fT,Zma]
def inR(n:Nat)(es:List En):Prop:=∀(k:Nat) (e:En),es[k]? =some e->0<=e.idx/\e.idx<n
def X5(es:List En):Nat->Rat:=dQ es λ_=>0
def Ysx{es:List En}{f:Nat->Rat}{K:Nat}(h:∀(k:Nat) (e:En),es[k]? =some e->e.f.Rs K)(hK:1<=K)(hf:∀i,Sz K (f i))(i:Nat):Sz K (dQ es f i):=by
 induction es generalizing f with
 |nil=>exact hf i
 |cons e es ih=>
  rw[dQ];refine ih (λk d hd=>h (k+1) d (by simpa using hd)) (λi=>?_);split
  ·exact(h 0 e rfl).sz hK
  ·exact hf i
def Sz_col{es:List En}{K:Nat}(h:∀(k:Nat) (e:En),es[k]? =some e->e.f.Rs K)(hK:1<=K)(i:Nat):Sz K (X5 es i):=Ysx h hK (λ_=>Sz_zero.mono hK) i
end Pl
def ZC{n g:Nat}{w w':World}(h:Below n w w')(hg:n<=g)(i j k l:Nat)(x y z u:Value):Below n w ((((w'.setCell ⟨g,i,none⟩ x).setCell ⟨g,j,none⟩ y).setCell ⟨g,k,none⟩ z).setCell ⟨g,l,none⟩ u):=(((h.setCell hg _).setCell hg _).setCell hg _).setCell hg _
def VJ{w:World}{base base':Nat}{t:TypeId}{s n:Nat}{v:Value}{xs:List Value}(h:w.ownsRow base t s v n xs)(hb:base'<=base):w.ownsRow base' t s v n xs:=by
 refine⟨h.1,?_⟩;rcases h.2 with hn|⟨g,cap,cur,rfl,hb',rest⟩
 ·exact .inl hn
 ·exact .inr ⟨g,cap,cur,rfl,JW hb hb',rest⟩
namespace Pl
def LPd.col(p:LPd)(j:Int):Nat->Rat:=if 0<=j then(match p.cols[j.toNat]? with|some c=>X5 c|none=>λ_=>0)else λi=>if(i:Int)= -1 - j then(if qs (qAt p.right i)<0 then -1 else 1)else 0
def LPd.col_pos{p:LPd}{j:Nat}{c:List En}(h:p.cols[j]? =some c):p.col (j:Int)=X5 c:=by
 unfold LPd.col;rw[jB Qk,JP,h]
def LPd.col_neg{p:LPd}{r:Nat}:p.col (-1 - (r:Int))=λi=>if i=r then(if qs (qAt p.right i)<0 then -1 else 1)else 0:=by
 unfold LPd.col;rw[jA Qk]
 funext i
 by_cases h:i=r
 ·rw[jB h,jB Qk]
 ·rw[jA h,jA Qk]
def LPd.In(p:LPd):Prop:=∀(j:Nat) (c:List En),p.cols[j]? =some c->inR p.right.length c
def Sz_one:Sz 1 1:=by
 unfold Sz;exact⟨Xd (by rw[show Int.natAbs (Rat.num 1)=1 from rfl];decide),Xd (by rw[show Rat.den 1=1 from rfl];decide)⟩
def LPd.Sz_col{p:LPd}{K:Nat}(ok:p.Ok K)(hK:1<=K)(j:Int)(i:Nat):Sz K (p.col j i):=by
 rcases jR j 0 with h|h
 ·obtain⟨r,rfl⟩:∃r:Nat,j= -1 - (r:Int):=⟨(-1 - j).toNat,Qk⟩;rw[LPd.col_neg];show Sz K (if i=r then(if qs (qAt p.right i)<0 then -1 else 1)else 0);split
  ·split
   ·exact(Zuo Sz_one).mono hK
   ·exact Sz_one.mono hK
  ·exact Sz_zero.mono hK
 ·obtain⟨r,rfl⟩:=JT h
  cases hc:p.cols[r]? with
  |some c=>rw[LPd.col_pos hc];exact Pl.Sz_col (ok.2.2 _ c hc).2 hK i
  |none=>
   have:p.col (r:Int) i=0:=by unfold LPd.col;rw[jB Qk,JP,hc]
   rw[this];exact Sz_zero.mono hK
end Pl
namespace Pl
def Ua(p:LPd)(xs:List RF)(k r:Nat):Rat:=ZF (λj=>qAt xs j*p.col (j:Int) r) k
end Pl
namespace Pl
def Ynf{n:Int}{es:List En}{p:Option Int}(h:Zcu n es p=0):∀(k:Nat) (e:En),es[k]? =some e->0<=e.idx/\e.idx<n/\e.f.q≠0:=by
 induction es generalizing p with
 |nil=>intro k e h;simp at h
 |cons d es ih=>
  rw[Zcu]at h;split at h
  ·omega
  ·rename_i h1
   split at h
   ·omega
   ·split at h
    ·omega
    ·rename_i h3
     intro k e hk
     cases k with
     |zero=>simp at hk;subst hk;exact⟨Qk,Qk,h3⟩
     |succ k=>exact ih h k e (by simpa using hk)
def Inc:Option Int->List En->Prop
 |_,[]=>True
 |p,e::es=>leP p e.idx=false/\Inc (some e.idx) es
def Yhb{n:Int}{es:List En}{p:Option Int}(h:Zcu n es p=0):Inc p es:=by
 induction es generalizing p with
 |nil=>trivial
 |cons d es ih=>
  rw[Zcu]at h;split at h
  ·omega
  ·split at h
   ·omega
   ·rename_i h2
    split at h
    ·omega
    ·exact⟨by simpa using h2,ih h⟩
def Zho{es:List En}{n:Nat}(h:vecErr es n=0):inR n es/\(∀(k:Nat) (e:En),es[k]? =some e->e.f.q≠0)/\Inc none es:=by
 unfold vecErr at h;split at h
 ·omega
 ·have:=Ynf h;exact⟨λk e hk=>⟨(this k e hk).1,(this k e hk).2.1⟩,λk e hk=>(this k e hk).2.2,Yhb h⟩
def Zfp{n:Int}{cs:List (List En)}(h:X0 n cs=0):∀(k:Nat) (c:List En),cs[k]? =some c->vecErr c n=0:=by
 induction cs with
 |nil=>intro k c h;simp at h
 |cons d cs ih=>
  rw[X0]at h;split at h
  ·rename_i h1
   intro k c hk
   cases k with
   |zero=>simp at hk;subst hk;exact h1
   |succ k=>exact ih h k c (by simpa using hk)
  ·rename_i h1;exact absurd h h1
def Zan{p:LPd}(h:lpErr p=0):p.right.length<=64/\p.cols.length<=1200/\p.cost.length=p.cols.length/\p.In/\∀(j:Nat) (c:List En),p.cols[j]? =some c->(∀(k:Nat) (e:En),c[k]? =some e->e.f.q≠0)/\Inc none c:=by
 unfold lpErr at h;split at h
 ·omega
 ·split at h
  ·omega
  ·refine⟨Qk,Qk,Qk,λj c hc=>(Zho (Zfp h j c hc)).1,λj c hc=>(Zho (Zfp h j c hc)).2⟩
def Ybf(p:LPd)(xs:List RF):Bool:=decide (lpErr p=0) && (decide (xs.length=p.cols.length) && (nnB xs && eqB (Yn p.right.length (Ua p xs p.cols.length)) p.right))
def Yng{p:LPd}{xs:List RF}(h1:lpErr p=0)(h2:xs.length=p.cols.length)(h3:nnB xs=true):Ybf p xs=eqB (Yn p.right.length (Ua p xs p.cols.length)) p.right:=by simp[Ybf,h1,h2,h3]
end Pl
namespace Pl
def Zhp(es:List En)(ys:List RF)(k:Nat):Rat:=ZF (λi=>match es[i]? with|some e=>e.f.q*qAt ys e.idx.toNat|none=>0) k
def Zhq{es:List En}{k:Nat}{e:En}(h:es[k]? =some e)(ys:List RF):Zhp es ys (k+1)=Zhp es ys k+e.f.q*qAt ys e.idx.toNat:=by
 unfold Zhp;rw[Zz,h]
def Yhc{es:List En}{ys:List RF}{K:Nat}(he:∀(k:Nat) (e:En),es[k]? =some e->e.f.Rs K)(hy:RsL K ys)(hK:1<=K)(k:Nat):Sz (1+k* (2*K+1)) (Zhp es ys k):=
 Zor λi _=>by
  split
  ·rename_i e h
   exact(Vn ((he i e h).sz hK) (hy.qAt hK _)).mono Qk
  ·exact Sz_zero.mono Qk
end Pl
def zfc(n:Nat):Array Value:=madeCells (Value.cells (.agg #[.bool false,.slice none 0 0,.bool false,.slice none 0 0])) (n*4)
def Zur{n k j:Nat}(hk:k<n)(hj:j<4):(zfc n)[k*4+j]? =([.bool false,.slice none 0 0,.bool false,.slice none 0 0]:List Value)[j]? :=by
 have a:k*4+j<n*4:=Qk
 have hm:(k*4+j)%4=j:=Qk
 unfold zfc madeCells;simp[a,Value.cells,hm]
 match j,hj with
 |0,_=>rfl
 |1,_=>rfl
 |2,_=>rfl
 |3,_=>rfl
def Yy.zeros(w:World)(n:Nat)(hn:n<=maxLen):Yy w.heap.size (w.alloc (.cells (zfc n) 49)) (.slice (some ⟨w.heap.size,0,none⟩) n n) (List.replicate n zeroF):=by
 have a:(zfc n).size=n*4:=eF _ _;refine⟨(zfc n).toList,⟨by simp[a],.inr ⟨w.heap.size,n,zfc n,by simp,JY _,vo w _,by simp,hn,a,?_⟩⟩,by simp[a],λk f hf=>?_⟩
 ·rw[kC (by simp[a])]
 ·rw[kT]at hf;split at hf
  ·rename_i hk
   injection hf with hf;subst hf;refine⟨_,_,_,_,?_,?_,?_,?_,Zx.zero _⟩
   ·have:=Zur (j:=0) hk Ql;simpa using this
   ·have:=Zur (j:=1) hk Ql;simpa using this
   ·have:=Zur (j:=2) hk Ql;simpa using this
   ·have:=Zur (j:=3) hk Ql;simpa using this
  ·cases hf
def Vo(n:Nat)(hn:n<=1099511627776)(w:World):
 (Instr.makeSlice 34 (.int .i64 (n:Int)) (.int .i64 (n:Int))).run prog w= .ok (.slice (some ⟨w.heap.size,0,none⟩) n n) (w.alloc (.cells (zfc n) 49)):=by
 obtain⟨i0,hi,a,b,c⟩:=kL info_frac;have hb:(i0.bytes:Int)* (n:Int)<=281474976710656:=by rw[c];omega
 have hr:=BN (P:=prog) w 34 49 i0 _ underlying34 hi a .i64 .i64 n n Qk Qk hb Qk;simp only[JP,b]at hr;exact hr
namespace Pl
def zeroF_q:zeroF.q=0:=by unfold RF.q zeroF;rw[ZM,BA]
def Ut(K:Nat):zeroF.Rs K:=by unfold RF.Rs zeroF;simp[YM,digs_zero]
def Yqq{es:List En}{p:Option Int}(h:Inc p es):∀(k:Nat) (e:En),es[k]? =some e->∀i,p=some i->i<e.idx:=by
 induction es generalizing p with
 |nil=>intro k e hk;simp at hk
 |cons d es ih=>
  intro k e hk i hp;have h1:i<d.idx:=by
   have:=h.1;subst hp;simp[leP]at this;exact this
  cases k with
  |zero=>simp at hk;subst hk;exact h1
  |succ k=>
   have:=ih h.2 k e (by simpa using hk) d.idx rfl;omega
def Zus{es:List En}{p:Option Int}(h:Inc p es):∀(i j:Nat) (d e:En),i<j->es[i]? =some d->es[j]? =some e->d.idx<e.idx:=by
 induction es generalizing p with
 |nil=>intro i j d e _ hi;simp at hi
 |cons c es ih=>
  intro i j d e a hi hj
  cases i with
  |zero=>
   simp at hi;subst hi
   cases j with
   |zero=>omega
   |succ j=>exact Yqq h.2 j e (by simpa using hj) c.idx rfl
  |succ i=>
   cases j with
   |zero=>omega
   |succ j=>exact ih h.2 i j d e Qk (by simpa using hi) (by simpa using hj)
def Yqr{es:List En}{f:Nat->Rat}{i:Nat}(h:∀(k:Nat) (e:En),es[k]? =some e->e.idx≠(i:Int)):dQ es f i=f i:=by
 induction es generalizing f with
 |nil=>rfl
 |cons e es ih=>
  rw[dQ,ih λk d hd=>h (k+1) d (by simpa using hd),jA (h 0 e rfl)]
def Yhd{es:List En}{k:Nat}{e:En}(hinc:Inc none es)(he:es[k]? =some e){f:Nat->Rat}{i:Nat}(hi:e.idx=(i:Int)):dQ (es.take k) f i=f i:=by
 apply Yqr;intro j d hd;rw[iZ]at hd;split at hd
 ·rename_i hj
  have:=Zus hinc j k d e hj hd he;omega
 ·cases hd
end Pl
namespace Pl
def Xq(f g:Nat->Rat)(n:Nat):ZF (λi=>f i+g i) n=ZF f n+ZF g n:=by
 induction n with
 |zero=>simp[Yz,aN]
 |succ n ih=>rw[Zz,Zz,Zz,ih];grind
def Yq(c:Rat)(f:Nat->Rat)(n:Nat):ZF (λi=>c*f i) n=c*ZF f n:=by
 induction n with
 |zero=>simp[Yz,Rat.mul_zero]
 |succ n ih=>rw[Zz,Zz,ih];grind
def Xi(n:Nat):ZF (λ_=>0) n=0:=by
 induction n with
 |zero=>rfl
 |succ n ih=>rw[Zz,ih,aN]
def WE(f:Nat->Nat->Rat)(n m:Nat):ZF (λi=>ZF (λj=>f i j) m) n=ZF (λj=>ZF (λi=>f i j) n) m:=by
 induction n with
 |zero=>simp only[Yz];rw[Xi]
 |succ n ih=>
  rw[Zz,ih,<-Xq];rfl
def Zmb{f g:Nat->Rat}{n:Nat}(h:∀i,i<n->f i<=g i):ZF f n<=ZF g n:=by
 induction n with
 |zero=>exact aF
 |succ n ih=>
  have h1:=ih λi hi=>h i Qk
  have h2:=h n Qk;rw[Zz,Zz];grind
def Zrz{f:Nat->Rat}{n:Nat}(h:∀i,i<n->0<=f i):0<=ZF f n:=by
 have:=Zmb h
 rwa[Xi]at this
def XL{n k:Nat}(hk:k<n)(c:Rat):ZF (λi=>if i=k then c else 0) n=c:=by
 induction n with
 |zero=>omega
 |succ n ih=>
  rw[Zz];by_cases h:n=k
  ·subst h;rw[jB rfl,Zk (g:=λ_=>0) (λi hi=>jA Qk),Xi,Rat.zero_add]
  ·rw[jA h,ih Qk,aN]
def Ybg(ys:List RF)(f:Nat->Rat)(m:Nat):Rat:=ZF (λi=>qAt ys i*f i) m
def Zhr{ys:List RF}{f:Nat->Rat}{m:Nat}:Zxm ys (Yn m f) m=Ybg ys f m:=Zk λi hi=>by rw[YB hi]
def Zsa{es:List En}{ys:List RF}{m:Nat}(hin:inR m es)(hinc:Inc none es):∀k,k<=es.length->Zhp es ys k=Ybg ys (dQ (es.take k) λ_=>0) m:=by
 intro k
 induction k with
 |zero=>
  intro _;show 0=_;unfold Ybg;rw[Zk (g:=λ_=>0) (λi _=>by simp[dQ,Rat.mul_zero]),Xi]
 |succ k ih=>
  intro hk;obtain⟨e,he⟩:∃e,es[k]? =some e:=⟨es[k],JQ Qk⟩;obtain⟨h0,h1⟩:=hin k e he;obtain⟨d,hd⟩:=JT h0;have a:d<m:=Qk
  rw[Zhq he,ih Qk,Yne he];have hf:dQ (es.take k) (λ_=>0) d=0:=Yhd hinc he hd;have:Ybg ys (λi=>if e.idx=(i:Int)then e.f.q else dQ (es.take k) (λ_=>0) i) m=ZF (λi=>qAt ys i*dQ (es.take k) (λ_=>0) i+if i=d then qAt ys d*e.f.q else 0) m:=Zk λi _=>by
   show qAt ys i* (if e.idx=(i:Int)then e.f.q else dQ (es.take k) (λ_=>0) i)=_;by_cases hi:i=d
   ·subst hi;rw[jB hd,jB rfl,hf];grind
   ·rw[jA (show¬e.idx=(i:Int) by omega),jA hi,aN]
  rw[this,Xq,XL a];unfold Ybg;rw[hd,JP,aO e.f.q]
def Yhf(p:LPd)(ys:List RF)(k:Nat):Prop:=∀j,j<k->Ybg ys (p.col (j:Int)) p.right.length<=qAt p.cost j
instance(p:LPd)(ys:List RF)(k:Nat):Decidable (Yhf p ys k):=by unfold Yhf;infer_instance
def UE{q:Rat}:qs q<0↔q<0:=by
 have h:qs q<0↔q.num<0:=by unfold qs sgn;split <;> rename_i h <;> (try split) <;> omega
 rw[h,<-Rat.not_le,<-Rat.num_nonneg];omega
def UZ{q:Rat}:0<qs q↔0<q:=by
 have h:0<qs q↔0<q.num:=by unfold qs sgn;split <;> rename_i h <;> (try split) <;> omega
 have h2:q.num=0↔q=0:=BC;have h3:0<=q.num↔0<=q:=Rat.num_nonneg;rw[h];constructor
 ·intro g;have:q≠0:=λe=>by have:=h2.2 e;omega
  have:=h3.1 Qk;grind
 ·intro g;have h4:q.num≠0:=λe=>by have:=h2.1 e;grind
  have:=h3.2 (by grind);omega
def Ysy{q:Rat}:qs q<=0↔q<=0:=by
 have:=@UZ q;rw[<-fV,<-this];omega
def weak{p:LPd}{xs ys:List RF}(hlow:Yhf p ys p.cols.length)(hx:∀j,j<p.cols.length->0<=qAt xs j)(hr:∀i,i<p.right.length->Ua p xs p.cols.length i=qAt p.right i):
 Zxm ys p.right p.right.length<=Zxm p.cost xs p.cols.length:=by
 have h1:Zxm ys p.right p.right.length=ZF (λi=>ZF (λj=>qAt ys i* (qAt xs j*p.col (j:Int) i)) p.cols.length) p.right.length:=Zk λi hi=>by
  show qAt ys i*qAt p.right i=_;rw[<-hr i hi,Yq];rfl
 rw[h1,WE];refine Zmb λj hj=>?_
 have h2:ZF (λi=>qAt ys i* (qAt xs j*p.col (j:Int) i)) p.right.length=qAt xs j*Ybg ys (p.col (j:Int)) p.right.length:=by
  unfold Ybg;rw[<-Yq];exact Zk λi _=>by grind
 rw[h2,aO (qAt p.cost j)];exact Rat.mul_le_mul_of_nonneg_left (hlow j hj) (hx j hj)
end Pl
namespace Pl
def Zcw(f g:Nat->Rat)(n:Nat):ZF (λi=>f i - g i) n=ZF f n - ZF g n:=by
 induction n with
 |zero=>rw[Yz,Yz,Yz];grind
 |succ n ih=>rw[Zz,Zz,Zz,ih];grind
def XD{f:Nat->Rat}{n:Nat}(h:∀i,i<n->f i=0):ZF f n=0:=by
 rw[Zk h];exact Xi n
def Z5{f:Nat->Rat}{n k:Nat}(hk:k<n)(h:∀i,i<n->i≠k->f i=0):ZF f n=f k:=by
 rw[Zk (g:=λi=>if i=k then f k else 0) λi hi=>?_]
 ·exact XL hk (f k)
 ·by_cases e:i=k
  ·rw[jB e,e]
  ·rw[jA e,h i hi e]
def WX{f:Nat->Rat}{n m:Nat}(hm:n<=m)(h:∀i,n<=i->i<m->f i=0):ZF f m=ZF f n:=by
 induction m with
 |zero=>
  obtain rfl:n=0:=Qk
  rfl
 |succ m ih=>
  rcases JX n (m+1)with e|e
  ·rw[Zz,h m Qk Qk,ih Qk λi h1 h2=>h i h1 Qk];grind
  ·obtain rfl:n=m+1:=Qk
   rfl
def Zkg(m:Nat)(M:Mx)(y:Nat->Rat)(r:Nat):Rat:=ZF (λc=>M r c*y c) m
def Zgb(m:Nat)(M:Mx)(y:Nat->Rat):Prop:=∀r,r<m->Zkg m M y r=M r m
def Zkh(m k:Nat)(M:Mx):Prop:=∀r c,r<m->c<k->M r c=if r=c then 1 else 0
def Zov{m:Nat}{A B C:Mx}{y:Nat->Rat}{r s t:Nat}{a b:Rat}(h:∀c,c<m->A r c=a*B s c+b*C t c):Zkg m A y r=a*Zkg m B y s+b*Zkg m C y t:=by
 unfold Zkg;rw[<-Yq,<-Yq,<-Xq];exact Zk λc hc=>by rw[h c hc];grind
def Zgb.swap{m k t:Nat}{M:Mx}{y:Nat->Rat}(hk:k<m)(ht:t<m):Zgb m (swapM M k t) y↔Zgb m M y:=by
 have a:∀N:Mx,Zgb m N y->Zgb m (swapM N k t) y:=λN h r hr=>by
  unfold Zkg swapM;by_cases e1:r=k
  ·simp only[jB e1];exact h t ht
  ·by_cases e2:r=t
   ·simp only[jA e1,jB e2];exact h k hk
   ·simp only[jA e1,jA e2];exact h r hr
 refine⟨λh=>?_,a M⟩;have:=a _ h;have e:swapM (swapM M k t) k t=M:=by
  funext r c
  unfold swapM;by_cases e1:r=k
  ·subst e1;simp only[jB];by_cases e2:t=r
   ·subst e2;simp
   ·simp[e2]
  ·by_cases e2:r=t
   ·subst e2;simp[e1]
   ·simp[e1,e2]
 rwa[e]at this
def Zgb.scale{m k:Nat}{M:Mx}{y:Nat->Rat}{f:Rat}(hk:k<m)(hf:f≠0)(hz:∀c,c<k->M k c=0):Zgb m (scaleTo M k (m+1) f) y↔Zgb m M y:=by
 have d:∀r,r<m->r≠k->∀c,scaleTo M k (m+1) f r c=M r c:=λr _ hne c=>by unfold scaleTo;rw[jA Qk]
 have g:∀c,c<m+1->scaleTo M k (m+1) f k c=M k c/f:=λc hc=>by
  unfold scaleTo;by_cases e:k<=c
  ·rw[jB ⟨rfl,e,hc⟩]
  ·rw[jA Qk,hz c Qk];grind
 have hs:Zkg m (scaleTo M k (m+1) f) y k=Zkg m M y k/f:=by
  rw[Zov (B:=M) (C:=M) (s:=k) (t:=k) (a:=1/f) (b:=0) λc hc=>by rw[g c Qk];grind];grind
 constructor
 ·intro h r hr;by_cases e:r=k
  ·subst e;have:=h r hr;rw[hs,g m Qk]at this;have h2:Zkg m M y r/f*f=M r m/f*f:=by rw[this]
   rwa[kr hf,kr hf]at h2
  ·have:=h r hr;rw[d r hr e]at this;rw[<-this];unfold Zkg;exact Zk λc _=>by rw[d r hr e]
 ·intro h r hr;by_cases e:r=k
  ·subst e;rw[hs,g m Qk,h r hr]
  ·rw[d r hr e,<-h r hr];unfold Zkg;exact Zk λc _=>by rw[d r hr e]
def Zgb.elim{m k:Nat}{M:Mx}{y:Nat->Rat}(hk:k<m)(hz:∀c,c<k->M k c=0):Zgb m (XQ M k m m) y↔Zgb m M y:=by
 have d:∀c,XQ M k m m k c=M k c:=λc=>Zhl c
 have f:∀r,r<m->r≠k->∀c,c<=m->XQ M k m m r c=M r c - M r k*M k c:=λr hr hne c hc=>by
  unfold XQ;by_cases e:k<=c
  ·rw[jB ⟨hne,hr,e,hc⟩]
  ·rw[jA Qk,hz c Qk];grind
 have hs:∀r,r<m->r≠k->Zkg m (XQ M k m m) y r=Zkg m M y r - M r k*Zkg m M y k:=λr hr hne=>by
  rw[Zov (B:=M) (C:=M) (s:=r) (t:=k) (a:=1) (b:= -(M r k)) λc hc=>by rw[f r hr hne c Qk];grind];grind
 have g:Zkg m (XQ M k m m) y k=Zkg m M y k:=Zk λc _=>by rw[d]
 constructor
 ·intro h;have h0:Zkg m M y k=M k m:=by rw[<-g,h k hk,d]
  intro r hr;by_cases e:r=k
  ·subst e;exact h0
  ·have:=h r hr;rw[hs r hr e,f r hr e m (JY _),h0]at this;grind
 ·intro h r hr;by_cases e:r=k
  ·subst e;rw[g,d];exact h r hr
  ·rw[hs r hr e,f r hr e m (JY _),h r hr,h k hk]
def Zxr{m k:Nat}{M M':Mx}(hk:k<m)(hu:Zkh m k M)(e:UW M k m=some M'):Zkh m (k+1) M'/\∀y,Zgb m M' y↔Zgb m M y:=by
 unfold UW at e
 cases hf:Zlw M k m with
 |none=>rw[hf]at e;cases e
 |some t=>
  rw[hf]at e;injection e with e;obtain⟨h1,h2,h3⟩:=Zlx hf;have hS:∀c,swapM M k t k c=M t c:=λc=>by unfold swapM;rw[jB rfl]
  have hp:swapM M k t k k≠0:=by rw[hS];exact h3
  have us:Zkh m k (swapM M k t):=λr c hr hc=>by
   unfold swapM;by_cases e1:r=k
   ·rw[jB e1,hu t c h2 hc,jA Qk,jA Qk]
   ·rw[jA e1];by_cases e2:r=t
    ·rw[jB e2,hu k c hk hc,jA Qk,jA Qk]
    ·rw[jA e2];exact hu r c hr hc
  have hz:∀c,c<k->swapM M k t k c=0:=λc hc=>by rw[us k c hk hc,jA Qk]
  have d:∀y,Zgb m (swapM M k t) y↔Zgb m M y:=λy=>Zgb.swap hk h2
  generalize swapM M k t=N at *;obtain⟨f,b⟩:∃f,N k k=f:=⟨_,rfl⟩;rw[b]at hp e;have g:∀c,c<k->scaleTo N k (m+1) f k c=0:=λc hc=>by unfold scaleTo;rw[jA Qk];exact hz c hc
  have a:scaleTo N k (m+1) f k k=1:=by
   unfold scaleTo;rw[jB ⟨rfl,JY _,Qk⟩,b];rw[vE];exact Rat.mul_inv_cancel f hp
  have u2:Zkh m k (scaleTo N k (m+1) f):=λr c hr hc=>by
   unfold scaleTo;rw[jA Qk];exact us r c hr hc
  have h:∀y,Zgb m (scaleTo N k (m+1) f) y↔Zgb m N y:=λy=>Zgb.scale hk hp hz
  generalize scaleTo N k (m+1) f=Q at *;subst e;refine⟨λr c hr hc=>?_,λy=>(Zgb.elim hk g).trans ((h y).trans (d y))⟩;by_cases ec:c=k
  ·subst ec;by_cases er:r=c
   ·subst er;rw[Zhl,a,jB rfl]
   ·unfold XQ;rw[jB ⟨er,hr,JY _,Qk⟩,a,jA er];grind
  ·unfold XQ;rw[jA Qk];exact u2 r c hr Qk
def Ybh{m:Nat}{M:Mx}:∀{k:Nat} {M':Mx},k<=m->gj M m k=some M'->Zkh m k M'/\∀y,Zgb m M' y↔Zgb m M y
 |0,M',_,e=>by
  unfold gj at e
  injection e with e
  subst e
  exact⟨λr c _ hc=>Qk,λy=>Iff.rfl⟩
 |k+1,M',hk,e=>by
  unfold gj at e
  cases hg:gj M m k with
  |none=>rw[hg]at e;cases e
  |some N=>
   rw[hg]at e
   obtain⟨h1,h2⟩:=Ybh Qk hg
   obtain⟨h3,h4⟩:=Zxr Qk h1 e
   exact⟨h3,λy=>(h4 y).trans (h2 y)⟩
def Yhg{m:Nat}{M:Mx}(hu:Zkh m m M)(y:Nat->Rat):Zgb m M y↔∀r,r<m->y r=M r m:=by
 have a:∀r,r<m->Zkg m M y r=y r:=λr hr=>by
  unfold Zkg;rw[Z5 hr λi hi hne=>by rw[hu r i hr hi,jA (λe=>hne e.symm)];grind,hu r r hr hr,jB rfl];grind
 exact⟨λh r hr=>by rw[<-a r hr];exact h r hr,λh r hr=>by rw[a r hr];exact h r hr⟩
def mulC(m:Nat)(cols:Mx)(y:Nat->Rat)(r:Nat):Rat:=ZF (λc=>cols c r*y c) m
def Ybi{m:Nat}{cols:Mx}{b y:Nat->Rat}:Zgb m (Zns m cols b) y↔∀r,r<m->mulC m cols y r=b r:=by
 have d:∀r,Zkg m (Zns m cols b) y r=mulC m cols y r:=λr=>Zk λc hc=>by unfold Zns;rw[jB hc]
 have a:∀r,Zns m cols b r m=b r:=λr=>by unfold Zns;rw[jA Qk]
 exact⟨λh r hr=>by rw[<-d,h r hr,a],λh r hr=>by rw[d,h r hr,a]⟩
def Vg{m:Nat}{cols:Mx}{b x:Nat->Rat}(h:XC m cols b=some x)(y:Nat->Rat):(∀r,r<m->mulC m cols y r=b r)↔∀k,k<m->y k=x k:=by
 unfold XC at h
 cases hg:gj (Zns m cols b) m m with
 |none=>rw[hg]at h;cases h
 |some M=>
  rw[hg]at h;injection h with h;subst h;obtain⟨h1,h2⟩:=Ybh (JY m) hg;rw[<-Ybi,<-h2 y,Yhg h1]
def Ybj(m:Nat)(cols:Mx)(r:Nat):mulC m cols (λ_=>0) r=0:=XD λc _=>by grind
def Xr(m:Nat)(cols:Mx):Prop:=∀y:Nat->Rat,(∀r,r<m->mulC m cols y r=0)->∀k,k<m->y k=0
def Zmc{m:Nat}{cols:Mx}{b x:Nat->Rat}(h:XC m cols b=some x):Xr m cols:=by
 have hs:=Zhm (m:=m) (cols:=cols) b λ_=>0
 rw[h]at hs;obtain⟨z,hz⟩:=Option.isSome_iff_exists.1 hs.symm;have h0:=(Vg hz λ_=>0).1 λr _=>Ybj m cols r
 intro y hy k hk;rw[(Vg hz y).1 hy k hk,<-h0 k hk]
def Zmd{m k:Nat}{M M':Mx}(h:∀r,r<m->M r m=0)(hk:k<m)(e:UW M k m=some M'):∀r,r<m->M' r m=0:=by
 unfold UW at e
 cases hf:Zlw M k m with
 |none=>rw[hf]at e;cases e
 |some t=>
  rw[hf]at e;injection e with e;obtain⟨h1,h2,h3⟩:=Zlx hf;have hs:∀r,r<m->swapM M k t r m=0:=λr hr=>by
   unfold swapM;split
   ·exact h t h2
   ·split
    ·exact h k hk
    ·exact h r hr
  generalize swapM M k t=N at *;have hc:∀r,r<m->scaleTo N k (m+1) (N k k) r m=0:=λr hr=>by
   unfold scaleTo;split
   ·rw[hs r hr];grind
   ·exact hs r hr
  generalize scaleTo N k (m+1) (N k k)=Q at *;subst e;intro r hr;unfold XQ;split
  ·rw[hc r hr,hc k hk];grind
  ·exact hc r hr
def Ybk{m:Nat}{M:Mx}(h:∀r,r<m->M r m=0):∀{k:Nat} {M':Mx},k<=m->gj M m k=some M'->∀r,r<m->M' r m=0
 |0,M',_,e=>by unfold gj at e;injection e with e;subst e;exact h
 |k+1,M',hk,e=>by
  unfold gj at e
  cases hg:gj M m k with
  |none=>rw[hg]at e;cases e
  |some N=>rw[hg]at e;exact Zmd (Ybk h Qk hg) Qk e
def Ybl{m:Nat}{M:Mx}:∀{n:Nat},n<=m->gj M m n=none->∃k N,k<n/\gj M m k=some N/\Zlw N k m=none
 |0,_,e=>by unfold gj at e;cases e
 |n+1,hn,e=>by
  cases hg:gj M m n with
  |none=>
   obtain⟨k,N,h1,h2,h3⟩:=Ybl Qk hg
   exact⟨k,N,Qk,h2,h3⟩
  |some N=>
   refine⟨n,N,Qk,hg,?_⟩
   unfold gj at e
   rw[hg]at e
   simp only at e
   unfold UW at e
   cases hf:Zlw N n m with
   |none=>rfl
   |some t=>rw[hf]at e;cases e
def Zsb{m:Nat}{cols:Mx}{b:Nat->Rat}(h:XC m cols b=none):¬Xr m cols:=by
 have hs:=Zhm (m:=m) (cols:=cols) b λ_=>0
 rw[h]at hs;have h0:XC m cols (λ_=>0)=none:=by
  cases e:XC m cols (λ_=>0)with
  |none=>rfl
  |some x=>rw[e]at hs;cases hs
 unfold XC at h0;have hg:gj (Zns m cols λ_=>0) m m=none:=by
  cases e:gj (Zns m cols λ_=>0) m m with
  |none=>rfl
  |some x=>rw[e]at h0;cases h0
 obtain⟨k,N,hk,hN,hf⟩:=Ybl (JY m) hg;obtain⟨h1,h2⟩:=Ybh Qk hN;have hz:=Zxk hf;have hr:=Ybk (λr _=>by unfold Zns;rw[jA Qk]) Qk hN;intro hi;have hy:Zgb m N (λc=>if c<k then -(N c k)else if c=k then 1 else 0):=λr hrm=>by
  rw[hr r hrm];show ZF (λc=>N r c* (if c<k then -(N c k)else if c=k then 1 else 0)) m=0;rw[WX (n:=k+1) Qk λi i1 i2=>by rw[jA Qk,jA Qk];grind,Zz,jA (Nat.lt_irrefl k),jB rfl];rcases JX r k with hrk|hrk
  ·rw[Z5 hrk λi hi2 hne=>by rw[h1 r i hrm hi2,jA (λe=>hne e.symm)];grind,h1 r r hrm hrk,jB rfl,jB hrk];grind
  ·rw[XD λi hi2=>by rw[h1 r i hrm hi2,jA Qk];grind,hz r hrk hrm];grind
 have:=hi _ (Ybi.1 ((h2 _).1 hy)) k hk;simp at this
def X6{m:Nat}{cols:Mx}(h:Xr m cols)(b:Nat->Rat):∃x,XC m cols b=some x:=by
 cases e:XC m cols b with
 |none=>exact absurd h (Zsb e)
 |some x=>exact⟨x,rfl⟩
def Zcx{m:Nat}{cols:Mx}{b x:Nat->Rat}(hi:Xr m cols)(hx:∀r,r<m->mulC m cols x r=b r):∃z,XC m cols b=some z/\∀k,k<m->z k=x k:=by
 obtain⟨z,hz⟩:=X6 hi b;exact⟨z,hz,λk hk=>((Vg hz x).1 hx k hk).symm⟩
end Pl
namespace Pl
def pigeon:∀(m n:Nat) (f:Nat->Nat),m<n->(∀k,k<n->f k<m)->∃i j,i<j/\j<n/\f i=f j
 |0,n,f,h,hf=>absurd (hf 0 Qk) Qk
 |m+1,n,f,h,hf=>by
  by_cases hk:∃k,k<n/\f k=m
  ·obtain⟨k,hkn,hfk⟩:=hk
   by_cases h2:∃l,l<n/\l≠k/\f l=m
   ·obtain⟨l,hl,hne,hfl⟩:=h2
    rcases JX l k with e|e
    ·exact⟨l,k,e,hkn,by rw[hfl,hfk]⟩
    ·exact⟨k,l,Qk,hl,by rw[hfl,hfk]⟩
   ·obtain⟨i,j,hij,hj,he⟩:=pigeon m (n - 1) (λi=>if i<k then f i else f (i+1)) Qk λi hi=>by
     by_cases e:i<k
     ·simp only[jB e]
      have:=hf i Qk
      have:f i≠m:=λe'=>h2 ⟨i,Qk,Qk,e'⟩
      omega
     ·simp only[jA e]
      have:=hf (i+1) Qk
      have:f (i+1)≠m:=λe'=>h2 ⟨i+1,Qk,Qk,e'⟩
      omega
    by_cases e1:i<k
    ·by_cases e2:j<k
     ·exact⟨i,j,hij,Qk,by simpa only[jB e1,jB e2]using he⟩
     ·exact⟨i,j+1,Qk,Qk,by simpa only[jB e1,jA e2]using he⟩
    ·exact⟨i+1,j+1,Qk,Qk,by simpa only[jA e1,jA (show¬j<k by omega)]using he⟩
  ·exact pigeon m n f Qk λk hkn=>by
    have:=hf k hkn
    have:f k≠m:=λe=>hk ⟨k,hkn,e⟩
    omega
def Inj(n t:Nat)(F:Nat->Nat):Prop:=(∀s,s<t->F s<n)/\∀s u,s<u->u<t->F s≠F u
def Inj.eq{n t:Nat}{F:Nat->Nat}(h:Inj n t F){s u:Nat}(hs:s<t)(hu:u<t)(e:F s=F u):s=u:=by
 rcases kF s u with g|g|g
 ·exact absurd e (h.2 s u g hu)
 ·exact g
 ·exact absurd e.symm (h.2 u s g hs)
def Inj.onto{n:Nat}{F:Nat->Nat}(h:Inj n n F){i:Nat}(hi:i<n):∃s,s<n/\F s=i:=by
 by_cases e:∃s,s<n/\F s=i
 ·exact e
 ·exfalso;obtain⟨a,b,c,hb,he⟩:=pigeon n (n+1) (λs=>if s<n then F s else i) Qk λk _=>by
   by_cases e':k<n
   ·simp only[jB e'];exact h.1 k e'
   ·simp only[jA e'];exact hi
  by_cases e1:b<n
  ·exact h.2 a b c e1 (by simpa only[jB (show a<n by omega),jB e1]using he)
  ·exact e ⟨a,Qk,by simpa only[jB (show a<n by omega),jA e1]using he⟩
def Inj.free{n t:Nat}{F:Nat->Nat}(_h:Inj n t F)(ht:t<n):∃i,i<n/\∀s,s<t->F s≠i:=by
 by_cases e:∃i,i<n/\∀s,s<t->F s≠i
 ·exact e
 ·exfalso;have c:∀i,i<n->∃s,s<t/\F s=i:=λi hi=>by
   by_cases e':∃s,s<t/\F s=i
   ·exact e'
   ·exact absurd ⟨i,hi,λs hs he=>e' ⟨s,hs,he⟩⟩ e
  obtain⟨a,b,d,hb,he⟩:=pigeon t n (λi=>if hi:i<n then(c i hi).choose else 0) ht λk hk=>by
   simp only[dif_pos hk];exact(c k hk).choose_spec.1
  simp only[dif_pos (show a<n by omega),dif_pos hb]at he;have h1:=(c a Qk).choose_spec.2;have h2:=(c b hb).choose_spec.2;rw[he]at h1;omega
def Vp{n:Nat}{F:Nat->Nat}(h:Inj n n F)(f:Nat->Rat):ZF (λk=>f (F k)) n=ZF f n:=by
 have h1:ZF (λk=>f (F k)) n=ZF (λk=>ZF (λj=>if j=F k then f j else 0) n) n:=Zk λk hk=>by
  rw[Z5 (h.1 k hk) λi _ hne=>by rw[jA hne],jB rfl]
 rw[h1,WE];exact Zk λj hj=>by
  obtain⟨s,hs,he⟩:=h.onto hj;rw[Z5 hs λi hi hne=>jA λe=>hne (h.eq hi hs Qk),jB he.symm]
structure Zbr (n t:Nat) (A a:Mx) (R C:Nat->Nat) (m:Mx):Prop where
 ri:Inj n t R
 ci:Inj n t C
 m0:∀s q,s<t->q<=s->m s (R q)=0
 piv:∀s,s<t->a (R s) (C s)≠0
 e1:∀i j,i<n->j<n->(∀s,s<t->R s≠i)->(∀s,s<t->C s≠j)->A i j=ZF (λs=>m s i*a (R s) j) t+a i j
 e2:∀i q,i<n->q<t->(∀s,s<t->R s≠i)->A i (C q)=ZF (λs=>m s i*a (R s) (C q)) (q+1)
 e3:∀p j,p<t->j<n->(∀s,s<p->C s≠j)->A (R p) j=ZF (λs=>m s (R p)*a (R s) j) p+a (R p) j
 e4:∀p q,p<t->q<p->A (R p) (C q)=ZF (λs=>m s (R p)*a (R s) (C q)) (q+1)
def Zbr.start(n:Nat)(A:Mx)(R C:Nat->Nat)(m:Mx):Zbr n 0 A A R C m where
 ri:=⟨λs h=>absurd h Qk,λs u _ h=>absurd h Qk⟩
 ci:=⟨λs h=>absurd h Qk,λs u _ h=>absurd h Qk⟩
 m0:=λs q h=>absurd h Qk
 piv:=λs h=>absurd h Qk
 e1:=λi j _ _ _ _=>by rw[Yz];grind
 e2:=λi q _ h=>absurd h Qk
 e3:=λp j h=>absurd h Qk
 e4:=λp q h=>absurd h Qk
def Zbr.step{n t:Nat}{A a:Mx}{R C:Nat->Nat}{m:Mx}(h:Zbr n t A a R C m){r c:Nat}(hr:r<n)(hc:c<n)(hrf:∀s,s<t->R s≠r)(hcf:∀s,s<t->C s≠c)(hp:a r c≠0)
 {a' m':Mx} {R' C':Nat->Nat} (hR:∀s,s<t->R' s=R s) (hRt:R' t=r) (hC:∀s,s<t->C' s=C s) (hCt:C' t=c)
 (hm:∀s i,s<t->m' s i=m s i) (hmt:∀i,i<n->m' t i=if(∀s,s<t->R s≠i)/\i≠r then a i c/a r c else 0)
 (ha:∀i j,i<n->j<n->a' i j=if((∀s,s<t->R s≠i)/\i≠r)/\((∀s,s<t->C s≠j)/\j≠c)then a i j - m' t i*a r j else a i j):Zbr n (t+1) A a' R' C' m':=by
 have y:∀i,i<n->(∀s,s<t->R s≠i)->i≠r->m' t i*a r c=a i c:=λi hi h1 h2=>by
  rw[hmt i hi,jB ⟨h1,h2⟩];exact kr hp
 have l:∀s,s<t+1->R' s<n:=λs hs=>by
  rcases JX s t with e|e
  ·rw[hR s e];exact h.ri.1 s e
  ·obtain rfl:s=t:=Qk
   rw[hRt];exact hr
 have x:∀s,s<t+1->C' s<n:=λs hs=>by
  rcases JX s t with e|e
  ·rw[hC s e];exact h.ci.1 s e
  ·obtain rfl:s=t:=Qk
   rw[hCt];exact hc
 -- rows that are taken do not change any more
 have d:∀s j,s<t+1->j<n->a' (R' s) j=a (R' s) j:=λs j hs hj=>by
  rw[ha _ _ (l s hs) hj];refine jA λe=>?_
  rcases JX s t with g|g
  ·exact e.1.1 s g (hR s g).symm
  ·obtain rfl:s=t:=Qk
   exact e.1.2 hRt
 have f:∀i,(∀s,s<t+1->R' s≠i)->(∀s,s<t->R s≠i)/\i≠r:=λi hi=>⟨λs hs e=>hi s Qk (by rw[hR s hs];exact e),λe=>hi t Qk (by rw[hRt];exact e.symm)⟩
 have o:∀j,(∀s,s<t+1->C' s≠j)->(∀s,s<t->C s≠j)/\j≠c:=λj hj=>⟨λs hs e=>hj s Qk (by rw[hC s hs];exact e),λe=>hj t Qk (by rw[hCt];exact e.symm)⟩
 have b:∀i j k,k<=t->j<n->ZF (λs=>m' s i*a' (R' s) j) k=ZF (λs=>m s i*a (R s) j) k:=λi j k hk hj=>Zk λs hs=>by
  rw[hm s i Qk,d s j Qk hj,hR s Qk]
 refine⟨⟨l,λs u hsu hu=>?_⟩,⟨x,λs u hsu hu=>?_⟩,λs q hs hq=>?_,λs hs=>?_,λi j hi hj h1 h2=>?_,λi q hi hq h1=>?_,λp j hp' hj h1=>?_,λp q hp' hq=>?_⟩
 ·rw[hR s Qk];rcases JX u t with e|e
  ·rw[hR u e];exact h.ri.2 s u hsu e
  ·obtain rfl:u=t:=Qk
   rw[hRt];exact hrf s hsu
 ·rw[hC s Qk];rcases JX u t with e|e
  ·rw[hC u e];exact h.ci.2 s u hsu e
  ·obtain rfl:u=t:=Qk
   rw[hCt];exact hcf s hsu
 ·rcases JX s t with e|e
  ·rw[hm s _ e,hR q Qk];exact h.m0 s q e hq
  ·obtain rfl:s=t:=Qk
   rw[hmt _ (l q Qk)];refine jA λe=>?_
   rcases JX q s with g|g
   ·exact e.1 q g (hR q g).symm
   ·obtain rfl:q=s:=Qk
    exact e.2 hRt
 ·rw[d s _ hs (x s hs)];rcases JX s t with e|e
  ·rw[hR s e,hC s e];exact h.piv s e
  ·obtain rfl:s=t:=Qk
   rw[hRt,hCt];exact hp
 ·obtain⟨i1,i2⟩:=f i h1;obtain⟨j1,j2⟩:=o j h2;rw[Zz,b i j t (JY _) hj,d t j Qk hj,hRt,ha i j hi hj,jB ⟨⟨i1,i2⟩,⟨j1,j2⟩⟩,h.e1 i j hi hj i1 j1];grind
 ·obtain⟨i1,i2⟩:=f i h1;rcases JX q t with e|e
  ·rw[hC q e,b i _ (q+1) Qk (h.ci.1 q e)];exact h.e2 i q hi e i1
  ·obtain rfl:q=t:=Qk
   rw[hCt,Zz,b i c q (JY _) hc,d q c Qk hc,hRt,y i hi i1 i2,h.e1 i c hi hc i1 hcf]
 ·have z:=l p hp';rcases JX p t with e|e
  ·rw[d p j hp' hj,b _ j p Qk hj,hR p e];exact h.e3 p j e hj λs hs=>by have:=h1 s hs;rwa[hC s Qk]at this
  ·obtain rfl:p=t:=Qk
   rw[d p j hp' hj,b _ j p (JY _) hj,hRt];exact h.e1 r j hr hj hrf λs hs=>by have:=h1 s hs;rwa[hC s hs]at this
 ·have v:q<t:=Qk
  rw[hC q v,b _ _ (q+1) Qk (h.ci.1 q v)];rcases JX p t with e|e
  ·rw[hR p e];exact h.e4 p q e hq
  ·obtain rfl:p=t:=Qk
   rw[hRt];exact h.e2 r q hr v hrf
def luL(R:Nat->Nat)(m:Mx):Mx:=λt p=>if p=t then 1 else if t<p then m t (R p)else 0
def luU(R C:Nat->Nat)(a:Mx):Mx:=λk s=>if s<=k then a (R s) (C k)else 0
structure Zgc (n:Nat) (A:Mx) (R C:Nat->Nat) (L U:Mx):Prop where
 ri:Inj n n R
 ci:Inj n n C
 l0:∀t p,t<n->p<n->p<t->L t p=0
 l1:∀t,t<n->L t t=1
 u0:∀k s,k<n->s<n->k<s->U k s=0
 u1:∀k,k<n->U k k≠0
 eq:∀p k,p<n->k<n->A (R p) (C k)=ZF (λs=>L s p*U k s) n
def Zbr.fac{n:Nat}{A a:Mx}{R C:Nat->Nat}{m:Mx}(h:Zbr n n A a R C m):Zgc n A R C (luL R m) (luU R C a) where
 ri:=h.ri
 ci:=h.ci
 l0:=λt p _ _ hpt=>by unfold luL;rw[jA Qk,jA Qk]
 l1:=λt _=>by unfold luL;rw[jB rfl]
 u0:=λk s _ _ hks=>by unfold luU;rw[jA Qk]
 u1:=λk hk=>by unfold luU;rw[jB (JY _)];exact h.piv k hk
 eq:=λp k hp hk=>by
  rcases JX k p with e|e
  ·rw[h.e4 p k hp e,WX (n:=k+1) (m:=n) Qk λi h1 h2=>by unfold luU;rw[jA Qk];grind]
   exact Zk λs hs=>by unfold luL luU;rw[jA Qk,jB Qk,jB Qk]
  ·rw[h.e3 p (C k) hp (h.ci.1 k hk) λs hs=>h.ci.2 s k Qk hk,WX (n:=p+1) (m:=n) Qk λi h1 h2=>by unfold luL;rw[jA Qk,jA Qk];grind,Zz]
   have e2:luL R m p p*luU R C a k p=a (R p) (C k):=by unfold luL luU;rw[jB rfl,jB e];grind
   rw[e2,Zk (f:=λs=>luL R m s p*luU R C a k s) (g:=λs=>m s (R p)*a (R s) (C k)) λs hs=>by unfold luL luU;rw[jA Qk,jB Qk,jB Qk]]
def trM(A:Mx):Mx:=λc r=>A r c
def U2{n m:Nat}{f g:Nat->Rat}{h:Nat->Nat->Rat}(e:∀j,j<n->f j=ZF (λs=>g s*h s j) m)(y:Nat->Rat):ZF (λj=>f j*y j) n=ZF (λs=>g s*ZF (λj=>h s j*y j) n) m:=by
 rw[Zk (g:=λj=>ZF (λs=>g s* (h s j*y j)) m) λj hj=>by
  rw[e j hj,aO,<-Yq];exact Zk λs _=>by grind]
 rw[WE];exact Zk λs _=>Yq _ _ _
def Zbr.dep{n t:Nat}{A a:Mx}{R C:Nat->Nat}{m:Mx}(h:Zbr n t A a R C m)(ht:t<n)(hz:∀i j,i<n->j<n->(∀s,s<t->R s≠i)->(∀s,s<t->C s≠j)->a i j=0):¬Xr n (trM A):=by
 obtain⟨j0,H,l⟩:=h.ci.free ht
 -- row s of the triangle,with the columns that were taken before it left out
 have hw:∃W:Mx,(∀s j,(∀u,u<s->C u≠j)->W s j=a (R s) j)/\∀s u,u<s->W s (C u)=0:=by
  refine⟨λs j=>if∀u,u<s->C u≠j then a (R s) j else 0,λs j hs=>jB hs,λs u hu=>jA λg=>g u hu rfl⟩
 obtain⟨W,d,o⟩:=hw;have F:∀k,k<=t->∃y:Nat->Rat,y j0=1/\(∀s,s<t - k->y (C s)=0)/\∀s,t - k<=s->s<t->ZF (λj=>W s j*y j) n=0:=by
  intro k
  induction k with
  |zero=>exact λ_=>⟨λj=>if j=j0 then 1 else 0,jB rfl,λs hs=>jA λe=>l s Qk e,λs h1 h2=>Qk⟩
  |succ k ih=>
   intro hk;obtain⟨y,y1,y2,y3⟩:=ih Qk;obtain⟨s0,I⟩:∃s0,s0+1=t - k:=⟨t - k - 1,Qk⟩;have b:s0<t:=Qk;have G:=h.ci.1 s0 b;obtain⟨q,hq⟩:∃q,q= -(ZF (λj=>W s0 j*y j) n)/a (R s0) (C s0):=⟨_,rfl⟩;have x:∀s,ZF (λj=>W s j* (if j=C s0 then q else y j)) n=ZF (λj=>W s j*y j) n+W s (C s0)* (q - y (C s0)):=λs=>by
    have e:ZF (λj=>W s j* (if j=C s0 then q else y j)) n=ZF (λj=>W s j*y j+(if j=C s0 then W s (C s0)* (q - y (C s0))else 0)) n:=Zk λj _=>by
     by_cases e:j=C s0
     ·rw[jB e,jB e,e];grind
     ·rw[jA e,jA e];grind
    rw[e,Xq,XL G]
   refine⟨λj=>if j=C s0 then q else y j,?_,λs hs=>?_,λs h1 h2=>?_⟩
   ·show(if j0=C s0 then q else y j0)=1;rw[jA λe=>l s0 b e.symm];exact y1
   ·show(if C s=C s0 then q else y (C s))=0;rw[jA (h.ci.2 s s0 Qk b)];exact y2 s Qk
   ·rw[x s];rcases JX s0 s with e|e
    ·rw[o s s0 e,y3 s Qk h2];grind
    ·obtain rfl:s=s0:=Qk
     rw[d s (C s) λu hu=>h.ci.2 u s hu b,y2 s Qk,hq];have hp:=h.piv s b;have e2: -(ZF (λj=>W s j*y j) n)/a (R s) (C s)*a (R s) (C s)= -(ZF (λj=>W s j*y j) n):=kr hp;grind
 obtain⟨y,y1,_,y3⟩:=F t (JY _);have hy:∀s,s<t->ZF (λj=>W s j*y j) n=0:=λs hs=>y3 s Qk hs
 intro hi;have z:∀r,r<n->mulC n (trM A) y r=0:=λr hr=>by
  show ZF (λc=>A r c*y c) n=0;by_cases hp:∃p,p<t/\R p=r
  ·obtain⟨p,B,rfl⟩:=hp;have e:∀j,j<n->A (R p) j=ZF (λs=>(if s=p then 1 else m s (R p))*W s j) (p+1):=λj hj=>by
    rw[Zz,jB rfl];have e0:ZF (λs=>(if s=p then 1 else m s (R p))*W s j) p=ZF (λs=>m s (R p)*W s j) p:=Zk λs hs=>by rw[jA Qk]
    rw[e0];by_cases hq:∃q,q<p/\C q=j
    ·obtain⟨q,D,rfl⟩:=hq;rw[o p q D,h.e4 p q B D,WX (f:=λs=>m s (R p)*W s (C q)) (n:=q+1) (m:=p) Qk λs h1 h2=>by rw[o s q Qk];grind];have e1:ZF (λs=>m s (R p)*a (R s) (C q)) (q+1)=ZF (λs=>m s (R p)*W s (C q)) (q+1):=Zk λs hs=>by rw[d s (C q) λu hu=>h.ci.2 u q Qk Qk]
     rw[e1];grind
    ·have hn:∀u,u<p->C u≠j:=λu hu e=>hq ⟨u,hu,e⟩
     rw[h.e3 p j B hj hn,d p j hn];have e1:ZF (λs=>m s (R p)*a (R s) j) p=ZF (λs=>m s (R p)*W s j) p:=Zk λs hs=>by rw[d s j λu hu=>hn u Qk]
     rw[e1];grind
   rw[U2 e];exact XD λs hs=>by rw[hy s Qk];grind
  ·have v:∀s,s<t->R s≠r:=λs hs e=>hp ⟨s,hs,e⟩
   have e:∀j,j<n->A r j=ZF (λs=>m s r*W s j) t:=λj hj=>by
    by_cases hq:∃q,q<t/\C q=j
    ·obtain⟨q,E,rfl⟩:=hq;rw[h.e2 r q hr E v,WX (f:=λs=>m s r*W s (C q)) (n:=q+1) (m:=t) Qk λs h1 h2=>by rw[o s q Qk];grind];exact Zk λs hs=>by rw[d s (C q) λu hu=>h.ci.2 u q Qk E]
    ·have hn:∀u,u<t->C u≠j:=λu hu e=>hq ⟨u,hu,e⟩
     rw[h.e1 r j hr hj v hn,hz r j hr hj v hn];have e1:ZF (λs=>m s r*a (R s) j) t=ZF (λs=>m s r*W s j) t:=Zk λs hs=>by rw[d s j λu hu=>hn u Qk]
     rw[e1];grind
   rw[U2 e];exact XD λs hs=>by rw[hy s hs];grind
 have:=hi y z j0 H;rw[y1]at this;exact absurd this Ql
def Zxs{n:Nat}{L:Mx}(h0:∀t p,t<n->p<n->p<t->L t p=0)(h1:∀t,t<n->L t t=1){z:Nat->Rat}(hz:∀p,p<n->ZF (λs=>L s p*z s) n=0):∀p,p<n->z p=0:=by
 intro p
 induction p using Nat.strongRecOn with
 |_ p ih=>
  intro hp;have:=hz p hp;rw[Z5 hp λi hi hne=>by
   rcases JX i p with e|e
   ·rw[ih i e hi];grind
   ·rw[h0 i p hi hp Qk];grind,h1 p hp]at this
  grind
def Zxt{n:Nat}{U:Mx}(h0:∀k s,k<n->s<n->k<s->U k s=0)(h1:∀k,k<n->U k k≠0){w:Nat->Rat}(hw:∀s,s<n->ZF (λk=>U k s*w k) n=0):∀k,k<n->w k=0:=by
 have a:∀d k,k+d+1=n->w k=0:=by
  intro d
  induction d using Nat.strongRecOn with
  |_ d ih=>
   intro k hk;have:=hw k Qk;rw[Z5 (show k<n by omega) λi hi hne=>by
    rcases JX i k with e|e
    ·rw[h0 i k hi Qk e];grind
    ·rw[ih (n - 1 - i) Qk i Qk];grind]at this
   rcases Rat.mul_eq_zero.1 this with e|e
   ·exact absurd e (h1 k Qk)
   ·exact e
 exact λk hk=>a (n - 1 - k) k Qk
def Zgc.solve{n:Nat}{A:Mx}{R C:Nat->Nat}{L U:Mx}(h:Zgc n A R C L U){b z x:Nat->Rat}(hz:∀p,p<n->ZF (λs=>L s p*z s) n=b (R p))(hx:∀s,s<n->ZF (λk=>U k s*x (C k)) n=z s):∀r,r<n->mulC n (trM A) x r=b r:=by
 intro r hr;obtain⟨p,hp,rfl⟩:=h.ri.onto hr;show ZF (λc=>A (R p) c*x c) n=b (R p);rw[<-Vp h.ci (λc=>A (R p) c*x c),U2 (f:=λk=>A (R p) (C k)) (g:=λs=>L s p) (h:=λs k=>U k s) (m:=n) (λk hk=>h.eq p k hp hk) (λk=>x (C k)),<-hz p hp];exact Zk λs hs=>by rw[hx s hs]
def Zgc.solveT{n:Nat}{A:Mx}{R C:Nat->Nat}{L U:Mx}(h:Zgc n A R C L U){d v y:Nat->Rat}(hv:∀k,k<n->ZF (λs=>U k s*v s) n=d (C k))(hy:∀s,s<n->ZF (λp=>L s p*y (R p)) n=v s):∀c,c<n->mulC n A y c=d c:=by
 intro c hc;obtain⟨k,hk,rfl⟩:=h.ci.onto hc;show ZF (λr=>A r (C k)*y r) n=d (C k);rw[<-Vp h.ri (λr=>A r (C k)*y r),U2 (f:=λp=>A (R p) (C k)) (g:=λs=>U k s) (h:=λs p=>L s p) (m:=n) (λp hp=>by rw[h.eq p k hp hk];exact Zk λs _=>by grind) (λp=>y (R p)),<-hv k hk];exact Zk λs hs=>by rw[hy s hs]
def Zgc.indep{n:Nat}{A:Mx}{R C:Nat->Nat}{L U:Mx}(h:Zgc n A R C L U):Xr n (trM A):=by
 intro y hy;have h1:∀p,p<n->ZF (λs=>L s p*ZF (λk=>U k s*y (C k)) n) n=0:=λp hp=>by
  rw[<-U2 (f:=λk=>A (R p) (C k)) (g:=λs=>L s p) (h:=λs k=>U k s) (m:=n) (λk hk=>h.eq p k hp hk) (λk=>y (C k)),Vp h.ci (λc=>A (R p) c*y c)];exact hy (R p) (h.ri.1 p hp)
 have h2:=Zxs h.l0 h.l1 h1;have h3:=Zxt h.u0 h.u1 (w:=λk=>y (C k)) h2;intro c hc;obtain⟨k,hk,rfl⟩:=h.ci.onto hc;exact h3 k hk
def Zee(cols:Mx)(k:Nat)(v:Nat->Rat):Mx:=λc=>if c=k then v else cols c
def Zme{n k:Nat}{cols:Mx}{v im x c:Nat->Rat}(hk:k<n)(him:∀r,r<n->mulC n cols im r=v r)(h0:im k≠0)(hx:∀r,r<n->mulC n cols x r=c r){x':Nat->Rat}(hxk:x' k=x k/im k)(hxi:∀i,i<n->i≠k->x' i=x i - im i*x' k):
 ∀r,r<n->mulC n (Zee cols k v) x' r=c r:=by
 intro r hr;have hd:x' k*im k=x k:=by rw[hxk];exact kr h0
 have e:mulC n (Zee cols k v) x' r=ZF (λi=>cols i r*x i - x' k* (cols i r*im i)+(if i=k then v r*x' k else 0)) n:=Zk λi hi=>by
  unfold Zee;by_cases e:i=k
  ·subst e;rw[jB rfl,jB rfl];grind
  ·rw[jA e,jA e,hxi i hi e];grind
 rw[e,Xq,Zcw,Yq,XL hk];have h1:ZF (λi=>cols i r*x i) n=c r:=hx r hr;have h2:ZF (λi=>cols i r*im i) n=v r:=him r hr;rw[h1,h2];grind
def Zhs{n k:Nat}{cols:Mx}{v im:Nat->Rat}(hk:k<n)(hi:Xr n cols)(him:∀r,r<n->mulC n cols im r=v r)(h0:im k≠0):Xr n (Zee cols k v):=by
 intro y hy;have h1:∀r,r<n->mulC n cols (λi=>(if i=k then 0 else y i)+y k*im i) r=0:=λr hr=>by
  have e:mulC n cols (λi=>(if i=k then 0 else y i)+y k*im i) r=ZF (λi=>(Zee cols k v i r*y i - (if i=k then v r*y k else 0))+y k* (cols i r*im i)) n:=Zk λi _=>by
   unfold Zee;by_cases e:i=k
   ·subst e;simp only[jB];grind
   ·simp only[jA e];grind
  rw[e,Xq,Zcw,Yq,XL hk];have h2:ZF (λi=>Zee cols k v i r*y i) n=0:=hy r hr;have h3:ZF (λi=>cols i r*im i) n=v r:=him r hr;rw[h2,h3];grind
 have h2:=hi _ h1;have h3:y k=0:=by
  have:=h2 k hk;simp only[jB]at this;have e:y k*im k=0:=by grind
  rcases Rat.mul_eq_zero.1 e with g|g
  ·exact g
  ·exact absurd g h0
 intro i a;by_cases e:i=k
 ·rw[e];exact h3
 ·have:=h2 i a;simp only[jA e,h3]at this;grind
end Pl
section
def floats(o:Oper):Bool:=match o.op with
 | .move .. =>true
 | .assign .. =>true
 | .pick .. =>true
 | .load .. =>true
 | .binOp .. =>true
 | .unOp .. =>true
 | .convert .. =>true
 | .fieldAddr .. =>true
 | .field .. =>true
 | .indexAddr .. =>true
 | .index .. =>true
 | .extract .. =>true
 | .slice .. =>true
 | .nilCheck .. =>true
 | .build .. =>true
 | .call c=>match c.callee with| .builtin .len=>true|_=>false
 |_=>false
def Ysz(o:Oper):Bool:=match o.op with
 | .move .. =>true
 | .assign .. =>true
 | .pick .. =>true
 | .binOp .. =>true
 | .unOp .. =>true
 | .fieldAddr .. =>true
 | .field .. =>true
 | .indexAddr .. =>true
 | .extract .. =>true
 | .build .. =>true
 |_=>false
def Zht(ops:Array Oper)(i:Nat):Bool:=((ops[i]?).map Ysz).getD false
section
variable {P:Program} {ops:Array Oper} {Q:Exit->Act->World->Prop} {md:Region.Mode} {S:World->Prop} {n:Nat}
def AnyG(P:Program)(md:Region.Mode)(ops:Array Oper)(Q:Exit->Act->World->Prop)(S:World->Prop)(n:Nat):Nat->Array Bool->Act->World->Prop
 |0,listed,a,w=>Region.ready md ops listed=[]/\Q .normal a w
 |fuel+1,listed,a,w=>(Region.ready md ops listed=[]->Q .normal a w)/\
  ∀i∈Region.ready md ops listed,wpOp P ops Q i (λa' w'=>(n<=i\/(S w->S w'))/\AnyG P md ops Q S n fuel (listed.setIfInBounds i true) a' w') a w
def AnyG.any:∀(fuel:Nat) (listed:Array Bool) (a:Act) (w:World),AnyG P md ops Q S n fuel listed a w->wpAny P md ops Q fuel listed a w
 |0,_,_,_,h=>h
 |fuel+1,_,_,_,h=>⟨h.1,λi hi=>aU (λa' w' h'=>AnyG.any fuel _ a' w' h'.2) (h.2 i hi)⟩
def Yta(listed:Array Bool)(k:Nat)(h0:listed.getD k true=false)(h1:listed.getD k false=true):False:=by
 rcases JX k listed.size with h'|h'
 ·simp[h']at h0 h1;rw[h0]at h1;cases h1
 ·simp[aP h']at h1
def Zsc{i:Nat}{oi:Oper}{v:Value}(hi:ops[i]? =some oi)(hsel:∀(j:Nat) (o:Oper) cs b,ops[j]? =some o->o.op≠ .select cs b)
 (hQ:∀c a w,Q (.panic c) (a.put oi.dst v) w->Q (.panic c) a w):
 ∀(fuel:Nat) (listed:Array Bool) (a:Act) (w:World),
  (∀j oj,ops[j]? =some oj->j≠i->listed.getD j true=false->(∀e∈oj.after,Region.binds md e=true->e.on≠i)->oi.apart ops oj=true)->
  i∈Region.ready md ops listed->YieldsIf P ops (λ_=>True) oi v a->
  AnyG P md ops Q S n fuel (listed.setIfInBounds i true) (a.put oi.dst v) w->AnyG P md ops Q S n (fuel+1) listed a w:=by
 intro fuel
 induction fuel with
 |zero=>
  intro listed a w _ hr hy H;refine⟨λh=>(by rw[h]at hr;cases hr),λj hj=>?_⟩;by_cases d:j=i
  ·subst d;exact hy.wpOp hi trivial ⟨.inr λh=>h,H⟩
  ·have:=BX hj d;rw[H.1]at this
   cases this
 |succ fuel ih=>
  intro listed a w f hr hy H;refine⟨λh=>(by rw[h]at hr;cases hr),λj hj=>?_⟩;by_cases d:j=i
  ·subst d;exact hy.wpOp hi trivial ⟨.inr λh=>h,H⟩
  ·have h1:=H.2 j (BX hj d);obtain⟨l,oj,m,q⟩:=aG.1 hj;have p:∀e∈oj.after,Region.binds md e=true->e.on≠i:=λe he hb heq=>by
    have h1:=q e he hb;rw[heq]at h1;exact Yta listed i (aG.1 hr).1 h1
   have h2:=wpOp_putIf m (f j oj m d l p) (λcs b=>hsel i oi cs b hi) (λcs b=>hsel j oj cs b m) hQ hy h1;have g:∀k ok,ops[k]? =some ok->k≠i->(listed.setIfInBounds j true).getD k true=false->
    (∀e∈ok.after,Region.binds md e=true->e.on≠i)->oi.apart ops ok=true:=λk ok hk hki hun hno=>by
    refine f k ok hk hki ?_ hno;by_cases r:j=k
    ·subst r;exact l
    ·rw[getD_set_ne true r]at hun;exact hun
   refine aU (λa' w' h3=>⟨h3.2.1,ih (listed.setIfInBounds j true) a' w' g (BX hr (bL d)) h3.1 ?_⟩) h2;rw[Array.setIfInBounds_comm _ _ d];exact h3.2.2
def Zki{i:Nat}{oi:Oper}{v:Value}{fuel:Nat}{listed:Array Bool}{a:Act}{w:World}(hi:ops[i]? =some oi)
 (hs:Region.noSelect ops=true) (hf:Region.free md ops listed i=true) (hr:(Region.ready md ops listed).contains i=true)
 (hQ:∀c a w,Q (.panic c) (a.put oi.dst v) w->Q (.panic c) a w) (hy:YieldsIf P ops (λ_=>True) oi v a)
 (h:AnyG P md ops Q S n fuel (listed.setIfInBounds i true) (a.put oi.dst v) w):AnyG P md ops Q S n (fuel+1) listed a w:=
 Zsc hi (Region.noSelect_spec hs) hQ fuel listed a w (Region.free_spec hi hf) (by simpa using hr) hy h
end
def Ylg(md:Region.Mode)(ops:Array Oper)(i:Nat):Array Bool:=(List.range ops.size).foldl (λd j=>d.push (((ops[j]?).map λo=>o.after.any λe=>Region.binds md e && (e.on==i || d.getD e.on false)).getD false)) #[]
def Yqs(md:Region.Mode)(ops:Array Oper)(i:Nat)(d:Array Bool)(j:Nat):Bool:= !d.getD j false ||((ops[j]?).map λo=>o.after.any λe=>Region.binds md e && (e.on==i || d.getD e.on false)).getD false
def Zhu(md:Region.Mode)(ops:Array Oper)(n:Nat)(listed:Array Bool)(i:Nat):Bool:=
 (List.range ops.size).all λj=>(decide (j<n)||(Ylg md ops i).getD j false) && (Yqs md ops i (Ylg md ops i) j && (!(Ylg md ops i).getD j false || !listed.getD j true))
def X7(ops:Array Oper)(n i:Nat):Bool:=decide (i<n) && ((ops[i]?).map floats).getD false
def Yhh(md:Region.Mode)(ops:Array Oper)(n:Nat)(listed:Array Bool)(i:Nat):Bool:=
 if X7 ops n i=true then Region.free md ops listed i && ((Region.ready md ops listed).contains i && (Zht ops i || Zhu md ops n listed i))else Region.ready md ops listed==[i]
def Ybm(md:Region.Mode)(ops:Array Oper)(n:Nat):Bool->List Nat->Array Bool->Bool
 |_,[],listed=>Region.ready md ops listed==[]
 |d,i::is,listed=>Yhh md ops n listed i && (!(d && (X7 ops n i && !Zht ops i)) && Ybm md ops n (d || decide (n<=i)) is (listed.setIfInBounds i true))
def Yhi(md:Region.Mode)(ops:Array Oper)(n:Nat)(is:List Nat):Bool:=Region.noSelect ops && (Ybm md ops n false is (Array.replicate ops.size false) && decide (is.length=ops.size))
section
variable {P:Program} {ops:Array Oper} {Q:Exit->Act->World->Prop} {md:Region.Mode} {S:World->Prop} {n:Nat}
def WY(P:Program)(ops:Array Oper)(Q:Exit->Act->World->Prop)(S:World->Prop)(n:Nat):List Nat->Act->World->Prop
 | [],a,w=>Q .normal a w
 |i::is,a,w=>match ops[i]? with
  |none=>True
  |some o=>if X7 ops n i=true then∃v,(if Zht ops i=true then YieldsIf P ops (λ_=>True) o v a else YieldsIf P ops S o v a)/\WY P ops Q S n is (a.put o.dst v) w
   else if Region.wanted o (yielded ops a.tmps)=true then Oper.wp P o a w (λa' w'=>(n<=i\/S w')/\WY P ops Q S n is a' w') Q
   else(n<=i\/S w)/\WY P ops Q S n is (a.put o.dst undef) w
def Zsd{i:Nat}{oi:Oper}{v:Value}{d:Array Bool}(hi:ops[i]? =some oi)(hsel:∀(j:Nat) (o:Oper) cs b,ops[j]? =some o->o.op≠ .select cs b)
 (hd1:∀j,n<=j->j<ops.size->d.getD j false=true) (hd2:∀j o,ops[j]? =some o->d.getD j false=true->∃e∈o.after,Region.binds md e=true/\(e.on=i\/(e.on<ops.size/\d.getD e.on false=true)))
 (hQ:∀c a w,Q (.panic c) (a.put oi.dst v) w->Q (.panic c) a w):
 ∀(fuel:Nat) (listed:Array Bool) (a:Act) (w:World),
  (∀j oj,ops[j]? =some oj->j≠i->listed.getD j true=false->(∀e∈oj.after,Region.binds md e=true->e.on≠i)->oi.apart ops oj=true)->
  (∀j,j<ops.size->d.getD j false=true->listed.getD j true=false)->
  i∈Region.ready md ops listed->YieldsIf P ops S oi v a->S w->
  AnyG P md ops Q S n fuel (listed.setIfInBounds i true) (a.put oi.dst v) w->AnyG P md ops Q S n (fuel+1) listed a w:=by
 intro fuel
 induction fuel with
 |zero=>
  intro listed a w _ _ hr hy hS H;refine⟨λh=>(by rw[h]at hr;cases hr),λj hj=>?_⟩;by_cases f:j=i
  ·subst f;exact hy.wpOp hi hS ⟨.inr λh=>h,H⟩
  ·have:=BX hj f;rw[H.1]at this
   cases this
 |succ fuel ih=>
  intro listed a w l m hr hy hS H;refine⟨λh=>(by rw[h]at hr;cases hr),λj hj=>?_⟩;by_cases f:j=i
  ·subst f;exact hy.wpOp hi hS ⟨.inr λh=>h,H⟩
  ·have h1:=H.2 j (BX hj f);obtain⟨s,oj,g,t⟩:=aG.1 hj;have u:=(aG.1 hr).1;have r:∀e∈oj.after,Region.binds md e=true->e.on≠i:=λe he hb heq=>by
    have h1:=t e he hb;rw[heq]at h1;exact Yta listed i u h1
   have x:d.getD j false=false:=by
    cases hc:d.getD j false with
    |false=>rfl
    |true=>
     obtain⟨e,he,hb,A⟩:=hd2 j oj g hc;rcases A with h2|⟨h2,h3⟩
     ·exact absurd h2 (r e he hb)
     ·exact(Yta listed e.on (m e.on h2 h3) (t e he hb)).elim
   have z:¬n<=j:=λhle=>by
    have:=hd1 j hle (dZ.1 g).1;rw[x]at this;cases this
   have h2:=wpOp_putIf g (l j oj g f s r) (λcs b=>hsel i oi cs b hi) (λcs b=>hsel j oj cs b g) hQ hy h1;have p:∀k ok,ops[k]? =some ok->k≠i->(listed.setIfInBounds j true).getD k true=false->
    (∀e∈ok.after,Region.binds md e=true->e.on≠i)->oi.apart ops ok=true:=λk ok hk hki m hno=>by
    refine l k ok hk hki ?_ hno;by_cases q:j=k
    ·subst q;exact s
    ·rw[getD_set_ne true q]at m;exact m
   have y:∀k,k<ops.size->d.getD k false=true->(listed.setIfInBounds j true).getD k true=false:=λk hk hdk=>by
    have q:j≠k:=λe=>by subst e;rw[x]at hdk;cases hdk
    rw[getD_set_ne true q];exact m k hk hdk
   refine aU (λa' w' h3=>⟨h3.2.1,ih (listed.setIfInBounds j true) a' w' p y (BX hr (bL f)) h3.1 ((h3.2.1.resolve_left z) hS) ?_⟩) h2;rw[Array.setIfInBounds_comm _ _ f];exact h3.2.2
def Zkj{i:Nat}{oi:Oper}{v:Value}{fuel:Nat}{listed:Array Bool}{a:Act}{w:World}(hi:ops[i]? =some oi)
 (hs:Region.noSelect ops=true) (hf:Region.free md ops listed i=true) (hr:(Region.ready md ops listed).contains i=true) (hw:Zhu md ops n listed i=true)
 (hQ:∀c a w,Q (.panic c) (a.put oi.dst v) w->Q (.panic c) a w) (hy:YieldsIf P ops S oi v a) (hS:S w)
 (h:AnyG P md ops Q S n fuel (listed.setIfInBounds i true) (a.put oi.dst v) w):AnyG P md ops Q S n (fuel+1) listed a w:=by
 simp only[Zhu,dA,iT,jU,fK,jh]at hw;refine Zsd (d:=Ylg md ops i) hi (Region.noSelect_spec hs) ?_ ?_ hQ fuel listed a w (Region.free_spec hi hf) ?_ (by simpa using hr) hy hS h
 ·intro j hj b;rcases(hw j b).1 with h1|h1
  ·omega
  ·exact h1
 ·intro j o ho g;have b:=(dZ.1 ho).1;have h1:=(hw j b).2.1;unfold Yqs at h1;rw[g,ho]at h1;simp only[Bool.not_true,Bool.false_or,Option.map_some,Option.getD_some]at h1;obtain⟨e,he,hb⟩:=Array.any_eq_true'.1 h1;simp only[jU,fK,BP]at hb;refine⟨e,he,hb.1,hb.2.imp id λh3=>⟨?_,h3⟩⟩;rcases JX e.on ops.size with h4|h4
  ·exact h4
  ·exfalso;have k:(Ylg md ops i).size<=ops.size:=by
    unfold Ylg;have:∀(l:List Nat) (d:Array Bool) (f:Array Bool->Nat->Bool),(l.foldl (λd j=>d.push (f d j)) d).size=d.size+l.length:=by
     intro l
     induction l with
     |nil=>intro d f;simp
     |cons x l ih=>intro d f;simp[ih];omega
    have h5:=this (List.range ops.size) #[] (λd j=>((ops[j]?).map λo=>o.after.any λe=>Region.binds md e && (e.on==i || d.getD e.on false)).getD false);simp only[List.size_toArray,fO,aQ,ji]at h5;exact Nat.le_of_eq h5
   have:(Ylg md ops i).getD e.on false=false:=by
    simp[aP (show(Ylg md ops i).size<=e.on by omega)]
   rw[this]at h3;cases h3
 ·intro j hj g;have h1:=(hw j hj).2.2;rw[g]at h1;simpa using h1
def AnyG.of_seq(hQ:∀c a d v w,Q (.panic c) (a.put d v) w->Q (.panic c) a w)(hs:Region.noSelect ops=true):
 ∀(is:List Nat) (listed:Array Bool) (a:Act) (w:World) (d:Bool),Ybm md ops n d is listed=true->(d=false->S w)->WY P ops Q S n is a w->AnyG P md ops Q S n is.length listed a w:=by
 intro is
 induction is with
 |nil=>
  intro listed a w d b _ h;exact⟨by simpa[Ybm]using b,h⟩
 |cons i is ih=>
  intro listed a w d b hS h;simp only[Ybm,jU]at b;obtain⟨e,hd,b⟩:=b;unfold WY at h;unfold Yhh at e;split at e
  ·rename_i hf
   simp only[jU]at e;obtain⟨h1,h2,h3⟩:=e;have f:=hf;simp only[X7,jU,jh]at f;obtain⟨o,ho⟩:∃o,ops[i]? =some o:=by
    cases hc:ops[i]? with
    |none=>rw[hc]at f;simp at f
    |some o=>exact⟨o,rfl⟩
   simp only[ho]at h;rw[jB hf]at h;obtain⟨v,hy,hr⟩:=h;by_cases hp:Zht ops i=true
   ·rw[jB hp]at hy;exact Zki ho hs h1 h2 (λc a w=>hQ c a o.dst v w) hy (ih _ _ w _ b (λhd'=>hS (by simp at hd';exact hd'.1)) hr)
   ·rw[jA hp]at hy;have g:d=false:=(by rw[hf]at hd;simpa[hp]using hd);have hw:=hS g;exact Zkj ho hs h1 h2 (by simpa[hp]using h3) (λc a w=>hQ c a o.dst v w) hy hw (ih _ _ w _ b (λ_=>hw) hr)
  ·rename_i hf
   have hr:Region.ready md ops listed=[i]:=(by simpa using e);have hi:i∈Region.ready md ops listed:=(by rw[hr];exact vZ.2 rfl);obtain⟨_,o,ho,_⟩:=aG.1 hi;simp only[ho]at h;rw[jA hf]at h;refine⟨λh0=>(by rw[hr]at h0;cases h0),λj hj=>?_⟩;rw[hr]at hj;obtain rfl:j=i:=by simpa using hj
   have h:wpOp P ops Q j (λa' w'=>(n<=j\/S w')/\WY P ops Q S n is a' w') a w:=by
    unfold wpOp;rw[ho];show if Region.wanted o (yielded ops a.tmps)=true then _ else _
    split
    ·rename_i hw;rw[jB hw]at h;exact .inl h
    ·rename_i hw;rw[jA hw]at h;exact h
   exact aU (λa' w' h'=>⟨h'.1.imp id (λh _=>h),ih _ a' w' _ b (λhle=>h'.1.resolve_left (by simp at hle;omega)) h'.2⟩) h
def Zj{id:Nat}{l:List Oper}{a:Act}{w:World}(n:Nat)(is:List Nat)(hm:P.follows .mixedOrders=true)(hok:Yhi .any l.toArray n is=true)
 (h:WY P l.toArray (NoPanic Q) (λw'=>Below w.heap.size w w') n is a w.drew):(Code.region id l.toArray true).wp P Q a w:=by
 simp only[Yhi,jU,jh]at hok;obtain⟨hs,b,hl⟩:=hok;refine Be (wp_region_any hm (AnyG.any _ _ _ _ (S:=λw'=>Below w.heap.size w w') (n:=n) ?_));rw[<-hl];have:=AnyG.of_seq (P:=P) (Q:=NoPanic Q) (S:=λw'=>Below w.heap.size w w') (λc a d v w h=>h) hs is _ a w.drew false b (λ_=>(JR _ _).drew) h
 rwa[hl]at this⊢
def Zl{a:Act}{w:World}(h:Q .normal a w):WY P ops (NoPanic Q) S n [] a w:=h
def Qb{A B:Prop}(g:A)(h:Qa A->B:=by
 intro q;(repeat((first|(first|refine Zb (v:=?_) rfl rfl rfl ?_ ?_|refine Zg (v:=?_) rfl rfl rfl ?_ ?_);rotate_left;·(intro _ _;go_simp;(try go_bits);(try with_reducible rfl))|refine Zh rfl rfl rfl ?_);(try simp only[Act.put,pu1,pu2,pu3,pu4,pu5,pu6])));exact q.out):B:=h ⟨g⟩
def Qc{A B:Prop}(g:A)(h:Qa A->B:=by
 intro q;((try simp only[Act.put,pu1,pu2,pu3,pu4,pu5,pu6]);repeat((first|(first|refine Zb (v:=?_) rfl rfl rfl ?_ ?_|refine Zg (v:=?_) rfl rfl rfl ?_ ?_);rotate_left;·(intro _ _;go_simp;(try go_bits);(try with_reducible rfl))|refine Zh rfl rfl rfl ?_);(try simp only[Act.put,pu1,pu2,pu3,pu4,pu5,pu6])));exact q.out):B:=h ⟨g⟩
def Qd{A B:Prop}(g:A)(h:Qa A->B:=by
 intro q;(repeat((first|(first|refine Zb (v:=?_) rfl rfl rfl ?_ ?_|refine Zg (v:=?_) rfl rfl rfl ?_ ?_);rotate_left;·(intro _ _;go_simp;(try go_bits);(try with_reducible rfl))|refine Zh rfl rfl rfl ?_|refine ZQ rfl rfl rfl (by assumption) ?_);(try simp only[Act.put,pu1,pu2,pu3,pu4,pu5,pu6])));exact q.out):B:=h ⟨g⟩
def Qe{A B:Prop}(g:A)(h:Qa A->B:=by
 intro q;((try simp only[Act.put,pu1,pu2,pu3,pu4,pu5,pu6]);repeat((first|(first|refine Zb (v:=?_) rfl rfl rfl ?_ ?_|refine Zg (v:=?_) rfl rfl rfl ?_ ?_);rotate_left;·(intro _ _;go_simp;(try go_bits);(try with_reducible rfl))|refine Zh rfl rfl rfl ?_|refine ZQ rfl rfl rfl (by assumption) ?_);(try simp only[Act.put,pu1,pu2,pu3,pu4,pu5,pu6])));exact q.out):B:=h ⟨g⟩
def Qf{A B:Prop}(g:A)(h:Qa A->B:=by
 intro q;(repeat((first|(first|refine ZV (v:=?_) rfl rfl rfl ?_ ?_|refine Z9 (v:=?_) rfl rfl rfl ?_ ?_);rotate_left;·(intro _ _;go_simp;(try go_bits);(try with_reducible rfl))|refine Ya rfl rfl rfl ?_|refine ZW rfl rfl rfl (by assumption) ?_);(try simp only[Act.put,pu1,pu2,pu3,pu4,pu5,pu6])));exact q.out):B:=h ⟨g⟩
def Qg{A B:Prop}(g:A)(h:Qa A->B:=by
 intro q;((try simp only[Act.put,pu1,pu2,pu3,pu4,pu5,pu6]);repeat((first|(first|refine ZV (v:=?_) rfl rfl rfl ?_ ?_|refine Z9 (v:=?_) rfl rfl rfl ?_ ?_);rotate_left;·(intro _ _;go_simp;(try go_bits);(try with_reducible rfl))|refine Ya rfl rfl rfl ?_|refine ZW rfl rfl rfl (by assumption) ?_);(try simp only[Act.put,pu1,pu2,pu3,pu4,pu5,pu6])));exact q.out):B:=h ⟨g⟩
def Qh{A B:Prop}(g:A)(h:Qa A->B:=by
 intro q;(refine Zd rfl rfl (λ_ kq=>?_);go_simp;refine kq.out _ _ (.inl (by decide)) ?_;clear kq;(try simp only[Act.put,pu1,pu2,pu3,pu4,pu5,pu6]));exact q.out):B:=h ⟨g⟩
def Qi{A B:Prop}(g:A)(h:Qa A->B:=by
 intro q;(refine ZB rfl rfl (λ_ kq=>?_);go_simp;refine kq.out _ _ (.inl (by decide)) ?_;clear kq;(try simp only[Act.put,pu1,pu2,pu3,pu4,pu5,pu6]));exact q.out):B:=h ⟨g⟩
def Qj{A B:Prop}(g:A)(h:Qa A->B:=by
 intro q;((try simp only[Act.put,pu1,pu2,pu3,pu4,pu5,pu6]));exact q.out):B:=h ⟨g⟩
def Qo{α:Sort _}{a:α->Prop}{b:∀k,a k->Prop}{B:Prop}(g:∀k q,b k q)(h:Qa (∀k q,b k q)->B:=by
 intro q;refine Zd rfl rfl (λk r=>?_);go_simp;exact q.out k r):B:=h ⟨g⟩
def Qp{α:Sort _}{a:α->Prop}{b:∀k,a k->Prop}{B:Prop}(g:∀k q,b k q)(h:Qa (∀k q,b k q)->B:=by
 intro q;refine ZB rfl rfl (λk r=>?_);go_simp;exact q.out k r):B:=h ⟨g⟩
def Zg{o:Oper}{i:Nat}{is:List Nat}{a:Act}{w:World}{v:Value}(ho:ops[i]? =some o)(hf:(X7 ops n i && !Zht ops i)=true)(hw:Region.wanted o (yielded ops a.tmps)=true)(hy:∀w',S w'->(execOp a.eval o).run P w'= .ok (.value v) w')(h:WY P ops Q S n is (a.put o.dst v) w):WY P ops Q S n (i::is) a w:=by
 simp only[jU,aR]at hf;unfold WY;rw[ho];show if _ then _ else _
 rw[jB hf.1];exact⟨v,by rw[jA (by simp[hf.2])];exact .inl ⟨hw,hy⟩,h⟩
def Zb{o:Oper}{i:Nat}{is:List Nat}{a:Act}{w:World}{v:Value}(ho:ops[i]? =some o)(hf:(X7 ops n i && Zht ops i)=true)(hw:Region.wanted o (yielded ops a.tmps)=true)(hy:∀w',True->(execOp a.eval o).run P w'= .ok (.value v) w')(h:WY P ops Q S n is (a.put o.dst v) w):WY P ops Q S n (i::is) a w:=by
 simp only[jU]at hf;unfold WY;rw[ho];show if _ then _ else _
 rw[jB hf.1];exact⟨v,by rw[jB hf.2];exact .inl ⟨hw,hy⟩,h⟩
def Zh{o:Oper}{i:Nat}{is:List Nat}{a:Act}{w:World}(ho:ops[i]? =some o)(hf:X7 ops n i=true)(hw:Region.wanted o (yielded ops a.tmps)=false)(h:WY P ops Q S n is (a.put o.dst undef) w):WY P ops Q S n (i::is) a w:=by
 unfold WY;rw[ho];show if _ then _ else _
 rw[jB hf];exact⟨undef,by split <;> exact .inr ⟨hw,rfl⟩,h⟩
def Zd{o:Oper}{i:Nat}{is:List Nat}{a:Act}{w:World}(ho:ops[i]? =some o)(hf:X7 ops n i=false)
 (h:∀K':Act->World->Prop,Shut (∀a w,(n<=i\/S w)->WY P ops Q S n is a w->K' a w)->if Region.wanted o (yielded ops a.tmps)=true then Oper.wp P o a w K' Q else K' (a.put o.dst undef) w):WY P ops Q S n (i::is) a w:=by
 have h1:=h (λa' w'=>(n<=i\/S w')/\WY P ops Q S n is a' w') (λa w h1 h2=>⟨h1,h2⟩);unfold WY;rw[ho];show if _ then _ else _
 rw[jA (by simp[hf])];exact h1
end
def Zm{w:World}{p:Addr}{v:Value}(h:w.cell? p=some v):∀w',Below w.heap.size w w'->w'.cell? p=some v:=λ_ hb=>Zi hb h
end
def Zut(n:Int):bits .and .i64 n 1=n%2:=by
 have hc:(BitVec.ofInt 64 1).toNat=2^1 - 1:=Ql
 have a:(BitVec.ofInt 64 n &&& BitVec.ofInt 64 1).toNat=(n% ((2^64:Nat):Int)).toNat%2^1:=by
  rw[dE,kP,hc,iF]
 show IntKind.i64.wrap ((BitVec.ofInt 64 n &&& BitVec.ofInt 64 1).toNat:Nat)=n%2;rw[a,gJ];omega
def Yhj(n:Int):bits .and .i64 n 3=n%4:=by
 have hc:(BitVec.ofInt 64 3).toNat=2^2 - 1:=Ql
 have a:(BitVec.ofInt 64 n &&& BitVec.ofInt 64 3).toNat=(n% ((2^64:Nat):Int)).toNat%2^2:=by
  rw[dE,kP,hc,iF]
 show IntKind.i64.wrap ((BitVec.ofInt 64 n &&& BitVec.ofInt 64 3).toNat:Nat)=n%4;rw[a,gJ];omega
def Yhk(n:Int):bits .and .i64 n 7=n%8:=by
 have hc:(BitVec.ofInt 64 7).toNat=2^3 - 1:=Ql
 have a:(BitVec.ofInt 64 n &&& BitVec.ofInt 64 7).toNat=(n% ((2^64:Nat):Int)).toNat%2^3:=by
  rw[dE,kP,hc,iF]
 show IntKind.i64.wrap ((BitVec.ofInt 64 n &&& BitVec.ofInt 64 7).toNat:Nat)=n%8;rw[a,gJ];omega
def Zow(n:Int):bits .and .i64 n 65535=n%65536:=by
 have hc:(BitVec.ofInt 64 65535).toNat=2^16 - 1:=Ql
 have a:(BitVec.ofInt 64 n &&& BitVec.ofInt 64 65535).toNat=(n% ((2^64:Nat):Int)).toNat%2^16:=by
  rw[dE,kP,hc,iF]
 show IntKind.i64.wrap ((BitVec.ofInt 64 n &&& BitVec.ofInt 64 65535).toNat:Nat)=n%65536;rw[a,gJ];omega
def Z6(w:World)(v:Value)(zs:List Int):Prop:=
 ∃a cap,v= .slice a zs.length cap/\zs.length<=cap/\cap<=maxLen/\(0<zs.length->∃b off,a=some ⟨b,off,none⟩/\∀i,i<zs.length->w.cell? ⟨b,off+i,none⟩=some (.int .i64 (zs.getD i 0)))/\∀z∈zs,-9223372036854775808<=z/\z<=9223372036854775807
def Z6.below{w w':World}{v:Value}{zs:List Int}(h:Z6 w v zs)(hb:Below w.heap.size w w'):Z6 w' v zs:=by
 obtain⟨a,cap,h1,h2,h3,h4,h5⟩:=h;refine⟨a,cap,h1,h2,h3,λhp=>?_,h5⟩;obtain⟨b,c,g1,g2⟩:=h4 hp;exact⟨b,c,g1,λi hi=>Zi hb (g2 i hi)⟩
def Z6.shape{w:World}{v:Value}{zs:List Int}(h:Z6 w v zs):∃a cap,v= .slice a zs.length cap/\zs.length<=cap/\cap<=9223372036854775807:=by
 obtain⟨a,cap,h1,h2,h3,h4,h5⟩:=h;unfold maxLen at h3;exact⟨a,cap,h1,h2,Qk⟩
def Z6.at_{w:World}{a:Option Addr}{n cap:Nat}{zs:List Int}(h:Z6 w (.slice a n cap) zs){i:Nat}(hi:i<n):
 ∃b off z,a=some ⟨b,off,none⟩/\w.cell? ⟨b,off+i,none⟩=some (.int .i64 z)/\zs[i]? =some z/\ -9223372036854775808<=z/\z<=9223372036854775807:=by
 obtain⟨a',c,h1,h2,h3,h4,h5⟩:=h;injection h1 with e1 e2 e3;subst e1;obtain⟨b,off,g1,g2⟩:=h4 Qk;have hg:zs[i]? =some (zs.getD i 0):=by simp[List.getD,JQ (show i<zs.length by omega)]
 have hm:=h5 _ (jC hg);exact⟨b,off,_,g1,g2 i Qk,hg,hm⟩
def Zox(v:Value)(zs:List Int)(i:Nat)(w:World)(h:Z6 w v zs)(hi:i<=1099511627776):
 Calls prog 17 #[v,.int .i64 (i:Int)] w λe w'=>∃z:Int,e= .returned (.int .i64 z)/\0<=z/\z<=65535+i/\Below w.heap.size w w':=by
 obtain⟨a,cap,rfl,p,q⟩:=h.shape;generalize hn:zs.length=n at *;clear hn;have hm:=Zow;rcases JV n with h0|h0
 ·subst h0;go_enter func17,ntmps17;go_wp2;go_ret;exact⟨_,rfl,Qk,Qk,JR _ _⟩
 ·have d:i%n<n:=iC _ h0;obtain⟨b,r,z,rfl,c,_,s,t⟩:=h.at_ d;have g:((n:Int)==0)=false:=by simp;omega
  have hq:i/n<=i:=dO _ _;have j:¬n=0:=Qk
  have k:(i:Int)%n<n:=Qk
  have l:0<=(i:Int)%n:=Qk
  have m:(i:Int)/n<=i:=vJ _ Qk;have o:0<=(i:Int)/n:=vV Qk Qk;go_enter func17,ntmps17;go_wp2_with fail;have C1:=Zm c;refine Zj 14 [0,1,2,3,4,5,6,7,8,9,10,11,12,13] Qm Qm ?_;repeat(first|(refine Zb (v:=?_) rfl rfl rfl ?_ ?_;rotate_left;(· (intro _ f;go_simp;(try go_bits);(try with_reducible rfl)));(try simp only[Act.put,jX,jL,jO,dW,dG,dH]))|(refine Zg (v:=?_) rfl rfl rfl ?_ ?_;rotate_left;(· (intro _ f;go_simp;(try go_bits);(try with_reducible rfl)));(try simp only[Act.put,jX,jL,jO,dW,dG,dH]))|(refine Zh rfl rfl rfl ?_;(try simp only[Act.put,jX,jL,jO,dW,dG,dH])))
  refine Zl ?_;clear C1;go_wp2;go_ret;exact⟨_,rfl,Qk,Qk,Zc _⟩
namespace Pl
def Zuu{z:Int}(h: -4294967296<z)(h2:z<4294967296):Sz 1 (z:Rat):=by
 unfold Sz;exact⟨Xd (by rw[Rat.num_intCast];unfold B32;omega),Xd (by rw[Rat.den_intCast];decide)⟩
end Pl
def VK(base:Nat)(w:World)(v:Value)(es:List En):Prop:=∃cs,w.ownsRow base 86 5 v es.length cs/\EnC w cs es
def VK.vec{base:Nat}{w:World}{v:Value}{es:List En}(h:VK base w v es):Ur w v es:=by
 obtain⟨cs,h1,h2⟩:=h;exact⟨cs,VC.of_own h1,h2⟩
def VK.below{base:Nat}{w w':World}{v:Value}{es:List En}(h:VK base w v es)(hb:Below w.heap.size w w'):VK base w' v es:=by
 obtain⟨cs,h1,h2⟩:=h;exact⟨cs,own_below h1 hb,h2.keep (ZI.of_below hb)⟩
def VK.nil(base:Nat)(w:World):VK base w (.slice none 0 0) []:=⟨[],kY _ _ _ _,EnC.nil _⟩
def info_entry:(prog.info? 86).map (λi=>(i.zero,i.size,i.bytes))=some (some (.agg #[.int .i64 0,.bool false,.slice none 0 0,.bool false,.slice none 0 0]),5,72):=Qm
def Zcy{k:Int}{x y:Bool}{A A':Option Addr}{n c n' c':Nat}:∀u∈[Value.int .i64 k,.bool x,.slice A n c,.bool y,.slice A' n' c'],u.oneCell'=true:=by
 intro u hu;simp at hu;rcases hu with rfl|rfl|rfl|rfl|rfl <;> rfl
def Vq{ops:Array Oper}{rest:List Oper}{o:Oper}{a:Act}{Q:Exit->Act->World->Prop}(hgd:o.guard=none)(s x:Operand)
 (ho:o.op= .call { callee:= .builtin .append,args:=#[s,x],argTypes:=#[88,88] })
 (W:World) (base:Nat) (v:Value) (es:List En) (hs:a.eval s=v) (hown:VK base W v es) (b b':Bool) (A A':Option Addr) (n c n' c':Nat) (k:Int) (f:RF) (hf:Zx W (.agg #[.bool b,.slice A n c,.bool b',.slice A' n' c']) f)
 (hx:a.eval x= .slice (some ⟨W.heap.size,0,none⟩) 1 1) (hn:es.length+1<=1099511627776) (hbase:base<=W.heap.size)
 (h:∀v' w',VK base w' v' (es++[⟨k,f⟩])->Zf 86 W w'->Below base W w'->wpList prog ops Q rest (a.put o.dst v') w'):
 wpList prog ops Q (o::rest) a (W.alloc (.cells #[.int .i64 k,.bool b,.slice A n c,.bool b',.slice A' n' c'] 86)):=by
 obtain⟨cs,h1,h2⟩:=hown;obtain⟨i0,hi,d,g,i⟩:=kL info_entry;refine V9 hgd s x 88 ho 86 i0 _ 5 72 underlying88 hi d g i rfl Ql W base v es.length cs [.int .i64 k,.bool b,.slice A n c,.bool b',.slice A' n' c'] hs h1 hx rfl Zcy (by unfold maxLen;omega) Qk hbase ?_;intro v' w' g1 g2 g3;refine h v' w' ⟨_,by simpa using g1,?_⟩ g2 g3;have hk:=g2.keep Ql;exact(h2.keep hk).snoc (e:=⟨k,f⟩) (hf.keep hk)
def Ym(base:Nat)(w:World)(v:Value)(cols:List (List En)):Prop:=∃cs,w.ownsRow base 88 1 v cols.length cs/\∀(k:Nat) (c:List En),cols[k]? =some c->∃u,cs[k]? =some u/\Ur w u c
def Ym.vecs{base:Nat}{w:World}{v:Value}{cols:List (List En)}(h:Ym base w v cols):VE w v cols:=by
 obtain⟨cs,h1,h2⟩:=h;exact⟨cs,VC.of_own h1,h2⟩
def Ym.below{base:Nat}{w w':World}{v:Value}{cols:List (List En)}(h:Ym base w v cols)(hb:Below w.heap.size w w'):Ym base w' v cols:=by
 obtain⟨cs,h1,h2⟩:=h;exact⟨cs,own_below h1 hb,λk c hc=>by obtain⟨u,g1,g2⟩:=h2 k c hc;exact⟨u,g1,g2.below hb⟩⟩
def Ym.but{base:Nat}{w w':World}{e:TypeId}{v:Value}{cols:List (List En)}(h:Ym base w v cols)(hk:Zf e w w')(h0:88≠e)(h1:86≠e)(h2:71≠e):Ym base w' v cols:=by
 obtain⟨cs,g1,g2⟩:=h;exact⟨cs,hk.own g1 h0,λk c hc=>by obtain⟨u,q1,q2⟩:=g2 k c hc;exact⟨u,q1,q2.but hk h1 h2⟩⟩
def Ym.nil(base:Nat)(w:World):Ym base w (.slice none 0 0) []:=⟨[],kY _ _ _ _,λk c h=>by simp at h⟩
def info_vector:(prog.info? 88).map (λi=>(i.zero,i.size,i.bytes))=some (some (.slice none 0 0),1,24):=Qm
def Zf.of_below{e:TypeId}{w w':World}(hb:Below w.heap.size w w'):Zf e w w':=λb _ _ _ _ h=>(hb.block b (ZU h)).trans h
def Zf.then{e:TypeId}{w W w':World}(h:Zf e w W)(hb:Below w.heap.size W w'):Zf e w w':=λb cs t fz ht hc=>(hb.block b (ZU hc)).trans (h b cs t fz ht hc)
def Zf.refl(e:TypeId)(w:World):Zf e w w:=λ_ _ _ _ _ h=>h
def Bk.threeF{w:World}{g:Nat}{t:TypeId}{cs:List Value}(h:Bk w g t cs):w.frozen? ⟨g,0,none⟩=false/\w.frozen? ⟨g,1,none⟩=false/\w.frozen? ⟨g,2,none⟩=false:=⟨h.frozen 0,h.frozen 1,h.frozen 2⟩
def Yy.own_lt{base:Nat}{w:World}{v:Value}{fs:List RF}(h:Yy base w v fs):∀g,v.ownBlock=some g->g<w.heap.size:=by
 obtain⟨cs,h1,h2⟩:=h;intro g hg;rcases h1.2 with⟨rfl,_⟩|⟨g',cap,cur,rfl,_,hgg,_⟩
 ·simp[Value.ownBlock]at hg
 ·simp[Value.ownBlock]at hg;subst hg;exact ZU hgg
def Yy.slice{base:Nat}{w:World}{v:Value}{fs:List RF}(h:Yy base w v fs):∃A c,v= .slice A fs.length c:=by
 obtain⟨A,c,e,_,_⟩:=h.frs.shape;exact⟨A,c,e⟩
def Ym.slice{base:Nat}{w:World}{v:Value}{fs:List (List En)}(h:Ym base w v fs):∃A c,v= .slice A fs.length c:=by
 obtain⟨A,c,e,_,_⟩:=h.vecs.shape;exact⟨A,c,e⟩
def Yy.sliceN{base:Nat}{w:World}{v:Value}{fs:List RF}(h:Yy base w v fs):∃A n c,v= .slice A n c:=by
 obtain⟨A,c,e⟩:=h.slice;exact⟨A,_,c,e⟩
def Ym.sliceN{base:Nat}{w:World}{v:Value}{fs:List (List En)}(h:Ym base w v fs):∃A n c,v= .slice A n c:=by
 obtain⟨A,c,e⟩:=h.slice;exact⟨A,_,c,e⟩
namespace Pl
def RsL.nil(k:Nat):RsL k []:=λi f h=>by simp at h
end Pl
def Zuv(v:Value)(zs:List Int)(i:Int)(w:World)(h:Z6 w v zs)(h0:0<=i)(hi:i<=1099511627776):
 Calls prog 17 #[v,.int .i64 i] w λe w'=>∃z:Int,e= .returned (.int .i64 z)/\0<=z/\z<=65535+i/\Below w.heap.size w w':=by
 obtain⟨k,rfl⟩:=JT h0;exact Zox v zs k w h Qk
def ZA(g:Option Nat)(w w':World):Prop:=w.heap.size<=w'.heap.size/\∀b,b<w.heap.size->some b≠g->w'.heap[b]? =w.heap[b]?
def ZA.bk{g:Option Nat}{w w':World}{b:Nat}{t:TypeId}{cs:List Value}(h:ZA g w w')(hb:Bk w b t cs)(hne:some b≠g):Bk w' b t cs:=(h.2 b hb.lt hne).trans hb
def ZA.of_set{g i:Nat}{w:World}{v:Value}:ZA (some g) w (w.setCell ⟨g,i,none⟩ v):=⟨by simp,λb _ hne=>vH w _ _ _ (λe=>hne (by rw[e]))⟩
def ZA.trans{g:Option Nat}{a b c:World}(h:ZA g a b)(k:ZA g b c):ZA g a c:=⟨JW h.1 k.1,λx hx hne=>(k.2 x (je hx h.1) hne).trans (h.2 x hx hne)⟩
def Yy.others{base:Nat}{w w':World}{g:Option Nat}{v:Value}{fs:List RF}(h:Yy base w v fs)(ho:ZA g w w')(hk:ZI w w')(hne:∀b,v.ownBlock=some b->some b≠g):Yy base w' v fs:=by
 obtain⟨cs,h1,h2⟩:=h;refine⟨cs,⟨h1.1,?_⟩,h2.keep hk⟩;rcases h1.2 with hn|⟨g',cap,cur,rfl,hb',hgg,rest⟩
 ·exact .inl hn
 ·exact .inr ⟨g',cap,cur,rfl,hb',(ho.2 g' (ZU hgg) (hne g' (by simp[Value.ownBlock]))).trans hgg,rest⟩
def Xj(ty t e:TypeId)(i:TypeInfo)(z:Value)(size bytes:Nat)(ht:prog.underlying t=some (.slice e))(hi:prog.info? e=some i)(hz:i.zero=some z)
 (hsize:i.size=size) (hby:i.bytes=bytes) (hzs:z.cells.size=size) (hsz:0<size) (W:World) (base:Nat) (v:Value) (n:Nat) (xs news:List Value) (hown:W.ownsRow base e size v n xs)
 (hl:news.length=size) (h1:∀u∈news,u.oneCell'=true) (hn:n+1<=maxLen) (hb:(n+1)*bytes<=140737488355328) (hbase:base<=W.heap.size):
 ∃v' w',(Builtin.append_ #[t,t] ty #[v,.slice (some ⟨W.heap.size,0,none⟩) 1 1]).run prog (W.alloc (.cells news.toArray e))= .ok v' w'/\w'.ownsRow base e size v' (n+1) (xs++news)/\Zf e W w'/\Below base W w'/\ZA v.ownBlock W w'/\(v'.ownBlock=v.ownBlock\/∀g,v'.ownBlock=some g->W.heap.size<=g):=by
 have c:Bk (W.alloc (.cells news.toArray e)) W.heap.size e news:=Bk.new W e news;obtain⟨v',w',d,h2,h3,_,h5⟩:=aM (P:=prog) (W.alloc (.cells news.toArray e)) base t ty e i z size bytes ht hi hz hsize hby hzs hsz v n xs (hown.alloc _) ⟨W.heap.size,0,none⟩ 1 1 news Qk (λj u hj=>by rw[addr_add,ji,c.cell];exact hj) h1 hn hb (by simp;omega);refine⟨v',w',d,h2,?_,?_,⟨?_,?_⟩,?_⟩
 ·intro b cs t' fz a hc;have f:=ZU hc;refine(h3.block b (by simp;omega) ?_).trans ((eO W _ b f).trans hc);intro e1;rcases hown.2 with⟨rfl,_⟩|⟨g,cap,cur,rfl,_,hg,_⟩
  ·simp[Value.ownBlock]at e1
  ·simp[Value.ownBlock]at e1;subst e1;rw[hg]at hc;injection hc with hc;injection hc with _ h2 _;exact a h2.symm
 ·refine((JR _ _).alloc hbase _).grown h3 (by simp;omega) (λk hk=>?_);exact(hown.lt k hk).1
 ·have:=h3.size;simp at this;omega
 ·intro b hb a;exact(h3.block b (by simp;omega) a).trans (eO W _ b hb)
 ·rcases h5 with h5|h5
  ·exact .inl h5
  ·right;intro g hg;rw[h5]at hg;injection hg with hg;simp at hg;omega
 where
  addr_add (g j:Nat):(⟨g,0,none⟩:Addr).add j=⟨g,0+j,none⟩:=by
   unfold Addr.add;split
   ·rename_i h;subst h;rfl
   ·rfl
def Zcz(n:Nat)(G C:Nat->Nat)(r:Nat):Value:= .slice (some ⟨G r,0,none⟩) n (C r)
def Zxu(m n:Nat)(G C:Nat->Nat):List Value:=(List.range m).map (Zcz n G C)
def Zda{m n r:Nat}{G C:Nat->Nat}(h:r<m):(Zxu m n G C)[r]? =some (Zcz n G C r):=by simp[Zxu,h]
def Zoy(m n:Nat)(G C:Nat->Nat):(Zxu m n G C).length=m:=by simp[Zxu]
def Yw{w:World}{g i j k l:Nat}{x y z u:Value}:ZA (some g) w ((((w.setCell ⟨g,i,none⟩ x).setCell ⟨g,j,none⟩ y).setCell ⟨g,k,none⟩ z).setCell ⟨g,l,none⟩ u):=
 ((ZA.of_set.trans ZA.of_set).trans ZA.of_set).trans ZA.of_set
section
namespace Pl
def kI(z:Int):RF:=canF (z:Rat)
def kp:LPd:=⟨[kI 0],[[⟨0,kI 1⟩]],[kI (-1)]⟩
end Pl
section
variable {w:World} {g:Nat}
def Ur.one{k:Int}{b b':Bool}{A A':Option Addr}{n c n' c':Nat}{f:RF}(hB:Bk w g 86 [.int .i64 k,.bool b,.slice A n c,.bool b',.slice A' n' c'])(h:Zx w (.agg #[.bool b,.slice A n c,.bool b',.slice A' n' c']) f):Ur w (.slice (some ⟨g,0,none⟩) 1 1) [⟨k,f⟩]:=by
 refine⟨[.int .i64 k,.bool b,.slice A n c,.bool b',.slice A' n' c'],⟨_,1,rfl,rfl,JY _,by unfold maxLen;omega,λ_=>⟨g,0,_,_,rfl,hB,λj u hj=>by simpa using hj⟩⟩,rfl,λj f' hf=>?_⟩
 match j,hf with
 |0,hf=>simp at hf;subst hf;exact⟨_,_,_,_,rfl,rfl,rfl,rfl,rfl,h⟩
end
end
namespace Pl
def Zbx(L:Mx)(b:Nat->Rat):Nat->Nat->Rat
 |0=>b
 |j+1=>λi=>if j<i then Zbx L b j i - L j i*Zbx L b j j else Zbx L b j i
def Zij(L:Mx)(b:Nat->Rat)(j i:Nat):Zbx L b (j+1) i=if j<i then Zbx L b j i - L j i*Zbx L b j j else Zbx L b j i:=rfl
def Zpq(L:Mx)(b:Nat->Rat)(i:Nat):∀d,Zbx L b (i+d) i=Zbx L b i i
 |0=>rfl
 |d+1=>by rw[<-ve,Zij,jA Qk];exact Zpq L b i d
def Zmv{L:Mx}{b:Nat->Rat}{i j:Nat}(h:i<=j):Zbx L b j i=Zbx L b i i:=by
 have:=Zpq L b i (j - i)
 rwa[show i+(j - i)=j by omega]at this
def Zmw(L:Mx)(b:Nat->Rat)(i:Nat):∀j,j<=i->Zbx L b j i=b i - ZF (λs=>L s i*Zbx L b s s) j
 |0,_=>by rw[Yz];show b i=_;grind
 |j+1,h=>by rw[Zij,jB Qk,Zz,Zmw L b i j Qk];grind
def Zsq{n:Nat}{L:Mx}{b:Nat->Rat}(h0:∀t p,t<n->p<n->p<t->L t p=0)(h1:∀t,t<n->L t t=1):∀p,p<n->ZF (λs=>L s p*Zbx L b n s) n=b p:=by
 intro p hp;rw[WX (n:=p+1) Qk λi h1' h2=>by rw[h0 i p h2 hp Qk];grind,Zz,h1 p hp,Zmv (show p<=n by omega),Zmw L b p p (JY _)];rw[Zk (g:=λs=>L s p*Zbx L b s s) λs hs=>by rw[Zmv (show s<=n by omega)]];grind
def Zcc(n:Nat)(U:Mx)(z:Nat->Rat):Nat->Nat->Rat
 |0=>z
 |j+1=>λi=>if i=n - 1 - j then Zcc n U z j i/U i i else if i<n - 1 - j then Zcc n U z j i - U (n - 1 - j) i* (Zcc n U z j (n - 1 - j)/U (n - 1 - j) (n - 1 - j))else Zcc n U z j i
def Zdr(n:Nat)(U:Mx)(z:Nat->Rat)(j i:Nat):Zcc n U z (j+1) i=if i=n - 1 - j then Zcc n U z j i/U i i else if i<n - 1 - j then Zcc n U z j i - U (n - 1 - j) i* (Zcc n U z j (n - 1 - j)/U (n - 1 - j) (n - 1 - j))else Zcc n U z j i:=rfl
def Zpr(n:Nat)(U:Mx)(z:Nat->Rat)(i:Nat)(hi:i<n):∀d,d<=i->Zcc n U z (n - i+d) i=Zcc n U z (n - i) i
 |0,_=>rfl
 |d+1,h=>by rw[<-ve,Zdr,jA Qk,jA Qk];exact Zpr n U z i hi d Qk
def Zfa{n:Nat}{U:Mx}{z:Nat->Rat}{i j:Nat}(hi:i<n)(h:n - i<=j)(hj:j<=n):Zcc n U z j i=Zcc n U z (n - i) i:=by
 have:=Zpr n U z i hi (j - (n - i)) Qk
 rwa[show n - i+(j - (n - i))=j by omega]at this
def Zvp{n:Nat}{U:Mx}{z:Nat->Rat}{i:Nat}(hi:i<n):Zcc n U z (n - i) i=Zcc n U z (n - 1 - i) i/U i i:=by
 rw[show n - i=(n - 1 - i)+1 by omega,Zdr,jB Qk]
def Zmx(n:Nat)(U:Mx)(z:Nat->Rat)(i:Nat):∀j,j+i<n->Zcc n U z j i=z i - ZF (λt=>U (n - 1 - t) i*Zcc n U z n (n - 1 - t)) j
 |0,_=>by rw[Yz];show z i=_;grind
 |j+1,h=>by
  rw[Zdr,jA Qk,jB Qk,Zz,Zmx n U z i j Qk]
  have e:Zcc n U z n (n - 1 - j)=Zcc n U z j (n - 1 - j)/U (n - 1 - j) (n - 1 - j):=by
   rw[Zfa (i:=n - 1 - j) Qk Qk (JY _),Zvp Qk,show n - 1 - (n - 1 - j)=j by omega]
  rw[e];grind
def Yis(f:Nat->Rat):∀n,ZF (λt=>f (n - 1 - t)) n=ZF f n:=by
 intro n;have h:Inj n n (λt=>n - 1 - t):=⟨λs hs=>by show n - 1 - s<n;omega,λs u h1 h2 e=>by have e':n - 1 - s=n - 1 - u:=e;omega⟩;exact Vp h f
def Zik{n:Nat}{U:Mx}{z:Nat->Rat}(h0:∀k s,k<n->s<n->k<s->U k s=0)(h1:∀k,k<n->U k k≠0):∀s,s<n->ZF (λk=>U k s*Zcc n U z n k) n=z s:=by
 intro s hs;rw[<-Yis,WX (n:=n - 1 - s+1) (m:=n) Qk λi h1' h2=>by
  show U (n - 1 - i) s*_=0;rw[h0 (n - 1 - i) s Qk hs Qk];grind,Zz,show n - 1 - (n - 1 - s)=s by omega,Zfa hs (show n - s<=n by omega) (JY _),Zvp hs,Zmx n U z s (n - 1 - s) Qk]
 have e:=kr (a:=z s - ZF (λt=>U (n - 1 - t) s*Zcc n U z n (n - 1 - t)) (n - 1 - s)) (h1 s hs);grind
def utN(U:Mx)(d:Nat->Rat):Nat->Nat->Rat
 |0=>λ_=>0
 |k+1=>λi=>if i=k then(d k - ZF (λs=>U k s*utN U d k s) k)/U k k else utN U d k i
def Zmy(U:Mx)(d:Nat->Rat)(k i:Nat):utN U d (k+1) i=if i=k then(d k - ZF (λs=>U k s*utN U d k s) k)/U k k else utN U d k i:=rfl
def Zil{U:Mx}{d:Nat->Rat}{i:Nat}:∀{j:Nat},i<j->utN U d j i=utN U d (i+1) i
 |0,h=>Qk
 |j+1,h=>by
  by_cases e:i=j
  ·rw[e]
  ·rw[Zmy,jA e];exact Zil Qk
def Zyf{n:Nat}{U:Mx}{d:Nat->Rat}(h0:∀k s,k<n->s<n->k<s->U k s=0)(h1:∀k,k<n->U k k≠0):∀k,k<n->ZF (λs=>U k s*utN U d n s) n=d k:=by
 intro k hk;rw[WX (n:=k+1) Qk λi h1' h2=>by rw[h0 k i hk h2 Qk];grind,Zz,Zil hk,Zmy,jB rfl];rw[Zk (g:=λs=>U k s*utN U d k s) λs hs=>by rw[Zil (show s<n by omega),<-Zil hs]];have e:=kr (a:=d k - ZF (λs=>U k s*utN U d k s) k) (h1 k hk);grind
def ltN(n:Nat)(L:Mx)(w:Nat->Rat):Nat->Nat->Rat
 |0=>w
 |j+1=>λi=>if i=n - 1 - j then ltN n L w j i - ZF (λp=>if p=i then 0 else L i p*ltN n L w j p) n else ltN n L w j i
def Zds(n:Nat)(L:Mx)(w:Nat->Rat)(j i:Nat):ltN n L w (j+1) i=if i=n - 1 - j then ltN n L w j i - ZF (λp=>if p=i then 0 else L i p*ltN n L w j p) n else ltN n L w j i:=rfl
def Zim{n:Nat}{L:Mx}{w:Nat->Rat}{i:Nat}:∀{j:Nat},j+i<n->ltN n L w j i=w i
 |0,_=>rfl
 |j+1,h=>by rw[Zds,jA Qk];exact Zim Qk
def Zfv{n:Nat}{L:Mx}{w:Nat->Rat}{i:Nat}(hi:i<n):∀{j:Nat},n - i<=j->j<=n->ltN n L w j i=ltN n L w (n - i) i
 |0,h,_=>Qk
 |j+1,h,hj=>by
  by_cases e:n - i=j+1
  ·rw[e]
  ·rw[Zds,jA Qk];exact Zfv hi Qk Qk
def Zkv{n:Nat}{L:Mx}{w:Nat->Rat}(h0:∀t p,t<n->p<n->p<t->L t p=0)(h1:∀t,t<n->L t t=1):∀s,s<n->ZF (λp=>L s p*ltN n L w n p) n=w s:=by
 intro s hs;have e1:ZF (λp=>L s p*ltN n L w n p) n=ZF (λp=>(if p=s then 0 else L s p*ltN n L w (n - 1 - s) p)+(if p=s then ltN n L w n s else 0)) n:=Zk λp hp=>by
  by_cases e:p=s
  ·rw[jB e,jB e,e,h1 s hs];grind
  ·rw[jA e,jA e];rcases JX p s with g|g
   ·rw[h0 s p hs hp g];grind
   ·rw[Zfv hp (show n - p<=n by omega) (JY _),<-Zfv hp (show n - p<=n - 1 - s by omega) Qk];grind
 rw[e1,Xq,XL hs,Zfv hs (show n - s<=n by omega) (JY _),show n - s=(n - 1 - s)+1 by omega,Zds,jB Qk,Zim Qk];grind
end Pl
namespace Pl
def rfL(n:Nat)(f:Nat->RF):List RF:=(List.range n).map f
def Zw(n:Nat)(f:Nat->RF):(rfL n f).length=n:=by simp[rfL]
def YE{n i:Nat}{f:Nat->RF}(h:i<n):(rfL n f)[i]? =some (f i):=by simp[rfL,h]
def Wj{n:Nat}{f g:Nat->RF}(h:∀i,i<n->f i=g i):rfL n f=rfL n g:=by
 refine jV λi=>?_
 rcases JX i n with e|e
 ·rw[YE e,YE e,h i e]
 ·rw[JU (by rw[Zw];exact e),JU (by rw[Zw];exact e)]
def Uy{n k:Nat}{f:Nat->RF}{q:RF}(h:k<n):(rfL n f).set k q=rfL n λi=>if i=k then q else f i:=by
 refine jV λi=>?_
 rcases JX i n with e|e
 ·rw[YE e,iV];by_cases g:k=i
  ·subst g;rw[jB rfl,Zw,jB h,jB rfl]
  ·rw[jA g,YE e,jA λg'=>g g'.symm]
 ·rw[JU (by rw[jd,Zw];exact e),JU (by rw[Zw];exact e)]
def Zss(n:Nat)(f:Nat->Rat):rfL n (λi=>canF (f i))=Yn n f:=rfl
def Zmz{n i:Nat}{f:Nat->RF}(h:i<n):qAt (rfL n f) i=(f i).q:=YW (YE h)
def Yob(M:Nat->Nat->RF)(r i:Nat)(q:RF):Nat->Nat->RF:=λs c=>if s=r/\c=i then q else M s c
end Pl
def Zgs(base:Nat)(w:World)(v:Value)(m n:Nat)(M:Nat->Nat->RF)(G C:Nat->Nat):Prop:=
 w.ownsRow base 34 1 v m (Zxu m n G C)/\(∀r,r<m->Yy base w (Zcz n G C r) (rfL n (M r)))/\∀r s,r<m->s<m->G r=G s->r=s
def Zgs.below{base:Nat}{w w':World}{v:Value}{m n:Nat}{M:Nat->Nat->RF}{G C:Nat->Nat}(h:Zgs base w v m n M G C)(hb:Below w.heap.size w w'):Zgs base w' v m n M G C:=
 ⟨own_below h.1 hb,λr hr=>(h.2.1 r hr).below hb,h.2.2⟩
def Zgs.lt{base:Nat}{w:World}{v:Value}{m n:Nat}{M:Nat->Nat->RF}{G C:Nat->Nat}(h:Zgs base w v m n M G C){r:Nat}(hr:r<m)(hn:0<n):base<=G r/\G r<w.heap.size/\n<=C r/\C r<=9223372036854775807:=by
 obtain⟨g,c,hv,h1,h2,h3,h4⟩:=(h.2.1 r hr).shape (by rw[Zw];exact hn);rw[Zw]at hv h3;unfold Zcz at hv;injection hv with e1 e2 e3;injection e1 with e1;injection e1 with e1;subst e1 e3;exact⟨h1,h2,h3,h4⟩
def Zgs.outer{base:Nat}{w:World}{v:Value}{m n:Nat}{M:Nat->Nat->RF}{G C:Nat->Nat}(h:Zgs base w v m n M G C)(hm:0<m):
 ∃g c,v= .slice (some ⟨g,0,none⟩) m c/\base<=g/\g<w.heap.size/\m<=c/\c<=9223372036854775807/\∀r,r<m->w.cell? ⟨g,r,none⟩=some (Zcz n G C r)/\w.frozen? ⟨g,r,none⟩=false:=by
 have h0:=h.1;rcases h.1.2 with⟨rfl,e⟩|⟨g,cap,cur,rfl,hb,hg,hnc,hcm,hcs,htake⟩
 ·omega
 ·unfold maxLen at hcm;exact⟨g,cap,rfl,hb,ZU hg,hnc,Qk,λr hr=>ZN h0 (Zda hr)⟩
def Zgs.at_{base:Nat}{w:World}{v:Value}{m n:Nat}{M:Nat->Nat->RF}{G C:Nat->Nat}(h:Zgs base w v m n M G C){r c:Nat}(hr:r<m)(hc:c<n):
 ∃A1 n1 c1 A2 n2 c2,(w.cell? ⟨G r,c*4,none⟩=some (.bool (M r c).num.neg)/\w.cell? ⟨G r,c*4+1,none⟩=some (.slice A1 n1 c1)/\w.cell? ⟨G r,c*4+2,none⟩=some (.bool (M r c).den.neg)/\w.cell? ⟨G r,c*4+3,none⟩=some (.slice A2 n2 c2))/\Zx w (.agg #[.bool (M r c).num.neg,.slice A1 n1 c1,.bool (M r c).den.neg,.slice A2 n2 c2]) (M r c):=by
 obtain⟨b,d,A1,n1,c1,A2,n2,c2,hA,_,a,hm⟩:=(h.2.1 r hr).frs.elem (JR _ _) (YE hc);injection hA with hA;injection hA with e1 e2;subst e1 e2;simp only[ji]at a;exact⟨A1,n1,c1,A2,n2,c2,a,hm⟩
def Zgs.frozen{base:Nat}{w:World}{v:Value}{m n:Nat}{M:Nat->Nat->RF}{G C:Nat->Nat}(h:Zgs base w v m n M G C){r c:Nat}(hr:r<m)(hc:c<n):
 w.frozen? ⟨G r,c*4,none⟩=false/\w.frozen? ⟨G r,c*4+1,none⟩=false/\w.frozen? ⟨G r,c*4+2,none⟩=false/\w.frozen? ⟨G r,c*4+3,none⟩=false:=by
 obtain⟨_,_,_,_,_,hf,_⟩:=(h.2.1 r hr).at_ (YE hc);exact hf
def Zgs.set_{base:Nat}{w:World}{v:Value}{m n:Nat}{M:Nat->Nat->RF}{G C:Nat->Nat}(h:Zgs base w v m n M G C){r c:Nat}(hr:r<m)(hc:c<n){x y z u:Value}{q:RF}(hf:Zx w (.agg #[x,y,z,u]) q):
 Zgs base ((((w.setCell ⟨G r,c*4,none⟩ x).setCell ⟨G r,c*4+1,none⟩ y).setCell ⟨G r,c*4+2,none⟩ z).setCell ⟨G r,c*4+3,none⟩ u) v m n (Yob M r c q) G C/\
 Zf 49 w ((((w.setCell ⟨G r,c*4,none⟩ x).setCell ⟨G r,c*4+1,none⟩ y).setCell ⟨G r,c*4+2,none⟩ z).setCell ⟨G r,c*4+3,none⟩ u):=by
 obtain⟨hs,hk⟩:=Yy.set_ (h.2.1 r hr) (k:=c) (by rw[Zw];exact hc) hf;rw[Uy hc]at hs;refine⟨⟨hk.own h.1 Ql,λs hs'=>?_,h.2.2⟩,hk⟩;by_cases e:s=r
 ·subst e;have:rfL n (Yob M s c q s)=rfL n (λi=>if i=c then q else M s i):=Wj λi _=>by
   unfold Yob;by_cases e:i=c
   ·rw[jB ⟨rfl,e⟩,jB e]
   ·rw[jA Qk,jA e]
  rw[this];exact hs
 ·have:rfL n (Yob M r c q s)=rfL n (M s):=Wj λi _=>by unfold Yob;rw[jA Qk]
  rw[this];refine(h.2.1 s hs').others Yw (hk.keep Ql) λb hb hne=>?_
  simp[Zcz,Value.ownBlock]at hb;injection hne with hne;exact e (h.2.2 s r hs' hr Qk)
def Zgs.far{base:Nat}{w w':World}{v:Value}{m n:Nat}{M:Nat->Nat->RF}{G C:Nat->Nat}(h:Zgs base w v m n M G C){g:Nat}(ho:ZA (some g) w w')(hk:Zf 49 w w')(hne:∀r,r<m->G r≠g):Zgs base w' v m n M G C:=
 ⟨hk.own h.1 Ql,λr hr=>(h.2.1 r hr).others ho (hk.keep Ql) λb hb e=>by
  simp[Zcz,Value.ownBlock]at hb
  injection e with e
  exact hne r hr Qk,h.2.2⟩
def Zgs.but{base:Nat}{w w':World}{v:Value}{m n:Nat}{M:Nat->Nat->RF}{G C:Nat->Nat}{e:TypeId}(h:Zgs base w v m n M G C)(hk:Zf e w w')(h1:34≠e)(h2:49≠e)(h3:71≠e):Zgs base w' v m n M G C:=
 ⟨hk.own h.1 h1,λr hr=>(h.2.1 r hr).but hk h2 h3,h.2.2⟩
def Zgs.cellAt{base:Nat}{w:World}{m n:Nat}{M:Nat->Nat->RF}{G C:Nat->Nat}{g c:Nat}(h:Zgs base w (.slice (some ⟨g,0,none⟩) m c) m n M G C){r:Nat}(hr:r<m):w.cell? ⟨g,r,none⟩=some (Zcz n G C r)/\w.frozen? ⟨g,r,none⟩=false:=ZN h.1 (Zda hr)
namespace Pl
def Zjn(es:List En)(g:Nat->Rat)(k:Int)(q:Rat):Nat->Rat
 |0=>q
 |t+1=>match es[t]? with
  |some e=>if e.idx=k then Zjn es g k q t else Zjn es g k q t - e.f.q*g e.idx.toNat
  |none=>Zjn es g k q t
def Yod{es:List En}{g:Nat->Rat}{k:Int}{q:Rat}{t:Nat}{e:En}(h:es[t]? =some e)(hk:e.idx=k):Zjn es g k q (t+1)=Zjn es g k q t:=by
 simp only[Zjn,h,jB hk]
def Yoe{es:List En}{g:Nat->Rat}{k:Int}{q:Rat}{t:Nat}{e:En}(h:es[t]? =some e)(hk:e.idx≠k):Zjn es g k q (t+1)=Zjn es g k q t - e.f.q*g e.idx.toNat:=by
 simp only[Zjn,h,jA hk]
end Pl
def Yrr(r:RF)(q:Rat)(n:Nat)(w:World)(wr:World):Prop:=
 ∃(f:RF) (A A':Option Addr) (l c l' c':Nat),f.q=q/\(f=r\/f=canF f.q)/\f.Rs n/\Bk wr w.heap.size 49 [.bool f.num.neg,.slice A l c,.bool f.den.neg,.slice A' l' c']/\Zx wr (.agg #[.bool f.num.neg,.slice A l c,.bool f.den.neg,.slice A' l' c']) f/\
  Bk wr (w.heap.size+1) 49 [.bool false,.slice none 0 0,.bool false,.slice none 0 0]/\Below w.heap.size w wr
def Zfw(v:Value)(es:List En)(e:En)(w:World)(h:Ur w v es)(he:es[es.length - 1]? =some e):
 Calls prog 159 #[v] w λo w'=>∃v',o= .returned v'/\Zx w' v' e.f/\Below w.heap.size w w':=by
 obtain⟨A,c,rfl,j,m⟩:=h.shape;have hp:0<es.length:=by have:=(JO.1 he).1;omega
 obtain⟨W,hW,hR,a⟩:=Xp w (.bool false) (.slice none 0 0) (.bool false) (.slice none 0 0);obtain⟨b,n,A1,n1,k1,A2,n2,k2,rfl,p,⟨x0,x1,x2,x3,x4⟩,d⟩:=h.elem a he;generalize hk:es.length - 1=k at *;generalize hl:es.length=l at *;have g:(l:Int) - 1=(k:Int):=Qk
 have i:(k:Int)<l:=Qk
 obtain⟨ei,f⟩:=e;simp only at *;obtain⟨c0,c1,c2,c3⟩:=hR.four;obtain⟨f0,f1,f2,f3⟩:=hR.fourF;clear he hl hk h hp;go_enter func159,ntmps159;go_wp2;refine Zq results159 underlying49 Qm rfl (hR.set4 _ _ _ _) rfl ?_;exact YA hR d a (JY _)
def Uz(va vb vd:Value)(r:RF)(es:List En)(kk:Int)(ws:List RF)(K J:Nat)(w:World)(h1:Zx w va r)(h2:Ur w vb es)(h3:UY w vd ws)(hin:inR ws.length es)(hr:r.Rs J)(hJ:1<=J)(ha:∀(k:Nat) (e:En),es[k]? =some e->e.f.Rs K)(hb:RsL K ws)(hK:1<=K)(hs:J+es.length* (2*K+1)<=34359738368)(hs2:2*K<=34359738368):
 Calls prog 158 #[va,vb,.int .i64 kk,vd] w λo w'=>∃v' f,o= .returned v'/\Zx w' v' f/\f.q=Zjn es (qAt ws) kk r.q es.length/\(f=r\/f=canF f.q)/\f.Rs (J+es.length* (2*K+1))/\Below w.heap.size w w':=by
 obtain⟨R1,m1,d1,R2,m2,d2,rfl,_,_⟩:=id h1;obtain⟨A,c,rfl,b4,b5⟩:=h2.shape;obtain⟨A',c',rfl,b6,b7⟩:=h3.shape;generalize hn:es.length=l at *;generalize hm:ws.length=m at *;have HN:=JZ hn;have HM:=JZ hm;have HA:=JZ ha;have HB:=JZ hb;have HS:=JZ hs;have HI:=JZ hin;obtain⟨TQ,U⟩:∃TQ:Nat->Rat,TQ=Zjn es (qAt ws) kk r.q:=⟨_,rfl⟩;rw[<-U];have ae:=JZ U;have af:r.q=TQ 0:=by rw[U];rfl
 obtain⟨TZ,V⟩:∃TZ:Nat->Nat,TZ=λk=>J+k* (2*K+1):=⟨_,rfl⟩
 have HL:J+l* (2*K+1)=TZ l:=by rw[V]
 rw[HL];have au:Hid (∀k,k<=l->1<=TZ k/\TZ k<=34359738368/\TZ (k+1)=TZ k+(2*K)+1):=JZ λk hk=>by
  rw[V];have:=JS (2*K+1) hk;refine⟨by dsimp only;omega,by dsimp only;omega,?_⟩;simp only[Nat.succ_mul];omega
 have ag:r.Rs (TZ 0):=by rw[V];simpa using hr
 obtain⟨W,hW,_,hX,hR,x⟩:=Zoe w (.bool r.num.neg) (.slice R1 m1 d1) (.bool r.den.neg) (.slice R2 m2 d2) (.bool false) (.slice none 0 0) (.bool false) (.slice none 0 0);have ST:Hid (Yrr r (TQ 0) (TZ 0) w W):=JZ ⟨r,R1,R2,m1,d1,m2,d2,af,.inl rfl,ag,hX,h1.below x,hR,x⟩;clear hn hm ha hb hs U hin hr af HL V ag hX hR x h1;go_enter func158,ntmps158;go_wp2;clear hW
 go_loopw [13] (λi wr=>∃k:Nat,k<=l/\i= .int .i64 k/\Yrr r (TQ k) (TZ k) w wr) (λi _=>l - (intOf i).toNat)
 case atStart=>exact⟨0,Qk,rfl,ST.out⟩
 case round=>
  obtain⟨k,hk,rfl,DK,C,C',p,q,p',q',X,ao,F,hX,hF,hR,x⟩:=hrel;have a1:=JZ ao;clear ao;rcases JX k l with hkl|hkl
  ·obtain⟨e,he⟩:=X3 (es:=es) (i:=k) (by rw[HN.out];exact hkl);obtain⟨b,b8,A1,n1,k1,A2,n2,k2,rfl,b9,ay,ap⟩:=h2.elem x he;obtain⟨i0,i1⟩:=HI.out k e he;obtain⟨j,hj⟩:=JT i0;obtain⟨f',Y⟩:=YJ (fs:=ws) (i:=j) (by rw[HM.out];omega);have av:Hid ((j:Int)=kk->TQ (k+1)=TQ k):=JZ λg=>by rw[ae.out];exact Yod he (by rw[hj];exact g)
   have aw:Hid ((j:Int)≠kk->TQ (k+1)=TQ k - e.f.q*f'.q):=JZ λg=>by rw[ae.out,Yoe he (by rw[hj];exact g),hj,JP,YW Y]
   have I:=HA.out k e he;obtain⟨ei,f⟩:=e;simp only at *;subst hj;obtain⟨x0,x1,x2,x3,x4⟩:=ay;obtain⟨W1,Z,hV,O⟩:=Zkf wr (.int .i64 (j:Int)) (.bool f.num.neg) (.slice A1 n1 k1) (.bool f.den.neg) (.slice A2 n2 k2);have d:=Za x O x.size;obtain⟨b',b0,A3,n3,k3,A4,n4,k4,rfl,b1,G,y⟩:=h3.elem d Y;obtain⟨u0,u1,u2,u3⟩:=id G;obtain⟨v0,v1,v2,v3,v4⟩:=hV.five;have ah:=ap.below O;have P:=hX.later O;have R:=hR.later O;have S:=hF.below O;have b2:(k:Int)<l:=Qk;have b3:(j:Int)<m:=Qk;have z:=HB.out j f' Y;have ai:=I.sm Qk;have a0:=z.sm Qk;obtain⟨aq,ar,az⟩:=au.out k hk;have aj:TZ (k+1)=TZ k+(K+K)+1:=Qk;have a2:=Vn (I.sz hK) (z.sz hK);have ak:(canF (f.q*f'.q)).Sm:=(a2.sh Qk).sm;have al:DK.Sm:=F.sm ar;have am:Hid (DK.Rs (TZ (k+1))):=JZ (F.mono Qk);have a3:Sz (TZ (k+1)) (DK.q - f.q*f'.q):=(by rw[aj];exact Zfm (F.sz aq) a2);have T:=JZ X;clear he Y hX hR hF x ap X F a2 aq ar az aj I z;by_cases H:(j:Int)=kk
   ·have a4:Hid (DK.q=TQ (k+1)):=JZ (by rw[av.out H,T.out]);have an:((j:Int) !=kk)=false:=(by simpa using H);clear H a3 G;go_wp2;clear Z;go_roundw
    case rel=>exact⟨k+1,Qk,by go_num,DK,C,C',p,q,p',q',a4.out,a1.out,am.out,P,S,R,d⟩
    case measure=>exact Qn
   ·have a5:=JZ (aw.out H);have an:((j:Int) !=kk)=true:=(by simpa using H);have ax:qs f'.q=0\/qs f'.q=1\/qs f'.q= -1:=(by have:=VY f'.q;omega);have HV:Hid (DK.q - (canF (f.q*f'.q)).q=TQ (k+1)):=JZ (by rw[Zv,a5.out,T.out]);have HZ:Hid ((canF (TQ (k+1))).Rs (TZ (k+1))):=JZ (by rw[a5.out,<-T.out];exact a3.rs);clear H a3;rcases ax with hq'|hq'|hq'
    ·have a4:Hid (DK.q=TQ (k+1)):=JZ (by rw[a5.out,T.out,Yg.1 hq'];grind);go_wp2_with fail;clear Z;refine(Zy _ f' _ y).mono ?_;rw[hq'];rintro e w5 ⟨rfl,a⟩;have B:=P.later a;have L:=R.later a;have M:=S.below a;have h:=Za d a d.size;go_wp2;go_roundw
     case rel=>exact⟨k+1,Qk,by go_num,DK,C,C',p,q,p',q',a4.out,a1.out,am.out,B,M,L,h⟩
     case measure=>exact Qn
    ·have hq:qs f'.q=1:=hq';go_wp2_with fail;clear Z;refine(Zy _ f' _ y).mono ?_;rw[hq];rintro e w5 ⟨rfl,a⟩;have B:=P.later a;have L:=R.later a;have M:=S.below a;have a6:=hV.later a;have h:=Za d a d.size;have a7:=ah.below a;have N:=y.below a;obtain⟨y0,y1,y2,y3⟩:=Zbq a G;clear u0 u1 u2 u3 hq G x0 x1 x2 x3 x4 v0 v1 v2 v3 v4;obtain⟨v0,v1,v2,v3,v4⟩:=a6.five;obtain⟨z0,z1,z2,z3⟩:=B.four
     go_upto_region 5 with(fail)
     have C0:=Zm y0;have C1:=Zm y1;have C2:=Zm y2;have C3:=Zm y3;have D0:=Zm v0;have D1:=Zm v1;have D2:=Zm v2;have D3:=Zm v3;have D4:=Zm v4;have E0:=Zm z0;have E1:=Zm z1;have E2:=Zm z2;have E3:=Zm z3;have n:=Zc w5;clear y0 y1 y2 y3 v0 v1 v2 v3 v4 z0 z1 z2 z3;refine Zj 10 [0,1,2,3,4,5,6,7,8,9,10] Qm Qm ?_;refine Qb ?_
     refine Qo λ_ kq=>?_;(with_reducible refine(WV _ _ f f' _ (a7.below n) (N.below n) ai a0).mono ?_);rintro _ w6 ⟨v6,rfl,e6,ac⟩;have s:=Za n ac n.size;refine kq.out _ _ (.inr s) (Qc ?_);clear kq
     refine Qo λ_ kq=>?_;(with_reducible refine(VN _ _ DK (canF (f.q*f'.q)) _ (M.below s) e6 al ak).mono ?_);rw[HV.out];rintro _ w7 ⟨v7,rfl,e7,ad⟩;have t:=Za s ad s.size;obtain⟨E,l9,k9,E',aa,ab,rfl,_,_⟩:=id e7;have u:=B.later t;have a8:=L.later t;obtain⟨c0,c1,c2,c3⟩:=u.four;obtain⟨f0,f1,f2,f3⟩:=u.fourF;refine kq.out _ _ (.inr t) (Qj ?_);clear kq;refine Qh ?_;refine Zl ?_;clear C0 C1 C2 C3 D0 D1 D2 D3 D4 E0 E1 E2 E3;have bb:=Za h t h.size;have a9:=a8.far4 (show w.heap.size+1≠w.heap.size by omega);go_wp2;go_roundw
     case rel=>exact⟨k+1,Qk,by go_num,_,E,E',l9,k9,aa,ab,Zv _,.inr (by rw[Zv]),HZ.out,u.set4 _ _ _ _,e7.keep (u.keep4 Ql _ _ _ _),a9 _ _ _ _,ZE bb (JY _) _ _ _ _⟩
     case measure=>exact Qn
    ·have hq:qs f'.q= -1:=hq';go_wp2_with fail;clear Z;refine(Zy _ f' _ y).mono ?_;rw[hq];rintro e w5 ⟨rfl,a⟩;have B:=P.later a;have L:=R.later a;have M:=S.below a;have a6:=hV.later a;have h:=Za d a d.size;have a7:=ah.below a;have N:=y.below a;obtain⟨y0,y1,y2,y3⟩:=Zbq a G;clear u0 u1 u2 u3 hq G x0 x1 x2 x3 x4 v0 v1 v2 v3 v4;obtain⟨v0,v1,v2,v3,v4⟩:=a6.five;obtain⟨z0,z1,z2,z3⟩:=B.four
     go_upto_region 5 with(fail)
     have C0:=Zm y0;have C1:=Zm y1;have C2:=Zm y2;have C3:=Zm y3;have D0:=Zm v0;have D1:=Zm v1;have D2:=Zm v2;have D3:=Zm v3;have D4:=Zm v4;have E0:=Zm z0;have E1:=Zm z1;have E2:=Zm z2;have E3:=Zm z3;have n:=Zc w5;clear y0 y1 y2 y3 v0 v1 v2 v3 v4 z0 z1 z2 z3;refine Zj 10 [0,1,2,3,4,5,6,7,8,9,10] Qm Qm ?_;refine Qb ?_
     refine Qo λ_ kq=>?_;(with_reducible refine(WV _ _ f f' _ (a7.below n) (N.below n) ai a0).mono ?_);rintro _ w6 ⟨v6,rfl,e6,ac⟩;have s:=Za n ac n.size;refine kq.out _ _ (.inr s) (Qc ?_);clear kq
     refine Qo λ_ kq=>?_;(with_reducible refine(VN _ _ DK (canF (f.q*f'.q)) _ (M.below s) e6 al ak).mono ?_);rw[HV.out];rintro _ w7 ⟨v7,rfl,e7,ad⟩;have t:=Za s ad s.size;obtain⟨E,l9,k9,E',aa,ab,rfl,_,_⟩:=id e7;have u:=B.later t;have a8:=L.later t;obtain⟨c0,c1,c2,c3⟩:=u.four;obtain⟨f0,f1,f2,f3⟩:=u.fourF;refine kq.out _ _ (.inr t) (Qj ?_);clear kq;refine Qh ?_;refine Zl ?_;clear C0 C1 C2 C3 D0 D1 D2 D3 D4 E0 E1 E2 E3;have bb:=Za h t h.size;have a9:=a8.far4 (show w.heap.size+1≠w.heap.size by omega);go_wp2;go_roundw
     case rel=>exact⟨k+1,Qk,by go_num,_,E,E',l9,k9,aa,ab,Zv _,.inr (by rw[Zv]),HZ.out,u.set4 _ _ _ _,e7.keep (u.keep4 Ql _ _ _ _),a9 _ _ _ _,ZE bb (JY _) _ _ _ _⟩
     case measure=>exact Qn
  ·obtain rfl:k=l:=Qk
   obtain⟨x1,x2,x3,x4⟩:=hX.four;obtain⟨c0,c1,c2,c3⟩:=hR.four;obtain⟨f0,f1,f2,f3⟩:=hR.fourF;have HQ:=JZ X;have HR:=JZ F;clear X F;go_wp2;refine Zq results158 underlying49 Qm rfl (hR.set4 _ _ _ _) rfl ?_;exact⟨_,DK,rfl,hF.keep (hR.keep4 Ql _ _ _ _),HQ.out,a1.out,HR.out,ZE x (Nat.le_succ _) _ _ _ _⟩
end Go.Proofs.YtobadipflggkiaaGreat
