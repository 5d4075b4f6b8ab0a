/- Lemmas of the claim; no condition. -/
import Derived.OwnWalk
import Derived.Maps.Own
import Derived.Great.BuildSlice
import Derived.Test.YtobadipflggkiaaGreatW7
set_option linter.all false
set_option maxRecDepth 100000
set_option maxHeartbeats 40000000
namespace Go.Proofs.YtobadipflggkiaaGreat
open Go.RowKit
open Pl Tryz
attribute [local go_sem ↓] Go.wp_at_zero Go.wp_at_succ
def Yy.monoB{base base':Nat}{w:World}{v:Value}{fs:List RF}(h:Yy base w v fs)(hb:base'<=base):Yy base' w v fs:=by
 obtain⟨cs,h1,h2⟩:=h;exact⟨cs,VJ h1 hb,h2⟩
def Yy.own_ge{base:Nat}{w:World}{v:Value}{fs:List RF}(h:Yy base w v fs):∀g,v.ownBlock=some g->base<=g:=by
 obtain⟨cs,h1,h2⟩:=h;intro g hg;exact(h1.lt g hg).1
namespace Pl
structure LSt where
 phase:Int
 basis:List Int
 pivots:Int
def LSt.In(p:LPd)(s:LSt):Prop:=∀(i:Nat) (z:Int),s.basis[i]? =some z-> -(p.right.length:Int)<=z/\z<p.cols.length
def LSt.at_(s:LSt)(i:Nat):Int:=s.basis.getD i 0
def LSt.mat(p:LPd)(s:LSt):Mx:=λi=>p.col (s.at_ i)
def LSt.at_eq{s:LSt}{i:Nat}{z:Int}(h:s.basis[i]? =some z):s.at_ i=z:=by simp[LSt.at_,List.getD,h]
end Pl
def StM(w:World)(v:Value)(s:LSt):Prop:=∃A n c,v= .agg #[.int .i64 s.phase,.slice A n c,.int .i64 s.pivots]/\Z6 w (.slice A n c) s.basis
def StM.below{w w':World}{v:Value}{s:LSt}(h:StM w v s)(hb:Below w.heap.size w w'):StM w' v s:=by
 obtain⟨A,n,c,h1,h2⟩:=h;exact⟨A,n,c,h1,h2.below hb⟩
def Zfq(w:World)(x y z:Value):∃W,w.alloc (.cells #[x,y,z] 41)=W/\Bk W w.heap.size 41 [x,y,z]/\Below w.heap.size w W:=⟨_,rfl,Bk.new w _ [x,y,z],Ze w _⟩
def Z6.len{w:World}{A:Option Addr}{n c:Nat}{zs:List Int}(h:Z6 w (.slice A n c) zs):n=zs.length/\n<=c/\c<=9223372036854775807:=by
 obtain⟨a,cap,h1,h2,h3⟩:=h.shape;injection h1 with e1 e2 e3;subst e2 e3;exact⟨rfl,h2,h3⟩
namespace Pl
def Zqx(m:Nat)(cols:Mx)(b:Nat->Rat):List RF:=match XC m cols b with|some x=>Yn m x|none=>[]
def Zhv{m:Nat}{cols:Mx}{b x:Nat->Rat}(h:XC m cols b=some x):Zqx m cols b=Yn m x:=by unfold Zqx;rw[h]
def Ybn{m:Nat}{cols:Mx}{b:Nat->Rat}(h:XC m cols b=none):Zqx m cols b=[]:=by unfold Zqx;rw[h]
end Pl
namespace Pl
def LPd.Fit(p:LPd)(K:Nat):Prop:=p.Ok K/\p.In/\p.right.length<=64/\p.cost.length=p.cols.length/\p.cols.length<=1200/\1<=K/\130* (5^p.right.length*K)+200<=8589934592
def LPd.Fit.k1{p:LPd}{K:Nat}(h:p.Fit K):1<=K:=h.2.2.2.2.2.1
def LPd.Fit.le{p:LPd}{K:Nat}(_h:p.Fit K):K<=5^p.right.length*K:=by
 have:=JS K (jS (show 0<5 by decide) (iI p.right.length));simpa using this
def LPd.Fit.kb{p:LPd}{K:Nat}(h:p.Fit K):K<=34359738368:=by
 have h1:=h.le;have h2:=h.2.2.2.2.2.2;omega
def LPd.Fit.ok{p:LPd}{K:Nat}(h:p.Fit K):p.Ok K:=h.1
def LPd.Fit.cl{p:LPd}{K:Nat}(h:p.Fit K):p.cost.length=p.cols.length:=h.2.2.2.1
def LPd.Fit.cols{p:LPd}{K:Nat}(h:p.Fit K):p.cols.length<=1200:=h.2.2.2.2.1
def LPd.Fit.rs{p:LPd}{K:Nat}(h:p.Fit K):RsL K p.right:=h.1.2.1
def LPd.Fit.cs{p:LPd}{K:Nat}(h:p.Fit K):RsL K p.cost:=h.1.1
def LSt.Fit(p:LPd)(s:LSt):Prop:=s.In p/\s.basis.length=p.right.length
def LSt.Fit.in_{p:LPd}{s:LSt}(h:s.Fit p):s.In p:=h.1
def LSt.Fit.len{p:LPd}{s:LSt}(h:s.Fit p):s.basis.length=p.right.length:=h.2
def ordQ(p:LPd)(j:Int):Int:=if 0<=j then j else p.cols.length - 1 - j
def XE(p:LPd)(ph j:Int):Rat:=if ph=1/\j<0 then 1 else if ph=2/\0<=j then qAt p.cost j.toNat else 0
def Zhw{p:LPd}{j:Int}(h:j<0):XE p 1 j=1:=by unfold XE;rw[jB ⟨rfl,h⟩]
def Ub{p:LPd}{j:Int}(h:0<=j):XE p 2 j=qAt p.cost j.toNat:=by unfold XE;rw[jA Qk,jB ⟨rfl,h⟩]
def Ws{p:LPd}{ph j:Int}(h1:¬(ph=1/\j<0))(h2:¬(ph=2/\0<=j)):XE p ph j=0:=by unfold XE;rw[jA h1,jA h2]
def Zhx{p:LPd}{K:Nat}(ok:p.Ok K)(hK:1<=K)(ph j:Int):Sz K (XE p ph j):=by
 unfold XE;split
 ·exact Sz_one.mono hK
 ·split
  ·exact ok.1.qAt hK _
  ·exact Sz_zero.mono hK
def Zdb(s:LSt)(zs:List RF):Nat->Bool
 |0=>false
 |k+1=>Zdb s zs k ||(decide (s.at_ k<0) && decide (qAt zs k≠0))
def Zdc{s:LSt}{zs:List RF}{k:Nat}(h1:s.at_ k<0)(h2:qAt zs k≠0):∀{n:Nat},k<n->Zdb s zs n=true
 |0,h=>Qk
 |n+1,h=>by
  unfold Zdb
  rcases JX k n with hk|hk
  ·rw[Zdc h1 h2 hk];rfl
  ·obtain rfl:k=n:=Qk
   simp[h1,h2]
def zL(p:LPd)(s:LSt):List RF:=Zqx p.right.length (s.mat p) (qAt p.right)
def zOk(p:LPd)(s:LSt):Bool:=(XC p.right.length (s.mat p) (qAt p.right)).isSome
def XF(p:LPd)(s:LSt):List RF:=Zqx p.right.length (λr k=>s.mat p k r) (qAt (Yn p.right.length λi=>XE p s.phase (s.at_ i)))
def Ybo{m K:Nat}{cols:Mx}{b:Nat->Rat}(h:∀r c,r<m->c<m->Sz K (cols c r))(hb:∀r,r<m->Sz K (b r)):RsL (5^m*K) (Zqx m cols b):=by
 unfold Zqx
 cases e:XC m cols b with
 |none=>exact RsL.nil _
 |some x=>exact Zlz (Zup h hb e)
def Yqt{p:LPd}{K:Nat}(F:p.Fit K)(s:LSt):RsL (5^p.right.length*K) (zL p s):=Ybo (λ_ _ _ _=>LPd.Sz_col F.1 F.k1 _ _) λr _=>F.1.2.1.qAt F.k1 r
def Ybp{p:LPd}{K:Nat}(F:p.Fit K)(s:LSt):RsL (5^p.right.length*K) (XF p s):=Ybo (λ_ _ _ _=>LPd.Sz_col F.1 F.k1 _ _) λr hr=>by rw[YB hr];exact Zhx F.1 F.k1 _ _
end Pl
namespace Pl
def VA(p:LPd)(s:LSt)(j:Int):Rat:=XE p s.phase j - Zxm (XF p s) (Yn p.right.length (p.col j)) (min (XF p s).length p.right.length)
end Pl
section
inductive Zen where
 |done
 |go (i:Nat) (p:Zen)
 |fork (i:Nat) (p:Zen) (j:Nat) (q:Zen)
 |bag (l:List Nat) (p:Zen)
def Zen.of:List Nat->Zen->Zen
 | [],p=>p
 |i::is,p=> .go i (Zen.of is p)
def Yhl(md:Region.Mode)(ops:Array Oper)(n:Nat)(K:Array Bool->Bool):Nat->List Nat->Array Bool->Bool
 |0,_,listed=>K listed
 |m+1,l,listed=>l.all (λk=>listed.getD k true==false) && (!(Region.ready md ops listed).isEmpty && (Region.ready md ops listed).all λi=>(l.contains i && decide (i<n)) && Yhl md ops n K m (l.erase i) (listed.setIfInBounds i true))
def U3(md:Region.Mode)(ops:Array Oper)(n:Nat):Bool->Zen->Array Bool->Bool
 |_,.done,listed=>Region.ready md ops listed==[]
 |d,.go i p,listed=>Yhh md ops n listed i && (!(d && (X7 ops n i && !Zht ops i)) && U3 md ops n (d || decide (n<=i)) p (listed.setIfInBounds i true))
 |d,.fork i p j q,listed=>(!X7 ops n i && !X7 ops n j) && (Region.ready md ops listed==[i,j] && (U3 md ops n (d || decide (n<=i)) p (listed.setIfInBounds i true) && U3 md ops n (d || decide (n<=j)) q (listed.setIfInBounds j true)))
 |d,.bag l p,listed=> !d && Yhl md ops n (λb=>U3 md ops n false p b) l.length l listed
section
variable {P:Program} {ops:Array Oper} {Q:Exit->Act->World->Prop} {md:Region.Mode} {S:World->Prop} {n:Nat}
def Y9(P:Program)(ops:Array Oper)(Q:Exit->Act->World->Prop)(S:World->Prop)(n i:Nat)(K:Act->World->Prop)(a:Act)(w:World):Prop:=match ops[i]? with
 |none=>True
 |some o=>if Region.wanted o (yielded ops a.tmps)=true then Oper.wp P o a w (λa' w'=>(n<=i\/S w')/\K a' w') Q else(n<=i\/S w)/\K (a.put o.dst undef) w
def Yhm(P:Program)(ops:Array Oper)(Q:Exit->Act->World->Prop)(md:Region.Mode)(S:World->Prop)(n:Nat)(K:Act->World->Prop):Nat->List Nat->Act->World->Prop
 |0,_,a,w=>K a w
 |m+1,l,a,w=>∀i oi,i∈l->ops[i]? =some oi->(∀e∈oi.after,Region.binds md e=true->e.on ∉ l)->Y9 P ops Q S n i (Yhm P ops Q md S n K m (l.erase i)) a w
def Yr(P:Program)(ops:Array Oper)(Q:Exit->Act->World->Prop)(S:World->Prop)(n:Nat):Zen->Act->World->Prop
 | .done,a,w=>Q .normal a w
 | .go i p,a,w=>match ops[i]? with
  |none=>True
  |some o=>if X7 ops n i=true then∃v,(if Zht ops i=true then YieldsIf P ops (λ_=>True) o v a else YieldsIf P ops S o v a)/\Yr P ops Q S n p (a.put o.dst v) w else Y9 P ops Q S n i (Yr P ops Q S n p) a w
 | .fork i p j q,a,w=>Y9 P ops Q S n i (Yr P ops Q S n p) a w/\Y9 P ops Q S n j (Yr P ops Q S n q) a w
 | .bag l p,a,w=>Yhm P ops Q .any S n (Yr P ops Q S n p) l.length l a w
def Y9.wpOp{i:Nat}{o:Oper}{K:Act->World->Prop}{a:Act}{w:World}(ho:ops[i]? =some o)(h:Y9 P ops Q S n i K a w):Go.wpOp P ops Q i (λa' w'=>(n<=i\/S w')/\K a' w') a w:=by
 unfold Y9 at h;rw[ho]at h;unfold Go.wpOp;rw[ho];show if Region.wanted o (yielded ops a.tmps)=true then _ else _
 have h:if Region.wanted o (yielded ops a.tmps)=true then Oper.wp P o a w (λa' w'=>(n<=i\/S w')/\K a' w') Q else(n<=i\/S w)/\K (a.put o.dst undef) w:=h
 split
 ·rename_i hw;rw[jB hw]at h;exact .inl h
 ·rename_i hw;rw[jA hw]at h;exact h
def Zen.len:Zen->Nat
 | .done=>0
 | .go _ p=>p.len+1
 | .fork _ p _ _=>p.len+1
 | .bag l p=>p.len+l.length
def Zen.even:Zen->Bool
 | .done=>true
 | .go _ p=>p.even
 | .fork _ p _ q=>p.even && (q.even && (p.len==q.len))
 | .bag _ p=>p.even
def Ylh(md:Region.Mode)(ops:Array Oper)(n:Nat)(p:Zen):Bool:=Region.noSelect ops && (U3 md ops n false p (Array.replicate ops.size false) && (p.even && decide (p.len=ops.size)))
def AnyG.of_plan(hQ:∀c a d v w,Q (.panic c) (a.put d v) w->Q (.panic c) a w)(hs:Region.noSelect ops=true):
 ∀(p:Zen) (listed:Array Bool) (a:Act) (w:World) (d:Bool),p.even=true->U3 .any ops n d p listed=true->(d=false->S w)->Yr P ops Q S n p a w->AnyG P .any ops Q S n p.len listed a w:=by
 intro p
 induction p with
 |done=>
  intro listed a w d _ f _ h;exact⟨by simpa[U3]using f,h⟩
 |go i p ih=>
  intro listed a w d g f hS h;simp only[U3,jU]at f;obtain⟨r,hd,f⟩:=f;unfold Yr at h;unfold Yhh at r;split at r
  ·rename_i hf
   simp only[jU]at r;obtain⟨h1,h2,h3⟩:=r;have s:=hf;simp only[X7,jU,jh]at s;obtain⟨o,ho⟩:∃o,ops[i]? =some o:=by
    cases hc:ops[i]? with
    |none=>rw[hc]at s;simp at s
    |some o=>exact⟨o,rfl⟩
   simp only[ho]at h;rw[jB hf]at h;obtain⟨v,hy,hr⟩:=h;by_cases hp:Zht ops i=true
   ·rw[jB hp]at hy;exact Zki ho hs h1 h2 (λc a w=>hQ c a o.dst v w) hy (ih _ _ w _ g f (λhd'=>hS (by simp at hd';exact hd'.1)) hr)
   ·rw[jA hp]at hy;have A:d=false:=(by rw[hf]at hd;simpa[hp]using hd);have hw:=hS A;exact Zkj ho hs h1 h2 (by simpa[hp]using h3) (λc a w=>hQ c a o.dst v w) hy hw (ih _ _ w _ g f (λ_=>hw) hr)
  ·rename_i hf
   have hr:Region.ready .any ops listed=[i]:=(by simpa using r);have hi:i∈Region.ready .any ops listed:=(by rw[hr];exact vZ.2 rfl);obtain⟨_,o,ho,_⟩:=aG.1 hi;simp only[ho]at h;rw[jA hf]at h;refine⟨λh0=>(by rw[hr]at h0;cases h0),λj hj=>?_⟩;rw[hr]at hj;obtain rfl:j=i:=by simpa using hj
   exact aU (λa' w' h'=>⟨h'.1.imp id (λh _=>h),ih _ a' w' _ g f (λhle=>h'.1.resolve_left (by simp at hle;omega)) h'.2⟩) (h.wpOp ho)
 |fork i p j q ihp ihq=>
  intro listed a w d g f hS h;simp only[U3,jU]at f;obtain⟨_,hr,C,D⟩:=f;simp only[Zen.even,jU,BP]at g;obtain⟨E,F,u⟩:=g;have hr:Region.ready .any ops listed=[i,j]:=by simpa using hr
  obtain⟨h1,h2⟩:=h;have hi:i∈Region.ready .any ops listed:=by rw[hr];simp
  have hj:j∈Region.ready .any ops listed:=by rw[hr];simp
  obtain⟨_,oi,G,_⟩:=aG.1 hi;obtain⟨_,oj,H,_⟩:=aG.1 hj;refine⟨λh0=>(by rw[hr]at h0;cases h0),λk hk=>?_⟩;rw[hr]at hk;simp only[jw,eQ,or_false]at hk;rcases hk with rfl|rfl
  ·exact aU (λa' w' h'=>⟨h'.1.imp id (λh _=>h),ihp _ a' w' _ E C (λhle=>h'.1.resolve_left (by simp at hle;omega)) h'.2⟩) (h1.wpOp G)
  ·exact aU (λa' w' h'=>⟨h'.1.imp id (λh _=>h),by rw[u];exact ihq _ a' w' _ F D (λhle=>h'.1.resolve_left (by simp at hle;omega)) h'.2⟩) (h2.wpOp H)
 |bag l p ih=>
  intro listed a w d g f hS h;simp only[U3,jU,aR]at f;obtain⟨hd,f⟩:=f;have B:∀(m:Nat) (l:List Nat) (listed:Array Bool) (a:Act) (w:World),Yhl .any ops n (λb=>U3 .any ops n false p b) m l listed=true->S w->Yhm P ops Q .any S n (Yr P ops Q S n p) m l a w->AnyG P .any ops Q S n (p.len+m) listed a w:=by
   intro m
   induction m with
   |zero=>exact λl listed a w hg hw h=>ih listed a w false g hg (λ_=>hw) h
   |succ m ihm=>
    intro l listed a w hg hw h;simp only[Yhl,jU,aR,dA,jh,BP]at hg;obtain⟨I,x,y⟩:=hg;refine⟨λh0=>(by rw[h0]at x;simp at x),λj hj=>?_⟩;obtain⟨_,o,ho,z⟩:=aG.1 hj;obtain⟨⟨t,K⟩,J⟩:=y j hj;have t:j∈l:=(by simpa using t);exact aU (λa' w' h'=>⟨h'.1.imp id (λh _=>h),ihm _ _ a' w' J (h'.1.resolve_left Qk) h'.2⟩) ((h j o t ho λe he hb hin=>by
     have h1:=z e he hb;have h2:=I e.on hin;rcases JX e.on listed.size with h'|h'
     ·simp[h']at h1 h2;rw[h1]at h2;cases h2
     ·simp[aP h']at h2).wpOp ho)
  exact B _ _ _ _ _ f (hS hd) h
def Xk{id:Nat}{l:List Oper}{a:Act}{w:World}(n:Nat)(p:Zen)(hm:P.follows .mixedOrders=true)(hok:Ylh .any l.toArray n p=true)
 (h:Yr P l.toArray (NoPanic Q) (λw'=>Below w.heap.size w w') n p a w.drew):(Code.region id l.toArray true).wp P Q a w:=by
 simp only[Ylh,jU,jh]at hok;obtain⟨hs,b,e,hl⟩:=hok;refine Be (wp_region_any hm (AnyG.any _ _ _ _ (S:=λw'=>Below w.heap.size w w') (n:=n) ?_));have:=AnyG.of_plan (P:=P) (Q:=NoPanic Q) (S:=λw'=>Below w.heap.size w w') (λc a d v w h=>h) hs p _ a w.drew false e b (λ_=>(JR _ _).drew) h
 rwa[hl]at this
def YQ{a:Act}{w:World}(h:Q .normal a w):Yr P ops (NoPanic Q) S n .done a w:=h
def Z9{o:Oper}{i:Nat}{p:Zen}{a:Act}{w:World}{v:Value}(ho:ops[i]? =some o)(hf:(X7 ops n i && !Zht ops i)=true)(hw:Region.wanted o (yielded ops a.tmps)=true)(hy:∀w',S w'->(execOp a.eval o).run P w'= .ok (.value v) w')(h:Yr P ops Q S n p (a.put o.dst v) w):Yr P ops Q S n (.go i p) a w:=by
 simp only[jU,aR]at hf;unfold Yr;rw[ho];show if _ then _ else _
 rw[jB hf.1];exact⟨v,by rw[jA (by simp[hf.2])];exact .inl ⟨hw,hy⟩,h⟩
def ZV{o:Oper}{i:Nat}{p:Zen}{a:Act}{w:World}{v:Value}(ho:ops[i]? =some o)(hf:(X7 ops n i && Zht ops i)=true)(hw:Region.wanted o (yielded ops a.tmps)=true)(hy:∀w',True->(execOp a.eval o).run P w'= .ok (.value v) w')(h:Yr P ops Q S n p (a.put o.dst v) w):Yr P ops Q S n (.go i p) a w:=by
 simp only[jU]at hf;unfold Yr;rw[ho];show if _ then _ else _
 rw[jB hf.1];exact⟨v,by rw[jB hf.2];exact .inl ⟨hw,hy⟩,h⟩
def Ya{o:Oper}{i:Nat}{p:Zen}{a:Act}{w:World}(ho:ops[i]? =some o)(hf:X7 ops n i=true)(hw:Region.wanted o (yielded ops a.tmps)=false)(h:Yr P ops Q S n p (a.put o.dst undef) w):Yr P ops Q S n (.go i p) a w:=by
 unfold Yr;rw[ho];show if _ then _ else _
 rw[jB hf];exact⟨undef,by split <;> exact .inr ⟨hw,rfl⟩,h⟩
def Zao{o:Oper}{i:Nat}{K:Act->World->Prop}{a:Act}{w:World}(ho:ops[i]? =some o)
 (h:∀K':Act->World->Prop,Shut (∀a w,(n<=i\/S w)->K a w->K' a w)->if Region.wanted o (yielded ops a.tmps)=true then Oper.wp P o a w K' Q else K' (a.put o.dst undef) w):Y9 P ops Q S n i K a w:=by
 have h1:=h (λa' w'=>(n<=i\/S w')/\K a' w') (λa w h1 h2=>⟨h1,h2⟩);unfold Y9;rw[ho];exact h1
def ZB{o:Oper}{i:Nat}{p:Zen}{a:Act}{w:World}(ho:ops[i]? =some o)(hf:X7 ops n i=false)
 (h:∀K':Act->World->Prop,Shut (∀a w,(n<=i\/S w)->Yr P ops Q S n p a w->K' a w)->if Region.wanted o (yielded ops a.tmps)=true then Oper.wp P o a w K' Q else K' (a.put o.dst undef) w):Yr P ops Q S n (.go i p) a w:=by
 unfold Yr;rw[ho];show if _ then _ else _
 rw[jA (by simp[hf])];exact Zao ho h
def ZW{o:Oper}{i:Nat}{p:Zen}{a:Act}{w:World}(ho:ops[i]? =some o)(hf:X7 ops n i=false)(hw:Region.wanted o (yielded ops a.tmps)=false)(hS:S w)(h:Yr P ops Q S n p (a.put o.dst undef) w):Yr P ops Q S n (.go i p) a w:=by
 refine ZB ho hf λK hK=>?_
 rw[jA (by rw[hw];simp)];exact hK _ _ (.inr hS) h
def Uc{oi oj:Oper}{i j:Nat}{p q:Zen}{a:Act}{w:World}(hi:ops[i]? =some oi)(hj:ops[j]? =some oj)
 (h1:∀K':Act->World->Prop,Shut (∀a w,(n<=i\/S w)->Yr P ops Q S n p a w->K' a w)->if Region.wanted oi (yielded ops a.tmps)=true then Oper.wp P oi a w K' Q else K' (a.put oi.dst undef) w)
 (h2:∀K':Act->World->Prop,Shut (∀a w,(n<=j\/S w)->Yr P ops Q S n q a w->K' a w)->if Region.wanted oj (yielded ops a.tmps)=true then Oper.wp P oj a w K' Q else K' (a.put oj.dst undef) w):Yr P ops Q S n (.fork i p j q) a w:=⟨Zao hi h1,Zao hj h2⟩
def Y9.mono{i:Nat}{K K':Act->World->Prop}{a:Act}{w:World}(h:Y9 P ops Q S n i K a w)(hk:∀a w,K a w->K' a w):Y9 P ops Q S n i K' a w:=by
 unfold Y9 at *;split
 ·trivial
 ·rename_i o ho
  rw[ho]at h;simp only at h;split
  ·rename_i hw;rw[jB hw]at h;exact Oper.wp_mono (λa w h'=>⟨h'.1,hk a w h'.2⟩) h
  ·rename_i hw;rw[jA hw]at h;exact⟨h.1,hk _ _ h.2⟩
def Yhn{l:List Nat}{p:Zen}{a:Act}{w:World}(J:(Nat->Prop)->Act->World->Prop)(hl:l.Nodup)(h0:J (λ_=>False) a w)(hs:∀D a w i oi,i∈l->¬D i->ops[i]? =some oi->(∀e∈oi.after,Region.binds .any e=true->e.on∈l->D e.on)->J D a w->Y9 P ops Q S n i (J λk=>D k\/k=i) a w)(h1:∀D a w,(∀k∈l,D k)->J D a w->Yr P ops Q S n p a w):Yr P ops Q S n (.bag l p) a w:=by
 have g:∀(m:Nat) (r:List Nat) (D:Nat->Prop) (a:Act) (w:World),r.length=m->r.Nodup->(∀k∈r,¬D k)->(∀k∈r,k∈l)->(∀k∈l,k∈r\/D k)->J D a w->Yhm P ops Q .any S n (Yr P ops Q S n p) m r a w:=by
  intro m
  induction m with
  |zero=>
   intro r D a w hr _ _ _ hd hj;have hr:=kW hr;subst hr;exact h1 D a w (λk hk=>(hd k hk).resolve_left (by simp)) hj
  |succ m ih=>
   intro r D a w hr c d b hd hj i oi hi j f;refine(hs D a w i oi (b i hi) (d i hi) j (λe he hb hl=>(hd e.on hl).resolve_left (f e he hb)) hj).mono λa' w' hj'=>ih _ _ a' w' (by rw[fJ hi];omega) (c.erase i) (λk hk=>by
    rintro(h|h)
    ·exact d k (aS hk) h
    ·exact(c.mem_erase_iff.1 hk).1 h) (λk hk=>b k (aS hk)) (λk hk=>?_) hj'
   rcases hd k hk with h|h
   ·by_cases e:k=i
    ·exact .inr (.inr e)
    ·exact .inl ((List.mem_erase_of_ne e).2 h)
   ·exact .inr (.inl h)
 exact g _ l _ a w rfl hl (λ_ _ h=>h) (λ_ h=>h) (λ_ h=> .inl h) h0
def Zjl(a:Act)(d1:Nat)(s1:Value)(d2:Nat)(s2:Value)(d3:Nat)(s3:Value)(d4:Nat)(s4:Value)(d5:Nat)(s5:Value):Act:=((((a.put (some d1) s1).put (some d2) s2).put (some d3) s3).put (some d4) s4).put (some d5) s5
def Ybq{l:List Nat}{p:Zen}{a:Act}{w:World}(d1 d2 d3 d4 d5:Nat)(s1 s2 s3 s4 s5:Value)(R:(Nat->Prop)->Value->Value->Value->Value->Value->World->Prop)(ha:a=Zjl a d1 s1 d2 s2 d3 s3 d4 s4 d5 s5)(hl:l.Nodup)(h0:R (λ_=>False) s1 s2 s3 s4 s5 w)
 (hs:∀D s1 s2 s3 s4 s5 w i oi,i∈l->¬D i->ops[i]? =some oi->(∀e∈oi.after,Region.binds .any e=true->e.on∈l->D e.on)->R D s1 s2 s3 s4 s5 w->Y9 P ops Q S n i (λa' w'=>∃s1 s2 s3 s4 s5,a'=Zjl a d1 s1 d2 s2 d3 s3 d4 s4 d5 s5/\R (λk=>D k\/k=i) s1 s2 s3 s4 s5 w') (Zjl a d1 s1 d2 s2 d3 s3 d4 s4 d5 s5) w)
 (h1:∀D s1 s2 s3 s4 s5 w,(∀k∈l,D k)->R D s1 s2 s3 s4 s5 w->Yr P ops Q S n p (Zjl a d1 s1 d2 s2 d3 s3 d4 s4 d5 s5) w):Yr P ops Q S n (.bag l p) a w:=by
 refine Yhn (λD a' w=>∃s1 s2 s3 s4 s5,a'=Zjl a d1 s1 d2 s2 d3 s3 d4 s4 d5 s5/\R D s1 s2 s3 s4 s5 w) hl ⟨s1,s2,s3,s4,s5,ha,h0⟩ ?_ ?_
 ·rintro D a' w i oi hi hn ho hd ⟨t1,t2,t3,t4,t5,rfl,hr⟩;exact hs D t1 t2 t3 t4 t5 w i oi hi hn ho hd hr
 ·rintro D a' w hd ⟨t1,t2,t3,t4,t5,rfl,hr⟩;exact h1 D t1 t2 t3 t4 t5 w hd hr
end
end
def wp_append_run{P:Program}{o:Oper}{a:Act}{w w':World}{K:Act->World->Prop}{Q:Exit->Act->World->Prop}{y:Nat->Option Bool}{s x:Operand}{t ty:TypeId}{v u v':Value}(hr:(Builtin.append_ #[t,t] ty #[v,u]).run P w= .ok v' w')(hty:o.type=ty)(hgd:o.guard=none)(ho:o.op= .call { callee:= .builtin .append,args:=#[s,x],argTypes:=#[t,t] })
 (hs:a.eval s=v) (hx:a.eval x=u) (h:K (a.put o.dst v') w'):if Region.wanted o y=true then Oper.wp P o a w K Q else K (a.put o.dst undef) w:=by
 subst hty;rw[jB (by simp[Region.wanted,hgd])];unfold Oper.wp execOp;simp only[ho,resolve,invoke,builtin,vP,bP,vD,vL,kM,gG,hs,hx,hr];exact h
def Zkk{base:Nat}{w w':World}{g:Option Nat}{t:TypeId}{s n:Nat}{v:Value}{xs:List Value}(h:w.ownsRow base t s v n xs)(ho:ZA g w w')(hne:∀b,v.ownBlock=some b->some b≠g):w'.ownsRow base t s v n xs:=by
 refine⟨h.1,?_⟩;rcases h.2 with hn|⟨g',cap,cur,rfl,hb',hgg,rest⟩
 ·exact .inl hn
 ·exact .inr ⟨g',cap,cur,rfl,hb',(ho.2 g' (ZU hgg) (hne g' (by simp[Value.ownBlock]))).trans hgg,rest⟩
def U4{base:Nat}{w:World}{t:TypeId}{s n:Nat}{v:Value}{xs:List Value}(h:w.ownsRow base t s v n xs):∀g,v.ownBlock=some g->g<w.heap.size:=by
 intro g hg;rcases h.2 with⟨rfl,_⟩|⟨g',cap,cur,rfl,_,hgg,_⟩
 ·simp[Value.ownBlock]at hg
 ·simp[Value.ownBlock]at hg;subst hg;exact ZU hgg
def Zt(base:Nat)(w:World)(v:Value)(zs:List Int):Prop:=w.ownsRow base 3 1 v zs.length (zs.map λz=>Value.int .i64 z)/\∀z∈zs,-9223372036854775808<=z/\z<=9223372036854775807
def Zt.below{base:Nat}{w w':World}{v:Value}{zs:List Int}(h:Zt base w v zs)(hb:Below w.heap.size w w'):Zt base w' v zs:=⟨own_below h.1 hb,h.2⟩
def Zt.nil(base:Nat)(w:World):Zt base w (.slice none 0 0) []:=⟨kY _ _ _ _,λz hz=>by simp at hz⟩
def Zt.monoB{base base':Nat}{w:World}{v:Value}{zs:List Int}(h:Zt base w v zs)(hb:base'<=base):Zt base' w v zs:=⟨VJ h.1 hb,h.2⟩
def Zt.but{base:Nat}{w w':World}{e:TypeId}{v:Value}{zs:List Int}(h:Zt base w v zs)(hk:Zf e w w')(h1:3≠e):Zt base w' v zs:=⟨hk.own h.1 h1,h.2⟩
def Zt.ints{base:Nat}{w:World}{v:Value}{zs:List Int}(h:Zt base w v zs):Z6 w v zs:=by
 obtain⟨A,c,hv,hl,hc,hm,a⟩:=VC.of_own h.1;refine⟨A,c,hv,hc,hm,λhp=>?_,h.2⟩;obtain⟨b,d,cs,fz,hA,hb,hx⟩:=a hp;refine⟨b,d,hA,λi hi=>?_⟩;rw[eB w b (d+i) cs _ fz hb,hx i (.int .i64 (zs.getD i 0)) (by simp[List.getD,JQ hi])]
def Zt.sliceN{base:Nat}{w:World}{v:Value}{zs:List Int}(h:Zt base w v zs):∃A n c,v= .slice A n c:=by
 obtain⟨A,c,hv,_⟩:=VC.of_own h.1;exact⟨A,_,c,hv⟩
def info_intT:(prog.info? 3).map (λi=>(i.zero,i.size,i.bytes))=some (some (.int .i64 0),1,8):=Qm
def ZR{o:Oper}{a:Act}{w w':World}{v x y:Value}{K:Act->World->Prop}{Q:Exit->Act->World->Prop}{ops:Array Oper}{t:TypeId}(s1 s2:Operand)(hgd:o.guard=none)(ho:o.op= .call { callee:= .builtin .append,args:=#[s1,s2],argTypes:=#[t,t] })(h1:a.eval s1=x)(h2:a.eval s2=y)
 (hrun:(Builtin.append_ #[t,t] o.type #[x,y]).run prog w= .ok v w') (h:K (a.put o.dst v) w'):if Region.wanted o (yielded ops a.tmps)=true then Oper.wp prog o a w K Q else K (a.put o.dst undef) w:=by
 rw[jB (by simp[Region.wanted,hgd])];unfold Oper.wp execOp;simp only[ho,resolve,invoke,builtin,vP,bP,vD,vL,kM,gG,h1,h2,hrun];exact h
def StO(base:Nat)(w:World)(v:Value)(s:LSt):Prop:=∃A n c,v= .agg #[.int .i64 s.phase,.slice A n c,.int .i64 s.pivots]/\Zt base w (.slice A n c) s.basis
def StO.st{base:Nat}{w:World}{v:Value}{s:LSt}(h:StO base w v s):StM w v s:=by
 obtain⟨A,n,c,rfl,h2⟩:=h;exact⟨A,n,c,rfl,h2.ints⟩
namespace Pl
def settleQ(p:LPd)(s:LSt):LSt:=⟨if Zdb s (zL p s) (zL p s).length then s.phase else 2,s.basis,s.pivots⟩
def Zse{p:LPd}{s:LSt}(h:s.Fit p):(settleQ p s).Fit p:=h
end Pl
section
namespace Pl
def Zuw(p:LPd)(s:LSt):Prop:=∀i,i<p.right.length-> -(p.right.length:Int)<=s.at_ i/\s.at_ i<p.cols.length
def Ybr(p:LPd)(s:LSt):Prop:=∀i,i<p.right.length->∀k,k<i->s.at_ i≠s.at_ k
def Yho(p:LPd)(s:LSt):Prop:=∀i,i<p.right.length->¬qAt (zL p s) i<0
instance(p:LPd)(s:LSt):Decidable (Zuw p s):=by unfold Zuw;infer_instance
instance(p:LPd)(s:LSt):Decidable (Ybr p s):=by unfold Ybr;infer_instance
instance(p:LPd)(s:LSt):Decidable (Yho p s):=by unfold Yho;infer_instance
def vsErr(p:LPd)(s:LSt):Int:=if s.basis.length≠p.right.length then 12 else if s.phase<1\/2<s.phase\/s.pivots<0 then 5 else if¬Zuw p s then 5 else if¬Ybr p s then 7 else if zOk p s=false then 13 else if¬Yho p s then 16 else if s.phase=2/\Zdb s (zL p s) (zL p s).length=true then 16 else 0
section
variable {p:LPd} {s:LSt}
def Yqu(h:s.basis.length≠p.right.length):vsErr p s=12:=by unfold vsErr;rw[jB h]
def Yqv(h:s.basis.length=p.right.length)(h2:s.phase<1\/2<s.phase\/s.pivots<0):vsErr p s=5:=by unfold vsErr;rw[jA Qk,jB h2]
def Yli(h:s.basis.length=p.right.length)(h2:¬(s.phase<1\/2<s.phase\/s.pivots<0))(h3:¬Zuw p s):vsErr p s=5:=by unfold vsErr;rw[jA Qk,jA h2,jB h3]
def Yqw(h:s.basis.length=p.right.length)(h2:¬(s.phase<1\/2<s.phase\/s.pivots<0))(h3:Zuw p s)(h4:¬Ybr p s):vsErr p s=7:=by unfold vsErr;rw[jA Qk,jA h2,jA (by simpa using h3),jB h4]
def Yni(h:s.basis.length=p.right.length)(h2:¬(s.phase<1\/2<s.phase\/s.pivots<0))(h3:Zuw p s)(h4:Ybr p s)(h5:zOk p s=false):vsErr p s=13:=by unfold vsErr;rw[jA Qk,jA h2,jA (by simpa using h3),jA (by simpa using h4),jB h5]
def Ylj(h:s.basis.length=p.right.length)(h2:¬(s.phase<1\/2<s.phase\/s.pivots<0))(h3:Zuw p s)(h4:Ybr p s)(h5:zOk p s=true)(h6:¬Yho p s):vsErr p s=16:=by unfold vsErr;rw[jA Qk,jA h2,jA (by simpa using h3),jA (by simpa using h4),jA (by rw[h5];decide),jB h6]
def Yqx(h:s.basis.length=p.right.length)(h2:¬(s.phase<1\/2<s.phase\/s.pivots<0))(h3:Zuw p s)(h4:Ybr p s)(h5:zOk p s=true)(h6:Yho p s)(h7:s.phase=2/\Zdb s (zL p s) (zL p s).length=true):vsErr p s=16:=by unfold vsErr;rw[jA Qk,jA h2,jA (by simpa using h3),jA (by simpa using h4),jA (by rw[h5];decide),jA (by simpa using h6),jB h7]
def Yqy(h:s.basis.length=p.right.length)(h2:¬(s.phase<1\/2<s.phase\/s.pivots<0))(h3:Zuw p s)(h4:Ybr p s)(h5:zOk p s=true)(h6:Yho p s)(h7:¬(s.phase=2/\Zdb s (zL p s) (zL p s).length=true)):vsErr p s=0:=by unfold vsErr;rw[jA Qk,jA h2,jA (by simpa using h3),jA (by simpa using h4),jA (by rw[h5];decide),jA (by simpa using h6),jA h7]
def Ynj(h:s.basis.length=p.right.length)(h3:Zuw p s):s.Fit p:=⟨λi z hz=>by
 have hi:i<s.basis.length:=(JO.1 hz).1
 have:=h3 i Qk
 rw[LSt.at_eq hz]at this
 exact this,h⟩
def Ynk(h:vsErr p s=0):s.Fit p/\¬(s.phase<1\/2<s.phase\/s.pivots<0)/\Ybr p s/\zOk p s=true/\Yho p s/\¬(s.phase=2/\Zdb s (zL p s) (zL p s).length=true):=by
 unfold vsErr at h;by_cases h1:s.basis.length≠p.right.length
 ·rw[jB h1]at h;omega
 rw[jA h1]at h;by_cases h2:s.phase<1\/2<s.phase\/s.pivots<0
 ·rw[jB h2]at h;omega
 rw[jA h2]at h;by_cases h3:Zuw p s
 ·rw[jA (by simpa using h3)]at h;by_cases h4:Ybr p s
  ·rw[jA (by simpa using h4)]at h
   cases h5:zOk p s with
   |false=>rw[jB h5]at h;omega
   |true=>
    rw[jA (by rw[h5];decide)]at h;by_cases h6:Yho p s
    ·rw[jA (by simpa using h6)]at h;by_cases h7:s.phase=2/\Zdb s (zL p s) (zL p s).length=true
     ·rw[jB h7]at h;omega
     ·exact⟨Ynj Qk h3,h2,h4,rfl,h6,h7⟩
    ·rw[jB h6]at h;omega
  ·rw[jB h4]at h;omega
 ·rw[jB h3]at h;omega
end
end Pl
end
namespace Pl
def Yt(f:Nat->Rat):Nat->Nat->Option Nat
 |_,0=>none
 |r,n+1=>if f r<0 then some r else Yt f (r+1) n
def Uu{f:Nat->Rat}:∀{n r:Nat},(∀i,r<=i->i<r+n->¬f i<0)->Yt f r n=none
 |0,_,_=>rfl
 |n+1,r,h=>by
  unfold Yt
  rw[jA (h r (JY _) Qk)]
  exact Uu λi h1 h2=>h i Qk Qk
def WZ{f:Nat->Rat}:∀{n r t:Nat},r<=t->t<r+n->f t<0->(∀i,r<=i->i<t->¬f i<0)->Yt f r n=some t
 |0,r,t,h1,h2,_,_=>Qk
 |n+1,r,t,h1,h2,h3,h4=>by
  unfold Yt
  rcases kH h1 with e|e
  ·subst e;rw[jB h3]
  ·rw[jA (h4 r (JY _) e)]
   exact WZ Qk Qk h3 λi h5 h6=>h4 i Qk h6
def YI{f:Nat->Rat}:∀{n r t:Nat},Yt f r n=some t->r<=t/\t<r+n/\f t<0/\∀i,r<=i->i<t->¬f i<0
 |0,_,_,h=>by cases h
 |n+1,r,t,h=>by
  unfold Yt at h
  split at h
  ·injection h with h;subst h;exact⟨JY _,Qk,by assumption,λi h1 h2=>Qk⟩
  ·rename_i h0
   obtain⟨h1,h2,h3,h4⟩:=YI h
   refine⟨Qk,Qk,h3,λi h5 h6=>?_⟩
   rcases kH h5 with e|e
   ·subst e;exact h0
   ·exact h4 i Qk h6
def Zmf(p:LPd)(s:LSt):Option Nat:=Yt (λj=>VA p s (j:Int)) 0 p.cols.length
def dirL(p:LPd)(s:LSt)(j:Int):List RF:=Zqx p.right.length (s.mat p) (qAt (Yn p.right.length (p.col j)))
def X8(s:LSt)(d:List RF):Nat->Bool
 |0=>decide (s.phase=2)
 |k+1=>if 0<qAt d k\/(s.at_ k<0/\qAt d k≠0)then false else X8 s d k
def Xa(p:LPd)(s:LSt):Int:=match Zmf p s with|some j=>(if X8 s (dirL p s (j:Int)) (dirL p s (j:Int)).length then 3 else 0)|none=>if s.phase=1 then 2 else 1
def Zgd(p:LPd)(s:LSt):Int:=match Zmf p s with|some j=>(j:Int)|none=> -1
def Ud(p:LPd)(s:LSt):List RF:=match Zmf p s with|some j=>dirL p s (j:Int)|none=>[]
def Xl{p:LPd}{s:LSt}{j:Nat}(h:Zmf p s=some j):Xa p s=(if X8 s (dirL p s (j:Int)) (dirL p s (j:Int)).length then 3 else 0)/\Zgd p s=(j:Int)/\Ud p s=dirL p s (j:Int):=by unfold Xa Zgd Ud;rw[h];exact⟨rfl,rfl,rfl⟩
def WF{p:LPd}{s:LSt}(h:Zmf p s=none):Xa p s=(if s.phase=1 then 2 else 1)/\Zgd p s= -1/\Ud p s=[]:=by unfold Xa Zgd Ud;rw[h];exact⟨rfl,rfl,rfl⟩
def Ylk{p:LPd}{K:Nat}(F:p.Fit K)(s:LSt)(j:Int):RsL (5^p.right.length*K) (dirL p s j):=Ybo (λ_ _ _ _=>LPd.Sz_col F.ok F.k1 _ _) λr hr=>by rw[YB hr];exact LPd.Sz_col F.ok F.k1 _ _
end Pl
namespace Pl
def Zsf(k:Nat):List Int:=(List.range k).map λr:Nat=> -1 - (r:Int)
def Zbs(k:Nat):(Zsf k).length=k:=by simp[Zsf]
def YG(p:LPd):LSt:=⟨1,Zsf p.right.length,0⟩
def Zxv(p:LPd):(YG p).Fit p:=⟨λi z hz=>by
 have hz':(Zsf p.right.length)[i]? =some z:=hz
 have hi:i<p.right.length:=by have:=(JO.1 hz').1;rwa[Zbs]at this
 simp[Zsf,hi]at hz'
 omega,Zbs _⟩
end Pl
def Bk.set_other{w:World}{g g':Nat}{t:TypeId}{cs:List Value}(h:Bk w g' t cs)(hne:g'≠g)(i:Nat)(u:Value):Bk (w.setCell ⟨g,i,none⟩ u) g' t cs:=by
 unfold Bk at h⊢;rw[vH _ _ _ _ hne];exact h
def Bk.lt_{w:World}{g:Nat}{t:TypeId}{cs:List Value}(h:Bk w g t cs):g<w.heap.size:=ZU h
namespace Pl
def WH(Z D:List RF)(i:Nat):Rat:=qAt Z i/qAt D i
def better(p:LPd)(s:LSt)(Z D:List RF)(i b:Nat):Prop:=WH Z D i<WH Z D b\/(WH Z D i=WH Z D b/\ordQ p (s.at_ i)<ordQ p (s.at_ b))
instance(p:LPd)(s:LSt)(Z D:List RF)(i b:Nat):Decidable (better p s Z D i b):=by unfold better;infer_instance
def Ye(p:LPd)(s:LSt)(Z D:List RF):Nat->Option Nat
 |0=>none
 |k+1=>if 0<qAt D k then(match Ye p s Z D k with|none=>some k|some b=>if better p s Z D k b then some k else some b)else Ye p s Z D k
def Xt{p:LPd}{s:LSt}{Z D:List RF}{k:Nat}(h:¬0<qAt D k):Ye p s Z D (k+1)=Ye p s Z D k:=by rw[Ye,jA h]
def Y6{p:LPd}{s:LSt}{Z D:List RF}{k:Nat}(hb:Ye p s Z D k=none)(h:0<qAt D k):Ye p s Z D (k+1)=some k:=by rw[Ye,jB h,hb]
def YH{p:LPd}{s:LSt}{Z D:List RF}{k t:Nat}(hb:Ye p s Z D k=some t)(h:0<qAt D k)(g:better p s Z D k t):Ye p s Z D (k+1)=some k:=by rw[Ye,jB h,hb];simp only;rw[jB g]
def YT{p:LPd}{s:LSt}{Z D:List RF}{k t:Nat}(hb:Ye p s Z D k=some t)(h:0<qAt D k)(g:¬better p s Z D k t):Ye p s Z D (k+1)=some t:=by rw[Ye,jB h,hb];simp only;rw[jA g]
def Va{p:LPd}{s:LSt}{Z D:List RF}:∀{k t:Nat},Ye p s Z D k=some t->t<k/\0<qAt D t
 |0,t,h=>by cases h
 |k+1,t,h=>by
  by_cases h0:0<qAt D k
  ·cases hb:Ye p s Z D k with
   |none=>rw[Y6 hb h0]at h;injection h with h;subst h;exact⟨Qk,h0⟩
   |some b=>
    obtain⟨h1,h2⟩:=Va hb
    by_cases g:better p s Z D k b
    ·rw[YH hb h0 g]at h;injection h with h;subst h;exact⟨Qk,h0⟩
    ·rw[YT hb h0 g]at h;injection h with h;subst h;exact⟨Qk,h2⟩
  ·rw[Xt h0]at h
   obtain⟨h1,h2⟩:=Va h
   exact⟨Qk,h2⟩
def oi:Option Nat->Int
 |none=> -1
 |some b=>(b:Int)
def Zqy(s:LSt)(D:List RF)(i:Nat):Rat:=if s.at_ i<0/\qAt D i≠0 then -1 else 0
def Zmh{s:LSt}{D:List RF}{i:Nat}(h1:s.at_ i<0)(h2:qAt D i≠0):Zqy s D i<0:=by unfold Zqy;rw[jB ⟨h1,h2⟩];decide
def Ybs{s:LSt}{D:List RF}{i:Nat}(h:¬(s.at_ i<0/\qAt D i≠0)):¬Zqy s D i<0:=by unfold Zqy;rw[jA h];decide
def Vb(p:LPd)(s:LSt)(Z D:List RF):Option Nat:=if s.phase=2 then(match Yt (Zqy s D) 0 D.length with|some i=>some i|none=>Ye p s Z D D.length)else Ye p s Z D D.length
def Zbt{p:LPd}{s:LSt}{Z D:List RF}(h:¬s.phase=2):Vb p s Z D=Ye p s Z D D.length:=by unfold Vb;rw[jA h]
def Zep{p:LPd}{s:LSt}{Z D:List RF}(h:s.phase=2){i:Nat}(hf:Yt (Zqy s D) 0 D.length=some i):Vb p s Z D=some i:=by unfold Vb;rw[jB h,hf]
def Zeq{p:LPd}{s:LSt}{Z D:List RF}(h:s.phase=2)(hf:Yt (Zqy s D) 0 D.length=none):Vb p s Z D=Ye p s Z D D.length:=by unfold Vb;rw[jB h,hf]
def Zmi{p:LPd}{s:LSt}{Z D:List RF}{i:Nat}(h:Vb p s Z D=some i):i<D.length:=by
 by_cases hp:s.phase=2
 ·cases hf:Yt (Zqy s D) 0 D.length with
  |some j=>rw[Zep hp hf]at h;injection h with h;subst h;have:=YI hf;omega
  |none=>rw[Zeq hp hf]at h;exact(Va h).1
 ·rw[Zbt hp]at h;exact(Va h).1
def Xy(p:LPd)(s:LSt)(Z D:List RF)(k:Nat)(z:Int):Prop:=(z= -1/\Ye p s Z D k=none)\/∃t:Nat,z=(t:Int)/\t<k/\Ye p s Z D k=some t
end Pl
namespace Pl
def Zbu(p:LPd)(s:LSt):Option LSt:=if Xa p s=0 then(match Vb p s (zL p s) (Ud p s)with|none=>none|some i=>some (settleQ p ⟨s.phase,s.basis.set i (Zgd p s),s.pivots+1⟩))else none
def Ybt{p:LPd}{s:LSt}(h:Xa p s≠0):Zbu p s=none:=by unfold Zbu;rw[jA h]
def Ybu{p:LPd}{s:LSt}(h:Vb p s (zL p s) (Ud p s)=none):Zbu p s=none:=by unfold Zbu;rw[h];split <;> rfl
def Zpa{p:LPd}{s:LSt}{i:Nat}(h:Xa p s=0)(h2:Vb p s (zL p s) (Ud p s)=some i):Zbu p s=some (settleQ p ⟨s.phase,s.basis.set i (Zgd p s),s.pivots+1⟩):=by unfold Zbu;rw[h2,jB h]
def runL(p:LPd):Nat->LSt->LSt
 |0,s=>s
 |n+1,s=>match Zbu p s with|none=>s|some t=>runL p n t
def Xm{p:LPd}{s:LSt}(h:Zbu p s=none)(n:Nat):runL p n s=s:=by cases n with|zero=>rfl|succ n=>rw[runL,h]
def XG{p:LPd}{s t:LSt}(h:Zbu p s=some t)(n:Nat):runL p (n+1) s=runL p n t:=by rw[runL,h]
def Zmj{p:LPd}{s:LSt}(h:Xa p s=0):∃j:Nat,Zmf p s=some j/\j<p.cols.length/\Zgd p s=(j:Int)/\Ud p s=dirL p s (j:Int):=by
 cases he:Zmf p s with
 |none=>rw[(WF he).1]at h;split at h <;> omega
 |some j=>exact⟨j,rfl,by have:=(YI he).2.1;omega,(Xl he).2.1,(Xl he).2.2⟩
def Ynl{p:LPd}{s:LSt}(S:s.Fit p){j:Int}(h0:0<=j)(h1:j<p.cols.length)(i:Nat)(k:Int):(LSt.mk s.phase (s.basis.set i j) k).Fit p:=by
 refine⟨λi' z hz=>?_,by show(s.basis.set i j).length=_;rw[jd];exact S.2⟩;have a:(s.basis.set i j)[i']? =some z:=hz;by_cases e:i=i'
 ·subst e;have hi:i<s.basis.length:=by have:=(JO.1 a).1;rwa[jd]at this
  rw[jM hi]at a;injection a with a;omega
 ·rw[jE e]at a;exact S.1 i' z a
end Pl
section
namespace Pl
def Xr.tr{m:Nat}{cols:Mx}(h:Xr m cols):Xr m (trM cols):=by
 intro y hy r hr;obtain⟨x,hx⟩:=X6 h λi=>if i=r then 1 else 0
 have e:=(Vg hx x).2 λk _=>rfl
 have h1:ZF (λi=>y i*mulC m cols x i) m=y r:=by
  rw[Z5 hr λi hi hne=>by rw[e i hi,jA hne];grind,e r hr,jB rfl];grind
 have h2:ZF (λi=>y i*mulC m cols x i) m=ZF (λc=>mulC m (trM cols) y c*x c) m:=by
  unfold mulC;rw[Zk (g:=λi=>ZF (λc=>y i* (cols c i*x c)) m) λi _=>(Yq _ _ _).symm,WE];exact Zk λc _=>by
   unfold trM;rw[aO,<-Yq];exact Zk λi _=>by grind
 rw[<-h1,h2];exact XD λc hc=>by rw[hy c hc];grind
section
variable {p:LPd} {s:LSt}
def Reg(p:LPd)(s:LSt):Prop:=Xr p.right.length (s.mat p)
def Ybv(h:zOk p s=true):Reg p s:=by
 unfold zOk at h;obtain⟨x,hx⟩:=Option.isSome_iff_exists.1 h;exact Zmc hx
def Ybw(h:Reg p s):zOk p s=true:=by
 obtain⟨x,hx⟩:=X6 h (qAt p.right);unfold zOk;rw[hx];rfl
def Vr{m:Nat}{cols:Mx}(h:Xr m cols)(b:Nat->Rat):(Zqx m cols b).length=m/\∀r,r<m->mulC m cols (qAt (Zqx m cols b)) r=b r:=by
 obtain⟨x,hx⟩:=X6 h b;rw[Zhv hx,Zo];refine⟨rfl,λr hr=>?_⟩;rw[<- (Vg hx x).2 (λk _=>rfl) r hr];exact Zk λc hc=>by rw[YB hc]
def Zpb{m:Nat}{cols:Mx}(h:Xr m cols){b x:Nat->Rat}(hx:∀r,r<m->mulC m cols x r=b r):∀k,k<m->qAt (Zqx m cols b) k=x k:=by
 obtain⟨z,hz,he⟩:=Zcx h hx;intro k hk;rw[Zhv hz,YB hk,he k hk]
def Zkl(h:Reg p s):∀r,r<p.right.length->mulC p.right.length (s.mat p) (qAt (zL p s)) r=qAt p.right r:=(Vr h _).2
def Zuy(h:Reg p s){x:Nat->Rat}(hx:∀r,r<p.right.length->mulC p.right.length (s.mat p) x r=qAt p.right r):∀k,k<p.right.length->qAt (zL p s) k=x k:=Zpb h hx
def Zer(h:Reg p s):(zL p s).length=p.right.length:=(Vr h _).1
def Wx(h:Reg p s)(j:Int):∀r,r<p.right.length->mulC p.right.length (s.mat p) (qAt (dirL p s j)) r=p.col j r:=λr hr=>by
 unfold dirL
 rw[(Vr h _).2 r hr,YB hr]
def Zbv(h:Reg p s)(j:Int):(dirL p s j).length=p.right.length:=(Vr h _).1
def Zgk(h:Reg p s):(XF p s).length=p.right.length:=(Vr h.tr _).1
def Zhy(h:Reg p s):∀k,k<p.right.length->ZF (λr=>s.mat p k r*qAt (XF p s) r) p.right.length=XE p s.phase (s.at_ k):=λk hk=>by
 have e:=(Vr h.tr (qAt (Yn p.right.length λi=>XE p s.phase (s.at_ i)))).2 k hk
 rw[YB hk]at e
 exact e
def U5(h:Reg p s){k:Nat}(hk:k<p.right.length):VA p s (s.at_ k)=0:=by
 unfold VA;rw[Zgk h,Nat.min_self,Zhr,<-Zhy h k hk];have e:Ybg (XF p s) (p.col (s.at_ k)) p.right.length=ZF (λr=>s.mat p k r*qAt (XF p s) r) p.right.length:=Zk λr _=>by show _=p.col (s.at_ k) r*_;grind
 rw[e];grind
def Zes{zs:List RF}:∀{n:Nat},Zdb s zs n=false->∀k,k<n->s.at_ k<0->qAt zs k=0
 |0,_,k,hk,_=>Qk
 |n+1,h,k,hk,ha=>by
  unfold Zdb at h
  rw[Bool.or_eq_false_iff]at h
  rcases JX k n with e|e
  ·exact Zes h.1 k e ha
  ·obtain rfl:k=n:=Qk
   simpa[ha]using h.2
def Zet{zs:List RF}:∀{n:Nat},(∀k,k<n->s.at_ k<0->qAt zs k=0)->Zdb s zs n=false
 |0,_=>rfl
 |n+1,h=>by
  unfold Zdb
  rw[Zet λk hk=>h k Qk]
  by_cases ha:s.at_ n<0
  ·simp[ha,h n Qk ha]
  ·simp[ha]
structure Val (p:LPd) (s:LSt):Prop where
 fit:s.Fit p
 ph:s.phase=1\/s.phase=2
 pv:0<=s.pivots
 dup:∀i,i<p.right.length->∀k,k<i->s.at_ i≠s.at_ k
 reg:Reg p s
 pos:∀i,i<p.right.length->0<=qAt (zL p s) i
 art:s.phase=2->∀i,i<p.right.length->s.at_ i<0->qAt (zL p s) i=0
def Yll(h:vsErr p s=0):Val p s:=by
 obtain⟨h1,h2,h3,h4,h5,h6⟩:=Ynk h;have hr:=Ybv h4;exact⟨h1,Qk,Qk,h3,hr,λi hi=>fV.1 (h5 i hi),λe i hi ha=>by
  have:Zdb s (zL p s) (zL p s).length=false:=by
   cases hb:Zdb s (zL p s) (zL p s).length with
   |false=>rfl
   |true=>exact absurd ⟨e,hb⟩ h6
  exact Zes this i (by rw[Zer hr];exact hi) ha⟩
def Val.vs(h:Val p s):vsErr p s=0:=by
 have hb:=h.fit.len;refine Yqy hb (by have:=h.ph;have:=h.pv;omega) (λi hi=>?_) h.dup (Ybw h.reg) (λi hi=>fV.2 (h.pos i hi)) λe=>?_
 ·have a:i<s.basis.length:=Qk
  have:=h.fit.in_ i _ (JQ a);rw[LSt.at_eq (JQ a)];exact this
 ·have:=Zet (zs:=zL p s) (n:=(zL p s).length) λk hk ha=>h.art e.1 k (by rw[<-Zer h.reg];exact hk) ha
  rw[this]at e;exact absurd e.2 Ql
def settle_zL:zL p (settleQ p s)=zL p s:=rfl
def Zpc(i:Nat):(settleQ p s).at_ i=s.at_ i:=rfl
def Val.settle(h:Val p s):Val p (settleQ p s):=by
 refine⟨Zse h.fit,?_,h.pv,h.dup,h.reg,h.pos,λe i hi ha=>?_⟩
 ·show(if Zdb s (zL p s) (zL p s).length=true then s.phase else 2)=1\/(if Zdb s (zL p s) (zL p s).length=true then s.phase else 2)=2;split
  ·exact h.ph
  ·exact .inr rfl
 ·have e':(if Zdb s (zL p s) (zL p s).length=true then s.phase else 2)=2:=e
  cases hb:Zdb s (zL p s) (zL p s).length with
  |false=>exact Zes hb i (by rw[Zer h.reg];exact hi) ha
  |true=>rw[hb,jB rfl]at e';exact h.art e' i hi ha
def settle_twice:settleQ p (settleQ p s)=settleQ p s:=by
 unfold settleQ;have e:∀ph,Zdb ⟨ph,s.basis,s.pivots⟩ (zL p ⟨ph,s.basis,s.pivots⟩) (zL p ⟨ph,s.basis,s.pivots⟩).length=Zdb s (zL p s) (zL p s).length:=λph=>by
  have e1:zL p ⟨ph,s.basis,s.pivots⟩=zL p s:=rfl;rw[e1];generalize(zL p s).length=n
  induction n with
  |zero=>rfl
  |succ n ih=>unfold Zdb;rw[ih];rfl
 simp only[e]
 cases Zdb s (zL p s) (zL p s).length <;> simp
end
def Ynm{k i:Nat}(h:i<k):(Zsf k)[i]? =some (-1 - (i:Int)):=by simp[Zsf,h]
def Zdd{p:LPd}{i:Nat}(h:i<p.right.length):(YG p).at_ i= -1 - (i:Int):=LSt.at_eq (Ynm h)
def Zde(p:LPd):Val p (YG p):=by
 have hm:∀k,k<p.right.length->(YG p).mat p k=λi=>if i=k then(if qs (qAt p.right i)<0 then -1 else 1)else 0:=λk hk=>by
  show p.col ((YG p).at_ k)=_;rw[Zdd hk];exact LPd.col_neg
 have a:∀y r,r<p.right.length->mulC p.right.length ((YG p).mat p) y r=(if qs (qAt p.right r)<0 then -1 else 1)*y r:=λy r hr=>by
  unfold mulC;rw[Z5 hr λi hi hne=>by rw[hm i hi];simp only;rw[jA (λe=>hne e.symm)];grind,hm r hr];simp
 have b:Reg p (YG p):=λy hy k hk=>by
  have:=hy k hk;rw[a y k hk]at this;split at this <;> grind
 have hz:=Zuy b (x:=λi=>(if qs (qAt p.right i)<0 then -1 else 1)*qAt p.right i) λr hr=>by
  rw[a _ r hr];split <;> grind
 refine⟨Zxv p,.inl rfl,ib _,λi hi k hk=>?_,b,λi hi=>?_,λe=>by cases e⟩
 ·rw[Zdd hi,Zdd Qk];omega
 ·rw[hz i hi];split
  ·rename_i h;have:=UE.1 h;grind
  ·rename_i h
   have:¬qAt p.right i<0:=λg=>h (UE.2 g)
   grind
def Zdf{p:LPd}{s:LSt}{Z D:List RF}:∀{n t:Nat},Ye p s Z D n=some t->∀k,k<n->0<qAt D k->WH Z D t<=WH Z D k
 |0,t,h,k,hk,_=>Qk
 |n+1,t,h,k,hk,hd=>by
  by_cases h0:0<qAt D n
  ·cases hb:Ye p s Z D n with
   |none=>
    rw[Y6 hb h0]at h
    injection h with h
    subst h
    rcases JX k n with e|e
    ·exfalso
     have:∀{m:Nat},Ye p s Z D m=none->∀k,k<m->¬0<qAt D k:=fun{m}=>by
      induction m with
      |zero=>intro _ k hk;omega
      |succ m ih=>
       intro hm k hk
       by_cases hq:0<qAt D m
       ·exfalso
        cases hb2:Ye p s Z D m with
        |none=>rw[Y6 hb2 hq]at hm;cases hm
        |some b=>
         by_cases g:better p s Z D m b
         ·rw[YH hb2 hq g]at hm;cases hm
         ·rw[YT hb2 hq g]at hm;cases hm
       ·rw[Xt hq]at hm
        rcases JX k m with e'|e'
        ·exact ih hm k e'
        ·obtain rfl:k=m:=Qk
         exact hq
     exact this hb k e hd
    ·obtain rfl:k=n:=Qk
     exact aF
   |some b=>
    have ih:=Zdf hb
    by_cases g:better p s Z D n b
    ·rw[YH hb h0 g]at h
     injection h with h
     subst h
     rcases JX k n with e|e
     ·have h1:=ih k e hd
      have h2:WH Z D n<=WH Z D b:=by
       rcases g with g|⟨g,_⟩
       ·exact BK g
       ·rw[g];exact aF
      grind
     ·obtain rfl:k=n:=Qk
      exact aF
    ·rw[YT hb h0 g]at h;injection h with h;subst h;rcases JX k n with e|e
     ·exact ih k e hd
     ·obtain rfl:k=n:=Qk
      have:¬WH Z D k<WH Z D b:=λe=>g (.inl e)
      grind
  ·rw[Xt h0]at h;rcases JX k n with e|e
   ·exact Zdf h k e hd
   ·obtain rfl:k=n:=Qk
    exact absurd hd h0
def Zfr(s:LSt)(i:Nat)(j:Int):LSt:=⟨s.phase,s.basis.set i j,s.pivots+1⟩
def Vs{s:LSt}{i:Nat}{j:Int}(hi:i<s.basis.length)(k:Nat):(Zfr s i j).at_ k=if k=i then j else s.at_ k:=by
 unfold LSt.at_ Zfr;simp only[ja];by_cases e:k=i
 ·subst e;rw[jB rfl,jM hi];rfl
 ·rw[jA e,jE (λh=>e h.symm)]
def Zgl{p:LPd}{s:LSt}{i:Nat}{j:Int}(hi:i<s.basis.length):(Zfr s i j).mat p=Zee (s.mat p) i (p.col j):=by
 funext k
 show p.col ((Zfr s i j).at_ k)=_;rw[Vs hi k];unfold Zee;by_cases e:k=i
 ·rw[jB e,jB e]
 ·rw[jA e,jA e];rfl
structure Piv (p:LPd) (s:LSt) (i j:Nat):Prop where
 hi:i<p.right.length
 hj:j<p.cols.length
 red:VA p s (j:Int)<0
 d0:qAt (dirL p s (j:Int)) i≠0
 dz:0<qAt (dirL p s (j:Int)) i\/qAt (zL p s) i=0
 rat:∀k,k<p.right.length->0<qAt (dirL p s (j:Int)) k->qAt (zL p s) i=0\/WH (zL p s) (dirL p s (j:Int)) i<=WH (zL p s) (dirL p s (j:Int)) k
 art:s.phase=2->∀k,k<p.right.length->s.at_ k<0->qAt (zL p s) i=0\/qAt (dirL p s (j:Int)) k=0
def Zuz{p:LPd}{s:LSt}(h:Val p s){t:LSt}(e:Zbu p s=some t):∃i j:Nat,Piv p s i j/\t=settleQ p (Zfr s i (j:Int)):=by
 by_cases hq:Xa p s=0
 ·cases hl:Vb p s (zL p s) (Ud p s)with
  |none=>rw[Ybu hl]at e;cases e
  |some i=>
   rw[Zpa hq hl]at e;injection e with e;obtain⟨j,l,hj,hJ,hD⟩:=Zmj hq;rw[hJ]at e;rw[hD]at hl;have c:=Zbv h.reg (j:Int);have hi:i<p.right.length:=(by rw[<-c];exact Zmi hl);refine⟨i,j,?_,e.symm⟩;have a:=(YI l).2.2.1;by_cases b:s.phase=2
   ·cases hf:Yt (Zqy s (dirL p s (j:Int))) 0 (dirL p s (j:Int)).length with
    |some i'=>
     rw[Zep b hf]at hl;injection hl with hl;subst hl;obtain⟨_,_,f3,_⟩:=YI hf;have ha:s.at_ i'<0/\qAt (dirL p s (j:Int)) i'≠0:=by
      unfold Zqy at f3;split at f3
      ·assumption
      ·exact absurd f3 Ql
     have hz:=h.art b i' hi ha.1;exact⟨hi,hj,a,ha.2,.inr hz,λ_ _ _=> .inl hz,λ_ _ _ _=> .inl hz⟩
    |none=>
     rw[Zeq b hf]at hl;have hp:=(Va hl).2;refine⟨hi,hj,a,λe=>by rw[e]at hp;exact absurd hp Ql,.inl hp,λk hk hd=> .inr (Zdf hl k (by rw[c];exact hk) hd),λ_ k hk ha=> .inr ?_⟩;by_cases e0:qAt (dirL p s (j:Int)) k=0
     ·exact e0
     ·exfalso;have d:∀(f:Nat->Rat) (n r:Nat),Yt f r n=none->∀i,r<=i->i<r+n->¬f i<0:=by
       intro f n
       induction n with
       |zero=>intro r _ i h1 h2;omega
       |succ n ih=>
        intro r hr i h1 h2;unfold Yt at hr;split at hr
        ·cases hr
        ·rename_i g
         rcases kH h1 with e|e
         ·subst e;exact g
         ·exact ih (r+1) hr i Qk Qk
      exact d _ _ _ hf k (iI _) (by rw[c];omega) (Zmh ha e0)
   ·rw[Zbt b]at hl;have hp:=(Va hl).2;exact⟨hi,hj,a,λe=>by rw[e]at hp;exact absurd hp Ql,.inl hp,λk hk hd=> .inr (Zdf hl k (by rw[c];exact hk) hd),λe=>absurd e b⟩
 ·rw[Ybt hq]at e;cases e
def Piv.z{p:LPd}{s:LSt}(h:Val p s){i j:Nat}(c:Piv p s i j):Reg p (Zfr s i (j:Int))/\qAt (zL p (Zfr s i (j:Int))) i=qAt (zL p s) i/qAt (dirL p s (j:Int)) i/\
 ∀k,k<p.right.length->k≠i->qAt (zL p (Zfr s i (j:Int))) k=qAt (zL p s) k - qAt (dirL p s (j:Int)) k* (qAt (zL p s) i/qAt (dirL p s (j:Int)) i):=by
 have hb:i<s.basis.length:=by rw[h.fit.len];exact c.hi
 have a:Reg p (Zfr s i (j:Int)):=by
  unfold Reg;rw[Zgl hb];exact Zhs c.hi h.reg (Wx h.reg (j:Int)) c.d0
 have hx:=Zuy a (x:=λk=>if k=i then qAt (zL p s) i/qAt (dirL p s (j:Int)) i else qAt (zL p s) k - qAt (dirL p s (j:Int)) k* (qAt (zL p s) i/qAt (dirL p s (j:Int)) i)) (by
  rw[Zgl hb];exact Zme c.hi (Wx h.reg (j:Int)) c.d0 (Zkl h.reg) (jB rfl) λk _ hne=>by
   simp only[jA hne];simp)
 refine⟨a,?_,λk hk hne=>?_⟩
 ·rw[hx i c.hi,jB rfl]
 ·rw[hx k hk,jA hne]
def Piv.val{p:LPd}{s:LSt}(h:Val p s){i j:Nat}(c:Piv p s i j):Val p (Zfr s i (j:Int)):=by
 have hb:i<s.basis.length:=by rw[h.fit.len];exact c.hi
 obtain⟨n,q,o⟩:=c.z h;have d:0<=qAt (zL p s) i/qAt (dirL p s (j:Int)) i:=by
  rcases c.dz with e|e
  ·rw[vE];exact gP (h.pos i c.hi) (BK (Rat.inv_pos.2 e))
  ·rw[e];simp[vE]
 have f:qAt (zL p s) i=0->qAt (zL p s) i/qAt (dirL p s (j:Int)) i=0:=λe=>by rw[e];simp[vE]
 refine⟨Ynl h.fit Qk (by have:=c.hj;omega) i _,h.ph,by have:=h.pv;show 0<=s.pivots+1;omega,λa ha b hab=>?_,n,λk hk=>?_,λe k hk ha=>?_⟩
 ·rw[Vs hb,Vs hb];have m:∀l,l<p.right.length->(j:Int)≠s.at_ l:=λl hl e=>by
   have h1:=c.red;rw[e,U5 h.reg hl]at h1;exact absurd h1 Ql
  by_cases e1:a=i
  ·rw[jB e1,jA Qk];exact m b Qk
  ·rw[jA e1];by_cases e2:b=i
   ·rw[jB e2];exact λe=>m a ha e.symm
   ·rw[jA e2];exact h.dup a ha b hab
 ·by_cases e:k=i
  ·rw[e,q];exact d
  ·rw[o k hk e];have r:=h.pos k hk;by_cases hd:0<qAt (dirL p s (j:Int)) k
   ·rcases c.rat k hk hd with g|g
    ·rw[f g];grind
    ·unfold WH at g;generalize qAt (zL p s) i/qAt (dirL p s (j:Int)) i=ρ at *;have h2:ρ*qAt (dirL p s (j:Int)) k<=qAt (zL p s) k/qAt (dirL p s (j:Int)) k*qAt (dirL p s (j:Int)) k:=Rat.mul_le_mul_of_nonneg_right g (BK hd);rw[kr (λe=>by rw[e]at hd;exact absurd hd Ql)]at h2;grind
   ·generalize qAt (zL p s) i/qAt (dirL p s (j:Int)) i=ρ at *;have h2:0<= -qAt (dirL p s (j:Int)) k*ρ:=gP (by grind) d;grind
 ·have e':s.phase=2:=e;rw[Vs hb]at ha;by_cases e1:k=i
  ·rw[jB e1]at ha;omega
  ·rw[jA e1]at ha;rw[o k hk e1,h.art e' k hk ha];rcases c.art e' k hk ha with g|g
   ·rw[f g];grind
   ·rw[g];grind
def Zdg{p:LPd}{s t:LSt}(h:Val p s)(e:Zbu p s=some t):Val p t:=by
 obtain⟨i,j,c,rfl⟩:=Zuz h e;exact(c.val h).settle
def Zmk{p:LPd}:∀{n:Nat} {s:LSt},Val p s->Val p (runL p n s)
 |0,_,h=>h
 |n+1,s,h=>by
  cases e:Zbu p s with
  |none=>rw[Xm e];exact h
  |some t=>rw[XG e];exact Zmk (Zdg h e)
def Zaq{p:LPd}:∀{a b:Nat} {s:LSt},runL p (a+b) s=runL p b (runL p a s)
 |0,b,s=>by rw[ji];rfl
 |a+1,b,s=>by
  cases e:Zbu p s with
  |none=>rw[Xm e,Xm e,Xm e]
  |some t=>rw[show a+1+b=(a+b)+1 by omega,XG e,XG e];exact Zaq
end Pl
end
section
namespace Pl
section
variable {p:LPd} {s:LSt}
def Zax(p:LPd)(ph:Int)(s:LSt):Rat:=ZF (λi=>XE p ph (s.at_ i)*qAt (zL p s) i) p.right.length
def Yfi(p:LPd)(s:LSt)(j:Int):Rat:=ZF (λr=>p.col j r*qAt (XF p s) r) p.right.length
def Zfs(h:Reg p s)(j:Int):VA p s j=XE p s.phase j - Yfi p s j:=by
 unfold VA;rw[Zgk h,Nat.min_self,Zhr];have e:Ybg (XF p s) (p.col j) p.right.length=Yfi p s j:=Zk λr _=>by grind
 rw[e]
def Zpd(h:Reg p s){x b:Nat->Rat}(hx:∀r,r<p.right.length->mulC p.right.length (s.mat p) x r=b r):ZF (λr=>b r*qAt (XF p s) r) p.right.length=ZF (λi=>XE p s.phase (s.at_ i)*x i) p.right.length:=by
 rw[Zk (g:=λr=>ZF (λi=>x i* (s.mat p i r*qAt (XF p s) r)) p.right.length) λr hr=>by
  rw[<-hx r hr];unfold mulC;rw[aO,<-Yq];exact Zk λi _=>by grind]
 rw[WE];exact Zk λi hi=>by rw[Yq,Zhy h i hi];grind
def Yhp(h:Reg p s):ZF (λr=>qAt p.right r*qAt (XF p s) r) p.right.length=Zax p s.phase s:=Zpd h (Zkl h)
def Zgm(h:Reg p s)(j:Int):Yfi p s j=ZF (λi=>XE p s.phase (s.at_ i)*qAt (dirL p s j) i) p.right.length:=Zpd h (Wx h j)
def Piv.obj(h:Val p s){i j:Nat}(c:Piv p s i j):Zax p s.phase (Zfr s i (j:Int))=Zax p s.phase s+VA p s (j:Int)* (qAt (zL p s) i/qAt (dirL p s (j:Int)) i):=by
 have hb:i<s.basis.length:=by rw[h.fit.len];exact c.hi
 obtain⟨d,a,b⟩:=c.z h;rw[Zfs h.reg,Zgm h.reg];unfold Zax;obtain⟨ρ,hρ⟩:∃ρ,ρ=qAt (zL p s) i/qAt (dirL p s (j:Int)) i:=⟨_,rfl⟩;have hd:ρ*qAt (dirL p s (j:Int)) i=qAt (zL p s) i:=by rw[hρ];exact kr c.d0
 rw[<-hρ];rw[Zk (g:=λk=>(XE p s.phase (s.at_ k)*qAt (zL p s) k - ρ* (XE p s.phase (s.at_ k)*qAt (dirL p s (j:Int)) k))+(if k=i then XE p s.phase (j:Int)*ρ else 0)) λk hk=>by
  rw[Vs hb];by_cases e:k=i
  ·subst e;rw[jB rfl,jB rfl,a,<-hρ];grind
  ·rw[jA e,jA e,b k hk e,<-hρ];grind]
 rw[Xq,Zcw,Yq,XL c.hi];grind
def Piv.ratio(h:Val p s){i j:Nat}(c:Piv p s i j):0<=qAt (zL p s) i/qAt (dirL p s (j:Int)) i:=by
 rcases c.dz with e|e
 ·rw[vE];exact gP (h.pos i c.hi) (BK (Rat.inv_pos.2 e))
 ·rw[e];simp[vE]
def Piv.obj_le(h:Val p s){i j:Nat}(c:Piv p s i j):Zax p s.phase (Zfr s i (j:Int))<=Zax p s.phase s:=by
 rw[c.obj h];have h1:=c.ratio h;have h2:=c.red;have h3:0<= -VA p s (j:Int)* (qAt (zL p s) i/qAt (dirL p s (j:Int)) i):=gP (by grind) h1;grind
def Zkm(ph:Int):Zax p ph (settleQ p s)=Zax p ph s:=rfl
def WN(p:LPd)(s:LSt):Prop:=settleQ p s=s
def settled_settle:WN p (settleQ p s):=settle_twice
def Zpe{t:LSt}(e:Zbu p s=some t):WN p t:=by
 unfold Zbu at e;split at e
 ·split at e
  ·cases e
  ·injection e with e;subst e;exact settled_settle
 ·cases e
def runL_settled:∀{n:Nat} {s:LSt},WN p s->WN p (runL p n s)
 |0,_,h=>h
 |n+1,s,h=>by
  cases e:Zbu p s with
  |none=>rw[Xm e];exact h
  |some t=>rw[XG e];exact runL_settled (Zpe e)
def Zkn(h:Val p s){t:LSt}(e:Zbu p s=some t):s.phase<=t.phase/\t.phase<=2/\t.pivots=s.pivots+1:=by
 obtain⟨i,j,c,rfl⟩:=Zuz h e;have hp:=h.ph;refine⟨?_,?_,rfl⟩
 ·show s.phase<=(if Zdb (Zfr s i (j:Int)) _ _=true then s.phase else 2);split <;> omega
 ·show(if Zdb (Zfr s i (j:Int)) _ _=true then s.phase else 2)<=2;split <;> omega
def runL_phase:∀{n:Nat} {s:LSt},Val p s->s.phase<=(runL p n s).phase
 |0,s,_=>ib _
 |n+1,s,h=>by
  cases e:Zbu p s with
  |none=>rw[Xm e];exact ib _
  |some t=>rw[XG e];exact gH (Zkn h e).1 (runL_phase (Zdg h e))
def runL_pivots:∀{n:Nat} {s:LSt},Val p s->(runL p n s).pivots<=s.pivots+n
 |0,s,_=>by show s.pivots<=s.pivots+0;omega
 |n+1,s,h=>by
  cases e:Zbu p s with
  |none=>rw[Xm e];omega
  |some t=>
   rw[XG e]
   have h1:=runL_pivots (n:=n) (Zdg h e)
   have h2:=(Zkn h e).2.2
   omega
end
end Pl
end
namespace Pl
def cross{P:Nat->Prop}:∀{d x:Nat},P x->¬P (x+d)->∃k,x<=k/\k<x+d/\P k/\¬P (k+1)
 |0,x,h1,h2=>absurd h1 h2
 |d+1,x,h1,h2=>by
  by_cases h:P (x+1)
  ·obtain⟨k,a,b,c⟩:=cross (d:=d) (x:=x+1) h (by rw[show x+1+d=x+(d+1) by omega];exact h2)
   exact⟨k,Qk,Qk,c⟩
  ·exact⟨x,JY _,Qk,h1,h⟩
def Ybx{P:Nat->Prop}{x y:Nat}(hxy:x<=y)(h1:P x)(h2:¬P y):∃k,x<=k/\k<y/\P k/\¬P (k+1):=by
 obtain⟨k,a,b,c⟩:=cross (P:=P) (d:=y - x) (x:=x) h1 (by rw[show x+(y - x)=y by omega];exact h2);exact⟨k,a,Qk,c⟩
def Ylm{P:Nat->Prop}{a b x y:Nat}(hx:a<=x/\x<=b)(hy:a<=y/\y<=b)(hc:P a↔P b)(h1:P x)(h2:¬P y):∃k,a<=k/\k<b/\P k/\¬P (k+1):=by
 rcases JX y x with e|e
 ·by_cases hb:P b
  ·obtain⟨k,c1,c2,c3⟩:=Ybx hy.1 (hc.2 hb) h2;exact⟨k,c1,Qk,c3⟩
  ·obtain⟨k,c1,c2,c3⟩:=Ybx hx.2 h1 hb;exact⟨k,Qk,c2,c3⟩
 ·obtain⟨k,c1,c2,c3⟩:=Ybx e h1 h2;exact⟨k,Qk,Qk,c3⟩
def greatest(J:Nat->Nat){a:Nat}:∀{d:Nat},∃k,a<=k/\k<a+d+1/\∀l,a<=l->l<a+d+1->J l<=J k
 |0=>⟨a,JY _,Qk,λl h1 h2=>by
  obtain rfl:l=a:=Qk
  exact JY _⟩
 |d+1=>by
  obtain⟨k,h1,h2,h3⟩:=greatest J (a:=a) (d:=d)
  rcases JX (J k) (J (a+d+1))with e|e
  ·refine⟨a+d+1,Qk,Qk,λl l1 l2=>?_⟩
   rcases JX l (a+d+1)with g|g
   ·exact JW (h3 l l1 g) (jZ e)
   ·obtain rfl:l=a+d+1:=Qk
    exact JY _
  ·refine⟨k,h1,Qk,λl l1 l2=>?_⟩
   rcases JX l (a+d+1)with g|g
   ·exact h3 l l1 g
   ·obtain rfl:l=a+d+1:=Qk
    exact e
def Zar{p:LPd}{s:LSt}{Z D:List RF}:∀{n t:Nat},Ye p s Z D n=some t->∀k,k<n->0<qAt D k->WH Z D t<WH Z D k\/(WH Z D t=WH Z D k/\ordQ p (s.at_ t)<=ordQ p (s.at_ k))
 |0,t,h,k,hk,_=>Qk
 |n+1,t,h,k,hk,hd=>by
  by_cases h0:0<qAt D n
  ·cases hb:Ye p s Z D n with
   |none=>
    rw[Y6 hb h0]at h
    injection h with h
    subst h
    rcases JX k n with e|e
    ·exfalso
     have:∀{m:Nat},Ye p s Z D m=none->∀k,k<m->¬0<qAt D k:=fun{m}=>by
      induction m with
      |zero=>intro _ k hk;omega
      |succ m ih=>
       intro hm k hk
       by_cases hq:0<qAt D m
       ·exfalso
        cases hb2:Ye p s Z D m with
        |none=>rw[Y6 hb2 hq]at hm;cases hm
        |some b=>
         by_cases g:better p s Z D m b
         ·rw[YH hb2 hq g]at hm;cases hm
         ·rw[YT hb2 hq g]at hm;cases hm
       ·rw[Xt hq]at hm
        rcases JX k m with e'|e'
        ·exact ih hm k e'
        ·obtain rfl:k=m:=Qk
         exact hq
     exact this hb k e hd
    ·obtain rfl:k=n:=Qk
     exact .inr ⟨rfl,ib _⟩
   |some b=>
    have ih:=Zar hb
    by_cases g:better p s Z D n b
    ·rw[YH hb h0 g]at h
     injection h with h
     subst h
     rcases JX k n with e|e
     ·rcases ih k e hd with i1|⟨i1,i2⟩
      ·rcases g with g|⟨g,_⟩
       ·left;grind
       ·left;rw[g];exact i1
      ·rcases g with g|⟨g,g2⟩
       ·left;rw[<-i1];exact g
       ·right;exact⟨by rw[g,i1],Qk⟩
     ·obtain rfl:k=n:=Qk
      exact .inr ⟨rfl,ib _⟩
    ·rw[YT hb h0 g]at h
     injection h with h
     subst h
     rcases JX k n with e|e
     ·exact ih k e hd
     ·obtain rfl:k=n:=Qk
      have h1:¬WH Z D k<WH Z D b:=λe=>g (.inl e)
      by_cases h2:WH Z D b=WH Z D k
      ·right
       refine⟨h2,Int.not_lt.1 λe=>g (.inr ⟨h2.symm,e⟩)⟩
      ·left;grind
  ·rw[Xt h0]at h
   rcases JX k n with e|e
   ·exact Zar h k e hd
   ·obtain rfl:k=n:=Qk
    exact absurd hd h0
structure Stp (p:LPd) (s t:LSt) (i j:Nat):Prop where
 piv:Piv p s i j
 ent:∀l:Nat,l<j->¬VA p s (l:Int)<0
 eq:t=settleQ p (Zfr s i (j:Int))
 lv:0<=s.at_ i->0<qAt (dirL p s (j:Int)) i/\∀k,k<p.right.length->0<qAt (dirL p s (j:Int)) k->WH (zL p s) (dirL p s (j:Int)) i<WH (zL p s) (dirL p s (j:Int)) k\/(WH (zL p s) (dirL p s (j:Int)) i=WH (zL p s) (dirL p s (j:Int)) k/\ordQ p (s.at_ i)<=ordQ p (s.at_ k))
def Yqz{p:LPd}{s t:LSt}(h:Val p s)(e:Zbu p s=some t):∃i j:Nat,Stp p s t i j:=by
 by_cases hq:Xa p s=0
 ·cases hl:Vb p s (zL p s) (Ud p s)with
  |none=>rw[Ybu hl]at e;cases e
  |some i=>
   obtain⟨i',j',c,ht⟩:=Zuz h e;rw[Zpa hq hl]at e;injection e with e;obtain⟨j,f,hj,hJ,hD⟩:=Zmj hq;rw[hJ]at e;rw[hD]at hl;have a:=Zbv h.reg (j:Int);have hi:i<p.right.length:=(by rw[<-a];exact Zmi hl);have hb:i<s.basis.length:=(by rw[h.fit.len];exact hi);have m:i'<s.basis.length:=by rw[h.fit.len];exact c.hi
   -- the same pivot
   have n:∀l,l<p.right.length->(j:Int)≠s.at_ l:=λl hl2 e2=>by
    have h1:VA p s (j:Int)<0:=(YI f).2.2.1;rw[e2,U5 h.reg hl2]at h1;exact absurd h1 Ql
   have d:∀k,(Zfr s i (j:Int)).at_ k=(Zfr s i' (j':Int)).at_ k:=λk=>by
    have:(settleQ p (Zfr s i (j:Int))).at_ k=(settleQ p (Zfr s i' (j':Int))).at_ k:=by rw[<-ht,<-e];rfl
    exact this
   have o:i=i':=by
    by_cases g:i=i'
    ·exact g
    ·exfalso;have h1:=d i;rw[Vs hb,Vs m,jB rfl,jA g]at h1;exact n i hi h1
   subst o;have q:j=j':=by
    have h1:=d i;rw[Vs hb,Vs hb,jB rfl,jB rfl]at h1;omega
   subst q;refine⟨i,j,c,λl hl2=>(YI f).2.2.2 l (iI _) hl2,ht,λhr=>?_⟩;by_cases b:s.phase=2
   ·cases hf:Yt (Zqy s (dirL p s (j:Int))) 0 (dirL p s (j:Int)).length with
    |some i2=>
     exfalso;rw[Zep b hf]at hl;injection hl with hl;subst hl;have f3:=(YI hf).2.2.1;unfold Zqy at f3;split at f3
     ·rename_i g;omega
     ·exact absurd f3 Ql
    |none=>
     rw[Zeq b hf]at hl;exact⟨(Va hl).2,λk hk hd=>Zar hl k (by rw[a];exact hk) hd⟩
   ·rw[Zbt b]at hl;exact⟨(Va hl).2,λk hk hd=>Zar hl k (by rw[a];exact hk) hd⟩
 ·rw[Ybt hq]at e;cases e
def Stp.at_{p:LPd}{s t:LSt}{i j:Nat}(h:Val p s)(c:Stp p s t i j)(k:Nat):t.at_ k=if k=i then(j:Int)else s.at_ k:=by
 rw[c.eq,Zpc,Vs (by rw[h.fit.len];exact c.piv.hi)]
def YY{p:LPd}{s:LSt}(h:Val p s)(ss:WN p s)(k:Nat):Val p (runL p k s)/\WN p (runL p k s):=⟨Zmk h,runL_settled ss⟩
def Zxw{p:LPd}{s:LSt}(h:Reg p s)(h1:s.phase=1){j:Nat}(hr:VA p s (j:Int)<0):∃i,i<p.right.length/\0<qAt (dirL p s (j:Int)) i:=by
 by_cases g:∃i,i<p.right.length/\0<qAt (dirL p s (j:Int)) i
 ·exact g
 ·exfalso;rw[Zfs h,Zgm h,h1]at hr;have hc:XE p 1 (j:Int)=0:=Ws Qk Qk;have hs:ZF (λi=>XE p 1 (s.at_ i)*qAt (dirL p s (j:Int)) i) p.right.length<=ZF (λ_=>0) p.right.length:=Zmb λi hi=>by
   have hd:qAt (dirL p s (j:Int)) i<=0:=fV.1 λe=>g ⟨i,hi,e⟩
   by_cases ha:s.at_ i<0
   ·rw[Zhw ha];grind
   ·rw[Ws Qk Qk];grind
  rw[Xi]at hs;rw[hc]at hr;grind
def Zeu{p:LPd}{s:LSt}{Z D:List RF}:∀{n k:Nat},k<n->0<qAt D k->Ye p s Z D n≠none
 |0,k,h,_=>Qk
 |n+1,k,h,hd=>by
  by_cases h0:0<qAt D n
  ·cases hb:Ye p s Z D n with
   |none=>rw[Y6 hb h0];simp
   |some b=>
    by_cases g:better p s Z D n b
    ·rw[YH hb h0 g];simp
    ·rw[YT hb h0 g];simp
  ·rw[Xt h0]
   exact Zeu (k:=k) (by
    rcases JX k n with e|e
    ·exact e
    ·obtain rfl:k=n:=Qk
     exact absurd hd h0) hd
def U6{f:Nat->Rat}:∀{n r:Nat},Yt f r n=none->∀i,r<=i->i<r+n->¬f i<0
 |0,r,_,i,h1,h2=>Qk
 |n+1,r,hr,i,h1,h2=>by
  unfold Yt at hr
  split at hr
  ·cases hr
  ·rename_i g
   rcases kH h1 with e|e
   ·subst e;exact g
   ·exact U6 hr i Qk Qk
def Zhz{s:LSt}{D:List RF}:∀{n:Nat},s.phase=2->(∀k,k<n->¬(0<qAt D k\/(s.at_ k<0/\qAt D k≠0)))->X8 s D n=true
 |0,h,_=>by simp[X8,h]
 |n+1,h,hk=>by unfold X8;rw[jA (hk n Qk)];exact Zhz h λk hk'=>hk k Qk
def Ynn{p:LPd}{s:LSt}(h:Val p s)(hq:Xa p s=0):Zbu p s≠none:=by
 obtain⟨j,d,hj,hJ,hD⟩:=Zmj hq;have b:=Zbv h.reg (j:Int);have c:VA p s (j:Int)<0:=(YI d).2.2.1;have hl:Vb p s (zL p s) (Ud p s)≠none:=by
  rw[hD];by_cases a:s.phase=2
  ·cases hf:Yt (Zqy s (dirL p s (j:Int))) 0 (dirL p s (j:Int)).length with
   |some i=>rw[Zep a hf];simp
   |none=>
    rw[Zeq a hf];by_cases g:∃i,i<p.right.length/\0<qAt (dirL p s (j:Int)) i
    ·obtain⟨i,hi,hd⟩:=g;exact Zeu (k:=i) (by rw[b];exact hi) hd
    ·exfalso;have f:=Zhz (D:=dirL p s (j:Int)) (n:=(dirL p s (j:Int)).length) a λk hk e=>by
      rcases e with e|⟨e1,e2⟩
      ·exact g ⟨k,by rw[<-b];exact hk,e⟩
      ·exact U6 hf k (iI _) Qk (Zmh e1 e2)
     rw[(Xl d).1,f]at hq;exact absurd hq Ql
  ·have h1:s.phase=1:=(by have:=h.ph;omega);rw[Zbt a];obtain⟨i,hi,hd⟩:=Zxw h.reg h1 c;exact Zeu (k:=i) (by rw[b];exact hi) hd
 cases e:Vb p s (zL p s) (Ud p s)with
 |none=>exact absurd e hl
 |some i=>rw[Zpa hq e];simp
end Pl
namespace Pl
def vc(c:Nat):Bool:=(c%6==0 ||(c%6 !=c/6%6 && c%6 !=c/36)) && (c/6%6==0 || c/6%6 !=c/36)
def rk:Nat->Nat
 |0=>0
 |c+1=>rk c+(if vc c then 1 else 0)
end Pl
namespace Pl
def spV(f:Nat->Rat):Nat->List En
 |0=>[]
 |n+1=>if f n=0 then spV f n else spV f n++[⟨(n:Int),canF (f n)⟩]
def XM{f:Nat->Rat}{n:Nat}(h:f n=0):spV f (n+1)=spV f n:=by unfold spV;rw[jB h];cases n <;> rfl
def Wh{f:Nat->Rat}{n:Nat}(h:f n≠0):spV f (n+1)=spV f n++[⟨(n:Int),canF (f n)⟩]:=by rw[spV,jA h]
def Wi{f g:Nat->Rat}:∀{n:Nat},(∀i,i<n->f i=g i)->spV f n=spV g n
 |0,_=>rfl
 |n+1,h=>by rw[spV,spV,h n Qk,Wi λi hi=>h i Qk]
def Vh{f:Nat->Rat}:∀(n:Nat),(spV f n).length<=n
 |0=>JY _
 |n+1=>by
  have:=Vh (f:=f) n
  by_cases h:f n=0
  ·rw[XM h];omega
  ·rw[Wh h,kQ];simp;omega
def Zbw{f:Nat->Rat}:∀{n k:Nat} {e:En},(spV f n)[k]? =some e->∃i:Nat,i<n/\e.idx=(i:Int)/\e.f=canF (f i)/\f i≠0
 |0,k,e,h=>by simp[spV]at h
 |n+1,k,e,h=>by
  by_cases h0:f n=0
  ·rw[XM h0]at h
   obtain⟨i,h1,h2⟩:=Zbw h
   exact⟨i,Qk,h2⟩
  ·rw[Wh h0]at h
   rcases JX k (spV f n).length with hk|hk
   ·rw[jI hk]at h
    obtain⟨i,h1,h2⟩:=Zbw h
    exact⟨i,Qk,h2⟩
   ·rw[jH hk]at h
    have hk':k - (spV f n).length=0:=by
     rcases JV (k - (spV f n).length)with e|e
     ·exact e
     ·rw[JU (by simp;omega)]at h;cases h
    rw[hk']at h;simp at h;subst h;exact⟨n,Qk,rfl,rfl,h0⟩
def Zii(f:Nat->Rat)(n:Nat):inR n (spV f n):=λk e h=>by
 obtain⟨i,h1,h2,_⟩:=Zbw h
 omega
def Zku(f:Nat->Rat):∀(n i:Nat),X5 (spV f n) i=if i<n then f i else 0
 |0,i=>by rw[jA Qk];rfl
 |n+1,i=>by
  have ih:=Zku f n i
  by_cases h0:f n=0
  ·rw[XM h0,ih]
   by_cases e:i<n
   ·rw[jB e,jB Qk]
   ·rw[jA e]
    by_cases e2:i=n
    ·subst e2;rw[jB Qk,h0]
    ·rw[jA Qk]
  ·rw[Wh h0]
   unfold X5 at ih⊢
   rw[Zma]
   simp only
   by_cases e:(n:Int)=(i:Int)
   ·obtain rfl:n=i:=Qk
    rw[jB e,jB Qk,Zv]
   ·rw[jA e,ih]
    by_cases e2:i<n
    ·rw[jB e2,jB Qk]
    ·rw[jA e2,jA Qk]
def Good(n:Nat)(es:List En):Prop:=inR n es/\Inc none es/\∀(k:Nat) (e:En),es[k]? =some e->e.f.q≠0
def Ynx{p:Option Int}{es:List En}{e:En}(h:Inc p es)(h1:leP p e.idx=false)(h2:∀(k:Nat) (d:En),es[k]? =some d->d.idx<e.idx):Inc p (es++[e]):=by
 induction es generalizing p with
 |nil=>exact⟨h1,trivial⟩
 |cons d es ih=>
  refine⟨h.1,ih h.2 ?_ λk d' hd=>h2 (k+1) d' (by simpa using hd)⟩;have:=h2 0 d rfl;simp[leP];omega
def Zmu(f:Nat->Rat):∀(n:Nat),Inc none (spV f n)
 |0=>trivial
 |n+1=>by
  by_cases h0:f n=0
  ·rw[XM h0];exact Zmu f n
  ·rw[Wh h0]
   exact Ynx (Zmu f n) rfl λk d hd=>by
    obtain⟨i,h1,h2,_⟩:=Zbw hd
    show d.idx< (n:Int)
    omega
def Zgr(f:Nat->Rat)(n:Nat):Good n (spV f n):=⟨Zii f n,Zmu f n,λk e h=>by
 obtain⟨i,h1,h2,h3,h4⟩:=Zbw h
 rw[h3,Zv];exact h4⟩
def Ydh{n:Int}{es:List En}{p:Option Int}(h1:∀(k:Nat) (e:En),es[k]? =some e->0<=e.idx/\e.idx<n)(h2:Inc p es)(h3:∀(k:Nat) (e:En),es[k]? =some e->e.f.q≠0):Zcu n es p=0:=by
 induction es generalizing p with
 |nil=>rfl
 |cons e es ih=>
  have a:=h1 0 e rfl;rw[Zcu,jA Qk,jA (by rw[h2.1];decide),jA (h3 0 e rfl)];exact ih (λk d hd=>h1 (k+1) d (by simpa using hd)) h2.2 λk d hd=>h3 (k+1) d (by simpa using hd)
def Good.err{n:Nat}{es:List En}(h:Good n es)(hn:n<=4096):vecErr es (n:Int)=0:=by
 unfold vecErr;rw[jA Qk];exact Ydh h.1 h.2.1 h.2.2
def Zfu{f:Nat->Rat}{n K:Nat}(h:∀i,i<n->Sz K (f i)):∀(k:Nat) (e:En),(spV f n)[k]? =some e->e.f.Rs K:=λk e he=>by
 obtain⟨i,h1,h2,h3,h4⟩:=Zbw he
 rw[h3];exact(h i h1).rs
end Pl
namespace Pl
def zeroF_sm:zeroF.Sm:=(Ut 1).sm Ql
def Zps{es:List En}{i:Nat}(h:∀(k:Nat) (e:En),es[k]? =some e->e.idx≠(i:Int))(f:Nat->Rat):dQ es f i=f i:=by
 induction es generalizing f with
 |nil=>rfl
 |cons e es ih=>
  rw[dQ,ih λk d hd=>h (k+1) d (by simpa using hd)];rw[jA (h 0 e rfl)]
def Yoc{es:List En}(h:Inc none es){k i:Nat}{e:En}(he:es[k]? =some e)(hi:e.idx=(i:Int)):X5 es i=e.f.q:=by
 have b:∀(es:List En) (p:Option Int) (f:Nat->Rat) (k:Nat),Inc p es->es[k]? =some e->dQ es f i=e.f.q:=by
  intro es
  induction es with
  |nil=>intro p f k _ hk;simp at hk
  |cons c es ih=>
   intro p f k a hk
   match k,hk with
   |0,hk=>
    simp at hk;subst hk;rw[dQ,Zps λj d hd e2=>by
     have:=Zus a 0 (j+1) c d Qk rfl (by simpa using hd);omega,jB hi]
   |k+1,hk=>rw[dQ];exact ih _ _ k a.2 (by simpa using hk)
 exact b es none _ k h he
end Pl
def Zau(v:Value)(a:RF)(w:World)(h:Zx w v a)(hs:a.Sm):
 Calls prog 96 #[v] w λe w'=>∃v',e= .returned v'/\Zx w' v' (canF a.q)/\Below w.heap.size w w':=by
 obtain⟨A,n,c,A',n',c',rfl,_,_⟩:=id h;obtain⟨W,hW,_,hX,hR,f⟩:=Zoe w (.bool a.num.neg) (.slice A n c) (.bool a.den.neg) (.slice A' n' c') (.bool false) (.slice none 0 0) (.bool false) (.slice none 0 0);obtain⟨p1,p2,p3,p4⟩:=hX.four;have e1:=h.below f;clear h;go_enter func96,ntmps96;go_wp2_with fail;clear hW;refine(Zgi _ _ a zeroF _ e1 (Zx.zero _) hs zeroF_sm).mono ?_;rw[zeroF_q,aN];rintro _ w1 ⟨v1,rfl,e2,g⟩;obtain⟨B,m,d,B',m',d',rfl,_,_⟩:=id e2;have b:=hR.later g;obtain⟨c0,c1,c2,c3⟩:=b.four;obtain⟨f0,f1,f2,f3⟩:=b.fourF;go_wp2;refine Zq results96 underlying49 Qm rfl (b.set4 _ _ _ _) rfl ?_;exact YA b e2 (Za f g f.size) Qk
def Xv(v:Value)(fs:List RF)(K:Nat)(w:World)(h:UY w v fs)(hl:fs.length<=4096)(hk:RsL K fs)(hK:K<=34359738368):
 Calls prog 56 #[v] w λe w'=>∃v',e= .returned (.tuple #[v',.int .i64 0])/\VK w.heap.size w' v' (spV (qAt fs) fs.length)/\Below w.heap.size w w':=by
 obtain⟨A,c,rfl,P,R⟩:=h.shape;have H:=JZ h;have HK:=JZ hk;generalize hn:fs.length=n at *;have HN:=JZ hn;have N:(n:Int)<=4096:=Qk
 clear h hk hn;go_enter func56,ntmps56;go_wp2
 go_loopw [4,12] (λu i wr=>∃k:Nat,k<=n/\i= .int .i64 k/\VK w.heap.size wr u (spV (qAt fs) k)/\Below w.heap.size w wr) (λ_ i _=>n - (intOf i).toNat)
 case atStart=>exact⟨0,Qk,rfl,VK.nil _ _,JR _ _⟩
 case round=>
  obtain⟨k,hk,rfl,hO,j⟩:=hrel;rcases JX k n with hkl|hkl
  ·obtain⟨f,hf⟩:=YJ (fs:=fs) (i:=k) (by rw[HN.out];exact hkl);obtain⟨b,S,A1,n1,k1,A2,n2,k2,rfl,T,⟨q0,q1,q2,q3⟩,E⟩:=H.out.elem j hf;have HQ:=JZ (YW hf);have F:f.Sm:=(HK.out k f hf).sm hK;obtain⟨W1,J,hX,o⟩:=Xp wr (.bool f.num.neg) (.slice A1 n1 k1) (.bool f.den.neg) (.slice A2 n2 k2);have O:(k:Int)<n:=Qk;have r:=E.below o;have x:=hO.below o;have g:=Za j o j.size;obtain⟨x0,x1,x2,x3⟩:=hX.four;clear hf E hO j;go_wp2_with fail;clear J q0 q1 q2 q3;refine(Zy _ f _ r).mono ?_;rintro _ w2 ⟨rfl,m⟩;have y:=hX.later m;have s:=x.below m;have a:=Za g m g.size;have z:=r.below m;clear x0 x1 x2 x3 hX x g r m o;by_cases hq:f.q=0
   ·have G:(qs f.q !=0)=false:=(by rw[hq];decide);have HS:Hid (spV (qAt fs) (k+1)=spV (qAt fs) k):=JZ (XM (by rw[HQ.out];exact hq));clear hq;go_wp2;go_roundw
    case rel=>exact⟨k+1,Qk,by go_num,by rw[HS.out];exact s,a⟩
    case measure=>exact Qn
   ·have G:(qs f.q !=0)=true:=(by simpa using λe=>hq (Yg.1 e));have HS:Hid (spV (qAt fs) (k+1)=spV (qAt fs) k++[⟨(k:Int),canF f.q⟩]):=JZ (by rw[<-HQ.out];exact Wh (by rw[HQ.out];exact hq));clear hq;obtain⟨x0,x1,x2,x3⟩:=y.four;go_wp2_with fail;refine(Zau _ f _ z F).mono ?_;rintro _ w3 ⟨v3,rfl,e3,t⟩;have C:=s.below t;have p:=Za a t a.size;obtain⟨B,l,d,B',l',d',rfl,_,_⟩:=id e3;have HF:=JZ e3;have HO:=JZ C;have D:(spV (qAt fs) k).length+1<=1099511627776:=(by have:=Vh (f:=qAt fs) k;omega);have I:=p.size;clear s C a t e3 x0 x1 x2 x3 y z;generalize hQ:canF f.q=Q at *;go_wp2_with(at_builtin;refine Vq rfl (.tmp 20) (.tmp 25) rfl w3 w.heap.size u4 (spV (qAt fs) k) rfl HO.out _ _ B B' l d l' d' (k:Int) Q HF.out rfl D I ?_);intro v' w4 L U M;go_wp2;go_roundw
    case rel=>exact⟨k+1,Qk,by go_num,by rw[HS.out];exact L,p.trans M⟩
    case measure=>exact Qn
  ·obtain rfl:k=n:=Qk
   go_wp2;go_ret2;exact⟨_,rfl,hO,j⟩
namespace Pl
def Ydj(n i:Nat)(es:List En):List RF:=rfL n λj=>if j<i then canF (X5 es j)else zeroF
def Ydk(n:Nat)(es:List En):Ydj n 0 es=List.replicate n zeroF:=by
 refine jV λi=>?_
 rcases JX i n with e|e
 ·unfold Ydj;rw[YE e,kT,jB e,jA Qk]
 ·unfold Ydj;rw[JU (by rw[Zw];exact e),JU (by simpa using e)]
def Zin{n i:Nat}{es:List En}(hi:i<n):(Ydj n i es).set i (canF (X5 es i))=Ydj n (i+1) es:=by
 unfold Ydj;rw[Uy hi];exact Wj λj _=>by
  by_cases e:j=i
  ·rw[jB e,jB Qk,e]
  ·rw[jA e];by_cases g:j<i
   ·rw[jB g,jB Qk]
   ·rw[jA g,jA Qk]
def Yiv(n:Nat)(es:List En):Ydj n n es=Yn n (X5 es):=by
 unfold Ydj;rw[<-Zss];exact Wj λj hj=>by rw[jB hj]
def Zby(n i:Nat)(es:List En):(Ydj n i es).length=n:=Zw _ _
def Yiw{n i j:Nat}{es:List En}(h:j<n):(Ydj n i es)[j]? =some (if j<i then canF (X5 es j)else zeroF):=YE h
def Ug(es:List En)(i t:Nat):Prop:=t<=es.length/\∀(k:Nat) (e:En),es[k]? =some e->(k<t↔e.idx< (i:Int))
def Ug.zero{n:Nat}{es:List En}(h:Good n es):Ug es 0 0:=⟨iI _,λk e he=>by have:=h.1 k e he;omega⟩
def Ug.hit{n i t:Nat}{es:List En}(g:Good n es)(h:Ug es i t){e:En}(he:es[t]? =some e)(hi:e.idx=(i:Int)):Ug es (i+1) (t+1)/\X5 es i=e.f.q:=by
 have ht:t<es.length:=(JO.1 he).1;refine⟨⟨Qk,λk d hd=>?_⟩,Yoc g.2.1 he hi⟩;have h1:=h.2 k d hd;rcases kF k t with c|c|c
 ·have:=h1.1 c;omega
 ·subst c;rw[he]at hd;injection hd with hd;subst hd;omega
 ·have:=Zus g.2.1 t k e d c he hd;omega
def Ug.miss{i t:Nat}{es:List En}(h:Ug es i t)(hm:∀e,es[t]? =some e->e.idx≠(i:Int))(hinc:Inc none es):Ug es (i+1) t/\X5 es i=0:=by
 have a:∀(k:Nat) (d:En),es[k]? =some d->¬k<t->d.idx≠(i:Int):=λk d hd hk e=>by
  rcases kH (Nat.not_lt.1 hk)with c|c
  ·subst c;exact hm d hd e
  ·have ht:t<es.length:=(by have:=(JO.1 hd).1;omega);have h1:=Zus hinc t k _ d c (JQ ht) hd;have h2:¬(es[t]'ht).idx< (i:Int):=λq=>Nat.lt_irrefl t ((h.2 t _ (JQ ht)).2 q)
   have h3:=hm _ (JQ ht);omega
 refine⟨⟨h.1,λk d hd=>?_⟩,Zps (λk d hd=>?_) _⟩
 ·have h1:=h.2 k d hd;by_cases c:k<t
  ·have:=h1.1 c;omega
  ·have:=a k d hd c;omega
 ·by_cases c:k<t
  ·have:=(h.2 k d hd).1 c;omega
  ·exact a k d hd c
end Pl
def Vt(v:Value)(es:List En)(n K:Nat)(w:World)(h:Ur w v es)(hn:n<=4096)(hk:∀(k:Nat) (e:En),es[k]? =some e->e.f.Rs K)(hK:K<=34359738368)(hg:Pl.Good n es):
 Calls prog 98 #[v,.int .i64 (n:Int)] w λe w'=>∃v',e= .returned (.tuple #[v',.int .i64 0])/\Yy w.heap.size w' v' (Yn n (X5 es))/\Below w.heap.size w w':=by
 obtain⟨A,c,rfl,a1,a2⟩:=h.shape;have H:=JZ h;have HK:=JZ hk;have HG:=JZ hg;have HE:=JZ (hg.err hn);generalize hl:es.length=l at *;have HL:=JZ hl;have S:Hid (EnI es):=JZ λk e he=>by have:=hg.1 k e he;omega
 have X:Hid (∀(k:Nat) (e:En),es[k]? =some e->e.idx=(e.idx.toNat:Int)/\e.idx<n):=JZ λk e he=>by have:=hg.1 k e he;omega
 have Y:=Vo n Qk;clear hk hg hl;go_enter func98,ntmps98;go_wp2_with fail;refine(X4 _ es (n:Int) _ h S.out Qk Qk).mono ?_;rw[HE.out];rintro _ w1 ⟨rfl,M⟩;have F:=Yy.zeros w1 n (by unfold maxLen;omega);have G:=Ze w1 (.cells (zfc n) 49);rw[<-Ydk n es]at F;clear h;go_wp2;have N:=Za M G M.size;have E:=M.size;generalize w1.alloc (.cells (zfc n) 49)=W2 at *
 go_loopw [8,20] (λx i wr=>∃k t:Nat,k<=n/\x= .int .i64 t/\i= .int .i64 k/\Below w.heap.size w wr/\Below w1.heap.size w1 wr/\Ug es k t/\Yy w1.heap.size wr (.slice (some ⟨w1.heap.size,0,none⟩) n n) (Ydj n k es)) (λ_ i _=>n - (intOf i).toNat)
 case atStart=>exact⟨0,0,Qk,rfl,rfl,N,G,Ug.zero HG.out,F⟩
 case round=>
  clear N G F;obtain⟨k,t,hk,rfl,rfl,j,a,J,hO⟩:=hrel;have I:=JZ J;have Z:t<=l:=by rw[<-HL.out];exact J.1
  clear J;rcases JX k n with hkl|hkl
  ·have a0:(k:Int)<n:=Qk;have y:=Yiw (n:=n) (i:=k) (es:=es) hkl;rcases JX t l with htl2|htl2
   ·obtain⟨e,he⟩:=X3 (es:=es) (i:=t) (by rw[HL.out];exact htl2);obtain⟨b,a3,A1,n1,k1,A2,n2,k2,rfl,a4,⟨x0,x1,x2,x3,x4⟩,L⟩:=H.out.elem j he;have T:(t:Int)<l:=Qk;by_cases D:e.idx=(k:Int)
    ·obtain⟨r,s⟩:=Ug.hit HG.out I.out he D;have z:=JZ r;have C:Hid (canF e.f.q=canF (X5 es k)):=JZ (by rw[s]);have U:e.f.Sm:=(HK.out t e he).sm hK;obtain⟨ei,ef⟩:=e;simp only at *;subst D;clear he r s;go_wp2_with fail;refine(Zau _ ef _ L U).mono ?_;rw[C.out];rintro _ w3 ⟨v3,rfl,e3,g⟩;obtain⟨B,l9,d9,B',O,P,rfl,_,_⟩:=id e3;have m:=hO.below g;obtain⟨_,_,_,_,⟨t0,t1,t2,t3⟩,⟨f0,f1,f2,f3⟩,_⟩:=m.at_ y;obtain⟨u,R⟩:=m.set_ (k:=k) (by rw[Zby];exact hkl) e3;rw[Zin hkl]at u;have o:=ZC (Za j g j.size) E (k*4) (k*4+1) (k*4+2) (k*4+3);have p:=ZC (Za a g a.size) (JY _) (k*4) (k*4+1) (k*4+2) (k*4+3);clear x0 x1 x2 x3 x4 L hO j a g;go_wp2;go_roundw
     case rel=>exact⟨k+1,t+1,Qk,by go_num,by go_num,o _ _ _ _,p _ _ _ _,z.out,u⟩
     case measure=>exact Qn
    ·obtain⟨r,s⟩:=Ug.miss I.out (λd hd=>by rw[he]at hd;injection hd with hd;subst hd;exact D) HG.out.2.1;have z:=JZ r;have C:Hid (canF zeroF.q=canF (X5 es k)):=JZ (by rw[s,zeroF_q]);obtain⟨ei,ef⟩:=e;simp only at *;have V:(ei==(k:Int))=false:=(by simpa using D);clear he r s D;go_wp2_with fail;refine(Zau _ zeroF _ (Zx.zero _) zeroF_sm).mono ?_;rw[C.out];rintro _ w3 ⟨v3,rfl,e3,g⟩;obtain⟨B,l9,d9,B',O,P,rfl,_,_⟩:=id e3;have m:=hO.below g;obtain⟨_,_,_,_,⟨t0,t1,t2,t3⟩,⟨f0,f1,f2,f3⟩,_⟩:=m.at_ y;obtain⟨u,R⟩:=m.set_ (k:=k) (by rw[Zby];exact hkl) e3;rw[Zin hkl]at u;have o:=ZC (Za j g j.size) E (k*4) (k*4+1) (k*4+2) (k*4+3);have p:=ZC (Za a g a.size) (JY _) (k*4) (k*4+1) (k*4+2) (k*4+3);clear x0 x1 x2 x3 x4 L hO j a g;go_wp2;go_roundw
     case rel=>exact⟨k+1,t,Qk,rfl,by go_num,o _ _ _ _,p _ _ _ _,z.out,u⟩
     case measure=>exact Qn
   ·obtain⟨r,s⟩:=Ug.miss I.out (λd hd=>by have:=(JO.1 hd).1;have:=HL.out;omega) HG.out.2.1;have z:=JZ r;have C:Hid (canF zeroF.q=canF (X5 es k)):=JZ (by rw[s,zeroF_q]);have T:(l:Int)<=t:=Qk;clear r s;go_wp2_with fail;refine(Zau _ zeroF _ (Zx.zero _) zeroF_sm).mono ?_;rw[C.out];rintro _ w3 ⟨v3,rfl,e3,g⟩;obtain⟨B,l9,d9,B',O,P,rfl,_,_⟩:=id e3;have m:=hO.below g;obtain⟨_,_,_,_,⟨t0,t1,t2,t3⟩,⟨f0,f1,f2,f3⟩,_⟩:=m.at_ y;obtain⟨u,R⟩:=m.set_ (k:=k) (by rw[Zby];exact hkl) e3;rw[Zin hkl]at u;have o:=ZC (Za j g j.size) E (k*4) (k*4+1) (k*4+2) (k*4+3);have p:=ZC (Za a g a.size) (JY _) (k*4) (k*4+1) (k*4+2) (k*4+3);clear hO j a g;go_wp2;go_roundw
    case rel=>exact⟨k+1,t,Qk,rfl,by go_num,o _ _ _ _,p _ _ _ _,z.out,u⟩
    case measure=>exact Qn
  ·obtain rfl:n=k:=Qk
   rw[Yiv]at hO;go_wp2;go_ret2;exact⟨_,rfl,hO.monoB E,j⟩
namespace Pl
def Zbz(es:List En)(k:Int)(z:Rat)(g:Nat->Rat):Nat->Nat->Rat
 |0,i=>g i
 |t+1,i=>match es[t]? with
  |some e=>if e.idx≠k/\e.idx=(i:Int)then Zbz es k z g t i - e.f.q*z else Zbz es k z g t i
  |none=>Zbz es k z g t i
def Zio(es:List En)(k:Int)(g:Nat->Rat)(i:Nat):∀t,Zbz es k 0 g t i=g i
 |0=>rfl
 |t+1=>by
  have ih:=Zio es k g i t
  unfold Zbz
  split
  ·split
   ·rw[ih];grind
   ·exact ih
  ·exact ih
def Yof{es:List En}{k:Int}{z:Rat}{g:Nat->Rat}{t i:Nat}{e:En}(h:es[t]? =some e)(hk:e.idx=k):Zbz es k z g (t+1) i=Zbz es k z g t i:=by
 conv=>lhs;unfold Zbz
 simp only[h,hk,ne_eq,not_true_eq_false,false_and,Bj]
def Yog{es:List En}{k:Int}{z:Rat}{g:Nat->Rat}{t i j:Nat}{e:En}(h:es[t]? =some e)(hk:e.idx≠k)(hj:e.idx=(j:Int)):Zbz es k z g (t+1) i=if i=j then Zbz es k z g t j - e.f.q*z else Zbz es k z g t i:=by
 conv=>lhs;unfold Zbz
 simp only[h];by_cases c:i=j
 ·subst c;rw[jB ⟨hk,hj⟩,jB rfl]
 ·rw[jA (λq=>c Qk),jA c]
def Zvs(es:List En)(k:Nat)(z:Rat)(g:Nat->Rat):∀t,Zbz es k z g t k=g k
 |0=>rfl
 |t+1=>by
  have ih:=Zvs es k z g t
  conv=>lhs;unfold Zbz
  split
  ·rw[jA (λq=>q.1 q.2)];exact ih
  ·exact ih
end Pl
def ZA.of_below{g:Option Nat}{w w':World}(h:Below w.heap.size w w'):ZA g w w':=⟨h.size,λb hb _=>h.block b hb⟩
def Zge(base:Nat)(vz:Value)(N:Nat)(G:Nat->Rat)(w wr:World):Prop:=Yy base wr vz (Yn N G)/\Zf 49 w wr/\ZA vz.ownBlock w wr/\Below base w wr
def Zfx(vz vb:Value)(m:Nat)(q:Nat->Rat)(es:List En)(kn K J base:Nat)(w:World)(h1:Yy base w vz (Yn m q))(h2:Ur w vb es)(hkn:kn<m)(hin:inR m es)(ha:∀(k:Nat) (e:En),es[k]? =some e->e.f.Rs K)(hz:∀t i,t<=es.length->i<m->Sz J (Zbz es kn (q kn) q t i))(hK:1<=K)(hs1:J<=34359738368)(hs2:K+J<=34359738368):
 Calls prog 160 #[vz,vb,.int .i64 (kn:Int)] w λo w'=>o= .returned (.tuple #[])/\Zge base vz m (Zbz es kn (q kn) q es.length) w w':=by
 obtain⟨g,c0,rfl,ao,b0,ap,b2⟩:=h1.shape (by rw[Zo];omega);obtain⟨A,c,rfl,b3,b4⟩:=h2.shape;rw[Zo]at h1 ap⊢;have a:base<=w.heap.size:=Qk
 have O:Sz J (q kn):=hz 0 kn (iI _) hkn;have V:(canF (q kn)).Sm:=O.rs.sm hs1;obtain⟨b1,o1,A3,n3,k3,A4,n4,k4,hA,_,⟨y0,y1,y2,y3⟩,s⟩:=h1.frs.elem (JR _ _) (ZG hkn);injection hA with hA;injection hA with hA1 hA2;subst hA1;subst hA2;simp only[ji]at y0 y1 y2 y3;have P:Hid (∀t,Zbz es kn (q kn) q t kn=q kn):=JZ λt=>Zvs es kn _ q t
 obtain⟨z,U⟩:∃z,z=q kn:=⟨_,rfl⟩;rw[<-U]at hz O V y0 y2 s P⊢;have av:=JZ U;clear U;generalize hn:es.length=l at *;have HN:=JZ hn;have HA:=JZ ha;have HI:=JZ hin;obtain⟨TQ,G⟩:∃TQ:Nat->Nat->Rat,TQ=Zbz es kn z q:=⟨_,rfl⟩;rw[<-G]at hz P⊢;have R:=JZ G;have HZ:=JZ hz;have X:q=TQ 0:=by rw[G];rfl
 have H1:Hid (Yy base w (.slice (some ⟨g,0,none⟩) m c0) (Yn m (TQ 0))):=JZ (by rw[<-X];exact h1);have H2:=JZ h2;have aw:(kn:Int)<m:=Qk
 clear hn ha G hin hz h1 h2 X;have ab:qs z=0\/qs z=1\/qs z= -1:=by have:=VY z;omega
 go_enter func160,ntmps160;go_wp2_with fail;refine(Zy _ (canF z) _ s).mono ?_;rw[Zv];rintro e w1 ⟨rfl,I⟩;have ST:Hid (Zge base (.slice (some ⟨g,0,none⟩) m c0) m (TQ 0) w w1):=JZ ⟨H1.out.below I,Zf.of_below I,ZA.of_below I,I.mono a⟩;by_cases L:qs z=0
 ·have HE:Hid (Zge base (.slice (some ⟨g,0,none⟩) m c0) m (TQ l) w w1):=JZ (by
   have e:∀i,i<m->TQ 0 i=TQ l i:=λi _=>by rw[R.out,Yg.1 L,Zio,Zio]
   rw[show Zge base (.slice (some ⟨g,0,none⟩) m c0) m (TQ l) w w1=Zge base (.slice (some ⟨g,0,none⟩) m c0) m (TQ 0) w w1 from by unfold Zge;rw[Yc e]];exact ST.out)
  rw[L];go_wp2;refine iP (Bn rfl _ _ _) rfl ?_;exact⟨rfl,HE.out⟩
 ·have ac:(qs z==0)=false:=by simpa using L
  clear ab L y0 y1 y2 y3 s;go_wp2;clear ac
  go_loopw [16] (λi wr=>∃k:Nat,k<=l/\i= .int .i64 k/\Zge base (.slice (some ⟨g,0,none⟩) m c0) m (TQ k) w wr) (λi _=>l - (intOf i).toNat)
  case atStart=>exact⟨0,Qk,rfl,ST.out⟩
  case round=>
   obtain⟨k,hk,rfl,hO,u,x,H⟩:=hrel;rcases JX k l with hkl|hkl
   ·obtain⟨e,he⟩:=X3 (es:=es) (i:=k) (by rw[HN.out];exact hkl);have Y:=H2.out.but u Ql Ql;obtain⟨b,b5,A1,n1,k1,A2,n2,k2,rfl,b6,⟨x0,x1,x2,x3,x4⟩,a6⟩:=Y.elem (JR _ _) he;obtain⟨i0,i1⟩:=HI.out k e he;obtain⟨j,hj⟩:=JT i0;have C:j<m:=Qk;have ad:Hid ((j:Int)=kn->∀i,TQ (k+1) i=TQ k i):=JZ λq i=>by rw[R.out];exact Yof he (by rw[hj];exact q)
    have ae:Hid ((j:Int)≠kn->∀i,TQ (k+1) i=if i=j then TQ k j - e.f.q*z else TQ k i):=JZ λq i=>by rw[R.out];exact Yog he (by rw[hj];exact q) hj
    have h:=HA.out k e he;obtain⟨ei,f⟩:=e;simp only at *;subst hj;obtain⟨W1,a7,hV,y⟩:=Zkf wr (.int .i64 (j:Int)) (.bool f.num.neg) (.slice A1 n1 k1) (.bool f.den.neg) (.slice A2 n2 k2);have n:=hO.below y;have af:=a6.below y;have M:=u.trans (Zf.of_below y);have p:=x.trans (ZA.of_below y);have N:=Za H y (JW a x.1);obtain⟨v0,v1,v2,v3,v4⟩:=hV.five;have rj:=HZ.out k j hk C;have ag:=h.sm (show K<=34359738368 by omega);have ah:(canF (TQ k j)).Sm:=rj.rs.sm hs1;have Z:=Vn (h.sz hK) O;have ai:(canF (f.q*z)).Sm:=(Z.sh Qk).sm;have ax:(k:Int)<l:=Qk;have ay:(j:Int)<m:=Qk;have a0:(Yn m (TQ k))[kn]? =some (canF z):=(by rw[ZG hkn,P.out]);have S:(Yn m (TQ k))[j]? =some (canF (TQ k j)):=ZG C;generalize aa:TQ k j=qj at *;have az:=JZ aa;clear aa;clear he hO u H x a6 Z h rj Y;by_cases d:(j:Int)=kn
    ·have aj:Hid (Yn m (TQ k)=Yn m (TQ (k+1))):=JZ (Yc λi _=>by rw[ad.out d]);have a1:((j:Int) !=kn)=false:=(by simpa using d);clear d S a0;rw[aj.out]at n;go_wp2;clear a7;go_roundw
     case rel=>exact⟨k+1,Qk,by go_num,n,M,p,N⟩
     case measure=>exact Qn
    ·have T:=JZ (ae.out d);have a1:((j:Int) !=kn)=true:=(by simpa using d);have HV:Hid ((canF qj).q - (canF (f.q*z)).q=TQ (k+1) j):=JZ (by rw[Zv,Zv,T.out,jB rfl]);have ak:Hid ((Yn m (TQ k)).set j (canF (TQ (k+1) j))=Yn m (TQ (k+1))):=JZ (by rw[Us C];exact Yc λi _=>by rw[T.out i,T.out j,jB rfl]);obtain⟨b1,o1,B3,p3,q3,B4,p4,q4,hA,_,⟨y0,y1,y2,y3⟩,s⟩:=n.frs.elem (JR _ _) a0;injection hA with hA;injection hA with hA1 hA2;subst hA1;subst hA2;obtain⟨b1,o1,D3,r3,s3,D4,r4,s4,hA,_,⟨z0,z1,z2,z3⟩,aq⟩:=n.frs.elem (JR _ _) S;injection hA with hA;injection hA with hA1 hA2;subst hA1;subst hA2;simp only[ji]at y0 y1 y2 y3 z0 z1 z2 z3;clear d
     go_upto_region 5 with(fail)
     clear a7;have C0:=Zm y0;have C1:=Zm y1;have C2:=Zm y2;have C3:=Zm y3;have D0:=Zm v0;have D1:=Zm v1;have D2:=Zm v2;have al:=Zm v3;have am:=Zm v4;have E0:=Zm z0;have E1:=Zm z1;have E2:=Zm z2;have E3:=Zm z3;have D:=Zc W1;clear y0 y1 y2 y3 v0 v1 v2 v3 v4 z0 z1 z2 z3 x0 x1 x2 x3 x4;refine Zj 17 [0,1,2,3,4,5,6,7,8,9,10,11,12,13,14,15,16,17] Qm Qm ?_;refine Qb ?_
     refine Qo λ_ kq=>?_;(with_reducible refine(WV _ _ f (canF z) _ (af.below D) (s.below D) ag V).mono ?_);rw[Zv];rintro _ w6 ⟨v6,rfl,e6,ar⟩;have F:=Za D ar D.size;refine kq.out _ _ (.inr F) (Qc ?_);clear kq
     refine Qo λ_ kq=>?_;(with_reducible refine(VN _ _ (canF qj) (canF (f.q*z)) _ (aq.below F) e6 ah ai).mono ?_);rw[HV.out];rintro _ w7 ⟨v7,rfl,e7,au⟩;have r:=Za F au F.size;obtain⟨E,l9,k9,E',b7,b8,rfl,_,_⟩:=id e7;have a2:=n.below r;obtain⟨_,_,_,_,⟨c0,c1,c2,c3⟩,⟨f0,f1,f2,f3⟩,_⟩:=a2.at_ S;refine kq.out _ _ (.inr r) (Qc ?_);clear kq
     refine Qh ?_;refine Zl ?_;clear C0 C1 C2 C3 D0 D1 D2 al am E0 E1 E2 E3;have an:j< (Yn m (TQ k)).length:=(by rw[Zo];exact C);obtain⟨a8,a9⟩:=a2.set_ an e7;rw[ak.out]at a8;have a3:=(M.trans (Zf.of_below r)).trans a9;have a4:=p.trans (ZA.of_below r);have a5:=ZC (Za N r (JW a p.1)) ao (j*4) (j*4+1) (j*4+2) (j*4+3);go_wp2;go_roundw
     case rel=>exact⟨k+1,Qk,by go_num,a8,a3,a4.trans Yw,a5 _ _ _ _⟩
     case measure=>exact Qn
   ·obtain rfl:k=l:=Qk
    have HE:Hid (Zge base (.slice (some ⟨g,0,none⟩) m c0) m (TQ k) w wr):=JZ ⟨hO,u,x,H⟩;clear hO u x H;go_wp2
    go_end0
    exact⟨rfl,HE.out⟩
namespace Pl
def Xr.uniq{n:Nat}{cols:Mx}{x y b:Nat->Rat}(hi:Xr n cols)(hx:∀r,r<n->mulC n cols x r=b r)(hy:∀r,r<n->mulC n cols y r=b r):∀k,k<n->x k=y k:=by
 obtain⟨z,hz,h1⟩:=Zcx hi hx;obtain⟨z',a,h2⟩:=Zcx hi hy;rw[hz]at a;injection a with e;subst e;exact λk hk=>by rw[<-h1 k hk,h2 k hk]
def Xr.sz{n K:Nat}{cols:Mx}{x b:Nat->Rat}(hi:Xr n cols)(hc:∀r c,r<n->c<n->Sz K (cols c r))(hb:∀r,r<n->Sz K (b r))(hx:∀r,r<n->mulC n cols x r=b r):∀i,i<n->Sz (5^n*K) (x i):=by
 obtain⟨z,hz,h1⟩:=Zcx hi hx;exact λi hi'=>by rw[<-h1 i hi'];exact Zup hc hb hz i hi'
def Yoh(C:Nat->Nat)(i:Nat):Nat->Nat
 |0=>0
 |s+1=>if C s=i then s else Yoh C i s
def Zst{n m k:Nat}{C:Nat->Nat}(h:Inj n m C)(hk:k<m):Yoh C (C k) m=k:=by
 have a:∀t,k<t->t<=m->Yoh C (C k) t=k:=by
  intro t
  induction t with
  |zero=>intro h1;omega
  |succ t ih=>
   intro h1 h2;unfold Yoh;by_cases e:t=k
   ·subst e;rw[jB rfl]
   ·rw[jA λg=>e (h.eq Qk hk g)];exact ih Qk Qk
 exact a m hk (JY _)
def xOf(C:Nat->Nat)(n:Nat)(X:Nat->Rat):Nat->Rat:=λi=>X (Yoh C i n)
def Zkw{n k:Nat}{C:Nat->Nat}{X:Nat->Rat}(h:Inj n n C)(hk:k<n):xOf C n X (C k)=X k:=by unfold xOf;rw[Zst h hk]
def UH(n j:Nat)(C:Nat->Nat)(X:Nat->Rat):List RF:=rfL n λi=>if n - j<=Yoh C i n then canF (X (Yoh C i n))else zeroF
def Zkx{n:Nat}{C:Nat->Nat}{X:Nat->Rat}(h:Inj n n C):UH n 0 C X=List.replicate n zeroF:=by
 have:UH n 0 C X=rfL n λ_=>zeroF:=Wj λi hi=>by
  obtain⟨s,hs,rfl⟩:=h.onto hi;rw[Zst h hs,jA Qk]
 rw[this];refine jV λi=>?_
 rcases JX i n with e|e
 ·rw[YE e];simp[e]
 ·rw[JU (by rw[Zw];exact e),JU (by simp;exact e)]
def Zky{n j k:Nat}{C:Nat->Nat}{X:Nat->Rat}(h:Inj n n C)(hk:k+1+j=n):(UH n j C X).set (C k) (canF (X k))=UH n (j+1) C X:=by
 unfold UH;rw[Uy (h.1 k Qk)];refine Wj λi hi=>?_
 obtain⟨s,hs,rfl⟩:=h.onto hi;rw[Zst h hs];by_cases e:s=k
 ·subst e;rw[jB rfl,jB Qk]
 ·rw[jA λg=>e (h.eq hs Qk g)];by_cases e2:n - j<=s
  ·rw[jB e2,jB Qk]
  ·rw[jA e2,jA Qk]
def Zpt{n:Nat}{C:Nat->Nat}{X:Nat->Rat}(_h:Inj n n C):UH n n C X=Yn n (xOf C n X):=by
 unfold UH;rw[<-Zss];exact Wj λi _=>by rw[jB Qk];rfl
def VO{n j:Nat}{C:Nat->Nat}{X:Nat->Rat}:(UH n j C X).length=n:=Zw _ _
def solQ(n:Nat)(R C:Nat->Nat)(L U:Mx)(b:Nat->Rat):Nat->Rat:=xOf C n (Zcc n U (Zbx L (λp=>b (R p)) n) n)
def solT(n:Nat)(R C:Nat->Nat)(L U:Mx)(d:Nat->Rat):Nat->Rat:=xOf R n (ltN n L (utN U (λk=>d (C k)) n) n)
def Zgc.solQ{n:Nat}{A:Mx}{R C:Nat->Nat}{L U:Mx}(h:Zgc n A R C L U)(b:Nat->Rat):∀r,r<n->mulC n (trM A) (solQ n R C L U b) r=b r:=by
 refine h.solve (z:=Zbx L (λp=>b (R p)) n) (Zsq h.l0 h.l1) λs hs=>?_
 rw[<-Zik (z:=Zbx L (λp=>b (R p)) n) h.u0 h.u1 s hs];exact Zk λk hk=>by unfold Pl.solQ;rw[Zkw h.ci hk]
def Zgc.solT{n:Nat}{A:Mx}{R C:Nat->Nat}{L U:Mx}(h:Zgc n A R C L U)(d:Nat->Rat):∀c,c<n->mulC n A (solT n R C L U d) c=d c:=by
 refine h.solveT (v:=utN U (λk=>d (C k)) n) (Zyf h.u0 h.u1) λs hs=>?_
 rw[<-Zkv (w:=utN U (λk=>d (C k)) n) h.l0 h.l1 s hs];exact Zk λk hk=>by unfold Pl.solT;rw[Zkw h.ri hk]
structure Zsu (n E:Nat) (A:Mx) (R C:Nat->Nat) (L U:Mx):Prop where
 fac:Zgc n A R C L U
 n7:n<=7
 e1:1<=E
 e2:E<=4000000
 lB:∀t p,t<n->p<n->Sz (2*E) (L t p)
 uB:∀k s,k<n->s<n->Sz (2*E) (U k s)
def Zip{n K J:Nat}{f g:Nat->Rat}(hn:n<=7)(hf:∀i,i<n->Sz K (f i))(hg:∀i,i<n->Sz J (g i)):Sz (7* (K+J)+8) (ZF (λi=>f i*g i) n):=
 (Zor λi hi=>Vn (hf i hi) (hg i hi)).mono (by
  have:=JS (K+J+1) hn
  omega)
def Zsu.zB{n E:Nat}{A:Mx}{R C:Nat->Nat}{L U:Mx}(h:Zsu n E A R C L U){b:Nat->Rat}(hX:∀i,i<n->Sz E (Pl.solQ n R C L U b i)):∀s,s<n->Sz (29*E) (Zbx L (λp=>b (R p)) n s):=by
 intro s hs;have e1:=h.e1;rw[<-Zik (z:=Zbx L (λp=>b (R p)) n) h.fac.u0 h.fac.u1 s hs];refine(Zip (K:=2*E) (J:=E) h.n7 (λk hk=>h.uB k s hk hs) λk hk=>?_).mono Qk;have:=hX (C k) (h.fac.ci.1 k hk);unfold Pl.solQ at this
 rwa[Zkw h.fac.ci hk]at this
def Zsu.fB{n E J:Nat}{A:Mx}{R C:Nat->Nat}{L U:Mx}(h:Zsu n E A R C L U){b:Nat->Rat}(hb:∀i,i<n->Sz J (b i))(hX:∀i,i<n->Sz E (Pl.solQ n R C L U b i)):
 ∀j i,j<=n->i<n->Sz (J+226*E) (Zbx L (λp=>b (R p)) j i):=by
 have e1:=h.e1;have a:∀j i,j<=i->i<n->Sz (J+226*E) (Zbx L (λp=>b (R p)) j i):=λj i hj hi=>by
  rw[Zmw L _ i j hj];have hs:Sz (7* (2*E+29*E)+8) (ZF (λs=>L s i*Zbx L (λp=>b (R p)) s s) j):=Zip (by have:=h.n7;omega) (λs hs=>h.lB s i Qk hi) λs hs=>by
   rw[<-Zmv (show s<=n by omega)];exact h.zB hX s Qk
  exact(Zfm (hb (R i) (h.fac.ri.1 i hi)) hs).mono Qk
 intro j i hj hi;rcases JX i j with g|g
 ·rw[Zmv (show i<=j by omega)];exact a i i (JY _) hi
 ·exact a j i g hi
def Zsu.bB{n E:Nat}{A:Mx}{R C:Nat->Nat}{L U:Mx}(h:Zsu n E A R C L U){b:Nat->Rat}(hX:∀i,i<n->Sz E (Pl.solQ n R C L U b i)):
 ∀j i,j<=n->i<n->Sz (59*E) (Zcc n U (Zbx L (λp=>b (R p)) n) j i):=by
 have e1:=h.e1;have hx:∀k,k<n->Sz E (Zcc n U (Zbx L (λp=>b (R p)) n) n k):=λk hk=>by
  have:=hX (C k) (h.fac.ci.1 k hk);unfold Pl.solQ at this
  rwa[Zkw h.fac.ci hk]at this
 intro j i hj hi;rcases JX (j+i) n with g|g
 ·rw[Zmx n U _ i j g];have hs:Sz (7* (2*E+E)+8) (ZF (λt=>U (n - 1 - t) i*Zcc n U (Zbx L (λp=>b (R p)) n) n (n - 1 - t)) j):=Zip (by have:=h.n7;omega) (λt ht=>h.uB _ _ Qk hi) λt ht=>hx _ Qk
  exact(Zfm (h.zB hX i hi) hs).mono Qk
 ·rw[Zfa hi Qk hj,<-Zfa hi Qk (JY n)];exact(hx i hi).mono Qk
def Zsu.wB{n E:Nat}{A:Mx}{R C:Nat->Nat}{L U:Mx}(h:Zsu n E A R C L U){d:Nat->Rat}(hY:∀i,i<n->Sz E (Pl.solT n R C L U d i)):∀s,s<n->Sz (29*E) (utN U (λk=>d (C k)) n s):=by
 intro s hs;have e1:=h.e1;rw[<-Zkv (w:=utN U (λk=>d (C k)) n) h.fac.l0 h.fac.l1 s hs];refine(Zip (K:=2*E) (J:=E) h.n7 (λp hp=>h.lB s p hs hp) λp hp=>?_).mono Qk;have:=hY (R p) (h.fac.ri.1 p hp);unfold Pl.solT at this
 rwa[Zkw h.fac.ri hp]at this
def Zsu.tB{n E:Nat}{A:Mx}{R C:Nat->Nat}{L U:Mx}(h:Zsu n E A R C L U){d:Nat->Rat}(hY:∀i,i<n->Sz E (Pl.solT n R C L U d i)):
 ∀j i,j<=n->i<n->Sz (29*E) (ltN n L (utN U (λk=>d (C k)) n) j i):=by
 have e1:=h.e1;intro j i hj hi;rcases JX (j+i) n with g|g
 ·rw[Zim g];exact h.wB hY i hi
 ·rw[Zfv hi Qk hj,<-Zfv hi (show n - i<=n by omega) (JY n)];have:=hY (R i) (h.fac.ri.1 i hi);unfold Pl.solT at this;rw[Zkw h.fac.ri hi]at this;exact this.mono Qk
def Ziq{es ds:List En}{k:Int}{z:Rat}{g:Nat->Rat}{i:Nat}:∀{t:Nat},t<=es.length->Zbz (es++ds) k z g t i=Zbz es k z g t i
 |0,_=>rfl
 |t+1,h=>by
  have ih:=Ziq (es:=es) (ds:=ds) (k:=k) (z:=z) (g:=g) (i:=i) (t:=t) Qk
  conv=>lhs;unfold Zbz
  conv=>rhs;unfold Zbz
  rw[jI Qk,ih]
def Zna(f:Nat->Rat)(k:Nat)(z:Rat)(g:Nat->Rat)(i:Nat):∀n,Zbz (spV f n) (k:Int) z g (spV f n).length i=if i<n/\i≠k then g i - f i*z else g i
 |0=>by rw[jA Qk];rfl
 |n+1=>by
  have ih:=Zna f k z g i n
  by_cases h0:f n=0
  ·rw[XM h0,ih]
   by_cases e:i=n
   ·subst e
    rw[jA Qk,h0]
    by_cases e2:i≠k
    ·rw[jB ⟨Qk,e2⟩];grind
    ·rw[jA Qk]
   ·by_cases e2:i<n/\i≠k
    ·rw[jB e2,jB ⟨Qk,e2.2⟩]
    ·rw[jA e2,jA Qk]
  ·rw[Wh h0,kQ]
   show Zbz _ _ _ _ ((spV f n).length+1) i=_
   conv=>lhs;unfold Zbz
   rw[jH (JY _),eT]
   show(if((n:Int)≠(k:Int)/\(n:Int)=(i:Int))then _ else _)=_
   rw[Ziq (JY _),ih,Zv]
   by_cases e:i=n
   ·subst e
    rw[jA (show¬(i<i/\i≠k) by omega)]
    by_cases e2:i≠k
    ·rw[jB ⟨Qk,rfl⟩,jB ⟨Qk,e2⟩]
    ·rw[jA Qk,jA Qk]
   ·rw[jA Qk]
    by_cases e2:i<n/\i≠k
    ·rw[jB e2,jB ⟨Qk,e2.2⟩]
    ·rw[jA e2,jA Qk]
def Zvt(f:Nat->Rat)(k:Nat)(z:Rat)(g:Nat->Rat)(i:Nat):∀n t,t<=(spV f n).length->Zbz (spV f n) (k:Int) z g t i=g i\/(i<n/\i≠k/\Zbz (spV f n) (k:Int) z g t i=g i - f i*z)
 |0,t,h=>by
  have h':t<=0:=h
  obtain rfl:t=0:=Qk
  exact .inl rfl
 |n+1,t,h=>by
  rcases kH h with e|e
  ·have:=Zna f k z g i (n+1)
   rw[<-e]at this
   rw[this]
   by_cases e2:i<n+1/\i≠k
   ·rw[jB e2];exact .inr ⟨e2.1,e2.2,rfl⟩
   ·rw[jA e2];exact .inl rfl
  ·have ht:t<=(spV f n).length:=by
    by_cases h0:f n=0
    ·rw[XM h0]at e;omega
    ·rw[Wh h0,kQ]at e;simp at e;omega
   have hs:Zbz (spV f (n+1)) (k:Int) z g t i=Zbz (spV f n) (k:Int) z g t i:=by
    by_cases h0:f n=0
    ·rw[XM h0]
    ·rw[Wh h0];exact Ziq ht
   rw[hs];rcases Zvt f k z g i n t ht with g1|⟨g1,g2,g3⟩
   ·exact .inl g1
   ·exact .inr ⟨Qk,g2,g3⟩
def Zpu{es ds:List En}{g:Nat->Rat}{k:Int}{q:Rat}:∀{t:Nat},t<=es.length->Zjn (es++ds) g k q t=Zjn es g k q t
 |0,_=>rfl
 |t+1,h=>by
  have ih:=Zpu (es:=es) (ds:=ds) (k:=k) (g:=g) (q:=q) (t:=t) Qk
  conv=>lhs;unfold Zjn
  conv=>rhs;unfold Zjn
  rw[jI Qk,ih]
def Znb(f g:Nat->Rat)(k:Nat)(q:Rat):∀n,Zjn (spV f n) g (k:Int) q (spV f n).length=q - ZF (λi=>if i=k then 0 else f i*g i) n
 |0=>by rw[Yz];show q=_;grind
 |n+1=>by
  have ih:=Znb f g k q n
  rw[Zz]
  by_cases h0:f n=0
  ·rw[XM h0,ih,h0]
   by_cases e:n=k
   ·rw[jB e];grind
   ·rw[jA e];grind
  ·rw[Wh h0,kQ]
   show Zjn _ _ _ _ ((spV f n).length+1)=_
   conv=>lhs;unfold Zjn
   rw[jH (JY _),eT]
   show(if((n:Int)=(k:Int))then _ else _ - (canF (f n)).q*g (Int.toNat (n:Int)))=_
   rw[Zpu (JY _),ih,Zv,JP]
   by_cases e:n=k
   ·rw[jB Qk,jB e];grind
   ·rw[jA Qk,jA e];grind
def Yoi{n j i:Nat}{L:Mx}{b:Nat->Rat}(h0:∀t p,t<n->p<n->p<t->L t p=0)(hj:j<n)(hi:i<n):(if i<n/\i≠j then Zbx L b j i - L j i*Zbx L b j j else Zbx L b j i)=Zbx L b (j+1) i:=by
 rw[Zij];rcases kF i j with e|e|e
 ·rw[jB ⟨hi,Qk⟩,jA Qk,h0 j i hj hi e];grind
 ·rw[jA Qk,jA Qk]
 ·rw[jB ⟨hi,Qk⟩,jB e]
def Znc(g:Nat->Rat)(k:Nat)(u:Rat):Nat->Rat:=λi=>if i=k then g k/u else g i
def Yoj{n j k i:Nat}{U:Mx}{z:Nat->Rat}(h0:∀k s,k<n->s<n->k<s->U k s=0)(hk:k+1+j=n)(hi:i<n):
 (if i<n/\i≠k then Znc (Zcc n U z j) k (U k k) i - U k i*Znc (Zcc n U z j) k (U k k) k else Znc (Zcc n U z j) k (U k k) i)=Zcc n U z (j+1) i:=by
 rw[Zdr,show n - 1 - j=k by omega];unfold Znc;rcases kF i k with e|e|e
 ·rw[jB ⟨hi,Qk⟩,jA (show i≠k by omega),jA (show i≠k by omega),jB e,jB rfl]
 ·subst e;rw[jA Qk,jB rfl,jB rfl]
 ·rw[jB ⟨hi,Qk⟩,jA (show i≠k by omega),jA (show i≠k by omega),jA (show¬i<k by omega),jB rfl,h0 k i Qk hi e];grind
def Y8(n k:Nat)(w:Nat->Rat):List RF:=rfL n λi=>if i<k then canF (w i)else zeroF
def Vd{n k:Nat}{w:Nat->Rat}:(Y8 n k w).length=n:=Zw _ _
def Zir{n:Nat}{w:Nat->Rat}:Y8 n 0 w=List.replicate n zeroF:=by
 unfold Y8;refine jV λi=>?_
 rcases JX i n with e|e
 ·rw[YE e,jA Qk];simp[e]
 ·rw[JU (by rw[Zw];exact e),JU (by simp;exact e)]
def Zis{n k:Nat}{w:Nat->Rat}(hk:k<n):(Y8 n k w).set k (canF (w k))=Y8 n (k+1) w:=by
 unfold Y8;rw[Uy hk];exact Wj λi _=>by
  by_cases e:i=k
  ·subst e;rw[jB rfl,jB Qk]
  ·rw[jA e];by_cases e2:i<k
   ·rw[jB e2,jB Qk]
   ·rw[jA e2,jA Qk]
def Zkz{n:Nat}{w:Nat->Rat}:Y8 n n w=Yn n w:=by
 unfold Y8;rw[<-Zss];exact Wj λi hi=>jB hi
def Zvu{n k i:Nat}{w:Nat->Rat}(hi:i<n):qAt (Y8 n k w) i=if i<k then w i else 0:=by
 unfold Y8;rw[Zmz hi];by_cases e:i<k
 ·rw[jB e,jB e,Zv]
 ·rw[jA e,jA e,zeroF_q]
end Pl
namespace Pl
def Zbr.facS{n K:Nat}{A a:Mx}{R C:Nat->Nat}{m:Mx}(h:Zbr n n A a R C m)(hn:n<=7)(hK:1<=K)(hE:5^n*K<=4000000)(ha:∀i j,i<n->j<n->Sz (5^n*K) (a i j))(hm:∀s i,s<n->i<n->Sz (2* (5^n*K)) (m s i)):
 Zsu n (5^n*K) A R C (luL R m) (luU R C a) where
 fac:=h.fac
 n7:=hn
 e1:=aA (jg Ql) hK
 e2:=hE
 lB:=λt p ht hp=>by
  have e1:1<=5^n*K:=aA (jg Ql) hK
  unfold luL
  split
  ·exact Sz_one.mono Qk
  ·split
   ·exact hm t _ ht (h.ri.1 p hp)
   ·exact Sz_zero.mono Qk
 uB:=λk s hk hs=>by
  have e1:1<=5^n*K:=aA (jg Ql) hK
  unfold luU
  split
  ·exact(ha _ _ (h.ri.1 s hs) (h.ci.1 k hk)).mono Qk
  ·exact Sz_zero.mono Qk
def Yrs{n t K:Nat}{a a' m':Mx}{r c:Nat}{P:Nat->Prop}{Q:Nat->Prop} [DecidablePred P] [DecidablePred Q] (hK:1<=K)(hr:r<n)(hc:c<n)(h:∀i j,i<n->j<n->Sz (5^t*K) (a i j))(hmt:∀i,i<n->m' t i=if P i then a i c/a r c else 0)
 (ha:∀i j,i<n->j<n->a' i j=if P i/\Q j then a i j - m' t i*a r j else a i j):(∀i,i<n->Sz (2* (5^t*K)) (m' t i))/\∀i j,i<n->j<n->Sz (5^(t+1)*K) (a' i j):=by
 have e1:1<=5^t*K:=aA (jg Ql) hK;have e2:5^(t+1)*K=5* (5^t*K):=by rw[jf];ac_rfl
 have hm:∀i,i<n->Sz (2* (5^t*K)) (m' t i):=λi hi=>by
  rw[hmt i hi];split
  ·exact(Zbf (h i c hi hc) (h r c hr hc)).mono Qk
  ·exact Sz_zero.mono Qk
 refine⟨hm,λi j hi hj=>?_⟩;rw[ha i j hi hj,e2];split
 ·exact(Zfm (h i j hi hj) (Vn (hm i hi) (h r j hr hj))).mono Qk
 ·exact(h i j hi hj).mono Qk
def Xr.trQ{n:Nat}{cols:Mx}(h:Xr n cols):Xr n (trM cols):=by
 intro y hy k hk;obtain⟨x,hx⟩:=X6 h (λr=>if r=k then 1 else 0);have h1:=(Vg hx x).2 λ_ _=>rfl
 have e1:y k=ZF (λr=>y r*mulC n cols x r) n:=by
  rw[Zk (g:=λr=>if r=k then y k else 0) λr hr=>by
   rw[h1 r hr];by_cases e:r=k
   ·subst e;rw[jB rfl,jB rfl];grind
   ·rw[jA e,jA e];grind,XL hk]
 have e2:ZF (λr=>y r*mulC n cols x r) n=ZF (λr=>ZF (λc=>x c* (cols c r*y r)) n) n:=Zk λr hr=>by
  unfold mulC;rw[<-Yq];exact Zk λc _=>by grind
 rw[e1,e2,WE];exact XD λc hc=>by
  rw[Yq];have:=hy c hc;have e3:ZF (λr=>cols c r*y r) n=0:=this;rw[e3];grind
structure Ups (n K T:Nat) (k:Nat->Nat) (im V:Mx) (Cs:Nat->Mx):Prop where
 kn:∀t,t<T->k t<n
 step:∀t,t<T->Cs (t+1)=Zee (Cs t) (k t) (V t)
 img:∀t,t<T->∀r,r<n->mulC n (Cs t) (im t) r=V t r
 nz:∀t,t<T->im t (k t)≠0
 szV:∀t,t<T->∀r,r<n->Sz K (V t r)
 szC:∀r c,r<n->c<n->Sz K (Cs 0 c r)
 ind:Xr n (Cs 0)
def Ups.indep{n K T:Nat}{k:Nat->Nat}{im V:Mx}{Cs:Nat->Mx}(h:Ups n K T k im V Cs):∀t,t<=T->Xr n (Cs t)
 |0,_=>h.ind
 |t+1,ht=>by rw[h.step t Qk];exact Zhs (h.kn t Qk) (h.indep t Qk) (h.img t Qk) (h.nz t Qk)
def Ups.sz{n K T:Nat}{k:Nat->Nat}{im V:Mx}{Cs:Nat->Mx}(h:Ups n K T k im V Cs):∀t,t<=T->∀r c,r<n->c<n->Sz K (Cs t c r)
 |0,_=>h.szC
 |t+1,ht=>λr c hr hc=>by
  rw[h.step t Qk]
  unfold Zee
  split
  ·exact h.szV t Qk r hr
  ·exact h.sz t Qk r c hr hc
def Ups.imB{n K T:Nat}{k:Nat->Nat}{im V:Mx}{Cs:Nat->Mx}(h:Ups n K T k im V Cs):∀t,t<T->∀i,i<n->Sz (5^n*K) (im t i):=λt ht=>(h.indep t Qk).sz (h.sz t Qk) (h.szV t ht) (h.img t ht)
def Ups.zero{n K:Nat}{cols:Mx}(hs:∀r c,r<n->c<n->Sz K (cols c r))(hi:Xr n cols)(k:Nat->Nat)(im V:Mx):Ups n K 0 k im V (λ_=>cols) where
 kn:=λt ht=>absurd ht Qk
 step:=λt ht=>absurd ht Qk
 img:=λt ht=>absurd ht Qk
 nz:=λt ht=>absurd ht Qk
 szV:=λt ht=>absurd ht Qk
 szC:=hs
 ind:=hi
def Vu{α:Type}(f:Nat->α)(T:Nat)(x:α):Nat->α:=λt=>if t=T then x else f t
def ZH{α:Type}{f:Nat->α}{T t:Nat}{x:α}(h:t<T):Vu f T x t=f t:=jA Qk
def ZO{α:Type}{f:Nat->α}{T:Nat}{x:α}:Vu f T x T=x:=jB rfl
def Ups.snoc{n K T:Nat}{k:Nat->Nat}{im V:Mx}{Cs:Nat->Mx}(h:Ups n K T k im V Cs){q:Nat}{v x:Nat->Rat}(hq:q<n)(hx:∀r,r<n->mulC n (Cs T) x r=v r)(h0:x q≠0)(hv:∀r,r<n->Sz K (v r)):
 Ups n K (T+1) (Vu k T q) (Vu im T x) (Vu V T v) (Vu Cs (T+1) (Zee (Cs T) q v)) where
 kn:=λt ht=>by
  by_cases e:t=T
  ·subst e;rw[ZO];exact hq
  ·rw[ZH Qk];exact h.kn t Qk
 step:=λt ht=>by
  by_cases e:t=T
  ·subst e;rw[ZO,ZO,ZO,ZH Qk]
  ·rw[ZH Qk,ZH Qk,ZH Qk,ZH Qk];exact h.step t Qk
 img:=λt ht=>by
  by_cases e:t=T
  ·subst e;rw[ZO,ZO,ZH Qk];exact hx
  ·rw[ZH Qk,ZH Qk,ZH Qk];exact h.img t Qk
 nz:=λt ht=>by
  by_cases e:t=T
  ·subst e;rw[ZO,ZO];exact h0
  ·rw[ZH Qk,ZH Qk];exact h.nz t Qk
 szV:=λt ht=>by
  by_cases e:t=T
  ·subst e;rw[ZO];exact hv
  ·rw[ZH Qk];exact h.szV t Qk
 szC:=λr c hr hc=>by rw[ZH Qk];exact h.szC r c hr hc
 ind:=by rw[ZH Qk];exact h.ind
def Zyg(k:Nat)(im x:Nat->Rat):Nat->Rat:=λi=>if i=k then x k/im k else x i - im i* (x k/im k)
def Ydl{k:Nat}{im x:Nat->Rat}(h:x k=0)(i:Nat):Zyg k im x i=x i:=by
 unfold Zyg;rw[h,show(0:Rat)/im k=0 by rw[vE];grind];split
 ·rename_i e;rw[e,h]
 ·grind
def xN(k:Nat->Nat)(im:Mx)(x:Nat->Rat):Nat->Nat->Rat
 |0=>x
 |t+1=>Zyg (k t) (im t) (xN k im x t)
def Ups.solves{n K T:Nat}{k:Nat->Nat}{im V:Mx}{Cs:Nat->Mx}(h:Ups n K T k im V Cs){x b:Nat->Rat}(hx:∀r,r<n->mulC n (Cs 0) x r=b r):∀t,t<=T->∀r,r<n->mulC n (Cs t) (xN k im x t) r=b r
 |0,_=>hx
 |t+1,ht=>by
  rw[h.step t Qk]
  refine Zme (h.kn t Qk) (h.img t Qk) (h.nz t Qk) (h.solves hx t Qk) ?_ λi _ hne=>?_
  ·show Zyg _ _ _ _=_
   unfold Zyg;rw[jB rfl]
  ·show Zyg _ _ _ _=_ - _*Zyg _ _ _ _
   unfold Zyg;rw[jA hne,jB rfl]
def Ups.xB{n K T:Nat}{k:Nat->Nat}{im V:Mx}{Cs:Nat->Mx}(h:Ups n K T k im V Cs){x b:Nat->Rat}(hx:∀r,r<n->mulC n (Cs 0) x r=b r)(hb:∀r,r<n->Sz K (b r)):∀t,t<=T->∀i,i<n->Sz (5^n*K) (xN k im x t i):=λt ht=>(h.indep t ht).sz (h.sz t ht) hb (h.solves hx t ht)
def Zsv(n k:Nat)(im c:Nat->Rat):Nat->Rat:=λi=>if i=k then(c k - ZF (λi=>if i=k then 0 else im i*c i) n)/im k else c i
def cN(n T:Nat)(k:Nat->Nat)(im:Mx)(d:Nat->Rat):Nat->Nat->Rat
 |0=>d
 |j+1=>Zsv n (k (T - 1 - j)) (im (T - 1 - j)) (cN n T k im d j)
def Ydm{n q:Nat}{cols:Mx}{im v y c:Nat->Rat}(hq:q<n)(h0:im q≠0)(hi:∀r,r<n->mulC n cols im r=v r)(h:∀j,j<n->mulC n (trM cols) y j=Zsv n q im c j):∀j,j<n->mulC n (trM (Zee cols q v)) y j=c j:=by
 intro j hj;by_cases e:j=q
 ·subst e;have e1:mulC n (trM (Zee cols j v)) y j=ZF (λr=>y r*mulC n cols im r) n:=Zk λr hr=>by
   show Zee cols j v j r*y r=_;unfold Zee;rw[jB rfl,hi r hr];grind
  have e2:ZF (λr=>y r*mulC n cols im r) n=ZF (λi=>im i*mulC n (trM cols) y i) n:=by
   rw[Zk (g:=λr=>ZF (λi=>im i* (cols i r*y r)) n) λr _=>by
    unfold mulC;rw[<-Yq];exact Zk λi _=>by grind,WE]
   exact Zk λi _=>Yq _ _ _
  have e3:ZF (λi=>im i*mulC n (trM cols) y i) n=ZF (λi=>(if i=j then 0 else im i*c i)+(if i=j then c j - ZF (λi=>if i=j then 0 else im i*c i) n else 0)) n:=Zk λi hi'=>by
   rw[h i hi'];unfold Zsv;by_cases e:i=j
   ·subst e;rw[jB rfl,jB rfl,jB rfl];have:=kr (a:=c i - ZF (λx=>if x=i then 0 else im x*c x) n) h0;grind
   ·rw[jA e,jA e,jA e];grind
  rw[e1,e2,e3,Xq,XL hj];grind
 ·have:=h j hj;unfold Zsv at this;rw[jA e]at this;rw[<-this];exact Zk λr _=>by
   show Zee cols q v j r*y r=_;unfold Zee;rw[jA e];rfl
def Ups.solvesT{n K T:Nat}{k:Nat->Nat}{im V:Mx}{Cs:Nat->Mx}(h:Ups n K T k im V Cs){d y:Nat->Rat}(hy:∀c,c<n->mulC n (trM (Cs 0)) y c=cN n T k im d T c):∀t,t<=T->∀c,c<n->mulC n (trM (Cs t)) y c=cN n T k im d (T - t) c
 |0,_=>hy
 |t+1,ht=>by
  have ih:=h.solvesT hy t Qk
  rw[h.step t Qk]
  refine Ydm (h.kn t Qk) (h.nz t Qk) (h.img t Qk) λj hj=>?_
  rw[ih j hj,show T - t=(T - (t+1))+1 by omega]
  show Zsv n (k (T - 1 - (T - (t+1)))) (im (T - 1 - (T - (t+1)))) _ j=_
  rw[show T - 1 - (T - (t+1))=t by omega]
def Ups.yB{n K T:Nat}{k:Nat->Nat}{im V:Mx}{Cs:Nat->Mx}(h:Ups n K T k im V Cs){d y:Nat->Rat}(hd:∀r,r<n->Sz K (d r))(hy:∀c,c<n->mulC n (trM (Cs 0)) y c=cN n T k im d T c):∀i,i<n->Sz (5^n*K) (y i):=
 (h.indep T (JY _)).trQ.sz (λr c hr hc=>h.sz T (JY _) c r hc hr) hd λr hr=>by
  rw[h.solvesT hy T (JY _) r hr,eT];rfl
def Ups.cB{n K T:Nat}{k:Nat->Nat}{im V:Mx}{Cs:Nat->Mx}(h:Ups n K T k im V Cs)(hn:n<=7)(hK:1<=K){d y:Nat->Rat}(hd:∀r,r<n->Sz K (d r))(hy:∀c,c<n->mulC n (trM (Cs 0)) y c=cN n T k im d T c):∀j,j<=T->∀i,i<n->Sz (22* (5^n*K)) (cN n T k im d j i):=λj hj i hi=>by
 have e1:K<=5^n*K:=vR K (jg Ql)
 have:=h.solvesT hy (T - j) Qk i hi
 rw[show T - (T - j)=j by omega]at this
 rw[<-this]
 exact(Zip (K:=K) (J:=5^n*K) hn (λr hr=>h.sz (T - j) Qk r i hr hi) (h.yB hd hy)).mono Qk
end Pl
def Ydn(cs:List Value)(j:Nat)(t x y z u:Value):List Value:=((((cs.set j t).set (j+1) x).set (j+2) y).set (j+3) z).set (j+4) u
def EnC.set_{w:World}{cs:List Value}{es:List En}(h:EnC w cs es){k:Nat}(hk:k<es.length){x y z u:Value}{e:En}(hf:Zx w (.agg #[x,y,z,u]) e.f):EnC w (Ydn cs (k*5) (.int .i64 e.idx) x y z u) (es.set k e):=by
 have hl:=h.1;refine⟨by simp[Ydn,hl],λj g hg=>?_⟩;by_cases a:j=k
 ·subst a;rw[jM hk]at hg;injection hg with hg;subst hg;refine⟨x,y,z,u,?_,?_,?_,?_,?_,hf⟩ <;> unfold Ydn
  ·rw[jE Qk,jE Qk,jE Qk,jE Qk,jM Qk]
  ·rw[jE Qk,jE Qk,jE Qk,jM (by simp;omega)]
  ·rw[jE Qk,jE Qk,jM (by simp;omega)]
  ·rw[jE Qk,jM (by simp;omega)]
  ·rw[jM (by simp;omega)]
 ·rw[jE (bL a)]at hg;obtain⟨x',y',z',u',h0,h1,h2,h3,h4,h5⟩:=h.2 j g hg;refine⟨x',y',z',u',?_,?_,?_,?_,?_,h5⟩ <;> unfold Ydn <;> rw[jE Qk,jE Qk,jE Qk,jE Qk,jE Qk] <;> assumption
def VK.at_{base:Nat}{w:World}{g n c:Nat}{es:List En}(h:VK base w (.slice (some ⟨g,0,none⟩) n c) es){k:Nat}{e:En}(he:es[k]? =some e):
 ∃x y z u,(w.cell? ⟨g,k*5,none⟩=some (.int .i64 e.idx)/\w.cell? ⟨g,k*5+1,none⟩=some x/\w.cell? ⟨g,k*5+2,none⟩=some y/\w.cell? ⟨g,k*5+3,none⟩=some z/\w.cell? ⟨g,k*5+4,none⟩=some u)/\(w.frozen? ⟨g,k*5,none⟩=false/\w.frozen? ⟨g,k*5+1,none⟩=false/\w.frozen? ⟨g,k*5+2,none⟩=false/\w.frozen? ⟨g,k*5+3,none⟩=false/\w.frozen? ⟨g,k*5+4,none⟩=false)/\Zx w (.agg #[x,y,z,u]) e.f:=by
 obtain⟨cs,h1,h2⟩:=h;have hn:n=es.length:=(VC.of_own h1).len;subst hn;obtain⟨x,y,z,u,c0,c1,c2,c3,c4,hm⟩:=h2.2 k e he;exact⟨x,y,z,u,⟨(ZN h1 c0).1,(ZN h1 c1).1,(ZN h1 c2).1,(ZN h1 c3).1,(ZN h1 c4).1⟩,⟨(ZN h1 c0).2,(ZN h1 c1).2,(ZN h1 c2).2,(ZN h1 c3).2,(ZN h1 c4).2⟩,hm⟩
def VK.set_{base:Nat}{w:World}{g n c:Nat}{es:List En}(h:VK base w (.slice (some ⟨g,0,none⟩) n c) es){k:Nat}(hk:k<es.length){x y z u:Value}{e:En}(hf:Zx w (.agg #[x,y,z,u]) e.f):
 VK base (((((w.setCell ⟨g,k*5,none⟩ (.int .i64 e.idx)).setCell ⟨g,k*5+1,none⟩ x).setCell ⟨g,k*5+2,none⟩ y).setCell ⟨g,k*5+3,none⟩ z).setCell ⟨g,k*5+4,none⟩ u) (.slice (some ⟨g,0,none⟩) n c) (es.set k e)/\
 Zf 86 w (((((w.setCell ⟨g,k*5,none⟩ (.int .i64 e.idx)).setCell ⟨g,k*5+1,none⟩ x).setCell ⟨g,k*5+2,none⟩ y).setCell ⟨g,k*5+3,none⟩ z).setCell ⟨g,k*5+4,none⟩ u):=by
 obtain⟨cs,h1,h2⟩:=h;have hn:n=es.length:=(VC.of_own h1).len;subst hn;have hl:=h2.1;have o1:=Xh h1 (k*5) (.int .i64 e.idx) Qk;have o2:=Xh o1 (k*5+1) x (by simp;omega);have o3:=Xh o2 (k*5+2) y (by simp;omega);have o4:=Xh o3 (k*5+3) z (by simp;omega);have o5:=Xh o4 (k*5+4) u (by simp;omega);obtain⟨_,b0,_⟩:=Z0 h1;obtain⟨_,b1,_⟩:=Z0 o1;obtain⟨_,b2,_⟩:=Z0 o2;obtain⟨_,b3,_⟩:=Z0 o3;obtain⟨_,b4,_⟩:=Z0 o4;have kp:=((((Zf.setCell b0 (k*5) (.int .i64 e.idx)).trans (Zf.setCell b1 (k*5+1) x)).trans (Zf.setCell b2 (k*5+2) y)).trans (Zf.setCell b3 (k*5+3) z)).trans (Zf.setCell b4 (k*5+4) u);have kd:=kp.keep Ql;refine⟨⟨Ydn cs (k*5) (.int .i64 e.idx) x y z u,by rw[jd];exact o5,?_⟩,kp⟩;exact(h2.keep kd).set_ hk (hf.keep kd)
def zec(n:Nat):Array Value:=madeCells (Value.cells (.agg #[.int .i64 0,.bool false,.slice none 0 0,.bool false,.slice none 0 0])) (n*5)
def Zpv{n k j:Nat}(hk:k<n)(hj:j<5):(zec n)[k*5+j]? =([.int .i64 0,.bool false,.slice none 0 0,.bool false,.slice none 0 0]:List Value)[j]? :=by
 have a:k*5+j<n*5:=Qk
 have hm:(k*5+j)%5=j:=Qk
 unfold zec madeCells;simp[a,Value.cells,hm]
 match j,hj with
 |0,_=>rfl
 |1,_=>rfl
 |2,_=>rfl
 |3,_=>rfl
 |4,_=>rfl
def VK.zeros(w:World)(n:Nat)(hn:n<=maxLen):VK w.heap.size (w.alloc (.cells (zec n) 86)) (.slice (some ⟨w.heap.size,0,none⟩) n n) (List.replicate n ⟨0,zeroF⟩):=by
 have a:(zec n).size=n*5:=eF _ _;refine⟨(zec n).toList,⟨by simp[a],.inr ⟨w.heap.size,n,zec n,by simp,JY _,vo w _,by simp,hn,a,?_⟩⟩,by simp[a],λk f hf=>?_⟩
 ·rw[kC (by simp[a])]
 ·rw[kT]at hf;split at hf
  ·rename_i hk
   injection hf with hf;subst hf;refine⟨_,_,_,_,?_,?_,?_,?_,?_,Zx.zero _⟩
   ·have:=Zpv (j:=0) hk Ql;simpa using this
   ·have:=Zpv (j:=1) hk Ql;simpa using this
   ·have:=Zpv (j:=2) hk Ql;simpa using this
   ·have:=Zpv (j:=3) hk Ql;simpa using this
   ·have:=Zpv (j:=4) hk Ql;simpa using this
  ·cases hf
def Zyh(n:Nat)(hn:n<=1099511627776)(w:World):
 (Instr.makeSlice 88 (.int .i64 (n:Int)) (.int .i64 (n:Int))).run prog w= .ok (.slice (some ⟨w.heap.size,0,none⟩) n n) (w.alloc (.cells (zec n) 86)):=by
 obtain⟨i0,hi,a,b,c⟩:=kL info_entry;have hb:(i0.bytes:Int)* (n:Int)<=281474976710656:=by rw[c];omega
 have hr:=BN (P:=prog) w 88 86 i0 _ underlying88 hi a .i64 .i64 n n Qk Qk hb Qk;simp only[JP,b]at hr;exact hr
namespace Pl
def Zra(es:List En):List En:=es.map λe=>⟨e.idx,canF e.f.q⟩
def Zpw(es:List En):Nat->List En
 |0=>List.replicate es.length ⟨0,zeroF⟩
 |k+1=>match es[k]? with
  |some e=>(Zpw es k).set k ⟨e.idx,canF e.f.q⟩
  |none=>Zpw es k
def Ydo{es:List En}{k:Nat}{e:En}(h:es[k]? =some e):Zpw es (k+1)=(Zpw es k).set k ⟨e.idx,canF e.f.q⟩:=by
 conv=>lhs;unfold Zpw
 simp only[h]
def UA(es:List En):∀k,(Zpw es k).length=es.length
 |0=>by simp[Zpw]
 |k+1=>by
  have ih:=UA es k
  unfold Zpw
  split
  ·rw[jd];exact ih
  ·exact ih
def Znd(es:List En)(i:Nat):∀k,i<k->(Zpw es k)[i]? =(Zra es)[i]?
 |0,h=>absurd h (Nat.not_lt_zero _)
 |k+1,h=>by
  have hl:=UA es k
  unfold Zpw
  split
  ·rename_i e he
   have hk:=(JO.1 he).1
   rw[iV]
   by_cases c:k=i
   ·subst c;rw[jB rfl,jB Qk,Zra,bJ,he];rfl
   ·rw[jA c];exact Znd es i k Qk
  ·rename_i he
   have hk:=List.getElem?_eq_none_iff.1 he
   by_cases c:k=i
   ·subst c;rw[JU Qk,JU (by simp[Zra];omega)]
   ·exact Znd es i k Qk
def Yix(es:List En):Zpw es es.length=Zra es:=by
 refine jV λi=>?_
 by_cases c:i<es.length
 ·exact Znd es i _ c
 ·rw[JU (by rw[UA];omega),JU (by simp[Zra];omega)]
end Pl
def Zyi{n g:Nat}{w w':World}(h:Below n w w')(hg:n<=g)(i j k l m:Nat)(t x y z u:Value):Below n w (((((w'.setCell ⟨g,i,none⟩ t).setCell ⟨g,j,none⟩ x).setCell ⟨g,k,none⟩ y).setCell ⟨g,l,none⟩ z).setCell ⟨g,m,none⟩ u):=((((h.setCell hg _).setCell hg _).setCell hg _).setCell hg _).setCell hg _
def Zbi(vb:Value)(es:List En)(K:Nat)(w:World)(h2:Ur w vb es)(ha:∀(k:Nat) (e:En),es[k]? =some e->e.f.Rs K)(hK:K<=34359738368)(hlen:es.length<=1099511627776):
 Calls prog 94 #[vb] w λo w'=>∃v',o= .returned v'/\VK w.heap.size w' v' (Zra es)/\Below w.heap.size w w':=by
 obtain⟨A,c,rfl,N,O⟩:=h2.shape;generalize hn:es.length=l at *;have HN:=JZ hn;have HA:=JZ ha;have H2:=JZ h2;have z:Hid (Zpw es l=Zra es):=JZ (by rw[<-hn];exact Yix es);have L:=Zyh l hlen;have p:=VK.zeros w l (by unfold maxLen;omega);have r:=Ze w (.cells (zec l) 86);have HO:Hid (VK w.heap.size (w.alloc (.cells (zec l) 86)) (.slice (some ⟨w.heap.size,0,none⟩) l l) (Zpw es 0)):=JZ (by unfold Zpw;rw[hn];exact p);clear hn ha h2 p;go_enter func94,ntmps94;go_wp2;generalize w.alloc (.cells (zec l) 86)=W at *
 go_loopw [11] (λi wr=>∃k:Nat,k<=l/\i= .int .i64 k/\VK w.heap.size wr (.slice (some ⟨w.heap.size,0,none⟩) l l) (Zpw es k)/\Below w.heap.size w wr) (λi _=>l - (intOf i).toNat)
 case atStart=>exact⟨0,Qk,rfl,HO.out,r⟩
 case round=>
  clear r;obtain⟨k,hk,rfl,hO,a⟩:=hrel;rcases JX k l with hkl|hkl
  ·obtain⟨e,he⟩:=X3 (es:=es) (i:=k) (by rw[HN.out];exact hkl);obtain⟨b,P,A1,n1,k1,A2,n2,k2,rfl,R,⟨x0,x1,x2,x3,x4⟩,x⟩:=H2.out.elem a he;have s:k< (Zpw es k).length:=(by rw[UA,HN.out];exact hkl);obtain⟨fj,G⟩:=X3 (es:=Zpw es k) (i:=k) s;have B:=JZ (Ydo he);have d:=HA.out k e he;obtain⟨ei,f⟩:=e;simp only at *;have C:=d.sm hK;have HV:Hid (f.q+zeroF.q=f.q):=JZ (by rw[zeroF_q];grind);obtain⟨W1,H,hV,m⟩:=Zkf wr (.int .i64 ei) (.bool f.num.neg) (.slice A1 n1 k1) (.bool f.den.neg) (.slice A2 n2 k2);have D:=hO.below m;have F:=x.below m;have g:=Za a m a.size;obtain⟨v0,v1,v2,v3,v4⟩:=hV.five;have M:(k:Int)<l:=Qk;clear he hO a x d
   go_upto_region 5 with(fail)
   clear H;have D0:=Zm v0;have D1:=Zm v1;have D2:=Zm v2;have D3:=Zm v3;have D4:=Zm v4;have h:=Zc W1;clear v0 v1 v2 v3 v4 x0 x1 x2 x3 x4;refine Zj 10 [0,1,2,3,4,5,6,7,8,9,10] Qm Qm ?_;refine Qb ?_
   refine Qo λ_ kq=>?_;(with_reducible refine(Zgi _ _ f zeroF _ (F.below h) (Zx.zero _) C zeroF_sm).mono ?_);rw[HV.out];rintro _ w7 ⟨v7,rfl,e7,I⟩;have j:=Za h I h.size;obtain⟨E,l9,k9,E',S,T,rfl,_,_⟩:=id e7;have t:=D.below j;obtain⟨_,_,_,_,⟨c0,c1,c2,c3,c4⟩,⟨f0,f1,f2,f3,f4⟩,_⟩:=t.at_ G;refine kq.out _ _ (.inr j) (Qc ?_);clear kq
   refine Qh ?_;refine Zl ?_;clear D0 D1 D2 D3 D4;obtain⟨y,J⟩:=t.set_ (e:=⟨ei,canF f.q⟩) s e7;have u:=Zyi (Za g j g.size) (JY _) (k*5) (k*5+1) (k*5+2) (k*5+3) (k*5+4);rw[<-B.out]at y;go_wp2;go_roundw
   case rel=>exact⟨k+1,Qk,by go_num,y,u _ _ _ _ _⟩
   case measure=>exact Qn
  ·obtain rfl:k=l:=Qk
   rw[z.out]at hO;go_wp2;go_ret;exact⟨_,rfl,hO,a⟩
section
section
variable {P:Program} {ops:Array Oper} {Q:Exit->Act->World->Prop} {S:World->Prop} {n:Nat}
def Ytf(ops:Array Oper)(i k:Nat):Bool:=match ops[i]? with
 |some o=>o.after.any λe=>Region.binds .any e && e.on==k
 |none=>false
def WP(P:Program)(ops:Array Oper)(Q:Exit->Act->World->Prop)(S:World->Prop)(n:Nat)(l:List Nat)(a:Act)(d1 d2 d3 d4 d5:Nat)(R:(Nat->Prop)->Value->Value->Value->Value->Value->World->Prop)(i:Nat):Prop:=
 ∀D s1 s2 s3 s4 s5 w,¬D i->(∀k∈l,Ytf ops i k=true->D k)->R D s1 s2 s3 s4 s5 w->Y9 P ops Q S n i (λa' w'=>∃s1 s2 s3 s4 s5,a'=Zjl a d1 s1 d2 s2 d3 s3 d4 s4 d5 s5/\R (λk=>D k\/k=i) s1 s2 s3 s4 s5 w') (Zjl a d1 s1 d2 s2 d3 s3 d4 s4 d5 s5) w
def Zqc{l:List Nat}{p:Zen}{a:Act}{w:World}(d1 d2 d3 d4 d5:Nat)(s1 s2 s3 s4 s5:Value)(R:(Nat->Prop)->Value->Value->Value->Value->Value->World->Prop)(ha:a=Zjl a d1 s1 d2 s2 d3 s3 d4 s4 d5 s5)(hl:l.Nodup)(h0:R (λ_=>False) s1 s2 s3 s4 s5 w)
 (hs:∀i∈l,WP P ops Q S n l a d1 d2 d3 d4 d5 R i)
 (h1:∀D s1 s2 s3 s4 s5 w,(∀k∈l,D k)->R D s1 s2 s3 s4 s5 w->Yr P ops Q S n p (Zjl a d1 s1 d2 s2 d3 s3 d4 s4 d5 s5) w):Yr P ops Q S n (.bag l p) a w:=
 Ybq d1 d2 d3 d4 d5 s1 s2 s3 s4 s5 R ha hl h0 (λD s1 s2 s3 s4 s5 w i oi hi hn ho hd hr=>hs i hi D s1 s2 s3 s4 s5 w hn (λk hk hb=>by
  unfold Ytf at hb
  rw[ho]at hb
  simp only[Array.any_eq_true,jU,BP]at hb
  obtain⟨j,hj,h1,h2⟩:=hb
  subst h2
  exact hd _ (Array.getElem_mem hj) h1 hk) hr) h1
def WP.mk{l:List Nat}{a:Act}{d1 d2 d3 d4 d5:Nat}{R:(Nat->Prop)->Value->Value->Value->Value->Value->World->Prop}{i:Nat}{o:Oper}(ho:ops[i]? =some o)
 (h:∀D s1 s2 s3 s4 s5 w b,b=Zjl a d1 s1 d2 s2 d3 s3 d4 s4 d5 s5->¬D i->(∀k∈l,Ytf ops i k=true->D k)->R D s1 s2 s3 s4 s5 w->∀K':Act->World->Prop,Shut (∀a' w',(n<=i\/S w')->(∃s1 s2 s3 s4 s5,a'=Zjl a d1 s1 d2 s2 d3 s3 d4 s4 d5 s5/\R (λk=>D k\/k=i) s1 s2 s3 s4 s5 w')->K' a' w')->if Region.wanted o (yielded ops b.tmps)=true then Oper.wp P o b w K' Q else K' (b.put o.dst undef) w):WP P ops Q S n l a d1 d2 d3 d4 d5 R i:=
 λD s1 s2 s3 s4 s5 w hn hd hr=>Zao ho (h D s1 s2 s3 s4 s5 w _ rfl hn hd hr)
end
end
def wpList_append_run{ops:Array Oper}{rest:List Oper}{o:Oper}{a:Act}{Q:Exit->Act->World->Prop}{w w':World}{s x:Operand}{t ty:TypeId}{v u v':Value}(hr:(Builtin.append_ #[t,t] ty #[v,u]).run prog w= .ok v' w')(hty:o.type=ty)(hgd:o.guard=none)(ho:o.op= .call { callee:= .builtin .append,args:=#[s,x],argTypes:=#[t,t] })
 (hs:a.eval s=v) (hx:a.eval x=u) (h:wpList prog ops Q rest (a.put o.dst v') w'):wpList prog ops Q (o::rest) a w:=
 wpList_step λ_ hK=>wp_append_run hr hty hgd ho hs hx (hK _ _ h)
section
section
variable {md:Region.Mode} {ops:Array Oper} {n:Nat} {K:Array Bool->Bool}
def setL(L:Array Bool)(D:List Nat):Array Bool:=D.foldl (λL i=>L.setIfInBounds i true) L
end
end
section
attribute [local irreducible] Y9
end
end Go.Proofs.YtobadipflggkiaaGreat
