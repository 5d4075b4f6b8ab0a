/- Lemmas of the claim; no condition. -/
import Derived.Test.YtobadipflggkiaaGreatW1
set_option linter.all false
set_option maxRecDepth 100000
set_option maxHeartbeats 40000000
namespace Go.Proofs.YtobadipflggkiaaGreat
open Go.RowKit
open Pl Tryz
section
namespace Pl
structure Tk where
 fl:Int
 hd:Bool
structure Cl where
 dut:List (List Tk)
 cost:Int
structure Ct where
 rows:List Int
 dv:Int
structure Ms where
 fl:Int
 rows:List Int
 pen:Int
 cols:List Cl
 cuts:List Ct
def opD:List Tk->List Int
 | []=>[]
 |t::d=>(if t.hd=true then []else [t.fl])++opD d
def opP:List (List Tk)->List Int
 | []=>[]
 |d::p=>opD d++opP p
def Cl.ops(c:Cl):List Int:=opP c.dut
def Zev(a b:List Tk):opD (a++b)=opD a++opD b:=by
 induction a with
 |nil=>rfl
 |cons t a ih=>simp[opD,ih]
def Zew(a b:List (List Tk)):opP (a++b)=opP a++opP b:=by
 induction a with
 |nil=>rfl
 |cons t a ih=>simp[opP,ih]
def Zgn{d:List Tk}{k:Nat}{t:Tk}(h:d[k]? =some t):opD (d.take (k+1))=opD (d.take k)++(if t.hd=true then []else [t.fl]):=by
 rw[jP,h,Zev];simp[opD]
def Zvc{p:List (List Tk)}{k:Nat}{d:List Tk}(h:p[k]? =some d):opP (p.take (k+1))=opP (p.take k)++opD d:=by
 rw[jP,h,Zew];simp[opP]
def Yso(l:List Int):Bool:=decide (l.Pairwise (·< ·))
def Zml{l:List Int}{k:Nat}{x y:Int}(hx:l[k]? =some x)(hy:l[k+1]? =some y)(h:(l.take (k+1)).Pairwise (·< ·)):(l.take (k+1+1)).Pairwise (·< ·)↔x<y:=by
 rw[jP (i:=k+1),hy];simp only[fT,kg,aH,vZ,forall_eq,true_and];constructor
 ·intro g;refine g.2 x ?_;rw[jP,hx];simp
 ·intro g;refine⟨h,λa ha=>?_⟩;rw[jP,hx]at ha h;simp only[fT,jW,vZ]at ha;simp only[fT,kg,aH,vZ,forall_eq,true_and]at h;rcases ha with ha|ha
  ·have:=h.2 a ha;omega
  ·omega
def Zya{l:List Int}{k:Nat}(hk:k<=1):(l.take k).Pairwise (·< ·):=by
 match l,k,hk with
 | [],_,_=>simp
 |x::l,0,_=>simp
 |x::l,1,_=>simp
def V3{l:List Int}(h:l.Pairwise (·< ·)){i j:Nat}{x y:Int}(hij:i<j)(hx:l[i]? =some x)(hy:l[j]? =some y):x<y:=by
 obtain⟨hi,rfl⟩:=JO.1 hx;obtain⟨hj,rfl⟩:=JO.1 hy;exact iw.1 h i j hi hj hij
def WO(l:List Nat):Nat:=l.foldl (λm r=>m ||| 2^r) 0
def Zyb(l:List Nat)(r:Nat):WO (l++[r])=WO l ||| 2^r:=by simp[WO]
def Zft(l:List Nat)(m r:Nat):(l.foldl (λm r=>m ||| 2^r) m).testBit r=(m.testBit r || decide (r∈l)):=by
 induction l generalizing m with
 |nil=>simp
 |cons x l ih=>
  rw[iU,ih,eG,iy];by_cases h:x=r
  ·subst h;simp
  ·simp[h,bL h]
def X9(l:List Nat)(r:Nat):(WO l).testBit r=decide (r∈l):=by
 unfold WO;rw[Zft];simp
def Zvd{l:List Nat}{n:Nat}(h:∀r∈l,r<n):WO l<2^n:=by
 unfold WO;have:∀(l:List Nat) (m:Nat),(∀r∈l,r<n)->m<2^n->l.foldl (λm r=>m ||| 2^r) m<2^n:=by
  intro l
  induction l with
  |nil=>intro m _ hm;exact hm
  |cons x l ih=>
   intro m hl hm;rw[iU];exact ih _ (λr hr=>hl r (jG _ hr)) (iW hm (vK Ql (hl x (jK ..))))
 exact this l 0 h (Nat.two_pow_pos n)
def YR{a b:Nat}:a &&& b=0↔∀r,¬(a.testBit r=true/\b.testBit r=true):=by
 constructor
 ·intro h r ⟨h1,h2⟩;have:=BG a b r;rw[h,h1,h2]at this;simp at this
 ·intro h;refine bS λr=>?_
  rw[BG,Nat.zero_testBit];have:=h r
  cases ha:a.testBit r <;> cases hb:b.testBit r <;> simp_all
def Zdi{a b:List Nat}:WO a &&& WO b=0↔∀r∈a,r ∉ b:=by
 rw[YR];constructor
 ·intro h r ha hb;exact h r ⟨by rw[X9];simpa using ha,by rw[X9];simpa using hb⟩
 ·intro h r ⟨h1,h2⟩;rw[X9]at h1 h2;exact h r (by simpa using h1) (by simpa using h2)
section
variable {α:Type} (lt:α->α->Bool)
def VB(x:α):List α->List α
 | []=>[x]
 |y::l=>if lt x y=true then x::y::l else y::VB x l
def YC(l:List α):List α:=l.foldl (λa x=>VB lt x a) []
def Zkr(l:List α)(x:α):YC lt (l++[x])=VB lt x (YC lt l):=by simp[YC]
def Zdj(x:α)(l:List α):(VB lt x l).Perm (x::l):=by
 induction l with
 |nil=>exact List.Perm.refl _
 |cons y l ih=>
  unfold VB;split
  ·exact List.Perm.refl _
  ·exact(List.Perm.cons y ih).trans (List.Perm.swap x y l)
def Wd{x y:α}{l:List α}:y∈VB lt x l↔y=x\/y∈l:=by rw[(Zdj lt x l).mem_iff];simp
def XT(l:List α):(YC lt l).Perm l:=by
 unfold YC;have:∀(l a:List α),(l.foldl (λa x=>VB lt x a) a).Perm (a++l):=by
  intro l
  induction l with
  |nil=>intro a;simp
  |cons x l ih=>
   intro a;rw[iU];refine(ih _).trans ?_;refine((Zdj lt x a).append_right l).trans ?_;exact List.perm_middle.symm
 simpa using this l []
def WI(l:List α):(YC lt l).length=l.length:=(XT lt l).length_eq
def YS{y:α}{l:List α}:y∈YC lt l↔y∈l:=(XT lt l).mem_iff
variable {lt}
def Srt(lt:α->α->Bool)(l:List α):Prop:=l.Pairwise λa b=>lt b a=false
def Yhv(ir:∀x,lt x x=false)(tr:∀x y z,lt x y=true->lt y z=true->lt x z=true){x:α}{l:List α}(h:Srt lt l):Srt lt (VB lt x l):=by
 induction l with
 |nil=>simp[VB,Srt]
 |cons y l ih=>
  unfold Srt at h;rw[jT]at h;unfold VB;split
  ·rename_i hc
   unfold Srt;rw[jT,jT];refine⟨λz hz=>?_,h⟩;rcases jw.1 hz with rfl|hz
   ·cases hb:lt z x with
    |false=>rfl
    |true=>have:=tr _ _ _ hc hb;rw[ir]at this;cases this
   ·cases hb:lt z x with
    |false=>rfl
    |true=>have:=tr _ _ _ hb hc;rw[h.1 z hz]at this;cases this
  ·rename_i hc
   unfold Srt;rw[jT];refine⟨λz hz=>?_,ih h.2⟩;rcases(Wd lt).1 hz with rfl|hz
   ·simpa using hc
   ·exact h.1 z hz
def Zib(ir:∀x,lt x x=false)(tr:∀x y z,lt x y=true->lt y z=true->lt x z=true)(l:List α):Srt lt (YC lt l):=by
 have:∀(l a:List α),Srt lt a->Srt lt (l.foldl (λa x=>VB lt x a) a):=by
  intro l
  induction l with
  |nil=>intro a h;exact h
  |cons x l ih=>intro a h;exact ih _ (Yhv ir tr h)
 exact this l [] (by simp[Srt])
def Zph(tr':∀x y z,lt x y=false->lt y z=false->lt x z=false){x y:α}{a:List α}(h:Srt lt (a++[y]))(hxy:lt x y=false):VB lt x (a++[y])=a++[y,x]:=by
 induction a with
 |nil=>simp[VB,hxy]
 |cons z a ih=>
  unfold Srt at h;rw[vW,jT]at h;have hz:lt x z=false:=tr' _ _ _ hxy (h.1 y (by simp));rw[vW,VB,jA (by simp[hz]),ih h.2];rfl
def Zpi{x y:α}{a b:List α}(ir:∀x,lt x x=false)(tr:∀x y z,lt x y=true->lt y z=true->lt x z=true)(tr':∀x y z,lt x y=false->lt y z=false->lt x z=false)(h:Srt lt (a++y::b))(hxy:lt x y=true):VB lt x (a++y::b)=VB lt x a++y::b:=by
 induction a with
 |nil=>simp[VB,hxy]
 |cons z a ih=>
  unfold Srt at h;rw[vW,jT]at h;rw[vW,VB,VB];by_cases hz:lt x z=true
  ·rw[jB hz,jB hz];rfl
  ·rw[jA hz,jA hz,ih h.2];rfl
end
def ltI(x y:Int):Bool:=decide (x<y)
def Yj(l:List Int):List Int:=YC ltI l
def Ycg(x:Int):ltI x x=false:=by simp[ltI]
def Ych(x y z:Int):ltI x y=true->ltI y z=true->ltI x z=true:=by simp[ltI];omega
def Yci(x y z:Int):ltI x y=false->ltI y z=false->ltI x z=false:=by simp[ltI];omega
def Zyc(l:List Int)(x:Int):Yj (l++[x])=VB ltI x (Yj l):=Zkr _ _ _
def Zdk{l:List Int}(h:l.Nodup):(Yj l).Pairwise (·< ·):=by
 have h1:Srt ltI (Yj l):=Zib Ycg Ych l;have h2:(Yj l).Nodup:=(XT ltI l).nodup_iff.2 h;unfold Srt at h1;refine(h1.and h2).imp fun{a b} ⟨h3,h4⟩=>?_
 simp[ltI]at h3;omega
def Yhw{x:Int}{l:List Int}(h:l.Pairwise (·< ·))(hx:x ∉ l):(VB ltI x l).Pairwise (·< ·):=by
 induction l with
 |nil=>simp[VB]
 |cons y l ih=>
  rw[jT]at h;unfold VB;split
  ·rename_i hc
   simp[ltI]at hc;rw[jT,jT];refine⟨λz hz=>?_,h⟩;rcases jw.1 hz with rfl|hz
   ·exact hc
   ·have:=h.1 z hz;omega
  ·rename_i hc
   simp[ltI]at hc;rw[jT];refine⟨λz hz=>?_,ih h.2 λhm=>hx (jG _ hm)⟩;rcases(Wd ltI).1 hz with rfl|hz
   ·have:z≠y:=λe=>hx (by simp[e])
    omega
   ·exact h.1 z hz
def Ycj{a b:List Int}(ha:a.Pairwise (·< ·))(hb:b.Pairwise (·< ·))(h:∀x,x∈a↔x∈b):a=b:=by
 induction a generalizing b with
 |nil=>
  cases b with
  |nil=>rfl
  |cons y b=>have:=(h y).2 (by simp);simp at this
 |cons x a ih=>
  cases b with
  |nil=>have:=(h x).1 (by simp);simp at this
  |cons y b=>
   rw[jT]at ha hb;have f:x=y:=by
    have h1:=(h x).1 (by simp);have h2:=(h y).2 (by simp);rcases jw.1 h1 with e|e
    ·exact e
    ·rcases jw.1 h2 with e'|e'
     ·exact e'.symm
     ·have:=ha.1 y e';have:=hb.1 x e;omega
   subst f
   congr 1
   refine ih ha.2 hb.2 λz=>?_
   have hz:=h z;simp only[jw]at hz;constructor
   ·intro c;rcases hz.1 (.inr c)with e|e
    ·have:=ha.1 z c;omega
    ·exact e
   ·intro d;rcases hz.2 (.inr d)with e|e
    ·have:=hb.1 z d;omega
    ·exact e
end Pl
end
section
namespace Pl
structure Dc where
 idx:Nat
 mask:Nat
 rows:List Nat
 sur:Int
def InR(n:Nat)(s:List Int):Prop:=∀i∈s,0<=i/\i<n
instance(n:Nat)(s:List Int):Decidable (InR n s):=inferInstanceAs (Decidable (∀i∈s,0<=i/\i<n))
section
variable (L:List Dc)
def mkI(i:Int):Nat:=((L[i.toNat]?).map (·.mask)).getD 0
def suI(i:Int):Int:=((L[i.toNat]?).map (·.sur)).getD 0
def Dj(s:List Int):Prop:=s.Pairwise λi j=>mkI L i &&& mkI L j=0
instance(s:List Int):Decidable (Dj L s):=inferInstanceAs (Decidable (s.Pairwise λi j=>mkI L i &&& mkI L j=0))
def YZ(s:List Int):Int:=(s.map (suI L)).sum
def orI(s:List Int):Nat:=s.foldl (λm i=>m ||| mkI L i) 0
structure Sel (s:List Int):Prop where
 rg:InR L.length s
 asc:s.Pairwise (·< ·)
 dj:Dj L s
def We(s:List Int):Int:=if InR L.length s then(if Yso s=true then(if Dj L s then 0 else 7)else 8)else 5
def Sel.err{s:List Int}(h:Sel L s):We L s=0:=by
 unfold We Yso;rw[jB h.rg,jB (kE h.asc),jB h.dj]
variable {L}
def XH{i:Nat}{x:Dc}(h:L[i]? =some x):mkI L (i:Int)=x.mask:=by simp[mkI,h]
def Zdl{i:Nat}{x:Dc}(h:L[i]? =some x):suI L (i:Int)=x.sur:=by simp[suI,h]
def Uv(a b:List Int):YZ L (a++b)=YZ L a+YZ L b:=by simp[YZ]
def Zdm{a b:List Int}(h:a.Perm b):YZ L a=YZ L b:=by
 unfold YZ
 induction h with
 |nil=>rfl
 |cons x _ ih=>simp[ih]
 |swap x y l=>simp;omega
 |trans _ _ h1 h2=>exact h1.trans h2
def Dj.perm{a b:List Int}(h:Dj L a)(hp:a.Perm b):Dj L b:=by
 unfold Dj at h⊢;exact(hp.pairwise_iff (fun{x y} h=>by rw[vk];exact h)).1 h
def Yck(s:List Int)(r:Nat):(orI L s).testBit r=s.any λi=>(mkI L i).testBit r:=by
 unfold orI;have:∀(s:List Int) (m:Nat),(s.foldl (λm i=>m ||| mkI L i) m).testBit r=(m.testBit r || s.any λi=>(mkI L i).testBit r):=by
  intro s
  induction s with
  |nil=>intro m;simp
  |cons x s ih=>intro m;rw[iU,ih,eG,List.any_cons,Bool.or_assoc]
 rw[this];simp
def Zmm(s:List Int)(i:Int):orI L (s++[i])=orI L s ||| mkI L i:=by simp[orI]
def Zex{m:Nat}{s:List Int}:m &&& orI L s=0↔∀i∈s,m &&& mkI L i=0:=by
 rw[YR];constructor
 ·intro h i hi;rw[YR];intro r ⟨h1,h2⟩;exact h r ⟨h1,by rw[Yck,List.any_eq_true];exact⟨i,hi,h2⟩⟩
 ·intro h r ⟨h1,h2⟩;rw[Yck,List.any_eq_true]at h2;obtain⟨i,hi,h3⟩:=h2;exact YR.1 (h i hi) r ⟨h1,h3⟩
def Zsh{s:List Int}{i:Int}:Dj L (s++[i])↔Dj L s/\mkI L i &&& orI L s=0:=by
 unfold Dj;rw[kg,Zex];simp only[aH,vZ,forall_eq,true_and];constructor
 ·rintro⟨h1,h2⟩;exact⟨h1,λj hj=>by rw[vk];exact h2 j hj⟩
 ·rintro⟨h1,h2⟩;exact⟨h1,λj hj=>by rw[vk];exact h2 j hj⟩
end
def Erl(a b:List Int):Prop:=∃k,k∈a/\k ∉ b/\∀j,j<k->(j∈a↔j∈b)
def Erl.asymm{a b:List Int}(h:Erl a b)(h':Erl b a):False:=by
 obtain⟨k,h1,h2,h3⟩:=h;obtain⟨j,g1,g2,g3⟩:=h';rcases jm k j with e|e|e
 ·exact h2 ((g3 k e).2 h1)
 ·subst e;exact g2 h1
 ·exact g2 ((h3 j e).2 g1)
def Erl.trans{a b c:List Int}(h:Erl a b)(h':Erl b c):Erl a c:=by
 obtain⟨k,h1,h2,h3⟩:=h;obtain⟨j,g1,g2,g3⟩:=h';rcases jm k j with e|e|e
 ·exact⟨k,h1,λhc=>h2 ((g3 k e).2 hc),λi hi=>(h3 i hi).trans (g3 i Qk)⟩
 ·subst e;exact absurd g1 h2
 ·exact⟨j,(h3 j e).2 g1,g2,λi hi=>(h3 i Qk).trans (g3 i hi)⟩
def Yrj(a b:List Int):Nat->Nat->Bool
 |0,_=>false
 |f+1,n=>if decide ((n:Int)∈a)=decide ((n:Int)∈b)then Yrj a b f (n+1)else decide ((n:Int)∈a)
def Yhx{a b:List Int}{f n:Nat}(ha:∀i∈a,0<=i/\i< (n+f:Nat))(hlow:∀j:Int,j<n->(j∈a↔j∈b)):Yrj a b f n=true↔Erl a b:=by
 induction f generalizing n with
 |zero=>
  simp only[Yrj,dL,false_iff];rintro⟨k,h1,h2,_⟩;have:=ha k h1;exact h2 ((hlow k Qk).1 h1)
 |succ f ih=>
  rw[Yrj];split
  ·rename_i h
   have hd:((n:Int)∈a↔(n:Int)∈b):=(by simpa using h);refine ih (λi hi=>by have:=ha i hi;omega) λj hj=>?_
   rcases jR j n with e|e
   ·exact hlow j e
   ·obtain rfl:j=n:=Qk
    exact hd
  ·rename_i h
   have hd:¬((n:Int)∈a↔(n:Int)∈b):=(by simpa using h);rw[iR];constructor
   ·intro h1;exact⟨n,h1,λh2=>hd ⟨λ_=>h2,λ_=>h1⟩,hlow⟩
   ·rintro⟨k,h1,h2,h3⟩;rcases jm k n with e|e|e
    ·exact absurd ((hlow k e).1 h1) h2
    ·subst e;exact h1
    ·exact absurd (h3 n e) hd
def Erl.total{a b:List Int}(ha:a.Pairwise (·< ·))(hb:b.Pairwise (·< ·))(ha0:∀i∈a,0<=i)(hb0:∀i∈b,0<=i):Erl a b\/a=b\/Erl b a:=by
 induction a generalizing b with
 |nil=>
  cases b with
  |nil=>exact .inr (.inl rfl)
  |cons y b=>
   rw[jT]at hb;refine .inr (.inr ⟨y,by simp,by simp,λj hj=>?_⟩);simp only[jw,eQ,iff_false];rintro(e|e)
   ·omega
   ·have:=hb.1 j e;omega
 |cons x a ih=>
  rw[jT]at ha
  cases b with
  |nil=>
   refine .inl ⟨x,by simp,by simp,λj hj=>?_⟩;simp only[jw,eQ,iff_false];rintro(e|e)
   ·omega
   ·have:=ha.1 j e;omega
  |cons y b=>
   rw[jT]at hb;have hx:∀j,j<x->j ∉ x::a:=λj hj h=>by
    rcases jw.1 h with e|e
    ·omega
    ·have:=ha.1 j e;omega
   have hy:∀j,j<y->j ∉ y::b:=λj hj h=>by
    rcases jw.1 h with e|e
    ·omega
    ·have:=hb.1 j e;omega
   rcases jm x y with e|e|e
   ·exact .inl ⟨x,by simp,hy x e,λj hj=>⟨λh=>absurd h (hx j hj),λh=>absurd h (hy j Qk)⟩⟩
   ·subst e;have keep:∀{c d:List Int},(∀z∈c,x<z)->(∀z∈d,x<z)->Erl c d->Erl (x::c) (x::d):=by
     rintro c d hc hd ⟨k,h1,h2,h3⟩;have hk:=hc k h1;refine⟨k,by simp[h1],λh=>?_,λj hj=>?_⟩
     ·rcases jw.1 h with e|e
      ·omega
      ·exact h2 e
     ·simp only[jw];rw[h3 j hj]
    rcases ih ha.2 hb.2 (λi hi=>ha0 i (by simp[hi])) (λi hi=>hb0 i (by simp[hi]))with h|h|h
    ·exact .inl (keep ha.1 hb.1 h)
    ·exact .inr (.inl (by rw[h]))
    ·exact .inr (.inr (keep hb.1 ha.1 h))
   ·exact .inr (.inr ⟨y,by simp,hx y e,λj hj=>⟨λh=>absurd h (hy j hj),λh=>absurd h (hx j Qk)⟩⟩)
def Ble(L:List Dc)(a b:List Int):Prop:=YZ L a<YZ L b\/(YZ L a=YZ L b/\(a=b\/Erl a b))
def Ble.refl(L:List Dc)(a:List Int):Ble L a a:= .inr ⟨rfl,.inl rfl⟩
def Ble.trans{L:List Dc}{a b c:List Int}(h:Ble L a b)(h':Ble L b c):Ble L a c:=by
 rcases h with h|⟨h,g⟩
 ·rcases h' with h'|⟨h',_⟩
  ·exact .inl Qk
  ·exact .inl Qk
 ·rcases h' with h'|⟨h',g'⟩
  ·exact .inl Qk
  ·refine .inr ⟨Qk,?_⟩;rcases g with rfl|g
   ·exact g'
   ·rcases g' with rfl|g'
    ·exact .inr g
    ·exact .inr (g.trans g')
structure Yrk (L:List Dc) (kept s:List Int):Prop where
 sel:Sel L s
 sub:∀i∈kept,i∈s
 le:∀t,Sel L t->(∀i∈kept,i∈t)->Ble L s t
def frB(L:List Dc)(now:List Int)(j:Nat):Bool:=now.all λi=>decide (mkI L i &&& mkI L (j:Int)=0)
def triP(L:List Dc)(base:Int):Nat->List Int->List Int->Int->List Int × Int
 |0,now,best,low=>if base+YZ L now<low\/(base+YZ L now=low/\Yrj now best 1000 0=true)then(now,base+YZ L now)else(best,low)
 |k+1,now,best,low=>
  if frB L now (L.length - (k+1))=true then
   triP L base k now (triP L base k (VB ltI ((L.length - (k+1):Nat):Int) now) best low).1 (triP L base k (VB ltI ((L.length - (k+1):Nat):Int) now) best low).2
  else triP L base k now best low
def Sel.ins{L:List Dc}(hne:∀(i:Nat) (x:Dc),L[i]? =some x->x.mask≠0){now:List Int}{j:Nat}(h:Sel L now)(hj:j<L.length)(hf:frB L now j=true):(j:Int) ∉ now/\Sel L (VB ltI (j:Int) now):=by
 have a:∀i∈now,mkI L i &&& mkI L (j:Int)=0:=by
  unfold frB at hf;rw[dA]at hf;intro i hi;simpa using hf i hi
 have hn:(j:Int) ∉ now:=λhm=>by
  have:=a _ hm;rw[eZ,XH (JQ hj)]at this;exact hne j _ (JQ hj) this
 refine⟨hn,⟨λi hi=>?_,Yhw h.asc hn,?_⟩⟩
 ·rcases(Wd ltI).1 hi with rfl|hi
  ·omega
  ·exact h.rg i hi
 ·refine Dj.perm ?_ (Zdj ltI (j:Int) now).symm;unfold Dj;rw[jT];exact⟨λi hi=>by rw[vk];exact a i hi,h.dj⟩
def Zmn{L:List Dc}{t:List Int}(h:t.Pairwise λa b=>a<b/\mkI L a &&& mkI L b=0){i j:Int}(hi:i∈t)(hj:j∈t)(hlt:i<j):mkI L i &&& mkI L j=0:=by
 obtain⟨a,ha,rfl⟩:=bU hi;obtain⟨b,hb,rfl⟩:=bU hj;have hp:=iw.1 h;rcases kF a b with e|e|e
 ·exact(hp a b ha hb e).2
 ·subst e;omega
 ·have:=(hp b a hb ha e).1;omega
def Ext(L:List Dc)(now:List Int)(j:Nat)(t:List Int):Prop:=Sel L t/\(∀i∈now,i∈t)/\∀i∈t,i< (j:Int)->i∈now
def Yhy{L:List Dc}(hne:∀(i:Nat) (x:Dc),L[i]? =some x->x.mask≠0)(hL:L.length<=1000){base:Int}{k:Nat}{now best:List Int}{low:Int}(hk:k<=L.length)(hs:Sel L now)(hb:Sel L best)(hlow:low=base+YZ L best):
 ((triP L base k now best low).1=best\/Ext L now (L.length - k) (triP L base k now best low).1)/\Sel L (triP L base k now best low).1/\(triP L base k now best low).2=base+YZ L (triP L base k now best low).1/\
  Ble L (triP L base k now best low).1 best/\∀t,Ext L now (L.length - k) t->Ble L (triP L base k now best low).1 t:=by
 induction k generalizing now best low with
 |zero=>
  have d:∀t,Ext L now (L.length - 0) t->t=now:=λt ht=>Ycj ht.1.asc hs.asc λx=>⟨λhx=>ht.2.2 x hx (by have:=ht.1.rg x hx;omega),ht.2.1 x⟩
  have hE:Ext L now (L.length - 0) now:=⟨hs,λ_ h=>h,λ_ h _=>h⟩;have l:=Yhx (a:=now) (b:=best) (f:=1000) (n:=0) (λi hi=>by have:=hs.rg i hi;omega) (λj hj=>⟨λh=>by have:=hs.rg j h;omega,λh=>by have:=hb.rg j h;omega⟩);unfold triP;split
  ·rename_i hc
   refine⟨.inr hE,hs,rfl,?_,λt ht=>by rw[d t ht];exact Ble.refl _ _⟩;rcases hc with hc|⟨hc,he⟩
   ·exact .inl (by simp only;omega)
   ·exact .inr ⟨by simp only;omega,.inr (l.1 he)⟩
  ·rename_i hc
   refine⟨.inl rfl,hb,hlow,Ble.refl _ _,λt ht=>?_⟩;rw[d t ht];rcases jm (base+YZ L now) low with e|e|e
   ·exact absurd (.inl e) hc
   ·have hn:¬Erl now best:=λh=>hc (.inr ⟨e,l.2 h⟩)
    refine .inr ⟨by simp only;omega,?_⟩;rcases Erl.total hs.asc hb.asc (λi hi=>(hs.rg i hi).1) (λi hi=>(hb.rg i hi).1)with h|h|h
    ·exact absurd h hn
    ·exact .inl h.symm
    ·exact .inr h
   ·exact .inl (by simp only;omega)
 |succ k ih=>
  obtain⟨j,hj⟩:∃j,L.length - (k+1)=j:=⟨_,rfl⟩;have s:j<L.length:=Qk
  have m:L.length - k=j+1:=Qk
  unfold triP;rw[hj]
  have c:∀t,Ext L now j t->Ext L now (j+1) t\/(frB L now j=true/\Ext L (VB ltI (j:Int) now) (j+1) t):=λt ht=>by
   by_cases g:(j:Int)∈t
   ·by_cases r:(j:Int)∈now
    ·refine .inl ⟨ht.1,ht.2.1,λi hi hlt=>?_⟩;rcases jR i j with e|e
     ·exact ht.2.2 i hi e
     ·obtain rfl:i=j:=Qk
      exact r
    ·refine .inr ⟨?_,ht.1,λi hi=>?_,λi hi hlt=>?_⟩
     ·unfold frB;rw[dA];intro i hi;rw[iR];have o:i≠(j:Int):=λe=>r (e▸hi)
      have:=ht.1.dj;unfold Dj at this;rcases BV o with hlt|hlt
      ·have hp:=(ht.1.asc.and this);exact(Zmn hp (ht.2.1 i hi) g hlt)
      ·have hp:=(ht.1.asc.and this);rw[vk];exact(Zmn hp g (ht.2.1 i hi) hlt)
     ·rcases(Wd ltI).1 hi with rfl|hi
      ·exact g
      ·exact ht.2.1 i hi
     ·rw[Wd];rcases jR i j with e|e
      ·exact .inr (ht.2.2 i hi e)
      ·exact .inl Qk
   ·refine .inl ⟨ht.1,ht.2.1,λi hi hlt=>?_⟩;rcases jR i j with e|e
    ·exact ht.2.2 i hi e
    ·obtain rfl:i=j:=Qk
     exact absurd hi g
  have p:∀t,Ext L now (j+1) t->Ext L now j t:=λt ht=>⟨ht.1,ht.2.1,λi hi hlt=>ht.2.2 i hi Qk⟩
  split
  ·rename_i hf
   obtain⟨hn,u⟩:=hs.ins hne s hf;have q:∀t,Ext L (VB ltI (j:Int) now) (j+1) t->Ext L now j t:=λt ht=>⟨ht.1,λi hi=>ht.2.1 i ((Wd ltI).2 (.inr hi)),λi hi hlt=>by
    rcases(Wd ltI).1 (ht.2.2 i hi Qk)with e|e
    ·omega
    ·exact e⟩
   obtain⟨a1,a2,a3,a4,a5⟩:=ih (now:=VB ltI (j:Int) now) (best:=best) (low:=low) Qk u hb hlow;generalize triP L base k (VB ltI (j:Int) now) best low=r1 at a1 a2 a3 a4 a5⊢;obtain⟨b1,b2,b3,b4,b5⟩:=ih (now:=now) (best:=r1.1) (low:=r1.2) Qk hs a2 a3;rw[m]at a1 a5 b1 b5;refine⟨?_,b2,b3,b4.trans a4,λt ht=>?_⟩
   ·rcases b1 with e|e
    ·rw[e];rcases a1 with e|e
     ·exact .inl e
     ·exact .inr (q _ e)
    ·exact .inr (p _ e)
   ·rcases c t ht with h|⟨_,h⟩
    ·exact b5 t h
    ·exact b4.trans (a5 t h)
  ·rename_i hf
   obtain⟨b1,b2,b3,b4,b5⟩:=ih (now:=now) (best:=best) (low:=low) Qk hs hb hlow;rw[m]at b1 b5;refine⟨b1.imp id (p _),b2,b3,b4,λt ht=>?_⟩;rcases c t ht with h|⟨h,_⟩
   ·exact b5 t h
   ·exact absurd h hf
def Yhz{L:List Dc}(hne:∀(i:Nat) (x:Dc),L[i]? =some x->x.mask≠0)(hL:L.length<=1000){base:Int}{kept:List Int}(hs:Sel L kept):
 Yrk L kept (triP L base L.length kept kept (base+YZ L kept)).1/\(triP L base L.length kept kept (base+YZ L kept)).2=base+YZ L (triP L base L.length kept kept (base+YZ L kept)).1:=by
 obtain⟨a1,a2,a3,a4,a5⟩:=Yhy hne hL (base:=base) (JY _) hs hs rfl;refine⟨⟨a2,?_,λt ht hsub=>a5 t ⟨ht,hsub,λi hi hlt=>?_⟩⟩,a3⟩
 ·rcases a1 with e|e
  ·rw[e];exact λ_ h=>h
  ·exact e.2.1
 ·have:=ht.rg i hi;omega
end Pl
end
namespace Pl
structure Sv where
 best:List Int
 cost:Int
 proper:Bool
 used:Nat
structure Sc where
 n:Nat
 kept:List Int
 steps:Nat
def WJ(a:List Int)(r:Nat)(z:Int):List Int:=a.set r (min (a.getD r 0) z)
def Xz(x:Dc):Int:=x.sur/ (x.rows.length:Int)
def Yh(n:Nat):List Dc->List Int
 | []=>List.replicate n 0
 |x::l=>x.rows.foldl (λa r=>WJ a r (Xz x)) (Yh n l)
def bndP(t:Nat):List Int->Nat->Int->Int
 | [],_,c=>c
 |s::l,r,c=>bndP t l (r+1) (if t.testBit r=true then c else c+s)
def Yfk(b:Int)(st:Sv):Bool:=decide (st.cost<b)||(decide (b=st.cost) && st.proper)
def loopP(cf:Sc):List Dc->Nat->Int->List Int->Sv->Sv × Bool
 | [],_,c,ad,st=>(if c<st.cost\/(c=st.cost/\st.proper=false)then⟨Yj (cf.kept++ad),c,true,st.used⟩else st,true)
 |x::l,t,c,ad,st=>
  if Yfk (bndP t (Yh cf.n (x::l)) 0 c) st=true then(st,true)
  else if x.mask &&& t=0 then
   if(if st.used=cf.steps then(st,false)else loopP cf l (t ||| x.mask) (c+x.sur) (ad++[(x.idx:Int)]) ⟨st.best,st.cost,st.proper,st.used+1⟩).2=true then
    loopP cf l t c ad (if st.used=cf.steps then(st,false)else loopP cf l (t ||| x.mask) (c+x.sur) (ad++[(x.idx:Int)]) ⟨st.best,st.cost,st.proper,st.used+1⟩).1
   else((if st.used=cf.steps then(st,false)else loopP cf l (t ||| x.mask) (c+x.sur) (ad++[(x.idx:Int)]) ⟨st.best,st.cost,st.proper,st.used+1⟩).1,false)
  else loopP cf l t c ad st
def Zef(cf:Sc)(l:List Dc)(t:Nat)(c:Int)(ad:List Int)(st:Sv):Sv × Bool:=if st.used=cf.steps then(st,false)else loopP cf l t c ad ⟨st.best,st.cost,st.proper,st.used+1⟩
def Uf(cf:Sc)(x:Dc)(l:List Dc)(t:Nat)(c:Int)(ad:List Int)(st:Sv):loopP cf (x::l) t c ad st=
 if Yfk (bndP t (Yh cf.n (x::l)) 0 c) st=true then(st,true)
 else if x.mask &&& t=0 then
  if(Zef cf l (t ||| x.mask) (c+x.sur) (ad++[(x.idx:Int)]) st).2=true then loopP cf l t c ad (Zef cf l (t ||| x.mask) (c+x.sur) (ad++[(x.idx:Int)]) st).1
  else((Zef cf l (t ||| x.mask) (c+x.sur) (ad++[(x.idx:Int)]) st).1,false)
 else loopP cf l t c ad st:=rfl
def U7(a:List Int)(r:Nat)(z:Int):(WJ a r z).length=a.length:=by simp[WJ]
def Yia(a:List Int)(r q:Nat)(z:Int):(WJ a r z).getD q 0<=a.getD q 0:=by
 unfold WJ;by_cases h:r=q
 ·subst h;rcases JX r a.length with e|e
  ·simp[List.getD,e];omega
  ·rw[List.set_eq_of_length_le e];exact ib _
 ·simp[List.getD,jE h]
def Yib{a:List Int}{r:Nat}(z:Int)(h:r<a.length):(WJ a r z).getD r 0<=z:=by
 unfold WJ;simp[List.getD,h];omega
def Ynq(z:Int):∀(rows:List Nat) (a:List Int),(∀r∈rows,r<a.length)->
 (rows.foldl (λa r=>WJ a r z) a).length=a.length/\(∀q,(rows.foldl (λa r=>WJ a r z) a).getD q 0<=a.getD q 0)/\∀q∈rows,(rows.foldl (λa r=>WJ a r z) a).getD q 0<=z:=by
 intro rows
 induction rows with
 |nil=>intro a _;exact⟨rfl,λq=>ib _,λq h=>by simp at h⟩
 |cons r rows ih=>
  intro a hr;have hl:=U7 a r z;obtain⟨h1,h2,h3⟩:=ih (WJ a r z) (λq hq=>by rw[hl];exact hr q (jG _ hq));rw[iU];refine⟨h1.trans hl,λq=>gH (h2 q) (Yia a r q z),λq hq=>?_⟩;rcases jw.1 hq with rfl|hq
  ·exact gH (h2 q) (Yib z (hr q (jK ..)))
  ·exact h3 q hq
structure Yfl (n:Nat) (x:Dc):Prop where
 msk:x.mask=WO x.rows
 ne:x.rows≠[]
 nd:x.rows.Nodup
 rg:∀r∈x.rows,r<n
def Yfl.mask_ne{n:Nat}{x:Dc}(h:Yfl n x):x.mask≠0:=by
 intro h0;obtain⟨r,hr⟩:=fG _ h.ne;have:=X9 x.rows r;rw[<-h.msk,h0]at this;simp[hr]at this
def Yic{n:Nat}{l:List Dc}(h:∀x∈l,Yfl n x):(Yh n l).length=n/\(∀q,(Yh n l).getD q 0<=0)/\∀x∈l,∀r∈x.rows,(Yh n l).getD r 0<=Xz x:=by
 induction l with
 |nil=>
  refine⟨by simp[Yh],λq=>?_,λx h=>by simp at h⟩;simp only[Yh,List.getD,kT];split <;> simp
 |cons x l ih=>
  obtain⟨h1,h2,h3⟩:=ih λy hy=>h y (jG _ hy)
  have hx:=h x (jK ..);obtain⟨g1,g2,g3⟩:=Ynq (Xz x) x.rows (Yh n l) (λr hr=>by rw[h1];exact hx.rg r hr);unfold Yh;refine⟨g1.trans h1,λq=>gH (g2 q) (h2 q),λy hy r hr=>?_⟩;rcases jw.1 hy with rfl|hy
  ·exact g3 r hr
  ·exact gH (g2 r) (h3 y hy r hr)
def Zgo(t:Nat)(l:List Int)(r:Nat)(c:Int):bndP t l r c=c+bndP t l r 0:=by
 induction l generalizing r c with
 |nil=>simp[bndP]
 |cons s l ih=>
  unfold bndP;rw[ih (r+1) (if t.testBit r=true then c else c+s),ih (r+1) (if t.testBit r=true then 0 else 0+s)];split <;> omega
def Ynr{t:Nat}{l:List Int}(h:∀q,l.getD q 0<=0)(r:Nat):bndP t l r 0<=0:=by
 induction l generalizing r with
 |nil=>simp[bndP]
 |cons s l ih=>
  rw[bndP,Zgo];have h0:s<=0:=by have:=h 0;simpa using this
  have:=ih (λq=>by have:=h (q+1);simpa using this) (r+1);split <;> omega
def Zey{t q r:Nat}(h:q≠r):(t ||| 2^q).testBit r=t.testBit r:=by
 rw[eG,iy];simp[h]
def Yid{t q:Nat}{l:List Int}{r:Nat}{c:Int}(h:q<r):bndP (t ||| 2^q) l r c=bndP t l r c:=by
 induction l generalizing r c with
 |nil=>rfl
 |cons s l ih=>rw[bndP,bndP,ih Qk,Zey Qk]
def Yie{t:Nat}{l:List Int}{r k:Nat}(hk:k<l.length)(ht:t.testBit (r+k)=false):bndP t l r 0=bndP (t ||| 2^(r+k)) l r 0+l.getD k 0:=by
 induction l generalizing r k with
 |nil=>simp at hk
 |cons s l ih=>
  rw[bndP,bndP,Zgo,Zgo (t ||| 2^(r+k))]
  cases k with
  |zero=>
   simp only[dI]at ht⊢;rw[Yid (show r<r+1 by omega),jA (by simp[ht]),jB (by rw[eG,iy];simp)];simp;omega
  |succ k=>
   rw[Zey Qk];have h1:=ih (r:=r+1) (k:=k) (by simpa using hk) (by rw[show r+1+k=r+(k+1) by omega];exact ht);rw[show r+1+k=r+(k+1) by omega]at h1;rw[h1];simp;split <;> omega
def Ycl{l:List Int}:∀(rows:List Nat) (t:Nat),rows.Nodup->(∀r∈rows,r<l.length/\t.testBit r=false)->
 bndP t l 0 0=bndP (rows.foldl (λm r=>m ||| 2^r) t) l 0 0+(rows.map λr=>l.getD r 0).sum:=by
 intro rows
 induction rows with
 |nil=>intro t _ _;simp
 |cons r rows ih=>
  intro t hn h;rw[dP]at hn;have hr:=h r (jK ..);have h1:=Yie (l:=l) (r:=0) hr.1 (by simpa using hr.2);rw[ji]at h1;rw[h1,iU,ih (t ||| 2^r) hn.2 λq hq=>?_,kM,aY]
  ·omega
  ·have a:=h q (jG _ hq);exact⟨a.1,by rw[Zey (λe=>hn.1 (by rw[e];exact hq))];exact a.2⟩
def Yns{rows:List Nat}{t:Nat}:rows.foldl (λm r=>m ||| 2^r) t=t ||| WO rows:=by
 refine bS λr=>?_
 rw[Zft,eG,X9]
def Zpj{l:List Int}{z:Int}:∀(rows:List Nat),(∀r∈rows,l.getD r 0<=z)->(rows.map λr=>l.getD r 0).sum<=z*rows.length:=by
 intro rows
 induction rows with
 |nil=>intro _;simp
 |cons r rows ih=>
  intro h;have h1:=h r (jK ..);have h2:=ih λq hq=>h q (jG _ hq)
  rw[kM,aY,ky,vG,gI];simp only[Int.natCast_one,Int.mul_one];omega
def Uw{a b c:Nat}:a &&& (b ||| c)=0↔a &&& b=0/\a &&& c=0:=by
 simp only[YR,eG,fK];constructor
 ·intro h;exact⟨λr hr=>h r ⟨hr.1,.inl hr.2⟩,λr hr=>h r ⟨hr.1,.inr hr.2⟩⟩
 ·rintro⟨h1,h2⟩ r ⟨g1,g2|g2⟩
  ·exact h1 r ⟨g1,g2⟩
  ·exact h2 r ⟨g1,g2⟩
def Yif{n:Nat}{l:List Dc}(h:∀x∈l,Yfl n x):∀(T:List Dc) (t:Nat),(∀x∈T,x∈l)->(T.Pairwise λx y=>x.mask &&& y.mask=0)->(∀x∈T,x.mask &&& t=0)->
 bndP t (Yh n l) 0 0<=(T.map (·.sur)).sum:=by
 obtain⟨h1,h2,h3⟩:=Yic h;intro T
 induction T with
 |nil=>intro t _ _ _;simpa using Ynr h2 0
 |cons x T ih=>
  intro t hs hp ht;rw[jT]at hp;have hx:=h x (hs x (jK ..));have a:=ht x (jK ..);have hb:=Ycl (l:=Yh n l) x.rows t hx.nd λr hr=>⟨by rw[h1];exact hx.rg r hr,by
   cases hc:t.testBit r with
   |false=>rfl
   |true=>exact absurd ⟨by rw[hx.msk,X9];simpa using hr,hc⟩ (YR.1 a r)⟩
  rw[Yns,<-hx.msk]at hb;have hr:=ih (t ||| x.mask) (λy hy=>hs y (jG _ hy)) hp.2 λy hy=>Uw.2 ⟨ht y (jG _ hy),by rw[vk];exact hp.1 y hy⟩
  have b:=Zpj (l:=Yh n l) (z:=Xz x) x.rows λr hr=>h3 x (hs x (jK ..)) r hr
  have hd:Xz x*x.rows.length<=x.sur:=by
   unfold Xz;refine Int.ediv_mul_le _ ?_;have:=BH.2 hx.ne;omega
  rw[kM,aY];omega
def Vis(kept:List Int)(l:List Dc)(t:Nat)(c:Int)(ad:List Int)(s:List Int)(z:Int):Prop:=
 ∃T:List Dc,T.Sublist l/\(T.Pairwise λx y=>x.mask &&& y.mask=0)/\(∀x∈T,x.mask &&& t=0)/\s=Yj (kept++(ad++T.map λx=>(x.idx:Int)))/\z=c+(T.map (·.sur)).sum
def Vis.nil_iff{kept:List Int}{t:Nat}{c:Int}{ad s:List Int}{z:Int}:Vis kept [] t c ad s z↔s=Yj (kept++ad)/\z=c:=by
 constructor
 ·rintro⟨T,hT,_,_,rfl,rfl⟩;have:=List.sublist_nil.1 hT;subst this;simp
 ·rintro⟨rfl,rfl⟩;exact⟨[],dU _,List.Pairwise.nil,λx h=>by simp at h,by simp,by simp⟩
def Vis.skip_iff{kept:List Int}{x:Dc}{l:List Dc}{t:Nat}{c:Int}{ad s:List Int}{z:Int}(h:x.mask &&& t≠0):Vis kept (x::l) t c ad s z↔Vis kept l t c ad s z:=by
 constructor
 ·rintro⟨T,hT,h1,h2,h3,h4⟩;refine⟨T,?_,h1,h2,h3,h4⟩
  cases hT with
  |cons _ hT=>exact hT
  |cons_cons _ hT=>exact absurd (h2 x (jK ..)) h
 ·rintro⟨T,hT,h1,h2,h3,h4⟩;exact⟨T,hT.cons _,h1,h2,h3,h4⟩
def Vis.cons_iff{kept:List Int}{x:Dc}{l:List Dc}{t:Nat}{c:Int}{ad s:List Int}{z:Int}(h:x.mask &&& t=0):
 Vis kept (x::l) t c ad s z↔Vis kept l (t ||| x.mask) (c+x.sur) (ad++[(x.idx:Int)]) s z\/Vis kept l t c ad s z:=by
 constructor
 ·rintro⟨T,hT,h1,h2,h3,h4⟩
  cases hT with
  |cons _ hT=>exact .inr ⟨T,hT,h1,h2,h3,h4⟩
  | @cons_cons T' _ _ hT=>
   rw[jT]at h1;refine .inl ⟨T',hT,h1.2,λy hy=>Uw.2 ⟨h2 y (jG _ hy),by rw[vk];exact h1.1 y hy⟩,?_,?_⟩
   ·rw[h3];simp
   ·rw[h4];simp;omega
 ·rintro(⟨T,hT,h1,h2,h3,h4⟩|⟨T,hT,h1,h2,h3,h4⟩)
  ·refine⟨x::T,hT.cons_cons _,jT.2 ⟨λy hy=>by rw[vk];exact(Uw.1 (h2 y hy)).2,h1⟩,λy hy=>?_,by rw[h3];simp,by rw[h4];simp;omega⟩;rcases jw.1 hy with rfl|hy
   ·exact h
   ·exact(Uw.1 (h2 y hy)).1
  ·exact⟨T,hT.cons _,h1,h2,h3,h4⟩
structure Yrl (st:Sv) (D:List Int->Int->Prop):Prop where
 low:∀s z,D s z->st.cost<=z
 yes:st.proper=true->D st.best st.cost/\∀s,D s st.cost->st.best=s\/Erl st.best s
 no:st.proper=false->∀s z,D s z->st.cost<z
def Yrl.congr{st:Sv}{D E:List Int->Int->Prop}(h:Yrl st D)(he:∀s z,D s z↔E s z):Yrl st E:=
 ⟨λs z hd=>h.low s z ((he s z).2 hd),λhp=>⟨(he _ _).1 (h.yes hp).1,λs hd=>(h.yes hp).2 s ((he _ _).2 hd)⟩,λhp s z hd=>h.no hp s z ((he s z).2 hd)⟩
def Zks(n:Nat):1<=2^n:=Nat.one_le_two_pow
def Yig(cf:Sc){l:List Dc}(hl:∀x∈l,Yfl cf.n x)(hp:l.Pairwise λx y=>x.idx<y.idx){t:Nat}{c:Int}{ad:List Int}(hnk:∀x∈l,(x.idx:Int) ∉ cf.kept/\(x.idx:Int) ∉ ad){st:Sv}{D:List Int->Int->Prop}
 (hu:st.used+2^l.length<=cf.steps+1) (ho:∀s z,D s z->∀s' z',Vis cf.kept l t c ad s' z'->Erl s s') (hi:Yrl st D):
 (loopP cf l t c ad st).2=true/\Yrl (loopP cf l t c ad st).1 (λs z=>D s z\/Vis cf.kept l t c ad s z)/\(loopP cf l t c ad st).1.used+1<=st.used+2^l.length/\st.used<=(loopP cf l t c ad st).1.used:=by
 induction l generalizing t c ad st D with
 |nil=>
  unfold loopP;have hs:∀s z,Vis cf.kept [] t c ad s z↔s=Yj (cf.kept++ad)/\z=c:=λs z=>Vis.nil_iff
  refine⟨rfl,?_,?_,?_⟩
  ·simp only;split
   ·rename_i hc
    refine⟨λs z hd=>?_,λ_=>⟨.inr ((hs _ _).2 ⟨rfl,rfl⟩),λs hd=>?_⟩,λh=>by cases h⟩
    ·rcases hd with hd|hd
     ·have:=hi.low s z hd;simp only;omega
     ·have:=((hs s z).1 hd).2;simp only;omega
    ·rcases hd with hd|hd
     ·exfalso;simp only at hd;rcases hc with hc|⟨hc,hf⟩
      ·have:=hi.low _ _ hd;omega
      ·have:=hi.no hf _ _ hd;omega
     ·exact .inl ((hs _ _).1 hd).1.symm
   ·rename_i hc
    refine⟨λs z hd=>?_,λh=>⟨.inl (hi.yes h).1,λs hd=>?_⟩,λh s z hd=>?_⟩
    ·rcases hd with hd|hd
     ·exact hi.low s z hd
     ·have:=((hs s z).1 hd).2;rcases jR c st.cost with e|e
      ·exact absurd (.inl e) hc
      ·omega
    ·rcases hd with hd|hd
     ·exact(hi.yes h).2 s hd
     ·exact .inr (ho _ _ (hi.yes h).1 s _ hd)
    ·rcases hd with hd|hd
     ·exact hi.no h s z hd
     ·have:=((hs s z).1 hd).2;rcases jm c st.cost with e|e|e
      ·exact absurd (.inl e) hc
      ·exact absurd (.inr ⟨e,h⟩) hc
      ·omega
  ·simp only;split <;> simp
  ·simp only;split <;> simp
 |cons x l ih=>
  rw[jT]at hp;have hx:=hl x (jK ..);have f:∀y∈l,Yfl cf.n y:=λy hy=>hl y (jG _ hy)
  have a:∀y∈l,(y.idx:Int) ∉ cf.kept/\(y.idx:Int) ∉ ad:=λy hy=>hnk y (jG _ hy)
  have h2:2^(x::l).length=2^l.length+2^l.length:=by rw[ky,jf];omega
  have h1:=Zks l.length;rw[h2]at hu⊢;rw[Uf];split
  ·
   rename_i hh
   have hb:∀s z,Vis cf.kept (x::l) t c ad s z->bndP t (Yh cf.n (x::l)) 0 c<=z:=by
    rintro s z ⟨T,hT,g1,g2,g3,rfl⟩;rw[Zgo];have:=Yif hl T t (λy hy=>hT.subset hy) g1 g2;omega
   unfold Yfk at hh;generalize bndP t (Yh cf.n (x::l)) 0 c=b at hb hh;simp only[fK,jh,jU]at hh;refine⟨rfl,⟨λs z hd=>?_,λh=>⟨.inl (hi.yes h).1,λs hd=>?_⟩,λh s z hd=>?_⟩,by simp only;omega,JY _⟩
   ·rcases hd with hd|hd
    ·exact hi.low s z hd
    ·have:=hb s z hd;simp only;omega
   ·rcases hd with hd|hd
    ·exact(hi.yes h).2 s hd
    ·exact .inr (ho _ _ (hi.yes h).1 s _ hd)
   ·rcases hd with hd|hd
    ·exact hi.no h s z hd
    ·have:=hb s z hd;rcases hh with hh|⟨hh,hp⟩
     ·simp only;omega
     ·rw[h]at hp;cases hp
  ·split
   ·
    rename_i hh hm
    have m:st.used≠cf.steps:=Qk;unfold Zef;rw[jA m];have hV:=λs z=>Vis.cons_iff (kept:=cf.kept) (l:=l) (c:=c) (ad:=ad) (s:=s) (z:=z) hm
    obtain⟨a1,a2,a3,a4⟩:=ih (t:=t ||| x.mask) (c:=c+x.sur) (ad:=ad++[(x.idx:Int)]) (st:=⟨st.best,st.cost,st.proper,st.used+1⟩) (D:=D) f hp.2 (λy hy=>⟨(a y hy).1,λd=>by
     rcases jW.1 d with e|e
     ·exact(a y hy).2 e
     ·have:=hp.1 y hy;simp at e;omega⟩) (by simp only;omega) (λs z hd s' z' hv=>ho s z hd s' z' ((hV s' z').2 (.inl hv))) ⟨hi.low,hi.yes,hi.no⟩
    generalize loopP cf l (t ||| x.mask) (c+x.sur) (ad++[(x.idx:Int)]) ⟨st.best,st.cost,st.proper,st.used+1⟩=r1 at a1 a2 a3 a4⊢;simp only at a3 a4;rw[jB a1];have i:=hnk x (jK ..);obtain⟨b1,b2,b3,b4⟩:=ih (t:=t) (c:=c) (ad:=ad) (st:=r1.1) (D:=λs z=>D s z\/Vis cf.kept l (t ||| x.mask) (c+x.sur) (ad++[(x.idx:Int)]) s z) f hp.2 a Qk (λs z hd s' z' hv=>by
     rcases hd with hd|hd
     ·exact ho s z hd s' z' ((hV s' z').2 (.inr hv))
     ·obtain⟨T,hT,_,_,rfl,_⟩:=hd;obtain⟨T',k,_,_,rfl,_⟩:=hv;have g:∀{T:List Dc},T.Sublist l->∀j:Int,j∈T.map (λy=>(y.idx:Int))->(x.idx:Int)<j:=fun{T} hT j hj=>by
       obtain⟨y,hy,rfl⟩:=jb.1 hj;have:=hp.1 y (hT.subset hy);omega
      refine⟨x.idx,(YS ltI).2 (by simp),λd=>?_,λj hj=>?_⟩
      ·have d:=(YS ltI).1 d;simp only[jW]at d;rcases d with e|e|e
       ·exact i.1 e
       ·exact i.2 e
       ·have:=g k _ e;omega
      ·unfold Yj;rw[YS,YS];simp only[jW,vZ];constructor
       ·rintro(e|(e|e)|e)
        ·exact .inl e
        ·exact .inr (.inl e)
        ·omega
        ·have:=g hT _ e;omega
       ·rintro(e|e|e)
        ·exact .inl e
        ·exact .inr (.inl (.inl e))
        ·have:=g k _ e;omega) a2
    refine⟨b1,b2.congr λs z=>?_,Qk,Qk⟩;rw[hV s z,or_assoc]
   ·rename_i hh hm
    have hV:=λs z=>Vis.skip_iff (kept:=cf.kept) (l:=l) (c:=c) (ad:=ad) (s:=s) (z:=z) hm
    obtain⟨a1,a2,a3,a4⟩:=ih (t:=t) (c:=c) (ad:=ad) (st:=st) (D:=D) f hp.2 a Qk (λs z hd s' z' hv=>ho s z hd s' z' ((hV s' z').2 hv)) hi;exact⟨a1,a2.congr λs z=>by rw[hV s z],Qk,a4⟩
end Pl
namespace Pl
structure Zpk (n:Nat) (L:List Dc):Prop where
 idx:∀(i:Nat) (x:Dc),L[i]? =some x->x.idx=i
 ok:∀x∈L,Yfl n x
 len:L.length<=1000
def Zpk.ne{n:Nat}{L:List Dc}(h:Zpk n L):∀(i:Nat) (x:Dc),L[i]? =some x->x.mask≠0:=λi x hx=>(h.ok x (jC hx)).mask_ne
def Zpk.at_{n:Nat}{L:List Dc}(h:Zpk n L){x:Dc}(hx:x∈L):L[x.idx]? =some x:=by
 obtain⟨i,hi,rfl⟩:=bU hx;rw[h.idx i _ (JQ hi),JQ hi]
def Zpk.asc{n:Nat}{L:List Dc}(h:Zpk n L):L.Pairwise λx y=>x.idx<y.idx:=by
 rw[iw];intro i j hi hj a;rw[h.idx i _ (JQ hi),h.idx j _ (JQ hj)];exact a
def Zdn(t:Nat)(pl:Nat->Option Dc)(x:Dc):Nat->Option Dc:=
 if x.mask &&& t=0/\x.sur<=0 then
  match pl x.mask with
  |none=>λm=>if m=x.mask then some x else pl m
  |some k=>if x.sur<k.sur then λm=>if m=x.mask then some x else pl m else pl
 else pl
def placeP(L:List Dc)(t:Nat):Nat->Option Dc:=L.foldl (Zdn t) λ_=>none
def XV(L:List Dc)(t:Nat):List Dc:=L.filter λx=>decide (((placeP L t) x.mask).map (·.idx)=some x.idx)
def Ypu(t:Nat)(x:Dc):Prop:=x.mask &&& t=0/\x.sur<=0
def Zic(L:List Dc)(t:Nat)(x:Dc):placeP (L++[x]) t=Zdn t (placeP L t) x:=by simp[placeP]
def Ypv(L:List Dc)(t:Nat)(pl:Nat->Option Dc):Prop:=
 (∀m y,pl m=some y->y∈L/\y.mask=m/\Ypu t y/\∀x∈L,Ypu t x->x.mask=m->y.sur<x.sur\/(y.sur=x.sur/\y.idx<=x.idx))/\∀x∈L,Ypu t x->pl x.mask≠none
def Ycm{L:List Dc}{t:Nat}{pl:Nat->Option Dc}{x:Dc}(h:Ypv L t pl)(hx:∀y∈L,y.idx<x.idx):Ypv (L++[x]) t (Zdn t pl x):=by
 obtain⟨h1,h2⟩:=h;unfold Zdn;split
 ·rename_i he
  have put:∀(_:∀y∈L,Ypu t y->y.mask=x.mask->x.sur<y.sur),Ypv (L++[x]) t λm=>if m=x.mask then some x else pl m:=λhc=>by
   refine⟨λm y hy=>?_,λy hy hE=>?_⟩
   ·by_cases hm:m=x.mask
    ·subst hm;simp only[if_true]at hy;injection hy with hy;subst hy;refine⟨by simp,rfl,he,λz hz hE hzm=>?_⟩;rcases jW.1 hz with hz|hz
     ·exact .inl (hc z hz hE hzm)
     ·simp at hz;subst hz;exact .inr ⟨rfl,JY _⟩
    ·simp only[hm,Bj]at hy;obtain⟨g1,g2,g3,g4⟩:=h1 m y hy;refine⟨by simp[g1],g2,g3,λz hz hE hzm=>?_⟩;rcases jW.1 hz with hz|hz
     ·exact g4 z hz hE hzm
     ·simp at hz;subst hz;exact absurd hzm.symm hm
   ·by_cases hm:y.mask=x.mask
    ·simp[hm]
    ·rcases jW.1 hy with hy|hy
     ·simp only[hm,Bj];exact h2 y hy hE
     ·simp at hy;subst hy;exact absurd rfl hm
  split
  ·rename_i hn
   exact put λy hy hE hm=>absurd hn (by rw[<-hm];exact h2 y hy hE)
  ·rename_i k hk
   obtain⟨k1,k2,k3,k4⟩:=h1 _ _ hk;split
   ·rename_i hlt
    refine put λy hy hE hm=>?_
    have:=k4 y hy hE hm;omega
   ·rename_i hlt
    refine⟨λm y hy=>?_,λy hy hE=>?_⟩
    ·obtain⟨g1,g2,g3,g4⟩:=h1 m y hy;refine⟨by simp[g1],g2,g3,λz hz hE hzm=>?_⟩;rcases jW.1 hz with hz|hz
     ·exact g4 z hz hE hzm
     ·simp at hz;subst hz;subst hzm;rw[hk]at hy;injection hy with hy;subst hy;have:=hx k k1;omega
    ·rcases jW.1 hy with hy|hy
     ·exact h2 y hy hE
     ·simp at hy;subst hy;rw[hk];simp
 ·rename_i he
  refine⟨λm y hy=>?_,λy hy hE=>?_⟩
  ·obtain⟨g1,g2,g3,g4⟩:=h1 m y hy;refine⟨by simp[g1],g2,g3,λz hz hE hzm=>?_⟩;rcases jW.1 hz with hz|hz
   ·exact g4 z hz hE hzm
   ·simp at hz;subst hz;exact absurd hE he
  ·rcases jW.1 hy with hy|hy
   ·exact h2 y hy hE
   ·simp at hy;subst hy;exact absurd hE he
def Zve{t:Nat}{L:List Dc}(h:L.Pairwise λx y=>x.idx<y.idx):Ypv L t (placeP L t):=by
 have a:∀(A B:List Dc),(A++B).Pairwise (λx y=>x.idx<y.idx)->Ypv A t (placeP A t)->Ypv (A++B) t (placeP (A++B) t):=by
  intro A B
  induction B generalizing A with
  |nil=>intro _ h;simpa using h
  |cons x B ih=>
   intro hp h;have e:A++x::B=(A++[x])++B:=(by simp);rw[e]at hp⊢;refine ih (A++[x]) hp ?_;rw[Zic];refine Ycm h λy hy=>?_
   have:=(kg.1 (kg.1 hp).1).2.2 y hy x (by simp);exact this
 have:=a [] L (by simpa using h) ⟨λm y hy=>by simp[placeP]at hy,λx hx=>by simp at hx⟩;simpa using this
def Zgp{n t:Nat}{L:List Dc}(hL:Zpk n L){x:Dc}:x∈XV L t↔x∈L/\Ypu t x/\∀y∈L,Ypu t y->y.mask=x.mask->x.sur<y.sur\/(x.sur=y.sur/\x.idx<=y.idx):=by
 obtain⟨h1,h2⟩:=Zve (t:=t) hL.asc;unfold XV;rw[jk,iR];constructor
 ·rintro⟨hx,hp⟩
  cases hc:placeP L t x.mask with
  |none=>rw[hc]at hp;cases hp
  |some k=>
   rw[hc]at hp;have hk:k.idx=x.idx:=(by simpa using hp);obtain⟨g1,g2,g3,g4⟩:=h1 _ _ hc;have e:k=x:=by
    have a:=hL.at_ g1;have b:=hL.at_ hx;rw[hk,b]at a;injection a with a;exact a.symm
   subst e;exact⟨hx,g3,g4⟩
 ·rintro⟨hx,hE,hm⟩;refine⟨hx,?_⟩
  cases hc:placeP L t x.mask with
  |none=>exact absurd hc (h2 x hx hE)
  |some k=>
   obtain⟨g1,g2,g3,g4⟩:=h1 _ _ hc;have a:=g4 x hx hE rfl;have b:=hm k g1 g3 g2;have hk:k.idx=x.idx:=Qk;simp[hk]
def Zvf(L:List Dc)(t:Nat):(XV L t).Sublist L:=List.filter_sublist
structure Now (L:List Dc) (base:Int) (kept ad:List Int) (t:Nat) (c:Int):Prop where
 nd:(kept++ad).Nodup
 rg:InR L.length (kept++ad)
 dj:Dj L (kept++ad)
 t_eq:t=orI L (kept++ad)
 c_eq:c=base+YZ L (kept++ad)
def Now.sel{L:List Dc}{base:Int}{kept ad:List Int}{t:Nat}{c:Int}(h:Now L base kept ad t c):Sel L (Yj (kept++ad))/\c=base+YZ L (Yj (kept++ad)):=
 ⟨⟨λi hi=>h.rg i ((YS ltI).1 hi),Zdk h.nd,h.dj.perm (XT ltI _).symm⟩,by show c=base+YZ L (YC ltI (kept++ad));rw[Zdm (L:=L) (XT ltI (kept++ad))];exact h.c_eq⟩
def Now.snoc{n:Nat}{L:List Dc}(hL:Zpk n L){base:Int}{kept ad:List Int}{t:Nat}{c:Int}(h:Now L base kept ad t c){x:Dc}(hx:x∈L)(hm:x.mask &&& t=0):Now L base kept (ad++[(x.idx:Int)]) (t ||| x.mask) (c+x.sur):=by
 have d:=hL.at_ hx;have e:kept++(ad++[(x.idx:Int)])=(kept++ad)++[(x.idx:Int)]:=by simp
 have f:=XH d;have g:=hm;rw[h.t_eq,Zex]at g;have j:(x.idx:Int) ∉ kept++ad:=λhi=>by
  have:=g _ hi;rw[f,eZ]at this;exact(hL.ok x hx).mask_ne this
 refine⟨?_,?_,?_,?_,?_⟩
 ·rw[e,Bg];refine⟨h.nd,by simp,λa ha b hb=>?_⟩;simp at hb;subst hb;exact λe=>j (e▸ha)
 ·rw[e];intro i hi;rcases jW.1 hi with hi|hi
  ·exact h.rg i hi
  ·simp at hi;subst hi;have:=(JO.1 d).1;omega
 ·rw[e,Zsh,f,<-h.t_eq];exact⟨h.dj,hm⟩
 ·rw[e,Zmm,f,<-h.t_eq]
 ·rw[e,Uv,h.c_eq];have:YZ L [(x.idx:Int)]=x.sur:=by simp[YZ,Zdl d]
  omega
structure Kp (L:List Dc) (base:Int) (kept:List Int) (st:Sv):Prop where
 sel:Sel L st.best
 sub:∀i∈kept,i∈st.best
 cost:st.cost=base+YZ L st.best
def Ycn{n:Nat}{L:List Dc}(hL:Zpk n L)(base:Int)(cf:Sc){l:List Dc}(hl:∀x∈l,x∈L){t:Nat}{c:Int}{ad:List Int}(hnow:Now L base cf.kept ad t c){st:Sv}(hu:st.used<=cf.steps)(hk:Kp L base cf.kept st):
 Kp L base cf.kept (loopP cf l t c ad st).1/\(loopP cf l t c ad st).1.cost<=st.cost/\(loopP cf l t c ad st).1.used<=cf.steps:=by
 induction l generalizing t c ad st with
 |nil=>
  unfold loopP;simp only;split
  ·rename_i hc
   refine⟨⟨hnow.sel.1,λi hi=>(YS ltI).2 (by simp[hi]),hnow.sel.2⟩,?_,hu⟩;simp only;omega
  ·exact⟨hk,ib _,hu⟩
 |cons x l ih=>
  have a:∀y∈l,y∈L:=λy hy=>hl y (jG _ hy)
  rw[Uf];split
  ·exact⟨hk,ib _,hu⟩
  ·split
   ·rename_i hm
    have hA:Kp L base cf.kept (Zef cf l (t ||| x.mask) (c+x.sur) (ad++[(x.idx:Int)]) st).1/\(Zef cf l (t ||| x.mask) (c+x.sur) (ad++[(x.idx:Int)]) st).1.cost<=st.cost/\(Zef cf l (t ||| x.mask) (c+x.sur) (ad++[(x.idx:Int)]) st).1.used<=cf.steps:=by
     unfold Zef;split
     ·exact⟨hk,ib _,hu⟩
     ·exact ih a (hnow.snoc hL (hl x (jK ..)) hm) (st:=⟨st.best,st.cost,st.proper,st.used+1⟩) (by simp only;omega) ⟨hk.sel,hk.sub,hk.cost⟩
    obtain⟨a1,a2,a3⟩:=hA;split
    ·obtain⟨b1,b2,b3⟩:=ih a hnow (st:=(Zef cf l (t ||| x.mask) (c+x.sur) (ad++[(x.idx:Int)]) st).1) a3 a1;exact⟨b1,gH b2 a2,b3⟩
    ·exact⟨a1,a2,a3⟩
   ·exact ih a hnow hu hk
def Sel.pair{L:List Dc}{t:List Int}(h:Sel L t){i j:Int}(hi:i∈t)(hj:j∈t)(hne:i≠j):mkI L i &&& mkI L j=0:=by
 have hp:=h.asc.and h.dj;rcases BV hne with e|e
 ·exact Zmn hp hi hj e
 ·rw[vk];exact Zmn hp hj hi e
def Sel.drop{L:List Dc}{t:List Int}(h:Sel L t)(i:Int):Sel L (t.filter λj=>decide (j≠i)):=
 ⟨λj hj=>h.rg j ((jk.1 hj).1),h.asc.filter _,List.Pairwise.filter _ h.dj⟩
def Zvg{L:List Dc}{t:List Int}(h:t.Nodup){i:Int}(hi:i∈t):YZ L t=YZ L (t.filter λj=>decide (j≠i))+suI L i:=by
 induction t with
 |nil=>simp at hi
 |cons x t ih=>
  rw[dP]at h;by_cases hx:x=i
  ·subst hx;have:t.filter (λj=>decide (j≠x))=t:=List.filter_eq_self.2 λj hj=>by
    have:j≠x:=λe=>h.1 (e▸hj)
    simpa using this
   rw[List.filter_cons_of_neg (by simp),this];simp[YZ];omega
  ·rw[List.filter_cons_of_pos (by simpa using hx)];have hit:i∈t:=by
    rcases jw.1 hi with e|e
    ·exact absurd e.symm hx
    ·exact e
   have:=ih h.2 hit;simp only[YZ,kM,aY]at this⊢;omega
def Sel.nodup{L:List Dc}{t:List Int}(h:Sel L t):t.Nodup:=h.asc.imp fun{a b} hab=>Qk
def Yih{n:Nat}{L:List Dc}(hL:Zpk n L){base:Int}{kept b:List Int}(hk:Sel L kept)(hb:Yrk L kept b):Vis kept (XV L (orI L kept)) (orI L kept) (base+YZ L kept) [] b (base+YZ L b):=by
 have v:∀i∈b,i ∉ kept->∃x,x∈XV L (orI L kept)/\(x.idx:Int)=i:=λi hi l=>by
  have hr:=hb.sel.rg i hi;obtain⟨k,rfl⟩:=JT hr.1;have z:k<L.length:=Qk
  obtain⟨x,hx⟩:∃x,L[k]? =some x:=⟨_,JQ z⟩;have o:=jC hx;have m:=hL.idx k x hx;refine⟨x,(Zgp hL).2 ⟨o,⟨?_,?_⟩,λy hy hE hym=>?_⟩,by rw[m]⟩
  ·rw[Zex];intro j hj;rw[<-XH hx];exact hb.sel.pair hi (hb.sub j hj) (λe=>l (e▸hj))
  ·
   rcases jR 0 x.sur with e|e
   ·exfalso;have h1:=hb.le _ (hb.sel.drop (k:Int)) λj hj=>jk.2 ⟨hb.sub j hj,by
     have:j≠(k:Int):=λe=>l (e▸hj)
     simpa using this⟩
    have h2:=Zvg (L:=L) hb.sel.nodup hi;rw[Zdl hx]at h2;rcases h1 with h1|⟨h1,_⟩ <;> omega
   ·exact e
  ·
   refine fF λhc=>?_
   have d:=hL.at_ hy;have A:=(JO.1 d).1;have B:(y.idx:Int)≠(k:Int):=λe=>by
    have:y.idx=k:=Qk
    rw[this,hx]at d;injection d with d;subst d;exact hc (.inr ⟨rfl,JY _⟩)
   have p:(y.idx:Int) ∉ b:=λhm=>by
    have:=hb.sel.pair hm hi B;rw[XH d,XH hx,hym,eZ]at this;exact(hL.ok x o).mask_ne this
   have C:frB L (b.filter λj=>decide (j≠(k:Int))) y.idx=true:=by
    unfold frB;rw[dA];intro j hj;rw[jk]at hj;rw[iR,XH d,hym,<-XH hx];exact hb.sel.pair hj.1 hi (by simpa using hj.2)
   obtain⟨q1,q2⟩:=(hb.sel.drop (k:Int)).ins hL.ne A C;have h1:=hb.le _ q2 λj hj=>(Wd ltI).2 (.inr (jk.2 ⟨hb.sub j hj,by
    have:j≠(k:Int):=λe=>l (e▸hj)
    simpa using this⟩))
   have h2:=Zvg (L:=L) hb.sel.nodup hi;have h3:=Zdm (L:=L) (Zdj ltI (y.idx:Int) (b.filter λj=>decide (j≠(k:Int))));have h4:YZ L ((y.idx:Int)::b.filter λj=>decide (j≠(k:Int)))=y.sur+YZ L (b.filter λj=>decide (j≠(k:Int))):=(by simp[YZ,Zdl d]);rw[Zdl hx]at h2;rcases h1 with h1|⟨h1,h5⟩
   ·omega
   ·have hs:x.sur=y.sur:=Qk;have I:y.idx<k:=Qk;have D:Erl (VB ltI (y.idx:Int) (b.filter λj=>decide (j≠(k:Int)))) b:=by
     refine⟨y.idx,(Wd ltI).2 (.inl rfl),p,λj hj=>?_⟩;rw[Wd,jk];constructor
     ·rintro(e|e)
      ·omega
      ·exact e.1
     ·intro G;refine .inr ⟨G,?_⟩;have:j≠(k:Int):=Qk
      simpa using this
    rcases h5 with h5|h5
    ·exact p (by rw[h5];exact(Wd ltI).2 (.inl rfl))
    ·exact h5.asymm D
 obtain⟨T,u⟩:∃T,T=(XV L (orI L kept)).filter λx=>decide ((x.idx:Int)∈b):=⟨_,rfl⟩
 have f:∀x,x∈T↔x∈XV L (orI L kept)/\(x.idx:Int)∈b:=λx=>by rw[u,jk,iR]
 have q:T.Sublist (XV L (orI L kept)):=by rw[u];exact List.filter_sublist
 have g:T.Sublist L:=q.trans (Zvf _ _);have r:T.Pairwise λx y=>x.idx<y.idx:=hL.asc.sublist g
 have E:∀x∈T,(x.idx:Int) ∉ kept:=λx hx hm=>by
  have h1:=((Zgp hL).1 ((f x).1 hx).1).2.1.1;have s:=hL.at_ (g.subset hx);have h2:=Zex.1 h1 _ hm;rw[XH s,eZ]at h2;exact(hL.ok x (g.subset hx)).mask_ne h2
 have F:(kept++T.map λx=>(x.idx:Int)).Nodup:=by
  rw[Bg];refine⟨hk.nodup,?_,λa ha c hc=>?_⟩
  ·refine gD.2 (r.imp fun{a b} h=>?_);omega
  ·obtain⟨x,hx,rfl⟩:=jb.1 hc;exact λe=>E x hx (e▸ha)
 have t:b=Yj (kept++T.map λx=>(x.idx:Int)):=by
  refine Ycj hb.sel.asc (Zdk F) λi=>?_
  unfold Yj;rw[YS,jW,jb];constructor
  ·intro hi;by_cases l:i∈kept
   ·exact .inl l
   ·obtain⟨x,hx,m⟩:=v i hi l;exact .inr ⟨x,(f x).2 ⟨hx,by rw[m];exact hi⟩,m⟩
  ·rintro(h|⟨x,hx,rfl⟩)
   ·exact hb.sub i h
   ·exact((f x).1 hx).2
 refine⟨T,q,?_,λx hx=>((Zgp hL).1 ((f x).1 hx).1).2.1.1,by simpa using t,?_⟩
 ·rw[iw];intro i j hi hj H;have h1:=iw.1 r i j hi hj H;have m1:=aV hi;have m2:=aV hj;rw[<-XH (hL.at_ (g.subset m1)),<-XH (hL.at_ (g.subset m2))];exact hb.sel.pair ((f _).1 m1).2 ((f _).1 m2).2 Qk
 ·have h1:YZ L b=YZ L (kept++T.map λx=>(x.idx:Int)):=by
   conv=>lhs;rw[t]
   exact Zdm (XT ltI _)
  have h2:YZ L (T.map λx=>(x.idx:Int))=(T.map (·.sur)).sum:=by
   unfold YZ;rw[List.map_map]
   congr 1
   refine fH λx hx=>?_
   exact Zdl (hL.at_ (g.subset hx))
  rw[h1,Uv,h2];omega
def Zsi{n:Nat}{L:List Dc}(hL:Zpk n L){base:Int}{kept chosen b:List Int}(hk:Sel L kept)(hc:Sel L chosen)(hs:∀i∈kept,i∈chosen)(hb:Yrk L kept b){steps:Nat}(hst:2^L.length+1<=steps):
 (Zef ⟨n,kept,steps⟩ (XV L (orI L kept)) (orI L kept) (base+YZ L kept) [] ⟨chosen,base+YZ L chosen,false,0⟩).2=true/\
  (Zef ⟨n,kept,steps⟩ (XV L (orI L kept)) (orI L kept) (base+YZ L kept) [] ⟨chosen,base+YZ L chosen,false,0⟩).1.best=b:=by
 have d:=Zvf L (orI L kept);have a:∀x∈XV L (orI L kept),x∈L:=λx hx=>d.subset hx
 have o:2^(XV L (orI L kept)).length<=2^L.length:=jS Ql d.length_le;have p:=Zks L.length;unfold Zef;rw[jA (by simp only;omega)];obtain⟨a1,a2,a3,a4⟩:=Yig ⟨n,kept,steps⟩ (l:=XV L (orI L kept)) (t:=orI L kept) (c:=base+YZ L kept) (ad:=[]) (st:=⟨chosen,base+YZ L chosen,false,0+1⟩) (D:=λ_ _=>False)
  (λx hx=>hL.ok x (a x hx)) (hL.asc.sublist d) (λx hx=>⟨λhm=>by
   have h1:=((Zgp hL).1 hx).2.1.1;have g:=hL.at_ (a x hx);have h2:=Zex.1 h1 _ hm;rw[XH g,eZ]at h2;exact(hL.ok x (a x hx)).mask_ne h2,by simp⟩) (by simp only;omega) (λ_ _ h=>h.elim) ⟨λ_ _ h=>h.elim,λh=>by simp at h,λ_ _ _ h=>h.elim⟩
 refine⟨a1,?_⟩;have j:Now L base kept [] (orI L kept) (base+YZ L kept):=⟨by simpa using hk.nodup,by simpa using hk.rg,by simpa using hk.dj,by simp,by simp⟩;obtain⟨k1,k2,k3⟩:=Ycn hL base ⟨n,kept,steps⟩ (l:=XV L (orI L kept)) a j (st:=⟨chosen,base+YZ L chosen,false,0+1⟩) (by simp only;omega) ⟨hc,hs,rfl⟩;generalize(loopP ⟨n,kept,steps⟩ (XV L (orI L kept)) (orI L kept) (base+YZ L kept) [] ⟨chosen,base+YZ L chosen,false,0+1⟩).1=r at a2 k1 k2⊢;have hv:=Yih hL (base:=base) hk hb;have m:=a2.low _ _ (.inr hv);have e:=hb.le _ k1.sel k1.sub;have f:=k1.cost;have q:=hb.le _ hc hs;simp only at k2
 cases hp:r.proper with
 |false=>
  exfalso;have s:=a2.no hp _ _ (.inr hv);rcases e with h|⟨h,_⟩ <;> omega
 |true=>
  obtain⟨y1,y2⟩:=a2.yes hp;have k:YZ L b=YZ L r.best:=by rcases e with h|⟨h,_⟩ <;> omega
  have h3:=y2 b (.inr (by rw[f,<-k];exact hv));rcases h3 with h3|h3
  ·exact h3
  ·rcases e with h|⟨_,h|h⟩
   ·omega
   ·exact h.symm
   ·exact(h3.asymm h).elim
end Pl
namespace Pl
def posR(R:List Int)(f:Int):Nat:=(R.filter λr=>decide (r<f)).length
def Yco{R:List Int}{f:Int}{i:Nat}(hi:i<=R.length)(h1:∀(k:Nat) (x:Int),k<i->R[k]? =some x->x<f)(h2:∀(k:Nat) (x:Int),i<=k->R[k]? =some x->f<=x):posR R f=i:=by
 have e:R=R.take i++R.drop i:=(gT i R).symm;have a:(R.take i).filter (λr=>decide (r<f))=R.take i:=List.filter_eq_self.2 λx hx=>by
  obtain⟨k,hk⟩:=kS.1 hx;rw[iZ]at hk;split at hk
  ·rename_i hki;simpa using h1 k x hki hk
  ·cases hk
 have b:(R.drop i).filter (λr=>decide (r<f))=[]:=List.filter_eq_nil_iff.2 λx hx=>by
  obtain⟨k,hk⟩:=kS.1 hx;rw[BM]at hk;have:=h2 (i+k) x Qk hk;simp;omega
 unfold posR;rw[e,dN,a,b,BF,kN];omega
def Zsj{R:List Int}(h:R.Pairwise (·< ·)){k:Nat}{f:Int}(hk:R[k]? =some f):posR R f=k:=by
 have hl:=(JO.1 hk).1;refine Yco Qk (λj x hj hx=>V3 h hj hx hk) λj x hj hx=>?_
 rcases JX k j with e|e
 ·have:=V3 h e hk hx;omega
 ·obtain rfl:j=k:=Qk
  rw[hk]at hx;injection hx with hx;omega
def VL{R:List Int}(h:R.Pairwise (·< ·)){f:Int}(hf:f∈R):R[posR R f]? =some f:=by
 obtain⟨k,hk⟩:=kS.1 hf;rw[Zsj h hk];exact hk
def U8{R:List Int}(h:R.Pairwise (·< ·)){f:Int}(hf:f∈R):posR R f<R.length:=(JO.1 (VL h hf)).1
def Ycp(R:List Int)(f:Int):posR R f<=R.length:=jq _ _
def Zmo{R:List Int}(h:R.Pairwise (·< ·)){f g:Int}(hf:f∈R)(hg:g∈R)(e:posR R f=posR R g):f=g:=by
 have h1:=VL h hf;rw[e,VL h hg]at h1;injection h1 with h1;exact h1.symm
structure VM (m:Ms):Prop where
 fl0:0<=m.fl
 fl1:m.fl<=200
 pen0:0<=m.pen
 pen1:m.pen<=30
 row0:1<=m.rows.length
 row1:m.rows.length<=6
 asc:m.rows.Pairwise (·< ·)
 rb:∀r∈m.rows,0<=r/\r<m.fl
 ncol:m.cols.length<=6
 cost:∀c∈m.cols,-5<=c.cost/\c.cost<=40
 ne:∀c∈m.cols,c.ops≠[]
 nd:∀c∈m.cols,c.ops.Nodup
 sub:∀c∈m.cols,∀f∈c.ops,f∈m.rows
 ncut:m.cuts.length<=2
 cut:∀x∈m.cuts,x.rows.Pairwise (·< ·)/\(∀r∈x.rows,r∈m.rows)/\2<=x.dv/\x.dv<=x.rows.length
def ZZ{α:Type} [BEq α] [LawfulBEq α] {a b:List α}(ha:a.Nodup)(h:∀x∈a,x∈b):a.length<=b.length:=by
 induction a generalizing b with
 |nil=>simp
 |cons x a ih=>
  rw[dP]at ha;have hx:=h x (jK ..);have:=ih (b:=b.erase x) ha.2 λy hy=>by
   have c:y≠x:=λe=>ha.1 (e▸hy)
   exact(List.mem_erase_of_ne c).2 (h y (jG _ hy))
  rw[fJ hx]at this;have hp:=List.length_pos_of_mem hx;simp only[ky];omega
def VM.opl{m:Ms}(h:VM m){c:Cl}(hc:c∈m.cols):c.ops.length<=6:=JW (ZZ (h.nd c hc) (h.sub c hc)) h.row1
def dcol(m:Ms)(i:Nat)(c:Cl):Dc:=⟨i,WO (c.ops.map (posR m.rows)),c.ops.map (posR m.rows),c.cost - m.pen*c.ops.length⟩
def dcs(m:Ms):List Dc:=m.cols.mapIdx (dcol m)
def Zbh{m:Ms}{i:Nat}{c:Cl}(h:m.cols[i]? =some c):(dcs m)[i]? =some (dcol m i c):=by simp[dcs,h]
def YD(m:Ms):(dcs m).length=m.cols.length:=by simp[dcs]
def Zid{m:Ms}{i:Nat}{x:Dc}(h:(dcs m)[i]? =some x):∃c,m.cols[i]? =some c/\x=dcol m i c:=by
 simp only[dcs,List.getElem?_mapIdx,Option.map_eq_some_iff]at h;obtain⟨c,h1,h2⟩:=h;exact⟨c,h1,h2.symm⟩
def Zpl{α β:Type}{f:α->β}{l:List α}(h:l.Nodup)(hi:∀x∈l,∀y∈l,f x=f y->x=y):(l.map f).Nodup:=by
 induction l with
 |nil=>simp
 |cons x l ih=>
  rw[dP]at h;rw[kM,dP];refine⟨λhm=>?_,ih h.2 λa ha b hb=>hi a (jG _ ha) b (jG _ hb)⟩;obtain⟨y,hy,e⟩:=jb.1 hm;have:=hi y (jG _ hy) x (jK ..) e;exact h.1 (this▸hy)
def Zsk{m:Ms}(h:VM m){i:Nat}{c:Cl}(hc:c∈m.cols):Yfl m.rows.length (dcol m i c):=by
 refine⟨rfl,λe=>h.ne c hc (by simpa[dcol]using e),?_,λr hr=>?_⟩
 ·exact Zpl (h.nd c hc) λx hx y hy e=>Zmo h.asc (h.sub c hc x hx) (h.sub c hc y hy) e
 ·obtain⟨f,hf,rfl⟩:=jb.1 hr;exact U8 h.asc (h.sub c hc f hf)
def UF{m:Ms}(h:VM m):Zpk m.rows.length (dcs m):=by
 refine⟨λi x hx=>?_,λx hx=>?_,by rw[YD];have:=h.ncol;omega⟩
 ·obtain⟨c,_,rfl⟩:=Zid hx;rfl
 ·obtain⟨i,hi⟩:=kS.1 hx;obtain⟨c,hc,rfl⟩:=Zid hi;exact Zsk h (jC hc)
def Zpm{m:Ms}(h:VM m){i j:Nat}{c d:Cl}(hc:c∈m.cols)(hd:d∈m.cols):(dcol m i c).mask &&& (dcol m j d).mask=0↔∀f∈c.ops,f ∉ d.ops:=by
 show WO _ &&& WO _=0↔_;rw[Zdi];constructor
 ·intro g f hf a;exact g (posR m.rows f) (jb.2 ⟨f,hf,rfl⟩) (jb.2 ⟨f,a,rfl⟩)
 ·intro g r hr b;obtain⟨f,hf,rfl⟩:=jb.1 hr;obtain⟨f',a,e⟩:=jb.1 b;have:=Zmo h.asc (h.sub d hd f' a) (h.sub c hc f hf) e;subst this;exact g f' hf a
def Zie{m:Ms}(h:VM m){i:Nat}{c:Cl}(hc:c∈m.cols):(dcol m i c).mask<64:=by
 have:=Zvd (l:=(dcol m i c).rows) (n:=6) λr hr=>je ((Zsk h (i:=i) hc).rg r hr) h.row1
 exact this
def Ycq{m:Ms}(h:VM m){i:Nat}{c:Cl}(hc:c∈m.cols): -185<=(dcol m i c).sur/\(dcol m i c).sur<=40:=by
 have h1:=h.cost c hc;have h2:=h.opl hc;have h3:=h.pen0;have h4:=h.pen1;have a:=jY h3 (show(0:Int)<=c.ops.length by omega);have b:=kK h4 (show(c.ops.length:Int)<=6 by omega) Qk Qk;show -185<=c.cost - m.pen*c.ops.length/\c.cost - m.pen*c.ops.length<=40;omega
end Pl
namespace Pl
def pcf(s:Nat):Nat:=((List.range 6).filter λr=>s.testBit r).length
def pcf_sub:∀s,s<64->∀a,a<64->a &&& s=a->pcf (s - a)+pcf a=pcf s/\s - a<64/\∀r,r<6->(s - a).testBit r=(s.testBit r && !a.testBit r):=by decide+kernel
def pcf_pow:∀r,r<6->pcf (2^r)=1:=by decide+kernel
def pcf_full:∀n,n<=6->pcf (2^n - 1)=n:=by decide+kernel
def Zif{a r:Nat}(ha:a<64)(hr:6<=r):a.testBit r=false:=Nat.testBit_lt_two_pow (je ha (by rw[show 64=2^6 by rfl];exact jS Ql hr))
def U9{a s:Nat}:a &&& s=a↔∀r,a.testBit r=true->s.testBit r=true:=by
 constructor
 ·intro h r hr;rw[<-h,BG,jU]at hr;exact hr.2
 ·intro h;refine bS λr=>?_
  rw[BG]
  cases hc:a.testBit r with
  |false=>rfl
  |true=>rw[h r hc];rfl
def Zmp{a b s:Nat}(hs:s<64)(ha:a<64)(hb:b<64)(h:a &&& s=a):b &&& (s - a)=b↔b &&& s=b/\b &&& a=0:=by
 obtain⟨_,h2,h3⟩:=pcf_sub s hs a ha h;rw[U9,U9,YR];constructor
 ·intro g;refine⟨λr hr=>?_,λr ⟨h1,h1'⟩=>?_⟩
  ·have c:r<6:=aW λe=>by rw[Zif hb e]at hr;cases hr
   have:=g r hr;rw[h3 r c,jU]at this;exact this.1
  ·have c:r<6:=aW λe=>by rw[Zif hb e]at h1;cases h1
   have:=g r h1;rw[h3 r c,h1']at this;simp at this
 ·rintro⟨g1,g2⟩ r hr;have c:r<6:=aW λe=>by rw[Zif hb e]at hr;cases hr
  rw[h3 r c,g1 r hr]
  cases hc:a.testBit r with
  |false=>rfl
  |true=>exact absurd ⟨hr,hc⟩ (g2 r)
def Ylo{s r:Nat}(h:s.testBit r=true):2^r &&& s=2^r:=U9.2 λq hq=>by
 rw[iy]at hq
 have:r=q:=by simpa using hq
 exact this▸h
def Zpn{b r:Nat}:b &&& 2^r=0↔b.testBit r=false:=by
 rw[YR];constructor
 ·intro h
  cases hc:b.testBit r with
  |false=>rfl
  |true=>exact absurd ⟨hc,by rw[iy];simp⟩ (h r)
 ·rintro h q ⟨h1,h2⟩;rw[iy]at h2;have:r=q:=by simpa using h2
  subst this;rw[h]at h1;cases h1
def Yii{n:Nat}{x:Dc}(h:Yfl n x)(hn:n<=6):pcf x.mask=x.rows.length:=by
 unfold pcf;have e:(List.range 6).filter (λr=>x.mask.testBit r)=(List.range 6).filter (λr=>decide (r∈x.rows)):=List.filter_congr λr _=>by rw[h.msk,X9]
 rw[e];refine Nat.le_antisymm (ZZ (List.nodup_range.filter _) λr hr=>by simpa using(jk.1 hr).2) (ZZ h.nd λr hr=>jk.2 ⟨iT.2 (je (h.rg r hr) hn),by simpa using hr⟩)
def OkT(L:List Dc)(s:Nat)(T:List Dc):Prop:=(∀x∈T,x∈L/\x.mask &&& s=x.mask)/\T.Pairwise λx y=>x.mask &&& y.mask=0
def Zjm(T:List Dc):Int:=(T.map (·.sur)).sum
def Lst(L:List Dc)(P:Int)(s:Nat)(z:Int):Prop:=(∃T,OkT L s T/\z=P*pcf s+Zjm T)/\∀T,OkT L s T->z<=P*pcf s+Zjm T
def Yij{L:List Dc}{n:Nat}(hL:Zpk n L)(P:Int):Lst L P 0 0:=by
 have h0:pcf 0=0:=Ql
 rw[Lst,h0];refine⟨⟨[],⟨by simp,by simp⟩,by simp[Zjm]⟩,λT hT=>?_⟩
 cases T with
 |nil=>simp[Zjm]
 |cons x T=>
  have h1:=hT.1 x (jK ..);have h2:=(hL.ok x h1.1).mask_ne;have h3:x.mask=0:=by rw[<-h1.2,Nat.and_zero]
  exact absurd h3 h2
structure Zsl (L:List Dc) (P:Int) (s low:Nat) (z1:Int) (V:Nat->Int) (j:Nat) (z:Int):Prop where
 le0:z<=P+z1
 le:∀(i:Nat) (x:Dc),i<j->L[i]? =some x->x.mask.testBit low=true->x.mask &&& s=x.mask->z<=x.sur+P*pcf x.mask+V (s - x.mask)
 is:z=P+z1\/∃(i:Nat) (x:Dc),i<j/\L[i]? =some x/\x.mask.testBit low=true/\x.mask &&& s=x.mask/\z=x.sur+P*pcf x.mask+V (s - x.mask)
def Zsl.start(L:List Dc)(P:Int)(s low:Nat)(z1:Int)(V:Nat->Int):Zsl L P s low z1 V 0 (P+z1):=⟨ib _,λi x h=>Qk,.inl rfl⟩
def Zsl.skip{L:List Dc}{P:Int}{s low:Nat}{z1:Int}{V:Nat->Int}{j:Nat}{z:Int}(h:Zsl L P s low z1 V j z){x:Dc}(hx:L[j]? =some x)(hn:¬(x.mask.testBit low=true/\x.mask &&& s=x.mask)):Zsl L P s low z1 V (j+1) z:=by
 refine⟨h.le0,λi y hi hy h1 h2=>?_,?_⟩
 ·rcases JX i j with e|e
  ·exact h.le i y e hy h1 h2
  ·obtain rfl:i=j:=Qk
   rw[hx]at hy;injection hy with hy;subst hy;exact absurd ⟨h1,h2⟩ hn
 ·rcases h.is with e|⟨i,y,hi,h2⟩
  ·exact .inl e
  ·exact .inr ⟨i,y,Qk,h2⟩
def Zsl.take{L:List Dc}{P:Int}{s low:Nat}{z1:Int}{V:Nat->Int}{j:Nat}{z:Int}(h:Zsl L P s low z1 V j z){x:Dc}(hx:L[j]? =some x)(h1:x.mask.testBit low=true)(h2:x.mask &&& s=x.mask):Zsl L P s low z1 V (j+1) (min z (x.sur+P*pcf x.mask+V (s - x.mask))):=by
 refine⟨by have:=h.le0;omega,λi y hi hy g1 g2=>?_,?_⟩
 ·rcases JX i j with e|e
  ·have:=h.le i y e hy g1 g2;omega
  ·obtain rfl:i=j:=Qk
   rw[hx]at hy;injection hy with hy;subst hy;omega
 ·rcases Int.le_total z (x.sur+P*pcf x.mask+V (s - x.mask))with e|e
  ·rw[Int.min_eq_left e];rcases h.is with e|⟨i,y,hi,h2⟩
   ·exact .inl e
   ·exact .inr ⟨i,y,Qk,h2⟩
  ·rw[Int.min_eq_right e];exact .inr ⟨j,x,Qk,hx,h1,h2,rfl⟩
def Zsl.done{L:List Dc}{n:Nat}(hL:Zpk n L)(hm:∀x∈L,x.mask<64){P:Int}{s low:Nat}{V:Nat->Int}{z:Int}(hs:s<64)(hlow:s.testBit low=true)(hV:∀t,t<s->Lst L P t (V t))(h:Zsl L P s low (V (s - 2^low)) V L.length z):Lst L P s z:=by
 have k:low<6:=aW λe=>by rw[Zif hs e]at hlow;cases hlow
 have f:2^low<64:=by rw[show 64=2^6 by rfl];exact vK Ql k
 have g:=Ylo hlow;obtain⟨c1,_,_⟩:=pcf_sub s hs _ f g;rw[pcf_pow low k]at c1;have v:0<2^low:=Nat.two_pow_pos _;have C:2^low<=s:=by rw[<-g];exact aX
 obtain⟨v1,v2⟩:=hV (s - 2^low) Qk;have hc:P* (pcf s:Int)=P+P*pcf (s - 2^low):=by rw[<-c1];push_cast;rw[gI];omega
 have hx:∀x∈L,x.mask &&& s=x.mask->s - x.mask<s/\P* (pcf s:Int)=P*pcf x.mask+P*pcf (s - x.mask):=λx c d=>by
  have h1:=(hL.ok x c).mask_ne;have h2:x.mask<=s:=by rw[<-d];exact aX
  have h3:=(pcf_sub s hs _ (hm x c) d).1;refine⟨Qk,?_⟩;rw[<-h3];push_cast;rw[gI];omega
 constructor
 ·rcases h.is with e|⟨i,x,_,hxi,g1,g2,e⟩
  ·obtain⟨T,hT,e2⟩:=v1;refine⟨T,⟨λx hx=>⟨(hT.1 x hx).1,((Zmp hs f (hm x (hT.1 x hx).1) g).1 (hT.1 x hx).2).1⟩,hT.2⟩,?_⟩;omega
  ·have c:=jC hxi;obtain⟨q1,q2⟩:=hx x c g2;obtain⟨T,hT,e2⟩:=(hV _ q1).1;have l:=λy hy=>(Zmp hs (hm x c) (hm y (hT.1 y hy).1) g2).1 (hT.1 y hy).2
   refine⟨x::T,⟨λy hy=>?_,jT.2 ⟨λy hy=>by rw[vk];exact(l y hy).2,hT.2⟩⟩,?_⟩
   ·rcases jw.1 hy with rfl|hy
    ·exact⟨c,g2⟩
    ·exact⟨(hT.1 y hy).1,(l y hy).1⟩
   ·have:Zjm (x::T)=x.sur+Zjm T:=by simp[Zjm]
    omega
 ·intro T hT;by_cases hb:∃x∈T,x.mask.testBit low=true
  ·obtain⟨x,o,r⟩:=hb;obtain⟨c,d⟩:=hT.1 x o;obtain⟨q1,q2⟩:=hx x c d;have m:=hL.at_ c;have D:=h.le _ x (JO.1 m).1 m r d;obtain⟨A,B,rfl⟩:=List.append_of_mem o;have hp:=hT.2;rw[kg,jT]at hp;have j:OkT L (s - x.mask) (A++B):=by
    refine⟨λy hy=>?_,?_⟩
    ·have q:y∈A++x::B:=by
      rcases jW.1 hy with h|h
      ·exact cO _ h
      ·exact List.mem_append_right _ (jG _ h)
     obtain⟨p,u⟩:=hT.1 y q;refine⟨p,(Zmp hs (hm x c) (hm y p) d).2 ⟨u,?_⟩⟩;rcases jW.1 hy with h|h
     ·exact hp.2.2 y h x (jK ..)
     ·rw[vk];exact hp.2.1.1 y h
    ·rw[kg];exact⟨hp.1,hp.2.1.2,λa ha b hb=>hp.2.2 a ha b (jG _ hb)⟩
   have h2:=(hV _ q1).2 _ j;have h3:Zjm (A++x::B)=x.sur+Zjm (A++B):=(by simp[Zjm];omega);omega
  ·have j:OkT L (s - 2^low) T:=⟨λx hx=>⟨(hT.1 x hx).1,(Zmp hs f (hm x (hT.1 x hx).1) g).2 ⟨(hT.1 x hx).2,Zpn.2 (by
    cases hc:x.mask.testBit low with
    |false=>rfl
    |true=>exact absurd ⟨x,hx,hc⟩ hb)⟩⟩,hT.2⟩
   have h1:=v2 T j;have h2:=h.le0;omega
def Yik{L:List Dc}{n:Nat}(hL:Zpk n L)(hn:n<=6){P z:Int}{b:List Int}(hb:Yrk L [] b)(h:Lst L P (2^n - 1) z):z=P*n+YZ L b:=by
 obtain⟨h1,h2⟩:=h;rw[pcf_full n hn]at h1 h2;have a:=λ(x:Dc) (hx:x∈L)=>hL.at_ hx
 refine Int.le_antisymm ?_ ?_
 ·have hc:∀i∈b,∃x,L[i.toNat]? =some x:=λi hi=>by
   have:=hb.sel.rg i hi;exact⟨_,JQ (show i.toNat<L.length by omega)⟩
  have o:∀(s:List Int),(∀i∈s,i∈b)->s.Pairwise (·< ·)->∃T,OkT L (2^n - 1) T/\Zjm T=YZ L s/\∀x∈T,(x.idx:Int)∈s:=by
   intro s
   induction s with
   |nil=>intro _ _;exact⟨[],⟨by simp,by simp⟩,by simp[Zjm,YZ],by simp⟩
   |cons i s ih=>
    intro hs hp;rw[jT]at hp;obtain⟨T,hT,e,m⟩:=ih (λj hj=>hs j (jG _ hj)) hp.2;have c:=hs i (jK ..);obtain⟨x,hx⟩:=hc i c;have p:=(hb.sel.rg i c).1;obtain⟨k,rfl⟩:=JT p;simp only[JP]at hx;have d:=jC hx;have q:=hL.idx k x hx;refine⟨x::T,⟨λy hy=>?_,jT.2 ⟨λy hy=>?_,hT.2⟩⟩,?_,λy hy=>?_⟩
    ·rcases jw.1 hy with rfl|hy
     ·refine⟨d,?_⟩;rw[iF];have:=Zvd (l:=y.rows) (n:=n) λr hr=>(hL.ok y d).rg r hr
      rw[<- (hL.ok y d).msk]at this;exact ig this
     ·exact hT.1 y hy
    ·have t:=(hT.1 y hy).1;have f:=m y hy;have:=hp.1 _ f;have hq:=hb.sel.pair c (hs _ (jG _ f)) Qk;rw[XH hx,XH (a y t)]at hq;exact hq
    ·have e1:Zjm (x::T)=x.sur+Zjm T:=(by simp[Zjm]);have e2:YZ L ((k:Int)::s)=x.sur+YZ L s:=(by simp[YZ,Zdl hx]);rw[e1,e2,e]
    ·rcases jw.1 hy with rfl|hy
     ·rw[q];exact jK ..
     ·exact jG _ (m y hy)
  obtain⟨T,hT,e,_⟩:=o b (λi hi=>hi) hb.sel.asc;have:=h2 T hT;omega
 ·obtain⟨T,hT,e⟩:=h1;have u:∀x∈T,x.mask≠0:=λx hx=>(hL.ok x (hT.1 x hx).1).mask_ne
  have v:(T.map λx=>(x.idx:Int)).Nodup:=by
   rw[vS,gD];refine hT.2.imp_of_mem fun{x y} hx hy hxy e=>?_
   have h3:=a x (hT.1 x hx).1;have h4:=a y (hT.1 y hy).1;rw[show x.idx=y.idx by omega,h4]at h3;injection h3 with h3;rw[h3,eZ]at hxy;exact u x hx hxy
  have g:Sel L (Yj (T.map λx=>(x.idx:Int))):=by
   refine⟨λi hi=>?_,Zdk v,?_⟩
   ·obtain⟨x,hx,rfl⟩:=jb.1 ((YS ltI).1 hi);have:=(JO.1 (a x (hT.1 x hx).1)).1;omega
   ·refine Dj.perm ?_ (XT ltI _).symm;unfold Dj;rw[gD];refine hT.2.imp_of_mem fun{x y} hx hy hxy=>?_
    rw[XH (a x (hT.1 x hx).1),XH (a y (hT.1 y hy).1)];exact hxy
  have h5:=hb.le _ g (by simp);have h6:YZ L (Yj (T.map λx=>(x.idx:Int)))=Zjm T:=by
   have h7:=Zdm (L:=L) (XT ltI (T.map λx=>(x.idx:Int)));show YZ L (YC ltI _)=_;rw[h7];unfold YZ Zjm;rw[List.map_map]
   congr 1
   exact fH λx hx=>Zdl (a x (hT.1 x hx).1)
  rcases h5 with h5|⟨h5,_⟩ <;> omega
end Pl
end Go.Proofs.YtobadipflggkiaaGreat
