/- Lemmas of the claim; no condition. -/
import Derived.Test.YtobadipflggkiaaGreatW15
set_option linter.all false
set_option maxRecDepth 100000
set_option maxHeartbeats 40000000
namespace Go.Proofs.YtobadipflggkiaaGreat
open Go.RowKit
open Pl Tryz
attribute [local go_sem ↓] Go.wp_at_zero Go.wp_at_succ
def Yy.othersF{base:Nat}{w w':World}{g:Option Nat}{v:Value}{fs:List RF}(h:Yy base w v fs)(ho:ZA g w w')(hk:Zf 49 w w')(hne:∀b,v.ownBlock=some b->some b≠g):Yy base w' v fs:=by
 obtain⟨cs,h1,h2⟩:=h;refine⟨cs,⟨h1.1,?_⟩,h2.keep (hk.keep Ql)⟩;rcases h1.2 with hn|⟨b,cap,cur,rfl,hb',hgg,rest⟩
 ·exact .inl hn
 ·exact .inr ⟨b,cap,cur,rfl,hb',(ho.2 b (ZU hgg) (hne b rfl)).trans hgg,rest⟩
def Zaf(ty:TypeId)(W:World)(base:Nat)(v:Value)(fs:List RF)(hown:Yy base W v fs)(b b':Bool)(A A':Option Addr)(n c n' c':Nat)(f:RF)(hf:Zx W (.agg #[.bool b,.slice A n c,.bool b',.slice A' n' c']) f)(hn:fs.length+1<=1099511627776)(hbase:base<=W.heap.size):
 ∃v' w',(Builtin.append_ #[34,34] ty #[v,.slice (some ⟨W.heap.size,0,none⟩) 1 1]).run prog (W.alloc (.cells #[.bool b,.slice A n c,.bool b',.slice A' n' c'] 49))= .ok v' w'/\Yy base w' v' (fs++[f])/\Zf 49 W w'/\Below base W w'/\ZA v.ownBlock W w'/\(v'.ownBlock=v.ownBlock\/∀g,v'.ownBlock=some g->W.heap.size<=g):=by
 obtain⟨cs,h1,h2⟩:=hown;obtain⟨i0,hi,a,d,e⟩:=kL info_frac;obtain⟨v',w',hr,q1,q2,q3,q4,q5⟩:=Xj ty 34 49 i0 _ 4 64 underlying34 hi a d e rfl Ql W base v fs.length cs [.bool b,.slice A n c,.bool b',.slice A' n' c'] h1 rfl Zoq (by unfold maxLen;omega) Qk hbase;have hk:=q2.keep Ql;exact⟨v',w',hr,⟨_,by simpa using q1,(h2.keep hk).snoc (hf.keep hk)⟩,q2,q3,q4,q5⟩
def Zji(ty:TypeId)(W:World)(base:Nat)(v:Value)(cols:List (List En))(hown:Ym base W v cols)(A:Option Addr)(n c:Nat)(es:List En)(hf:Ur W (.slice A n c) es)(hn:cols.length+1<=1099511627776)(hbase:base<=W.heap.size):
 ∃v' w',(Builtin.append_ #[35,35] ty #[v,.slice (some ⟨W.heap.size,0,none⟩) 1 1]).run prog (W.alloc (.cells #[.slice A n c] 88))= .ok v' w'/\Ym base w' v' (cols++[es])/\Zf 88 W w'/\Below base W w':=by
 obtain⟨cs,h1,h2⟩:=hown;obtain⟨i0,hi,b,f,g⟩:=kL info_vector;obtain⟨v',w',hr,q1,q2,q3,q4,q5⟩:=Xj ty 35 88 i0 _ 1 24 underlying35 hi b f g rfl Ql W base v cols.length cs [.slice A n c] h1 rfl (λu hu=>by simp at hu;subst hu;rfl) (by unfold maxLen;omega) Qk hbase;refine⟨v',w',hr,⟨_,by simpa using q1,λk d hd=>?_⟩,q2,q3⟩;have h:cs.length=cols.length:=by simpa using h1.1
 rcases JX k cols.length with hk|hk
 ·rw[jI hk]at hd;obtain⟨u,g1,g2⟩:=h2 k d hd;exact⟨u,by rw[jI Qk];exact g1,g2.but q2 Ql Ql⟩
 ·rw[jH hk]at hd;have a:k - cols.length=0:=by
   rcases JV (k - cols.length)with e|e
   ·exact e
   ·rw[JU (by simp;omega)]at hd;cases hd
  rw[a]at hd;simp at hd;subst hd;refine⟨.slice A n c,?_,hf.but q2 Ql Ql⟩;rw[jH Qk,show k - cs.length=0 by omega];rfl
structure PrI (base gp:Nat) (w:World) (s0 s1 s2:Value) (p:LPd):Prop where
 bk:Bk w gp 37 [s0,s1,s2]
 cost:Yy base w s0 p.cost
 cols:Ym base w s1 p.cols
 right:Yy base w s2 p.right
 sep:∀b,s2.ownBlock=some b->some b≠s0.ownBlock
def PrI.later{base gp:Nat}{w w':World}{s0 s1 s2:Value}{p:LPd}(h:PrI base gp w s0 s1 s2 p)(hb:Below w.heap.size w w'):PrI base gp w' s0 s1 s2 p:=⟨h.bk.later hb,h.cost.below hb,h.cols.below hb,h.right.below hb,h.sep⟩
def PrI.addR{base gp:Nat}{W:World}{s0 s1 s2:Value}{p:LPd}(h:PrI base gp W s0 s1 s2 p)(ty:TypeId)(b b':Bool)(A A':Option Addr)(n c n' c':Nat)(f:RF)(hf:Zx W (.agg #[.bool b,.slice A n c,.bool b',.slice A' n' c']) f)(hn:p.right.length+1<=1000)(hbase:base<=W.heap.size)(hgp:base<=gp):
 ∃v' w',(Builtin.append_ #[34,34] ty #[s2,.slice (some ⟨W.heap.size,0,none⟩) 1 1]).run prog (W.alloc (.cells #[.bool b,.slice A n c,.bool b',.slice A' n' c'] 49))= .ok v' w'/\Zf 49 W w'/\Bk w' gp 37 [s0,s1,s2]/\
  PrI base gp (w'.setCell ⟨gp,2,none⟩ v') s0 s1 v' ⟨p.cost,p.cols,p.right++[f]⟩/\Below base W (w'.setCell ⟨gp,2,none⟩ v')/\∃A' n' c',v'= .slice A' n' c':=by
 obtain⟨v',w',hr,q1,q2,q3,q4,q5⟩:=Zaf ty W base s2 p.right h.right b b' A A' n c n' c' f hf Qk hbase;have hB:=q2.bk h.bk Ql;have hk:=Zf.setCell hB 2 v';have hc:=(h.cost.othersF q4 q2 λx hx e=>h.sep x e.symm hx.symm).but hk Ql Ql;refine⟨v',w',hr,q2,hB,⟨by have:=hB.set_ 2 v';simpa using this,hc,(h.cols.but q2 Ql Ql Ql).but hk Ql Ql Ql,q1.but hk Ql Ql,λx hx e=>?_⟩,q3.setCell (p:=⟨gp,2,none⟩) hgp v',q1.sliceN⟩;rcases q5 with g|g
 ·exact h.sep x (by rw[<-g];exact hx) e
 ·have h1:=g x hx;have h2:=h.cost.own_lt x e.symm;omega
def PrI.addC{base gp:Nat}{W:World}{s0 s1 s2:Value}{p:LPd}(h:PrI base gp W s0 s1 s2 p)(ty:TypeId)(b b':Bool)(A A':Option Addr)(n c n' c':Nat)(f:RF)(hf:Zx W (.agg #[.bool b,.slice A n c,.bool b',.slice A' n' c']) f)(hn:p.cost.length+1<=1000)(hbase:base<=W.heap.size)(hgp:base<=gp):
 ∃v' w',(Builtin.append_ #[34,34] ty #[s0,.slice (some ⟨W.heap.size,0,none⟩) 1 1]).run prog (W.alloc (.cells #[.bool b,.slice A n c,.bool b',.slice A' n' c'] 49))= .ok v' w'/\Zf 49 W w'/\Bk w' gp 37 [s0,s1,s2]/\
  PrI base gp (w'.setCell ⟨gp,0,none⟩ v') v' s1 s2 ⟨p.cost++[f],p.cols,p.right⟩/\Below base W (w'.setCell ⟨gp,0,none⟩ v')/\∃A' n' c',v'= .slice A' n' c':=by
 obtain⟨v',w',hr,q1,q2,q3,q4,q5⟩:=Zaf ty W base s0 p.cost h.cost b b' A A' n c n' c' f hf Qk hbase;have hB:=q2.bk h.bk Ql;have hk:=Zf.setCell hB 0 v';have hc:=(h.right.othersF q4 q2 h.sep).but hk Ql Ql;refine⟨v',w',hr,q2,hB,⟨by have:=hB.set_ 0 v';simpa using this,q1.but hk Ql Ql,(h.cols.but q2 Ql Ql Ql).but hk Ql Ql Ql,hc,λx hx e=>?_⟩,q3.setCell (p:=⟨gp,0,none⟩) hgp v',q1.sliceN⟩;rcases q5 with g|g
 ·exact h.sep x hx (by rw[<-g];exact e)
 ·have h1:=g x e.symm;have h2:=h.right.own_lt x hx;omega
def PrI.addV{base gp:Nat}{W:World}{s0 s1 s2:Value}{p:LPd}(h:PrI base gp W s0 s1 s2 p)(ty:TypeId)(A:Option Addr)(n c:Nat)(es:List En)(hf:Ur W (.slice A n c) es)(hn:p.cols.length+1<=1000)(hbase:base<=W.heap.size)(hgp:base<=gp):
 ∃v' w',(Builtin.append_ #[35,35] ty #[s1,.slice (some ⟨W.heap.size,0,none⟩) 1 1]).run prog (W.alloc (.cells #[.slice A n c] 88))= .ok v' w'/\Zf 88 W w'/\Bk w' gp 37 [s0,s1,s2]/\
  PrI base gp (w'.setCell ⟨gp,1,none⟩ v') s0 v' s2 ⟨p.cost,p.cols++[es],p.right⟩/\Below base W (w'.setCell ⟨gp,1,none⟩ v')/\∃A' n' c',v'= .slice A' n' c':=by
 obtain⟨v',w',hr,q1,q2,q3⟩:=Zji ty W base s1 p.cols h.cols A n c es hf Qk hbase;have hB:=q2.bk h.bk Ql;have hk:=Zf.setCell hB 1 v';exact⟨v',w',hr,q2,hB,⟨by have:=hB.set_ 1 v';simpa using this,(h.cost.but q2 Ql Ql).but hk Ql Ql,q1.but hk Ql Ql Ql,(h.right.but q2 Ql Ql).but hk Ql Ql,h.sep⟩,q3.setCell (p:=⟨gp,1,none⟩) hgp v',q1.sliceN⟩
def Xx(z:Int)(w:World)(h0: -9223372036854775808<=z)(h1:z<=9223372036854775807):
 Calls prog 28 #[.int .i64 z] w λe w'=>∃v' f,e= .returned v'/\Zx w' v' f/\f=kZ z/\Below w.heap.size w w':=by
 obtain⟨W,hW,hR,g⟩:=Xp w (.bool false) (.slice none 0 0) (.bool false) (.slice none 0 0);go_enter func28,ntmps28;go_wp2_with fail;clear hW;refine(VI z 1 _ h0 h1 Qk Qk).mono ?_;rintro _ w1 ⟨v1,hv,e1,b⟩;rw[jA Qk]at hv e1;subst hv;rw[Zbp]at e1;obtain⟨B,m,d,B',m',d',rfl,_,_⟩:=id e1;obtain⟨W2,h,hY,c⟩:=Xp w1 (.bool (canF (z:Rat)).num.neg) (.slice B m d) (.bool (canF (z:Rat)).den.neg) (.slice B' m' d');have a:=hR.later (Za b c b.size);obtain⟨c0,c1,c2,c3⟩:=a.four;obtain⟨f0,f1,f2,f3⟩:=a.fourF;obtain⟨x0,x1,x2,x3⟩:=hY.four;go_wp2;clear h;refine Zq results28 underlying49 Qm rfl (a.set4 _ _ _ _) rfl ?_;exact Vx (P:=λf=>f=canF (z:Rat)) a (e1.below c) (Za g (Za b c b.size) g.size) (JY _) rfl
def Pl.coef_take{x:Ct}{l:List Int}{k:Nat}{y:Int}(h:l[k]? =some y):((l.take (k+1)).filter λf=>decide (f∈x.rows)).length=((l.take k).filter λf=>decide (f∈x.rows)).length+if y∈x.rows then 1 else 0:=by
 rw[jP,h,dN,kQ];by_cases e:y∈x.rows <;> simp[e]
def Pl.run_makeMapH{P:Program}{t key elem:TypeId}(h:P.underlying t=some (.map key elem))(k:IntKind)(z:Int)(w:World):(Instr.makeMap t (some (.int k z))).run P w= .ok (.map (some w.heap.size)) (w.alloc (.map #[] 0)):=by
 simp[Instr.makeMap,BU h,asInt,asIntOf,Result.andThen]
def Yki(A:Option Addr)(n c:Nat)(x:Ct)(v2:Value)(l:List Int)(w:World)(h1:Z6 w (.slice A n c) x.rows)(h2:Z6 w v2 l)(hd:2<=x.dv)(hr:x.rows.length<=6)(hl:l.length<=6):
 Calls prog 93 #[.agg #[.slice A n c,.int .i64 x.dv],v2] w λe w'=>e= .returned (.int .i64 (coefP x l))/\Below w.heap.size w w':=by
 obtain⟨s1,s2,s3⟩:=h1.lenC;obtain⟨A2,c2,rfl,F,L⟩:=h2.shape;obtain⟨q,hq⟩:∃q,q=l.length:=⟨_,rfl⟩;rw[<-hq]at h2 F hl⊢;obtain⟨W,hW,hX,o⟩:=Zfh w (.slice A n c) (.int .i64 x.dv);have H1:=JZ h1;have H2:=JZ h2;have HN:=JZ (And.intro s1 hq);have K:n<=6:=Qk
 have v:Hid (coefP x l=(((l.filter λf=>decide (f∈x.rows)).length:Int)/x.dv)):=JZ rfl;rw[v.out];clear h1 h2 s1 hq hr;generalize I:x.dv=dv at *;clear I;have x0:=hX.cellAt 0 rfl;have x1:=hX.cellAt 1 rfl;have B:=run_makeMapH (P:=prog) underlying112 .i64 (n:Int);have s:=XA.made W;have g:=Ze W (.map #[] 0);have C:=Zi g x0;go_enter func93,ntmps93;go_wp2;clear hW B C x0 x1;have h:=Za o g o.size;have D:w.heap.size<W.heap.size:=hX.lt;clear o;generalize W.alloc (.map #[] 0)=W1 at *
 go_loopw [18] (λy wr=>∃k:Nat,k<=n/\y= .int .i64 k/\Below w.heap.size w wr/\Below W.heap.size W wr/\XA wr W.heap.size k (x.rows.take k).reverse) (λy _=>n - (intOf y).toNat)
 case atStart=>exact⟨0,Qk,rfl,h,g,by simpa using s⟩
 case round=>
  clear s h g;obtain⟨k,hk,rfl,hb,b,a⟩:=hrel;rcases JX k n with hkl|hkl
  ·obtain⟨b3,o3,y,G,p,hy,y0,y1⟩:=H1.out.elem hb hkl;subst G;obtain⟨w7,M,i,r⟩:=a.put Qk y y0 y1;have E:=hb.grown r hb.size (λx hx=>by injection hx with hx;omega);have t:=b.grown r (by have:=b.size;omega) (λx hx=>by injection hx with hx;omega);have d:Hid (XA w7 W.heap.size (k+1) (x.rows.take (k+1)).reverse):=JZ (by rw[jP,hy];simpa using i);clear i r hy a hb b;go_wp2_with fail;go_roundw
   case rel=>exact⟨k+1,Qk,by go_num,E,t,d.out⟩
   case measure=>exact Qn
  ·obtain rfl:n=k:=Qk
   have d:Hid (XA wr W.heap.size n x.rows.reverse):=JZ (by rw[kC (by have:=HN.out;omega)]at a;exact a);clear a;go_wp2;generalize J:wr=wo at *;clear J
   go_loopw [8,27] (λz y wr=>∃j c:Nat,j<=q/\c<=j/\y= .int .i64 j/\z= .int .i64 c/\Below w.heap.size w wr/\Below W.heap.size W wr/\XA wr W.heap.size n x.rows.reverse/\Hid (((l.take j).filter λf=>decide (f∈x.rows)).length=c)) (λ_ y _=>q - (intOf y).toNat)
   case atStart=>exact⟨0,0,Qk,Qk,rfl,rfl,hb,b,d.out,JZ (by simp)⟩
   case round=>
    clear d hb b;obtain⟨j,c3,hj,N,rfl,rfl,hb,b,a,HC⟩:=hrel;rcases JX j q with hjl|hjl
    ·obtain⟨b4,o4,y,H,p,hy,y0,y1⟩:=H2.out.elem hb hjl;subst H;have u:=a.look y y0 y1;have HT:=JZ (coef_take (x:=x) hy);have d:=JZ a;clear hy a;by_cases hm:y∈x.rows
     ·rw[kE (dF.2 hm)]at u;have m:Hid (((l.take (j+1)).filter λf=>decide (f∈x.rows)).length=c3+1):=JZ (by rw[HT.out,jB hm,HC.out]);clear hm HT;go_wp2_with fail;go_roundw
      case rel=>exact⟨j+1,c3+1,Qk,Qk,by go_num,by go_num,hb,b,d.out,m⟩
      case measure=>exact Qn
     ·rw[kw (λe=>hm (dF.1 e))]at u;have m:Hid (((l.take (j+1)).filter λf=>decide (f∈x.rows)).length=c3):=JZ (by rw[HT.out,jA hm,HC.out];rfl);clear hm HT;go_wp2_with fail;go_roundw
      case rel=>exact⟨j+1,c3,Qk,Qk,by go_num,rfl,hb,b,d.out,m⟩
      case measure=>exact Qn
    ·obtain rfl:q=j:=Qk
     have HR:Hid (((l.filter λf=>decide (f∈x.rows)).length:Int)/dv=(c3:Int)/dv):=JZ (by
      have:=HC.out;rw[kC (by have:=HN.out;omega)]at this;rw[this])
     have hB:=hX.below b D;obtain⟨e0,e1,_,_⟩:=hB.two;clear a HC hB;have h0:0<=(c3:Int)/dv:=vV Qk Qk;have h1:(c3:Int)/dv<=c3:=vJ _ Qk;go_wp2;go_ret;exact⟨by rw[HR.out];rfl,hb⟩
def Zjj(A:Option Addr)(n c:Nat)(x:Ct)(sb:ByteArray)(A1:Option Addr)(n1 c1:Nat)(p:List (List Tk))(w:World)(h1:Z6 w (.slice A n c) x.rows)(h2:DutsM w (.slice A1 n1 c1) p)(hd:2<=x.dv)(hr:x.rows.length<=6)(hl:(opP p).length<=6):
 Calls prog 52 #[.agg #[.slice A n c,.int .i64 x.dv],.agg #[.string sb,.slice A1 n1 c1]] w λe w'=>e= .returned (.tuple #[.int .i64 (coefP x (opP p)),.int .i64 0])/\Below w.heap.size w w':=by
 obtain⟨W,hW,hX,k⟩:=Zfh w (.slice A n c) (.int .i64 x.dv);obtain⟨W2,m,o,f⟩:=Zgw W (.string sb) (.slice A1 n1 c1);have H1:=JZ h1;have H2:=JZ h2;have hY:=hX.later f;have s:=hX.lt;have b:=Za k f k.size;clear h1 h2;obtain⟨dv,h⟩:∃dv,x.dv=dv:=⟨_,rfl⟩;rw[h]at hY hW hX hd⊢;have i:=JZ h;clear h;go_enter func52,ntmps52;obtain⟨x0,x1,y0,y1⟩:=hY.two;obtain⟨z0,z1,u0,u1⟩:=o.two
 go_upto_region 3 with(fail)
 clear hW m hX;have g:=Zc W2;have C0:=Zm x0;have C1:=Zm x1;have C2:=Zm z0;have C3:=Zm z1;clear x0 x1 y0 y1 z0 z1 u0 u1;refine Zj 6 [0,1,2,3,4,5] Qm Qm ?_;refine Qb ?_
 refine Qo λ_ kq=>?_;with_reducible refine(VR sb A1 n1 c1 p _ ((H2.out.below b).below g) Qk).mono ?_
 rintro _ w4 ⟨v4,rfl,h4,q⟩;have d:=Za g q g.size;have H4:=JZ h4.ints;clear h4;refine kq.out _ _ (.inr d) (Qc ?_);clear kq
 refine Qo λ_ kq=>?_;rw[<-i.out];with_reducible refine(Yki A n c x v4 (opP p) _ ((H1.out.below b).below d) H4.out (by rw[i.out];exact hd) hr hl).mono ?_
 rintro _ w5 ⟨rfl,r⟩;have j:=Za d r d.size;refine kq.out _ _ (.inr j) (Qc ?_);clear kq
 refine Zl ?_;have l:=Za b j b.size;go_wp2;go_ret2;exact⟨rfl,l⟩
def VK.monoW{base base':Nat}{w:World}{v:Value}{es:List En}(h:VK base w v es)(hb:base'<=base):VK base' w v es:=by
 obtain⟨cs,h1,h2⟩:=h;refine⟨cs,⟨h1.1,?_⟩,h2⟩;rcases h1.2 with hn|⟨b,cap,cur,rfl,hb',rest⟩
 ·exact .inl hn
 ·exact .inr ⟨b,cap,cur,rfl,JW hb hb',rest⟩
def Zfl(ty:TypeId)(W:World)(base:Nat)(v:Value)(es:List En)(hown:VK base W v es)(b b':Bool)(A A':Option Addr)(n c n' c':Nat)(k:Int)(f:RF)(hf:Zx W (.agg #[.bool b,.slice A n c,.bool b',.slice A' n' c']) f)(hn:es.length+1<=1099511627776)(hbase:base<=W.heap.size):
 ∃v' w',(Builtin.append_ #[88,88] ty #[v,.slice (some ⟨W.heap.size,0,none⟩) 1 1]).run prog (W.alloc (.cells #[.int .i64 k,.bool b,.slice A n c,.bool b',.slice A' n' c'] 86))= .ok v' w'/\VK base w' v' (es++[⟨k,f⟩])/\Below base W w':=by
 obtain⟨cs,h1,h2⟩:=hown;obtain⟨i0,hi,a,d,g⟩:=kL info_entry;obtain⟨v',w',hr,g1,g2,g3,_,_⟩:=Xj ty 88 86 i0 _ 5 72 underlying88 hi a d g rfl Ql W base v es.length cs [.int .i64 k,.bool b,.slice A n c,.bool b',.slice A' n' c'] h1 rfl Zcy (by unfold maxLen;omega) Qk hbase;have hk:=g2.keep Ql;exact⟨v',w',hr,⟨_,by simpa using g1,(h2.keep hk).snoc (e:=⟨k,f⟩) (hf.keep hk)⟩,g3⟩
def VK.sliceW{base:Nat}{w:World}{v:Value}{es:List En}(h:VK base w v es):∃A n c,v= .slice A n c:=by
 obtain⟨cs,h1,_⟩:=h;rcases h1.2 with⟨rfl,_⟩|⟨b,cap,cur,rfl,_⟩ <;> exact⟨_,_,_,rfl⟩
def Pl.rowE_take(R l:List Int){k:Nat}{y:Int}(h:l[k]? =some y):Zmq R (l.take (k+1))=Zmq R (l.take k)++[⟨(posR R y:Nat),kZ 1⟩]:=by
 rw[jP,h];simp[Zmq]
def Pl.cutE_len(n:Nat)(l:List Int):∀(xs:List Ct) (k:Nat),(Zez n l k xs).length<=xs.length
 | [],_=>by simp[Zez]
 |x::xs,k=>by
  have:=cutE_len n l xs (k+1)
  rw[Zez,kQ,ky]
  split <;> simp <;> omega
def Pl.coefP_small{x:Ct}{l:List Int}(hd:2<=x.dv):0<=coefP x l/\coefP x l<=l.length:=by
 unfold coefP;have h1:=jq (λf=>decide (f∈x.rows)) l;exact⟨vV Qk Qk,gH (vJ _ Qk) Qk⟩
def Zzk(A A' A'':Option Addr)(nr c n' c' n'' c'':Nat)(fl pen:Int)(m:Ms)(x:Cl)(sb:ByteArray)(A1:Option Addr)(n1 c1:Nat)(w:World)(hR:Z6 w (.slice A nr c) m.rows)(hT:CutsM w (.slice A'' n'' c'') m.cuts)(hD:DutsM w (.slice A1 n1 c1) x.dut)(ok:VM m)(hl:x.ops.length<=6):
 Calls prog 29 #[.agg #[.int .i64 fl,.slice A nr c,.int .i64 pen,.slice A' n' c',.slice A'' n'' c''],.agg #[.string sb,.slice A1 n1 c1]] w λe w'=>∃v',e= .returned v'/\VK w.heap.size w' v' (Yil m x)/\Below w.heap.size w w':=by
 obtain⟨W,hW,hX,P⟩:=Zbj w (.int .i64 fl) (.slice A nr c) (.int .i64 pen) (.slice A' n' c') (.slice A'' n'' c'');obtain⟨W2,ax,q,r⟩:=Zgw W (.string sb) (.slice A1 n1 c1);have hY:=hX.later r;have n:=Za P r P.size;have HR:=JZ (hR.below n);have HT:=JZ (hT.below n);have HD:=JZ (hD.below n);have t:=JZ ok;obtain⟨r1,r2,r3⟩:=hR.lenC;obtain⟨t1,t2,t3⟩:=RdM.len hT;have HN:=JZ (And.intro r1 t1);have be:nr<=6:=by have:=ok.row1;omega
 have bf:n''<=2:=by have:=ok.ncut;omega
 have bg:=hX.lt;have V:=hY.lt;have ag:=n.size;clear hR hT hD ok r1 t1 hX P r;go_enter func29,ntmps29;obtain⟨x0,x1,x2,x3,x4⟩:=hY.five;obtain⟨z0,z1,u0,u1⟩:=q.two;go_wp2_with fail;clear hW ax x0 x1 x2 x3 x4 z0 z1 u0 u1;refine(VR sb A1 n1 c1 x.dut _ HD.out (by unfold Cl.ops at hl;omega)).mono ?_;rintro _ w3 ⟨v3,rfl,h3,G⟩;have ah:=hY.later G;have ai:=q.later G;have X:=JZ h3;obtain⟨A3,n3,c3,rfl⟩:=h3.sliceN;clear h3;go_wp2_with fail;have Y:(opP x.dut).length<=6:=hl;refine(Zjb W2.heap.size _ _ _ X.out Qk).mono ?_;rintro _ w4 ⟨rfl,H⟩;have g:Below W2.heap.size W2 w4:=G.trans H.2.2.2;have aj:=n.trans (g.mono ag);have ak:=JZ H.1.ints;have J:n3=(Yj (opP x.dut)).length:=H.1.len;have Z:=JZ J;have bb:n3<=6:=by rw[J];unfold Yj;rw[WI];exact Y
 have u:=hY.below g V;have al:=q.below g q.lt;have am:=JZ (HR.out.below g);have an:=JZ (HT.out.below g);have ao:=JZ (HD.out.below g);have bh:W2.heap.size<=w4.heap.size:=g.size;have a0:=VK.nil w4.heap.size w4;clear H G ah ai X hY q HR HT HD J g n;generalize b8:w.heap.size=gm at *;generalize bn:W.heap.size=gp at *;have bc:gm<w4.heap.size:=u.lt;go_wp2
 go_loopw [5,21] (λs5 y wr=>∃k:Nat,k<=n3/\y= .int .i64 k/\Below w4.heap.size w4 wr/\Hid (VK w4.heap.size wr s5 (Zmq m.rows ((Yj (opP x.dut)).take k)))/\∃Av nv cv,s5= .slice Av nv cv) (λ_ y _=>n3 - (intOf y).toNat)
 case atStart=>exact⟨0,Qk,rfl,JR _ _,JZ (by simpa[Zmq]using a0),_,_,_,rfl⟩
 case round=>
  clear a0;obtain⟨k,hk,rfl,hb,HO,Av,nv,cv,rfl⟩:=hrel;rcases JX k n3 with hkl|hkl
  ·obtain⟨b4,o4,y,ay,R,hy,y0,y1⟩:=ak.out.elem hb hkl;subst ay;have K:=JZ (rowE_take m.rows _ hy);clear hy;have hB:=u.later hb;obtain⟨x0,x1,x2,x3,x4⟩:=hB.five;go_wp2_with fail;refine(Vz _ m.rows y _ (am.out.below hb) t.out.asc (by have:=t.out.row1;omega)).mono ?_;rintro _ w5 ⟨rfl,d⟩;have L:=Za hb d hb.size;have o:=JZ (HO.out.below d);generalize decide (y∈m.rows)=dd;clear x0 x1 x2 x3 x4 hB R hb d HO;have bd:posR m.rows y<=1000:=(by have:=Ycp m.rows y;have:=t.out.row1;omega);generalize posR m.rows y=ba at *;go_wp2_with fail;refine(Xx 1 _ Ql Ql).mono ?_;rintro _ w6 ⟨v6,f6,rfl,h6,ad,i⟩;obtain⟨Aa,na,ca,Ab,nb,cb,rfl,_,_⟩:=id h6;have f:=Za L i L.size;have ap:=JZ h6;have p:=JZ (o.out.below i);have B:=JZ ad;have bi:(Zmq m.rows ((Yj (opP x.dut)).take k)).length<=6:=(by simp[Zmq];omega);have aq:w4.heap.size<=w6.heap.size:=f.size;clear h6 ad o L i;go_wp2_with(at_builtin;refine Vq rfl (.tmp 32) (.tmp 36) rfl w6 w4.heap.size (.slice Av nv cv) (Zmq m.rows ((Yj (opP x.dut)).take k)) rfl p.out f6.num.neg f6.den.neg Aa Ab na ca nb cb (ba:Int) f6 ap.out rfl Qk aq ?_);intro v7 w7 T _ s;have ar:=f.trans s;have M:Hid (VK w4.heap.size w7 v7 (Zmq m.rows ((Yj (opP x.dut)).take (k+1)))):=JZ (by rw[K.out,<-B.out];exact T);obtain⟨Aw,nw,cw,rfl⟩:=T.sliceW;clear T f s;go_wp2;go_roundw
   case rel=>exact⟨k+1,Qk,by go_num,ar,M,_,_,_,rfl⟩
   case measure=>exact Qn
  ·obtain rfl:n3=k:=Qk
   have a1:Hid (VK w4.heap.size wr (.slice Av nv cv) (Zmq m.rows (Yj (opP x.dut)))):=JZ (by have:=HO.out;rw[kC (by have:=Z.out;omega)]at this;exact this);clear HO;have hB:=u.later hb;obtain⟨x0,x1,x2,x3,x4⟩:=hB.five;go_wp2;clear x0 x1 x2 x3 x4 hB;generalize b9:wr=wo at *;clear b9;have bj:(Zmq m.rows (Yj (opP x.dut))).length<=6:=(by unfold Zmq;rw[BD];have:=Z.out;omega);generalize af:Zmq m.rows (Yj (opP x.dut))=RE at *;have K:=JZ af;clear af
   go_loopw [5,42] (λs5 y wr=>∃k:Nat,k<=n''/\y= .int .i64 k/\Below w4.heap.size w4 wr/\Hid (VK w4.heap.size wr s5 (RE++Zez m.rows.length (opP x.dut) 0 (m.cuts.take k)))/\∃Av nv cv,s5= .slice Av nv cv) (λ_ y _=>n'' - (intOf y).toNat)
   case atStart=>exact⟨0,Qk,rfl,hb,JZ (by simpa[Zez]using a1.out),_,_,_,rfl⟩
   case round=>
    clear a1 hb;obtain⟨k,hk,rfl,hb,HO,Av,nv,cv,rfl⟩:=hrel;rcases JX k n'' with hkl|hkl
    ·obtain⟨ct,E⟩:∃ct,m.cuts[k]? =some ct:=⟨m.cuts[k]'(by rw[<-HN.out.2];exact hkl),JQ _⟩;obtain⟨b,bl,A5,n5,c5,hA,az,e0,e1,aa⟩:=an.out.elem hb E;subst hA;have C:Hid (Zqn m.rows ct):=JZ (t.out.cut ct (jC E));have a2:=JZ aa.ints;have D:Hid (Zez m.rows.length (opP x.dut) 0 (m.cuts.take (k+1))=Zez m.rows.length (opP x.dut) 0 (m.cuts.take k)++(if coefP ct (opP x.dut)≠0 then [⟨((m.rows.length+k:Nat):Int),kZ (coefP ct (opP x.dut))⟩]else [])):=JZ (by
      rw[jP,E];have h:=Zpo m.rows.length (opP x.dut) ct (m.cuts.take k) 0;rw[kN,Nat.min_eq_left (by have:=HN.out.2;omega),ji]at h;exact h)
     clear aa E;obtain⟨W5,b0,ab,F⟩:=Zfh wr (.slice A5 n5 c5) (.int .i64 ct.dv);have d:=Za hb F hb.size;have N:=u.later d;have a3:=al.later d;have a4:=JZ (a2.out.below F);have o:=JZ (HO.out.below F);obtain⟨b1,b2,b3,b5,b6⟩:=N.five;obtain⟨k0,k1,_,_⟩:=ab.two;obtain⟨z0,z1,_,_⟩:=a3.two;go_wp2_with fail;have bk:=coefP_small (l:=opP x.dut) C.out.2.2.1;refine(Zjj A5 n5 c5 ct sb A1 n1 c1 x.dut _ a4.out (ao.out.below d) C.out.2.2.1 (by
      have h1:=ZZ (C.out.1.imp fun{a b} hab=>Qk) C.out.2.1;have:=HN.out.1;omega) Y).mono ?_
     rintro _ w6 ⟨rfl,i⟩;have f:=Za d i d.size;have p:=JZ (o.out.below i);have au:=N.later i;have av:Hid ((RE++Zez m.rows.length (opP x.dut) 0 (m.cuts.take k)).length<=20):=JZ (by
      have:=cutE_len m.rows.length (opP x.dut) (m.cuts.take k) 0;rw[kN]at this;rw[kQ];omega)
     clear e0 e1 k0 k1 z0 z1 b1 b2 b3 b5 b6 d F hb N a3 ab b0 a2 a4 o HO i az;obtain⟨q0,q1,q2,q3,q4⟩:=au.five;generalize coefP ct (opP x.dut)=z at *;by_cases hz:z=0
     ·subst hz;have M:Hid (VK w4.heap.size w6 (.slice Av nv cv) (RE++Zez m.rows.length (opP x.dut) 0 (m.cuts.take (k+1)))):=JZ (by rw[D.out,jA (by simp),BF];exact p.out);clear D;go_wp2;go_roundw
      case rel=>exact⟨k+1,Qk,by go_num,f,M,_,_,_,rfl⟩
      case measure=>exact Qn
     ·have a5:=JZ (D.out.trans (by rw[jB hz]));clear D
      go_upto_region 15 with(fail)
      have O:=Zc w6;have C1:=Zm q1;clear q0 q1 q2 q3 q4;refine Zj 10 [0,1,2,3,4,5,6,7,8,9,10,11] Qm Qm ?_;refine Qb ?_
      refine Qo λ_ kq=>?_;(with_reducible refine(Xx z _ Qk Qk).mono ?_);rintro _ w7 ⟨v7,f7,rfl,h7,ae,s⟩;obtain⟨Aa,na,ca,Ab,nb,cb,rfl,_,_⟩:=id h7;have j:=Za O s O.size;have a6:=JZ h7;have a7:=JZ (p.out.below j);have B:=JZ ae;clear h7 ae p;refine kq.out _ _ (.inr j) (Qc ?_);clear kq
      refine Qo λ_ kq=>?_;refine kq.out _ _ (.inr (Za j (Ze _ _) j.size)) ?_;clear kq;refine Qj ?_;obtain⟨bm,b7,I,S,ac⟩:=Zfl 88 w7 w4.heap.size (.slice Av nv cv) (RE++Zez m.rows.length (opP x.dut) 0 (m.cuts.take k)) a7.out f7.num.neg f7.den.neg Aa Ab na ca nb cb ((nr:Int)+k) f7 a6.out (by have:=av.out;omega) (by have:=j.size;have:=f.size;omega);refine Zd rfl rfl (λ_ kq=>?_);refine ZR _ _ rfl rfl rfl rfl I ?_;refine kq.out _ _ (.inl Ql) (Qj ?_);clear kq;refine Qh ?_;refine Zl ?_;have a8:=(Za f j f.size).trans ac;obtain⟨Aw,nw,cw,rfl⟩:=S.sliceW;have a9:Hid (VK w4.heap.size b7 (.slice Aw nw cw) (RE++Zez m.rows.length (opP x.dut) 0 (m.cuts.take (k+1)))):=JZ (by
       have e:((m.rows.length+k:Nat):Int)=(nr:Int)+k:=(by have:=HN.out.1;omega);rw[a5.out,<-dS,<-B.out,e];exact S)
      clear S I ac j f a7 a6 B C1 O s;go_wp2;go_roundw
      case rel=>exact⟨k+1,Qk,by go_num,a8,a9,_,_,_,rfl⟩
      case measure=>exact Qn
    ·obtain rfl:n''=k:=Qk
     go_wp2;go_ret;have aw:Hid (VK w4.heap.size wr (.slice Av nv cv) (Yil m x)):=JZ (by
      have:=HO.out;rw[kC (by have:=HN.out.2;omega),<-K.out]at this;exact this)
     rw[b8];exact⟨_,rfl,aw.out.monoW Qk,Za aj hb Qk⟩
def Pl.pr1(pen:Int)(k:Nat):LPd:=⟨List.replicate k (kZ pen),(List.range k).map Zdo,List.replicate k (kZ 1)⟩
def Pl.pr1_succ(pen:Int)(k:Nat):pr1 pen (k+1)=⟨(pr1 pen k).cost++[kZ pen],(pr1 pen k).cols++[Zdo k],(pr1 pen k).right++[kZ 1]⟩:=by
 simp[pr1,List.range_succ,List.replicate_succ']
def Zwr(W:World)(b b':Bool)(A A':Option Addr)(n c n' c':Nat)(k:Int)(f:RF)(hf:Zx W (.agg #[.bool b,.slice A n c,.bool b',.slice A' n' c']) f):
 ∃W',W.alloc (.cells #[.int .i64 k,.bool b,.slice A n c,.bool b',.slice A' n' c'] 86)=W'/\Below W.heap.size W W'/\Ur W' (.slice (some ⟨W.heap.size,0,none⟩) 1 1) [⟨k,f⟩]:=by
 refine⟨_,rfl,Ze _ _,[.int .i64 k,.bool b,.slice A n c,.bool b',.slice A' n' c'],⟨_,1,rfl,rfl,JY _,Ql,λ_=>⟨W.heap.size,0,_,_,rfl,vo W _,λj u h=>by simpa using h⟩⟩,?_⟩;have:=(EnC.nil (W.alloc (.cells #[.int .i64 k,.bool b,.slice A n c,.bool b',.slice A' n' c'] 86))).snoc (e:=⟨k,f⟩) (hf.below (Ze _ _));simpa using this
def Pl.pr2(m:Ms)(P:Int)(n k:Nat):LPd:=⟨List.replicate n (kZ P)++List.replicate k (kZ 0),(List.range n).map Zdo++(List.range k).map (λj=>Zdo (n+j)),List.replicate n (kZ 1)++(m.cuts.take k).map λx=>kZ ((x.rows.length:Int)/x.dv)⟩
def Pl.pr2_zero(m:Ms)(P:Int)(n:Nat):pr2 m P n 0=pr1 P n:=by simp[pr1,pr2]
def Pl.pr2_succ{m:Ms}{P:Int}{n k:Nat}{x:Ct}(h:m.cuts[k]? =some x):pr2 m P n (k+1)=⟨(pr2 m P n k).cost++[kZ 0],(pr2 m P n k).cols++[Zdo (n+k)],(pr2 m P n k).right++[kZ ((x.rows.length:Int)/x.dv)]⟩:=by
 simp[pr2,List.range_succ,List.replicate_succ',jP,h]
def Pl.pr3(m:Ms)(P:Int)(n q k:Nat):LPd:=⟨(pr2 m P n q).cost++(m.cols.take k).map (λc=>kZ c.cost),(pr2 m P n q).cols++(m.cols.take k).map (Yil m),(pr2 m P n q).right⟩
def Pl.pr3_zero(m:Ms)(P:Int)(n q:Nat):pr3 m P n q 0=pr2 m P n q:=by simp[pr3]
def Pl.pr3_succ{m:Ms}{P:Int}{n q k:Nat}{x:Cl}(h:m.cols[k]? =some x):pr3 m P n q (k+1)=⟨(pr3 m P n q k).cost++[kZ x.cost],(pr3 m P n q k).cols++[Yil m x],(pr3 m P n q k).right⟩:=by
 simp[pr3,jP,h]
def Pl.pr3_all(m:Ms):pr3 m m.pen m.rows.length m.cuts.length m.cols.length=lpM m:=by
 simp[pr3,pr2,lpM,Zmr,Zsm,Zig,List.map_const']
def Ypn(m:Ms)(w:World)(e:Ending)(w':World):Prop:=∃v',e= .returned (.tuple #[v',.int .i64 0])/\LpM w' v' (lpM m)/\Below w.heap.size w w'
def Ztt(v:Value)(m:Ms)(w:World)(h:MsM w v m)(ok:VM m):
 Calls prog 8 #[v] w (Ypn m w):=by
 have HM:=JZ h;obtain⟨A,nr,c,A',n',c',ac,o,ad,rfl,hR,hC,hT⟩:=h;obtain⟨r1,r2,r3⟩:=hR.ints.lenC;obtain⟨s1,s2,s3⟩:=RdM.len hC;obtain⟨t1,t2,t3⟩:=RdM.len hT;have HR:=JZ hR.ints;have HC:=JZ hC;have HT:=JZ hT;have bs:=JZ r1;have bt:=JZ s1;have bu:=JZ t1;have R:=JZ ok;have ec:nr<=6:=by have:=ok.row1;omega
 have ed:n'<=6:=by have:=ok.ncol;omega
 have ee:o<=2:=by have:=ok.ncut;omega
 have d8:0<=m.pen:=ok.pen0;have d9:m.pen<=30:=ok.pen1;obtain⟨P,hP⟩:∃P,m.pen=P:=⟨_,rfl⟩;obtain⟨F,hF⟩:∃F,m.fl=F:=⟨_,rfl⟩;have HP:=JZ hP;have HF:=JZ hF;obtain⟨W,hW,hX,ae⟩:=Zbj w (.int .i64 F) (.slice A nr c) (.int .i64 P) (.slice A' n' c') (.slice ac o ad);obtain⟨W2,dg,c4,a3⟩:=Zfn W (.slice none 0 0) (.slice none 0 0) (.slice none 0 0);have hY:=hX.later a3;have ab:=Za ae a3 ae.size;have b6:w.heap.size<=W.heap.size:=ae.size;clear hR hC hT ok r1 s1 t1 hX ae a3;rw[hP]at d8 d9⊢;rw[hF];clear hP hF;go_enter func8,ntmps8;obtain⟨x0,x1,x2,x3,x4⟩:=hY.five;go_wp2_with fail;clear x0 x1 x2 x3 x4;have e0:Value.agg #[.int .i64 F,.slice A nr c,.int .i64 P,.slice A' n' c',.slice ac o ad]=Value.agg #[.int .i64 m.fl,.slice A nr c,.int .i64 m.pen,.slice A' n' c',.slice ac o ad]:=by rw[HF.out,HP.out]
 refine(Xw _ m _ (by rw[e0];exact HM.out.below ab) R.out).mono ?_;rintro _ w3 ⟨rfl,ak⟩;clear e0;have O:=hY.later ak;have b7:=c4.later ak;have C:=Za ab ak ab.size;clear hY c4 ab ak hW dg;obtain⟨W4,dh,c6,N⟩:=Zfn w3 (.slice none 0 0) (.slice none 0 0) (.slice none 0 0);have bv:=O.later N;have da:=b7.later N;obtain⟨x0,x1,x2,x3,x4⟩:=bv.five;go_wp2_with fail;clear x0 x1 x2 x3 x4;have al:PrI w3.heap.size w3.heap.size W4 (.slice none 0 0) (.slice none 0 0) (.slice none 0 0) (pr1 P 0):=⟨c6,Yy.nil _ _,Ym.nil _ _,Yy.nil _ _,λb hb=>by simp[Value.ownBlock]at hb⟩;have ef:=O.lt;have eg:=b7.lt;clear c6 bv da dh
 go_loopw [24] (λy wr=>∃(k:Nat) (Aa Ab Ac:Option Addr) (na ca nb cb nd cd:Nat),k<=nr/\y= .int .i64 k/\Below w3.heap.size w3 wr/\PrI w3.heap.size w3.heap.size wr (.slice Aa na ca) (.slice Ab nb cb) (.slice Ac nd cd) (pr1 P k)) (λy _=>nr - (intOf y).toNat)
 case atStart=>exact⟨0,_,_,_,_,_,_,_,_,_,Qk,rfl,N,al⟩
 case round=>
  clear N al;obtain⟨k,Aa,Ab,Ac,na,ca,nb,cb,nd,cd,hk,rfl,hb,r⟩:=hrel;rcases JX k nr with hkl|hkl
  ·have HL:Hid ((pr1 P k).cost.length<=20/\(pr1 P k).cols.length<=20/\(pr1 P k).right.length<=20):=JZ (by simp[pr1];omega);have S:=JZ (pr1_succ P k);generalize pr1 P k=p at *;obtain⟨x0,x1,x2⟩:=r.bk.three
   go_upto_region 9 with(fail)
   have C2:=Zm x2;have g:=Zc wr;clear x0 x1 x2;refine Zj 4 [0,1,2,3,4,5,6] Qm Qm ?_;refine Qb ?_
   refine Qo λ_ kq=>?_;(with_reducible refine(Xx 1 _ Ql Ql).mono ?_);rintro _ ej ⟨v9,f9,rfl,h9,d1,E⟩;obtain⟨A5,n5,c5,B5,m5,d5,rfl,_,_⟩:=id h9;have d:=Za g E g.size;have bw:=JZ h9;have am:=JZ d1;clear h9 d1 E;refine kq.out _ _ (.inr d) (Qc ?_);clear kq
   refine Qo λ_ kq=>?_;refine kq.out _ _ (.inr (Za d (Ze _ _) d.size)) ?_;clear kq;refine Qj ?_;obtain⟨ei,di,f,s,i,b8,l,A9,n9,c9,rfl⟩:=(r.later d).addR 34 f9.num.neg f9.den.neg A5 B5 n5 c5 m5 d5 f9 bw.out (by have:=HL.out;simp;omega) (by have:=d.size;have:=hb.size;omega) (JY _);refine Zd rfl rfl (λ_ kq=>?_);refine ZR _ _ rfl rfl rfl rfl f ?_;refine kq.out _ _ (.inl Ql) (Qj ?_);clear kq;obtain⟨q0,q1,q2⟩:=i.three;obtain⟨g0,g1,g2⟩:=i.threeF;refine Qh ?_;refine Qh ?_;refine Zl ?_;have E:=(Za hb d hb.size).trans l;generalize di.setCell ⟨w3.heap.size,2,none⟩ (.slice A9 n9 c9)=W9 at *;clear q0 q1 q2 g0 g1 g2 i s l f d g C2 hb r;obtain⟨x0,x1,x2⟩:=b8.bk.three;obtain⟨y0,y1,y2,y3,y4⟩:=(O.later E).five;have D2:=Zm y2
   go_upto_region 10 with(fail)
   have C0:=Zm x0;have g:=Zc W9;clear x0 x1 x2;refine Zj 6 [0,1,2,3,4,5,6,7,8] Qm Qm ?_;refine Qb ?_
   refine Qo λ_ kq=>?_;(with_reducible refine(Xx P _ Qk Qk).mono ?_);rintro _ e7 ⟨ek,bf,rfl,bg,b0,x⟩;obtain⟨A5,n5,c5,B5,m5,d5,rfl,_,_⟩:=id bg;have d:=Za g x g.size;have an:=JZ bg;have T:=JZ b0;clear bg b0 x;refine kq.out _ _ (.inr d) (Qc ?_);clear kq
   refine Qo λ_ kq=>?_;refine kq.out _ _ (.inr (Za d (Ze _ _) d.size)) ?_;clear kq;refine Qj ?_;obtain⟨du,c7,f,s,i,a4,l,c8,cc,ce,rfl⟩:=(b8.later d).addC 34 bf.num.neg bf.den.neg A5 B5 n5 c5 m5 d5 bf an.out (by have:=HL.out;simp;omega) (by have:=d.size;have:=E.size;omega) (JY _);refine Zd rfl rfl (λ_ kq=>?_);refine ZR _ _ rfl rfl rfl rfl f ?_;refine kq.out _ _ (.inl Ql) (Qj ?_);clear kq;obtain⟨q0,q1,q2⟩:=i.three;obtain⟨g0,g1,g2⟩:=i.threeF;refine Qh ?_;refine Qh ?_;refine Zl ?_;have x:=(Za E d E.size).trans l;generalize c7.setCell ⟨w3.heap.size,0,none⟩ (.slice c8 cc ce)=dm at *;clear q0 q1 q2 g0 g1 g2 i s l f d g C0 D2 y0 y1 y2 y3 y4 E b8;obtain⟨x0,x1,x2⟩:=a4.bk.three
   go_upto_region 11 with(fail)
   have C1:=Zm x1;have g:=Zc dm;clear x0 x1 x2;refine Zj 7 [0,1,2,3,4,5,6,7,8,9] Qm Qm ?_;refine Qb ?_
   refine Qo λ_ kq=>?_;(with_reducible refine(Xx 1 _ Ql Ql).mono ?_);rintro _ d2 ⟨el,d3,rfl,bh,b1,L⟩;obtain⟨A5,n5,c5,B5,m5,d5,rfl,_,_⟩:=id bh;have d:=Za g L g.size;obtain⟨dw,b9,a5,a6⟩:=Zwr d2 _ _ _ _ _ _ _ _ (k:Int) d3 bh;have U:=JZ b1;have ao:=JZ a6;clear bh b1 L a6;refine kq.out _ _ (.inr d) (Qc ?_);clear kq
   refine Qo λ_ kq=>?_;have t:=Za d a5 d.size;refine kq.out _ _ (.inr t) (Qj ?_);clear kq;refine Qo λ_ kq=>?_;refine kq.out _ _ (.inr (Za t (Ze _ _) t.size)) ?_;clear kq;refine Qj ?_;obtain⟨dx,cf,f,s,i,aw,l,cg,ch,ci,rfl⟩:=(a4.later t).addV 35 _ _ _ _ ao.out (by have:=HL.out;simp;omega) (by have:=t.size;have:=x.size;omega) (JY _);refine Zd rfl rfl (λ_ kq=>?_);refine ZR _ _ rfl rfl rfl rfl f ?_;refine kq.out _ _ (.inl Ql) (Qj ?_);clear kq;obtain⟨q0,q1,q2⟩:=i.three;obtain⟨g0,g1,g2⟩:=i.threeF;refine Qh ?_;refine Qh ?_;refine Zl ?_;have L:=(Za x t x.size).trans l;generalize cf.setCell ⟨w3.heap.size,1,none⟩ (.slice cg ch ci)=dn at *;clear q0 q1 q2 g0 g1 g2 i s l f d t g a5 b9 C1 x a4;have V:Hid (PrI w3.heap.size w3.heap.size dn (.slice c8 cc ce) (.slice cg ch ci) (.slice A9 n9 c9) (pr1 P (k+1))):=JZ (by
    rw[S.out];have e:Zdo k=[⟨(k:Int),d3⟩]:=(by rw[U.out];rfl);rw[e,<-am.out,<-T.out];exact aw)
   clear aw am T U bw an ao;go_wp2;go_roundw
   case rel=>exact⟨k+1,_,_,_,_,_,_,_,_,_,Qk,by go_num,L,V.out⟩
   case measure=>exact Qn
  ·obtain rfl:nr=k:=Qk
   obtain⟨x0,x1,x2,x3,x4⟩:=(O.later hb).five;go_wp2;clear x0 x1 x2 x3 x4;generalize br:wr=wo at *;clear br;have G:PrI w3.heap.size w3.heap.size wo (.slice Aa na ca) (.slice Ab nb cb) (.slice Ac nd cd) (pr2 m P nr 0):=(by rw[pr2_zero];exact r);clear r
   go_loopw [54] (λy wr=>∃(k:Nat) (Aa Ab Ac:Option Addr) (na ca nb cb nd cd:Nat),k<=o/\y= .int .i64 k/\Below w3.heap.size w3 wr/\PrI w3.heap.size w3.heap.size wr (.slice Aa na ca) (.slice Ab nb cb) (.slice Ac nd cd) (pr2 m P nr k)) (λy _=>o - (intOf y).toNat)
   case atStart=>exact⟨0,_,_,_,_,_,_,_,_,_,Qk,rfl,hb,G⟩
   case round=>
    clear hb G;obtain⟨k,Aa,Ab,Ac,na,ca,nb,cb,nd,cd,hk,rfl,hb,r⟩:=hrel;rcases JX k o with hkl|hkl
    ·obtain⟨ct,af⟩:∃ct,m.cuts[k]? =some ct:=⟨m.cuts[k]'(by rw[<-bu.out];exact hkl),JQ _⟩;obtain⟨b,cj,At,nt,cT,hA,dj,e0,e1,hD⟩:=(HT.out.below C).elem hb af;subst hA;have X:Hid (Zqn m.rows ct):=JZ (R.out.cut ct (jC af));have db:=X.out.2.2.1;have ap:=hD.ints.lenC.1;have S:=JZ (pr2_succ (P:=P) (n:=nr) af);have dc:=JZ ap;have dt:nt<=6:=by
      have h1:=ZZ (X.out.1.imp fun{a b} hab=>Qk) X.out.2.1;have:=bs.out;omega
     clear hD af ap;have HL:Hid ((pr2 m P nr k).cost.length<=20/\(pr2 m P nr k).cols.length<=20/\(pr2 m P nr k).right.length<=20):=JZ (by simp[pr2];omega);generalize pr2 m P nr k=p at *;obtain⟨dv,a7⟩:∃dv,ct.dv=dv:=⟨_,rfl⟩;have dd:=JZ a7;rw[a7]at e1 db;clear a7;obtain⟨W5,ba,K,H⟩:=Zfh wr (.slice At nt cT) (.int .i64 dv);have D:=Za hb H hb.size;have I:=r.later H;have h0:0<=(nt:Int)/dv:=vV Qk Qk;have h1:(nt:Int)/dv<=nt:=vJ _ Qk;have de:¬dv=0:=Qk;have eh:IntKind.i64.wrap ((nt:Int)/dv)=(nt:Int)/dv:=by
      rw[gJ];clear de;generalize(nt:Int)/dv=e at h0 h1⊢;omega
     obtain⟨x0,x1,x2⟩:=I.bk.three;obtain⟨k0,k1,_,_⟩:=K.two;have D0:=Zm k0;have D1:=Zm k1
     go_upto_region 16 with(fail)
     have C2:=Zm x2;have g:=Zc W5;clear x0 x1 x2;refine Zj 10 [0,1,2,3,4,5,6,7,8,9,10,11,12] Qm Qm ?_;refine Qb ?_
     refine Qo λ_ kq=>?_;(with_reducible refine(Xx ((nt:Int)/dv) _ Qk Qk).mono ?_);rintro _ e8 ⟨em,bi,rfl,bj,b2,z⟩;obtain⟨A5,n5,c5,B5,m5,d5,rfl,_,_⟩:=id bj;have d:=Za g z g.size;have aq:=JZ bj;have Y:=JZ b2;clear bj b2 z;refine kq.out _ _ (.inr d) (Qc ?_);clear kq
     refine Qo λ_ kq=>?_;refine kq.out _ _ (.inr (Za d (Ze _ _) d.size)) ?_;clear kq;refine Qj ?_;obtain⟨dy,ck,f,s,i,a8,l,cm,cn,cp,rfl⟩:=(I.later d).addR 34 bi.num.neg bi.den.neg A5 B5 n5 c5 m5 d5 bi aq.out (by have:=HL.out;simp;omega) (by have:=d.size;have:=D.size;omega) (JY _);refine Zd rfl rfl (λ_ kq=>?_);refine ZR _ _ rfl rfl rfl rfl f ?_;refine kq.out _ _ (.inl Ql) (Qj ?_);clear kq;obtain⟨q0,q1,q2⟩:=i.three;obtain⟨g0,g1,g2⟩:=i.threeF;refine Qh ?_;refine Qh ?_;refine Zl ?_;have z:=(Za D d D.size).trans l;generalize ck.setCell ⟨w3.heap.size,2,none⟩ (.slice cm cn cp)=dp at *;clear q0 q1 q2 g0 g1 g2 i s l f d g C2 D0 D1 k0 k1 K ba H e0 e1 hb r D I;obtain⟨x0,x1,x2⟩:=a8.bk.three
     go_upto_region 17 with(fail)
     have C0:=Zm x0;have g:=Zc dp;clear x0 x1 x2;refine Zj 4 [0,1,2,3,4,5,6] Qm Qm ?_;refine Qb ?_
     refine Qo λ_ kq=>?_;(with_reducible refine(Xx 0 _ Ql Ql).mono ?_);rintro _ e9 ⟨en,bl,rfl,bm,b3,B⟩;obtain⟨A5,n5,c5,B5,m5,d5,rfl,_,_⟩:=id bm;have d:=Za g B g.size;have ar:=JZ bm;have Z:=JZ b3;clear bm b3 B;refine kq.out _ _ (.inr d) (Qc ?_);clear kq
     refine Qo λ_ kq=>?_;refine kq.out _ _ (.inr (Za d (Ze _ _) d.size)) ?_;clear kq;refine Qj ?_;obtain⟨dz,cq,f,s,i,a9,l,cr,cs,cu,rfl⟩:=(a8.later d).addC 34 bl.num.neg bl.den.neg A5 B5 n5 c5 m5 d5 bl ar.out (by have:=HL.out;simp;omega) (by have:=d.size;have:=z.size;omega) (JY _);refine Zd rfl rfl (λ_ kq=>?_);refine ZR _ _ rfl rfl rfl rfl f ?_;refine kq.out _ _ (.inl Ql) (Qj ?_);clear kq;obtain⟨q0,q1,q2⟩:=i.three;obtain⟨g0,g1,g2⟩:=i.threeF;refine Qh ?_;refine Qh ?_;refine Zl ?_;have B:=(Za z d z.size).trans l;generalize cq.setCell ⟨w3.heap.size,0,none⟩ (.slice cr cs cu)=dq at *;clear q0 q1 q2 g0 g1 g2 i s l f d g C0 z a8;obtain⟨x0,x1,x2⟩:=a9.bk.three
     go_upto_region 18 with(fail)
     have C1:=Zm x1;have g:=Zc dq;clear x0 x1 x2;refine Zj 9 [0,1,2,3,4,5,6,7,8,9,10,11] Qm Qm ?_;refine Qb ?_
     refine Qo λ_ kq=>?_;(with_reducible refine(Xx 1 _ Ql Ql).mono ?_);rintro _ d4 ⟨eo,d6,rfl,bn,b4,M⟩;obtain⟨A5,n5,c5,B5,m5,d5,rfl,_,_⟩:=id bn;have d:=Za g M g.size;obtain⟨e3,b9,a5,a6⟩:=Zwr d4 _ _ _ _ _ _ _ _ ((nr:Int)+k) d6 bn;have a0:=JZ b4;have au:=JZ a6;clear bn b4 M a6;refine kq.out _ _ (.inr d) (Qc ?_);clear kq
     refine Qo λ_ kq=>?_;have t:=Za d a5 d.size;refine kq.out _ _ (.inr t) (Qj ?_);clear kq;refine Qo λ_ kq=>?_;refine kq.out _ _ (.inr (Za t (Ze _ _) t.size)) ?_;clear kq;refine Qj ?_;obtain⟨e4,cw,f,s,i,ax,l,cx,cy,cz,rfl⟩:=(a9.later t).addV 35 _ _ _ _ au.out (by have:=HL.out;simp;omega) (by have:=t.size;have:=B.size;omega) (JY _);refine Zd rfl rfl (λ_ kq=>?_);refine ZR _ _ rfl rfl rfl rfl f ?_;refine kq.out _ _ (.inl Ql) (Qj ?_);clear kq;obtain⟨q0,q1,q2⟩:=i.three;obtain⟨g0,g1,g2⟩:=i.threeF;refine Qh ?_;refine Qh ?_;refine Zl ?_;have M:=(Za B t B.size).trans l;generalize cw.setCell ⟨w3.heap.size,1,none⟩ (.slice cx cy cz)=dr at *;clear q0 q1 q2 g0 g1 g2 i s l f d t g a5 b9 C1 B a9;have V:Hid (PrI w3.heap.size w3.heap.size dr (.slice cr cs cu) (.slice cx cy cz) (.slice cm cn cp) (pr2 m P nr (k+1))):=JZ (by
      rw[S.out];have e:Zdo (nr+k)=[⟨(nr:Int)+k,d6⟩]:=(by rw[a0.out];rfl);rw[e,<-dc.out,dd.out,<-Y.out,<-Z.out];exact ax)
     clear ax Y Z a0 aq ar au;go_wp2;go_roundw
     case rel=>exact⟨k+1,_,_,_,_,_,_,_,_,_,Qk,by go_num,M,V.out⟩
     case measure=>exact Qn
    ·obtain rfl:o=k:=Qk
     obtain⟨x0,x1,x2,x3,x4⟩:=(O.later hb).five;go_wp2;clear x0 x1 x2 x3 x4;generalize br:wr=wq at *;clear br;have G:PrI w3.heap.size w3.heap.size wq (.slice Aa na ca) (.slice Ab nb cb) (.slice Ac nd cd) (pr3 m P nr o 0):=(by rw[pr3_zero];exact r);clear r
     go_loopw [92] (λy wr=>∃(k:Nat) (Aa Ab Ac:Option Addr) (na ca nb cb nd cd:Nat),k<=n'/\y= .int .i64 k/\Below w3.heap.size w3 wr/\PrI w3.heap.size w3.heap.size wr (.slice Aa na ca) (.slice Ab nb cb) (.slice Ac nd cd) (pr3 m P nr o k)) (λy _=>n' - (intOf y).toNat)
     case atStart=>exact⟨0,_,_,_,_,_,_,_,_,_,Qk,rfl,hb,G⟩
     case round=>
      clear hb G;obtain⟨k,Aa,Ab,Ac,na,ca,nb,cb,nd,cd,hk,rfl,hb,r⟩:=hrel;rcases JX k n' with hkl|hkl
      ·obtain⟨cl,ag⟩:∃cl,m.cols[k]? =some cl:=⟨m.cols[k]'(by rw[<-bt.out];exact hkl),JQ _⟩;obtain⟨b,cj,sb,At,nt,cT,hA,dj,e0,e1,e2,hD⟩:=(HC.out.below C).elem hb ag;subst hA;have a1:=jC ag;obtain⟨dk,dl⟩:=R.out.cost cl a1;have df:Hid (cl.ops.length<=6):=JZ (by have:=R.out.opl a1;omega);have S:=JZ (pr3_succ (P:=P) (n:=nr) (q:=o) ag);have HD:=JZ hD;clear hD ag a1;have HL:Hid ((pr3 m P nr o k).cost.length<=20/\(pr3 m P nr o k).cols.length<=20/\(pr3 m P nr o k).right.length<=20):=JZ (by simp[pr3,pr2];omega);generalize pr3 m P nr o k=p at *;obtain⟨co,bb⟩:∃co,cl.cost=co:=⟨_,rfl⟩;have X:=JZ bb;rw[bb]at e2 dk dl;clear bb;obtain⟨W5,ba,K,H⟩:=Yem wr (.string sb) (.slice At nt cT) (.int .i64 co);have D:=Za hb H hb.size;have I:=r.later H;have bx:=JZ (HD.out.below H);clear HD;obtain⟨x0,x1,x2⟩:=I.bk.three;obtain⟨k0,k1,k2⟩:=K.three;have D2:=Zm k2
       go_upto_region 23 with(fail)
       have C0:=Zm x0;have g:=Zc W5;clear x0 x1 x2;refine Zj 6 [0,1,2,3,4,5,6,7,8] Qm Qm ?_;refine Qb ?_
       refine Qo λ_ kq=>?_;(with_reducible refine(Xx co _ Qk Qk).mono ?_);rintro _ ea ⟨ep,bo,rfl,bp,b5,u⟩;obtain⟨A5,n5,c5,B5,m5,d5,rfl,_,_⟩:=id bp;have d:=Za g u g.size;have av:=JZ bp;have a2:=JZ b5;clear bp b5 u;refine kq.out _ _ (.inr d) (Qc ?_);clear kq
       refine Qo λ_ kq=>?_;refine kq.out _ _ (.inr (Za d (Ze _ _) d.size)) ?_;clear kq;refine Qj ?_;obtain⟨e5,d0,f,s,i,aa,l,ah,ai,aj,rfl⟩:=(I.later d).addC 34 bo.num.neg bo.den.neg A5 B5 n5 c5 m5 d5 bo av.out (by have:=HL.out;simp;omega) (by have:=d.size;have:=D.size;omega) (JY _);refine Zd rfl rfl (λ_ kq=>?_);refine ZR _ _ rfl rfl rfl rfl f ?_;refine kq.out _ _ (.inl Ql) (Qj ?_);clear kq;obtain⟨q0,q1,q2⟩:=i.three;obtain⟨g0,g1,g2⟩:=i.threeF;refine Qh ?_;refine Qh ?_;refine Zl ?_;have u:=(Za D d D.size).trans l;have bz:=(s.bk (K.later d) Ql).set_other ((s.bk (K.later d) Ql).ne_of i Ql) 0 (.slice ah ai aj);have c0:=JZ (((bx.out.below d).but s Ql Ql).but (Zf.setCell i 0 (.slice ah ai aj)) Ql Ql);generalize d0.setCell ⟨w3.heap.size,0,none⟩ (.slice ah ai aj)=ds at *;clear q0 q1 q2 g0 g1 g2 i s l f d g C0 D2 k0 k1 k2 ba H e0 e1 e2 hb r K bx D I;have J:=Za C u C.size;obtain⟨x0,x1,x2⟩:=aa.bk.three;obtain⟨y0,y1,y2,y3,y4⟩:=(O.later u).five;obtain⟨k0,k1,_⟩:=bz.three;have D0:=Zm y0;have D1:=Zm y1;have D2:=Zm y2;have D3:=Zm y3;have D4:=Zm y4;have E0:=Zm k0;have E1:=Zm k1
       go_upto_region 24 with(fail)
       have C1:=Zm x1;have g:=Zc ds;clear x0 x1 x2 y0 y1 y2 y3 y4 k0 k1;refine Zj 7 [0,1,2,3,4,5,6,7,8,9] Qm Qm ?_;refine Qb ?_
       refine Qo λ_ kq=>?_;(with_reducible refine(Zzk A (some ⟨b,cj,none⟩) ac nr c n' c' o ad F P m cl sb At nt cT _ ((HR.out.below J).below g) ((HT.out.below J).below g) (c0.out.below g) R.out df.out).mono ?_);rintro _ eb ⟨er,rfl,bq,d7⟩;obtain⟨Av,nv,cv,rfl⟩:=bq.sliceW;have d:=Za g d7 g.size;have HV:=JZ bq.vec;clear bq d7;refine kq.out _ _ (.inr d) (Qc ?_);clear kq
       refine Qo λ_ kq=>?_;refine kq.out _ _ (.inr (Za d (Ze _ _) d.size)) ?_;clear kq;refine Qj ?_;obtain⟨e6,ay,f,s,i,az,l,bc,bd,be,rfl⟩:=(aa.later d).addV 35 Av nv cv _ HV.out (by have:=HL.out;simp;omega) (by have:=d.size;have:=u.size;omega) (JY _);refine Zd rfl rfl (λ_ kq=>?_);refine ZR _ _ rfl rfl rfl rfl f ?_;refine kq.out _ _ (.inl Ql) (Qj ?_);clear kq;obtain⟨q0,q1,q2⟩:=i.three;obtain⟨g0,g1,g2⟩:=i.threeF;refine Qh ?_;refine Qh ?_;refine Zl ?_;have c1:=(Za u d u.size).trans l;have V:Hid (PrI w3.heap.size w3.heap.size (ay.setCell ⟨w3.heap.size,1,none⟩ (.slice bc bd be)) (.slice ah ai aj) (.slice bc bd be) (.slice Ac nd cd) (pr3 m P nr o (k+1))):=JZ (by
        rw[S.out,X.out,<-a2.out];exact az)
       generalize ay.setCell ⟨w3.heap.size,1,none⟩ (.slice bc bd be)=es at *;clear q0 q1 q2 g0 g1 g2 i s l f d g C1 u aa az D0 D1 D2 D3 D4 E0 E1 a2 av HV J bz c0;go_wp2;go_roundw
       case rel=>exact⟨k+1,_,_,_,_,_,_,_,_,_,Qk,by go_num,c1,V.out⟩
       case measure=>exact Qn
      ·obtain rfl:n'=k:=Qk
       obtain⟨x0,x1,x2⟩:=r.bk.three;have hZ:=b7.later hb;obtain⟨z0,z1,z2⟩:=hZ.three;obtain⟨u0,u1,u2⟩:=hZ.threeF;go_wp2;refine Xb results8 underlying37 Qm rfl (((hZ.set_ 0 (.slice Aa na ca)).set_ 1 (.slice Ab nb cb)).set_ 2 (.slice Ac nd cd)) rfl ?_;have k1:=Zf.setCell hZ 0 (.slice Aa na ca);have k2:=Zf.setCell (hZ.set_ 0 (.slice Aa na ca)) 1 (.slice Ab nb cb);have k3:=Zf.setCell ((hZ.set_ 0 (.slice Aa na ca)).set_ 1 (.slice Ab nb cb)) 2 (.slice Ac nd cd);have k4:=(k1.trans k2).trans k3;have c2:=Za C hb C.size;have c3:pr3 m P nr o n'=lpM m:=(by rw[<-HP.out,bs.out,bt.out,bu.out];exact pr3_all m);rw[c3]at r;exact⟨_,rfl,⟨Aa,na,ca,Ab,nb,cb,Ac,nd,cd,rfl,(r.cost.but k4 Ql Ql).frs,(r.cols.but k4 Ql Ql Ql).vecs,(r.right.but k4 Ql Ql).frs⟩,((c2.setCell (p:=⟨W.heap.size,0,none⟩) b6 _).setCell (p:=⟨W.heap.size,1,none⟩) b6 _).setCell (p:=⟨W.heap.size,2,none⟩) b6 _⟩
section
open Pl Tryz
namespace Pl
def Ykj(R F:List Int):Zeb R F=WO (F.map (posR R)):=by
 unfold Zeb WO;rw[List.foldl_map]
def Yti{m:Ms}(ok:VM m){s:List Int}(hs:Sel (dcs m) s):XJ (dcs m) (Zeb m.rows m.rows) s=[]:=by
 unfold XJ;rw[List.filter_eq_nil_iff];intro i hi;obtain⟨c,hc⟩:=Ylw hs.rg hi;have a:=jC hc;unfold Ztq;rw[Ypc hc,Ykj];show¬decide (WO (c.ops.map (posR m.rows)) &&& WO (m.rows.map (posR m.rows))=0)=true;rw[iR,Zdi];intro h;obtain⟨f,hf⟩:=fG _ (ok.ne c a);exact h _ (jb.2 ⟨f,hf,rfl⟩) (jb.2 ⟨f,ok.sub c a f hf,rfl⟩)
def Ysj{m:Ms}{s:List Int}(h:Sel (dcs m) s):Zfi m s=m.base+YZ (dcs m) s:=by unfold Zfi;rw[h.err];rfl
def Yfd{m:Ms}(ok:VM m):∃b,Yrk (dcs m) [] b/\∀s,Sel (dcs m) s->(Zwq m s m.rows 1048576).2=true/\(Zwq m s m.rows 1048576).1.best=b:=by
 have hk:Sel (dcs m) []:=⟨λj hj=>by simp at hj,List.Pairwise.nil,List.Pairwise.nil⟩;obtain⟨b1,b2⟩:=Yhz (UF ok).ne (UF ok).len (base:=m.base) hk;refine⟨_,b1,λs hs=>?_⟩;have hl:(dcs m).length<=6:=by rw[YD];exact ok.ncol
 have hp:2^(dcs m).length+1<=1048576:=by
  have:2^(dcs m).length<=2^6:=jS Ql hl;omega
 have a:=Zsi (n:=m.rows.length) (UF ok) (base:=m.base) hk hs (by simp) b1 hp;rw[<-Ysj hs]at a;unfold Zwq;rw[Yti ok hs];exact a
end Pl
end
namespace Pl
def Kn:Ms:=⟨1,[0],10,[⟨[[⟨0,false⟩]],3⟩,⟨[[⟨0,false⟩]],2⟩],[]⟩
def Kn_ok:VM Kn where
 fl0:=Ql
 fl1:=Ql
 pen0:=Ql
 pen1:=Ql
 row0:=Ql
 row1:=Ql
 asc:=Ql
 rb:=Ql
 ncol:=Ql
 cost:=Ql
 ne:=Ql
 nd:=Ql
 sub:=Ql
 ncut:=Ql
 cut:=by simp[Kn]
def Kn_dcs:dcs Kn=[⟨0,1,[0],-7⟩,⟨1,1,[0],-8⟩]:=by rfl
def Kn_imp:(Zwq Kn [0] [0] 1048576).1.best=[1]/\(Zwq Kn [0] [0] 1048576).2=true:=by decide+kernel
def Kn_cost:Zfi Kn [1]=2/\We (dcs Kn) [1]=0:=by decide+kernel
def Kn_sel:Sel (dcs Kn) [0]:=by
 rw[Kn_dcs];exact⟨Ql,Ql,Ql⟩
def Yfe(q:Rat)(hq:0<q):Zto Kn [canF q,canF q]=[0]:=by
 have e0:qAt [canF q,canF q] 0=q:=by simp[qAt,Zv]
 have e1:qAt [canF q,canF q] 1=q:=by simp[qAt,Zv]
 have hp:0<qs q:=UZ.2 hq;unfold Zto Zjg;rw[Kn_dcs];simp[List.filter_cons,hiB,loB,e0,e1,hp,YC,VB,ltH,ltL,Rat.lt_irrefl,fillP,Ztn,Yj]
end Pl
def Ypo{w:World}{g:Nat}{f:RF}{b b':Bool}{A A':Option Addr}{n c n' c':Nat}(h:Bk w g 49 [.bool b,.slice A n c,.bool b',.slice A' n' c',.bool b,.slice A n c,.bool b',.slice A' n' c'])(hf:Zx w (.agg #[.bool b,.slice A n c,.bool b',.slice A' n' c']) f):UY w (.slice (some ⟨g,0,none⟩) 2 2) [f,f]:=by
 refine⟨_,⟨_,2,rfl,rfl,JY _,Ql,λ_=>⟨g,0,_,(0,0),rfl,h,λj u hj=>by simpa using hj⟩⟩,rfl,λk x hk=>?_⟩;have a:k<2:=by have:=(JO.1 hk).1;simpa using this
 match k,a,hk with
 |0,_,hk=>simp at hk;subst hk;exact⟨_,_,_,_,rfl,rfl,rfl,rfl,hf⟩
 |1,_,hk=>simp at hk;subst hk;exact⟨_,_,_,_,rfl,rfl,rfl,rfl,hf⟩
def Yff{α:Type}{R:World->α->List Value->Prop}{t:TypeId}{s:Nat}{w:World}{g:Nat}{cs:List Value}{l:List α}(h:Bk w g t cs)(hl:cs.length=l.length*s)(hm:l.length<=1000)(hx:∀(k:Nat) (x:α),l[k]? =some x->∃u,R w x u/\u.length=s/\∀(j:Nat) (y:Value),u[j]? =some y->cs[k*s+j]? =some y):RdM R t s w (.slice (some ⟨g,0,none⟩) l.length l.length) l:=
 ⟨cs,⟨_,_,rfl,hl,JY _,by unfold maxLen;omega,λ_=>⟨g,0,_,(0,0),rfl,h,λj u hj=>by simpa using hj⟩⟩,hx⟩
def Ysk(w:World):∃W,(((((w.alloc (.cells #[.int .i64 0,.bool false] 107)).alloc (.cells #[.slice (some ⟨w.heap.size,0,none⟩) 1 1] 109)).alloc (.cells #[.int .i64 0] 3)).alloc (.cells #[.string ⟨#[]⟩,.slice (some ⟨w.heap.size+1,0,none⟩) 1 1,.int .i64 3,.string ⟨#[]⟩,.slice (some ⟨w.heap.size+1,0,none⟩) 1 1,.int .i64 2] 64)).alloc (.cells #[.int .i64 1,.slice (some ⟨w.heap.size+1+1,0,none⟩) 1 1,.int .i64 10,.slice (some ⟨w.heap.size+1+1+1,0,none⟩) 2 2,.slice none 0 0] 26))=W/\Below w.heap.size w W/\
 Bk W (w.heap.size+1+1+1+1) 26 [.int .i64 1,.slice (some ⟨w.heap.size+1+1,0,none⟩) 1 1,.int .i64 10,.slice (some ⟨w.heap.size+1+1+1,0,none⟩) 2 2,.slice none 0 0]/\
 MsM W (.agg #[.int .i64 1,.slice (some ⟨w.heap.size+1+1,0,none⟩) 1 1,.int .i64 10,.slice (some ⟨w.heap.size+1+1+1,0,none⟩) 2 2,.slice none 0 0]) Kn:=by
 obtain⟨w1,e1,b1,s1,k1⟩:∃W,w.alloc (.cells #[.int .i64 0,.bool false] 107)=W/\Below w.heap.size w W/\W.heap.size=w.heap.size+1/\Bk W w.heap.size 107 [.int .i64 0,.bool false]:=⟨_,rfl,Ze _ _,by simp,Bk.new w _ [.int .i64 0,.bool false]⟩;rw[e1];obtain⟨w2,e2,b2,s2,k2⟩:∃W,w1.alloc (.cells #[.slice (some ⟨w.heap.size,0,none⟩) 1 1] 109)=W/\Below w1.heap.size w1 W/\W.heap.size=w1.heap.size+1/\Bk W w1.heap.size 109 [.slice (some ⟨w.heap.size,0,none⟩) 1 1]:=⟨_,rfl,Ze _ _,by simp,Bk.new w1 _ [.slice (some ⟨w.heap.size,0,none⟩) 1 1]⟩;rw[e2];obtain⟨w3,e3,b3,s3,k3⟩:∃W,w2.alloc (.cells #[.int .i64 0] 3)=W/\Below w2.heap.size w2 W/\W.heap.size=w2.heap.size+1/\Bk W w2.heap.size 3 [.int .i64 0]:=⟨_,rfl,Ze _ _,by simp,Bk.new w2 _ [.int .i64 0]⟩;rw[e3];obtain⟨w4,e4,b4,s4,k4⟩:∃W,w3.alloc (.cells #[.string ⟨#[]⟩,.slice (some ⟨w.heap.size+1,0,none⟩) 1 1,.int .i64 3,.string ⟨#[]⟩,.slice (some ⟨w.heap.size+1,0,none⟩) 1 1,.int .i64 2] 64)=W/\Below w3.heap.size w3 W/\W.heap.size=w3.heap.size+1/\Bk W w3.heap.size 64 [.string ⟨#[]⟩,.slice (some ⟨w.heap.size+1,0,none⟩) 1 1,.int .i64 3,.string ⟨#[]⟩,.slice (some ⟨w.heap.size+1,0,none⟩) 1 1,.int .i64 2]:=⟨_,rfl,Ze _ _,by simp,Bk.new w3 _ [.string ⟨#[]⟩,.slice (some ⟨w.heap.size+1,0,none⟩) 1 1,.int .i64 3,.string ⟨#[]⟩,.slice (some ⟨w.heap.size+1,0,none⟩) 1 1,.int .i64 2]⟩;rw[e4];obtain⟨w5,e5,b5,s5,k5⟩:∃W,w4.alloc (.cells #[.int .i64 1,.slice (some ⟨w.heap.size+1+1,0,none⟩) 1 1,.int .i64 10,.slice (some ⟨w.heap.size+1+1+1,0,none⟩) 2 2,.slice none 0 0] 26)=W/\Below w4.heap.size w4 W/\W.heap.size=w4.heap.size+1/\Bk W w4.heap.size 26 [.int .i64 1,.slice (some ⟨w.heap.size+1+1,0,none⟩) 1 1,.int .i64 10,.slice (some ⟨w.heap.size+1+1+1,0,none⟩) 2 2,.slice none 0 0]:=⟨_,rfl,Ze _ _,by simp,Bk.new w4 _ [.int .i64 1,.slice (some ⟨w.heap.size+1+1,0,none⟩) 1 1,.int .i64 10,.slice (some ⟨w.heap.size+1+1+1,0,none⟩) 2 2,.slice none 0 0]⟩;rw[e5];rw[s4,s3,s2,s1]at k5;rw[s3,s2,s1]at k4;rw[s2,s1]at k3;rw[s1]at k2;have q1:=(((k1.later b2).later b3).later b4).later b5;have q2:=((k2.later b3).later b4).later b5;have q3:=(k3.later b4).later b5;have q4:=k4.later b5;have hT:DutM w5 (.slice (some ⟨w.heap.size,0,none⟩) 1 1) [⟨0,false⟩]:=Yff (l:=[(⟨0,false⟩:Tk)]) q1 rfl Ql λk x hk=>by
  have a:k<1:=by have:=(JO.1 hk).1;simpa using this
  obtain rfl:k=0:=Qk
  simp only[gF,dV]at hk;subst hk;exact⟨[.int .i64 0,.bool false],⟨rfl,Ql,Ql⟩,rfl,λj y hj=>by simpa using hj⟩
 have hD:DutsM w5 (.slice (some ⟨w.heap.size+1,0,none⟩) 1 1) [[⟨0,false⟩]]:=Yff (l:=[[(⟨0,false⟩:Tk)]]) q2 rfl Ql λk x hk=>by
  have a:k<1:=by have:=(JO.1 hk).1;simpa using this
  obtain rfl:k=0:=Qk
  simp only[gF,dV]at hk;subst hk;exact⟨[.slice (some ⟨w.heap.size,0,none⟩) 1 1],⟨_,_,_,rfl,hT⟩,rfl,λj y hj=>by simpa using hj⟩
 refine⟨w5,rfl,((((b1.trans (b2.mono Qk)).trans (b3.mono Qk)).trans (b4.mono Qk)).trans (b5.mono Qk)),k5,_,_,_,_,_,_,_,_,_,rfl,Wy (zs:=[0]) q3 rfl Ql Ql,?_,RdM.nil _ _ _ _ _ (iI _)⟩;refine Yff (l:=Kn.cols) q4 rfl Ql λk x hk=>?_
 have a:k<2:=by have:=(JO.1 hk).1;simpa[Kn]using this
 match k,a,hk with
 |0,_,hk=>
  simp only[Kn,gF,dV]at hk;subst hk;exact⟨[.string ⟨#[]⟩,.slice (some ⟨w.heap.size+1,0,none⟩) 1 1,.int .i64 3],⟨_,_,_,_,rfl,hD⟩,rfl,λj y hj=>by
   have b:j<3:=by have:=(JO.1 hj).1;simpa using this
   match j,b,hj with
   |0,_,hj=>exact hj
   |1,_,hj=>exact hj
   |2,_,hj=>exact hj⟩
 |1,_,hk=>
  simp only[Kn,List.getElem?_cons_succ,gF,dV]at hk;subst hk;exact⟨[.string ⟨#[]⟩,.slice (some ⟨w.heap.size+1,0,none⟩) 1 1,.int .i64 2],⟨_,_,_,_,rfl,hD⟩,rfl,λj y hj=>by
   have b:j<3:=by have:=(JO.1 hj).1;simpa using this
   match j,b,hj with
   |0,_,hj=>exact hj
   |1,_,hj=>exact hj
   |2,_,hj=>exact hj⟩
def Zzl(w:World):Calls prog 16 #[] w λe w'=>e= .returned (.bool true)/\Below w.heap.size w w':=by
 go_enter func16,ntmps16;go_wp2_with fail;obtain⟨W,hW,U,hX,hM⟩:=Ysk w;rw[hW];clear hW;refine(Zlv 1 _ Qk Qk).mono ?_;rintro _ w1 ⟨v1,rfl,e1,z⟩;go_wp2_with fail;refine(Zlv 2 _ Qk Qk).mono ?_;rintro _ w2 ⟨v2,rfl,e2,A⟩;have s1:Sz 1 (((1:Int)):Rat):=Zuu Qk Qk;have s2:Sz 1 (((2:Int)):Rat):=Zuu Qk Qk;go_wp2_with fail;refine(Ybb _ _ _ _ _ (e1.frac.below A) e2.frac (s1.sh Ql) (s2.sh Ql)).mono ?_;rw[Zv,Zv];rintro _ w3 ⟨v3,rfl,e3,a9⟩;have y:=Za (Za z A z.size) a9 (by have:=z.size;have:=A.size;omega);have J:=hX.later y;have V:=JZ (hM.below y);have j:=Za U y U.size;have E:0< (((1:Int)):Rat)/ (((2:Int)):Rat):=by decide+kernel
 have HV:Hid (Zx w3 v3 (canF ((((1:Int)):Rat)/ (((2:Int)):Rat)))/\VOK (canF ((((1:Int)):Rat)/ (((2:Int)):Rat)))):=JZ ⟨e3.frac,_,rfl,Zbf s1 s2⟩;have HG:=JZ (Yfe _ E);clear s1 s2 e1 e2 e3 z A a9 hX hM U y E;generalize canF ((((1:Int)):Rat)/ (((2:Int)):Rat))=f at *;obtain⟨B,l,d,B',l',d',ad,_,_⟩:=id HV.out.1;subst ad;have ab:=J.lt;have ae:w.heap.size<=w.heap.size+1+1+1+1:=Qk
 generalize w.heap.size+1+1+1+1=gm at *
 go_upto_region 4 with(fail)
 have k:=Ze w3 (.cells #[.bool f.num.neg,.slice B l d,.bool f.den.neg,.slice B' l' d'] 49);have K:=Bk.new w3 49 [.bool f.num.neg,.slice B l d,.bool f.den.neg,.slice B' l' d'];have e:(#[.bool f.num.neg,.slice B l d,.bool f.den.neg,.slice B' l' d']:Array Value)=[.bool f.num.neg,.slice B l d,.bool f.den.neg,.slice B' l' d'].toArray:=rfl;rw[<-e]at K;clear e;have L:=J.later k;have X:=JZ (V.out.below k);have M:=JZ (And.intro (HV.out.1.below k) HV.out.2);have m:=Za j k j.size;clear J V HV j k ab;generalize w3.alloc (.cells #[.bool f.num.neg,.slice B l d,.bool f.den.neg,.slice B' l' d'] 49)=w4 at *;obtain⟨x0,x1,x2,x3,x4⟩:=L.five;obtain⟨y0,y1,y2,y3⟩:=K.four;go_wp2_with fail;clear x0 x1 x2 x3 x4 y0 y1 y2 y3;have n:=Ze w4 (.cells #[.bool f.num.neg,.slice B l d,.bool f.den.neg,.slice B' l' d',.bool f.num.neg,.slice B l d,.bool f.den.neg,.slice B' l' d'] 49);have N:=Bk.new w4 49 [.bool f.num.neg,.slice B l d,.bool f.den.neg,.slice B' l' d',.bool f.num.neg,.slice B l d,.bool f.den.neg,.slice B' l' d'];have e:(#[.bool f.num.neg,.slice B l d,.bool f.den.neg,.slice B' l' d',.bool f.num.neg,.slice B l d,.bool f.den.neg,.slice B' l' d']:Array Value)=[.bool f.num.neg,.slice B l d,.bool f.den.neg,.slice B' l' d',.bool f.num.neg,.slice B l d,.bool f.den.neg,.slice B' l' d'].toArray:=rfl;rw[<-e]at N;clear e;have Y:=L.later n;have O:=JZ (X.out.below n);have Z:=M.out.1.below n;have ac:=JZ M.out.2;have o:=Za m n m.size;clear L X M m n K;generalize w4.alloc (.cells #[.bool f.num.neg,.slice B l d,.bool f.den.neg,.slice B' l' d',.bool f.num.neg,.slice B l d,.bool f.den.neg,.slice B' l' d'] 49)=w5 at *;have a0:Hid (UY w5 (.slice (some ⟨w4.heap.size,0,none⟩) 2 2) [f,f]):=JZ (Ypo N Z);clear N Z;refine(Zzf _ _ Kn [f,f] _ O.out Kn_ok a0.out rfl (by intro g hg;simp at hg;subst hg;exact ac.out)).mono ?_;rw[show Yey Kn [f,f] w5=Yey Kn [f,f] w5 from rfl];rintro _ w6 ⟨v6,rfl,h6,C⟩;rw[HG.out]at h6;obtain⟨A6,n6,c6,rfl⟩:=h6.sliceN;have P:=Y.later C;have a1:=JZ (O.out.below C);have H6:=JZ h6.ints;have p:=Za o C o.size;clear Y O o C h6 a0;obtain⟨x0,x1,x2,x3,x4⟩:=P.five;go_wp2_with fail;clear x0 x1 x2 x3 x4;have q:=Ze w6 (.cells #[.int .i64 0] 3);have a2:=(Wy (zs:=[0]) (Bk.new w6 3 [.int .i64 0]) rfl Ql Ql).ints;have a3:=P.later q;have R:=JZ (a1.out.below q);have H7:=JZ (H6.out.below q);have a4:=JZ a2;have r:=Za p q p.size;clear P a1 p q a2 H6;have F:=JZ (Zcb _ _ _ Kn [0] [0] 1048576 _ R.out Kn_ok H7.out Kn_sel a4.out (dU _) Ql);refine F.out.mono ?_;clear F;rintro _ w8 ⟨v8,rfl,h8,v⟩;rw[Kn_imp.1]at h8;rw[Kn_imp.2];obtain⟨A8,c8,rfl,_,_⟩:=h8.shape;have a5:=a3.later v;have a6:=JZ (R.out.below v);have H8:=JZ (And.intro (H7.out.below v) h8);have s:=Za r v r.size;clear a3 R r v h8 H7 a4;generalize((Zwq Kn [0] [0] 1048576).1.used:Int)=us at *;obtain⟨x0,x1,x2,x3,x4⟩:=a5.five;go_wp2_with fail;refine(Zwi _ _ Kn [1] _ a6.out Kn_ok H8.out.2).mono ?_;rw[Kn_cost.1,Kn_cost.2];rintro _ w9 ⟨rfl,D⟩;have H9:=JZ (And.intro (H8.out.1.below D) (H8.out.2.below D));have t:=Za s D s.size;clear x0 x1 x2 x3 x4 a5 a6 s D H8;go_wp2_with fail;have i:=Ze w9 (.cells #[.int .i64 0] 3);have G:=(Wy (zs:=[0]) (Bk.new w9 3 [.int .i64 0]) rfl Ql Ql).ints;have S:=JZ (And.intro (H9.out.1.below i) (H9.out.2.below i));have b:=Za t i t.size;refine(Zad _ _ [0] [0] _ S.out.1 G).mono ?_;rw[show decide (([0]:List Int)=[0])=true from rfl];rintro _ aa ⟨rfl,x⟩;have a7:=JZ (S.out.2.below x);have c:=Za b x b.size;clear i G S b x H9 t;go_wp2_with fail;have u:=Ze aa (.cells #[.int .i64 1] 3);have H:=(Wy (zs:=[1]) (Bk.new aa 3 [.int .i64 1]) rfl Ql Ql).ints;have a8:=JZ (a7.out.below u);have h:=Za c u c.size;refine(Zad _ _ [1] [1] _ a8.out H).mono ?_;rw[show decide (([1]:List Int)=[1])=true from rfl];rintro _ af ⟨rfl,I⟩;have T:=Za h I h.size;clear u H a8 h I a7 c;go_wp2;go_ret;exact⟨rfl,T⟩
namespace Pl
def Zrd(p:LPd)(s:LSt)(k:Nat):Rat:=ZF (λi=>XE p 2 (s.at_ i)*qAt (zL p s) i) k
def Zqv{p:LPd}{s:LSt}{k:Nat}:Zrd p s (k+1)=Zrd p s k+XE p 2 (s.at_ k)*qAt (zL p s) k:=rfl
def Ykk{p:LPd}{s:LSt}:Zrd p s p.right.length=Zax p 2 s:=rfl
def Ysl{p:LPd}{s:LSt}{K k:Nat}(F:p.Ft K)(hk:k<=7):Sz (14* (5^p.right.length*K)+8) (Zrd p s k):=by
 have h1:K<=5^p.right.length*K:=F.1.le;have h2:Sz (1+k* (2* (5^p.right.length*K)+1)) (Zrd p s k):=Zor λi _=>(Vn (Zhx F.1.ok F.1.k1 _ _) ((Yqt F.1 s).qAt (JW F.1.k1 h1) i)).mono Qk
 have h3:k* (2* (5^p.right.length*K)+1)<=7* (2* (5^p.right.length*K)+1):=JS _ hk;exact h2.mono Qk
end Pl
def Yfg(e:Nat)(p:LPd)(s:LSt)(K:Nat)(w:World)(h:Zyu w e p s K)(F:p.Ft K)(hrg:Zuw p s):
 Calls prog 35 #[.pointer (some ⟨e,0,none⟩)] w λo w'=>∃v',o= .returned v'/\Zx w' v' (canF (Zax p 2 s))/\Below w.heap.size w w':=by
 obtain⟨Ab,cb,base,bi,gB,vz,hM,hI,-,hZ⟩:=id h;obtain⟨A,n,c,A',n',c',aq,ar,au,hE,g1,g2,g3⟩:=id hM;obtain⟨m1,m2,m3⟩:=g1.len;obtain⟨b1,b2,b3⟩:=hI.len;have a8:Hid (n=p.cols.length):=JZ (by rw[m1];exact F.1.cl);have a9:=JZ m1;have aa:=JZ hrg;have J:=Zer h.reg;have ab:=JZ J;obtain⟨Az,cz,a2,aj,av⟩:=hZ.shape;rw[J]at a2 aj;subst a2;have ao:p.right.length<=7:=F.2.1;have HF:=JZ F;have HJ:Hid (K<=5^p.right.length*K/\1<=K/\5^p.right.length*K<=4000000):=JZ ⟨F.1.le,F.1.k1,F.2.2⟩;have ac:=JZ (Yqt F.1 s);have ad:=JZ F.1.ok.1;have HE:=JZ hE;have HI:=JZ hI;have ae:=JZ hZ;have af:=JZ g1;obtain⟨W0,ak,M,N⟩:=Xp w (.bool false) (.slice none 0 0) (.bool false) (.slice none 0 0);clear h hM g1 g2 g3 m1 b1 J hrg hZ hI hE F;go_enter func35,ntmps35;go_wp2_with fail;clear ak;refine(Zix 0 _ Qk Qk).mono ?_;rintro _ w1 ⟨v1,f1,rfl,e2,rfl,I⟩;rw[show canF ((0:Int):Rat)=canF (Zrd p s 0)from rfl]at e2;obtain⟨B1,m1,d1,B2,m2,d2,rfl,_,_⟩:=id e2;obtain⟨W3,al,a3,B⟩:=Xp w1 (.bool (canF (Zrd p s 0)).num.neg) (.slice B1 m1 d1) (.bool (canF (Zrd p s 0)).den.neg) (.slice B2 m2 d2);have P:=(M.later I).later B;have g:=Za N I N.size;have j:=Za g B g.size;have e3:=e2.below B;have q4:=(HE.out.later j).cellAt 4 rfl;have ag:w.heap.size<w1.heap.size:=by have:=M.lt;have:=I.size;omega
 clear M e2 N I B g;go_wp2;clear al q4;have R:Znk W3 w1.heap.size (Zrd p s 0):=⟨_,_,_,_,_,_,a3,e3⟩;clear a3 e3;generalize w1.heap.size=gt at *
 go_loopw [12] (λx wr=>∃k:Nat,k<=p.right.length/\x= .int .i64 k/\Below w.heap.size w wr/\Znk wr gt (Zrd p s k)/\Bk wr w.heap.size 49 [.bool false,.slice none 0 0,.bool false,.slice none 0 0]) (λx _=>p.right.length - (intOf x).toNat)
 case atStart=>exact⟨0,Qk,rfl,j,R,P⟩
 case round=>
  clear j R P;obtain⟨k,hk,rfl,a,hT,hR⟩:=hrel;rcases JX k p.right.length with hkl|hkl
  ·have ap:(k:Int)<p.right.length:=Qk;obtain⟨bb,ob,z,hA,z0,O,z1,z2⟩:=HI.out.at_ hkl;subst hA;have z3:=Zi a z0;have b:=aa.out k hkl;rw[LSt.at_eq O]at b;have S:Hid (s.at_ k=z):=JZ (LSt.at_eq O);obtain⟨r0,r1⟩:=b;have r2:z<n:=(by rw[a8.out];exact r1);clear r1 z0 O;rcases jR z 0 with hz0|hz0
   ·have hN:Zrd p s k=Zrd p s (k+1):=(by rw[Zqv,S.out,Ws Qk Qk];grind);rw[hN]at hT;clear hN;go_wp2;go_roundw
    case rel=>exact⟨k+1,Qk,by go_num,a,hT,hR⟩
    case measure=>exact Qn
   ·obtain⟨jn,rfl⟩:=JT hz0;obtain⟨fz,C⟩:=YJ (fs:=zL p s) (i:=k) (by rw[ab.out];exact hkl);obtain⟨f,hf⟩:=YJ (fs:=p.cost) (i:=jn) (by rw[<-a9.out];omega);have T:Hid (Zrd p s (k+1)=Zrd p s k+f.q*fz.q):=JZ (by
     rw[Zqv,S.out,Ub hz0,show(jn:Int).toNat=jn from JP jn,YW hf,YW C])
    have L:=ad.out jn f hf;have b:=ac.out k fz C;have U:f.Sm:=L.sm (by have:=HJ.out;omega);have V:fz.Sm:=b.sm (by have:=HJ.out;omega);have X:(canF (f.q*fz.q)).Sm:=(Vn (L.sz HJ.out.2.1) (b.sz (by have:=HJ.out;omega))).rs.sm (by have:=HJ.out;omega);obtain⟨b5,o5,A5,n5,c5,A6,n6,c6,am,_,⟨x0,x1,x2,x3⟩,a4⟩:=ae.out.elem a C;subst am;obtain⟨b7,o7,A7,n7,c7,A8,n8,c8,an,_,⟨u0,u1,u2,u3⟩,a5⟩:=af.out.elem a hf;subst an;have q0:=(HE.out.later a).cellAt 0 rfl;have q7:=(HE.out.later a).cellAt 7 rfl;obtain⟨A3,n3,c3,A4,n4,c4,d,u⟩:=hT;obtain⟨t0,t1,t2,t3⟩:=d.four;obtain⟨rr,D⟩:∃rr,rr=Zrd p s k:=⟨_,rfl⟩;have Y:(canF rr).Sm:=(by rw[D];exact(Ysl HF.out Qk).rs.sm (by have:=HJ.out;omega));have Z:=JZ D;rw[<-D]at t0 t2 u d;clear D hf C L b
    go_upto_region 6 with(fail)
    have C0:=Zm t0;have C1:=Zm t1;have C2:=Zm t2;have C3:=Zm t3;have D0:=Zm q0;have D1:=Zm q7;have E0:=Zm x0;have E1:=Zm x1;have E2:=Zm x2;have E3:=Zm x3;have G0:=Zm u0;have G1:=Zm u1;have G2:=Zm u2;have G3:=Zm u3;have l:=Zc wr;clear t0 t1 t2 t3 q0 q7 x0 x1 x2 x3 u0 u1 u2 u3 z3;refine Zj 18 [0,1,2,3,4,5,6,7,8,9,10,11,12,13,14,15,16,17,18] Qm Qm ?_;refine Qb ?_
    refine Qo λ_ kq=>?_;(with_reducible refine(WV _ _ f fz _ (a5.below l) (a4.below l) U V).mono ?_);rintro _ w6 ⟨v6,rfl,e6,a6⟩;have m:=Za l a6 l.size;refine kq.out _ _ (.inr m) (Qc ?_);clear kq
    refine Qo λ_ kq=>?_;(with_reducible refine(Zgi _ _ (canF rr) (canF (f.q*fz.q)) _ (u.below m) e6 Y X).mono ?_);rw[Zv,Zv];rintro _ w7 ⟨v7,rfl,e7,a7⟩;have r:=Za m a7 m.size;obtain⟨B9,l9,k9,E,G,H,rfl,_,_⟩:=id e7;have t:=d.later r;obtain⟨c0,c1,c2,c3⟩:=t.four;obtain⟨f0,f1,f2,f3⟩:=t.fourF;refine kq.out _ _ (.inr r) (Qc ?_);clear kq
    refine Qh ?_;refine Zl ?_;clear C0 C1 C2 C3 D0 D1 E0 E1 E2 E3 G0 G1 G2 G3;have a0:=t.but4 (.bool (canF (rr+f.q*fz.q)).num.neg) (.slice B9 l9 k9) (.bool (canF (rr+f.q*fz.q)).den.neg) (.slice E G H);have ah:=(hR.later r).far4 (g':=gt) Qk (.bool (canF (rr+f.q*fz.q)).num.neg) (.slice B9 l9 k9) (.bool (canF (rr+f.q*fz.q)).den.neg) (.slice E G H);have a1:=ZE (Za a r a.size) (jZ ag) (.bool (canF (rr+f.q*fz.q)).num.neg) (.slice B9 l9 k9) (.bool (canF (rr+f.q*fz.q)).den.neg) (.slice E G H);have ai:Znk _ gt (Zrd p s (k+1)):=⟨B9,l9,k9,E,G,H,by rw[T.out,<-Z.out];exact t.set4 _ _ _ _,by rw[T.out,<-Z.out];exact e7.keep (a0.keep Ql)⟩;clear t hR a l m r e6 e7 a6 a7 c0 c1 c2 c3 f0 f1 f2 f3 a4 a5 u a0 Y V U X d;go_wp2;go_roundw
    case rel=>exact⟨k+1,Qk,by go_num,a1,ai,ah⟩
    case measure=>exact Qn
  ·obtain rfl:k=p.right.length:=Qk
   rw[Ykk]at hT;obtain⟨A6,n6,c6,A7,n7,c7,d,u⟩:=hT;obtain⟨t0,t1,t2,t3⟩:=d.four;obtain⟨c0,c1,c2,c3⟩:=hR.four;obtain⟨f0,f1,f2,f3⟩:=hR.fourF;go_wp2;refine Zq results35 underlying49 Qm rfl (hR.set4 _ _ _ _) rfl ?_;exact YA hR u a (JY _)
namespace Pl
def VF(p:LPd)(s:LSt):Int:=if lpErr p=0 then vsErr p s else lpErr p
def Zws{p:LPd}{s:LSt}(h:lpErr p≠0):VF p s=lpErr p:=jA h
def Ypp{p:LPd}{s:LSt}(S:s.Fit p):Zuw p s:=λi hi=>by
 obtain⟨z,hz⟩:∃z,s.basis[i]? =some z:=⟨_,JQ (by have:=S.2;omega)⟩
 rw[LSt.at_eq hz]
 exact S.1 i z hz
def Zec{p:LPd}{s:LSt}(h:lpErr p=0):VF p s=vsErr p s:=jB h
end Pl
namespace Pl
def Ysp(p:LPd)(s:LSt):RF:=if VF p s=0 then canF (Zax p 2 (settleQ p s))else zeroF
def Yfh{p:LPd}{s:LSt}(h:VF p s≠0):Ysp p s=zeroF:=jA h
def Zwt{p:LPd}{s:LSt}(h:VF p s=0):Ysp p s=canF (Zax p 2 (settleQ p s)):=jB h
end Pl
def Zzm(v1 v2:Value)(p:LPd)(s:LSt)(K:Nat)(w:World)(h:LpM w v1 p)(h2:StM w v2 s)(ok:p.Ok K)(hF:lpErr p=0->p.Ft K)(hbl:s.basis.length<=1099511627776)(hrg:∀z∈s.basis,-9223372036854775808<=z/\z<=9223372036854775807):
 Calls prog 11 #[v1,v2] w λo w'=>∃v',o= .returned (.tuple #[v',.int .i64 (VF p s)])/\Zx w' v' (Ysp p s)/\Below w.heap.size w w':=by
 obtain⟨A,n,c,A',n',c',M,N,O,rfl,hc,hv,hr⟩:=id h;obtain⟨Ab,nb,cb,rfl,hI⟩:=id h2;obtain⟨W,hW,y,j⟩:=Zfn w (.slice A n c) (.slice A' n' c') (.slice M N O);obtain⟨W1,P,v,k⟩:=Zfq W (.int .i64 s.phase) (.slice Ab nb cb) (.int .i64 s.pivots);obtain⟨W2,R,B,t⟩:=Xp W1 (.bool false) (.slice none 0 0) (.bool false) (.slice none 0 0);have hX:=(y.later k).later t;have b:=Za j k j.size;have g:=Za b t b.size;have E:W.heap.size=w.heap.size+1:=by rw[<-hW];simp
 rw[E]at v;have F:=JZ h;have G:=JZ h2;have i:=JZ (⟨ok,hF,hbl,hrg⟩:p.Ok K/\(lpErr p=0->p.Ft K)/\s.basis.length<=1099511627776/\∀z∈s.basis,-9223372036854775808<=z/\z<=9223372036854775807);obtain⟨x0,x1,x2⟩:=hX.three;obtain⟨y0,y1,y2⟩:=(v.later t).three;have u:w.heap.size<=W1.heap.size:=b.size;clear b t h h2 hc hv hr hI y j k hX v ok hF hbl hrg;go_enter func11,ntmps11;go_wp2_with fail;clear hW P R;refine(Znn _ _ p s K _ (F.out.below g) (G.out.below g) i.out.1 i.out.2.1 i.out.2.2.1 i.out.2.2.2).mono ?_;intro o w2 ho;obtain⟨m,ho⟩:=ho;have d:=Za g m g.size;have a:=B.later m;clear B;generalize W1.heap.size=gr at *;clear g x0 x1 x2 y0 y1 y2;rcases ho with⟨he,rfl⟩|⟨hz,he,rfl⟩|⟨hz,he,e,rfl,hE⟩
 ·have hS:VF p s=lpErr p:=Zws he;have H:(lpErr p !=0)=true:=by simpa using he
  have HS:=JZ hS;have HE:Hid (VF p s≠0):=JZ (by rw[hS];exact he);clear hS he m;generalize lpErr p=L at *;obtain⟨c0,c1,c2,c3⟩:=a.four;obtain⟨f0,f1,f2,f3⟩:=a.fourF;go_wp2;refine Xb results11 underlying49 Qm rfl (a.set4 _ _ _ _) rfl ?_;exact⟨_,by rw[HS.out];rfl,by rw[Yfh HE.out];exact Zx.zero _,ZE d u _ _ _ _⟩
 ·have hS:VF p s=vsErr p s:=Zec hz;have H:(vsErr p s !=0)=true:=by simpa using he
  have HS:=JZ hS;have HE:Hid (VF p s≠0):=JZ (by rw[hS];exact he);clear hS he hz m;generalize vsErr p s=L at *;obtain⟨c0,c1,c2,c3⟩:=a.four;obtain⟨f0,f1,f2,f3⟩:=a.fourF;go_wp2;refine Xb results11 underlying49 Qm rfl (a.set4 _ _ _ _) rfl ?_;exact⟨_,by rw[HS.out];rfl,by rw[Yfh HE.out];exact Zx.zero _,ZE d u _ _ _ _⟩
 ·have HS:Hid (VF p s=0):=JZ (by rw[Zec hz];exact he);have HV:=JZ (Yll he);have I:=JZ (i.out.2.1 hz);have J:=JZ hE.r;clear hz he m hE;go_wp2_with fail;refine(Yfg e p (settleQ p s) K _ J.out I.out (Ypp HV.out.settle.fit)).mono ?_;rintro _ w3 ⟨v3,rfl,e3,D⟩;obtain⟨C,l,f,C',l',f',rfl,_,_⟩:=id e3;have x:=Za d D d.size;have q:=a.later D;obtain⟨c0,c1,c2,c3⟩:=q.four;obtain⟨f0,f1,f2,f3⟩:=q.fourF;clear a;go_wp2;refine Xb results11 underlying49 Qm rfl (q.set4 _ _ _ _) rfl ?_;exact⟨_,by rw[HS.out];rfl,by rw[Zwt HS.out];exact e3.keep (q.keep4 Ql _ _ _ _),ZE x u _ _ _ _⟩
namespace Pl
def stL(m k:Nat):List Int:=(List.range m).map λi:Nat=>if i<k then -1 - (i:Int)else 0
def Zlj{m k:Nat}:(stL m k).length=m:=by simp[stL]
def Ykl{m:Nat}:stL m 0=List.replicate m 0:=by simp[stL,List.map_const']
def Ykm{m k:Nat}:(stL m k).set k (-1 - (k:Int))=stL m (k+1):=by
 refine List.ext_getElem (by simp[stL]) λi h1 h2=>?_
 simp only[stL,List.getElem_set,List.getElem_map,List.getElem_range];by_cases e:k=i
 ·subst e;simp
 ·rw[jA e];by_cases g:i<k
  ·rw[jB g,jB Qk]
  ·rw[jA g,jA Qk]
def Ypq{m:Nat}:stL m m=Zsf m:=by
 unfold stL Zsf;exact fH λi hi=>by rw[jB (iT.1 hi)]
def Ypr(p:LPd):LSt:=if lpErr p=0 then settleQ p (YG p)else⟨0,[],0⟩
def Ykn{p:LPd}(h:lpErr p≠0):Ypr p=⟨0,[],0⟩:=jA h
def Zqw{p:LPd}(h:lpErr p=0):Ypr p=settleQ p (YG p):=jB h
end Pl
def Zzn(v1:Value)(p:LPd)(K:Nat)(w:World)(h:LpM w v1 p)(ok:p.Ok K)(hF:lpErr p=0->p.Ft K):
 Calls prog 9 #[v1] w λo w'=>∃v',o= .returned (.tuple #[v',.int .i64 (lpErr p)])/\StO w.heap.size w' v' (Ypr p)/\Below w.heap.size w w':=by
 obtain⟨A,n,c,A',n',c',a0,m,a1,rfl,hc,hv,hr⟩:=id h;obtain⟨W,hW,a2,i⟩:=Zfn w (.slice A n c) (.slice A' n' c') (.slice a0 m a1);obtain⟨W1,ai,a3,r⟩:=Zfq W (.int .i64 0) (.slice none 0 0) (.int .i64 0);have hX:=a2.later r;have a:=Za i r i.size;obtain⟨r1,r2,r3⟩:=hr.len;have J:=JZ h;have u:=JZ (⟨ok,hF⟩:p.Ok K/\(lpErr p=0->p.Ft K));have HM:=JZ r1;obtain⟨x0,x1,x2⟩:=hX.three;have j:w.heap.size<=W.heap.size:=i.size;clear h hc hv hr r1 a2 i r ok hF;go_enter func9,ntmps9;go_wp2_with fail;clear hW ai;refine(Zfo _ p K _ (J.out.below a) u.out.1).mono ?_;rintro _ w3 ⟨rfl,C⟩;have v:=hX.later C;have d:=a3.later C;have b:=Za a C a.size;have a7:W.heap.size<w3.heap.size:=d.lt_;generalize W.heap.size=gr at *;clear x0 x1 x2 hX a3 a C;by_cases hz:lpErr p=0
 ·rw[hz];have HZ:=JZ hz;have M:=JZ (u.out.2 hz);have hm:m<=7:=by rw[HM.out];exact M.out.2.1
  have a8:Hid (vsErr p (YG p)=0):=JZ (Zde p).vs;have am:=Zab m Qk;have F:=Zt.zeros w3 m (by unfold maxLen;omega);have l:=Ze w3 (.cells (zic m) 3);obtain⟨W4,a4⟩:∃W4,w3.alloc (.cells (zic m) 3)=W4:=⟨_,rfl⟩;rw[a4]at F l;obtain⟨W5,aj,s,t⟩:=Zfq W4 (.int .i64 1) (.slice (some ⟨w3.heap.size,0,none⟩) m m) (.int .i64 0);have f:=Za b l b.size;have D:=Za f t f.size;have N:=(v.later l).later t;have O:=(d.later l).later t;have G:=(F.below t).monoB b.size;rw[<-Ykl]at G;obtain⟨x0,x1,x2⟩:=v.three;obtain⟨y0,y1,y2⟩:=s.three;obtain⟨f0,f1,f2⟩:=s.threeF;have a9:w.heap.size<=w3.heap.size:=b.size;have aa:w.heap.size<=W4.heap.size:=f.size;have al:w3.heap.size<=W4.heap.size:=l.size;clear hz F l t f v d b;go_wp2;clear a4 aj x0 x1 x2 y0 y1 y2 f0 f1 f2;generalize W4.heap.size=gs at *;generalize w3.heap.size=gz at *;have kk:=Zf.setCell s 2 (.int .i64 0);have P:=s.set_ 2 (.int .i64 0);have E:=D.setCell (p:=⟨gs,2,none⟩) aa (.int .i64 0);have R:=N.set_other (g:=gs) Qk 2 (.int .i64 0);have S:=O.set_other (g:=gs) Qk 2 (.int .i64 0);have T:=G.but kk Ql;clear N O G D kk s;generalize W5.setCell ⟨gs,2,none⟩ (.int .i64 0)=W6 at *
  go_loopw [23] (λx wr=>∃k:Nat,k<=m/\x= .int .i64 k/\Below w.heap.size w wr/\Bk wr w.heap.size 37 [.slice A n c,.slice A' n' c',.slice a0 m a1]/\Bk wr gr 41 [.int .i64 0,.slice none 0 0,.int .i64 0]/\Bk wr gs 41 [.int .i64 1,.slice (some ⟨gz,0,none⟩) m m,.int .i64 0]/\Zt w.heap.size wr (.slice (some ⟨gz,0,none⟩) m m) (stL m k)) (λx _=>m - (intOf x).toNat)
  case atStart=>exact⟨0,Qk,rfl,E,R,S,P,T⟩
  case round=>
   clear E R S P T;obtain⟨k,hk,rfl,a,hX,hR,hS,hO⟩:=hrel;obtain⟨y0,y1,y2⟩:=hS.three;rcases JX k m with hkl|hkl
   ·have an:(k:Int)<m:=Qk;have U: -9223372036854775808<=(-1 - (k:Int))/\(-1 - (k:Int))<=9223372036854775807:=Qk;obtain⟨t0,t1,-,-⟩:=hO.at_ (JQ (show k< (stL m k).length by rw[Zlj];exact hkl));obtain⟨a5,B⟩:=hO.set_ (k:=k) (by rw[Zlj];exact hkl) U.1 U.2;rw[Ykm]at a5;have ab:=B.bk hX Ql;have ac:=B.bk hR Ql;have ad:=B.bk hS Ql;have V:=a.setCell (p:=⟨gz,k,none⟩) a9 (.int .i64 (-1 - (k:Int)));clear hX hR hS hO a B;go_wp2;go_roundw
    case rel=>exact⟨k+1,Qk,by go_num,V,ab,ac,ad,a5⟩
    case measure=>exact Qn
   ·obtain rfl:m=k:=Qk
    rw[Ypq]at hO;have X:StM wr (.agg #[.int .i64 1,.slice (some ⟨gz,0,none⟩) m m,.int .i64 0]) (YG p):=⟨_,_,_,rfl,by show Z6 _ _ (Zsf p.right.length);rw[<-HM.out];exact hO.ints⟩;have ae:=JZ X;have af:Hid (∀z∈(YG p).basis,-9223372036854775808<=z/\z<=9223372036854775807):=JZ (by show∀z∈Zsf p.right.length,_;rw[<-HM.out];exact hO.2);obtain⟨x0,x1,x2⟩:=hX.three;clear X hkl hk;go_wp2_with fail;refine(Znn _ _ p (YG p) K _ (J.out.below a) ae.out u.out.1 u.out.2 (by show(Zsf p.right.length).length<=_;rw[Zbs,<-HM.out];omega) af.out).mono ?_;rintro o w8 ⟨I,ho⟩;rcases ho with⟨he,-⟩|⟨-,he,-⟩|⟨-,-,e,rfl,hE⟩
    ·exact absurd HZ.out he
    ·exact absurd a8.out he
    ·have q:=Za a I a.size;have Y:=hR.later I;have HE:=JZ hE;clear hE hX hR hS hO x0 x1 x2 y0 y1 y2 I a;go_wp2_with fail;refine(Zdy _ e p (settleQ p (YG p)) K _ HE.out M.out (Zde p).settle.fit).mono ?_;rintro _ w9 ⟨v9,rfl,e9,a6⟩;obtain⟨A9,n9,c9,rfl,ak⟩:=e9;have Z:=Za q a6 q.size;have y:=Y.later a6;obtain⟨c0,c1,c2⟩:=y.three;obtain⟨f0,f1,f2⟩:=y.threeF;have HS:=JZ (Zqw HZ.out);clear Y;have k0:=Zf.setCell y 0 (.int .i64 (settleQ p (YG p)).phase);have g0:=y.set_ 0 (.int .i64 (settleQ p (YG p)).phase);have k1:=Zf.setCell g0 1 (.slice A9 n9 c9);have g1:=g0.set_ 1 (.slice A9 n9 c9);have k2:=Zf.setCell g1 2 (.int .i64 (settleQ p (YG p)).pivots);have g2:=g1.set_ 2 (.int .i64 (settleQ p (YG p)).pivots);have ag:=ak.but ((k0.trans k1).trans k2) Ql;have H:=((Z.setCell (p:=⟨gr,0,none⟩) j (.int .i64 (settleQ p (YG p)).phase)).setCell (p:=⟨gr,1,none⟩) j (.slice A9 n9 c9)).setCell (p:=⟨gr,2,none⟩) j (.int .i64 (settleQ p (YG p)).pivots);go_wp2;refine Xb results9 underlying41 Qm rfl g2 rfl ?_;exact⟨_,by rw[HZ.out];rfl,by rw[HS.out];exact⟨A9,n9,c9,rfl,ag.monoB q.size⟩,H⟩
 ·have ah:(lpErr p !=0)=true:=by simpa using hz
  have HS:=JZ (Ykn hz);obtain⟨c0,c1,c2⟩:=d.three;obtain⟨f0,f1,f2⟩:=d.threeF;clear hz v a7 HM;obtain⟨L,hL⟩:∃L,lpErr p=L:=⟨_,rfl⟩;have HL:=JZ hL;rw[hL]at ah⊢;clear hL;have k0:=Zf.setCell d 0 (.int .i64 0);have g0:=d.set_ 0 (.int .i64 0);have g1:=g0.set_ 1 (.slice none 0 0);have g2:=g1.set_ 2 (.int .i64 0);have H:=((b.setCell (p:=⟨gr,0,none⟩) j (.int .i64 0)).setCell (p:=⟨gr,1,none⟩) j (.slice none 0 0)).setCell (p:=⟨gr,2,none⟩) j (.int .i64 0);go_wp2;refine Xb results9 underlying41 Qm rfl g2 rfl ?_;exact⟨_,by rw[HL.out];rfl,by rw[HS.out];exact⟨none,0,0,rfl,Zt.nil _ _⟩,H⟩
namespace Pl
def Yko(p:LPd)(s:LSt)(N:Nat):LSt:=if VF p s=0 then runL p N (settleQ p s)else⟨0,[],0⟩
def Zwu{p:LPd}{s:LSt}{N:Nat}(h:VF p s≠0):Yko p s N=⟨0,[],0⟩:=jA h
def Zed{p:LPd}{s:LSt}{N:Nat}(h:VF p s=0):Yko p s N=runL p N (settleQ p s):=jB h
end Pl
def Ykp(v1 v2:Value)(p:LPd)(s:LSt)(K:Nat)(w:World)(h:LpM w v1 p)(h2:StM w v2 s)(ok:p.Ok K)(hF:lpErr p=0->p.Ft K)(hbl:s.basis.length<=1099511627776)(hrg:∀z∈s.basis,-9223372036854775808<=z/\z<=9223372036854775807)(N:Nat)(hN:N<=9223372036854775807)(hpv:VF p s=0->s.pivots+N<=9223372036854775807):
 Calls prog 10 #[v1,v2,.int .i64 (N:Int)] w λo w'=>∃v',o= .returned (.tuple #[v',.int .i64 (VF p s)])/\StO w.heap.size w' v' (Yko p s N)/\Below w.heap.size w w':=by
 have ac:=JZ hpv;clear hpv;obtain⟨A,n,c,A',n',c',ao,ap,aq,rfl,hc,hv,hr⟩:=id h;obtain⟨Ab,nb,cb,rfl,hI⟩:=id h2;obtain⟨W,hW,a8,H⟩:=Zfn w (.slice A n c) (.slice A' n' c') (.slice ao ap aq);obtain⟨W1,ar,a0,I⟩:=Zfq W (.int .i64 s.phase) (.slice Ab nb cb) (.int .i64 s.pivots);obtain⟨W2,au,a9,S⟩:=Zfq W1 (.int .i64 0) (.slice none 0 0) (.int .i64 0);have hX:=(a8.later I).later S;have u:=Za H I H.size;have v:=Za u S u.size;have ad:W.heap.size=w.heap.size+1:=by rw[<-hW];simp
 rw[ad]at a0;have ae:=JZ h;have af:=JZ h2;have C:=JZ (⟨ok,hF,hbl,hrg⟩:p.Ok K/\(lpErr p=0->p.Ft K)/\s.basis.length<=1099511627776/\∀z∈s.basis,-9223372036854775808<=z/\z<=9223372036854775807);obtain⟨x0,x1,x2⟩:=hX.three;obtain⟨y0,y1,y2⟩:=(a0.later S).three;have a:w.heap.size<=W1.heap.size:=u.size;have ax:0<=(N:Int):=Qk
 clear u S h h2 hc hv hr hI a8 H I hX a0 ok hF hbl hrg;go_enter func10,ntmps10;go_wp2_with fail;clear hW ar au;refine(Znn _ _ p s K _ (ae.out.below v) (af.out.below v) C.out.1 C.out.2.1 C.out.2.2.1 C.out.2.2.2).mono ?_;intro o w2 ho;obtain⟨B,ho⟩:=ho;have U:=Za v B v.size;have y:=JZ v;have D:=JZ a9;clear v a9 x0 x1 x2 y0 y1 y2;generalize W1.heap.size=gr at *;rcases ho with⟨he,rfl⟩|⟨hz,he,rfl⟩|⟨hz,he,e,rfl,hE⟩
 ·have hS:VF p s=lpErr p:=Zws he;have ag:(lpErr p !=0)=true:=by simpa using he
  have HS:=JZ hS;have HE:Hid (VF p s≠0):=JZ (by rw[hS];exact he);have V:=JZ B;clear hS he B;generalize lpErr p=L at *;have m:=D.out.later V.out;obtain⟨c0,c1,c2⟩:=m.three;obtain⟨f0,f1,f2⟩:=m.threeF;have g0:=m.set_ 0 (.int .i64 0);have g1:=g0.set_ 1 (.slice none 0 0);have g2:=g1.set_ 2 (.int .i64 0);have g:=((U.setCell (p:=⟨gr,0,none⟩) a (.int .i64 0)).setCell (p:=⟨gr,1,none⟩) a (.slice none 0 0)).setCell (p:=⟨gr,2,none⟩) a (.int .i64 0);go_wp2;refine Xb results10 underlying41 Qm rfl g2 rfl ?_;exact⟨_,by rw[HS.out];rfl,by rw[Zwu HE.out];exact⟨none,0,0,rfl,Zt.nil _ _⟩,g⟩
 ·have hS:VF p s=vsErr p s:=Zec hz;have ag:(vsErr p s !=0)=true:=by simpa using he
  have HS:=JZ hS;have HE:Hid (VF p s≠0):=JZ (by rw[hS];exact he);have V:=JZ B;clear hS he hz B;generalize vsErr p s=L at *;have m:=D.out.later V.out;obtain⟨c0,c1,c2⟩:=m.three;obtain⟨f0,f1,f2⟩:=m.threeF;have g0:=m.set_ 0 (.int .i64 0);have g1:=g0.set_ 1 (.slice none 0 0);have g2:=g1.set_ 2 (.int .i64 0);have g:=((U.setCell (p:=⟨gr,0,none⟩) a (.int .i64 0)).setCell (p:=⟨gr,1,none⟩) a (.slice none 0 0)).setCell (p:=⟨gr,2,none⟩) a (.int .i64 0);go_wp2;refine Xb results10 underlying41 Qm rfl g2 rfl ?_;exact⟨_,by rw[HS.out];rfl,by rw[Zwu HE.out];exact⟨none,0,0,rfl,Zt.nil _ _⟩,g⟩
 ·have HS:Hid (VF p s=0):=JZ (by rw[Zec hz];exact he);have HV:=JZ (Yll he);have E:=JZ (C.out.2.1 hz);have ah:=JZ hE.r;have HZ:=JZ hz;have a2:=JZ hE;have ai:=JZ (ac.out HS.out);have P:Hid (settleQ p s=settleQ p s):=JZ rfl;have a3:=JZ HV.out.settle;have X:Hid ((settleQ p s).pivots=s.pivots/\0<=s.pivots):=JZ ⟨rfl,HV.out.pv⟩;obtain⟨t0,a1⟩:∃t0,t0=settleQ p s:=⟨_,rfl⟩;replace P:Hid (settleQ p s=t0):=JZ a1.symm;rw[<-a1]at a2 a3 X;clear hz he B hE ah a1;go_wp2
  go_loopw [27] (λx wr=>∃(n:Nat) (t:LSt),n<=N/\x= .int .i64 n/\Zql W2 wr e p t K/\Val p t/\runL p (N - n) t=runL p N t0/\0<=t.pivots/\t.pivots<=s.pivots+n) (λx _=>N - (intOf x).toNat)
  case atStart=>exact⟨0,t0,Qk,rfl,a2.out,a3.out,rfl,by have:=X.out;omega,by have:=X.out;omega⟩
  case round=>
   obtain⟨n,t,hn,rfl,hE,aa,ab,av,b0⟩:=hrel;have q:=JZ aa;have R:=JZ ab;clear aa ab;rcases JX n N with hnl|hnl
   ·have a4:(n:Int)<N:=Qk;have aj:=JZ hE;go_wp2_with fail;refine(Ztg e p t K _ hE.r q.out.fit E.out HZ.out q.out.ph).mono ?_;rintro _ w5 ⟨v5,rfl,e5,M⟩;obtain⟨Ad,nd,cd,rfl⟩:=e5.sliceN;have Y:=hE.below M;by_cases hq:Xa p t=0
    ·obtain⟨j,aw,hj,hJ,hD⟩:=Zmj hq;rw[hq,hJ];rw[hD]at e5;have ak:=JZ hq;have a5:=JZ hD;have al:=JZ hJ;have a6:t.pivots+1<=9223372036854775807:=(by have:=ai.out;omega);clear hq hJ aw hD Y;go_wp2_with fail;refine(Yei W2 _ e p t K j _ _ aj.out M e5 hj q.out.fit E.out HZ.out av a6).mono ?_;rintro o6 w6 (⟨i,hl,rfl,O⟩|⟨hl,rfl,O⟩)
     ·have a7:Vb p t (zL p t) (Ud p t)=some i:=(by rw[a5.out];exact hl);obtain⟨t',T⟩:∃t',t'=settleQ p (Zfr t i (j:Int)):=⟨_,rfl⟩;rw[<-T]at O;have Z:Zbu p t=some t':=(by rw[Zpa ak.out a7,al.out,T];rfl);have am:Val p t':=Zdg q.out Z;have an:runL p (N - (n+1)) t'=runL p N t0:=by
       rw[<-R.out,show N - n=(N - (n+1))+1 by omega,XG Z]
      have ay:t'.pivots=t.pivots+1:=(by rw[T];rfl);clear hE e5 hl a7 M T Z;go_wp2;go_roundw
      case rel=>exact⟨n+1,t',Qk,by go_num,O,am,an,Qk,Qk⟩
      case measure=>exact Qn
     ·have F:Hid (runL p N t0=t):=JZ (by rw[<-R.out];exact Xm (Ybu (by rw[a5.out];exact hl)) _);have d:=JZ O;clear hE e5 hl M O hn hnl a4;go_wp2_with fail;refine(Zdy _ e p t K _ d.out E.out q.out.fit).mono ?_;rintro _ w9 ⟨v9,rfl,e9,l⟩;obtain⟨A9,n9,c9,rfl,J⟩:=e9;have f:=Za y.out d.out.bel y.out.size;have k:=Za f l f.size;have b:=(D.out.later d.out.bel).later l;obtain⟨c0,c1,c2⟩:=b.three;obtain⟨f0,f1,f2⟩:=b.threeF;have k0:=Zf.setCell b 0 (.int .i64 t.phase);have g0:=b.set_ 0 (.int .i64 t.phase);have k1:=Zf.setCell g0 1 (.slice A9 n9 c9);have g1:=g0.set_ 1 (.slice A9 n9 c9);have k2:=Zf.setCell g1 2 (.int .i64 t.pivots);have g2:=g1.set_ 2 (.int .i64 t.pivots);have G:=J.but ((k0.trans k1).trans k2) Ql;have g:=((k.setCell (p:=⟨gr,0,none⟩) a (.int .i64 t.phase)).setCell (p:=⟨gr,1,none⟩) a (.slice A9 n9 c9)).setCell (p:=⟨gr,2,none⟩) a (.int .i64 t.pivots);go_wp2;refine Xb results10 underlying41 Qm rfl g2 rfl ?_;exact⟨_,by rw[HS.out];rfl,by rw[Zed HS.out,P.out,F.out];exact⟨A9,n9,c9,rfl,G.monoB f.size⟩,g⟩
    ·have F:Hid (runL p N t0=t):=JZ (by rw[<-R.out];exact Xm (Ybt hq) _);have az:(Xa p t !=0)=true:=(by simpa using hq);have d:=JZ Y;clear hE e5 M Y hn hnl a4 hq;go_wp2_with fail;refine(Zdy _ e p t K _ d.out E.out q.out.fit).mono ?_;rintro _ w9 ⟨v9,rfl,e9,l⟩;obtain⟨A9,n9,c9,rfl,J⟩:=e9;have f:=Za y.out d.out.bel y.out.size;have k:=Za f l f.size;have b:=(D.out.later d.out.bel).later l;obtain⟨c0,c1,c2⟩:=b.three;obtain⟨f0,f1,f2⟩:=b.threeF;have k0:=Zf.setCell b 0 (.int .i64 t.phase);have g0:=b.set_ 0 (.int .i64 t.phase);have k1:=Zf.setCell g0 1 (.slice A9 n9 c9);have g1:=g0.set_ 1 (.slice A9 n9 c9);have k2:=Zf.setCell g1 2 (.int .i64 t.pivots);have g2:=g1.set_ 2 (.int .i64 t.pivots);have G:=J.but ((k0.trans k1).trans k2) Ql;have g:=((k.setCell (p:=⟨gr,0,none⟩) a (.int .i64 t.phase)).setCell (p:=⟨gr,1,none⟩) a (.slice A9 n9 c9)).setCell (p:=⟨gr,2,none⟩) a (.int .i64 t.pivots);go_wp2;refine Xb results10 underlying41 Qm rfl g2 rfl ?_;exact⟨_,by rw[HS.out];rfl,by rw[Zed HS.out,P.out,F.out];exact⟨A9,n9,c9,rfl,G.monoB f.size⟩,g⟩
   ·obtain rfl:N=n:=Qk
    have F:Hid (runL p N t0=t):=JZ (by rw[<-R.out,eT];rfl);have d:=JZ hE;clear hE hn hnl;go_wp2_with fail;refine(Zdy _ e p t K _ d.out E.out q.out.fit).mono ?_;rintro _ w9 ⟨v9,rfl,e9,l⟩;obtain⟨A9,n9,c9,rfl,J⟩:=e9;have f:=Za y.out d.out.bel y.out.size;have k:=Za f l f.size;have b:=(D.out.later d.out.bel).later l;obtain⟨c0,c1,c2⟩:=b.three;obtain⟨f0,f1,f2⟩:=b.threeF;have k0:=Zf.setCell b 0 (.int .i64 t.phase);have g0:=b.set_ 0 (.int .i64 t.phase);have k1:=Zf.setCell g0 1 (.slice A9 n9 c9);have g1:=g0.set_ 1 (.slice A9 n9 c9);have k2:=Zf.setCell g1 2 (.int .i64 t.pivots);have g2:=g1.set_ 2 (.int .i64 t.pivots);have G:=J.but ((k0.trans k1).trans k2) Ql;have g:=((k.setCell (p:=⟨gr,0,none⟩) a (.int .i64 t.phase)).setCell (p:=⟨gr,1,none⟩) a (.slice A9 n9 c9)).setCell (p:=⟨gr,2,none⟩) a (.int .i64 t.pivots);go_wp2;refine Xb results10 underlying41 Qm rfl g2 rfl ?_;exact⟨_,by rw[HS.out];rfl,by rw[Zed HS.out,P.out,F.out];exact⟨A9,n9,c9,rfl,G.monoB f.size⟩,g⟩
namespace Pl
def Ysm{p:LPd}{s:LSt}(S:s.Fit p)(h1:p.right.length<=7)(h2:p.cols.length<=1200):s.basis.length<=1099511627776/\∀z∈s.basis,-9223372036854775808<=z/\z<=9223372036854775807:=by
 refine⟨by rw[S.2];omega,λz hz=>?_⟩;obtain⟨i,hi⟩:=List.getElem?_of_mem hz;have:=S.1 i z hi;omega
end Pl
namespace Pl
def Gd(p:LPd)(b:Int)(t:LSt):Prop:=Val p t/\settleQ p t=t/\t.pivots<=b
def Gd.start(p:LPd):Gd p 0 (settleQ p (YG p)):=⟨(Zde p).settle,settle_twice,by show(0:Int)<=0;omega⟩
def Gd.run{p:LPd}{b:Int}{t:LSt}(h:Gd p b t)(N:Nat):Gd p (b+N) (runL p N t):=⟨Zmk h.1,runL_settled h.2.1,by have:=runL_pivots (n:=N) h.1;have:=h.2.2;omega⟩
def Gd.err{p:LPd}{b:Int}{t:LSt}(h:Gd p b t)(hz:lpErr p=0):VF p t=0:=by rw[Zec hz];exact h.1.vs
def Gd.ru{p:LPd}{b:Int}{t:LSt}(h:Gd p b t)(hz:lpErr p=0)(N:Nat):Yko p t N=runL p N t:=by rw[Zed (h.err hz),h.2.1]
def Gd.va{p:LPd}{b:Int}{t:LSt}(h:Gd p b t)(hz:lpErr p=0):Ysp p t=canF (Zax p 2 t):=by rw[Zwt (h.err hz),h.2.1]
def Gd.rg{p:LPd}{b:Int}{t:LSt}(h:Gd p b t){K:Nat}(F:p.Ft K):t.basis.length<=1099511627776/\∀z∈t.basis,-9223372036854775808<=z/\z<=9223372036854775807:=Ysm h.1.fit F.2.1 F.1.cols
def Gd.pv{p:LPd}{b:Int}{t:LSt}(h:Gd p b t){N:Nat}(hb:b+N<=9223372036854775807):t.pivots+(N:Int)<=9223372036854775807:=by have:=h.2.2;omega
def Yps{p:LPd}{K:Nat}(F:p.Ft K)(ph:Int)(s:LSt):ShH (canF (Zax p ph s)):=by
 have h:Sz (1+p.right.length* (K+5^p.right.length*K+1)) (Zax p ph s):=Zor λi _=>Vn (Zhx F.1.ok F.1.k1 ph _) ((Yqt F.1 s).qAt (JW F.1.k1 F.1.le) i)
 refine Sz.shH h ?_;have h1:=F.2.1;have h2:=F.2.2;have h3:=F.k.2;have h4:p.right.length* (K+5^p.right.length*K+1)<=7* (4000000+4000000+1):=gL h1 Qk;omega
end Pl
def Znr(v1:Value)(z1:List Int)(N1:Int)(w:World)(h1:Z6 w v1 z1):
 Calls prog 3 #[v1,.int .i64 N1] w λe w'=>e= .returned (.bool true)/\Below w.heap.size w w':=by
 go_enter func3,ntmps3;go_wp2_with fail;refine(Zyz v1 z1 w h1).mono ?_;rintro _ w1 ⟨vm,m,rfl,hm,ok,c5,av⟩;obtain⟨bb,X,aa⟩:=Yfd ok;have o:=JZ X;have I:=JZ aa;have b0:=JZ hm;have b:=JZ ok;have H5:Hid (m.rows.length<=5):=JZ c5.out.2.2;obtain⟨A,nr,c,A',n',c',cn,co,cp,rfl,hR,hC,hT⟩:=id hm;have b1:=JZ hR.ints;have b3:=JZ hC;clear hm ok hR hC hT X aa c5;obtain⟨W,hW,hX,Y⟩:=Zbj w1 (.int .i64 m.fl) (.slice A nr c) (.int .i64 m.pen) (.slice A' n' c') (.slice cn co cp);have HM:=JZ (b0.out.below Y);have HR:=JZ (b1.out.below Y);have HC:=JZ (b3.out.below Y);have ad:=Za av Y av.size;obtain⟨P,hP⟩:∃P,m.pen=P:=⟨_,rfl⟩;obtain⟨F,hF⟩:∃F,m.fl=F:=⟨_,rfl⟩;have HP:=JZ hP;have HF:=JZ hF;rw[hP,hF]at hX hW HM⊢;clear b0 b1 b3 av Y hP hF
 go_upto_region 2 with(fail)
 clear hW;generalize w1.heap.size=gm at *;obtain⟨x0,x1,x2,x3,x4⟩:=hX.five;have C0:=Zm x0;have C1:=Zm x1;have C2:=Zm x2;have C3:=Zm x3;have C4:=Zm x4;have i:=Zc W;clear x0 x1 x2 x3 x4;refine Zj 16 [0,1,2,4,5,3,6,7,8,9,10,11,12,13,14,15] Qm Qm ?_;refine Qb ?_
 refine Qo λ_ kq=>?_;refine(Zza _ m N1 _ (HM.out.below i) b.out).mono ?_;rintro _ w4 ⟨v4,s,rfl,h4,ac,c6⟩;have H:=Za i c6 i.size;have H4:=JZ h4.ints;have a2:=JZ ac;clear h4 ac;refine kq.out _ _ (.inr H) (Qc ?_);clear kq
 refine Qo λ_ kq=>?_;have HI:=JZ (Zcb _ _ _ m s m.rows 1048576 _ (HM.out.below H) b.out H4.out a2.out (HR.out.below H) (dU _) Ql);have r:=JZ (I.out s a2.out);unfold Ztr at HI;rw[r.out.1,r.out.2]at HI;generalize((Zwq m s m.rows 1048576).1.used:Int)=us at HI;refine HI.out.mono ?_;clear HI;rintro _ w5 ⟨v5,rfl,h5,c7⟩;have y:=Za H c7 H.size;have ae:=JZ h5;clear h5;refine kq.out _ _ (.inr y) (Qc ?_);clear kq
 refine Zl ?_;have af:=hX.later y;have ag:=JZ (HM.out.below y);have ah:=JZ (HR.out.below y);have b4:=JZ (HC.out.below y);have J:=Za ad y ad.size;clear C0 C1 C2 C3 C4 i H y c6 c7 hX HM HR HC ad H4 r;have E:Hid (Sel (dcs m) bb):=JZ o.out.sel;have HI:=JZ (Zcb _ _ _ m bb m.rows 1048576 _ ag.out b.out ae.out E.out ah.out (dU _) Ql);have r:=JZ (I.out bb E.out);unfold Ztr at HI;rw[r.out.1,r.out.2]at HI;generalize((Zwq m bb m.rows 1048576).1.used:Int)=d8 at HI;obtain⟨x0,x1,x2,x3,x4⟩:=af.five;go_wp2_with fail;refine HI.out.mono ?_;clear HI r I x0 x1 x2 x3 x4;rintro _ w6 ⟨v6,rfl,h6,D⟩;have ai:=af.later D;have aj:=JZ (ag.out.below D);have b5:=JZ (ah.out.below D);have b6:=JZ (b4.out.below D);have ak:=JZ (ae.out.below D);have b7:=JZ h6;have K:=Za J D J.size;clear af ag ah b4 ae h6 J D;obtain⟨x0,x1,x2,x3,x4⟩:=ai.five;go_wp2_with fail;have ci:Hid (We (dcs m) bb=0):=JZ E.out.err;refine(Zwi _ _ m bb _ aj.out b.out ak.out).mono ?_;rw[ci.out];clear x0 x1 x2 x3 x4;rintro _ w7 ⟨rfl,n⟩;have al:=ai.later n;have b8:=JZ (aj.out.below n);have b9:=JZ (b5.out.below n);have ba:=JZ (b6.out.below n);have bc:=JZ (ak.out.below n);have bd:=JZ (b7.out.below n);have L:=Za K n K.size;clear ai aj b5 b6 ak b7 K n;obtain⟨x0,x1,x2,x3,x4⟩:=al.five;go_wp2_with fail;refine(Ztt _ m _ b8.out b.out).mono ?_;clear x0 x1 x2 x3 x4;rintro _ w8 ⟨v8,rfl,h8,aw⟩;obtain⟨p,hp⟩:∃p,lpM m=p:=⟨_,rfl⟩;have am:=JZ (Yir b.out H5.out o.out.sel (N:=2000) Ql);have j:Hid (p.Ft 1):=JZ (by rw[<-hp];exact Ynt b.out H5.out);have HZ:Hid (lpErr p=0):=JZ (by rw[<-hp];exact Ycx b.out);rw[hp]at h8 am;clear hp;obtain⟨Aa,na,ca,Ab,nb,cb,Ac,nc,cc,rfl,_,_,_⟩:=id h8;obtain⟨W8,cq,au,d⟩:=Zfn w8 (.slice Aa na ca) (.slice Ab nb cb) (.slice Ac nc cc);have B:=Za aw d aw.size;have an:=JZ (h8.below d);have be:=al.later B;have bf:=JZ (b9.out.below B);have bg:=JZ (ba.out.below B);have bh:=JZ (bc.out.below B);have bi:=JZ (bd.out.below B);have M:=Za L B L.size;clear al b8 b9 ba bc bd L aw d B h8;obtain⟨x0,x1,x2⟩:=au.three;go_wp2_with fail;clear cq x0 x1 x2;refine(Zzn _ p 1 _ an.out j.out.1.ok (λ_=>j.out)).mono ?_;rw[Zqw HZ.out,HZ.out];have HG:=JZ (Gd.start p);generalize settleQ p (YG p)=t at *;rintro _ w9 ⟨v9,rfl,h9,ax⟩;obtain⟨At,nt,ct,rfl,cr⟩:=id h9;have HR:=JZ (HG.out.rg j.out);obtain⟨W9,cs,c0,d⟩:=Zfq w9 (.int .i64 t.phase) (.slice At nt ct) (.int .i64 t.pivots);have k:=Za ax d ax.size;have O:=JZ (an.out.below k);have bj:=JZ (h9.st.below d);have bk:=be.later k;have ao:=au.later k;have bl:=JZ (bf.out.below k);have bm:=JZ (bg.out.below k);have bn:=JZ (bh.out.below k);have bo:=JZ (bi.out.below k);have R:=Za M k M.size;clear be bf bg bh bi M ax d k h9 cr an au;obtain⟨x0,x1,x2⟩:=ao.three;obtain⟨y0,y1,y2⟩:=c0.three;go_wp2_with fail;clear cs x0 x1 x2 y0 y1 y2;refine(Ykp _ _ p t 1 _ O.out bj.out j.out.1.ok (λ_=>j.out) HR.out.1 HR.out.2 2000 Ql (λ_=>HG.out.pv Ql)).mono ?_;rw[HG.out.ru HZ.out,HG.out.err HZ.out];have ap:=JZ (HG.out.run 2000);have HQ:=JZ am.out.2;clear am HR HG;generalize runL p 2000 t=u at *;rintro _ cw ⟨d0,rfl,ay,Z⟩;obtain⟨Au,nu,cu,rfl,c1⟩:=id ay;have HR:=JZ (ap.out.rg j.out);obtain⟨cz,c2,ab,d⟩:=Zfq cw (.int .i64 u.phase) (.slice Au nu cu) (.int .i64 u.pivots);have g:=Za Z d Z.size;have S:=JZ (O.out.below g);have bp:=JZ (ay.st.below d);have a3:=bk.later g;have a4:=ao.later g;have a5:=JZ (bl.out.below g);have a6:=JZ (bm.out.below g);have a7:=JZ (bn.out.below g);have a8:=JZ (bo.out.below g);have C:=Za R g R.size;clear bk bl bm bn bo R Z d g ay c1 O ao bj c0;obtain⟨x0,x1,x2⟩:=a4.three;obtain⟨y0,y1,y2⟩:=ab.three;go_wp2_with fail;clear c2 x0 x1 x2 y0 y1 y2;refine(Zzm _ _ p u 1 _ S.out bp.out j.out.1.ok (λ_=>j.out) HR.out.1 HR.out.2).mono ?_;rw[ap.out.va HZ.out,ap.out.err HZ.out];have bq:=JZ (Yps j.out 2 u);obtain⟨f,hf⟩:∃f,canF (Zax p 2 u)=f:=⟨_,rfl⟩;have cj:Hid (f.q=Zax p 2 u):=JZ (by rw[<-hf];exact Zv _);rw[hf]at bq⊢;clear hf;rintro _ cx ⟨d1,rfl,az,a0⟩;obtain⟨Af,nf,cf,Bf,mf,df,rfl,_,_⟩:=id az;obtain⟨cv,c3,c4,d⟩:=Xp cx (.bool f.num.neg) (.slice Af nf cf) (.bool f.den.neg) (.slice Bf mf df);have h:=Za a0 d a0.size;have ck:=JZ (az.below d);have br:=a3.later h;have bs:=JZ (a5.out.below h);have bt:=JZ (a6.out.below h);have bu:=JZ (a7.out.below h);have bv:=JZ (a8.out.below h);have T:=Za C h C.size;clear a3 a5 a6 a7 a8 C a0 d h az S a4 bp ab;have aq:=JZ (Ysj E.out);obtain⟨z,hz⟩:∃z,Zfi m bb=z:=⟨_,rfl⟩;rw[hz]at aq⊢;clear hz
 go_upto_region 9 with(fail)
 clear c3;obtain⟨x0,x1,x2,x3,x4⟩:=br.five;obtain⟨y0,y1,y2,y3⟩:=c4.four;have C1:=Zm x1;have C2:=Zm x2;have C3:=Zm x3;have D0:=Zm y0;have D1:=Zm y1;have D2:=Zm y2;have D3:=Zm y3;have i:=Zc cv;clear x0 x1 x2 x3 x4 y0 y1 y2 y3;refine Zj 59 [0,1,2,3,4,5,6,7,8,9,10,11,12,13,14,15,16,17,18,19,20,21,22,23,24,25,26,27,28,29,30,31,32,33,34,35,36,37,38,39,40,41,42,43,44,45,46,47,48,49,50,51,52,53,54,55,56,57,58] Qm Qm ?_;refine Qd ?_
 refine Qo λ_ kq=>?_;refine(Zad _ _ bb bb _ (bu.out.below i) (bv.out.below i)).mono ?_;rw[show decide (bb=bb)=true by simp];rintro _ d2 ⟨rfl,c8⟩;have l:=Za i c8 i.size;refine kq.out _ _ (.inr l) (Qe ?_);clear kq
 refine Qo λ_ kq=>?_;have ar:=JZ (Yfc _ _ m _ (bs.out.below l) (bt.out.below l) b.out);rw[HP.out]at ar;refine ar.out.mono ?_;clear ar;rintro _ d3 ⟨zz,rfl,a1,c9⟩;have U:=Za l c9 l.size;have cy:=Yeo (UF b.out) (by rw[YD];exact b.out.ncol) (λx hx=>(dcs_bd2 b.out x hx).2.2.1) ⟨b.out.pen0,b.out.pen1⟩ a1;have bw:=Yik (UF b.out) b.out.row1 o.out a1;have cl:zz=z:=by rw[bw,aq.out];rfl
 clear bw a1;subst cl;refine kq.out _ _ (.inr U) (Qj ?_);clear kq;have b2:(zz==zz)=true:=by simp
 refine Qd ?_
 refine Qo λ_ kq=>?_;refine(Zlv zz _ Qk Qk).mono ?_;rintro _ d4 ⟨d5,rfl,cd,ce⟩;have G:=Za U ce U.size;have cm:=JZ cd.frac;clear cd;refine kq.out _ _ (.inr G) (Qe ?_);clear kq
 refine Qo λ_ kq=>?_;have bx:f.q - (canF (zz:Rat)).q<=0:=by
  rw[Zv,cj.out,aq.out];have:=HQ.out;unfold Ms.base;grind
 refine(Zly _ _ f (canF (zz:Rat)) _ (ck.out.below G) cm.out bq.out (Sz.shH (Zuu Qk Qk) Ql)).mono ?_;rintro _ d6 ⟨rfl,cg⟩;have V:=Za G cg G.size;have hq:qs (f.q - (canF (zz:Rat)).q)<=0:=Ysy.2 bx;generalize qs (f.q - (canF (zz:Rat)).q)=e at *;clear bx;refine kq.out _ _ (.inr V) (Qe ?_);clear kq
 refine Qo λ_ kq=>?_;refine(Zzl _).mono ?_;rintro _ d7 ⟨rfl,ch⟩;have a9:=Za V ch V.size;refine kq.out _ _ (.inr a9) (Qe ?_);clear kq
 refine Zl ?_;have bz:=Za T a9 T.size;go_wp2;go_ret;exact⟨rfl,bz⟩
end Go.Proofs.YtobadipflggkiaaGreat
