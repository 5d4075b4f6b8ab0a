/- Lemmas of the claim; no condition. -/
import Derived.Test.YtobadipflggkiaaGreatW9
set_option linter.all false
set_option maxRecDepth 100000
set_option maxHeartbeats 40000000
namespace Go.Proofs.YtobadipflggkiaaGreat
open Go.RowKit
open Pl Tryz
attribute [local go_sem ↓] Go.wp_at_zero Go.wp_at_succ
def WK(w w':World):Prop:=∀(b:Nat) (cs:Array Value) (t:TypeId) (fz:Nat × Nat),t≠164->t≠88->t≠171->w.heap[b]? =some (.cells cs t fz)->w'.heap[b]? =some (.cells cs t fz)
def WK.trans{a b c:World}(h:WK a b)(k:WK b c):WK a c:=λx cs t fz h1 h2 h3 hx=>k x cs t fz h1 h2 h3 (h x cs t fz h1 h2 h3 hx)
def WK.of_below{w w':World}(hb:Below w.heap.size w w'):WK w w':=λb _ _ _ _ _ _ h=>(hb.block b (ZU h)).trans h
def WK.of_but{e:TypeId}{w w':World}(hk:Zf e w w')(he:e=164\/e=88\/e=171):WK w w':=λb cs t fz h1 h2 h3 h=>hk b cs t fz (by rcases he with rfl|rfl|rfl <;> assumption) h
def WK.bk{w w':World}{g:Nat}{t:TypeId}{cs:List Value}(h:WK w w')(hb:Bk w g t cs)(h1:t≠164)(h2:t≠88)(h3:t≠171):Bk w' g t cs:=h g _ t _ h1 h2 h3 hb
def WK.own{w w':World}{base:Nat}{t:TypeId}{s n:Nat}{v:Value}{xs:List Value}(h:WK w w')(ho:w.ownsRow base t s v n xs)(h1:t≠164)(h2:t≠88)(h3:t≠171):w'.ownsRow base t s v n xs:=by
 refine⟨ho.1,?_⟩;rcases ho.2 with hn|⟨b,cap,cur,rfl,hb,hg,rest⟩
 ·exact .inl hn
 ·exact .inr ⟨b,cap,cur,rfl,hb,h b _ t _ h1 h2 h3 hg,rest⟩
def WK.keep{w w':World}(h:WK w w'):ZI w w':=λb cs fz hb=>h b cs _ fz Ql Ql Ql hb
def WK.frs{w w':World}{base:Nat}{v:Value}{fs:List RF}(h:WK w w')(ho:Yy base w v fs):Yy base w' v fs:=by
 obtain⟨cs,g1,g2⟩:=ho;exact⟨cs,h.own g1 Ql Ql Ql,g2.keep h.keep⟩
def WK.ints{w w':World}{base:Nat}{v:Value}{zs:List Int}(h:WK w w')(ho:Zt base w v zs):Zt base w' v zs:=⟨h.own ho.1 Ql Ql Ql,ho.2⟩
def Ym.ge{base:Nat}{w:World}{v:Value}{cols:List (List En)}(h:Ym base w v cols):∀b,v.ownBlock=some b->base<=b:=by
 intro b hb;obtain⟨cs,h1,_⟩:=h;rcases h1.2 with⟨rfl,_⟩|⟨g',cap,cur,rfl,hb',_⟩
 ·simp[Value.ownBlock]at hb
 ·simp[Value.ownBlock]at hb;omega
namespace Pl
def You{n k:Nat}{Cs:Mx}{f:Nat->Rat}(hk:k<n):(vcL n Cs).set k (spV f n)=vcL n (Zee Cs k f):=by
 refine jV λi=>?_
 rcases JX i n with e|e
 ·rw[Zaa e,iV];by_cases g:k=i
  ·subst g;rw[jB rfl,Wt,jB hk]
   congr 1
   exact Wi λr _=>by unfold Zee;rw[jB rfl]
  ·rw[jA g,Zaa e]
   congr 1
   exact Wi λr _=>by unfold Zee;rw[jA λh=>g h.symm]
 ·rw[JU (by rw[jd,Wt];exact e),JU (by rw[Wt];exact e)]
end Pl
def info_upd:(prog.info? 171).map (λi=>(i.zero,i.size,i.bytes))=some (some (.agg #[.int .i64 0,.slice none 0 0]),2,32):=Qm
def Zfe{ops:Array Oper}{rest:List Oper}{o:Oper}{a:Act}{Q:Exit->Act->World->Prop}(hgd:o.guard=none)(s x:Operand)
 (ho:o.op= .call { callee:= .builtin .append,args:=#[s,x],argTypes:=#[162,162] })
 (W:World) (base bi:Nat) (v:Value) (T n q:Nat) (k:Nat->Nat) (im:Mx) (y:Nat->Rat) (hs:a.eval s=v) (hown:Zlc base bi W v T n k im) (A:Option Addr) (l c:Nat) (hf:Yy bi W (.slice A l c) (Yn n y))
 (hx:a.eval x= .slice (some ⟨W.heap.size,0,none⟩) 1 1) (hn:T+1<=1099511627776) (hbase:base<=W.heap.size)
 (h:∀v' w',Zlc base bi w' v' (T+1) n (Vu k T q) (Vu im T y)->Zf 171 W w'->Below base W w'->wpList prog ops Q rest (a.put o.dst v') w'):
 wpList prog ops Q (o::rest) a (W.alloc (.cells #[.int .i64 (q:Int),.slice A l c] 171)):=by
 obtain⟨cs,h1,h2⟩:=hown;obtain⟨i0,hi,b,d,f⟩:=kL info_upd;have hl:cs.length=T*2:=h1.1;refine V9 hgd s x 162 ho 171 i0 _ 2 32 underlying162 hi b d f rfl Ql W base v T cs [.int .i64 (q:Int),.slice A l c] hs h1 hx rfl (by intro u hu;simp at hu;rcases hu with rfl|rfl <;> rfl) (by unfold maxLen;omega) Qk hbase λv' w' g1 g2 g3=>h v' w' ⟨_,g1,λt ht=>?_⟩ g2 g3
 by_cases e:t=T
 ·subst e;refine⟨.slice A l c,?_,?_,?_⟩
  ·rw[ZO,jH Qk,hl,eT];rfl
  ·rw[jH Qk,hl,show t*2+1 - t*2=1 by omega];rfl
  ·rw[ZO];exact hf.but g2 Ql Ql
 ·obtain⟨u,e1,e2,e3⟩:=h2 t Qk;refine⟨u,?_,?_,?_⟩
  ·rw[ZH Qk,jI Qk];exact e1
  ·rw[jI Qk];exact e2
  ·rw[ZH Qk];exact e3.but g2 Ql Ql
def Ztc(base bi g n K T gc cc:Nat)(Cs:Mx)(s0 s1 s2 s3:Value)(Au:Option Addr)(cu:Nat)(w:World)(hX:Bk w g 164 [.int .i64 (n:Int),.slice (some ⟨gc,0,none⟩) n cc,s0,s1,s2,s3,.slice Au T cu])(hge:base<=g)(hO:Ym base w (.slice (some ⟨gc,0,none⟩) n cc) (vcL n Cs))(hT:1<=T)(hT2:T<=17)(hn:n<=7)(hK:1<=K)(hE:5^n*K<=4000000)
 (hs:∀r c,r<n->c<n->Sz K (Cs c r)) (hi:Xr n Cs) (hbase:base<=w.heap.size):
 Calls prog 104 #[.pointer (some ⟨g,0,none⟩)] w λo w'=>o= .returned (.tuple #[])/\Zfc base bi w' g n K Cs/\Below base w w'/\WK w w':=by
 have y1:=hX.cellAt 1 rfl;have y6:=hX.cellAt 6 rfl;have HX:=JZ hX;have HO:=JZ hO;have HS:=JZ hs;have HI:=JZ hi;have HK:=JZ hK;have HE:=JZ hE;have f:gc<w.heap.size:=by
  obtain⟨cs,h1,_⟩:=hO;exact U4 h1 gc rfl
 clear hX hO hs hi hK hE;go_enter func104,ntmps104;go_wp2_with fail;clear y1 y6;refine(Zdw _ n K Cs _ HO.out.vecs hn HK.out HE.out HS.out).mono ?_;rintro _ w1 ⟨e,⟨R,C,L,Um,z0,z1,z2,z3,rfl,hF,h0,h1,h2,h3⟩|⟨rfl,k⟩⟩
 ·have HF:=JZ hF;obtain⟨A0,c0,rfl⟩:=h0.nshape;obtain⟨A1,c1,rfl⟩:=h1.nshape;obtain⟨A2,c2,rfl⟩:=h2.nshape;obtain⟨A3,c3,rfl⟩:=h3.nshape;obtain⟨W2,j,hY,b⟩:∃W2,w1.alloc (.cells #[.slice A0 n c0,.slice A1 n c1,.slice A2 n c2,.slice A3 n c3] 159)=W2/\Bk W2 w1.heap.size 159 [.slice A0 n c0,.slice A1 n c1,.slice A2 n c2,.slice A3 n c3]/\Below w1.heap.size w1 W2:=⟨_,rfl,Bk.new w1 _ _,Ze w1 _⟩;obtain⟨x0,x1,x2,x3⟩:=hY.four;have d:=Za e b e.size;have a:=HX.out.later d;have e0:=h0.below b;have e1:=h1.below b;have e2:=h2.below b;have e3:=h3.below b;have h:=HO.out.below d;have q2:=a.cellAt 2 rfl;have q3:=a.cellAt 3 rfl;have q4:=a.cellAt 4 rfl;have q5:=a.cellAt 5 rfl;have q6:=a.cellAt 6 rfl;have r2:=a.frozen 2;have r3:=a.frozen 3;have r4:=a.frozen 4;have r5:=a.frozen 5;have r6:=a.frozen 6;clear hF h0 h1 h2 h3 hY e b;go_wp2;clear j x0 x1 x2 x3 q2 q3 q4 q5 q6 r2 r3 r4 r5 r6;have b2:=a.set_ 2 (.slice A0 n c0);have b3:=b2.set_ 3 (.slice A1 n c1);have b4:=b3.set_ 4 (.slice A2 n c2);have b5:=b4.set_ 5 (.slice A3 n c3);have b6:=b5.set_ 6 (.slice none 0 0);have kk:=(((Zf.setCell a 2 (.slice A0 n c0)).trans (Zf.setCell b2 3 (.slice A1 n c1))).trans (Zf.setCell b3 4 (.slice A2 n c2))).trans ((Zf.setCell b4 5 (.slice A3 n c3)).trans (Zf.setCell b5 6 (.slice none 0 0)));have i:=(((((d.mono hbase).setCell (p:=⟨g,2,none⟩) hge (.slice A0 n c0)).setCell (p:=⟨g,3,none⟩) hge (.slice A1 n c1)).setCell (p:=⟨g,4,none⟩) hge (.slice A2 n c2)).setCell (p:=⟨g,5,none⟩) hge (.slice A3 n c3)).setCell (p:=⟨g,6,none⟩) hge (.slice none 0 0)
  go_end0
  exact⟨rfl,⟨0,gc,cc,λ_=>0,R,C,λ_ _=>0,λ_ _=>0,L,Um,λ_=>Cs,_,_,_,_,_,b6,⟨hge,Qk,HE.out,rfl⟩,Ups.zero HS.out HI.out _ _ _,HF.out,h.but kk Ql Ql Ql,(e0.but kk Ql).monoB hbase,(e1.but kk Ql).monoB hbase,(e2.but kk Ql Ql Ql).monoB f,(e3.but kk Ql Ql Ql).monoB f,Zlc.nil _ _ _ _ _ _⟩,i,(WK.of_below d).trans (WK.of_but kk (.inl rfl))⟩
 ·exact absurd HI.out k
def Ztd(base bi g n K:Nat)(Cs:Mx)(v:Value)(es:List En)(k:Nat)(x:Nat->Rat)(w:World)(hB:Zfc base bi w g n K Cs)(h:Ur w v es)(hgo:Pl.Good n es)(hrs:∀(k:Nat) (e:En),es[k]? =some e->e.f.Rs K)(hk:k<n)
 (hx:∀r,r<n->mulC n Cs x r=X5 es r) (hx0:x k≠0) (hbase:base<=w.heap.size) (hbi:bi<=w.heap.size):
 Calls prog 64 #[.pointer (some ⟨g,0,none⟩),.int .i64 (k:Int),v] w λo w'=>o= .returned (.int .i64 0)/\Zfc base bi w' g n K (Zee Cs k (X5 es))/\Below base w w'/\WK w w':=by
 have HB:=JZ hB;obtain⟨T,gc,cc,ks,R,C,im,V,L,Um,CC,s0,s1,s2,s3,vu,hX,⟨a6,hT,hE,a7⟩,hU,hF,hO,i0,i1,v2,v3,a8⟩:=hB;obtain⟨Au,cu,rfl,c0,c3⟩:=a8.shape;have b9:=hF.n7;have y0:=hX.cellAt 0 rfl;have X:Hid (1<=K):=JZ (vI λe=>by have:=hF.e1;subst e;simp at this);have HE:Hid (5^n*K<=4000000):=JZ hE;have ad:Hid (K<=4000000):=JZ (JW (vR K (jg Ql)) hE);have ae:Hid (Xr n Cs):=JZ (by rw[<-a7];exact hU.indep T (JY _));have ba:Hid (Zra es=spV (X5 es) n):=JZ (cpyV_spV hgo);have bb:Hid (es.length<=1099511627776):=JZ (by
  have e1:(Zra es).length=es.length:=by simp[Zra]
  rw[cpyV_spV hgo]at e1;have:=Vh (f:=X5 es) n;omega)
 have HU:=JZ hU;have HF:=JZ hF;have af:=JZ a7;have G:=JZ hrs;have bc:=JZ hgo;have bd:=JZ hx;have be:=JZ hx0;have HO:=JZ hO;have HX:=JZ hX;have bf:=JZ i0;have bg:=JZ i1;have ag:=JZ v2;have ah:=JZ v3;have bh:=JZ a8;have ce:(k:Int)<n:=Qk
 obtain⟨Av,nv,cv,rfl⟩:∃A n c,v= .slice A n c:=by obtain⟨A,c,e,_⟩:=h.shape;exact⟨A,_,c,e⟩
 have hv:=h;clear hX hU hF a7 hE hO i0 i1 v2 v3 a8 hrs hgo hx hx0 h;go_enter func64,ntmps64;go_wp2_with fail;refine(Vt _ es n K _ hv Qk G.out (by have:=ad.out;omega) bc.out).mono ?_;rintro _ w1 ⟨v1,rfl,e1,m⟩;obtain⟨A1,c1,rfl⟩:=e1.slice;clear y0;have ai:=hv.below m;clear hv;go_wp2_with fail;refine(Zld base bi g n K Cs _ (X5 es) _ (HB.out.below m) e1.frs (λi _=>Sz_col G.out X.out i)).mono ?_;rintro _ w2 ⟨v2,x',rfl,aa,bw,e2,ab⟩;have aj:Hid (x' k≠0):=JZ (by rw[ae.out.uniq aa bd.out k hk];exact be.out);have bj:=JZ aa;have s:=Za m ab m.size;have hv:=ai.below ab;obtain⟨g2,c2,b3,c4,c5,b4,c9⟩:=e2.shape (by rw[Zo];omega);rw[Zo]at b3 b4;subst b3;obtain⟨bz,oz,A6,n6,c6,A7,n7,c7,hA,_,⟨t0,t1,t2,t3⟩,b5⟩:=e2.frs.elem (JR _ _) (ZG hk);injection hA with hA;injection hA with hA1 hA2;subst hA1;subst hA2;simp only[ji]at t0 t1 t2 t3;have bl:(qs (x' k)==0)=false:=by
  have:=aj.out;simpa using λe=>this (Yg.1 e)
 have bx:=m.size;clear e1 ai aa bw m;have bm:=JZ e2;clear e2;go_wp2_with fail;refine(Zy _ (canF (x' k)) _ b5).mono ?_;rw[Zv];rintro _ w3 ⟨rfl,M⟩;have d:=Za s M s.size;have bn:=JZ (bm.out.below M);have ak:=hv.below M;have Y:=HX.out.later d;have al:=HO.out.below d;have y1:=Y.cellAt 1 rfl;clear t0 t1 t2 t3 b5 hv s ab M;have hv:=ak;have hO:=al
 go_upto_region 9 with(fail)
 clear bl;have Y1:=Zm y1;have H:=Zc w3;clear y1;refine Zj 8 [0,1,2,3,4,5,6,7,8] Qm Qm ?_;refine Qb ?_
 refine Qo λ_ kq=>?_;with_reducible refine(Zbi _ es K _ (hv.below H) G.out (by have:=ad.out;omega) bb.out).mono ?_
 rw[ba.out];rintro _ w6 ⟨v6,rfl,e6,b6⟩;have l:=Za H b6 H.size;obtain⟨A6,n6,c6,rfl⟩:∃A n c,v6= .slice A n c:=by obtain⟨A,c,e,_⟩:=e6.vec.shape;exact⟨A,_,c,e⟩
 have Z:=hO.below l;obtain⟨_,m0,m1,-⟩:=Z.at_ (Zaa (L:=Cs) hk);refine kq.out _ _ (.inr l) (Qc ?_);clear kq
 refine Qh ?_;refine Zl ?_;clear Y1;obtain⟨a9,k7⟩:=Z.set_ (k:=k) (by rw[Wt];exact hk) e6.vec;rw[You hk]at a9;have a:=Za d l d.size;have a0:=ZA.of_set (g:=gc) (i:=k) (v:= .slice A6 n6 c6) (w:=w6);have I:=k7.bk (Y.later l) Ql;have am:=(bf.out.below a).but k7 Ql;have an:=(bg.out.below a).but k7 Ql;have ao:=(ag.out.below a).others a0 k7 (λb hb e=>by have:=ag.out.ge b hb;injection e with e;omega);have ap:=(ah.out.below a).others a0 k7 (λb hb e=>by have:=ah.out.ge b hb;injection e with e;omega);have N:=(bh.out.below a).but k7 Ql Ql Ql;have e7:=((bn.out.below l).but k7 Ql Ql).monoB (show bi<=w1.heap.size by omega);have t:=(a.mono hbase).setCell (p:=⟨gc,k,none⟩) HO.out.base (.slice A6 n6 c6);have aq:=(WK.of_below a).trans (WK.of_but k7 (.inr (.inl rfl)));generalize w6.setCell ⟨gc,k,none⟩ (.slice A6 n6 c6)=W7 at *;have ar:=t.size;clear hv ak hO al Z Y d H l b6 e6 a a0 k7 m0 m1;obtain⟨y6,bv⟩:W7.cell? ⟨g,6,none⟩=some (.slice Au T cu)/\W7.frozen? ⟨g,6,none⟩=false:=⟨I.cellAt 6 rfl,I.frozen 6⟩;have au:=JW hbase ar;go_wp2_with(at_builtin;refine Zfe rfl (.tmp 53) (.tmp 57) rfl W7 base bi (.slice Au T cu) T n k ks im x' rfl N _ _ _ e7 rfl Qk au ?_);intro v8 W8 F k8 b8;obtain⟨A8,c8,rfl,ca,cb⟩:=F.shape;have u:=k8.bk I Ql;have av:=a9.but k8 Ql Ql Ql;have aw:=am.but k8 Ql;have ax:=an.but k8 Ql;have ay:=ao.but k8 Ql Ql Ql;have az:=ap.but k8 Ql Ql Ql;have b0:=aq.trans (WK.of_but k8 (.inr (.inr rfl)));have O:=t.trans b8;have k9:=Zf.setCell u 6 (.slice A8 (T+1) c8);have y:=u.set_ 6 (.slice A8 (T+1) c8);have J:=av.but k9 Ql Ql Ql;have a1:=aw.but k9 Ql;have a2:=ax.but k9 Ql;have a3:=ay.but k9 Ql Ql Ql;have a4:=az.but k9 Ql Ql Ql;have z:=F.but k9 Ql Ql Ql;have a5:=b0.trans (WK.of_but k9 (.inl rfl));have j:=O.setCell (p:=⟨g,6,none⟩) a6 (.slice A8 (T+1) c8);have q6:=u.cellAt 6 rfl;have bo:=u.frozen 6;clear y6 bv I a9 am an ao ap N e7 t aq k8 b8 u av aw ax ay az F b0 O k9
 go_upto_region 11 with(fail)
 clear q6 bo;generalize W8.setCell ⟨g,6,none⟩ (.slice A8 (T+1) c8)=W9 at *;have B:=HU.out.snoc (q:=k) (v:=X5 es) (x:=x') hk (λr hr=>by rw[af.out];exact bj.out r hr) aj.out (λr _=>Sz_col G.out X.out r);have D:Vu CC (T+1) (Zee (CC T) k (X5 es)) (T+1)=Zee Cs k (X5 es):=by rw[ZO,af.out]
 have b1:base<=W9.heap.size:=JW hbase j.size;have p6:=y.cellAt 6 rfl;by_cases cd:T=16
 ·have P:Xr n (Zee Cs k (X5 es)):=by rw[<-D];exact B.indep (T+1) (JY _)
  have S:∀r c,r<n->c<n->Sz K (Zee Cs k (X5 es) c r):=by rw[<-D];exact B.sz (T+1) (JY _)
  have bp:=JZ y;have bq:=JZ P;have br:=JZ S;have bs:=JZ J;have b2:16< (T:Int)+1:=Qk
  clear y P S J a1 a2 a3 a4 z B D;go_wp2_with fail;clear p6;refine(Ztc base bi g n K (T+1) gc cc (Zee Cs k (X5 es)) s0 s1 s2 s3 A8 c8 _ bp.out a6 bs.out Qk Qk b9 X.out HE.out br.out bq.out b1).mono ?_;rintro _ cf ⟨rfl,b7,E,U⟩;have a:=j.trans E;have bt:=a5.trans U;clear j E a5 U;go_wp2;go_ret;exact⟨rfl,b7,a,bt⟩
 ·have b2:¬16< (T:Int)+1:=Qk
  have bu:Zfc base bi W9 g n K (Zee Cs k (X5 es)):=⟨T+1,gc,cc,_,R,C,_,_,L,Um,_,_,_,_,_,_,y,⟨a6,Qk,HE.out,D⟩,B,by rw[ZH Qk];exact HF.out,J,a1,a2,a3,a4,z⟩;clear y J a1 a2 a3 a4 z B D;go_wp2;go_ret;exact⟨rfl,bu,j,a5⟩
def Yeb(w:World)(e:Nat)(p:LPd)(ph pv:Int)(vb vB vz:Value):Prop:=
 ∃A n c A' n' c' A'' n'' c'',Bk w e 125 [.slice A n c,.slice A' n' c',.slice A'' n'' c'',.int .i64 ph,vb,.int .i64 pv,vB,vz]/\UY w (.slice A n c) p.cost/\VE w (.slice A' n' c') p.cols/\UY w (.slice A'' n'' c'') p.right
def Yeb.below{w w':World}{e:Nat}{p:LPd}{ph pv:Int}{vb vB vz:Value}(h:Yeb w e p ph pv vb vB vz)(hb:Below w.heap.size w w'):Yeb w' e p ph pv vb vB vz:=by
 obtain⟨A,n,c,A',n',c',a,b,d,h1,h2,h3,h4⟩:=h;exact⟨A,n,c,A',n',c',a,b,d,h1.later hb,h2.below hb,h3.below hb,h4.below hb⟩
def Yeb.cells{w:World}{e:Nat}{p:LPd}{ph pv:Int}{vb vB vz:Value}(h:Yeb w e p ph pv vb vB vz):w.cell? ⟨e,3,none⟩=some (.int .i64 ph)/\w.cell? ⟨e,4,none⟩=some vb/\w.cell? ⟨e,5,none⟩=some (.int .i64 pv)/\w.cell? ⟨e,6,none⟩=some vB/\w.cell? ⟨e,7,none⟩=some vz:=by
 obtain⟨A,n,c,A',n',c',a,b,d,h1,h2,h3,h4⟩:=h;exact⟨h1.cellAt 3 rfl,h1.cellAt 4 rfl,h1.cellAt 5 rfl,h1.cellAt 6 rfl,h1.cellAt 7 rfl⟩
def Pl.LPd.Ft(p:LPd)(K:Nat):Prop:=p.Fit K/\p.right.length<=7/\5^p.right.length*K<=4000000
def Pl.LPd.Ft.k{p:LPd}{K:Nat}(h:p.Ft K):1<=K/\K<=4000000:=⟨h.1.k1,JW h.1.le h.2.2⟩
def Vx{w w':World}{g:Nat}{x y z u:Value}{b b':Bool}{A A':Option Addr}{n c n' c':Nat}{f:RF}{P:RF->Prop}(hB:Bk w' g 49 [x,y,z,u])(hm:Zx w' (.agg #[.bool b,.slice A n c,.bool b',.slice A' n' c']) f)(hb:Below w.heap.size w w')(hg:w.heap.size<=g)(hP:P f):
 ∃v' f',Ending.returned (.agg [.bool b,.slice A n c,.bool b',.slice A' n' c'].toArray)= .returned v'/\Zx ((((w'.setCell ⟨g,0,none⟩ (.bool b)).setCell ⟨g,1,none⟩ (.slice A n c)).setCell ⟨g,2,none⟩ (.bool b')).setCell ⟨g,3,none⟩ (.slice A' n' c')) v' f'/\P f'/\Below w.heap.size w ((((w'.setCell ⟨g,0,none⟩ (.bool b)).setCell ⟨g,1,none⟩ (.slice A n c)).setCell ⟨g,2,none⟩ (.bool b')).setCell ⟨g,3,none⟩ (.slice A' n' c')):=
 ⟨_,f,rfl,hm.keep (hB.keep4 Ql _ _ _ _),hP,ZE hb hg _ _ _ _⟩
def Zix(z:Int)(w:World)(h0: -9223372036854775808<=z)(h1:z<=9223372036854775807):
 Calls prog 68 #[.int .i64 z] w λe w'=>∃v' f,e= .returned v'/\Zx w' v' f/\f=canF (z:Rat)/\Below w.heap.size w w':=by
 obtain⟨W,hW,hR,g⟩:=Xp w (.bool false) (.slice none 0 0) (.bool false) (.slice none 0 0);go_enter func68,ntmps68;go_wp2_with fail;clear hW;refine(VI z 1 _ h0 h1 Qk Qk).mono ?_;rintro _ w1 ⟨v1,hv,e1,b⟩;rw[jA Qk]at hv e1;subst hv;rw[Zbp]at e1;obtain⟨B,m,d,B',m',d',rfl,_,_⟩:=id e1;obtain⟨W2,h,hY,c⟩:=Xp w1 (.bool (canF (z:Rat)).num.neg) (.slice B m d) (.bool (canF (z:Rat)).den.neg) (.slice B' m' d');have a:=hR.later (Za b c b.size);obtain⟨c0,c1,c2,c3⟩:=a.four;obtain⟨f0,f1,f2,f3⟩:=a.fourF;obtain⟨x0,x1,x2,x3⟩:=hY.four;go_wp2;clear h;refine Zq results68 underlying49 Qm rfl (a.set4 _ _ _ _) rfl ?_;exact Vx (P:=λf=>f=canF (z:Rat)) a (e1.below c) (Za g (Za b c b.size) g.size) (JY _) rfl
def Zte(e:Nat)(p:LPd)(K:Nat)(ph pv:Int)(vb vB vz:Value)(j:Int)(w:World)(h:Yeb w e p ph pv vb vB vz)(F:p.Ft K)(hz:lpErr p=0)(h0: -(p.right.length:Int)<=j)(h1:j<p.cols.length):
 Calls prog 54 #[.pointer (some ⟨e,0,none⟩),.int .i64 j] w λo w'=>∃v' es,o= .returned v'/\Ur w' v' es/\p.col j=X5 es/\Pl.Good p.right.length es/\(∀(k:Nat) (e:En),es[k]? =some e->e.f.Rs K)/\Below w.heap.size w w':=by
 obtain⟨A,n,c,A',n',c',T,J,U,hB,hc,hv,hr⟩:=h;have N:=F.2.1;have H:=F.1.cols;rcases jR j 0 with hj|hj
 ·obtain⟨r,V⟩:∃r:Nat,-1 - j=(r:Int):=⟨(-1 - j).toNat,Qk⟩;obtain rfl:j= -1 - (r:Int):=Qk
  have I:r<p.right.length:=Qk
  obtain⟨f,hf⟩:=YJ (fs:=p.right) (i:=r) I;have O:f.Sm:=(F.1.rs r f hf).sm F.1.kb;obtain⟨r1,r2,r3⟩:=hr.len;have y2:=hB.cellAt 2 rfl;obtain⟨b,L,A1,n1,c1,A2,n2,c2,rfl,_,⟨q0,q1,q2,q3⟩,y⟩:=hr.elem (JR _ _) hf;have P:(r:Int)<J:=Qk
  have hq:qAt p.right r=f.q:=YW hf;have HQ:=JZ hq;have D:Hid (∀s:Rat,s=(if qs f.q<0 then -1 else 1)->p.col (-1 - (r:Int))=X5 [⟨(r:Int),canF s⟩]/\Pl.Good p.right.length [⟨(r:Int),canF s⟩]/\∀(k:Nat) (e:En),[(⟨(r:Int),canF s⟩:En)][k]? =some e->e.f.Rs K):=JZ λs hs=>by
   have E:s≠0/\Sz 1 s:=by
    rw[hs];split
    ·exact⟨Ql,Zuo Sz_one⟩
    ·exact⟨Ql,Sz_one⟩
   refine⟨?_,⟨λk e he=>?_,⟨rfl,trivial⟩,λk e he=>?_⟩,λk e he=>?_⟩
   ·rw[LPd.col_neg]
    funext i
    by_cases e:i=r
    ·subst e;rw[jB rfl,hq,<-hs];show s=if(i:Int)=(i:Int)then(canF s).q else 0
     rw[jB rfl,Zv]
    ·rw[jA e];show(0:Rat)=if(r:Int)=(i:Int)then(canF s).q else 0
     rw[jA Qk]
   ·match k,he with
    |0,he=>simp at he;subst he;constructor <;> simp <;> omega
   ·match k,he with
    |0,he=>simp at he;subst he;rw[Zv];exact E.1
   ·match k,he with
    |0,he=>simp at he;subst he;exact(E.2.mono F.1.k1).rs
  have R:qs f.q=0\/qs f.q=1\/qs f.q= -1:=by have:=VY f.q;omega
  clear hf H F hz hc hv hr;go_enter func54,ntmps54;go_wp2_with fail;refine(Zy _ f _ y).mono ?_;rintro _ w1 ⟨rfl,v⟩;by_cases hn:qs f.q<0
  ·have t:=D.out (-1) (by rw[jB hn]);have x:=JZ t;clear y2 q0 q1 q2 q3 y t hq;go_wp2_with fail;refine(VI (-1) 1 _ Qk Qk Qk Qk).mono ?_;rintro _ w2 ⟨v2,G,e2,C⟩;rw[jA Qk]at G e2;subst G;rw[show Rat.divInt (-1) 1=(-1:Rat) by decide]at e2;obtain⟨B,m,d,B',m',d',rfl,_,_⟩:=id e2;have a:=Za v C v.size;obtain⟨W2,z,hY,g⟩:=Xp w2 (.bool (canF (-1)).num.neg) (.slice B m d) (.bool (canF (-1)).den.neg) (.slice B' m' d');obtain⟨x0,x1,x2,x3⟩:=hY.four;have e3:=e2.below g;go_wp2;clear z;go_ret;have hZ:=Bk.new W2 86 [.int .i64 (r:Int),.bool (canF (-1)).num.neg,.slice B m d,.bool (canF (-1)).den.neg,.slice B' m' d'];have u:=Ze W2 (.cells #[.int .i64 (r:Int),.bool (canF (-1)).num.neg,.slice B m d,.bool (canF (-1)).den.neg,.slice B' m' d'] 86);obtain⟨g1,g2,g3⟩:=x.out;exact⟨_,_,rfl,Ur.one hZ (e3.below u),g1,g2,g3,Za a (Za g u g.size) a.size⟩
  ·have t:=D.out 1 (by rw[jA hn]);have x:=JZ t;clear y2 q0 q1 q2 q3 y t hq;go_wp2_with fail;refine(Zfy _).mono ?_;rintro _ w2 ⟨v2,rfl,e2,C⟩;obtain⟨B,m,d,B',m',d',rfl,_,_⟩:=id e2;have a:=Za v C v.size;obtain⟨W2,z,hY,g⟩:=Xp w2 (.bool (canF 1).num.neg) (.slice B m d) (.bool (canF 1).den.neg) (.slice B' m' d');obtain⟨x0,x1,x2,x3⟩:=hY.four;have e3:=e2.below g;go_wp2;clear z;go_ret;have hZ:=Bk.new W2 86 [.int .i64 (r:Int),.bool (canF 1).num.neg,.slice B m d,.bool (canF 1).den.neg,.slice B' m' d'];have u:=Ze W2 (.cells #[.int .i64 (r:Int),.bool (canF 1).num.neg,.slice B m d,.bool (canF 1).den.neg,.slice B' m' d'] 86);obtain⟨g1,g2,g3⟩:=x.out;exact⟨_,_,rfl,Ur.one hZ (e3.below u),g1,g2,g3,Za a (Za g u g.size) a.size⟩
 ·obtain⟨jn,rfl⟩:=JT hj;obtain⟨es,l⟩:=WC (cs:=p.cols) (i:=jn) Qk;obtain⟨l1,l2,l3⟩:=hv.len;have y1:=hB.cellAt 1 rfl;obtain⟨b,L,A1,c1,rfl,_,x0,M⟩:=hv.elem (JR _ _) l;obtain⟨z1,z2,z3,z4,z5⟩:=Zan hz;have HG:Hid (p.col (jn:Int)=X5 es/\Pl.Good p.right.length es/\∀(k:Nat) (e:En),es[k]? =some e->e.f.Rs K):=JZ ⟨LPd.col_pos l,⟨z4 jn es l,(z5 jn es l).2,(z5 jn es l).1⟩,(F.1.ok.2.2 jn es l).2⟩;have S:(jn:Int)<n':=Qk
  clear l hz F z1 z2 z3 z4 z5 hc hr hB hv l1;go_enter func54,ntmps54;go_wp2;go_ret;exact⟨_,es,rfl,M,HG.out.1,HG.out.2.1,HG.out.2.2,JR _ _⟩
def Zlf(e:Nat)(p:LPd)(K m cb base bi gB:Nat)(Cs:Mx)(ph pv:Int)(Ab:Option Addr)(vz v:Value)(es:List En)(w:World)(h:Yeb w e p ph pv (.slice Ab m cb) (.pointer (some ⟨gB,0,none⟩)) vz)(hB:Zfc base bi w gB m K Cs)(hv:Ur w v es)(hgo:Pl.Good m es)(hrs:∀(k:Nat) (e:En),es[k]? =some e->e.f.Rs K)(hm:m<=7)(hE:5^m*K<=4000000):
 Calls prog 57 #[.pointer (some ⟨e,0,none⟩),v] w λo w'=>∃v' x,o= .returned v'/\(∀r,r<m->mulC m Cs x r=X5 es r)/\(∀i,i<m->Sz (5^m*K) (x i))/\Yy w.heap.size w' v' (Yn m x)/\Below w.heap.size w w':=by
 obtain⟨-,y4,-,y6,-⟩:=h.cells;have l:=JZ hE;clear h hE;go_enter func57,ntmps57;go_wp2_with fail;refine(Zyt base bi gB m K Cs v es _ hB hv hgo hrs).mono ?_;rintro _ w1 ⟨v1,x,rfl,hx,d,e1,a⟩;have HX:=JZ hx;have b:=JZ d;have q:=Zi a y4;obtain⟨A1,n1,c1,rfl⟩:∃A n c,v1= .slice A n c:=by obtain⟨A,c,e,_⟩:=e1.vec.shape;exact⟨A,_,c,e⟩
 clear y4 y6 hB hv hx d hgo hrs;go_wp2_with fail;refine(Vt _ (spV x m) m (5^m*K) _ e1.vec Qk (Zfu b.out) (by have:=l.out;omega) (Zgr x m)).mono ?_;rw[Yc (g:=x) λi hi=>by rw[Zku,jB hi]];rintro _ w2 ⟨v2,rfl,e2,j⟩;have s:=Za a j a.size;obtain⟨A2,n2,c2,rfl⟩:=e2.sliceN;have e3:=e2.monoB a.size;clear e1 e2 a j q;go_wp2;go_ret;exact⟨_,x,rfl,HX.out,b.out,e3,s⟩
def Zqj(e:Nat)(p:LPd)(K:Nat)(ph pv:Int)(vb vB vz:Value)(j:Int)(w:World)(h:Yeb w e p ph pv vb vB vz)(F:p.Ft K)(hj:j<p.cost.length):
 Calls prog 100 #[.pointer (some ⟨e,0,none⟩),.int .i64 j] w λo w'=>∃v' f,o= .returned v'/\Zx w' v' f/\(f.q=XE p ph j/\f.Rs K)/\Below w.heap.size w w':=by
 obtain⟨W,hW,hR,k⟩:=Xp w (.bool false) (.slice none 0 0) (.bool false) (.slice none 0 0);have h':=h.below k;obtain⟨A,n,c,A',n',c',y,z,C,hB,hc,-,-⟩:=h';have y3:=hB.cellAt 3 rfl;have y0:=hB.cellAt 0 rfl;have HF:=JZ F;have v:=F.1.cols;have u:=F.1.cl;clear h F;by_cases h1:ph=2/\0<=j
 ·obtain⟨rfl,r⟩:=h1;rw[Ub r];obtain⟨jn,rfl⟩:=JT r;rw[JP];obtain⟨f,hf⟩:=YJ (fs:=p.cost) (i:=jn) Qk;have HQ:Hid (f.q=qAt p.cost jn/\f.Rs K):=JZ ⟨(YW hf).symm,HF.out.1.cs jn f hf⟩;obtain⟨r1,r2,r3⟩:=hc.len;obtain⟨b,D,B1,n1,k1,B2,n2,k2,rfl,_,⟨q0,q1,q2,q3⟩,t⟩:=hc.elem (JR _ _) hf;have x:(jn:Int)<n:=Qk
  obtain⟨c0,c1,c2,c3⟩:=hR.four;obtain⟨f0,f1,f2,f3⟩:=hR.fourF;clear hf hc hj;go_enter func100,ntmps100;go_wp2;clear hW;refine Zq results100 underlying49 Qm rfl (hR.set4 _ _ _ _) rfl ?_;exact Vx (P:=λf'=>f'.q=qAt p.cost jn/\f'.Rs K) hR t k (JY _) HQ.out
 ·by_cases h2:ph=1/\j<0
  ·obtain⟨rfl,r⟩:=h2;rw[Zhw r];clear hc y0;go_enter func100,ntmps100;go_wp2_with fail;clear hW y3;refine(Zix 1 _ Qk Qk).mono ?_;rintro _ w1 ⟨v1,s,rfl,e1,rfl,g⟩;obtain⟨B,m,d,B',m',d',rfl,_,_⟩:=id e1;have a:=hR.later g;obtain⟨c0,c1,c2,c3⟩:=a.four;obtain⟨f0,f1,f2,f3⟩:=a.fourF;go_wp2;refine Zq results100 underlying49 Qm rfl (a.set4 _ _ _ _) rfl ?_;exact Vx (P:=λf'=>f'.q=1/\f'.Rs K) a e1 (Za k g k.size) (JY _) ⟨by rw[Zv];rfl,((show Sz 1 ((1:Int):Rat)from Sz_one).mono HF.out.1.k1).rs⟩
  ·rw[Ws h2 h1];have HZ:=JZ HF.out.1.k1;have l:Calls prog 68 #[.int .i64 0] W λe w'=>∃v' f,e= .returned v'/\Zx w' v' f/\f=canF ((0:Int):Rat)/\Below W.heap.size W w':=Zix 0 W Qk Qk
   by_cases c2:ph=2
   ·subst c2;have r:j<0:=Qk;clear hc y0;go_enter func100,ntmps100;go_wp2_with fail;clear hW y3;refine l.mono ?_;clear l;rintro _ w1 ⟨v1,s,rfl,e1,rfl,g⟩;obtain⟨B,m,d,B',m',d',rfl,_,_⟩:=id e1;have a:=hR.later g;obtain⟨c0,c1,c2,c3⟩:=a.four;obtain⟨f0,f1,f2,f3⟩:=a.fourF;go_wp2;refine Zq results100 underlying49 Qm rfl (a.set4 _ _ _ _) rfl ?_;exact Vx (P:=λf'=>f'.q=0/\f'.Rs K) a e1 (Za k g k.size) (JY _) ⟨by rw[Zv];rfl,((show Sz 1 ((0:Int):Rat)from Sz_zero).mono HZ.out).rs⟩
   ·by_cases c1:ph=1
    ·subst c1;have r:0<=j:=Qk;clear hc y0;go_enter func100,ntmps100;go_wp2_with fail;clear hW y3;refine l.mono ?_;clear l;rintro _ w1 ⟨v1,s,rfl,e1,rfl,g⟩;obtain⟨B,m,d,B',m',d',rfl,_,_⟩:=id e1;have a:=hR.later g;obtain⟨c0,c1,c2,c3⟩:=a.four;obtain⟨f0,f1,f2,f3⟩:=a.fourF;go_wp2;refine Zq results100 underlying49 Qm rfl (a.set4 _ _ _ _) rfl ?_;exact Vx (P:=λf'=>f'.q=0/\f'.Rs K) a e1 (Za k g k.size) (JY _) ⟨by rw[Zv];rfl,((show Sz 1 ((0:Int):Rat)from Sz_zero).mono HZ.out).rs⟩
    ·have h3:(ph==2)=false:=(by simpa using c2);have h4:(ph==1)=false:=(by simpa using c1);clear hc y0 h1 h2;go_enter func100,ntmps100;go_wp2_with fail;clear hW y3;refine l.mono ?_;clear l;rintro _ w1 ⟨v1,s,rfl,e1,rfl,g⟩;obtain⟨B,m,d,B',m',d',rfl,_,_⟩:=id e1;have a:=hR.later g;obtain⟨c0,c1,c2,c3⟩:=a.four;obtain⟨f0,f1,f2,f3⟩:=a.fourF;go_wp2;refine Zq results100 underlying49 Qm rfl (a.set4 _ _ _ _) rfl ?_;exact Vx (P:=λf'=>f'.q=0/\f'.Rs K) a e1 (Za k g k.size) (JY _) ⟨by rw[Zv];rfl,((show Sz 1 ((0:Int):Rat)from Sz_zero).mono HZ.out).rs⟩
namespace Pl
def Zff{m:Nat}{cols:Mx}{b x:Nat->Rat}(h:Xr m cols)(hx:∀r,r<m->mulC m cols x r=b r):Zqx m cols b=Yn m x:=by
 have hl:=(Vr h b).1;refine jV λi=>?_
 rcases JX i m with e|e
 ·obtain⟨f,hf⟩:=YJ (fs:=Zqx m cols b) (i:=i) Qk;rw[hf,ZG e,Zux hf,Zpb h hx i e]
 ·rw[JU Qk,JU (by rw[Zo];exact e)]
def Good.length{n:Nat}{es:List En}(h:Good n es):es.length<=n:=by
 have e1:(Zra es).length=es.length:=by simp[Zra]
 rw[cpyV_spV h]at e1;have:=Vh (f:=X5 es) n;omega
def Znl(p:LPd)(s:LSt)(j:Int)(es:List En)(t:Nat):Rat:=XE p s.phase j - Zhp es (XF p s) t
def Yji{p:LPd}{s:LSt}{j:Int}{es:List En}(hr:Reg p s)(hc:p.col j=X5 es)(hg:Good p.right.length es):Znl p s j es es.length=VA p s j:=by
 unfold Znl VA;rw[Zgk hr,Nat.min_self,Zhr,Zsa hg.1 hg.2.1 es.length (JY _),eU,hc];rfl
def Ysb{p:LPd}{s:LSt}{K:Nat}{j:Int}{es:List En}(F:p.Ft K)(hs:∀(k:Nat) (e:En),es[k]? =some e->e.f.Rs K)(hl:es.length<=7){t:Nat}(ht:t<=es.length):Sz (20* (5^p.right.length*K)+20) (Znl p s j es t):=by
 have h1:K<=5^p.right.length*K:=F.1.le;have h2:=Yhc (K:=5^p.right.length*K) (λk e he=>(hs k e he).mono h1) (Ybp F.1 s) (JW F.1.k1 h1) t;have h3:t* (2* (5^p.right.length*K)+1)<=7* (2* (5^p.right.length*K)+1):=JS _ Qk;exact(Zfm ((Zhx F.1.ok F.1.k1 _ _).mono h1) h2).mono Qk
end Pl
def Zyu(w:World)(e:Nat)(p:LPd)(s:LSt)(K:Nat):Prop:=
 ∃(Ab:Option Addr) (cb base bi gB:Nat) (vz:Value),Yeb w e p s.phase s.pivots (.slice Ab p.right.length cb) (.pointer (some ⟨gB,0,none⟩)) vz/\Z6 w (.slice Ab p.right.length cb) s.basis/\Zfc base bi w gB p.right.length K (s.mat p)/\UY w vz (zL p s)
def Zyu.below{w w':World}{e:Nat}{p:LPd}{s:LSt}{K:Nat}(h:Zyu w e p s K)(hb:Below w.heap.size w w'):Zyu w' e p s K:=by
 obtain⟨Ab,cb,base,bi,gB,vz,h1,h2,h3,h4⟩:=h;exact⟨Ab,cb,base,bi,gB,vz,h1.below hb,h2.below hb,h3.below hb,h4.below hb⟩
def Zfc.indep{base bi g n K:Nat}{w:World}{Cs:Mx}(h:Zfc base bi w g n K Cs):Xr n Cs:=by
 obtain⟨T,_,_,_,_,_,_,_,_,_,CC,_,_,_,_,_,_,⟨_,_,_,e⟩,hU,_⟩:=h;rw[<-e];exact hU.indep T (JY _)
def Zyu.reg{w:World}{e:Nat}{p:LPd}{s:LSt}{K:Nat}(h:Zyu w e p s K):Reg p s:=by
 obtain⟨Ab,cb,base,bi,gB,vz,h1,h2,h3,h4⟩:=h;exact h3.indep
def Yec(e:Nat)(p:LPd)(s:LSt)(K:Nat)(w:World)(h:Zyu w e p s K)(S:s.Fit p)(F:p.Ft K):
 Calls prog 60 #[.pointer (some ⟨e,0,none⟩)] w λo w'=>∃v',o= .returned v'/\Yy w.heap.size w' v' (XF p s)/\Below w.heap.size w w':=by
 have HR:=JZ h.reg;have HH:=JZ h;obtain⟨Ab,cb,base,bi,gB,vz,h1,h2,h3,h4⟩:=h;obtain⟨-,y4,-,y6,-⟩:=h1.cells;have HM:=JZ h1;have HI:=JZ h2;have HB:=JZ h3;have HF:=JZ F;have HS:=JZ S;obtain⟨m,hm⟩:∃m,m=p.right.length:=⟨_,rfl⟩;have j:=JZ hm;rw[<-hm]at y4;have a5:m<=7:=by rw[hm];exact F.2.1
 have R:=h2.len;obtain⟨-,J,a4⟩:=R;rw[<-hm]at J;have a6:=Vo m Qk;have t:=Yy.zeros w m (by unfold maxLen;omega);have u:=Ze w (.cells (zfc m) 49);rw[Zdt]at t;have HK:=JZ F.k;have T:=JZ y4;have U:=JZ y6;have V:=Zi u y4;clear h1 h2 h3 h4 F S hm y6;go_enter func60,ntmps60;go_wp2;clear y4 V;generalize w.alloc (.cells (zfc m) 49)=W at *
 go_loopw [23] (λx wr=>∃k:Nat,k<=m/\x= .int .i64 k/\Below w.heap.size w wr/\∃H:Nat->RF,Yy w.heap.size wr (.slice (some ⟨w.heap.size,0,none⟩) m m) (rfL m H)/\∀i,i<m->(i<k->(H i).q=XE p s.phase (s.at_ i))/\(H i).Rs K) (λx _=>m - (intOf x).toNat)
 case atStart=>exact⟨0,Qk,rfl,u,λ_=>zeroF,t,λi hi=>⟨λh=>absurd h Qk,(Ut 1).mono HK.out.1⟩⟩
 case round=>
  clear t u;obtain⟨k,hk,rfl,d,H,hO,hH⟩:=hrel;rcases JX k m with hkl|hkl
  ·have a7:(k:Int)<m:=Qk;obtain⟨bb,ob,z,rfl,x0,hz,z0,z1⟩:=HI.out.at_ (show k<p.right.length by rw[<-j.out];exact hkl);have X:=Zi d x0;have Y:Hid (s.at_ k=z):=JZ (LSt.at_eq hz);have Z:z<p.cost.length:=(by rw[HF.out.1.cl];exact(HS.out.1 k z hz).2);have D:=JZ hH;clear hz x0 hH;go_wp2_with fail;refine(Zqj e p K s.phase s.pivots _ _ _ z _ (HM.out.below d) HF.out Z).mono ?_;rintro _ w1 ⟨v1,f,rfl,e1,hf,B⟩;obtain⟨A1,n1,c1,A2,n2,c2,rfl,_,_⟩:=id e1;have v:=hO.below B;have l:=Za d B d.size;obtain⟨_,_,_,_,⟨c0,a9,aa,c3⟩,⟨f0,f1,f2,f3⟩,-⟩:=v.at_ (YE (f:=H) hkl);obtain⟨L,_⟩:=v.set_ (k:=k) (by rw[Zw];exact hkl) e1;rw[Uy hkl]at L;have a:=ZC l (JY _) (k*4) (k*4+1) (k*4+2) (k*4+3);have E:=JZ hf;clear hO v d l B e1 X hf;go_wp2;go_roundw
   case rel=>
    refine⟨k+1,Qk,by go_num,a _ _ _ _,_,L,λi hi=>?_⟩;by_cases g:i=k
    ·simp only[jB g];exact⟨λ_=>by rw[g,Y.out];exact E.out.1,E.out.2⟩
    ·simp only[jA g];exact⟨λh=>(D.out i hi).1 Qk,(D.out i hi).2⟩
   case measure=>exact Qn
  ·obtain rfl:m=k:=Qk
   have G:RsL K (rfL m H):=λi f hf=>by
    have hi:i<m:=(by have:=(JO.1 hf).1;rwa[Zw]at this);rw[YE hi]at hf;injection hf with hf;subst hf;exact(hH i hi).2
   obtain⟨C,hC⟩:∃C:Nat->Rat,C=λi=>XE p s.phase (s.at_ i):=⟨_,rfl⟩
   have a0:Hid (spV (qAt (rfL m H)) (rfL m H).length=spV C m):=JZ (by
    rw[Zw,hC];exact Wi λi hi=>by rw[Zmz hi];exact(hH i hi).1 hi)
   have a1:Hid (∀i,i<m->Sz K (C i)):=JZ λi _=>by rw[hC];exact Zhx HF.out.1.ok HF.out.1.k1 _ _
   have HC:=JZ hC;have a8:=JZ hH;clear hH hC;go_wp2_with fail;refine(Xv _ (rfL m H) K _ hO.frs (by rw[Zw];omega) G (by have:=HK.out;omega)).mono ?_;rw[a0.out];rintro _ w2 ⟨v2,rfl,e2,M⟩;have a:=Za d M d.size;have y6:=Zi a U.out;obtain⟨A2,n2,c2,rfl⟩:∃A n c,v2= .slice A n c:=by obtain⟨A,c,e,_⟩:=e2.vec.shape;exact⟨A,_,c,e⟩
   clear hO d M G;go_wp2_with fail;refine(Ztb base bi gB m K (s.mat p) _ (spV C m) _ (by have:=HB.out.below a;rw[<-j.out]at this;exact this) e2.vec (Zgr C m) (Zfu a1.out)).mono ?_;rintro _ w3 ⟨v3,y,rfl,hy,N,e3,O⟩;have b:=Za a O a.size;have y4:=Zi b T.out;obtain⟨A3,n3,c3,rfl⟩:∃A n c,v3= .slice A n c:=by obtain⟨A,c,e,_⟩:=e3.vec.shape;exact⟨A,_,c,e⟩
   have a2:=JZ N;have a3:Hid (Yn m (X5 (spV y m))=XF p s):=JZ (by
    unfold XF;rw[Yc (g:=y) λi hi=>by rw[Zku,jB hi],<-j.out];refine(Zff (m:=m) (cols:=λr k=>s.mat p k r) (by have:=HR.out.tr;rw[<-j.out]at this;exact this) λr hr=>?_).symm;rw[YB hr];have:=hy r hr;rw[Zku,jB hr,HC.out]at this;exact this)
   clear e2 a O y6 hy N;go_wp2_with fail;refine(Vt _ (spV y m) m (5^m*K) _ e3.vec Qk (Zfu a2.out) (by have:=HF.out.2.2;rw[<-j.out]at this;omega) (Zgr y m)).mono ?_;rw[a3.out];rintro _ w4 ⟨v4,rfl,e4,P⟩;have I:=Za b P b.size;have e5:=e4.monoB b.size;obtain⟨A4,n4,c4,rfl⟩:=e4.sliceN;clear e3 b P y4 e4;go_wp2;go_ret;exact⟨_,rfl,e5,I⟩
def Znm(e:Nat)(p:LPd)(s:LSt)(K j:Nat)(w:World)(h:Zyu w e p s K)(F:p.Ft K)(hz:lpErr p=0)(hj:j<p.cols.length):
 Calls prog 62 #[.pointer (some ⟨e,0,none⟩),.int .i64 (j:Int)] w λo w'=>∃v',o= .returned v'/\Yy w.heap.size w' v' (dirL p s (j:Int))/\Below w.heap.size w w':=by
 have HR:=JZ h.reg;obtain⟨Ab,cb,base,bi,gB,vz,h1,h2,h3,h4⟩:=h;have HM:=JZ h1;obtain⟨A,n,c,A',n',c',t,u,v,hB,-,hv,-⟩:=h1;obtain⟨es,a⟩:=WC (cs:=p.cols) (i:=j) hj;obtain⟨l1,l2,l3⟩:=hv.len;have y1:=hB.cellAt 1 rfl;obtain⟨b,y,A1,c1,rfl,_,x0,d⟩:=hv.elem (JR _ _) a;obtain⟨z1,z2,z3,z4,z5⟩:=Zan hz;have HC:=JZ (LPd.col_pos a);have f:Pl.Good p.right.length es:=⟨z4 j es a,(z5 j es a).2,(z5 j es a).1⟩;have g:=(F.1.ok.2.2 j es a).2;have q:(j:Int)<n':=Qk
 have k:=F.2.1;have l:=F.2.2;clear a hz F z1 z2 z3 z4 z5 h2 h4 hB hv l1 hj;go_enter func62,ntmps62;go_wp2_with fail;clear y1 x0;refine(Zlf e p K p.right.length cb base bi gB (s.mat p) s.phase s.pivots Ab vz _ es _ HM.out h3 d f g k l).mono ?_;rintro _ w1 ⟨v1,x,rfl,hx,-,e1,m⟩;have hd:Yn p.right.length x=dirL p s (j:Int):=by
  unfold dirL;refine(Zff HR.out λr hr=>?_).symm;rw[YB hr,HC.out];exact hx r hr
 rw[hd]at e1;obtain⟨A2,n2,c2,rfl⟩:=e1.sliceN;clear hd hx h3 d;go_wp2;go_ret;exact⟨_,rfl,e1,m⟩
def Ztf(e:Nat)(p:LPd)(s:LSt)(K j:Nat)(vy:Value)(w:World)(h:Zyu w e p s K)(hy:UY w vy (XF p s))(F:p.Ft K)(hz:lpErr p=0)(hj:j<p.cols.length):
 Calls prog 61 #[.pointer (some ⟨e,0,none⟩),vy,.int .i64 (j:Int)] w λo w'=>∃v',o= .returned v'/\Zx w' v' (canF (VA p s (j:Int)))/\Below w.heap.size w w':=by
 have HR:=JZ h.reg;obtain⟨Ab,cb,base,bi,gB,vz,h1,h2,h3,h4⟩:=h;have HM:=JZ h1;obtain⟨A,n,c,A',n',c',bw,bx,bz,hB,-,hv,-⟩:=h1;obtain⟨es,r⟩:=WC (cs:=p.cols) (i:=j) hj;obtain⟨l1,l2,l3⟩:=hv.len;have y1:=hB.cellAt 1 rfl;obtain⟨b,c8,A1,c1,rfl,_,x0,ac⟩:=hv.elem (JR _ _) r;obtain⟨z1,z2,z3,z4,z5⟩:=Zan hz;have S:Pl.Good p.right.length es:=⟨z4 j es r,(z5 j es r).2,(z5 j es r).1⟩;have b7:=JZ S;have b8:Hid (Znl p s (j:Int) es es.length=VA p s (j:Int)):=JZ (Yji HR.out (LPd.col_pos r) S);have ae:=JZ (F.1.ok.2.2 j es r).2;have bu:(j:Int)<n':=Qk
 have b9:(j:Int)<p.cost.length:=by rw[F.1.cl];omega
 have HF:=JZ F;obtain⟨Ay,cy,rfl,ax,bs⟩:=hy.shape;obtain⟨m,hm⟩:∃m,m=p.right.length:=⟨_,rfl⟩;have ba:=JZ hm;have af:Hid ((XF p s).length=m):=JZ (by rw[hm];exact Zgk HR.out);rw[af.out]at hy ax⊢;have bb:=JZ hy;have bc:=JZ ac;obtain⟨l,hl⟩:∃l,l=es.length:=⟨_,rfl⟩;have T:=JZ hl;have bd:l<=7:=by rw[hl];exact JW S.length F.2.1
 rw[<-hl]at x0;have be:=JZ y1;have bf:=JZ x0;obtain⟨-,ay,bt⟩:=ac.len;rw[<-hl]at ay;have HJ:Hid (K<=5^p.right.length*K/\1<=K/\5^p.right.length*K<=4000000):=JZ ⟨F.1.le,F.1.k1,F.2.2⟩;have bg:Hid (Znl p s (j:Int) es 0=XE p s.phase (j:Int)):=JZ (by unfold Znl Zhp;rw[Yz];grind);obtain⟨W0,bq,az,Z⟩:=Xp w (.bool false) (.slice none 0 0) (.bool false) (.slice none 0 0);clear r hz F z1 z2 z3 z4 z5 h2 h3 h4 hB hv l1 hj hy ac S hl hm x0 y1;go_enter func61,ntmps61;go_wp2_with fail;clear bq;refine(Zqj e p K s.phase s.pivots _ _ _ (j:Int) _ (HM.out.below Z) HF.out b9).mono ?_;rintro _ w1 ⟨v1,f,rfl,e1,hf,ad⟩;obtain⟨B1,m1,d1,B2,m2,d2,rfl,_,_⟩:=id e1;have B:f.Sm:=hf.2.sm (by have:=HJ.out;omega);have bh:Hid (f.q+zeroF.q=Znl p s (j:Int) es 0):=JZ (by rw[bg.out,zeroF_q,hf.1,aN]);have C:=Za Z ad Z.size;have aa:=az.later ad;clear hf az Z ad;go_wp2_with fail;refine(Zgi _ _ f zeroF _ e1 (Zx.zero _) B zeroF_sm).mono ?_;rw[bh.out];rintro _ w2 ⟨v2,rfl,e2,a7⟩;obtain⟨B1,m1,d1,B2,m2,d2,rfl,_,_⟩:=id e2;obtain⟨W3,br,b0,a0⟩:=Xp w2 (.bool (canF (Znl p s (j:Int) es 0)).num.neg) (.slice B1 m1 d1) (.bool (canF (Znl p s (j:Int) es 0)).den.neg) (.slice B2 m2 d2);have ag:=(aa.later a7).later a0;have D:=Za C a7 C.size;have u:=Za D a0 D.size;have e3:=e2.below a0;have y1:=Zi u be.out;have x0:=Zi u bf.out;have bj:w.heap.size<w2.heap.size:=by have:=aa.lt;have:=a7.size;omega
 clear aa e1 e2 a7 a0 C D B;go_wp2;clear br y1 x0;have ah:Znk W3 w2.heap.size (Znl p s (j:Int) es 0):=⟨_,_,_,_,_,_,b0,e3⟩;clear b0 e3;generalize w2.heap.size=gt at *
 go_loopw [24] (λx wr=>∃t:Nat,t<=l/\x= .int .i64 t/\Below w.heap.size w wr/\Znk wr gt (Znl p s (j:Int) es t)/\Bk wr w.heap.size 49 [.bool false,.slice none 0 0,.bool false,.slice none 0 0]) (λx _=>l - (intOf x).toNat)
 case atStart=>exact⟨0,Qk,rfl,u,ah,ag⟩
 case round=>
  clear u ah ag;obtain⟨t,ht,rfl,L,hT,hR⟩:=hrel;rcases JX t l with htl|htl
  ·obtain⟨en,M⟩:=X3 (es:=es) (i:=t) (by rw[<-T.out];exact htl);obtain⟨b2,o2,A2,n2,c2,A3,n3,c3,rfl,_,⟨x0,x1,x2,x3,x4⟩,b1⟩:=bc.out.elem L M;have ai:=b7.out.1 t en M;have E:=ae.out t en M;have aj:=JZ (Zhq M (XF p s));obtain⟨ei,f⟩:=en;simp only at *;obtain⟨i,rfl⟩:=JT ai.1;have bk:i<m:=(by rw[ba.out];omega);have bv:(i:Int)<m:=Qk;obtain⟨W4,b4,hV,N⟩:=Zkf wr (.int .i64 (i:Int)) (.bool f.num.neg) (.slice A2 n2 c2) (.bool f.den.neg) (.slice A3 n3 c3);obtain⟨v0,v1,v2,v3,v4⟩:=hV.five;have d:=Za L N L.size;have y:=b1.below N;have U:=hT.below N;have V:=hR.later N;obtain⟨gy,a1⟩:=YJ (fs:=XF p s) (i:=i) (by rw[af.out];exact bk);have a8:gy=canF (qAt (XF p s) i):=Zux (by unfold XF at a1;exact a1);obtain⟨yy,a2⟩:∃yy,yy=qAt (XF p s) i:=⟨_,rfl⟩;rw[<-a2]at a8;subst a8;obtain⟨b3,o3,A4,n4,c4,A5,n5,c5,rfl,_,⟨y0,y1,y2,y3⟩,k⟩:=bb.out.elem d a1;have ab:Hid (Znl p s (j:Int) es (t+1)=Znl p s (j:Int) es t - yy*f.q):=JZ (by
    unfold Znl;rw[aj.out,show(i:Int).toNat=i from JP i,<-a2];grind)
   have ak:Hid (Sz (5^p.right.length*K) yy):=JZ (by
    rw[a2];exact(Ybp HF.out.1 s).qAt (JW HJ.out.2.1 HJ.out.1) i)
   have bl:Hid (Sz (20* (5^p.right.length*K)+20) (Znl p s (j:Int) es t)):=JZ (Ysb HF.out ae.out (by rw[<-T.out];exact bd) (by rw[<-T.out];exact ht));have al:Hid (f.Rs K/\Sz K f.q):=JZ ⟨E,E.sz HJ.out.2.1⟩;have am:qs yy=0\/qs yy=1\/qs yy= -1:=(by have:=VY yy;omega);clear M ai E a1 a2 b1 hT hR L aj hV N;by_cases R:qs yy=0
   ·have bm:=JZ (Yg.1 R);clear am;go_wp2_with fail;clear b4;refine(Zy _ (canF yy) _ k).mono ?_;rw[Zv,R];rintro _ w5 ⟨rfl,a⟩;have X:=U.below a;have Y:=V.later a;have g:=Za d a d.size;have an:Znl p s (j:Int) es t=Znl p s (j:Int) es (t+1):=(by rw[ab.out,bm.out];grind);rw[an]at X;clear U V d a y k v0 v1 v2 v3 v4 x0 x1 x2 x3 x4 y0 y1 y2 y3 R an;go_wp2;go_roundw
    case rel=>exact⟨t+1,Qk,by go_num,g,X,Y⟩
    case measure=>exact Qn
   ·have bn:(qs yy !=0)=true:=(by simpa using R);clear am R;go_wp2_with fail;clear b4;refine(Zy _ (canF yy) _ k).mono ?_;rw[Zv];rintro _ w5 ⟨rfl,a⟩;have X:=U.below a;have Y:=V.later a;have g:=Za d a d.size;have ao:=y.below a;have a9:=k.below a;have k0:=Zi a v0;have k1:=Zi a v1;have k2:=Zi a v2;have k3:=Zi a v3;have k4:=Zi a v4;have l0:=Zi a y0;have l1:=Zi a y1;have l2:=Zi a y2;have l3:=Zi a y3;obtain⟨A6,n6,c6,A7,n7,c7,z,O⟩:=X;obtain⟨t0,t1,t2,t3⟩:=z.four;obtain⟨rr,a3⟩:∃rr,rr=Znl p s (j:Int) es t:=⟨_,rfl⟩;have ap:(canF rr).Sm:=(by rw[a3];exact bl.out.rs.sm (by have:=HJ.out;omega));have aq:(canF yy).Sm:=ak.out.rs.sm (by have:=HJ.out;omega);have B:f.Sm:=al.out.1.sm (by have:=HJ.out;omega);have ar:(canF (yy*f.q)).Sm:=(Vn ak.out al.out.2).rs.sm (by have:=HJ.out;omega);have au:=JZ a3;rw[<-a3]at t0 t2 O z;clear a3 U V d a y k v0 v1 v2 v3 v4 x0 x1 x2 x3 x4 y0 y1 y2 y3;have y:=ao;have k:=a9
    go_upto_region 6 with(fail)
    clear bn;have C0:=Zm t0;have C1:=Zm t1;have C2:=Zm t2;have C3:=Zm t3;have D0:=Zm k0;have D1:=Zm k1;have D2:=Zm k2;have D3:=Zm k3;have D4:=Zm k4;have E0:=Zm l0;have E1:=Zm l1;have E2:=Zm l2;have E3:=Zm l3;have G:=Zc w5;clear t0 t1 t2 t3 k0 k1 k2 k3 k4 l0 l1 l2 l3;refine Zj 10 [0,1,2,3,4,5,6,7,8,9,10] Qm Qm ?_;refine Qb ?_
    refine Qo λ_ kq=>?_;(with_reducible refine(WV _ _ (canF yy) f _ (k.below G) (y.below G) aq B).mono ?_);rw[Zv];rintro _ w6 ⟨v6,rfl,e6,b5⟩;have H:=Za G b5 G.size;refine kq.out _ _ (.inr H) (Qc ?_);clear kq
    refine Qo λ_ kq=>?_;(with_reducible refine(VN _ _ (canF rr) (canF (yy*f.q)) _ (O.below H) e6 ap ar).mono ?_);rw[Zv,Zv];rintro _ w7 ⟨v7,rfl,e7,b6⟩;have I:=Za H b6 H.size;obtain⟨B9,l9,k9,a4,a5,a6,rfl,_,_⟩:=id e7;have J:=z.later I;obtain⟨c0,c1,c2,c3⟩:=J.four;obtain⟨f0,f1,f2,f3⟩:=J.fourF;refine kq.out _ _ (.inr I) (Qc ?_);clear kq
    refine Qh ?_;refine Zl ?_;clear C0 C1 C2 C3 D0 D1 D2 D3 D4 E0 E1 E2 E3;have av:=J.but4 (.bool (canF (rr - yy*f.q)).num.neg) (.slice B9 l9 k9) (.bool (canF (rr - yy*f.q)).den.neg) (.slice a4 a5 a6);have bo:=(Y.later I).far4 (g':=gt) Qk (.bool (canF (rr - yy*f.q)).num.neg) (.slice B9 l9 k9) (.bool (canF (rr - yy*f.q)).den.neg) (.slice a4 a5 a6);have aw:=ZE (Za g I g.size) (jZ bj) (.bool (canF (rr - yy*f.q)).num.neg) (.slice B9 l9 k9) (.bool (canF (rr - yy*f.q)).den.neg) (.slice a4 a5 a6);have bp:Znk _ gt (Znl p s (j:Int) es (t+1)):=⟨B9,l9,k9,a4,a5,a6,by rw[ab.out,<-au.out];exact J.set4 _ _ _ _,by rw[ab.out,<-au.out];exact e7.keep (av.keep Ql)⟩;clear J Y g G H I e6 e7 b5 b6 c0 c1 c2 c3 f0 f1 f2 f3 y ao k a9 O av ap aq B ar z;go_wp2;go_roundw
    case rel=>exact⟨t+1,Qk,by go_num,aw,bp,bo⟩
    case measure=>exact Qn
  ·obtain rfl:l=t:=Qk
   rw[T.out,b8.out]at hT;obtain⟨A6,n6,c6,A7,n7,c7,z,O⟩:=hT;obtain⟨t0,t1,t2,t3⟩:=z.four;obtain⟨c0,c1,c2,c3⟩:=hR.four;obtain⟨f0,f1,f2,f3⟩:=hR.fourF;go_wp2;refine Zq results61 underlying49 Qm rfl (hR.set4 _ _ _ _) rfl ?_;exact YA hR O L (JY _)
namespace Pl
def Yed(s:LSt)(D:List RF)(i:Nat):Prop:=0<qAt D i\/(s.at_ i<0/\qAt D i≠0)
def Zwg{s:LSt}{D:List RF}(h:¬s.phase=2):∀n,X8 s D n=false
 |0=>by rw[X8];exact kw h
 |n+1=>by rw[X8];split;rfl;exact Zwg h n
def Zqk{s:LSt}{D:List RF}(h:s.phase=2):∀n,(∀i,i<n->¬Yed s D i)->X8 s D n=true
 |0,_=>by rw[X8];exact kE h
 |n+1,hh=>by rw[X8,jA (by have:=hh n Qk;unfold Yed at this;exact this)];exact Zqk h n λi hi=>hh i Qk
def Ziy{s:LSt}{D:List RF}{i:Nat}(h:Yed s D i):∀n,i<n->X8 s D n=false
 |0,hi=>absurd hi Qk
 |n+1,hi=>by
  rw[X8]
  by_cases e:i=n
  ·subst e;rw[jB (by unfold Yed at h;exact h)]
  ·split
   ·rfl
   ·exact Ziy h n Qk
def Yee{p:LPd}{s:LSt}{j:Nat}(hj:j<p.cols.length)(h:VA p s (j:Int)<0)(hb:∀i,i<j->¬VA p s (i:Int)<0):Zmf p s=some j:=WZ Qk Qk h λi _ hi=>hb i hi
def Yef{p:LPd}{s:LSt}(hb:∀i,i<p.cols.length->¬VA p s (i:Int)<0):Zmf p s=none:=Uu λi _ hi=>hb i Qk
end Pl
def Ztg(e:Nat)(p:LPd)(s:LSt)(K:Nat)(w:World)(h:Zyu w e p s K)(S:s.Fit p)(F:p.Ft K)(hz:lpErr p=0)(hph:s.phase=1\/s.phase=2):
 Calls prog 33 #[.pointer (some ⟨e,0,none⟩)] w λo w'=>∃v',o= .returned (.tuple #[.int .i64 (Xa p s),.int .i64 (Zgd p s),v'])/\Yy w.heap.size w' v' (Ud p s)/\Below w.heap.size w w':=by
 have HR:=JZ h.reg;have HH:=JZ h;obtain⟨Ab,cb,base,bi,gB,vz,h1,h2,h3,h4⟩:=h;obtain⟨y3,y4,-,-,-⟩:=h1.cells;have HI:=JZ h2;obtain⟨A,n,c,A',N,c',ay,az,b0,hB,-,hv,-⟩:=h1;obtain⟨l1,l2,l3⟩:=hv.len;have HN:=JZ l1;have ai:=JZ (hB.cellAt 1 rfl);obtain⟨ph,hp⟩:∃ph,ph=s.phase:=⟨_,rfl⟩;have R:=JZ hp;rw[<-hp]at hph y3;have a8:=JZ y3;have HF:=JZ F;have HS:=JZ S;have HZ:=JZ hz;have aj:=F.1.cols;have aq:N<=1200:=Qk
 obtain⟨m,hm⟩:∃m,m=p.right.length:=⟨_,rfl⟩;have a9:=JZ hm;rw[<-hm]at y4;have ak:=JZ y4;have ar:m<=7:=by rw[hm];exact F.2.1
 obtain⟨-,ae,an⟩:=h2.len;rw[<-hm]at ae;clear h2 h3 h4 F S hz hB hv l1 aj hm y3 y4 hp;go_enter func33,ntmps33;go_wp2_with fail;refine(Yec e p s K _ HH.out HS.out HF.out).mono ?_;rintro _ w1 ⟨v1,rfl,e1,a3⟩;have y1:=Zi a3 ai.out;have HD:=JZ e1;obtain⟨A1,n1,c1,rfl⟩:=e1.sliceN;clear e1;go_wp2;clear y1
 go_loopw [6,20] (λen x wr=>∃j:Nat,j<=N/\x= .int .i64 j/\en= .int .i64 (-1)/\Below w1.heap.size w1 wr/\∀i,i<j->¬VA p s (i:Int)<0) (λ_ x _=>N - (intOf x).toNat)
 case atStart=>exact⟨0,Qk,rfl,rfl,JR _ _,λi hi=>absurd hi Qk⟩
 case round=>
  obtain⟨j,hj,rfl,rfl,d,O⟩:=hrel;have Y:=JZ O;clear O;have G:=Za a3 d a3.size;rcases JX j N with hjl|hjl
  ·have Z:j<p.cols.length:=(by have:=HN.out;omega);have au:(j:Int)<N:=Qk;go_wp2_with fail;refine(Ztf e p s K j _ _ (HH.out.below G) (HD.out.frs.below d) HF.out HZ.out Z).mono ?_;rintro _ w2 ⟨v2,rfl,e2,a4⟩;have y:=Za d a4 d.size;have B:=Za G a4 G.size;have T:qs (VA p s (j:Int))=0\/qs (VA p s (j:Int))=1\/qs (VA p s (j:Int))= -1:=(by have:=VY (VA p s (j:Int));omega);obtain⟨B1,m1,d1,B2,m2,d2,rfl,_,_⟩:=id e2;clear d G a4;by_cases hn:qs (VA p s (j:Int))<0
   ·have HE:=JZ (Yee Z (UE.1 hn) Y.out);have hq:qs (VA p s (j:Int))= -1:=Qk;clear T hn;go_wp2_with fail;refine(Zy _ (canF (VA p s (j:Int))) _ e2).mono ?_;rw[Zv,hq];rintro _ w3 ⟨rfl,P⟩;have t:=Za B P B.size;have y3:=Zi t a8.out;clear y B P e2 hq;go_wp2_with fail;refine(Znm e p s K j _ (HH.out.below t) HF.out HZ.out Z).mono ?_;rintro _ w4 ⟨v4,rfl,e4,a5⟩;have H:=Za t a5 t.size;have u:Hid (Zgd p s=(j:Int)):=JZ (Xl HE.out).2.1;have U:Hid (dirL p s (j:Int)=Ud p s):=JZ (Xl HE.out).2.2.symm;have v:Hid (Xa p s=if X8 s (dirL p s (j:Int)) (dirL p s (j:Int)).length then 3 else 0):=JZ (Xl HE.out).1;have l:Hid ((dirL p s (j:Int)).length=m):=JZ (by rw[a9.out];exact Zbv HR.out _);have aa:=e4.monoB t.size;obtain⟨A4,c4,af⟩:=e4.slice;rw[l.out]at af;subst af;obtain⟨-,ao,ap⟩:=e4.frs.len;have al:=Zi a5 y3;clear t a5 e4;rcases hph with hp1|hp2
    ·have r:Hid (Xa p s=0):=JZ (by rw[v.out,Zwg (by rw[<-R.out];omega)];rfl);have b:=aa;rw[U.out]at b;have a:=H;clear y3;subst hp1;go_wp2;refine iP (fC rfl _ _ _) rfl ?_;exact⟨_,by rw[r.out,u.out];rfl,b,a⟩
    ·subst hp2;clear y3;go_wp2;clear al;have V:=JZ aa
     go_loopw [50] (λx wr=>∃k:Nat,k<=m/\x= .int .i64 k/\Below w4.heap.size w4 wr/\∀i,i<k->¬Yed s (dirL p s (j:Int)) i) (λx _=>m - (intOf x).toNat)
     case atStart=>exact⟨0,Qk,rfl,JR _ _,λi hi=>absurd hi Qk⟩
     case round=>
      obtain⟨k,hk,rfl,d,O⟩:=hrel;have a0:=JZ O;clear O;have C:=Za H d H.size;rcases JX k m with hkl|hkl
      ·have av:(k:Int)<m:=Qk;obtain⟨f,hf⟩:=YJ (fs:=dirL p s (j:Int)) (i:=k) (by rw[l.out];exact hkl);have HQ:Hid (qAt (dirL p s (j:Int)) k=f.q):=JZ (YW hf);obtain⟨b5,o5,A5,n5,c5,A6,n6,c6,rfl,_,⟨x0,x1,x2,x3⟩,ag⟩:=V.out.frs.elem d hf;obtain⟨W6,am,hV,X⟩:=Xp wr (.bool f.num.neg) (.slice A5 n5 c5) (.bool f.den.neg) (.slice A6 n6 c6);obtain⟨u0,u1,u2,u3⟩:=hV.four;have ab:=ag.below X;have I:=Za d X d.size;have J:=Za C X C.size;have T:qs f.q=0\/qs f.q=1\/qs f.q= -1:=(by have:=VY f.q;omega);obtain⟨bb,ob,z,rfl,z0,ah,-,-⟩:=HI.out.at_ (show k<p.right.length by rw[<-a9.out];exact hkl);have ac:Hid (s.at_ k=z):=JZ (LSt.at_eq ah);clear hf ag d C hV X ah;go_wp2_with fail;clear am;refine(Zy _ f _ ab).mono ?_;rintro _ w7 ⟨rfl,a6⟩;have D:=Za I a6 I.size;have E:=Za J a6 J.size;have z1:=Zi E z0;have y4:=Zi E ak.out;clear ab I J a6 x0 x1 x2 x3 u0 u1 u2 u3 z0;rcases T with hq|hq|hq
       ·rw[hq];have L:¬Yed s (dirL p s (j:Int)) k:=by
         unfold Yed;rw[HQ.out,Yg.1 hq];rintro(g|g)
         ·exact absurd g Ql
         ·exact g.2 rfl
        have M:=JZ L;clear hq L;go_wp2;go_roundw
        case rel=>exact⟨k+1,Qk,by go_num,D,λi hi=>by
         by_cases g:i=k
         ·rw[g];exact M.out
         ·exact a0.out i Qk⟩
        case measure=>exact Qn
       ·rw[hq];have hh:Yed s (dirL p s (j:Int)) k:= .inl (by rw[HQ.out];exact UZ.1 Qk);have r:Hid (Xa p s=0):=JZ (by rw[v.out,Ziy hh _ (by rw[l.out];exact hkl)];rfl);have b:=V.out.below D;rw[U.out]at b;have a:=E;clear hq hh;go_wp2;refine iP (fC rfl _ _ _) rfl ?_;exact⟨_,by rw[r.out,u.out];rfl,b,a⟩
       ·rw[hq];have a1:f.q≠0:=λg=>by have:=Yg.2 g;omega
        have a2:¬0<f.q:=λg=>by have:=UZ.2 g;omega
        by_cases a7:z<0
        ·have hh:Yed s (dirL p s (j:Int)) k:= .inr ⟨by rw[ac.out];exact a7,by rw[HQ.out];exact a1⟩;have r:Hid (Xa p s=0):=JZ (by rw[v.out,Ziy hh _ (by rw[l.out];exact hkl)];rfl);have b:=V.out.below D;rw[U.out]at b;have a:=E;clear hq hh a1 a2;go_wp2;refine iP (fC rfl _ _ _) rfl ?_;exact⟨_,by rw[r.out,u.out];rfl,b,a⟩
        ·have L:¬Yed s (dirL p s (j:Int)) k:=by
          unfold Yed;rw[HQ.out,ac.out];rintro(g|g)
          ·exact a2 g
          ·exact a7 g.1
         have M:=JZ L;have aw:0<=z:=Qk;clear hq L a1 a2 a7;go_wp2;go_roundw
         case rel=>exact⟨k+1,Qk,by go_num,D,λi hi=>by
          by_cases g:i=k
          ·rw[g];exact M.out
          ·exact a0.out i Qk⟩
         case measure=>exact Qn
      ·obtain rfl:m=k:=Qk
       have r:Hid (Xa p s=3):=JZ (by rw[v.out,Zqk R.out.symm _ (by rw[l.out];exact a0.out)];rfl);have b:=V.out.below d;rw[U.out]at b;have a:=C;go_wp2;refine iP (fC rfl _ _ _) rfl ?_;exact⟨_,by rw[r.out,u.out];rfl,b,a⟩
   ·have M:Hid (¬VA p s (j:Int)<0):=JZ λg=>hn (by have:=UE.2 g;omega)
    have ax:0<=qs (VA p s (j:Int)):=Qk;clear T hn;go_wp2_with fail;refine(Zy _ (canF (VA p s (j:Int))) _ e2).mono ?_;rw[Zv];rintro _ w3 ⟨rfl,P⟩;have ad:=Za y P y.size;clear y B P e2;go_wp2;go_roundw
    case rel=>exact⟨j+1,Qk,by go_num,rfl,ad,λi hi=>by
     by_cases g:i=j
     ·rw[g];exact M.out
     ·exact Y.out i Qk⟩
    case measure=>exact Qn
  ·obtain rfl:N=j:=Qk
   have HE:=JZ (Yef (p:=p) (s:=s) (by rw[<-HN.out];exact Y.out));have u:Hid (Zgd p s= -1):=JZ (WF HE.out).2.1;have b:Yy w.heap.size wr (.slice none 0 0) (Ud p s):=(by rw[(WF HE.out).2.2];exact Yy.nil _ _);have a:=G;have y3:=Zi G a8.out;have v:Hid (Xa p s=if s.phase=1 then 2 else 1):=JZ (WF HE.out).1;rcases hph with hp1|hp2
   ·have r:Hid (Xa p s=2):=JZ (by rw[v.out,jB (by rw[<-R.out];exact hp1)]);subst hp1;go_wp2;refine iP (fC rfl _ _ _) rfl ?_;exact⟨_,by rw[r.out,u.out];rfl,b,a⟩
   ·have r:Hid (Xa p s=1):=JZ (by rw[v.out,jA (by rw[<-R.out];omega)]);subst hp2;go_wp2;refine iP (fC rfl _ _ _) rfl ?_;exact⟨_,by rw[r.out,u.out];rfl,b,a⟩
def Zdx(e:Nat)(p:LPd)(s:LSt)(K i:Nat)(w:World)(h:Zyu w e p s K)(S:s.Fit p)(F:p.Ft K)(hi:i<p.right.length):
 Calls prog 102 #[.pointer (some ⟨e,0,none⟩),.int .i64 (i:Int)] w λo w'=>o= .returned (.int .i64 (ordQ p (s.at_ i)))/\Below w.heap.size w w':=by
 obtain⟨Ab,cb,base,bi,gB,vz,h1,h2,h3,h4⟩:=h;obtain⟨-,y4,-,-,-⟩:=h1.cells;obtain⟨A,n,c,A',N,c',q,r,t,hB,-,hv,-⟩:=h1;obtain⟨l1,l2,l3⟩:=hv.len;have y1:=hB.cellAt 1 rfl;obtain⟨-,d,f⟩:=h2.len;obtain⟨bb,ob,z,rfl,z0,a,u,v⟩:=h2.at_ hi;have b:Hid (s.at_ i=z):=JZ (LSt.at_eq a);have g:=S.1 i z a;have j:=F.1.cols;have k:(i:Int)<p.right.length:=Qk
 have HN:=JZ l1;have l:N<=1200:=Qk
 have m:=F.2.1;rw[b.out];rcases jR z 0 with hz0|hz0
 ·have HQ:Hid (ordQ p z=N - 1 - z):=JZ (by unfold ordQ;rw[jA Qk,HN.out]);rw[HQ.out];clear h2 h3 h4 hB hv a S F l1 HQ;go_enter func102,ntmps102;go_wp2;go_ret;exact⟨by go_num,JR _ _⟩
 ·have HQ:Hid (ordQ p z=z):=JZ (by unfold ordQ;rw[jB hz0]);rw[HQ.out];clear h2 h3 h4 hB hv a S F l1 HQ;go_enter func102,ntmps102;go_wp2;go_ret;exact⟨rfl,JR _ _⟩
section
def Ylt(U w:World)(e:Nat)(p:LPd)(s:LSt)(K:Nat)(A:Option Addr)(n c:Nat)(A':Option Addr)(n' c':Nat)(A'':Option Addr)(n'' c'':Nat)(Ab:Option Addr)(cb gB:Nat)(vz:Value):Prop:=
 ∃bB bi,(UY U (.slice A n c) p.cost/\VE U (.slice A' n' c') p.cols/\UY U (.slice A'' n'' c'') p.right)/\(U.heap.size<=e/\U.heap.size<=bB/\bB<=w.heap.size/\bi<=w.heap.size)/\Zt U.heap.size w (.slice Ab p.right.length cb) s.basis/\(∀b,(Value.slice Ab p.right.length cb).ownBlock=some b->b<bB)/\
  Zfc bB bi w gB p.right.length K (s.mat p)/\Yy U.heap.size w vz (zL p s)/\(∀b,vz.ownBlock=some b->b<bi)/\Below U.heap.size U w
def Zql(U w:World)(e:Nat)(p:LPd)(s:LSt)(K:Nat):Prop:=
 ∃A n c A' n' c' A'' n'' c'' Ab cb gB vz,Bk w e 125 [.slice A n c,.slice A' n' c',.slice A'' n'' c'',.int .i64 s.phase,.slice Ab p.right.length cb,.int .i64 s.pivots,.pointer (some ⟨gB,0,none⟩),vz]/\Ylt U w e p s K A n c A' n' c' A'' n'' c'' Ab cb gB vz
section
variable {U w w':World} {e:Nat} {p:LPd} {s:LSt} {K:Nat} {A:Option Addr} {n c:Nat} {A':Option Addr} {n' c':Nat} {A'':Option Addr} {n'' c'':Nat} {Ab:Option Addr} {cb gB:Nat} {vz:Value}
def Ylt.below(h:Ylt U w e p s K A n c A' n' c' A'' n'' c'' Ab cb gB vz)(hb:Below w.heap.size w w'):Ylt U w' e p s K A n c A' n' c' A'' n'' c'' Ab cb gB vz:=by
 obtain⟨bB,bi,h1,⟨h2,h3,h4,h5⟩,h6,h7,h8,h9,b,a⟩:=h;have:=hb.size;exact⟨bB,bi,h1,⟨h2,h3,Qk,Qk⟩,h6.below hb,h7,h8.below hb,h9.below hb,b,Za a hb a.size⟩
def Ylt.cell{cs:List Value}(h:Ylt U w e p s K A n c A' n' c' A'' n'' c'' Ab cb gB vz)(hB:Bk w e 125 cs)(i:Nat)(v:Value):Ylt U (w.setCell ⟨e,i,none⟩ v) e p s K A n c A' n' c' A'' n'' c'' Ab cb gB vz:=by
 obtain⟨bB,bi,h1,⟨h2,h3,h4,h5⟩,h6,h7,h8,h9,a,b⟩:=h;have hk:=Zf.setCell hB i v;exact⟨bB,bi,h1,⟨h2,h3,by simpa using h4,by simpa using h5⟩,h6.but hk Ql,h7,h8.but hk Ql Ql Ql Ql Ql Ql Ql,h9.but hk Ql Ql,a,b.setCell (p:=⟨e,i,none⟩) h2 v⟩
def Zql.below(h:Zql U w e p s K)(hb:Below w.heap.size w w'):Zql U w' e p s K:=by
 obtain⟨A,n,c,A',n',c',a,b,d,Ab,cb,gB,vz,h1,h2⟩:=h;exact⟨A,n,c,A',n',c',a,b,d,Ab,cb,gB,vz,h1.later hb,h2.below hb⟩
def Zql.bel(h:Zql U w e p s K):Below U.heap.size U w:=by
 obtain⟨A,n,c,A',n',c',a,b,d,Ab,cb,gB,vz,h1,bB,bi,_,_,_,_,_,_,_,h2⟩:=h;exact h2
def Zql.r(h:Zql U w e p s K):Zyu w e p s K:=by
 obtain⟨A,n,c,A',n',c',a,b,d,Ab,cb,gB,vz,h1,bB,bi,⟨g1,g2,g3⟩,_,h6,_,h8,h9,_,f⟩:=h;have hb:Below U.heap.size U w:=f;exact⟨Ab,cb,bB,bi,gB,vz,⟨A,n,c,A',n',c',a,b,d,h1,g1.below hb,g2.below hb,g3.below hb⟩,h6.ints,h8,h9.frs⟩
end
namespace Pl
def Yjj{p:LPd}{s:LSt}(h:s.phase=2):settleQ p s=s:=by
 obtain⟨a,b,c⟩:=s;simp only at h;subst h;unfold settleQ;simp
def Zyv{p:LPd}{s:LSt}{k:Nat}(hk:k< (zL p s).length)(h1:s.at_ k<0)(h2:qAt (zL p s) k≠0):settleQ p s=s:=by
 unfold settleQ;rw[Zdc h1 h2 hk];rfl
def Yeg{p:LPd}{s:LSt}(h:∀k,k< (zL p s).length->s.at_ k<0->qAt (zL p s) k=0):settleQ p s=⟨2,s.basis,s.pivots⟩:=by
 unfold settleQ;rw[Zet h];rfl
end Pl
def Zlg(U:World)(e:Nat)(p:LPd)(s:LSt)(K:Nat)(w:World)(h:Zql U w e p s K)(F:p.Ft K):
 Calls prog 59 #[.pointer (some ⟨e,0,none⟩)] w λo w'=>o= .returned (.tuple #[])/\Zql U w' e p (settleQ p s) K:=by
 have HO:=JZ h;have HR:=JZ h.r.reg;obtain⟨Ab,cb,base,bi,gB,vz,h1,h2,h3,h4⟩:=h.r;obtain⟨y3,y4,-,-,y7⟩:=h1.cells;obtain⟨ph,hp⟩:∃ph,ph=s.phase:=⟨_,rfl⟩;have J:=JZ hp;rw[<-hp]at y3;obtain⟨m,hm⟩:∃m,m=p.right.length:=⟨_,rfl⟩;have L:=JZ hm;rw[<-hm]at y4;have a5:m<=7:=by rw[hm];exact F.2.1
 obtain⟨-,E,a3⟩:=h2.len;rw[<-hm]at E;have l:Hid ((zL p s).length=m):=JZ (by rw[hm];exact Zer HR.out);obtain⟨Az,cz,rfl,G,a4⟩:=h4.shape;rw[l.out]at h4 G y7;have HI:=JZ h2;have M:=JZ h4;have a6:=JZ y3;have a7:=JZ y4;have N:=JZ y7;clear h h1 h2 h3 h4 F hp hm;by_cases y:ph=2
 ·subst y;clear y4 y7;go_enter func59,ntmps59;go_wp2;refine iP (Bn rfl _ _ _) rfl ?_;exact⟨rfl,by rw[Yjj J.out.symm];exact HO.out⟩
 ·have O:(ph==2)=false:=by simpa using y
  clear y7;go_enter func59,ntmps59;go_wp2;clear y3 y4 O y
  go_loopw [14] (λx wr=>∃k:Nat,k<=m/\x= .int .i64 k/\Below w.heap.size w wr/\∀i,i<k->s.at_ i<0->qAt (zL p s) i=0) (λx _=>m - (intOf x).toNat)
  case atStart=>exact⟨0,Qk,rfl,JR _ _,λi hi=>absurd hi Qk⟩
  case round=>
   obtain⟨k,hk,rfl,a,H⟩:=hrel;have u:=JZ H;clear H;rcases JX k m with hkl|hkl
   ·have a8:(k:Int)<m:=Qk;obtain⟨bb,ob,z,rfl,z0,I,-,-⟩:=HI.out.at_ (show k<p.right.length by rw[<-L.out];exact hkl);have B:Hid (s.at_ k=z):=JZ (LSt.at_eq I);obtain⟨f,hf⟩:=YJ (fs:=zL p s) (i:=k) (by rw[l.out];exact hkl);have HQ:Hid (qAt (zL p s) k=f.q):=JZ (YW hf);have z1:=Zi a z0;clear I z0;by_cases a2:z<0
    ·obtain⟨b5,o5,A5,n5,c5,A6,n6,c6,rfl,_,⟨x0,x1,x2,x3⟩,t⟩:=M.out.elem a hf;have y7:=Zi a N.out;have C:qs f.q=0\/qs f.q=1\/qs f.q= -1:=(by have:=VY f.q;omega);clear hf;by_cases b:qs f.q=0
     ·have v:=JZ (Yg.1 b);clear C;go_wp2_with fail;refine(Zy _ f _ t).mono ?_;rw[b];rintro _ w3 ⟨rfl,j⟩;have d:=Za a j a.size;clear a j t x0 x1 x2 x3 y7 b z1;go_wp2;go_roundw
      case rel=>exact⟨k+1,Qk,by go_num,d,λi hi=>by
       by_cases g:i=k
       ·rw[g];exact λ_=>by rw[HQ.out];exact v.out
       ·exact u.out i Qk⟩
      case measure=>exact Qn
     ·have v:Hid (f.q≠0):=JZ λg=>b (Yg.2 g)
      have a9:(qs f.q !=0)=true:=(by simpa using b);clear C b;go_wp2_with fail;refine(Zy _ f _ t).mono ?_;rintro _ w3 ⟨rfl,j⟩;have d:=Za a j a.size;have D:settleQ p s=s:=Zyv (k:=k) (by rw[l.out];exact hkl) (by rw[B.out];exact a2) (by rw[HQ.out];exact v.out);clear a j t x0 x1 x2 x3 y7 z1;go_wp2;refine iP (Bn rfl _ _ _) rfl ?_;exact⟨rfl,by rw[D];exact HO.out.below d⟩
    ·have aa:0<=z:=Qk;clear hf;go_wp2;go_roundw
     case rel=>exact⟨k+1,Qk,by go_num,a,λi hi=>by
      by_cases g:i=k
      ·rw[g,B.out];intro h;omega
      ·exact u.out i Qk⟩
     case measure=>exact Qn
   ·obtain rfl:m=k:=Qk
    obtain⟨A,n,c,A',n',c',T,V,X,Y,Z,a0,a1,hB,hI⟩:=HO.out.below a;have t3:=hB.cellAt 3 rfl;have f3:=hB.frozen 3;have P:=hI.cell hB 3 (.int .i64 2);have R:=hB.set_ 3 (.int .i64 2);have S:Hid (settleQ p s=⟨2,s.basis,s.pivots⟩):=JZ (Yeg (by rw[l.out];exact u.out));clear hB hI;go_wp2
    go_end0
    exact⟨rfl,by rw[S.out];exact⟨A,n,c,A',n',c',T,V,X,Y,Z,a0,a1,R,P⟩⟩
def Zth(e:Nat)(p:LPd)(s:LSt)(K:Nat)(vd:Value)(D:List RF)(w:World)(h:Zyu w e p s K)(hd:UY w vd D)(hdl:D.length=p.right.length)(hdb:RsL (5^p.right.length*K) D)(S:s.Fit p)(F:p.Ft K):
 Calls prog 63 #[.pointer (some ⟨e,0,none⟩),vd] w λo w'=>o= .returned (.int .i64 (oi (Vb p s (zL p s) D)))/\Below w.heap.size w w':=by
 have HH:=JZ h;have HR:=JZ h.reg;obtain⟨Ab,cb,base,bi,gB,vz,h1,h2,h3,h4⟩:=h;obtain⟨y3,y4,-,-,y7⟩:=h1.cells;obtain⟨ph,hp⟩:∃ph,ph=s.phase:=⟨_,rfl⟩;have bj:=JZ hp;rw[<-hp]at y3;obtain⟨m,hm⟩:∃m,m=p.right.length:=⟨_,rfl⟩;have b0:=JZ hm;rw[<-hm]at y4;have a9:m<=7:=by rw[hm];exact F.2.1
 obtain⟨-,c9,cq⟩:=h2.len;rw[<-hm]at c9;have bk:Hid ((zL p s).length=m):=JZ (by rw[hm];exact Zer HR.out);have al:Hid (D.length=m):=JZ (by rw[hm];exact hdl);obtain⟨Az,cz,rfl,ca,cr⟩:=h4.shape;obtain⟨Ad,cd,rfl,cc,cs⟩:=hd.shape;rw[bk.out]at h4 ca y7;rw[al.out]at hd cc⊢;have HI:=JZ h2;have bt:=JZ h4;have bl:=JZ hd;have ax:=JZ hdb;have ay:=JZ (Yqt F.1 s);have HJ:Hid (1<=5^p.right.length*K/\5^p.right.length*K<=4000000):=JZ ⟨JW F.1.k1 F.1.le,F.2.2⟩;have HS:=JZ S;have HF:=JZ F;have ct:=JZ y4;have bu:=JZ y7;clear h1 h2 h3 h4 S F hd hdl hdb hp hm y7;by_cases bh:ph=2
 ·subst bh;go_enter func63,ntmps63;go_wp2;clear y3 y4
  go_loopw [24] (λx wr=>∃k:Nat,k<=m/\x= .int .i64 k/\Below w.heap.size w wr/\∀i,0<=i->i<0+k->¬Zqy s D i<0) (λx _=>m - (intOf x).toNat)
  case atStart=>exact⟨0,Qk,rfl,JR _ _,λi _ hi=>absurd hi Qk⟩
  case round=>
   obtain⟨k,hk,rfl,B,ce⟩:=hrel;have bg:=JZ ce;clear ce;rcases JX k m with hkl|hkl
   ·have bv:(k:Int)<m:=Qk;obtain⟨bb,ob,z,rfl,z0,cf,-,-⟩:=HI.out.at_ (show k<p.right.length by rw[<-b0.out];exact hkl);have bw:Hid (s.at_ k=z):=JZ (LSt.at_eq cf);obtain⟨f,hf⟩:=YJ (fs:=D) (i:=k) (by rw[al.out];exact hkl);have HQ:Hid (qAt D k=f.q):=JZ (YW hf);have z1:=Zi B z0;clear cf z0;by_cases cp:z<0
    ·obtain⟨b5,o5,A5,n5,c5,A6,n6,c6,rfl,_,⟨x0,x1,x2,x3⟩,ab⟩:=bl.out.elem B hf;have aa:qs f.q=0\/qs f.q=1\/qs f.q= -1:=(by have:=VY f.q;omega);clear hf;by_cases az:qs f.q=0
     ·have bm:=JZ (Yg.1 az);clear aa;go_wp2_with fail;refine(Zy _ f _ ab).mono ?_;rw[az];rintro _ w3 ⟨rfl,bf⟩;have b1:=Za B bf B.size;clear B bf ab x0 x1 x2 x3 az z1;go_wp2;go_roundw
      case rel=>exact⟨k+1,Qk,by go_num,b1,λi h0 hi=>by
       by_cases g:i=k
       ·rw[g];exact Ybs λh=>h.2 (by rw[HQ.out];exact bm.out)
       ·exact bg.out i h0 Qk⟩
      case measure=>exact Qn
     ·have bm:Hid (f.q≠0):=JZ λg=>az (Yg.2 g)
      have cu:(qs f.q !=0)=true:=(by simpa using az);clear aa az;go_wp2_with fail;refine(Zy _ f _ ab).mono ?_;rintro _ w3 ⟨rfl,bf⟩;have b1:=Za B bf B.size;have cg:Vb p s (zL p s) D=some k:=Zep bj.out.symm (WZ Qk (by rw[al.out];omega) (Zmh (by rw[bw.out];exact cp) (by rw[HQ.out];exact bm.out)) λi h0 hi=>bg.out i h0 Qk);clear B bf ab x0 x1 x2 x3 z1;go_wp2;go_ret;exact⟨by rw[cg];rfl,b1⟩
    ·have cv:0<=z:=Qk;clear hf;go_wp2;go_roundw
     case rel=>exact⟨k+1,Qk,by go_num,B,λi h0 hi=>by
      by_cases g:i=k
      ·rw[g];exact Ybs λh=>by rw[bw.out]at h;omega
      ·exact bg.out i h0 Qk⟩
     case measure=>exact Qn
   ·obtain rfl:m=k:=Qk
    have bn:Hid (Vb p s (zL p s) D=Ye p s (zL p s) D D.length):=JZ (Zeq bj.out.symm (Uu (by rw[al.out];exact bg.out)));obtain⟨W8,bq,Z,Y⟩:=Xp wr (.bool false) (.slice none 0 0) (.bool false) (.slice none 0 0);have j:=Za B Y B.size;have am:=B.size;clear B Y;go_wp2;clear bq;generalize wr.heap.size=gl at *
    go_loopw [7,43] (λbst x wr=>∃k:Nat,k<=m/\x= .int .i64 k/\bst= .int .i64 (oi (Ye p s (zL p s) D k))/\Below w.heap.size w wr/\(∃x y z u,Bk wr gl 49 [x,y,z,u])/\∀t,Ye p s (zL p s) D k=some t->t<k/\Znk wr gl (WH (zL p s) D t)) (λ_ x _=>m - (intOf x).toNat)
    case atStart=>exact⟨0,Qk,rfl,rfl,j,⟨_,_,_,_,Z⟩,λt ht=>by cases ht⟩
    case round=>
     clear j Z;obtain⟨k,hk,rfl,rfl,B,⟨lx,ly,lz,lu,hL⟩,a5⟩:=hrel;rcases JX k m with hkl|hkl
     ·have bv:(k:Int)<m:=Qk;obtain⟨f,hf⟩:=YJ (fs:=D) (i:=k) (by rw[al.out];exact hkl);have HQ:Hid (qAt D k=f.q):=JZ (YW hf);have b2:=ax.out k f hf;obtain⟨b5,o5,A5,n5,c5,A6,n6,c6,rfl,_,⟨x0,x1,x2,x3⟩,ab⟩:=bl.out.elem B hf;obtain⟨W6,br,hV,a6⟩:=Xp wr (.bool f.num.neg) (.slice A5 n5 c5) (.bool f.den.neg) (.slice A6 n6 c6);obtain⟨u0,u1,u2,u3⟩:=hV.four;have an:=ab.below a6;have a3:=Za B a6 B.size;have b3:=hL.later a6;have ao:=JZ λt ht=>(⟨(a5 t ht).1,(a5 t ht).2.below a6⟩:t<k/\Znk W6 gl (WH (zL p s) D t))
      have aa:qs f.q=0\/qs f.q=1\/qs f.q= -1:=(by have:=VY f.q;omega);clear hf ab B hL a5;go_wp2_with fail;clear br;refine(Zy _ f _ an).mono ?_;rintro _ w7 ⟨rfl,a1⟩;have N:=Za a3 a1 a3.size;have ac:=b3.later a1;have a4:=JZ λt ht=>(⟨(ao.out t ht).1,(ao.out t ht).2.below a1⟩:t<k/\Znk w7 gl (WH (zL p s) D t))
      have a9:=an.below a1;have ap:=hV.later a1;clear an a3 b3 ao hV a6 a1 x0 x1 x2 x3 u0 u1 u2 u3;by_cases A:0<f.q
      ·have hq:qs f.q=1:=(by have:=UZ.2 A;omega);rw[hq];have b4:f.q≠0:=λg=>by rw[g]at A;exact absurd A Ql
       have b6:f.Sm:=b2.sm (by have:=HJ.out;omega);obtain⟨fz,ae⟩:=YJ (fs:=zL p s) (i:=k) (by rw[bk.out];exact hkl);have b7:Hid (qAt (zL p s) k=fz.q):=JZ (YW ae);have b8:fz.Sm:=(ay.out k fz ae).sm (by have:=HJ.out;omega);obtain⟨bz,oz,A7,n7,c7,A8,n8,c8,rfl,_,⟨z0,z1,z2,z3⟩,au⟩:=bt.out.elem N ae;obtain⟨u0,u1,u2,u3⟩:=ap.four;have y7:=Zi N bu.out;obtain⟨q,af⟩:∃q,q=fz.q/f.q:=⟨_,rfl⟩;have b9:Hid (fz.q/f.q=q):=JZ af.symm;have H:Hid (q=WH (zL p s) D k):=JZ (by unfold WH;rw[b7.out,HQ.out];exact af);have R:Hid (0<qAt D k):=JZ (by rw[HQ.out];exact A);have bo:Hid (Sz (2* (5^p.right.length*K)) q):=JZ (by
        rw[af,<-b7.out,<-HQ.out];exact(Zbf (ay.out.qAt HJ.out.1 k) (ax.out.qAt HJ.out.1 k)).mono Qk)
       clear ae af aa hq A b2
       go_upto_region 14 with(fail)
       go_cut [11] (λs11 wx=>Zdu w7 (canF q) s11 wx)
       case first=>
        have C0:=Zm u0;have C1:=Zm u1;have C2:=Zm u2;have C3:=Zm u3;have E0:=Zm z0;have E1:=Zm z1;have E2:=Zm z2;have E3:=Zm z3;have D0:=Zm y7;have c:=Zc w7;clear u0 u1 u2 u3 z0 z1 z2 z3 y7;refine Xk 13 (.go 0 (.go 1 (.go 2 (.go 3 (.go 4 (.go 5 (.go 6 (.go 7 (.fork 8 (.go 9 (.go 10 (.go 11 (.go 12 (.go 13 (.go 14 .done)))))) 12 (.go 8 (.go 9 (.go 10 (.go 11 (.go 13 (.go 14 .done))))))))))))))) Qm Qm ?_;refine Qf ?_
        refine Uc rfl rfl (λ_ kq=>?_) (λ_ kq=>?_)
        ·go_simp;(with_reducible refine(XN _ _ fz f _ (au.below c) (a9.below c) b8 b6 b4).mono ?_);rw[b9.out];rintro _ wA ⟨vA,rfl,eA,ak⟩;have V:=Za c ak c.size;obtain⟨A6,n6,c6,B6,m6,d6,rfl,_,_⟩:=id eA;refine kq.out _ _ (.inr V) (Qg ?_);clear kq
         obtain⟨WG,av,a0,ag⟩:=Xp wA (.bool false) (.slice none 0 0) (.bool false) (.slice none 0 0);refine Qp λ_ kq=>?_;have aq:=V.size;have T:=Za V ag V.size;refine kq.out _ _ (.inr T) (Qj ?_);clear kq av;have bp:=eA.below ag;obtain⟨t0,t1,t2,t3⟩:=a0.four;obtain⟨f0,f1,f2,f3⟩:=a0.fourF;refine Qi ?_;refine Qi ?_;refine YQ ?_;go_wp2_with fail
         go_meet
         exact Zdu.mk a0 bp T aq
        ·obtain⟨WG,av,a0,ag⟩:=Xp w7.drew (.bool false) (.slice none 0 0) (.bool false) (.slice none 0 0);go_simp;have aq:=c.size;have T:=Za c ag c.size;refine kq.out _ _ (.inr T) (Qj ?_);clear kq av
         change Bk WG w7.heap.size 49 _ at a0
         refine Qp λ_ kq=>?_;(with_reducible refine(XN _ _ fz f _ (au.below T) (a9.below T) b8 b6 b4).mono ?_);rw[b9.out];rintro _ wA ⟨vA,rfl,eA,ak⟩;have V:=Za T ak T.size;obtain⟨A6,n6,c6,B6,m6,d6,rfl,_,_⟩:=id eA;refine kq.out _ _ (.inr V) (Qj ?_);clear kq;have hG:=a0.later ak;refine Qf ?_
         obtain⟨t0,t1,t2,t3⟩:=hG.four;obtain⟨f0,f1,f2,f3⟩:=hG.fourF;refine Qi ?_;refine Qi ?_;refine YQ ?_;go_wp2_with fail
         go_meet
         exact Zdu.mk hG eA V aq
       case rest=>
        obtain⟨gm,Am,nm,cm,C,E,G,rfl,cl,a7,a8,Y⟩:=hcut;have j:=Za N Y N.size;have Z:=ac.later Y;have ar:=JZ λt ht=>(⟨(a4.out t ht).1,(a4.out t ht).2.below Y⟩:t<k/\Znk wc gl (WH (zL p s) D t))
        have bx:gl≠gm:=(by have:=ac.lt;omega);clear N ac a4 a9 ap au Y u0 u1 u2 u3 z0 z1 z2 z3 y7
        cases hbo:Ye p s (zL p s) D k with
        |none=>
         have d:Hid (Ye p s (zL p s) D (k+1)=some k):=JZ (Y6 hbo R.out);have I:=a7;have b:=Z;have J:=a8;have a:=j;obtain⟨w9,aw⟩:∃w9,w9=wc:=⟨_,rfl⟩;subst aw;clear a7 Z a8 j ar hbo;simp only[oi]
         obtain⟨t0,t1,t2,t3⟩:=I.four;obtain⟨c0,c1,c2,c3⟩:=b.four;obtain⟨f0,f1,f2,f3⟩:=b.fourF
         go_upto_region 19 with(fail)
         have C0:=Zm t0;have C1:=Zm t1;have C2:=Zm t2;have C3:=Zm t3;have c:=Zc w9;clear t0 t1 t2 t3;refine Zj 3 [0,1,2,3] Qm Qm ?_;refine Qb ?_
         refine Qh ?_;refine Zl ?_;clear C0 C1 C2 C3;have l:=(b.later c).set4 (.bool (canF q).num.neg) (.slice Am nm cm) (.bool (canF q).den.neg) (.slice C E G);have n:=(b.later c).but4 (.bool (canF q).num.neg) (.slice Am nm cm) (.bool (canF q).den.neg) (.slice C E G);have U:=(J.below c).keep (n.keep Ql);have L:=ZE (Za a c a.size) am (.bool (canF q).num.neg) (.slice Am nm cm) (.bool (canF q).den.neg) (.slice C E G);clear b I J n c c0 c1 c2 c3 f0 f1 f2 f3 a;go_wp2;go_roundw
         case rel=>exact⟨k+1,Qk,by go_num,by rw[d.out];rfl,L,⟨_,_,_,_,l⟩,λt ht=>by
          rw[d.out]at ht;injection ht with ht;subst ht;exact⟨Qk,Am,nm,cm,C,E,G,by rw[<-H.out];exact l,by rw[<-H.out];exact U⟩⟩
         case measure=>exact Qn
        |some tb=>
         obtain⟨cn,A4,n4,c4,A5,n5,c5,ah,ai⟩:=ar.out tb hbo;have ch:(tb:Int)<m:=Qk;have ba:qs (q - WH (zL p s) D tb)=0\/qs (q - WH (zL p s) D tb)=1\/qs (q - WH (zL p s) D tb)= -1:=(by have:=VY (q - WH (zL p s) D tb);omega);obtain⟨rb,aj⟩:∃rb,rb=WH (zL p s) D tb:=⟨_,rfl⟩;have X:=JZ aj;rw[<-aj]at ah ai ba;have bc:(canF q).Sm:=bo.out.rs.sm (by have:=HJ.out;omega);have bd:(canF rb).Sm:=by
          rw[aj];unfold WH;exact(Zbf (ay.out.qAt HJ.out.1 tb) (ax.out.qAt HJ.out.1 tb)).rs.sm (by have:=HJ.out;omega)
         have ad:=JZ hbo;obtain⟨u0,u1,u2,u3⟩:=a7.four;obtain⟨z0,z1,z2,z3⟩:=ah.four;simp only[oi];clear ar hbo aj Z;go_wp2_with fail;refine(UT _ _ (canF q) (canF rb) _ a8 ai bc bd).mono ?_;rw[Zv,Zv];rintro _ w9 ⟨rfl,a2⟩;have I:=a7.later a2;have b:=ah.later a2;have J:=a8.below a2;have r:=ai.below a2;have a:=Za j a2 j.size;clear a7 ah a8 ai j a2 u0 u1 u2 u3 z0 z1 z2 z3 bc bd;rcases ba with hc|hc|hc
         ·rw[hc];have be:Hid (q=rb):=JZ (by have:=Yg.1 hc;grind);clear hc;go_wp2_with fail;refine(Zdx e p s K k _ (HH.out.below a) HS.out HF.out (by rw[<-b0.out];exact hkl)).mono ?_;rintro _ co ⟨rfl,O⟩;have I:=I.later O;have b:=b.later O;have J:=J.below O;have r:=r.below O;have a:=Za a O a.size;clear O;go_wp2_with fail;refine(Zdx e p s K tb _ (HH.out.below a) HS.out HF.out (by rw[<-b0.out];omega)).mono ?_;rintro _ bs ⟨rfl,P⟩;have I:=I.later P;have b:=b.later P;have J:=J.below P;have r:=r.below P;have a:=Za a P a.size;clear P;by_cases ho:ordQ p (s.at_ k)<ordQ p (s.at_ tb)
          ·have d:Hid (Ye p s (zL p s) D (k+1)=some k):=JZ (YH ad.out R.out (.inr ⟨by rw[<-H.out,<-X.out];exact be.out,ho⟩));obtain⟨w9,aw⟩:∃w9,w9=bs:=⟨_,rfl⟩;subst aw
           obtain⟨t0,t1,t2,t3⟩:=I.four;obtain⟨c0,c1,c2,c3⟩:=b.four;obtain⟨f0,f1,f2,f3⟩:=b.fourF
           go_upto_region 19 with(fail)
           have C0:=Zm t0;have C1:=Zm t1;have C2:=Zm t2;have C3:=Zm t3;have c:=Zc w9;clear t0 t1 t2 t3;refine Zj 3 [0,1,2,3] Qm Qm ?_;refine Qb ?_
           refine Qh ?_;refine Zl ?_;clear C0 C1 C2 C3;have l:=(b.later c).set4 (.bool (canF q).num.neg) (.slice Am nm cm) (.bool (canF q).den.neg) (.slice C E G);have n:=(b.later c).but4 (.bool (canF q).num.neg) (.slice Am nm cm) (.bool (canF q).den.neg) (.slice C E G);have U:=(J.below c).keep (n.keep Ql);have L:=ZE (Za a c a.size) am (.bool (canF q).num.neg) (.slice Am nm cm) (.bool (canF q).den.neg) (.slice C E G);clear b I J n c c0 c1 c2 c3 f0 f1 f2 f3 a;go_wp2;go_roundw
           case rel=>exact⟨k+1,Qk,by go_num,by rw[d.out];rfl,L,⟨_,_,_,_,l⟩,λt ht=>by
            rw[d.out]at ht;injection ht with ht;subst ht;exact⟨Qk,Am,nm,cm,C,E,G,by rw[<-H.out];exact l,by rw[<-H.out];exact U⟩⟩
           case measure=>exact Qn
          ·have d:Hid (Ye p s (zL p s) D (k+1)=some tb):=JZ (YT ad.out R.out (λg=>by
            rcases g with g|g
            ·rw[<-H.out,<-X.out,be.out]at g;exact absurd g (by grind)
            ·exact ho g.2))
           have ci:ordQ p (s.at_ tb)<=ordQ p (s.at_ k):=Qk;clear ho;generalize ordQ p (s.at_ k)=o1 at *;generalize ordQ p (s.at_ tb)=o2 at *;rw[X.out]at b r
           go_wp2;go_roundw
           case rel=>exact⟨k+1,Qk,by go_num,by rw[d.out];rfl,a,⟨_,_,_,_,b⟩,λt' ht'=>by
            rw[d.out]at ht';injection ht' with ht';subst ht';exact⟨Qk,A4,n4,c4,A5,n5,c5,b,r⟩⟩
           case measure=>exact Qn
         ·rw[hc];have d:Hid (Ye p s (zL p s) D (k+1)=some tb):=JZ (YT ad.out R.out (λg=>by
           have:=UZ.1 (show 0<qs (q - rb) by omega);rcases g with g|g
           ·rw[<-H.out,<-X.out]at g;grind
           ·have g1:=g.1;rw[<-H.out,<-X.out]at g1;grind))
          clear hc;rw[X.out]at b r
          go_wp2;go_roundw
          case rel=>exact⟨k+1,Qk,by go_num,by rw[d.out];rfl,a,⟨_,_,_,_,b⟩,λt' ht'=>by
           rw[d.out]at ht';injection ht' with ht';subst ht';exact⟨Qk,A4,n4,c4,A5,n5,c5,b,r⟩⟩
          case measure=>exact Qn
         ·rw[hc];have d:Hid (Ye p s (zL p s) D (k+1)=some k):=JZ (YH ad.out R.out (.inl (by
           have:=UE.1 (show qs (q - rb)<0 by omega);rw[<-H.out,<-X.out];grind)))
          clear hc
          obtain⟨t0,t1,t2,t3⟩:=I.four;obtain⟨c0,c1,c2,c3⟩:=b.four;obtain⟨f0,f1,f2,f3⟩:=b.fourF
          go_upto_region 19 with(fail)
          have C0:=Zm t0;have C1:=Zm t1;have C2:=Zm t2;have C3:=Zm t3;have c:=Zc w9;clear t0 t1 t2 t3;refine Zj 3 [0,1,2,3] Qm Qm ?_;refine Qb ?_
          refine Qh ?_;refine Zl ?_;clear C0 C1 C2 C3;have l:=(b.later c).set4 (.bool (canF q).num.neg) (.slice Am nm cm) (.bool (canF q).den.neg) (.slice C E G);have n:=(b.later c).but4 (.bool (canF q).num.neg) (.slice Am nm cm) (.bool (canF q).den.neg) (.slice C E G);have U:=(J.below c).keep (n.keep Ql);have L:=ZE (Za a c a.size) am (.bool (canF q).num.neg) (.slice Am nm cm) (.bool (canF q).den.neg) (.slice C E G);clear b I J n c c0 c1 c2 c3 f0 f1 f2 f3 a;go_wp2;go_roundw
          case rel=>exact⟨k+1,Qk,by go_num,by rw[d.out];rfl,L,⟨_,_,_,_,l⟩,λt ht=>by
           rw[d.out]at ht;injection ht with ht;subst ht;exact⟨Qk,Am,nm,cm,C,E,G,by rw[<-H.out];exact l,by rw[<-H.out];exact U⟩⟩
          case measure=>exact Qn
      ·have cj:qs f.q<=0:=by
        rcases aa with g|g|g
        ·omega
        ·exact absurd (UZ.1 (show 0<qs f.q by omega)) A
        ·omega
       have d:Hid (Ye p s (zL p s) D (k+1)=Ye p s (zL p s) D k):=JZ (Xt (by rw[HQ.out];exact A));clear aa A ap a9;go_wp2;go_roundw
       case rel=>exact⟨k+1,Qk,by go_num,by rw[d.out],N,⟨_,_,_,_,ac⟩,λt ht=>by
        rw[d.out]at ht;exact⟨by have:=(a4.out t ht).1;omega,(a4.out t ht).2⟩⟩
       case measure=>exact Qn
     ·obtain rfl:m=k:=Qk
      go_wp2;go_ret;exact⟨by rw[bn.out,al.out];rfl,B⟩
 ·have ck:(ph==2)=false:=by simpa using bh
  have bn:Hid (Vb p s (zL p s) D=Ye p s (zL p s) D D.length):=JZ (Zbt (by rw[<-bj.out];exact bh));go_enter func63,ntmps63;obtain⟨W8,bq,Z,Y⟩:=Xp w (.bool false) (.slice none 0 0) (.bool false) (.slice none 0 0);have j:=Y;have am:=JY w.heap.size;go_wp2;clear bq y3 y4 ck bh Y
  go_loopw [7,43] (λbst x wr=>∃k:Nat,k<=m/\x= .int .i64 k/\bst= .int .i64 (oi (Ye p s (zL p s) D k))/\Below w.heap.size w wr/\(∃x y z u,Bk wr w.heap.size 49 [x,y,z,u])/\∀t,Ye p s (zL p s) D k=some t->t<k/\Znk wr w.heap.size (WH (zL p s) D t)) (λ_ x _=>m - (intOf x).toNat)
  case atStart=>exact⟨0,Qk,rfl,rfl,j,⟨_,_,_,_,Z⟩,λt ht=>by cases ht⟩
  case round=>
   clear j Z;obtain⟨k,hk,rfl,rfl,B,⟨lx,ly,lz,lu,hL⟩,a5⟩:=hrel;rcases JX k m with hkl|hkl
   ·have bv:(k:Int)<m:=Qk;obtain⟨f,hf⟩:=YJ (fs:=D) (i:=k) (by rw[al.out];exact hkl);have HQ:Hid (qAt D k=f.q):=JZ (YW hf);have b2:=ax.out k f hf;obtain⟨b5,o5,A5,n5,c5,A6,n6,c6,rfl,_,⟨x0,x1,x2,x3⟩,ab⟩:=bl.out.elem B hf;obtain⟨W6,br,hV,a6⟩:=Xp wr (.bool f.num.neg) (.slice A5 n5 c5) (.bool f.den.neg) (.slice A6 n6 c6);obtain⟨u0,u1,u2,u3⟩:=hV.four;have an:=ab.below a6;have a3:=Za B a6 B.size;have b3:=hL.later a6;have ao:=JZ λt ht=>(⟨(a5 t ht).1,(a5 t ht).2.below a6⟩:t<k/\Znk W6 w.heap.size (WH (zL p s) D t))
    have aa:qs f.q=0\/qs f.q=1\/qs f.q= -1:=(by have:=VY f.q;omega);clear hf ab B hL a5;go_wp2_with fail;clear br;refine(Zy _ f _ an).mono ?_;rintro _ w7 ⟨rfl,a1⟩;have N:=Za a3 a1 a3.size;have ac:=b3.later a1;have a4:=JZ λt ht=>(⟨(ao.out t ht).1,(ao.out t ht).2.below a1⟩:t<k/\Znk w7 w.heap.size (WH (zL p s) D t))
    have a9:=an.below a1;have ap:=hV.later a1;clear an a3 b3 ao hV a6 a1 x0 x1 x2 x3 u0 u1 u2 u3;by_cases A:0<f.q
    ·have hq:qs f.q=1:=(by have:=UZ.2 A;omega);rw[hq];have b4:f.q≠0:=λg=>by rw[g]at A;exact absurd A Ql
     have b6:f.Sm:=b2.sm (by have:=HJ.out;omega);obtain⟨fz,ae⟩:=YJ (fs:=zL p s) (i:=k) (by rw[bk.out];exact hkl);have b7:Hid (qAt (zL p s) k=fz.q):=JZ (YW ae);have b8:fz.Sm:=(ay.out k fz ae).sm (by have:=HJ.out;omega);obtain⟨bz,oz,A7,n7,c7,A8,n8,c8,rfl,_,⟨z0,z1,z2,z3⟩,au⟩:=bt.out.elem N ae;obtain⟨u0,u1,u2,u3⟩:=ap.four;have y7:=Zi N bu.out;obtain⟨q,af⟩:∃q,q=fz.q/f.q:=⟨_,rfl⟩;have b9:Hid (fz.q/f.q=q):=JZ af.symm;have H:Hid (q=WH (zL p s) D k):=JZ (by unfold WH;rw[b7.out,HQ.out];exact af);have R:Hid (0<qAt D k):=JZ (by rw[HQ.out];exact A);have bo:Hid (Sz (2* (5^p.right.length*K)) q):=JZ (by
      rw[af,<-b7.out,<-HQ.out];exact(Zbf (ay.out.qAt HJ.out.1 k) (ax.out.qAt HJ.out.1 k)).mono Qk)
     clear ae af aa hq A b2
     go_upto_region 14 with(fail)
     go_cut [11] (λs11 wx=>Zdu w7 (canF q) s11 wx)
     case first=>
      have C0:=Zm u0;have C1:=Zm u1;have C2:=Zm u2;have C3:=Zm u3;have E0:=Zm z0;have E1:=Zm z1;have E2:=Zm z2;have E3:=Zm z3;have D0:=Zm y7;have c:=Zc w7;clear u0 u1 u2 u3 z0 z1 z2 z3 y7;refine Xk 13 (.go 0 (.go 1 (.go 2 (.go 3 (.go 4 (.go 5 (.go 6 (.go 7 (.fork 8 (.go 9 (.go 10 (.go 11 (.go 12 (.go 13 (.go 14 .done)))))) 12 (.go 8 (.go 9 (.go 10 (.go 11 (.go 13 (.go 14 .done))))))))))))))) Qm Qm ?_;refine Qf ?_
      refine Uc rfl rfl (λ_ kq=>?_) (λ_ kq=>?_)
      ·go_simp;(with_reducible refine(XN _ _ fz f _ (au.below c) (a9.below c) b8 b6 b4).mono ?_);rw[b9.out];rintro _ wA ⟨vA,rfl,eA,ak⟩;have V:=Za c ak c.size;obtain⟨A6,n6,c6,B6,m6,d6,rfl,_,_⟩:=id eA;refine kq.out _ _ (.inr V) (Qg ?_);clear kq
       obtain⟨WG,av,a0,ag⟩:=Xp wA (.bool false) (.slice none 0 0) (.bool false) (.slice none 0 0);refine Qp λ_ kq=>?_;have aq:=V.size;have T:=Za V ag V.size;refine kq.out _ _ (.inr T) (Qj ?_);clear kq av;have bp:=eA.below ag;obtain⟨t0,t1,t2,t3⟩:=a0.four;obtain⟨f0,f1,f2,f3⟩:=a0.fourF;refine Qi ?_;refine Qi ?_;refine YQ ?_;go_wp2_with fail
       go_meet
       exact Zdu.mk a0 bp T aq
      ·obtain⟨WG,av,a0,ag⟩:=Xp w7.drew (.bool false) (.slice none 0 0) (.bool false) (.slice none 0 0);go_simp;have aq:=c.size;have T:=Za c ag c.size;refine kq.out _ _ (.inr T) (Qj ?_);clear kq av
       change Bk WG w7.heap.size 49 _ at a0
       refine Qp λ_ kq=>?_;(with_reducible refine(XN _ _ fz f _ (au.below T) (a9.below T) b8 b6 b4).mono ?_);rw[b9.out];rintro _ wA ⟨vA,rfl,eA,ak⟩;have V:=Za T ak T.size;obtain⟨A6,n6,c6,B6,m6,d6,rfl,_,_⟩:=id eA;refine kq.out _ _ (.inr V) (Qj ?_);clear kq;have hG:=a0.later ak;refine Qf ?_
       obtain⟨t0,t1,t2,t3⟩:=hG.four;obtain⟨f0,f1,f2,f3⟩:=hG.fourF;refine Qi ?_;refine Qi ?_;refine YQ ?_;go_wp2_with fail
       go_meet
       exact Zdu.mk hG eA V aq
     case rest=>
      obtain⟨gm,Am,nm,cm,C,E,G,rfl,cl,a7,a8,Y⟩:=hcut;have j:=Za N Y N.size;have Z:=ac.later Y;have ar:=JZ λt ht=>(⟨(a4.out t ht).1,(a4.out t ht).2.below Y⟩:t<k/\Znk wc w.heap.size (WH (zL p s) D t))
      have bx:w.heap.size≠gm:=(by have:=ac.lt;omega);clear N ac a4 a9 ap au Y u0 u1 u2 u3 z0 z1 z2 z3 y7
      cases hbo:Ye p s (zL p s) D k with
      |none=>
       have d:Hid (Ye p s (zL p s) D (k+1)=some k):=JZ (Y6 hbo R.out);have I:=a7;have b:=Z;have J:=a8;have a:=j;obtain⟨w9,aw⟩:∃w9,w9=wc:=⟨_,rfl⟩;subst aw;clear a7 Z a8 j ar hbo;simp only[oi]
       obtain⟨t0,t1,t2,t3⟩:=I.four;obtain⟨c0,c1,c2,c3⟩:=b.four;obtain⟨f0,f1,f2,f3⟩:=b.fourF
       go_upto_region 19 with(fail)
       have C0:=Zm t0;have C1:=Zm t1;have C2:=Zm t2;have C3:=Zm t3;have c:=Zc w9;clear t0 t1 t2 t3;refine Zj 3 [0,1,2,3] Qm Qm ?_;refine Qb ?_
       refine Qh ?_;refine Zl ?_;clear C0 C1 C2 C3;have l:=(b.later c).set4 (.bool (canF q).num.neg) (.slice Am nm cm) (.bool (canF q).den.neg) (.slice C E G);have n:=(b.later c).but4 (.bool (canF q).num.neg) (.slice Am nm cm) (.bool (canF q).den.neg) (.slice C E G);have U:=(J.below c).keep (n.keep Ql);have L:=ZE (Za a c a.size) am (.bool (canF q).num.neg) (.slice Am nm cm) (.bool (canF q).den.neg) (.slice C E G);clear b I J n c c0 c1 c2 c3 f0 f1 f2 f3 a;go_wp2;go_roundw
       case rel=>exact⟨k+1,Qk,by go_num,by rw[d.out];rfl,L,⟨_,_,_,_,l⟩,λt ht=>by
        rw[d.out]at ht;injection ht with ht;subst ht;exact⟨Qk,Am,nm,cm,C,E,G,by rw[<-H.out];exact l,by rw[<-H.out];exact U⟩⟩
       case measure=>exact Qn
      |some tb=>
       obtain⟨cn,A4,n4,c4,A5,n5,c5,ah,ai⟩:=ar.out tb hbo;have ch:(tb:Int)<m:=Qk;have ba:qs (q - WH (zL p s) D tb)=0\/qs (q - WH (zL p s) D tb)=1\/qs (q - WH (zL p s) D tb)= -1:=(by have:=VY (q - WH (zL p s) D tb);omega);obtain⟨rb,aj⟩:∃rb,rb=WH (zL p s) D tb:=⟨_,rfl⟩;have X:=JZ aj;rw[<-aj]at ah ai ba;have bc:(canF q).Sm:=bo.out.rs.sm (by have:=HJ.out;omega);have bd:(canF rb).Sm:=by
        rw[aj];unfold WH;exact(Zbf (ay.out.qAt HJ.out.1 tb) (ax.out.qAt HJ.out.1 tb)).rs.sm (by have:=HJ.out;omega)
       have ad:=JZ hbo;obtain⟨u0,u1,u2,u3⟩:=a7.four;obtain⟨z0,z1,z2,z3⟩:=ah.four;simp only[oi];clear ar hbo aj Z;go_wp2_with fail;refine(UT _ _ (canF q) (canF rb) _ a8 ai bc bd).mono ?_;rw[Zv,Zv];rintro _ w9 ⟨rfl,a2⟩;have I:=a7.later a2;have b:=ah.later a2;have J:=a8.below a2;have r:=ai.below a2;have a:=Za j a2 j.size;clear a7 ah a8 ai j a2 u0 u1 u2 u3 z0 z1 z2 z3 bc bd;rcases ba with hc|hc|hc
       ·rw[hc];have be:Hid (q=rb):=JZ (by have:=Yg.1 hc;grind);clear hc;go_wp2_with fail;refine(Zdx e p s K k _ (HH.out.below a) HS.out HF.out (by rw[<-b0.out];exact hkl)).mono ?_;rintro _ co ⟨rfl,O⟩;have I:=I.later O;have b:=b.later O;have J:=J.below O;have r:=r.below O;have a:=Za a O a.size;clear O;go_wp2_with fail;refine(Zdx e p s K tb _ (HH.out.below a) HS.out HF.out (by rw[<-b0.out];omega)).mono ?_;rintro _ bs ⟨rfl,P⟩;have I:=I.later P;have b:=b.later P;have J:=J.below P;have r:=r.below P;have a:=Za a P a.size;clear P;by_cases ho:ordQ p (s.at_ k)<ordQ p (s.at_ tb)
        ·have d:Hid (Ye p s (zL p s) D (k+1)=some k):=JZ (YH ad.out R.out (.inr ⟨by rw[<-H.out,<-X.out];exact be.out,ho⟩));obtain⟨w9,aw⟩:∃w9,w9=bs:=⟨_,rfl⟩;subst aw
         obtain⟨t0,t1,t2,t3⟩:=I.four;obtain⟨c0,c1,c2,c3⟩:=b.four;obtain⟨f0,f1,f2,f3⟩:=b.fourF
         go_upto_region 19 with(fail)
         have C0:=Zm t0;have C1:=Zm t1;have C2:=Zm t2;have C3:=Zm t3;have c:=Zc w9;clear t0 t1 t2 t3;refine Zj 3 [0,1,2,3] Qm Qm ?_;refine Qb ?_
         refine Qh ?_;refine Zl ?_;clear C0 C1 C2 C3;have l:=(b.later c).set4 (.bool (canF q).num.neg) (.slice Am nm cm) (.bool (canF q).den.neg) (.slice C E G);have n:=(b.later c).but4 (.bool (canF q).num.neg) (.slice Am nm cm) (.bool (canF q).den.neg) (.slice C E G);have U:=(J.below c).keep (n.keep Ql);have L:=ZE (Za a c a.size) am (.bool (canF q).num.neg) (.slice Am nm cm) (.bool (canF q).den.neg) (.slice C E G);clear b I J n c c0 c1 c2 c3 f0 f1 f2 f3 a;go_wp2;go_roundw
         case rel=>exact⟨k+1,Qk,by go_num,by rw[d.out];rfl,L,⟨_,_,_,_,l⟩,λt ht=>by
          rw[d.out]at ht;injection ht with ht;subst ht;exact⟨Qk,Am,nm,cm,C,E,G,by rw[<-H.out];exact l,by rw[<-H.out];exact U⟩⟩
         case measure=>exact Qn
        ·have d:Hid (Ye p s (zL p s) D (k+1)=some tb):=JZ (YT ad.out R.out (λg=>by
          rcases g with g|g
          ·rw[<-H.out,<-X.out,be.out]at g;exact absurd g (by grind)
          ·exact ho g.2))
         have ci:ordQ p (s.at_ tb)<=ordQ p (s.at_ k):=Qk;clear ho;generalize ordQ p (s.at_ k)=o1 at *;generalize ordQ p (s.at_ tb)=o2 at *;rw[X.out]at b r
         go_wp2;go_roundw
         case rel=>exact⟨k+1,Qk,by go_num,by rw[d.out];rfl,a,⟨_,_,_,_,b⟩,λt' ht'=>by
          rw[d.out]at ht';injection ht' with ht';subst ht';exact⟨Qk,A4,n4,c4,A5,n5,c5,b,r⟩⟩
         case measure=>exact Qn
       ·rw[hc];have d:Hid (Ye p s (zL p s) D (k+1)=some tb):=JZ (YT ad.out R.out (λg=>by
         have:=UZ.1 (show 0<qs (q - rb) by omega);rcases g with g|g
         ·rw[<-H.out,<-X.out]at g;grind
         ·have g1:=g.1;rw[<-H.out,<-X.out]at g1;grind))
        clear hc;rw[X.out]at b r
        go_wp2;go_roundw
        case rel=>exact⟨k+1,Qk,by go_num,by rw[d.out];rfl,a,⟨_,_,_,_,b⟩,λt' ht'=>by
         rw[d.out]at ht';injection ht' with ht';subst ht';exact⟨Qk,A4,n4,c4,A5,n5,c5,b,r⟩⟩
        case measure=>exact Qn
       ·rw[hc];have d:Hid (Ye p s (zL p s) D (k+1)=some k):=JZ (YH ad.out R.out (.inl (by
         have:=UE.1 (show qs (q - rb)<0 by omega);rw[<-H.out,<-X.out];grind)))
        clear hc
        obtain⟨t0,t1,t2,t3⟩:=I.four;obtain⟨c0,c1,c2,c3⟩:=b.four;obtain⟨f0,f1,f2,f3⟩:=b.fourF
        go_upto_region 19 with(fail)
        have C0:=Zm t0;have C1:=Zm t1;have C2:=Zm t2;have C3:=Zm t3;have c:=Zc w9;clear t0 t1 t2 t3;refine Zj 3 [0,1,2,3] Qm Qm ?_;refine Qb ?_
        refine Qh ?_;refine Zl ?_;clear C0 C1 C2 C3;have l:=(b.later c).set4 (.bool (canF q).num.neg) (.slice Am nm cm) (.bool (canF q).den.neg) (.slice C E G);have n:=(b.later c).but4 (.bool (canF q).num.neg) (.slice Am nm cm) (.bool (canF q).den.neg) (.slice C E G);have U:=(J.below c).keep (n.keep Ql);have L:=ZE (Za a c a.size) am (.bool (canF q).num.neg) (.slice Am nm cm) (.bool (canF q).den.neg) (.slice C E G);clear b I J n c c0 c1 c2 c3 f0 f1 f2 f3 a;go_wp2;go_roundw
        case rel=>exact⟨k+1,Qk,by go_num,by rw[d.out];rfl,L,⟨_,_,_,_,l⟩,λt ht=>by
         rw[d.out]at ht;injection ht with ht;subst ht;exact⟨Qk,Am,nm,cm,C,E,G,by rw[<-H.out];exact l,by rw[<-H.out];exact U⟩⟩
        case measure=>exact Qn
    ·have cj:qs f.q<=0:=by
      rcases aa with g|g|g
      ·omega
      ·exact absurd (UZ.1 (show 0<qs f.q by omega)) A
      ·omega
     have d:Hid (Ye p s (zL p s) D (k+1)=Ye p s (zL p s) D k):=JZ (Xt (by rw[HQ.out];exact A));clear aa A ap a9;go_wp2;go_roundw
     case rel=>exact⟨k+1,Qk,by go_num,by rw[d.out],N,⟨_,_,_,_,ac⟩,λt ht=>by
      rw[d.out]at ht;exact⟨by have:=(a4.out t ht).1;omega,(a4.out t ht).2⟩⟩
     case measure=>exact Qn
   ·obtain rfl:m=k:=Qk
    go_wp2;go_ret;exact⟨by rw[bn.out,al.out];rfl,B⟩
end
section
namespace Pl
def Yov{p:LPd}{s:LSt}{Z D:List RF}{i:Nat}(h:Vb p s Z D=some i):i<D.length/\qAt D i≠0:=by
 refine⟨Zmi h,λe=>?_⟩;have hb:Ye p s Z D D.length=some i->False:=λhb=>by
  have:=(Va hb).2;rw[e]at this;exact absurd this Ql
 by_cases hp:s.phase=2
 ·cases hf:Yt (Zqy s D) 0 D.length with
  |none=>rw[Zeq hp hf]at h;exact hb h
  |some t=>
   rw[Zep hp hf]at h;injection h with h;subst h;have:=(YI hf).2.2.1;unfold Zqy at this;rw[jA λg=>g.2 e]at this;exact absurd this Ql
 ·rw[Zbt hp]at h;exact hb h
def zP(i:Nat)(q:Rat)(d z:Nat->Rat)(k:Nat):Nat->Rat:=λr=>if r<k/\r≠i then z r - q*d r else z r
def Yow{i:Nat}{q:Rat}{d z:Nat->Rat}:zP i q d z 0=z:=by funext r;unfold zP;rw[jA Qk]
def Yeh{i k:Nat}{q:Rat}{d z:Nat->Rat}(h:k=i\/d k=0)(r:Nat):zP i q d z k r=zP i q d z (k+1) r:=by
 unfold zP;by_cases e:r=k
 ·subst e;rw[jA Qk];rcases h with h|h
  ·rw[jA Qk]
  ·rw[h];split <;> grind
 ·by_cases e2:r<k/\r≠i
  ·rw[jB e2,jB ⟨Qk,e2.2⟩]
  ·rw[jA e2,jA Qk]
def Yox{i k:Nat}{q:Rat}{d z:Nat->Rat}(h:k≠i)(r:Nat):zP i q d z (k+1) r=if r=k then z k - q*d k else zP i q d z k r:=by
 unfold zP;by_cases e:r=k
 ·subst e;rw[jB rfl,jB ⟨Qk,h⟩]
 ·rw[jA e];by_cases e2:r<k/\r≠i
  ·rw[jB e2,jB ⟨Qk,e2.2⟩]
  ·rw[jA e2,jA Qk]
def Ysc{i k:Nat}{q:Rat}{d z:Nat->Rat}:zP i q d z k k=z k:=by unfold zP;rw[jA Qk]
def Ysd{p:LPd}{s:LSt}{i j:Nat}(hr:Reg p s)(hi:i<p.right.length)(hb:i<s.basis.length)(h0:qAt (dirL p s (j:Int)) i≠0):
 zL p (Zfr s i (j:Int))=Yn p.right.length λr=>if r=i then qAt (zL p s) i/qAt (dirL p s (j:Int)) i else zP i (qAt (zL p s) i/qAt (dirL p s (j:Int)) i) (qAt (dirL p s (j:Int))) (qAt (zL p s)) p.right.length r:=by
 unfold zL;rw[Zgl hb];refine Zff (Zhs hi hr (Wx hr (j:Int)) h0) ?_;refine Zme hi (Wx hr (j:Int)) h0 (Zkl hr) ?_ λr hr' hne=>?_
 ·simp only[jB];rfl
 ·simp only[jB,jA hne];unfold zP;rw[jB ⟨hr',hne⟩];show qAt (zL p s) r - _*_=qAt (zL p s) r - _*_;grind
end Pl
def Ziz(U w0:World)(e:Nat)(p:LPd)(s:LSt)(K i:Nat)(vd:Value)(D:List RF)(gm:Nat)(q:Rat)(gB gb cb gz cz bB bi:Nat)(A:Option Addr)(n c:Nat)(A':Option Addr)(n' c':Nat)(A'':Option Addr)(n'' c'':Nat)(Am:Option Addr)(nm cm:Nat)(Am':Option Addr)(nm' cm':Nat)(j:Nat)(z:Nat->Rat)(w:World):Prop:=
 Bk w e 125 [.slice A n c,.slice A' n' c',.slice A'' n'' c'',.int .i64 s.phase,.slice (some ⟨gb,0,none⟩) p.right.length cb,.int .i64 s.pivots,.pointer (some ⟨gB,0,none⟩),.slice (some ⟨gz,0,none⟩) p.right.length cz]/\
  Zt U.heap.size w (.slice (some ⟨gb,0,none⟩) p.right.length cb) s.basis/\Zfc bB bi w gB p.right.length K ((Zfr s i (j:Int)).mat p)/\Yy U.heap.size w (.slice (some ⟨gz,0,none⟩) p.right.length cz) (Yn p.right.length z)/\Yy w0.heap.size w vd D/\
  (Bk w gm 49 [.bool (canF q).num.neg,.slice Am nm cm,.bool (canF q).den.neg,.slice Am' nm' cm']/\Zx w (.agg #[.bool (canF q).num.neg,.slice Am nm cm,.bool (canF q).den.neg,.slice Am' nm' cm']) (canF q))/\Below U.heap.size U w/\w0.heap.size<=w.heap.size
section
variable {U w0:World} {e:Nat} {p:LPd} {s:LSt} {K i:Nat} {vd:Value} {D:List RF} {gm:Nat} {q:Rat} {gB gb cb gz cz bB bi:Nat} {A:Option Addr} {n c:Nat} {A':Option Addr} {n' c':Nat} {A'':Option Addr} {n'' c'':Nat} {Am:Option Addr} {nm cm:Nat} {Am':Option Addr} {nm' cm':Nat} {j:Nat} {z z':Nat->Rat} {w w':World}
def Ziz.below(h:Ziz U w0 e p s K i vd D gm q gB gb cb gz cz bB bi A n c A' n' c' A'' n'' c'' Am nm cm Am' nm' cm' j z w)(hb:Below w.heap.size w w'):Ziz U w0 e p s K i vd D gm q gB gb cb gz cz bB bi A n c A' n' c' A'' n'' c'' Am nm cm Am' nm' cm' j z w':=by
 obtain⟨h1,h2,h3,h4,h5,⟨h6,h7⟩,h8,h9⟩:=h;have:=hb.size;exact⟨h1.later hb,h2.below hb,h3.below hb,h4.below hb,h5.below hb,⟨h6.later hb,h7.below hb⟩,Za h8 hb h8.size,Qk⟩
def Ziz.setZ(h:Ziz U w0 e p s K i vd D gm q gB gb cb gz cz bB bi A n c A' n' c' A'' n'' c'' Am nm cm Am' nm' cm' j z w)(hgz:gz<bi)(hgw:gz<w0.heap.size)(hgm:gz≠gm){k:Nat}(hk:k<p.right.length){x1 x2 x3 x4:Value}{y:Rat}(hy:Zx w (.agg #[x1,x2,x3,x4]) (canF y))(hz:∀r,r<p.right.length->z' r=if r=k then y else z r):
 Ziz U w0 e p s K i vd D gm q gB gb cb gz cz bB bi A n c A' n' c' A'' n'' c'' Am nm cm Am' nm' cm' j z' ((((w.setCell ⟨gz,k*4,none⟩ x1).setCell ⟨gz,k*4+1,none⟩ x2).setCell ⟨gz,k*4+2,none⟩ x3).setCell ⟨gz,k*4+3,none⟩ x4):=by
 obtain⟨h1,h2,h3,h4,h5,⟨h6,h7⟩,h8,h9⟩:=h;obtain⟨g4,a⟩:=h4.set_ (k:=k) (by rw[Zo];exact hk) hy;have ho:=Yw (w:=w) (g:=gz) (i:=k*4) (j:=k*4+1) (k:=k*4+2) (l:=k*4+3) (x:=x1) (y:=x2) (z:=x3) (u:=x4);have hu:U.heap.size<=gz:=by
  obtain⟨cs,hh,_⟩:=h4;have hn:p.right.length=(Yn p.right.length z).length:=(Zo _ _).symm;rw[<-hn]at hh;obtain⟨_,_,e3⟩:=Z0 hh;exact e3
 rw[Us hk,Yc (g:=z') λr hr=>(hz r hr).symm]at g4;exact⟨a.bk h1 Ql,h2.but a Ql,h3.farF ho a hgz,g4,h5.others ho (a.keep Ql) (λb hb e=>by have:=h5.own_ge b hb;injection e with e;omega),⟨ho.bk h6 (by intro e;injection e with e;omega),h7.keep (a.keep Ql)⟩,ZC h8 hu _ _ _ _ _ _ _ _,by simpa using h9⟩
def Ziz.congr(h:Ziz U w0 e p s K i vd D gm q gB gb cb gz cz bB bi A n c A' n' c' A'' n'' c'' Am nm cm Am' nm' cm' j z w)(hz:∀r,r<p.right.length->z r=z' r):Ziz U w0 e p s K i vd D gm q gB gb cb gz cz bB bi A n c A' n' c' A'' n'' c'' Am nm cm Am' nm' cm' j z' w:=by
 obtain⟨h1,h2,h3,h4,h5⟩:=h;exact⟨h1,h2,h3,by rw[<-Yc hz];exact h4,h5⟩
end
def Yei(U w0:World)(e:Nat)(p:LPd)(s:LSt)(K j:Nat)(vd:Value)(w:World)(h:Zql U w0 e p s K)(hb0:Below w0.heap.size w0 w)(hd:Yy w0.heap.size w vd (dirL p s (j:Int)))(hj:j<p.cols.length)(S:s.Fit p)(F:p.Ft K)(hz:lpErr p=0)(hpv0:0<=s.pivots)(hpv:s.pivots+1<=9223372036854775807):
 Calls prog 34 #[.pointer (some ⟨e,0,none⟩),.int .i64 (j:Int),vd] w λo w'=>(∃i,Vb p s (zL p s) (dirL p s (j:Int))=some i/\o= .returned (.bool true)/\Zql U w' e p (settleQ p (Zfr s i (j:Int))) K)\/(Vb p s (zL p s) (dirL p s (j:Int))=none/\o= .returned (.bool false)/\Zql U w' e p s K):=by
 have HH:=JZ (h.below hb0);have HR:=JZ h.r.reg;have bn:(dirL p s (j:Int)).length=p.right.length:=Zbv HR.out _;obtain⟨Ad,nd,cd,rfl⟩:=hd.sliceN;have HD:=JZ hd;obtain⟨A,n,c,A',n',c',b6,b7,b8,Ab,cb,gB,vz,cl,cn⟩:=h;obtain⟨es,E⟩:=WC (cs:=p.cols) (i:=j) hj;obtain⟨z1,z2,z3,z4,z5⟩:=Zan hz;have HC:=JZ (LPd.col_pos E);have da:Hid (Pl.Good p.right.length es):=JZ ⟨z4 j es E,(z5 j es E).2,(z5 j es E).1⟩;have db:=JZ (F.1.ok.2.2 j es E).2;have dc:=JZ E;have HS:=JZ S;have HF:=JZ F;have dd:=JZ (cl.later hb0);have de:=JZ cn;have bo:=JZ hb0;have e0:=F.2.1;clear hb0 hd cl cn E z1 z2 z3 z4 z5 hz S F;go_enter func34,ntmps34;go_wp2_with fail;refine(Zth e p s K _ (dirL p s (j:Int)) _ HH.out.r HD.out.frs bn (Ylk HF.out.1 s _) HS.out HF.out).mono ?_;rintro _ w1 ⟨rfl,L⟩
 cases hlv:Vb p s (zL p s) (dirL p s (j:Int))with
 |none=>
  have C:=HH.out.below L;clear L;simp only[oi]
  go_upto_region 2 with(fail)
  have a:=Zc w1;refine Zj 19 [0,1,2,3,4,5,6,7,8,9,10,11,12,13,14,15,16,17,18] Qm Qm ?_;refine Qd ?_
  refine Zl ?_;have M:=C.below a;go_wp2;go_ret;exact .inr ⟨hlv,rfl,M⟩
 |some i=>
  simp only[oi];have bp:=Yov hlv;rw[bn]at bp;obtain⟨hi,b9⟩:=bp;have bq:=JZ b9;have dg:i<s.basis.length:=by rw[HS.out.2];exact hi
  have a6:=JZ dg;obtain⟨bB,bi,⟨g1,g2,g3⟩,⟨q1,q2,q3,q4⟩,ba,aq,R,T,bb,bd⟩:=de.out;have m:=Za bo.out L bo.out.size;have a7:=Za bd m bd.size;have dh:=m.size;obtain⟨gb,ds,co,cp,du,-,-⟩:=ba.shape Qk;rw[HS.out.2]at co;injection co with a1 a2 a3;subst a1;clear a2 a3 ds;have br:zL p s=Yn p.right.length (qAt (zL p s)):=Zff HR.out (Zkl HR.out);have bs:dirL p s (j:Int)=Yn p.right.length (qAt (dirL p s (j:Int))):=Zff HR.out λr hr=>by rw[YB hr];exact Wx HR.out (j:Int) r hr
  obtain⟨zf,be⟩:∃zf,zf=qAt (zL p s):=⟨_,rfl⟩;obtain⟨df,bf⟩:∃df,df=qAt (dirL p s (j:Int)):=⟨_,rfl⟩;rw[br,<-be]at T;obtain⟨gz,cz,rfl,dv,ar,cq,dw⟩:=T.shape (by rw[Zo];omega);have a8:=HD.out.below L;rw[bs,<-bf]at a8;obtain⟨gd,e5,cr,dx,dy,ct,dz⟩:=a8.shape (by rw[Zo];omega);rw[Zo]at cr ct;injection cr with a1 a2 a3;subst a1 a2 a3;rw[Zo]at T cq bb;have au:=JZ be;have a9:=JZ bf;have ah:=bb gz rfl;have bt:=aq gb rfl;obtain⟨bc,oc,Ac,cc,rfl,-,x0,cu⟩:=g2.elem a7 dc.out;obtain⟨l1,l2,l3⟩:=g2.len;have e1:(j:Int)<n':=Qk
  have e2:(i:Int)<p.right.length:=Qk
  have ai:=R.below m;have C:=dd.out.later L;rw[Zo]at C;have y6:=C.cellAt 6 rfl;have y1:=C.cellAt 1 rfl;have bu:∀r,r<p.right.length->mulC p.right.length (s.mat p) (qAt (dirL p s (j:Int))) r=X5 es r:=λr hr=>by rw[<-HC.out];exact Wx HR.out (j:Int) r hr
  have HG:=JZ (⟨g1,g2,g3⟩:_/\_/\_);have aj:=T.below m;have ak:=ba.below m;have dj:bB<=w1.heap.size:=Qk
  have dt:bi<=w1.heap.size:=Qk
  clear g1 g2 g3 l1 ba aq R T bb bd br bs be bf
  go_upto_region 2 with(fail)
  have C0:=Zm y6;have C1:=Zm y1;have C2:=Zm x0;have a:=Zc w1;clear y6 y1 x0;refine Zj 16 [0,1,2,3,4,5,6,7,8,9,10,11,12,13,14,15,16,17,18] Qm Qm ?_;refine Qd ?_
  refine Qo λ_ kq=>?_;with_reducible refine(Ztd bB bi gB p.right.length K (s.mat p) _ es i (qAt (dirL p s (j:Int))) _ (ai.below a) (cu.below a) da.out db.out hi bu b9 (by have:=a.size;omega) (by have:=a.size;omega)).mono ?_
  rintro _ w2 ⟨rfl,d5,a0,a4⟩;refine kq.out _ _ (.inl Ql) (Qj ?_);clear kq;refine Qh ?_;refine Qh ?_;refine Zl ?_;clear C0 C1 C2;have M:=a4.bk (C.later a) Ql Ql Ql;have al:=a4.ints (ak.below a);have N:=a4.frs (aj.below a);have av:=a4.frs (a8.below a);have aw:=(Za a7 a a7.size).trans (a0.mono q2);have bv:w0.heap.size<=w2.heap.size:=JW dh (JW a.size a0.size);have am:Zfc bB bi w2 gB p.right.length K ((Zfr s i (j:Int)).mat p):=by rw[Zgl a6.out,HC.out];exact d5
  clear C ak aj a8 ai cu a a0 a4 d5 bu L a7 m;obtain⟨b5,o5,A5,n5,c5,A6,n6,c6,hA,-,⟨z0,z1,z2,z3⟩,y⟩:=N.frs.elem (JR _ _) (ZG hi);injection hA with hA;injection hA with hA1 hA2;subst hA1;subst hA2;obtain⟨b5,o5,A7,n7,c7,A8,n8,c8,hA,-,⟨d0,d1,d2,d3⟩,t⟩:=av.frs.elem (JR _ _) (ZG hi);injection hA with hA;injection hA with hA1 hA2;subst hA1;subst hA2;simp only[ji]at z0 z1 z2 z3 d0 d1 d2 d3;have y7:=M.cellAt 7 rfl;obtain⟨zi,V⟩:∃zi,zi=zf i:=⟨_,rfl⟩;obtain⟨di,H⟩:∃di,di=df i:=⟨_,rfl⟩;obtain⟨q,ad⟩:∃q,q=zi/di:=⟨_,rfl⟩;have bw:Hid (zi/di=q):=JZ ad.symm;have HQ:Hid (q=qAt (zL p s) i/qAt (dirL p s (j:Int)) i):=JZ (by rw[ad,V,H,au.out,a9.out]);have HJ:Hid (1<=5^p.right.length*K/\5^p.right.length*K<=4000000):=JZ ⟨JW HF.out.1.k1 HF.out.1.le,HF.out.2.2⟩;have ax:Hid (∀r,Sz (5^p.right.length*K) (zf r)):=JZ λr=>by rw[au.out];exact(Yqt HF.out.1 s).qAt HJ.out.1 r
  have aa:Hid (∀r,Sz (5^p.right.length*K) (df r)):=JZ λr=>by rw[a9.out];exact(Ylk HF.out.1 s _).qAt HJ.out.1 r
  have bx:Hid (Sz (2* (5^p.right.length*K)) q):=JZ (by rw[ad,V,H];exact(Zbf (ax.out i) (aa.out i)).mono Qk);have G:(canF zi).Sm:=by rw[V];exact(ax.out i).rs.sm (by have:=HJ.out;omega)
  have ay:(canF di).Sm:=by rw[H];exact(aa.out i).rs.sm (by have:=HJ.out;omega)
  have az:(canF di).q≠0:=by rw[Zv,H,a9.out];exact bq.out
  rw[<-V]at z0 z2 y;rw[<-H]at d0 d2 t;clear V H ad b9
  go_upto_region 4 with(fail)
  go_cut [8] (λs8 wx=>Zdu w2 (canF q) s8 wx)
  case first=>
   have C0:=Zm z0;have C1:=Zm z1;have C2:=Zm z2;have C3:=Zm z3;have D0:=Zm d0;have D1:=Zm d1;have D2:=Zm d2;have D3:=Zm d3;have E0:=Zm y7;have a:=Zc w2;clear z0 z1 z2 z3 d0 d1 d2 d3 y7;refine Xk 16 (.go 0 (.go 1 (.go 2 (.go 3 (.go 4 (.go 5 (.go 6 (.go 7 (.go 8 (.go 9 (.go 10 (.fork 11 (.go 12 (.go 13 (.go 14 (.go 15 (.go 16 (.go 17 .done)))))) 15 (.go 11 (.go 12 (.go 13 (.go 14 (.go 16 (.go 17 .done)))))))))))))))))) Qm Qm ?_;refine Qf ?_
   refine Uc rfl rfl (λ_ kq=>?_) (λ_ kq=>?_)
   ·go_simp;(with_reducible refine(XN _ _ (canF zi) (canF di) _ (y.below a) (t.below a) G ay az).mono ?_);rw[Zv,Zv,bw.out];rintro _ wA ⟨vA,rfl,eA,af⟩;have D:=Za a af a.size;obtain⟨A6,n6,c6,B6,m6,d6,rfl,_,_⟩:=id eA;refine kq.out _ _ (.inr D) (Qg ?_);clear kq
    obtain⟨WG,bg,I,ae⟩:=Xp wA (.bool false) (.slice none 0 0) (.bool false) (.slice none 0 0);refine Qp λ_ kq=>?_;have b0:=D.size;have u:=Za D ae D.size;refine kq.out _ _ (.inr u) (Qj ?_);clear kq bg;have dl:=eA.below ae;obtain⟨t0,t1,t2,t3⟩:=I.four;obtain⟨f0,f1,f2,f3⟩:=I.fourF;refine Qi ?_;refine Qi ?_;refine YQ ?_;go_wp2_with fail
    go_meet
    exact Zdu.mk I dl u b0
   ·obtain⟨WG,bg,I,ae⟩:=Xp w2.drew (.bool false) (.slice none 0 0) (.bool false) (.slice none 0 0);go_simp;have b0:=a.size;have u:=Za a ae a.size;refine kq.out _ _ (.inr u) (Qj ?_);clear kq bg
    change Bk WG w2.heap.size 49 _ at I
    refine Qp λ_ kq=>?_;(with_reducible refine(XN _ _ (canF zi) (canF di) _ (y.below u) (t.below u) G ay az).mono ?_);rw[Zv,Zv,bw.out];rintro _ wA ⟨vA,rfl,eA,af⟩;have D:=Za u af u.size;obtain⟨A6,n6,c6,B6,m6,d6,rfl,_,_⟩:=id eA;refine kq.out _ _ (.inr D) (Qj ?_);clear kq;have hG:=I.later af;refine Qf ?_
    obtain⟨t0,t1,t2,t3⟩:=hG.four;obtain⟨f0,f1,f2,f3⟩:=hG.fourF;refine Qi ?_;refine Qi ?_;refine YQ ?_;go_wp2_with fail
    go_meet
    exact Zdu.mk hG eA D b0
  case rest=>
   obtain⟨gm,Am,nm,cm,bh,bj,bl,rfl,e8,B,cv,f⟩:=hcut;have b1:Ziz U w0 e p s K i (.slice (some ⟨gd,0,none⟩) p.right.length cd) (Yn p.right.length df) gm q gB gb cb gz cz bB bi A n c (some ⟨bc,oc,none⟩) n' c' b6 b7 b8 Am nm cm bh bj bl j (zP i q df zf 0) wc:=⟨M.later f,al.below f,am.below f,by rw[Yow];exact N.below f,av.below f,⟨B,cv⟩,Za aw f aw.size,JW bv f.size⟩;have an:gz≠gm:=Qk;have bz:=JZ b1;have y7:=b1.1.cellAt 7 rfl;clear z0 z1 z2 z3 d0 d1 d2 d3 M al am N av B cv f aw y t G ay az b1;go_wp2;clear y7
   go_loopw [53] (λx wr=>∃k:Nat,k<=p.right.length/\x= .int .i64 k/\Ziz U w0 e p s K i (.slice (some ⟨gd,0,none⟩) p.right.length cd) (Yn p.right.length df) gm q gB gb cb gz cz bB bi A n c (some ⟨bc,oc,none⟩) n' c' b6 b7 b8 Am nm cm bh bj bl j (zP i q df zf k) wr) (λx _=>p.right.length - (intOf x).toNat)
   case atStart=>exact⟨0,Qk,rfl,bz.out⟩
   case round=>
    clear bz;obtain⟨k,hk,rfl,hP⟩:=hrel;have HP:=JZ hP;rcases JX k p.right.length with hkl|hkl
    ·have e3:(k:Int)<p.right.length:=Qk;obtain⟨hE,-,-,-,J,-,-,cw⟩:=hP;by_cases ag:k=i
     ·have b2:Hid (∀r,r<p.right.length->zP i q df zf k r=zP i q df zf (k+1) r):=JZ λr _=>Yeh (.inl ag) r
      clear hE J;subst ag;go_wp2;go_roundw
      case rel=>exact⟨k+1,Qk,by go_num,HP.out.congr b2.out⟩
      case measure=>exact Qn
     ·have dm:=JZ ag;have dn:(k:Int)≠i:=Qk;obtain⟨b5,o5,A7,n7,c7,A8,n8,c8,hA,-,⟨d0,d1,d2,d3⟩,t⟩:=J.frs.elem (JR _ _) (ZG hkl);injection hA with hA;injection hA with hA1 hA2;subst hA1;subst hA2;simp only[ji]at d0 d1 d2 d3;have c4:qs (df k)=0\/qs (df k)=1\/qs (df k)= -1:=(by have:=VY (df k);omega);clear hE J;by_cases a5:qs (df k)=0
      ·have b2:Hid (∀r,r<p.right.length->zP i q df zf k r=zP i q df zf (k+1) r):=JZ λr _=>Yeh (.inr (Yg.1 a5)) r
       clear c4;go_wp2_with fail;refine(Zy _ (canF (df k)) _ t).mono ?_;rw[Zv,a5];rintro _ w3 ⟨rfl,f⟩;have dp:=(HP.out.below f).congr b2.out;clear f t d0 d1 d2 d3 a5 HP;go_wp2;go_roundw
       case rel=>exact⟨k+1,Qk,by go_num,dp⟩
       case measure=>exact Qn
      ·have dq:(qs (df k) !=0)=true:=(by simpa using a5);clear c4 a5;go_wp2_with fail;refine(Zy _ (canF (df k)) _ t).mono ?_;rw[Zv];rintro _ w3 ⟨rfl,f⟩;have b3:=JZ (HP.out.below f);clear f t d0 d1 d2 d3 HP;obtain⟨hE,-,-,hZ,J,⟨B,X⟩,-,cx⟩:=b3.out;obtain⟨b5,o5,A7,n7,c7,A8,n8,c8,hA,-,⟨d0,d1,d2,d3⟩,bm⟩:=J.frs.elem (JR _ _) (ZG hkl);injection hA with hA;injection hA with hA1 hA2;subst hA1;subst hA2;obtain⟨b5,o5,A5,n5,c5,A6,n6,c6,hA,-,⟨z0,z1,z2,z3⟩,y⟩:=hZ.frs.elem (JR _ _) (ZG hkl);injection hA with hA;injection hA with hA1 hA2;subst hA1;subst hA2;simp only[ji]at d0 d1 d2 d3 z0 z1 z2 z3;obtain⟨t0,t1,t2,t3⟩:=B.four;have y7:=hE.cellAt 7 rfl;obtain⟨zk,Y⟩:∃zk,zk=zP i q df zf k k:=⟨_,rfl⟩;obtain⟨dk,Z⟩:∃dk,dk=df k:=⟨_,rfl⟩;have dr:Hid (∀r,r<p.right.length->zP i q df zf (k+1) r=if r=k then zk - q*dk else zP i q df zf k r):=JZ λr _=>by rw[Yox dm.out,Y,Ysc,Z]
       have c9:(canF q).Sm:=bx.out.rs.sm (by have:=HJ.out;omega);have ca:(canF dk).Sm:=(by rw[Z];exact(aa.out k).rs.sm (by have:=HJ.out;omega));have G:(canF zk).Sm:=(by rw[Y,Ysc];exact(ax.out k).rs.sm (by have:=HJ.out;omega));have ce:(canF (q*dk)).Sm:=(Vn bx.out (by rw[Z];exact aa.out k)).rs.sm (by have:=HJ.out;omega);have cf:(Yn p.right.length (zP i q df zf k))[k]? =some (canF zk):=(by rw[Y];exact ZG hkl);rw[<-Y]at z0 z2 y;rw[<-Z]at d0 d2 bm;clear hE J B Y Z
       go_upto_region 9 with(fail)
       clear dq dn ag;have C0:=Zm z0;have C1:=Zm z1;have C2:=Zm z2;have C3:=Zm z3;have D0:=Zm d0;have D1:=Zm d1;have D2:=Zm d2;have D3:=Zm d3;have T0:=Zm t0;have T1:=Zm t1;have T2:=Zm t2;have T3:=Zm t3;have E0:=Zm y7;have a:=Zc w3;clear z0 z1 z2 z3 d0 d1 d2 d3 t0 t1 t2 t3 y7;refine Zj 20 [0,1,2,3,4,5,6,7,8,9,10,11,12,13,14,15,16,17,18,19,20] Qm Qm ?_;refine Qb ?_
       refine Qo λ_ kq=>?_;(with_reducible refine(WV _ _ (canF q) (canF dk) _ (X.below a) (bm.below a) c9 ca).mono ?_);rw[Zv,Zv];rintro _ w6 ⟨v6,rfl,e6,d7⟩;have O:=Za a d7 a.size;refine kq.out _ _ (.inr O) (Qc ?_);clear kq
       refine Qo λ_ kq=>?_;(with_reducible refine(VN _ _ (canF zk) (canF (q*dk)) _ (y.below O) e6 G ce).mono ?_);rw[Zv,Zv];rintro _ w7 ⟨v7,rfl,e7,d8⟩;have ab:=Za O d8 O.size;obtain⟨B9,l9,k9,e9,ea,eb,rfl,_,_⟩:=id e7;have cg:=hZ.below ab;obtain⟨_,_,_,_,⟨c0,c1,c2,c3⟩,⟨f0,f1,f2,f3⟩,-⟩:=cg.at_ cf;refine kq.out _ _ (.inr ab) (Qc ?_);clear kq
       refine Qh ?_;refine Zl ?_;clear C0 C1 C2 C3 D0 D1 D2 D3 T0 T1 T2 T3 E0;have b4:=(b3.out.below ab).setZ ah ar an hkl e7 dr.out;clear hZ cg X bm y a O ab e6 e7 d7 d8 c0 c1 c2 c3 f0 f1 f2 f3 c9 ca G ce cf b3;go_wp2;go_roundw
       case rel=>exact⟨k+1,Qk,by go_num,b4⟩
       case measure=>exact Qn
    ·obtain rfl:k=p.right.length:=Qk
     obtain⟨hE,-,-,hZ,-,⟨B,X⟩,-,cx⟩:=hP;obtain⟨t0,t1,t2,t3⟩:=B.four;have y7:=hE.cellAt 7 rfl;obtain⟨_,_,_,_,⟨c0,c1,c2,c3⟩,⟨f0,f1,f2,f3⟩,-⟩:=hZ.at_ (ZG hi);clear hE hZ B
     go_upto_region 11 with(fail)
     have T0:=Zm t0;have T1:=Zm t1;have T2:=Zm t2;have T3:=Zm t3;have E0:=Zm y7;have a:=Zc wr;clear t0 t1 t2 t3 y7;refine Zj 7 [0,1,2,3,4,5,6,7] Qm Qm ?_;refine Qb ?_
     refine Qh ?_;refine Zl ?_;clear T0 T1 T2 T3 E0;have b4:=(HP.out.setZ (z':=λr=>if r=i then q else zP i q df zf p.right.length r) ah ar an hi X (λr _=>rfl)).below (Zc _);clear HP X a c0 c1 c2 c3 f0 f1 f2 f3;generalize((((wr.setCell ⟨gz,i*4,none⟩ (.bool (canF q).num.neg)).setCell ⟨gz,i*4+1,none⟩ (.slice Am nm cm)).setCell ⟨gz,i*4+2,none⟩ (.bool (canF q).den.neg)).setCell ⟨gz,i*4+3,none⟩ (.slice bh bj bl)).drew=W8 at *;obtain⟨hE,hI,hB,hZ,-,-,hU,cw⟩:=b4;obtain⟨zz,cy⟩:=XI (l:=s.basis) (i:=i) a6.out;obtain⟨u0,u1,-,-⟩:=hI.at_ cy;have e4:=HF.out.1.cols;obtain⟨d4,k9⟩:=hI.set_ (k:=i) (z:=(j:Int)) a6.out Qk Qk;have ch:=hB.farI (ZA.of_set (g:=gb) (i:=i) (v:= .int .i64 (j:Int)) (w:=W8)) k9 bt;have ci:=hZ.but k9 Ql Ql;have P:=k9.bk hE Ql;have cj:=hU.setCell (p:=⟨gb,i,none⟩) cp (.int .i64 (j:Int));have y4:=hE.cellAt 4 rfl;clear hI hB hZ hU k9 hE cy
     go_upto_region 13 with(fail)
     clear y4 u0 u1;have ao:w0.heap.size<=(W8.setCell ⟨gb,i,none⟩ (.int .i64 (j:Int))).heap.size:=(by simpa using cw);generalize W8.setCell ⟨gb,i,none⟩ (.int .i64 (j:Int))=W9 at *;have y5:=P.cellAt 5 rfl;have f5:=P.frozen 5;have ac:=Zf.setCell P 5 (.int .i64 (s.pivots+1));have ap:=P.set_ 5 (.int .i64 (s.pivots+1));have ck:Zql U (W9.setCell ⟨e,5,none⟩ (.int .i64 (s.pivots+1))) e p (Zfr s i (j:Int)) K:=by
      refine⟨A,n,c,_,n',c',b6,b7,b8,_,cb,gB,_,ap,bB,bi,HG.out,⟨q1,q2,by have:=ao;simp;omega,by have:=ao;simp;omega⟩,d4.but ac Ql,λb hb=>?_,ch.but ac Ql Ql Ql Ql Ql Ql Ql,?_,λb hb=>?_,cj.setCell (p:=⟨e,5,none⟩) q1 _⟩
      ·simp[Value.ownBlock]at hb;omega
      ·rw[Ysd HR.out hi a6.out bq.out,<-HQ.out,<-au.out,<-a9.out];exact ci.but ac Ql Ql
      ·simp[Value.ownBlock]at hb;omega
     clear P ap d4 ch ci cj ac;go_wp2_with fail;clear y5 f5;refine(Zlg U e p (Zfr s i (j:Int)) K _ ck HF.out).mono ?_;rintro _ ec ⟨rfl,d9⟩;clear ck;go_wp2;go_ret;exact .inl ⟨i,hlv,rfl,d9⟩
end
def Z6.news{w:World}{ad:Addr}{n c:Nat}{zs:List Int}(h:Z6 w (.slice (some ad) n c) zs):∀j u,(zs.map λz=>Value.int .i64 z)[j]? =some u->w.cell? (ad.add j)=some u:=by
 obtain⟨A,c',hv,hc,hm,d,f⟩:=h;injection hv with e1 e2 e3;subst e1;intro j u hj;have a:j<zs.length:=by have h9:=(JO.1 hj).1;simpa using h9
 obtain⟨b,g,e,hx⟩:=d Qk;have e:=Option.some.inj e;rw[e,Zoz,hx j a];simp[JQ a]at hj;rw[<-hj];simp[List.getD,JQ a]
def Zlh(v:Value)(zs:List Int)(w:World)(h:Z6 w v zs)(hs:zs.length<=1099511627776):
 Calls prog 23 #[v] w λo w'=>∃v',o= .returned v'/\Zt w.heap.size w' v' zs/\Below w.heap.size w w':=by
 have HI:=JZ h;obtain⟨A,c,rfl,hc,hm⟩:=h.shape;obtain⟨n,hn⟩:∃n,n=zs.length:=⟨_,rfl⟩;rw[<-hn]at hc hs⊢;have HN:=JZ hn;have i:Hid (∀z∈zs,-9223372036854775808<=z/\z<=9223372036854775807):=JZ (by obtain⟨_,_,_,_,_,_,h⟩:=h;exact h);have d:=λ(W:World) (a:Option Addr)=>fI (P:=prog) W 22 3 a n c 0 0 underlying22
 obtain⟨i0,hi,l,m,p⟩:=kL info_intT
 cases A with
 |none=>
  have j:n=0:=by
   rcases JV n with e|e
   ·exact e
   ·obtain⟨b,q,_,e1,_⟩:=h.at_ (show 0<zs.length by omega);cases e1
  subst j;obtain rfl:zs=[]:=iX.1 HN.out.symm;have:=d w none;clear d h hn;go_enter func23,ntmps23;go_wp2;go_ret;exact⟨_,rfl,Zt.nil _ _,JR _ _⟩
 |some ad=>
  have:=d w (some ad);clear d h hn;go_enter func23,ntmps23;go_wp2_with(at_builtin;refine eD _ rfl (.tmp 5) (.tmp 6) _ rfl w.heap.size 3 i0 _ 1 8 underlying22 hi l m p rfl Ql (.slice (some ⟨w.heap.size,0,none⟩) 0 0) 0 [] rfl ?c0 ad n c (zs.map λz=>Value.int .i64 z) rfl ?c1 ?c2 ?c6 ?c3 ?c4 ?c5 ?_)
  case c0=>exact BQ w #[] 0 (JY _) (by simp) (by simp)
  case c1=>simp;have:=HN.out;omega
  case c2=>
   have:=(HI.out.below ((JR _ _).alloc (JY _) (.cells #[] 3))).news;exact this
  case c3=>unfold maxLen;omega
  case c4=>omega
  case c5=>simp
  case c6=>intro u hu;simp at hu;obtain⟨z,_,rfl⟩:=hu;rfl
  ·intro v' w1 f g _ _;go_wp2;go_ret;refine⟨_,rfl,⟨by have e:=HN.out;rw[e]at f;simpa using f,i.out⟩,((JR _ _).alloc (JY _) _).grown g (by simp) (λk hk=>?_)⟩;simp[Value.ownBlock]at hk;omega
def Zdy(U:World)(e:Nat)(p:LPd)(s:LSt)(K:Nat)(w:World)(h:Zql U w e p s K)(F:p.Ft K)(S:s.Fit p):
 Calls prog 32 #[.pointer (some ⟨e,0,none⟩)] w λo w'=>∃v',o= .returned v'/\StO w.heap.size w' v' s/\Below w.heap.size w w':=by
 obtain⟨Ab,cb,base,bi,gB,vz,h1,h2,h3,h4⟩:=h.r;obtain⟨y3,y4,y5,-,-⟩:=h1.cells;have j:s.basis.length<=1099511627776:=by rw[S.2];have:=F.2.1;omega
 obtain⟨W,hW,hT,hb⟩:∃W,w.alloc (.cells #[.int .i64 0,.slice none 0 0,.int .i64 0] 41)=W/\Bk W w.heap.size 41 [.int .i64 0,.slice none 0 0,.int .i64 0]/\Below w.heap.size w W:=⟨_,rfl,Bk.new w _ _,Ze w _⟩;have f:=Zi hb y3;have g:=Zi hb y4;have i:=Zi hb y5;have k:=h2.below hb;have l:=hT;clear h h1 h2 h3 h4 y3 y4 y5 F S;go_enter func32,ntmps32
 go_upto_region 1 with(fail)
 clear hW;have C0:=Zm f;have C1:=Zm g;have C2:=Zm i;have a:=Zc W;clear f g i;refine Zj 14 [0,1,2,3,4,5,6,7,9,10,11,12,8,13,14] Qm Qm ?_;refine Qb ?_
 refine Qo λ_ kq=>?_;with_reducible refine(Zlh _ s.basis _ (k.below a) j).mono ?_
 rintro _ w6 ⟨v6,rfl,e6,n⟩;have c:=Za a n a.size;obtain⟨A6,n6,c6,rfl⟩:=e6.sliceN;have b:=l.later c;obtain⟨t0,t1,t2⟩:=b.three;obtain⟨f0,f1,f2⟩:=b.threeF;refine kq.out _ _ (.inr c) (Qc ?_);clear kq
 refine Qh ?_;refine Zl ?_;clear C0 C1 C2;have k0:=Zf.setCell b 0 (.int .i64 s.phase);have g0:=b.set_ 0 (.int .i64 s.phase);have k1:=Zf.setCell g0 1 (.slice A6 n6 c6);have g1:=g0.set_ 1 (.slice A6 n6 c6);have k2:=Zf.setCell g1 2 (.int .i64 s.pivots);have g2:=g1.set_ 2 (.int .i64 s.pivots);have hO:=e6.but ((k0.trans k1).trans k2) Ql;have m:=(((Za hb c hb.size).setCell (p:=⟨w.heap.size,0,none⟩) (JY _) (.int .i64 s.phase)).setCell (p:=⟨w.heap.size,1,none⟩) (JY _) (.slice A6 n6 c6)).setCell (p:=⟨w.heap.size,2,none⟩) (JY _) (.int .i64 s.pivots);go_wp2;refine Zq results32 underlying41 Qm rfl g2 rfl ?_;exact⟨_,rfl,⟨A6,n6,c6,rfl,hO.monoB (JW hb.size a.size)⟩,m⟩
section
open Go.Maps (int_keyed keyOf_int_mk)
def Zfg{e:TypeId}(he:prog.underlying e=some .bool){v:Value}{b:Bool}{ps:List MemPlace}(h:plainElem (H:=Unit) prog e v=some (.lit (.bool b),ps)):v= .bool b:=by
 unfold plainElem at h;rw[he]at h
 cases v <;> simp at h
 rw[h.1]
def XA(w:World)(b n:Nat)(zs:List Int):Prop:=
 ∃D:DataW Unit,w.ownsMap prog 3 (plainElem prog 4) b n D/\Go.Maps.IsMap D/\∀z:Int,D.atKey (.int .i64 z) (.lit (.bool false))= .lit (.bool (decide (z∈zs)))
def XA.made(w:World):XA (w.alloc (.map #[] 0)) w.heap.size 0 []:=
 ⟨.map [],World.ownsMap_made w _ _ _,Go.Maps.isMap_empty,λz=>by simp[DataW.atKey]⟩
def Ylu(z:Int)(h0: -9223372036854775808<=z)(h1:z<=9223372036854775807):keyOf prog 3 (.int .i64 z)=some (.int .i64 z):=keyOf_int_mk underlying3 (by
 have e1:IntKind.i64.min= -9223372036854775808:=Ql
 have e2:IntKind.i64.max=9223372036854775807:=Ql
 simp[Lit.wf,e1,e2];omega)
def XA.look{w:World}{b n:Nat}{zs:List Int}(h:XA w b n zs)(z:Int)(h0: -9223372036854775808<=z)(h1:z<=9223372036854775807):
 (Instr.lookup 112 (.map (some b)) (.int .i64 z) false).run prog w= .ok (.bool (decide (z∈zs))) w:=by
 obtain⟨D,ho,hm,hd⟩:=h;obtain⟨v,ps,hr,hv⟩:=ho.lookup (int_keyed underlying3) underlying112 (z:= .bool false) Qm (plainElem_bool underlying4 false) (Ylu z h0 h1);rw[hd z]at hv;rw[hr,Zfg underlying4 hv]
def XA.put{w:World}{b n:Nat}{zs:List Int}(h:XA w b n zs)(hn:n<1000)(z:Int)(h0: -9223372036854775808<=z)(h1:z<=9223372036854775807):
 ∃w',(Instr.mapUpdate 112 (.map (some b)) (.int .i64 z) (.bool true)).run prog w= .ok () w'/\XA w' b (n+1) (z::zs)/\w.grownBy w' (some b):=by
 obtain⟨D,ho,hm,hd⟩:=h;obtain⟨w',hr,a,hg⟩:=ho.update (int_keyed underlying3) underlying112 (by unfold maxLen;omega) (Ylu z h0 h1) (plainElem_bool underlying4 true);refine⟨w',hr,⟨_,a,hm.put _ _,λy=>?_⟩,hg⟩;by_cases e:y=z
 ·subst e;rw[Go.Maps.atKey_put_same hm (by trivial)];simp
 ·rw[aI (by intro g;injection g with _ g;exact e g),hd y];simp[e]
def Ytg(w:World)(p:LPd)(s:LSt)(K:Nat)(o:Ending)(w':World):Prop:=
 Below w.heap.size w w'/\((lpErr p≠0/\o= .returned (.tuple #[.pointer none,.int .i64 (lpErr p)]))\/(lpErr p=0/\vsErr p s≠0/\o= .returned (.tuple #[.pointer none,.int .i64 (vsErr p s)]))\/
  (lpErr p=0/\vsErr p s=0/\∃e,o= .returned (.tuple #[.pointer (some ⟨e,0,none⟩),.int .i64 0])/\Zql w w' e p (settleQ p s) K))
def Znn(v1 v2:Value)(p:LPd)(s:LSt)(K:Nat)(w:World)(h:LpM w v1 p)(h2:StM w v2 s)(ok:p.Ok K)(hF:lpErr p=0->p.Ft K)(hbl:s.basis.length<=1099511627776)(hrg:∀z∈s.basis,-9223372036854775808<=z/\z<=9223372036854775807):
 Calls prog 31 #[v1,v2] w (Ytg w p s K):=by
 obtain⟨A,n,c,A',n',c',a1,et,a2,rfl,hc,hv,hr⟩:=id h;obtain⟨cu,ar,cv,rfl,hI⟩:=id h2;obtain⟨l1,l2,l3⟩:=hv.len;obtain⟨r1,r2,r3⟩:=hr.len;subst l1 r1;obtain⟨W0,e0,cw,bn⟩:=Zfn w (.slice A n c) (.slice A' p.cols.length c') (.slice a1 p.right.length a2);obtain⟨W,hW,hT,X⟩:=Zfq W0 (.int .i64 s.phase) (.slice cu ar cv) (.int .i64 s.pivots);have E:=Za bn X bn.size;have hX:=cw.later X;have R:Hid (UY w (.slice A n c) p.cost/\VE w (.slice A' p.cols.length c') p.cols/\UY w (.slice a1 p.right.length a2) p.right):=JZ ⟨hc,hv,hr⟩;have dd:=JZ h;have ba:Hid (True/\Z6 w (.slice cu ar cv) s.basis):=JZ ⟨trivial,hI⟩;have ei:=JZ ok;have de:=JZ hF;have ej:=JZ hrg;obtain⟨cx,eu,ev⟩:=hI.len;have bs:=JZ cx;obtain⟨x0,x1,x2⟩:=hX.three;obtain⟨t0,t1,t2⟩:=hT.three;have df:=JZ hX;have dg:=JZ hT;have HK:Hid (p.Ok K):=JZ ok;clear h h2 hc hv hr hI ok hF hrg cw bn X cx hX hT;go_enter func31,ntmps31;go_wp2_with fail;clear hW e0 x0 x1 x2 t0 t1 t2;refine(Zfo _ p K _ (dd.out.below E) HK.out).mono ?_;rintro _ w1 ⟨rfl,X⟩;have a6:=Za E X E.size;have bc:=JZ (df.out.later X);have bd:=JZ (dg.out.later X);clear E X;by_cases hz:lpErr p=0
 ·rw[hz];have D:=JZ hz;have HF:=JZ (de.out hz);have bt:=HF.out.2.1;have ek:=HF.out.1.cols;obtain⟨-,x1,x2⟩:=bc.out.three;obtain⟨t0,t1,t2⟩:=bd.out.three;clear hz
  go_upto_region 4 with(fail)
  have C1:=Zm x1;have C2:=Zm x2;have F:=Zc w1;clear x1 x2 t0 t1 t2;refine Zj 8 [0,1,2,3,4,5,6,7] Qm Qm ?_;refine Qb ?_
  refine Zl ?_;clear C1 C2;have M:=Za a6 F a6.size;have bu:=JZ (bc.out.later F);have be:=JZ (bd.out.later F);clear a6 F bc bd;generalize w1.drew=w2 at *;obtain⟨-,x1,x2⟩:=bu.out.three;obtain⟨t0,t1,t2⟩:=be.out.three;by_cases ak:s.basis.length=p.right.length
  ·have G:=JZ ak;have bv:ar=p.right.length:=(by rw[bs.out];exact ak);subst bv;clear ak;by_cases a9:s.phase<1\/2<s.phase\/s.pivots<0
   ·have HV:=JZ (Yqv G.out a9);by_cases h1:s.phase=1
    ·have hA:(s.phase !=1)=false:=(by simpa using h1);have hP:s.pivots<0:=Qk;clear x1 x2;go_wp2;go_ret2;exact⟨M,.inr (.inl ⟨D.out,by rw[HV.out];decide,by rw[HV.out];rfl⟩)⟩
    ·by_cases h2:s.phase=2
     ·have hA:(s.phase !=1)=true:=(by simpa using h1);have hB:(s.phase !=2)=false:=(by simpa using h2);have hP:s.pivots<0:=Qk;clear x1 x2;go_wp2;go_ret2;exact⟨M,.inr (.inl ⟨D.out,by rw[HV.out];decide,by rw[HV.out];rfl⟩)⟩
     ·have hA:(s.phase !=1)=true:=(by simpa using h1);have hB:(s.phase !=2)=true:=(by simpa using h2);clear x1 x2;go_wp2;go_ret2;exact⟨M,.inr (.inl ⟨D.out,by rw[HV.out];decide,by rw[HV.out];rfl⟩)⟩
   ·have B:=JZ a9;have bw:s.phase=1\/s.phase=2:=Qk;have bx:=JZ bw;have el:0<=s.pivots:=Qk;rcases bw with h1|h2
    case' inl=>
     have hA:(s.phase !=1)=false:=(by simpa using h1);clear h1 a9
     go_upto_region 9 with(fail)
    case' inr=>
     have hB:(s.phase !=2)=false:=(by simpa using h2);have hA:(s.phase !=1)=true:=(by simp;omega);clear h2 a9
     go_upto_region 9 with(fail)
     clear hB
    all_goals
     have y1:=be.out.cellAt 1 rfl;clear x1 x2 t0 t1 t2 hA;go_wp2;clear y1
     go_loopw [57] (λx wr=>∃k:Nat,k<=p.right.length/\x= .int .i64 k/\Below w2.heap.size w2 wr/\∀i,i<k-> -(p.right.length:Int)<=s.at_ i/\s.at_ i<p.cols.length) (λx _=>p.right.length - (intOf x).toNat)
     case atStart=>exact⟨0,Qk,rfl,JR _ _,λi hi=>absurd hi Qk⟩
     case round=>
      obtain⟨k,hk,rfl,hb,ah⟩:=hrel;have L:=JZ ah;have d:=Za M hb M.size;clear ah;rcases JX k p.right.length with hkl|hkl
      ·have bf:(k:Int)<p.right.length:=Qk;obtain⟨bb,ob,z,hA,z0,u,z1,z2⟩:=ba.out.2.at_ hkl;subst hA;have z3:=Zi d z0;have H:Hid (s.at_ k=z):=JZ (LSt.at_eq u);clear u z0;by_cases da:z< -(p.right.length:Int)
       ·have HV:=JZ (Yli G.out B.out (λg=>by have:=(g k hkl).1;rw[H.out]at this;omega));go_wp2;go_ret2;exact⟨d,.inr (.inl ⟨D.out,by rw[HV.out];decide,by rw[HV.out];rfl⟩)⟩
       ·have bz: -(p.right.length:Int)<=z:=Qk;by_cases db:z<p.cols.length
        ·clear da;go_wp2;go_roundw
         case rel=>exact⟨k+1,Qk,by go_num,hb,λi hi=>by
          by_cases g:i=k
          ·rw[g,H.out];exact⟨bz,db⟩
          ·exact L.out i Qk⟩
         case measure=>exact Qn
        ·have HV:=JZ (Yli G.out B.out (λg=>by have:=(g k hkl).2;rw[H.out]at this;omega));have ec:(p.cols.length:Int)<=z:=Qk;clear da db;go_wp2;go_ret2;exact⟨d,.inr (.inl ⟨D.out,by rw[HV.out];decide,by rw[HV.out];rfl⟩)⟩
      ·obtain rfl:k=p.right.length:=Qk
       have I:Hid (Zuw p s):=JZ L.out;have bg:=JZ (be.out.later hb);have c0:=JZ (bu.out.later hb);have y1:=bg.out.cellAt 1 rfl;have dh:=@run_makeMap prog;have c1:=XA.made wr;have aa:=Ze wr (.map #[] 0);have di:=Zi aa y1;have em:=d.size;have en:=aa.size;have c2:=bg.out.lt;have c3:=c0.out.lt;go_wp2;clear y1 di dh;have ax:=Za d aa d.size;have dj:=JZ (bg.out.later aa);have dk:=JZ (c0.out.later aa);clear aa hb d;generalize wr.alloc (.map #[] 0)=W4 at *;generalize wr.heap.size=gm at *
       go_loopw [75] (λx wr=>∃k:Nat,k<=p.right.length/\x= .int .i64 k/\Below w.heap.size w wr/\Below gm W4 wr/\XA wr gm k (s.basis.take k).reverse/\∀i,i<k->∀i',i'<i->s.at_ i≠s.at_ i') (λx _=>p.right.length - (intOf x).toNat)
       case atStart=>exact⟨0,Qk,rfl,ax,JR _ _,by simpa using c1,λi hi=>absurd hi Qk⟩
       case round=>
        clear c1 ax;obtain⟨k,hk,rfl,N,ai,aj,cy⟩:=hrel;have c4:=JZ cy;clear cy;rcases JX k p.right.length with hkl|hkl
        ·have bf:(k:Int)<p.right.length:=Qk;obtain⟨bb,ob,z,hA,z0,u,z1,z2⟩:=ba.out.2.at_ hkl;subst hA;have z3:=Zi N z0;have H:Hid (s.at_ k=z):=JZ (LSt.at_eq u);have c7:=aj.look z z1 z2;by_cases a5:z∈(s.basis.take k).reverse
         ·have HV:=JZ (Yqw G.out B.out I.out (λg=>by
           rw[dF]at a5;obtain⟨i,e3,d0⟩:=bU a5;rw[kN]at e3;have dl:s.basis[i]? =some z:=by
            rw[JQ Qk];rw[List.getElem_take]at d0;rw[d0]
           exact g k hkl i Qk (by rw[H.out,LSt.at_eq dl])))
          have d:=N;rw[kE a5]at c7;clear u z0 aj a5;go_wp2;go_ret2;exact⟨d,.inr (.inl ⟨D.out,by rw[HV.out];decide,by rw[HV.out];rfl⟩)⟩
         ·obtain⟨w6,ew,b6,bo⟩:=aj.put Qk z z1 z2;rw[kw a5]at c7;have S:=N.grown bo N.size (λx hx=>by injection hx with hx;omega);have ca:=ai.grown bo (by have:=ai.size;omega) (λx hx=>by injection hx with hx;omega);have dm:Hid (XA w6 gm (k+1) (s.basis.take (k+1)).reverse):=JZ (by rw[jP,u];simpa using b6);have dn:Hid (∀i',i'<k->z≠s.at_ i'):=JZ λi' hi' e=>a5 (by
           rw[dF];obtain⟨y,hy⟩:=XI (l:=s.basis) (i:=i') (by rw[G.out];omega);rw[LSt.at_eq hy]at e;subst e;exact kS.2 ⟨i',by rw[iZ,jB hi'];exact hy⟩)
          clear u z0 aj b6 a5 bo;go_wp2;go_roundw
          case rel=>exact⟨k+1,Qk,by go_num,S,ca,dm.out,λi hi i' hi'=>by
           by_cases g:i=k
           ·rw[g,H.out];exact dn.out i' Qk
           ·exact c4.out i Qk i' hi'⟩
          case measure=>exact Qn
        ·obtain rfl:k=p.right.length:=Qk
         have T:Hid (Ybr p s):=JZ c4.out;have dp:=JZ (dj.out.below ai c2);have cc:=JZ (dk.out.below ai c3);have cd:=cc.out.three;obtain⟨x0,x1,x2⟩:=cd;obtain⟨t0,t1,t2⟩:=dp.out.three;have E:=N;clear aj ai
         go_upto_region 23 with(fail)
         have C0:=Zm x0;have C1:=Zm x1;have C2:=Zm x2;have D0:=Zm t0;have D1:=Zm t1;have D2:=Zm t2;have F:=Zc wr;clear x0 x1 x2 t0 t1 t2;refine Zj 11 [0,1,2,3,4,6,7,5,8,9,10] Qm Qm ?_;refine Qb ?_
         refine Qo λ_ kq=>?_;(with_reducible refine(Zlh _ s.basis _ (ba.out.2.below (Za E F E.size)) hbl).mono ?_);rintro _ w6 ⟨v6,rfl,e6,av⟩;have am:=Za F av F.size;obtain⟨Ab,e5,cb,rfl⟩:=e6.sliceN;obtain rfl:e5=p.right.length:=by rw[<-G.out];exact e6.len
         refine kq.out _ _ (.inr am) (Qc ?_);clear kq
         obtain⟨W7,e7,au,ad⟩:∃W,w6.alloc (.cells #[.slice A n c,.slice A' p.cols.length c',.slice a1 p.right.length a2,.int .i64 s.phase,.slice Ab p.right.length cb,.int .i64 s.pivots,.pointer none,.slice none 0 0] 125)=W/\Bk W w6.heap.size 125 [.slice A n c,.slice A' p.cols.length c',.slice a1 p.right.length a2,.int .i64 s.phase,.slice Ab p.right.length cb,.int .i64 s.pivots,.pointer none,.slice none 0 0]/\Below w6.heap.size w6 W:=⟨_,rfl,Bk.new w6 _ _,Ze w6 _⟩;have an:=Za am ad am.size;refine Qo λ_ kq=>?_;refine kq.out _ _ (.inr an) (Qc ?_);clear kq e7
         refine Zl ?_;clear C0 C1 C2 D0 D1 D2;have a:=Za E an E.size;have ce:=cc.out.later an;have ao:=JZ (e6.below ad);have ap:w.heap.size<=w6.heap.size:=JW E.size (JW F.size av.size);have eo:wr.heap.size<=w6.heap.size:=JW F.size av.size;clear e6 av ad am an F N;generalize w6.heap.size=e at *;have cf:Yeb W7 e p s.phase s.pivots (.slice Ab p.right.length cb) (.pointer none) (.slice none 0 0):=⟨A,n,c,A',_,c',a1,_,a2,au,R.out.1.below a,R.out.2.1.below a,R.out.2.2.below a⟩;have dq:=JZ cf;have dr:=JZ au;have ds:=JZ ce;have ep:=Zit p.right.length Qk;have cg:=Ym.zeros W7 p.right.length (by unfold maxLen;omega);have o:=Ze W7 (.cells (zvc p.right.length) 88);have y4:=au.cellAt 4 rfl;have dt:=Zi o y4;obtain⟨-,ee,ef⟩:=ao.out.ints.len;clear ce au cf;go_wp2;clear y4 dt;generalize W7.alloc (.cells (zvc p.right.length) 88)=W8 at *
         go_loopw [102] (λx wr=>∃k:Nat,k<=p.right.length/\x= .int .i64 k/\Below W7.heap.size W7 wr/\∃cols:List (List En),cols.length=p.right.length/\Ym W7.heap.size wr (.slice (some ⟨W7.heap.size,0,none⟩) p.right.length p.right.length) cols/\∀i,i<k->∃es,cols[i]? =some es/\p.col (s.at_ i)=X5 es/\Pl.Good p.right.length es/\∀(k:Nat) (e:En),es[k]? =some e->e.f.Rs K) (λx _=>p.right.length - (intOf x).toNat)
         case atStart=>exact⟨0,Qk,rfl,o,_,by simp,cg,λi hi=>absurd hi Qk⟩
         case round=>
          clear cg o;obtain⟨k,hk,rfl,hb,cols,b7,hO,d1⟩:=hrel;have bh:=JZ d1;clear d1;rcases JX k p.right.length with hkl|hkl
          ·have bf:(k:Int)<p.right.length:=Qk;obtain⟨bb,ob,z,hA,z0,u,z1,z2⟩:=ao.out.ints.at_ hkl;subst hA;have z3:=Zi hb z0;have bj:=I.out k hkl;rw[LSt.at_eq u]at bj;have H:Hid (s.at_ k=z):=JZ (LSt.at_eq u);clear u z0;go_wp2_with fail;refine(Zte e p K s.phase s.pivots _ _ _ z _ (dq.out.below hb) HF.out D.out bj.1 bj.2).mono ?_;rintro _ w8 ⟨v8,es,rfl,br,d6,d7,d8,o⟩;have t:=Za hb o hb.size;have bl:=hO.below o;obtain⟨u0,d2⟩:=WC (cs:=cols) (i:=k) Qk;obtain⟨_,m0,m1,-⟩:=bl.at_ d2;obtain⟨e8,_⟩:=bl.set_ (k:=k) Qk br;have C:=t.setCell (p:=⟨W7.heap.size,k,none⟩) (JY _) v8;obtain⟨A8,n8,c8,rfl⟩:∃A n c,v8= .slice A n c:=by obtain⟨A,c,e,_⟩:=br.shape;exact⟨A,_,c,e⟩
           have ch:Hid (p.col z=X5 es/\Pl.Good p.right.length es/\∀(k:Nat) (e:En),es[k]? =some e->e.f.Rs K):=JZ ⟨d6,d7,d8⟩;clear hb o t hO bl br d6 d7 d8 d2 z3;go_wp2;go_roundw
           case rel=>exact⟨k+1,Qk,by go_num,C,_,by rw[jd];exact b7,e8,λi hi=>by
            by_cases g:i=k
            ·subst g;exact⟨es,jM Qk,by rw[H.out];exact ch.out.1,ch.out.2⟩
            ·rw[jE (bL g)];exact bh.out i Qk⟩
           case measure=>exact Qn
          ·obtain rfl:k=p.right.length:=Qk
           have ab:=Za a hb a.size;have ci:∀(k:Nat) (c:List En),cols[k]? =some c->Pl.Good p.right.length c/\∀(j:Nat) (e:En),c[j]? =some e->e.f.Rs K:=λk c hc=>by
            obtain⟨es,h1,h2,h3⟩:=bh.out k (by have:=(JO.1 hc).1;omega);rw[hc]at h1;injection h1 with h1;subst h1;exact h3
           have cj:∀(k:Nat) (c:List En),cols[k]? =some c->s.mat p k=X5 c:=λk c hc=>by
            obtain⟨es,h1,h2,h3⟩:=bh.out k (by have:=(JO.1 hc).1;omega);rw[hc]at h1;injection h1 with h1;subst h1;exact h2
           go_wp2_with fail;refine(Yjg _ p.right.length K cols (s.mat p) _ hO.vecs b7 bt HF.out.1.k1 HF.out.2.2 ci cj).mono ?_;clear ci cj;rintro _ w8 ⟨o,⟨gB,rfl,b8,b9⟩|⟨rfl,d9⟩⟩
           ·have HR:=JZ (show Reg p s from b8);have a7:=JZ (Ybw HR.out);have t:=Za hb o hb.size;have J:=Za ab o ab.size;have U:=dr.out.later t;have ck:=ds.out.later t;have ay:=ao.out.below t;have q6:=U.cellAt 6 rfl;have f6:=U.frozen 6;have k6:=Zf.setCell U 6 (.pointer (some ⟨gB,0,none⟩));have cl:=U.set_ 6 (.pointer (some ⟨gB,0,none⟩));have cm:=λbi=>(b9 bi).but k6 Ql Ql Ql Ql Ql Ql Ql
            have cn:=k6.bk ck Ql;have az:=ay.but k6 Ql;have O:=J.setCell (p:=⟨e,6,none⟩) ap (.pointer (some ⟨gB,0,none⟩));have ed:wr.heap.size<=(w8.setCell ⟨e,6,none⟩ (.pointer (some ⟨gB,0,none⟩))).heap.size:=(by simpa using o.size);have co:W7.heap.size<=wr.heap.size:=hb.size;clear hO b8 b9 U ck ay k6 hb o t J ab
            go_upto_region 34 with(fail)
            clear q6 f6;generalize w8.setCell ⟨e,6,none⟩ (.pointer (some ⟨gB,0,none⟩))=W8 at *;obtain⟨-,-,x2⟩:=cn.three;go_wp2_with fail;clear x2;refine(Xv _ p.right K _ (R.out.2.2.below O) Qk HF.out.1.rs (by have:=HF.out.k;omega)).mono ?_;rintro _ w9 ⟨v9,rfl,e9,t⟩;obtain⟨A9,n9,c9,rfl⟩:∃A n c,v9= .slice A n c:=by obtain⟨A,c,e,_⟩:=e9.vec.shape;exact⟨A,_,c,e⟩
            have ae:=cl.later t;have m:=Za O t O.size;have b0:=λbi=>(cm bi).below t
            have af:=az.below t;have b1:Yeb w9 e p s.phase s.pivots (.slice Ab p.right.length cb) (.pointer (some ⟨gB,0,none⟩)) (.slice none 0 0):=⟨A,n,c,A',_,c',a1,_,a2,ae,R.out.1.below m,R.out.2.1.below m,R.out.2.2.below m⟩;have b2:=JZ b0;clear cl cn cm az b0;go_wp2_with fail;refine(Zlf e p K p.right.length cb wr.heap.size 0 gB (s.mat p) s.phase s.pivots Ab _ _ (spV (qAt p.right) p.right.length) _ b1 (b2.out 0) e9.vec (Zgr _ _) (Zfu λi _=>HF.out.1.rs.qAt HF.out.1.k1 i) bt HF.out.2.2).mono ?_;rintro _ aw ⟨f2,x,rfl,hx,-,a3,C⟩;have cp:Yn p.right.length x=zL p s:=by
             unfold zL;exact(Zff HR.out λr hr=>by have:=hx r hr;rw[Zku,jB hr]at this;exact this).symm
            rw[cp]at a3;have P:Hid ((zL p s).length=p.right.length):=JZ (Zer HR.out);obtain⟨Az,cz,d3⟩:=a3.slice;rw[P.out]at d3;subst d3;obtain⟨-,eg,eh⟩:=a3.frs.len;have V:=ae.later C;have b3:=λbi=>(b2.out bi).below C
            have Y:=af.below C;have Z:=Za m C m.size;have q7:=V.cellAt 7 rfl;have f7:=V.frozen 7;have k7:=Zf.setCell V 7 (.slice Az p.right.length cz);have a8:=V.set_ 7 (.slice Az p.right.length cz);have ag:=Yy.own_lt a3;have b4:Ylt w (aw.setCell ⟨e,7,none⟩ (.slice Az p.right.length cz)) e p s K A n c A' p.cols.length c' a1 p.right.length a2 Ab cb gB (.slice Az p.right.length cz):=by
             refine⟨wr.heap.size,aw.heap.size,R.out,⟨ap,?_,?_,by simp⟩,(Y.but k7 Ql).monoB ?_,λb hb=>?_,(b3 _).but k7 Ql Ql Ql Ql Ql Ql Ql,(a3.but k7 Ql Ql).monoB m.size,λb hb=>ag b hb,Z.setCell (p:=⟨e,7,none⟩) ap _⟩
             ·exact JW a.size co
             ·have:=t.size;have:=C.size;simp;omega
             ·exact E.size
             ·have:=U4 ao.out.1 b hb;omega
            have du:Hid (Zql w (aw.setCell ⟨e,7,none⟩ (.slice Az p.right.length cz)) e p s K):=JZ ⟨_,_,_,_,_,_,_,_,_,_,_,_,_,a8,b4⟩;have dv:=JZ (a3.but k7 Ql Ql);have cq:=JZ (Y.but k7 Ql);have dw:=JZ a8;have J:=Z.setCell (p:=⟨e,7,none⟩) ap (.slice Az p.right.length cz);have y7:=a8.cellAt 7 rfl;clear b1 e9 hx cp a3 ae V b3 af Y O m Z t C k7 a8 ag b4
            go_upto_region 36 with(fail)
            clear q7 f7;generalize aw.setCell ⟨e,7,none⟩ (.slice Az p.right.length cz)=W9 at *;go_wp2;clear y7
            go_loopw [144] (λx wr=>∃k:Nat,k<=p.right.length/\x= .int .i64 k/\Below W9.heap.size W9 wr/\∀i,i<k->¬qAt (zL p s) i<0/\(s.phase=2->s.at_ i<0->qAt (zL p s) i=0)) (λx _=>p.right.length - (intOf x).toNat)
            case atStart=>exact⟨0,Qk,rfl,JR _ _,λi hi=>absurd hi Qk⟩
            case round=>
             obtain⟨k,hk,rfl,hb,ah⟩:=hrel;have L:=JZ ah;clear ah;have aq:=du.out.below hb;obtain⟨ex,ey,ea,ez,f0,f1,e1,e2,-,e4⟩:=aq.r;rcases JX k p.right.length with hkl|hkl
             ·have bf:(k:Int)<p.right.length:=Qk;obtain⟨f,hf⟩:=YJ (fs:=zL p s) (i:=k) (by rw[P.out];exact hkl);have HQ:Hid (qAt (zL p s) k=f.q):=JZ (YW hf);obtain⟨b5,o5,A5,n5,c5,A6,n6,c6,bp,-,⟨x0,x1,x2,x3⟩,d4⟩:=dv.out.frs.elem hb hf;subst bp;obtain⟨W6,eb,d5,bq⟩:=Xp wr (.bool f.num.neg) (.slice A5 n5 c5) (.bool f.den.neg) (.slice A6 n6 c6);obtain⟨u0,u1,u2,u3⟩:=d5.four;have cr:=d4.below bq;have S:=Za hb bq hb.size;have dx:qs f.q=0\/qs f.q=1\/qs f.q= -1:=(by have:=VY f.q;omega);obtain⟨bb,ob,z,bp,z0,u,-,-⟩:=cq.out.ints.at_ hkl;subst bp;have H:Hid (s.at_ k=z):=JZ (LSt.at_eq u);clear hf d4 hb d5 bq u aq e1 e2 e4;go_wp2_with fail;clear eb;refine(Zy _ f _ cr).mono ?_;rintro _ w7 ⟨rfl,ad⟩;have a:=Za S ad S.size;have z1:=Zi a z0;have ct:=dw.out.later a;have y3:=ct.cellAt 3 rfl;have y4:=ct.cellAt 4 rfl;clear cr S ad x0 x1 x2 x3 u0 u1 u2 u3 z0;rcases dx with hq|hq|hq
              ·rw[hq];have a0:Hid (¬qAt (zL p s) k<0/\(s.phase=2->s.at_ k<0->qAt (zL p s) k=0)):=JZ (by rw[HQ.out,Yg.1 hq];exact⟨Ql,λ_ _=>rfl⟩);clear hq;rcases bx.out with hp|hp
               ·have bm:(s.phase==2)=false:=(by simp;omega);clear hp;go_wp2;go_roundw
                case rel=>exact⟨k+1,Qk,by go_num,a,λi hi=>by
                 by_cases g:i=k
                 ·rw[g];exact a0.out
                 ·exact L.out i Qk⟩
                case measure=>exact Qn
               ·have bm:(s.phase==2)=true:=(by simpa using hp);by_cases al:z<0
                ·clear hp;go_wp2;go_roundw
                 case rel=>exact⟨k+1,Qk,by go_num,a,λi hi=>by
                  by_cases g:i=k
                  ·rw[g];exact a0.out
                  ·exact L.out i Qk⟩
                 case measure=>exact Qn
                ·have dy:0<=z:=Qk;clear al hp;go_wp2;go_roundw
                 case rel=>exact⟨k+1,Qk,by go_num,a,λi hi=>by
                  by_cases g:i=k
                  ·rw[g];exact a0.out
                  ·exact L.out i Qk⟩
                 case measure=>exact Qn
              ·rw[hq];have ac:0<f.q:=UZ.1 Qk;clear hq;rcases bx.out with hp|hp
               ·have a0:Hid (¬qAt (zL p s) k<0/\(s.phase=2->s.at_ k<0->qAt (zL p s) k=0)):=JZ (by rw[HQ.out];exact⟨by grind,λg=>Qk⟩);have bm:(s.phase==2)=false:=(by simp;omega);clear hp;clear ac;go_wp2;go_roundw
                case rel=>exact⟨k+1,Qk,by go_num,a,λi hi=>by
                 by_cases g:i=k
                 ·rw[g];exact a0.out
                 ·exact L.out i Qk⟩
                case measure=>exact Qn
               ·have bm:(s.phase==2)=true:=(by simpa using hp);by_cases al:z<0
                ·have HV:Hid (vsErr p s=16):=JZ (by
                  by_cases dc:Yho p s
                  ·exact Yqx G.out B.out I.out T.out a7.out dc ⟨hp,Zdc (k:=k) (by rw[H.out];exact al) (by rw[HQ.out];grind) (by rw[P.out];exact hkl)⟩
                  ·exact Ylj G.out B.out I.out T.out a7.out dc)
                 clear hp ac;go_wp2;go_ret2;exact⟨Za J a J.size,.inr (.inl ⟨D.out,by rw[HV.out];decide,by rw[HV.out];rfl⟩)⟩
                ·have a0:Hid (¬qAt (zL p s) k<0/\(s.phase=2->s.at_ k<0->qAt (zL p s) k=0)):=JZ (by rw[HQ.out,H.out];exact⟨by grind,λ_ g=>absurd g al⟩);have dy:0<=z:=Qk;clear al hp ac;go_wp2;go_roundw
                 case rel=>exact⟨k+1,Qk,by go_num,a,λi hi=>by
                  by_cases g:i=k
                  ·rw[g];exact a0.out
                  ·exact L.out i Qk⟩
                 case measure=>exact Qn
              ·rw[hq];have ac:f.q<0:=UE.1 Qk;have HV:Hid (vsErr p s=16):=JZ (Ylj G.out B.out I.out T.out a7.out λg=>g k hkl (by rw[HQ.out];exact ac));clear hq ac;go_wp2;go_ret2;exact⟨Za J a J.size,.inr (.inl ⟨D.out,by rw[HV.out];decide,by rw[HV.out];rfl⟩)⟩
             ·obtain rfl:k=p.right.length:=Qk
              have HV:Hid (vsErr p s=0):=JZ (Yqy G.out B.out I.out T.out a7.out (λi hi=>(L.out i hi).1) λg=>by
               have:=Zet (s:=s) (zs:=zL p s) (n:=(zL p s).length) λi hi h=>(L.out i (by rw[<-P.out];exact hi)).2 g.1 h
               rw[this]at g;exact absurd g.2 Ql)
              clear e1 e2 e4 hkl hk hb;go_wp2_with fail;refine(Zlg w e p s K _ aq HF.out).mono ?_;rintro _ w8 ⟨rfl,U⟩;clear aq;go_wp2;go_ret2;exact⟨U.bel,.inr (.inr ⟨D.out,HV.out,e,rfl,U⟩)⟩
           ·have hv:vsErr p s=13:=Yni G.out B.out I.out T.out (by
             cases hzo:zOk p s with
             |false=>rfl
             |true=>exact absurd (Ybv hzo) d9)
            have HV:=JZ hv;have d:=Za ab o ab.size;clear hO d9 hb o ab hv;go_wp2;go_ret2;exact⟨d,.inr (.inl ⟨D.out,by rw[HV.out];decide,by rw[HV.out];rfl⟩)⟩
  ·have HV:=JZ (Yqu ak);have bv:¬ar=p.right.length:=(by have:=bs.out;omega);clear ak;go_wp2;go_ret2;exact⟨M,.inr (.inl ⟨D.out,by rw[HV.out];decide,by rw[HV.out];rfl⟩)⟩
 ·have dz:=JZ hz;have er:(lpErr p==0)=false:=by simpa using hz
  clear hz;go_wp2;go_ret2;exact⟨a6,.inl ⟨dz.out,rfl⟩⟩
end
section
open Go.Maps (int_keyed keyOf_int_mk)
def XA.below{w w':World}{b n B:Nat}{zs:List Int}(h:XA w b n zs)(hb:Below B w w')(hlt:b<B):XA w' b n zs:=by
 obtain⟨D,ho,hm,hd⟩:=h;obtain⟨es,a,h1,h2⟩:=ho;exact⟨D,⟨es,a,(hb.block b hlt).trans h1,h2⟩,hm,hd⟩
def Zyw{w:World}{b n:Nat}{zs:List Int}(h:XA w b n zs):b<w.heap.size:=by
 obtain⟨D,⟨es,a,h1,_⟩,_⟩:=h;exact ZU h1
def Yem(w:World)(x y z:Value):∃W,w.alloc (.cells #[x,y,z] 64)=W/\Bk W w.heap.size 64 [x,y,z]/\Below w.heap.size w W:=⟨_,rfl,Bk.new w _ [x,y,z],Ze w _⟩
def Xw(v:Value)(m:Ms)(w:World)(h:MsM w v m)(ok:VM m):
 Calls prog 19 #[v] w λe w'=>e= .returned (.int .i64 0)/\Below w.heap.size w w':=by
 obtain⟨A,n,c,A',n',c',I,g,J,rfl,hR,hC,hT⟩:=h;obtain⟨r1,r2,r3⟩:=hR.ints.lenC;obtain⟨s1,s2,s3⟩:=RdM.len hC;obtain⟨t1,t2,t3⟩:=RdM.len hT;have HR:=JZ hR.ints;have HC:=JZ hC;have HT:=JZ hT;have N:=JZ r1;have ad:=JZ s1;have ae:=JZ t1;have r:=JZ ok;have af:=JZ ok.rb;have O:=JZ ok.asc;obtain⟨W,hW,hX,a7⟩:=Zbj w (.int .i64 m.fl) (.slice A n c) (.int .i64 m.pen) (.slice A' n' c') (.slice I g J);obtain⟨x0,x1,x2,x3,x4⟩:=hX.five;have f0:=ok.fl0;have f1:=ok.fl1;have p0:=ok.pen0;have p1:=ok.pen1;have n0:1<=n:=by have:=ok.row0;omega
 have n1:n<=6:=by have:=ok.row1;omega
 have n2:n'<=6:=by have:=ok.ncol;omega
 have n3:g<=2:=by have:=ok.ncut;omega
 clear hR hC hT r1 s1 t1 ok;generalize m.fl=F at *;generalize m.pen=P at *;go_enter func19,ntmps19;go_wp2;clear x0 x1 x2 x3 x4
 go_loopw [58] (λx wr=>∃k:Nat,k<=n/\x= .int .i64 k/\Below w.heap.size w wr/\Bk wr w.heap.size 26 [.int .i64 F,.slice A n c,.int .i64 P,.slice A' n' c',.slice I g J]) (λx _=>n - (intOf x).toNat)
 case atStart=>exact⟨0,Qk,rfl,a7,hX⟩
 case round=>
  clear a7 hX hW;obtain⟨k,hk,rfl,hb,hB⟩:=hrel;obtain⟨x0,x1,x2,x3,x4⟩:=hB.five;rcases JX k n with hkl|hkl
  ·obtain⟨b,X,y,hA,o,hy,y0,y1⟩:=HR.out.elem hb hkl;subst hA;obtain⟨q0,q1⟩:=af.out y (jC hy);have HY:=JZ hy;clear hy;rcases JV k with hk0|hk0
   ·subst hk0;have ab:wr.cell? ⟨b,X,none⟩=some (.int .i64 y):=o;go_wp2;go_roundw
    case rel=>exact⟨1,Qk,by go_num,hb,hB⟩
    case measure=>exact Qn
   ·obtain⟨j,rfl⟩:∃j,k=j+1:=⟨k - 1,Qk⟩;obtain⟨b',b5,y',Y,ac,a8,_,_⟩:=HR.out.elem hb (show j<n by omega);injection Y with Y;injection Y with e1 e2 _;subst e1 e2;have a2:y'<y:=V3 O.out (aT j) a8 HY.out;have b6:¬y<=y':=Qk;have j0:(0:Int)< (j:Int)+1:=Qk;have j1:(j:Int)<n:=Qk;clear a8;go_wp2;go_roundw
    case rel=>exact⟨j+1+1,Qk,by go_num,hb,hB⟩
    case measure=>exact Qn
  ·obtain rfl:n=k:=Qk
   go_wp2;clear x0 x1 x2 x3 x4;generalize wr=wo at *
   go_loopw [89] (λx wr=>∃k:Nat,k<=n'/\x= .int .i64 k/\Below w.heap.size w wr/\Bk wr w.heap.size 26 [.int .i64 F,.slice A n c,.int .i64 P,.slice A' n' c',.slice I g J]) (λx _=>n' - (intOf x).toNat)
   case atStart=>exact⟨0,Qk,rfl,hb,hB⟩
   case round=>
    clear hb hB;obtain⟨k,hk,rfl,hb,hB⟩:=hrel;obtain⟨x0,x1,x2,x3,x4⟩:=hB.five;rcases JX k n' with hkl|hkl
    ·obtain⟨cl,Z⟩:∃cl,m.cols[k]? =some cl:=⟨m.cols[k]'(by rw[<-ad.out];exact hkl),JQ _⟩;obtain⟨b,X,sb,A1,B,c1,hA,a2,e0,e1,e2,hD⟩:=HC.out.elem hb Z;subst hA;have d:=jC Z;obtain⟨g0,g1⟩:=r.out.cost cl d;have a3:=JZ (r.out.opl d);have ag:=JZ (r.out.ne cl d);have ah:=JZ (r.out.nd cl d);have ai:=JZ (r.out.sub cl d);have HD:=JZ hD;generalize b2:cl.cost=co at *;clear b2 hD Z d;go_wp2_with fail;clear e0 e1 e2 x0 x1 x2 x3 x4;have f:=Ze wr (.cells #[.string sb,.slice A1 B c1,.int .i64 co] 64);have i:=Za hb f hb.size;have s:=hB.later f;have R:=JZ (HD.out.below f);clear hb f hB HD;generalize wr.alloc (.cells #[.string sb,.slice A1 B c1,.int .i64 co] 64)=W2 at *;generalize wr.heap.size=gk at *;refine(VR sb A1 B c1 cl.dut _ R.out (by have:=a3.out;unfold Cl.ops at this;omega)).mono ?_;rintro _ w3 ⟨v3,rfl,e3,p⟩;have D:=Za i p i.size;have u:=s.later p;have HE:=JZ e3.ints;obtain⟨A3,C,c3,rfl⟩:=e3.sliceN;obtain⟨l1,l2,l3⟩:=HE.out.lenC;have b7:=JZ l1;have b8:1<=C:=by
      have:=ag.out;have h0:=BH.2 this;unfold Cl.ops at h0;omega
     have b4:C<=6:=(by have:=a3.out;unfold Cl.ops at this;omega);clear i p s e3 l1;obtain⟨x0,x1,x2,x3,x4⟩:=u.five;have aj:=@run_makeMap prog;have a4:=XA.made w3;have z:=Ze w3 (.map #[] 0);have S:=Zi z x0;have T:=Zi z x1;go_wp2;clear S T aj;have l:=Za D z D.size;have ak:=u.later z;have al:w.heap.size<w3.heap.size:=u.lt;have L:=z;clear z D x0 x1 x2 x3 x4;generalize w3.alloc (.map #[] 0)=W4 at *
     go_loopw [110] (λx wr=>∃k:Nat,k<=C/\x= .int .i64 k/\Below w.heap.size w wr/\Below w3.heap.size w3 wr/\XA wr w3.heap.size k (cl.ops.take k).reverse) (λx _=>C - (intOf x).toNat)
     case atStart=>exact⟨0,Qk,rfl,l,L,by simpa using a4⟩
     case round=>
      clear a4 l L ak;obtain⟨q,hq,rfl,hb,H,K⟩:=hrel;have hB:=u.below H al;obtain⟨x0,x1,x2,x3,x4⟩:=hB.five;rcases JX q C with hql|hql
      ·obtain⟨b3,o3,y,ar,o,hy,y0,y1⟩:=HE.out.elem H hql;subst ar;have HY:Hid (cl.ops[q]? =some y):=JZ hy;have am:Hid (decide (y∈m.rows)=true):=JZ (by rw[iR];exact ai.out y (jC hy));clear hy;go_wp2_with fail;clear o x0 x1 x2 x3 x4;refine(Vz _ m.rows y _ (HR.out.below hb) O.out (by have:=N.out;omega)).mono ?_;rw[am.out];rintro _ w5 ⟨rfl,l⟩;generalize posR m.rows y=ba;have E:=K.below l (Zyw K);have U:=Za hb l hb.size;have G:=Za H l H.size;clear hb l H K hB;have an:=E.look y y0 y1;have a5:decide (y∈(cl.ops.take q).reverse)=false:=by
        rw[vM,dF];intro b1;obtain⟨t,au,a9⟩:=bU b1;rw[kN]at au;rw[List.getElem_take]at a9;obtain⟨av,aw⟩:=JO.1 HY.out;have ao:=ah.out;have:=(vS.1 ao);have:=iw.1 this t q Qk av Qk;exact this (by rw[a9];exact aw.symm)
       rw[a5]at an;obtain⟨w7,b9,M,a0⟩:=E.put Qk y y0 y1;have ap:=U.grown a0 U.size (λx hx=>by injection hx with hx;omega);have a6:=G.grown a0 (by have:=G.size;omega) (λx hx=>by injection hx with hx;omega);have aq:Hid (XA w7 w3.heap.size (q+1) (cl.ops.take (q+1)).reverse):=JZ (by rw[jP,HY.out];simpa using M);clear E M a0 a5 U G;go_wp2;go_roundw
       case rel=>exact⟨q+1,Qk,by go_num,ap,a6,aq.out⟩
       case measure=>exact Qn
      ·obtain rfl:C=q:=Qk
       clear K;go_wp2;go_roundw
       case rel=>exact⟨k+1,Qk,by go_num,hb,hB⟩
       case measure=>exact Qn
    ·obtain rfl:n'=k:=Qk
     go_wp2;clear x0 x1 x2 x3 x4;generalize wr=wo at *
     go_loopw [135] (λx wr=>∃k:Nat,k<=g/\x= .int .i64 k/\Below w.heap.size w wr/\Bk wr w.heap.size 26 [.int .i64 F,.slice A n c,.int .i64 P,.slice A' n' c',.slice I g J]) (λx _=>g - (intOf x).toNat)
     case atStart=>exact⟨0,Qk,rfl,hb,hB⟩
     case round=>
      clear hb hB;obtain⟨k,hk,rfl,hb,hB⟩:=hrel;obtain⟨x0,x1,x2,x3,x4⟩:=hB.five;rcases JX k g with hkl|hkl
      ·obtain⟨ct,a1⟩:∃ct,m.cuts[k]? =some ct:=⟨m.cuts[k]'(by rw[<-ae.out];exact hkl),JQ _⟩;obtain⟨b,X,A1,B,c1,hA,a2,e0,e1,hD⟩:=HT.out.elem hb a1;subst hA;have V:Hid (Zqn m.rows ct):=JZ (r.out.cut ct (jC a1));have HD:=JZ hD.ints;clear hD a1;obtain⟨W2,ax,aa,f⟩:=Zfh wr (.slice A1 B c1) (.int .i64 ct.dv);have i:=Za hb f hb.size;have s:=hB.later f;have R:=JZ (HD.out.below f);obtain⟨S,T,ay,az,b0⟩:=s.five;obtain⟨k0,k1,_,_⟩:=aa.two;go_wp2_with fail;clear e0 e1 x0 x1 x2 x3 x4 S T ay az b0 k0 k1 hb f hB HD ax aa;refine(Zqo _ m.rows A1 B c1 ct _ (HR.out.below i) R.out V.out O.out (by have:=N.out;omega) (by
        have h1:=ZZ (V.out.1.imp fun{a b} hab=>Qk) V.out.2.1;have:=N.out;omega)).mono ?_
       rintro _ w3 ⟨rfl,p⟩;have D:=Za i p i.size;have u:=s.later p;clear i p s;go_wp2;go_roundw
       case rel=>exact⟨k+1,Qk,by go_num,D,u⟩
       case measure=>exact Qn
      ·obtain rfl:g=k:=Qk
       go_wp2;go_ret;exact⟨rfl,hb⟩
end
def u32_or{a b:Nat}(ha:a<4294967296)(hb:b<4294967296):bits .or .u32 (a:Int) (b:Int)=((a ||| b:Nat):Int):=by
 have c:(BitVec.ofInt 32 (a:Int)||| BitVec.ofInt 32 (b:Int)).toNat=a ||| b:=by
  rw[BitVec.toNat_or,kP,kP];have e1:((a:Int)% ((2^32:Nat):Int)).toNat=a:=Qk
  have e2:((b:Int)% ((2^32:Nat):Int)).toNat=b:=Qk
  rw[e1,e2]
 show IntKind.u32.wrap ((BitVec.ofInt 32 (a:Int)||| BitVec.ofInt 32 (b:Int)).toNat:Nat)=_;rw[c];have d:a ||| b<2^32:=iW ha hb;rw[IntKind.wrap_u32];omega
def u32_and{a b:Nat}(ha:a<4294967296)(hb:b<4294967296):bits .and .u32 (a:Int) (b:Int)=((a &&& b:Nat):Int):=by
 have c:(BitVec.ofInt 32 (a:Int) &&& BitVec.ofInt 32 (b:Int)).toNat=a &&& b:=by
  rw[dE,kP,kP];have e1:((a:Int)% ((2^32:Nat):Int)).toNat=a:=Qk
  have e2:((b:Int)% ((2^32:Nat):Int)).toNat=b:=Qk
  rw[e1,e2]
 show IntKind.u32.wrap ((BitVec.ofInt 32 (a:Int) &&& BitVec.ofInt 32 (b:Int)).toNat:Nat)=_;rw[c];have d:a &&& b<2^32:=Nat.and_lt_two_pow a hb;rw[IntKind.wrap_u32];omega
namespace Pl
def iL(l:List Nat):List Int:=l.map λ(r:Nat)=>(r:Int)
def zeroDc:Dc:=⟨0,0,[],0⟩
end Pl
def DcR(w:World)(x:Dc)(u:List Value):Prop:=∃A n c,u=[.int .i64 (x.idx:Int),.int .u32 (x.mask:Int),.slice A n c,.int .i64 x.sur]/\YF w (.slice A n c) (iL x.rows)
def DcsM:World->Value->List Dc->Prop:=RdM DcR 80 4
def DcsO:Nat->World->Value->List Dc->Prop:=RdO DcR 80 4
def DcR.below{w w':World}{x:Dc}{u:List Value}(h:DcR w x u)(hb:Below w.heap.size w w'):DcR w' x u:=by
 obtain⟨A,n,c,h1,h2⟩:=h;exact⟨A,n,c,h1,h2.below hb⟩
def DcR.but{w w':World}{e:TypeId}{x:Dc}{u:List Value}(h:DcR w x u)(hk:Zf e w w')(h1:3≠e):DcR w' x u:=by
 obtain⟨A,n,c,g1,g2⟩:=h;exact⟨A,n,c,g1,g2.but hk h1⟩
def DcsM.below{w w':World}{v:Value}{l:List Dc}(h:DcsM w v l)(hb:Below w.heap.size w w'):DcsM w' v l:=RdM.below h hb λ_ _ h=>h.below hb
def DcsO.below{base:Nat}{w w':World}{v:Value}{l:List Dc}(h:DcsO base w v l)(hb:Below w.heap.size w w'):DcsO base w' v l:=RdO.below h hb λ_ _ h=>h.below hb
def DcsM.elem{w wr:World}{A:Option Addr}{n c:Nat}{l:List Dc}(h:DcsM w (.slice A n c) l)(hb:Below w.heap.size w wr){k:Nat}{x:Dc}(hx:l[k]? =some x):
 ∃b off A1 n1 c1,A=some ⟨b,off,none⟩/\b<w.heap.size/\(wr.cell? ⟨b,off+k*4,none⟩=some (.int .i64 (x.idx:Int))/\wr.cell? ⟨b,off+k*4+1,none⟩=some (.int .u32 (x.mask:Int))/\wr.cell? ⟨b,off+k*4+2,none⟩=some (.slice A1 n1 c1)/\wr.cell? ⟨b,off+k*4+3,none⟩=some (.int .i64 x.sur))/\YF wr (.slice A1 n1 c1) (iL x.rows):=by
 obtain⟨b,off,u,hA,a,⟨A1,n1,c1,rfl,hD⟩,hl,hc⟩:=RdM.elem h hx;exact⟨b,off,A1,n1,c1,hA,a,⟨Zi hb (hc 0 _ rfl),Zi hb (hc 1 _ rfl),Zi hb (hc 2 _ rfl),Zi hb (hc 3 _ rfl)⟩,hD.below hb⟩
def info_dcol:(prog.info? 80).map (λi=>(i.zero,i.size,i.bytes))=some (some (.agg #[.int .i64 0,.int .u32 0,.slice none 0 0,.int .i64 0]),4,48):=Qm
def zdc(n:Nat):Array Value:=madeCells (Value.cells (.agg #[.int .i64 0,.int .u32 0,.slice none 0 0,.int .i64 0])) (n*4)
def Yse{n k j:Nat}(hk:k<n)(hj:j<4):(zdc n)[k*4+j]? =([.int .i64 0,.int .u32 0,.slice none 0 0,.int .i64 0]:List Value)[j]? :=by
 have a:k*4+j<n*4:=Qk
 have hm:(k*4+j)%4=j:=Qk
 unfold zdc madeCells;simp[a,Value.cells,hm]
 match j,hj with
 |0,_=>rfl
 |1,_=>rfl
 |2,_=>rfl
 |3,_=>rfl
def DcsO.zeros(w:World)(n:Nat)(hn:n<=maxLen):DcsO w.heap.size (w.alloc (.cells (zdc n) 80)) (.slice (some ⟨w.heap.size,0,none⟩) n n) (List.replicate n zeroDc):=by
 have a:(zdc n).size=n*4:=eF _ _;refine⟨(zdc n).toList,⟨by simp[a],.inr ⟨w.heap.size,n,zdc n,by simp,JY _,vo w _,by simp,hn,a,?_⟩⟩,λk f hf=>?_⟩
 ·rw[kC (by simp[a])]
 ·rw[kT]at hf;split at hf
  ·rename_i hk
   injection hf with hf;subst hf;refine⟨[.int .i64 0,.int .u32 0,.slice none 0 0,.int .i64 0],⟨none,0,0,rfl,YF.nil _ _ _ (iI _)⟩,rfl,λj y hj=>?_⟩;have b:j<4:=(by have:=(JO.1 hj).1;simpa using this);have:=Yse hk b;rw[Array.getElem?_toList,this];exact hj
  ·cases hf
def Yjm(n:Nat)(hn:n<=1099511627776)(w:World):
 (Instr.makeSlice 69 (.int .i64 (n:Int)) (.int .i64 (n:Int))).run prog w= .ok (.slice (some ⟨w.heap.size,0,none⟩) n n) (w.alloc (.cells (zdc n) 80)):=by
 obtain⟨i0,hi,a,b,c⟩:=kL info_dcol;have hb:(i0.bytes:Int)* (n:Int)<=281474976710656:=by rw[c];omega
 have hr:=BN (P:=prog) w 69 80 i0 _ underlying69 hi a .i64 .i64 n n Qk Qk hb Qk;simp only[JP,b]at hr;exact hr
def DcsO.set_{base:Nat}{w:World}{g n c:Nat}{l:List Dc}(h:DcsO base w (.slice (some ⟨g,0,none⟩) n c) l){k:Nat}(hk:k<l.length){A:Option Addr}{n1 c1:Nat}{x:Dc}(hx:YF w (.slice A n1 c1) (iL x.rows)):
 DcsO base ((((w.setCell ⟨g,k*4,none⟩ (.int .i64 (x.idx:Int))).setCell ⟨g,k*4+1,none⟩ (.int .u32 (x.mask:Int))).setCell ⟨g,k*4+2,none⟩ (.slice A n1 c1)).setCell ⟨g,k*4+3,none⟩ (.int .i64 x.sur)) (.slice (some ⟨g,0,none⟩) n c) (l.set k x)/\
 Zf 80 w ((((w.setCell ⟨g,k*4,none⟩ (.int .i64 (x.idx:Int))).setCell ⟨g,k*4+1,none⟩ (.int .u32 (x.mask:Int))).setCell ⟨g,k*4+2,none⟩ (.slice A n1 c1)).setCell ⟨g,k*4+3,none⟩ (.int .i64 x.sur)):=by
 obtain⟨cs,h1,h2⟩:=h;have hn:n=l.length:=(VC.of_own h1).len;subst hn;have hl:=h1.1;have o1:=Xh h1 (k*4) (.int .i64 (x.idx:Int)) Qk;have o2:=Xh o1 (k*4+1) (.int .u32 (x.mask:Int)) (by simp;omega);have o3:=Xh o2 (k*4+2) (.slice A n1 c1) (by simp;omega);have o4:=Xh o3 (k*4+3) (.int .i64 x.sur) (by simp;omega);obtain⟨_,b0,_⟩:=Z0 h1;obtain⟨_,b1,_⟩:=Z0 o1;obtain⟨_,b2,_⟩:=Z0 o2;obtain⟨_,b3,_⟩:=Z0 o3;have kp:=(((Zf.setCell b0 (k*4) (.int .i64 (x.idx:Int))).trans (Zf.setCell b1 (k*4+1) (.int .u32 (x.mask:Int)))).trans (Zf.setCell b2 (k*4+2) (.slice A n1 c1))).trans (Zf.setCell b3 (k*4+3) (.int .i64 x.sur));refine⟨⟨_,by rw[jd];exact o4,λj y hy=>?_⟩,kp⟩;by_cases b:k=j
 ·subst b;rw[jM hk]at hy;injection hy with hy;subst hy;refine⟨_,⟨A,n1,c1,rfl,hx.but kp Ql⟩,rfl,λi z hi=>?_⟩;have a:i<4:=by have:=(JO.1 hi).1;simpa using this
  match i,a,hi with
  |0,_,hi=>rw[show k*4+0=k*4 from rfl,jE Qk,jE Qk,jE Qk,jM Qk];exact hi
  |1,_,hi=>rw[jE Qk,jE Qk,jM (by simp;omega)];exact hi
  |2,_,hi=>rw[jE Qk,jM (by simp;omega)];exact hi
  |3,_,hi=>rw[jM (by simp;omega)];exact hi
 ·rw[jE b]at hy;obtain⟨u,a1,a2,a3⟩:=h2 j y hy;refine⟨u,a1.but kp Ql,a2,λi z hi=>?_⟩;have a:i<4:=by have:=(JO.1 hi).1;omega
  rw[jE Qk,jE Qk,jE Qk,jE Qk];exact a3 i z hi
structure BlX (B g:Nat) (w w':World):Prop where
 os:w'.os=w.os
 tape:w'.tape=w.tape
 output:w'.output=w.output
 size:w.heap.size<=w'.heap.size
 block:∀k,k<B->k≠g->w'.heap[k]? =w.heap[k]?
def BlX.refl(B g:Nat)(w:World):BlX B g w w:=⟨rfl,rfl,rfl,JY _,λ_ _ _=>rfl⟩
def BlX.of_below{B g:Nat}{w w':World}(h:Below B w w'):BlX B g w w':=⟨h.os,h.tape,h.output,h.size,λk hk _=>h.block k hk⟩
def BlX.trans{B g:Nat}{a b c:World}(h:BlX B g a b)(k:BlX B g b c):BlX B g a c:=⟨k.os.trans h.os,k.tape.trans h.tape,k.output.trans h.output,JW h.size k.size,λi hi hn=>(k.block i hi hn).trans (h.block i hi hn)⟩
def BlX.mono{B B' g:Nat}{w w':World}(h:BlX B g w w')(hB:B'<=B):BlX B' g w w':=⟨h.os,h.tape,h.output,h.size,λk hk hn=>h.block k (je hk hB) hn⟩
def BlX.below{B B' g:Nat}{w w':World}(h:BlX B g w w')(hB:B'<=B)(hg:B'<=g):Below B' w w':=⟨h.os,h.tape,h.output,h.size,λk hk=>h.block k (je hk hB) Qk⟩
def BlX.then{B g:Nat}{a b c:World}(h:BlX B g a b)(k:Below b.heap.size b c)(hB:B<=b.heap.size):BlX B g a c:=h.trans (BlX.of_below (k.mono hB))
def BlX.setCell{B g:Nat}{w w':World}(h:BlX B g w w')(i:Nat)(u:Value):BlX B g w (w'.setCell ⟨g,i,none⟩ u):=by
 have hb:Below g w' (w'.setCell ⟨g,i,none⟩ u):=(JR _ _).setCell (p:=⟨g,i,none⟩) (JY _) u;exact⟨hb.os.trans h.os,hb.tape.trans h.tape,hb.output.trans h.output,JW h.size hb.size,λk hk hn=>(vH w' _ _ _ hn).trans (h.block k hk hn)⟩
def BlX.bk{B g b:Nat}{w w':World}{t:TypeId}{cs:List Value}(h:BlX B g w w')(hb:Bk w b t cs)(hB:b<B)(hn:b≠g):Bk w' b t cs:=(h.block b hB hn).trans hb
def VC.blx{w w':World}{t:TypeId}{s n g:Nat}{v:Value}{xs:List Value}(h:VC w t s v n xs)(hx:BlX w.heap.size g w w')(hg:∀cs fz,w.heap[g]? ≠some (.cells cs t fz)):VC w' t s v n xs:=by
 obtain⟨A,c,h1,h2,h3,h4,h5⟩:=h;refine⟨A,c,h1,h2,h3,h4,λhp=>?_⟩;obtain⟨b,d,cs,fz,hA,hc,a⟩:=h5 hp;exact⟨b,d,cs,fz,hA,(hx.block b (ZU hc) (λe=>hg cs fz (e▸hc))).trans hc,a⟩
def Bk.not_type{w:World}{g:Nat}{t t':TypeId}{cs:List Value}(h:Bk w g t cs)(hne:t≠t'):∀cs' fz,w.heap[g]? ≠some (.cells cs' t' fz):=λcs' fz e=>by
 unfold Bk at h
 rw[h]at e
 injection e with e
 injection e with _ e2 _
 exact hne e2
def YF.blx{w w':World}{g:Nat}{t:TypeId}{v:Value}{zs cs:List _}(h:YF w v zs)(hx:BlX w.heap.size g w w')(hg:Bk w g t cs)(ht:t≠3):YF w' v zs:=⟨h.1.blx hx (hg.not_type ht),h.2⟩
def Bk.fourV{w:World}{g:Nat}{t:TypeId}{a b c d:Value}(h:Bk w g t [a,b,c,d]):(w.cell? ⟨g,0,none⟩=some a/\w.cell? ⟨g,1,none⟩=some b/\w.cell? ⟨g,2,none⟩=some c/\w.cell? ⟨g,3,none⟩=some d)/\(w.frozen? ⟨g,0,none⟩=false/\w.frozen? ⟨g,1,none⟩=false/\w.frozen? ⟨g,2,none⟩=false/\w.frozen? ⟨g,3,none⟩=false):=
 ⟨⟨h.cellAt 0 rfl,h.cellAt 1 rfl,h.cellAt 2 rfl,h.cellAt 3 rfl⟩,h.frozen 0,h.frozen 1,h.frozen 2,h.frozen 3⟩
def DcsO.at4{base:Nat}{w:World}{g n c:Nat}{l:List Dc}(h:DcsO base w (.slice (some ⟨g,0,none⟩) n c) l){k:Nat}{x:Dc}(hx:l[k]? =some x):
 ∃A1 n1 c1,(w.cell? ⟨g,k*4,none⟩=some (.int .i64 (x.idx:Int))/\w.cell? ⟨g,k*4+1,none⟩=some (.int .u32 (x.mask:Int))/\w.cell? ⟨g,k*4+2,none⟩=some (.slice A1 n1 c1)/\w.cell? ⟨g,k*4+3,none⟩=some (.int .i64 x.sur))/\(w.frozen? ⟨g,k*4,none⟩=false/\w.frozen? ⟨g,k*4+1,none⟩=false/\w.frozen? ⟨g,k*4+2,none⟩=false/\w.frozen? ⟨g,k*4+3,none⟩=false)/\YF w (.slice A1 n1 c1) (iL x.rows)/\base<=g/\g<w.heap.size:=by
 obtain⟨cs,h1,h2⟩:=h;have hn:n=l.length:=(VC.of_own h1).len;subst hn;obtain⟨u,⟨A1,n1,c1,rfl,hI⟩,_,hc⟩:=h2 k x hx;obtain⟨_,hb,a⟩:=Z0 h1;have q0:=ZN h1 (hc 0 _ rfl);have q1:=ZN h1 (hc 1 _ rfl);have q2:=ZN h1 (hc 2 _ rfl);have q3:=ZN h1 (hc 3 _ rfl);exact⟨A1,n1,c1,⟨q0.1,q1.1,q2.1,q3.1⟩,⟨q0.2,q1.2,q2.2,q3.2⟩,hI,a,ZU hb⟩
namespace Pl
def Yeq(m:Ms)(k:Nat):List Dc:=(dcs m).take k++List.replicate (m.cols.length - k) zeroDc
def Yer(m:Ms):Yeq m 0=List.replicate m.cols.length zeroDc:=by simp[Yeq]
def Yjp{m:Ms}{n:Nat}(h:n=m.cols.length):Yeq m n=dcs m:=by
 subst h;simp[Yeq,<-YD]
def Yjq{m:Ms}{k:Nat}(h:k<=m.cols.length):(Yeq m k).length=m.cols.length:=by
 simp[Yeq,YD];omega
def Yjr{m:Ms}{k:Nat}{c:Cl}(h:m.cols[k]? =some c):(Yeq m k).set k (dcol m k c)=Yeq m (k+1):=by
 have hk:=(JO.1 h).1;have hl:((dcs m).take k).length=k:=by rw[kN,YD];omega
 unfold Yeq;rw[List.set_append_right _ _ Qk,hl,eT,jP,Zbh h,show m.cols.length - k=(m.cols.length - (k+1))+1 by omega,List.replicate_succ];simp
end Pl
def Ylv{M p:Nat}(hM:M<64)(hp:p<6):bits .or .u32 (M:Int) (2^p%4294967296)=((M ||| 2^p:Nat):Int)/\M ||| 2^p<64:=by
 have h1:2^p<2^6:=vK Ql hp;have h2:((2:Int)^p%4294967296)=((2^p:Nat):Int):=by
  rw[Yo];generalize 2^p=q at *;omega
 rw[h2];exact⟨u32_or Qk Qk,iW (n:=6) hM h1⟩
def Zca(v:Value)(m:Ms)(w:World)(h:MsM w v m)(ok:VM m):
 Calls prog 20 #[v] w λe w'=>∃v',e= .returned v'/\DcsO w.heap.size w' v' (dcs m)/\Below w.heap.size w w':=by
 obtain⟨A,n,c,A',n',c',aq,ar,au,rfl,hR,hC,hT⟩:=h;obtain⟨r1,r2,r3⟩:=hR.ints.lenC;obtain⟨s1,s2,s3⟩:=RdM.len hC;have HR:=JZ hR.ints;have HC:=JZ hC;have ay:=JZ r1;have o:=JZ s1;have r:=JZ ok;have a6:=JZ ok.asc;obtain⟨W,hW,hX,H⟩:=Zbj w (.int .i64 m.fl) (.slice A n c) (.int .i64 m.pen) (.slice A' n' c') (.slice aq ar au);obtain⟨x0,x1,x2,x3,x4⟩:=hX.five;have p0:=ok.pen0;have p1:=ok.pen1;have n2:n'<=6:=by have:=ok.ncol;omega
 have az:=Yjm n' Qk W;have a7:=DcsO.zeros W n' (by unfold maxLen;omega);have X:=Ze W (.cells (zdc n') 80);have Y:=hX.later X;obtain⟨y0,y1,y2,y3,y4⟩:=Y.five;clear hR hC hT r1 s1 ok;generalize m.fl=F at *;generalize hP:m.pen=P at *;have HP:=JZ hP;clear hP;go_enter func20,ntmps20;go_wp2;clear hW az;have O:=Za H X H.size;have Z:=RdO.mono a7 H.size;have bj:W.heap.size< (W.alloc (.cells (zdc n') 80)).heap.size:=by simp
 have bl:=hX.lt;clear x0 x1 x2 x3 x4 y0 y1 y2 y3 y4 H hX a7 X;generalize W.alloc (.cells (zdc n') 80)=W1 at *;generalize W.heap.size=g at *
 go_loopw [18] (λx wr=>∃k:Nat,k<=n'/\x= .int .i64 k/\Below w.heap.size w wr/\Bk wr w.heap.size 26 [.int .i64 F,.slice A n c,.int .i64 P,.slice A' n' c',.slice aq ar au]/\Hid (DcsO w.heap.size wr (.slice (some ⟨g,0,none⟩) n' n') (Yeq m k))) (λx _=>n' - (intOf x).toNat)
 case atStart=>exact⟨0,Qk,rfl,O,Y,JZ (by rw[Yer,<-o.out];exact Z)⟩
 case round=>
  clear O Y Z;obtain⟨k,hk,rfl,hb,hB,HO⟩:=hrel;obtain⟨x0,x1,x2,x3,x4⟩:=hB.five;rcases JX k n' with hkl|hkl
  ·obtain⟨cl,I⟩:∃cl,m.cols[k]? =some cl:=⟨m.cols[k]'(by rw[<-o.out];exact hkl),JQ _⟩;obtain⟨b,bq,sb,A1,J,c1,hA,br,e0,e1,e2,hD⟩:=HC.out.elem hb I;subst hA;have b0:=JZ I;have i:=jC I;obtain⟨g0,g1⟩:=r.out.cost cl i;have a8:=JZ (r.out.opl i);have b1:=JZ (r.out.sub cl i);have HD:=JZ hD;have bm:(k:Int)<n':=Qk;generalize ax:cl.cost=co at *;have b2:=JZ ax;clear ax hD I i;go_wp2_with fail;have s:=Ze wr (.cells #[.string sb,.slice A1 J c1,.int .i64 co] 64);have R:(wr.alloc (.cells #[.string sb,.slice A1 J c1,.int .i64 co] 64)).heap.size=wr.heap.size+1:=(by simp);clear e0 e1 e2 x0 x1 x2 x3 x4;generalize wr.alloc (.cells #[.string sb,.slice A1 J c1,.int .i64 co] 64)=W5 at *;have D:=Bk.new W5 80 [.int .i64 k,.int .u32 0,.slice none 0 0,.int .i64 co];have S:=Ze W5 (.cells #[.int .i64 k,.int .u32 0,.slice none 0 0,.int .i64 co] 80);have t:=Za s S s.size;have a0:=Za hb t hb.size;have a9:=JZ (HD.out.below t);rw[R]at D;clear s S R HD;have e:(#[.int .i64 k,.int .u32 0,.slice none 0 0,.int .i64 co]:Array Value)=[.int .i64 k,.int .u32 0,.slice none 0 0,.int .i64 co].toArray:=rfl;rw[<-e]at D;clear e;generalize W5.alloc (.cells #[.int .i64 k,.int .u32 0,.slice none 0 0,.int .i64 co] 80)=W6 at *;refine(VR sb A1 J c1 cl.dut _ a9.out (by have:=a8.out;unfold Cl.ops at this;omega)).mono ?_;rintro _ w7 ⟨v3,rfl,e3,L⟩;have E:=D.later L;have aa:=Za t L t.size;have b4:=Za a0 L a0.size;have HE:Hid (YF w7 v3 cl.ops):=JZ e3.typed;obtain⟨A3,q,c3,rfl⟩:=e3.sliceN;obtain⟨l1,l2,l3⟩:=HE.out.ints.lenC;have ab:=JZ l1;have bn:q<=6:=(by have:=a8.out;omega);have b5:=JZ E;have ac:=JZ (hB.later aa);have bo:w.heap.size<wr.heap.size:=hB.lt;have bp:wr.heap.size+1<w7.heap.size:=E.lt;clear t a0 L D e3 l1 hb hB a9;go_wp2;generalize wr=wo at *
   go_loopw [31] (λx wr=>∃(j M:Nat) (z:Int) (sv:Value),j<=q/\M<64/\co - 30*j<=z/\z<=co/\x= .int .i64 j/\BlX w7.heap.size (wo.heap.size+1) w7 wr/\Bk wr (wo.heap.size+1) 80 [.int .i64 k,.int .u32 (M:Int),sv,.int .i64 z]/\Zt w7.heap.size wr sv (iL ((cl.ops.take j).map (posR m.rows)))/\Hid (M=WO ((cl.ops.take j).map (posR m.rows))/\z=co - P*j)) (λx _=>q - (intOf x).toNat)
   case atStart=>exact⟨0,0,co,.slice none 0 0,Qk,Qk,Qk,Qk,rfl,BlX.refl _ _ _,E,by simpa[iL]using Zt.nil _ _,JZ ⟨rfl,by simp⟩⟩
   case round=>
    clear E;obtain⟨j,M,z,sv,hj,hM,Z,bs,rfl,hx,hk,hI,HV⟩:=hrel;have hB:=hx.bk ac.out Qk Qk;have hb:=b4.trans (hx.below (B':=w.heap.size) Qk Qk);obtain⟨x0,x1,x2,x3,x4⟩:=hB.five;obtain⟨⟨k0,k1,k2,k3⟩,f0,f1,f2,f3⟩:=hk.fourV;have a1:=(HE.out.blx hx b5.out Ql).ints;rcases JX j q with hjl|hjl
    ·obtain⟨b3,o3,y,bf,a5,hy,y0,y1⟩:=a1.elem (JR _ _) hjl;subst bf;have HY:=JZ hy;have ad:=b1.out y (jC hy);have ae:=U8 a6.out ad;clear hy a1;go_wp2_with fail;clear a5 x0 x1 x2 x3 x4 k0 k1 k2 k3 f0 f1 f2 f3;refine(Vz _ m.rows y _ (HR.out.below hb) a6.out (by have:=r.out.row1;omega)).mono ?_;rintro _ w8 ⟨rfl,N⟩;have a2:=hx.then N hx.size;have l:=hk.later N;have af:=hI.below N;have ag:Hid ((cl.ops.take (j+1)).map (posR m.rows)=(cl.ops.take j).map (posR m.rows)++[posR m.rows y]):=JZ (by rw[jP,HY.out];simp);generalize hp:posR m.rows y=p at *;have b6:p<6:=(by have:=ay.out;have:=r.out.row1;omega);clear hx hk hI hb N hB hp ad ae;generalize decide (y∈m.rows)=bw;obtain⟨⟨k0,k1,k2,k3⟩,f0,f1,f2,f3⟩:=l.fourV;obtain⟨bt,bg⟩:=Ylv hM b6;have b7:Hid (M ||| 2^p=WO ((cl.ops.take (j+1)).map (posR m.rows))):=JZ (by rw[ag.out,Zyb,HV.out.1]);generalize M ||| 2^p=M' at *;have C0:=Zm k1;have b8:=Zc w8
     go_upto_region 10 with(fail)
     clear k0 k1 k2 k3 f0 f1 f2 f3;refine Zj 6 [0,1,2,3,4,5,6] Qm Qm ?_;refine Qb ?_
     have F0:=l.frozen 1;have F1:=l.cellAt 1 rfl;refine Qh ?_;refine Zl ?_;have a3:=(a2.setCell 1 (.int .u32 (M':Int))).then (Zc _) (a2.setCell 1 (.int .u32 (M':Int))).size;have G:=(l.set_ 1 (.int .u32 (M':Int))).later (Zc _);have ah:=(af.but (Zf.setCell l 1 (.int .u32 (M':Int))) Ql).below (Zc _);clear a2 l af C0 b8 F0 F1;simp only[jO,jL]at G;generalize(w8.setCell ⟨wo.heap.size+1,1,none⟩ (.int .u32 (M':Int))).drew=W9 at *;obtain⟨⟨k0,k1,k2,k3⟩,f0,f1,f2,f3⟩:=G.fourV;have b9:=JZ ah;have ai:(iL ((cl.ops.take j).map (posR m.rows))).length+1<=1099511627776:=(by simp only[iL,BD];have:=vT j cl.ops;omega);have T:=a3.size;have ba: -9223372036854775808<=(p:Int):=Qk;have bb:(p:Int)<=9223372036854775807:=Qk;have bc:Hid (iL ((cl.ops.take (j+1)).map (posR m.rows))=iL ((cl.ops.take j).map (posR m.rows))++[(p:Int)]):=JZ (by rw[ag.out];simp[iL]);clear ah;go_wp2_with(at_builtin;refine Yb rfl (.tmp 49) (.tmp 51) rfl W9 w7.heap.size sv (iL ((cl.ops.take j).map (posR m.rows))) rfl b9.out (p:Int) rfl ba bb ai T ?_);intro v' w4 f av aw _ _;obtain⟨A4,n4,c4,rfl⟩:=f.sliceN;have u:=a3.trans (BlX.of_below aw);have a:=av.bk G Ql;clear k0 k1 k2 k3 f0 f1 f2 f3 a3 G av aw T;obtain⟨⟨k0,k1,k2,k3⟩,f0,f1,f2,f3⟩:=a.fourV;have aj:=u.bk ac.out Qk Qk;obtain⟨x0,x1,x2,x3,x4⟩:=aj.five;have ak:=(u.setCell 2 (.slice A4 n4 c4)).setCell 3 (.int .i64 (z - P));have U:=(a.set_ 2 (.slice A4 n4 c4)).set_ 3 (.int .i64 (z - P));have V:=(f.but (Zf.setCell a 2 (.slice A4 n4 c4)) Ql).but (Zf.setCell (a.set_ 2 (.slice A4 n4 c4)) 3 (.int .i64 (z - P))) Ql;simp only[jO,jL]at U;have bd:Hid (z - P=co - P* ((j+1:Nat):Int)):=JZ (by rw[HV.out.2];push_cast;rw[gI];omega);have al:=JZ V;clear a u f V;go_wp2;clear k0 k1 k2 k3 f0 f1 f2 f3 x0 x1 x2 x3 x4;go_roundw
     case rel=>exact⟨j+1,M',z - P,_,Qk,bg,Qk,Qk,by go_num,ak,U,by have:=al.out;rw[<-List.map_take]at this;rw[bc.out];exact this,JZ ⟨b7.out,bd.out⟩⟩
     case measure=>exact Qn
    ·obtain rfl:q=j:=Qk
     have HX:Hid (M=(dcol m k cl).mask/\z=(dcol m k cl).sur/\(cl.ops.take q).map (posR m.rows)=(dcol m k cl).rows):=JZ (by
      have h1:=HV.out.1;have h2:=HV.out.2;rw[YK ab.out]at h1⊢;refine⟨h1,?_,rfl⟩;show z=cl.cost - m.pen*cl.ops.length;rw[h2,b2.out,HP.out,ab.out])
     have a4:=HO.out.below (aa.trans (hx.below (B':=wo.heap.size) Qk Qk));have am:k< (Yeq m k).length:=(by rw[Yjq (by rw[<-o.out];omega),<-o.out];omega);obtain⟨A5,n5,c5,⟨q0,q1,q2,q3⟩,⟨r0,r1,bu,bv⟩,_,K,bi⟩:=a4.at4 (JQ am);obtain⟨A6,n6,c6,rfl⟩:=hI.sliceN;have an:YF wr (.slice A6 n6 c6) (iL (dcol m k cl).rows):=(by rw[<-HX.out.2.2];exact hI.typed);have d:=a4.set_ am (x:=dcol m k cl) an;rw[Yjr b0.out]at d;have B:=d.2.bk hB Ql;have C:=(((hb.setCell (p:=⟨g,k*4,none⟩) K (.int .i64 ((dcol m k cl).idx:Int))).setCell (p:=⟨g,k*4+1,none⟩) K (.int .u32 ((dcol m k cl).mask:Int))).setCell (p:=⟨g,k*4+2,none⟩) K (.slice A6 n6 c6)).setCell (p:=⟨g,k*4+3,none⟩) K (.int .i64 (dcol m k cl).sur);rw[<-HX.out.1,<-HX.out.2.1]at d B C;have ao:=JZ d.1;have ap:=JZ B;have be:=JZ C;clear d B C a4 an hI a1;go_wp2;go_roundw
     case rel=>exact⟨k+1,Qk,by go_num,be.out,ap.out,ao⟩
     case measure=>exact Qn
  ·obtain rfl:n'=k:=Qk
   go_wp2;go_ret;exact⟨_,rfl,by have:=HO.out;rw[Yjp o.out]at this;exact this,hb⟩
namespace Pl
def Ms.base(m:Ms):Int:=m.pen*m.rows.length
def Zfi(m:Ms)(s:List Int):Int:=if We (dcs m) s=0 then m.base+YZ (dcs m) s else 0
def Yjs{L:List Dc}{s:List Int}(h:¬InR L.length s):We L s=5:=by unfold We;rw[jA h]
def Yjt{L:List Dc}{s:List Int}(h:InR L.length s)(h2:¬s.Pairwise (·< ·)):We L s=8:=by unfold We Yso;rw[jB h,jA (by simpa using h2)]
def Yju{L:List Dc}{s:List Int}(h:InR L.length s)(h2:s.Pairwise (·< ·))(h3:¬Dj L s):We L s=7:=by unfold We Yso;rw[jB h,jB (by simpa using h2),jA h3]
def InR.succ{n k:Nat}{s:List Int}{x:Int}(h:InR n (s.take k))(hx:s[k]? =some x)(h0:0<=x)(h1:x<n):InR n (s.take (k+1)):=λi hi=>by
 rcases(UC hx).1 hi with e|e
 ·exact h i e
 ·subst e;exact⟨h0,h1⟩
def Yes{n:Nat}{s:List Int}(h:InR n s)(ha:s.Pairwise (·< ·)):s.length<=n:=by
 have h1:(s.map Int.toNat).Pairwise (·< ·):=gD.2 (ha.imp_of_mem fun{a b} hma hmb hab=>by
  have:=h a hma;have:=h b hmb;omega)
 have:=ZZ (b:=List.range n) (h1.imp fun{a b} hab=>Qk) (λx hx=>by
  obtain⟨i,hi,rfl⟩:=jb.1 hx;have:=h i hi;rw[iT];omega)
 simpa using this
def Yet{L:List Dc}{s:List Int}{k:Nat}{x:Int}(hx:s[k]? =some x):Dj L (s.take (k+1))↔Dj L (s.take k)/\mkI L x &&& orI L (s.take k)=0:=by
 rw[jP,hx];exact Zsh
def Yjv{L:List Dc}{s:List Int}{k:Nat}{x:Int}(hx:s[k]? =some x):orI L (s.take (k+1))=orI L (s.take k)||| mkI L x:=by
 rw[jP,hx];exact Zmm _ _
def Yeu{L:List Dc}{s:List Int}{k:Nat}{x:Int}(hx:s[k]? =some x):YZ L (s.take (k+1))=YZ L (s.take k)+suI L x:=by
 rw[jP,hx,Uv];simp[YZ]
def Dj.take{L:List Dc}{s:List Int}(h:Dj L s)(k:Nat):Dj L (s.take k):=gY (Bh _ _) h
end Pl
def Ypb(m:Ms)(s:List Int)(w:World)(e:Ending)(w':World):Prop:=
 ∃(z:Int) (M:Nat),e= .returned (.tuple #[.int .i64 z,.int .u32 (M:Int),.int .i64 (We (dcs m) s)])/\z=Zfi m s/\Below w.heap.size w w'
def Zdz(v1 v2 v3:Value)(m:Ms)(s:List Int)(w:World)(h:MsM w v1 m)(ok:VM m)(h2:DcsM w v2 (dcs m))(h3:Z6 w v3 s):
 Calls prog 21 #[v1,v2,v3] w (Ypb m s w):=by
 obtain⟨A,n,c,A',n',c',E,G,H,rfl,hR,hC,hT⟩:=h;obtain⟨r1,r2,r3⟩:=hR.ints.lenC;obtain⟨Al,cl,rfl,a8,al⟩:=RdM.shape h2;obtain⟨As,cs,rfl,a9,am⟩:=h3.shape;have HL:=JZ h2;have HS:=JZ h3;have Y:=JZ r1;have O:=JZ ok;obtain⟨L,hL⟩:∃L,L=(dcs m).length:=⟨_,rfl⟩;obtain⟨q,hq⟩:∃q,q=s.length:=⟨_,rfl⟩;rw[<-hL]at HL a8⊢;rw[<-hq]at HS a9⊢;have l:=JZ hL;have p:=JZ hq;have ae:L<=6:=by have:=ok.ncol;rw[YD]at hL;omega
 have af:n<=6:=by have:=ok.row1;omega
 obtain⟨W,hW,hX,U⟩:=Zbj w (.int .i64 m.fl) (.slice A n c) (.int .i64 m.pen) (.slice A' n' c') (.slice E G H);have p0:=ok.pen0;have p1:=ok.pen1;clear hR hC hT r1 ok h2 h3 hL hq;generalize m.fl=F at *;generalize hP:m.pen=P at *;have HP:=JZ hP;clear hP;go_enter func21,ntmps21;go_wp2;clear hW
 go_loopw [6,7,16] (λs6 s7 x wr=>∃k:Nat,k<=q/\s6= .int .i64 0/\s7= .int .u32 0/\x= .int .i64 k/\Below w.heap.size w wr/\Bk wr w.heap.size 26 [.int .i64 F,.slice A n c,.int .i64 P,.slice A' n' c',.slice E G H]/\Hid (InR L (s.take k))) (λ_ _ x _=>q - (intOf x).toNat)
 case atStart=>exact⟨0,Qk,rfl,rfl,rfl,U,hX,JZ (λi hi=>by simp at hi)⟩
 case round=>
  clear U hX;obtain⟨k,hk,rfl,rfl,rfl,hb,hB,HI⟩:=hrel;rcases JX k q with hkl|hkl
  ·obtain⟨b3,o3,y,I,e,hy,y0,y1⟩:=HS.out.elem hb hkl;subst I;have HY:=JZ hy;clear hy;by_cases N:0<=y/\y<L
   ·obtain⟨g0,g1⟩:=N;have Z:=JZ (HI.out.succ HY.out g0 g1);go_wp2;go_roundw
    case rel=>exact⟨k+1,Qk,rfl,rfl,by go_num,hb,hB,Z⟩
    case measure=>exact Qn
   ·have HV:Hid (We (dcs m) s=5):=JZ (Yjs λhh=>N (by have:=hh y (jC HY.out);rw[<-l.out]at this;exact this));have a0:y<0\/(L:Int)<=y:=Qk;clear N;rcases jR y 0 with hlt|hge
    ·go_wp2
     go_ret3
     exact⟨0,0,by rw[HV.out];rfl,by unfold Zfi;rw[HV.out];rfl,hb⟩
    ·have ac:(L:Int)<=y:=Qk;go_wp2
     go_ret3
     exact⟨0,0,by rw[HV.out];rfl,by unfold Zfi;rw[HV.out];rfl,hb⟩
  ·obtain rfl:q=k:=Qk
   have o:Hid (InR (dcs m).length s):=JZ (by have:=HI.out;rw[YK p.out,l.out]at this;exact this);clear HI;go_wp2;generalize wr=wo at *
   go_loopw [6,7,11] (λs6 s7 x wr=>∃k:Nat,1<=k/\k<=q+1/\s6= .int .i64 0/\s7= .int .u32 0/\x= .int .i64 k/\Below w.heap.size w wr/\Bk wr w.heap.size 26 [.int .i64 F,.slice A n c,.int .i64 P,.slice A' n' c',.slice E G H]/\Hid ((s.take k).Pairwise (·< ·))) (λ_ _ x _=>q+1 - (intOf x).toNat)
   case atStart=>exact⟨1,Qk,Qk,rfl,rfl,rfl,hb,hB,JZ (Zya (JY _))⟩
   case round=>
    clear hb hB;obtain⟨k,ao,hk,rfl,rfl,rfl,hb,hB,HT⟩:=hrel;rcases JX k q with hkl|hkl
    ·obtain⟨j,rfl⟩:∃j,k=j+1:=⟨k - 1,Qk⟩;obtain⟨b,ap,y,hA,e,hy,_,_⟩:=HS.out.elem hb hkl;obtain⟨b',ad,y',J,f,V,_,_⟩:=HS.out.elem hb (show j<q by omega);subst hA;injection J with J;injection J with e1 e2 _;subst e1 e2;have HY:=JZ hy;have R:=JZ V;have ag:(j:Int)+1<q:=Qk;have ah:(j:Int)<q:=Qk;have ai:(0:Int)<=(j:Int)+1:=Qk;clear hy V;rcases jR y' y with hlt|hlt
     ·have a1:Hid ((s.take (j+1+1)).Pairwise (·< ·)):=JZ ((Zml R.out HY.out HT.out).2 hlt)
      go_upto_region 10 with(fail)
      have C0:=Zm e;have C1:=Zm f;have g:=Zc wr;clear e f;refine Zj 10 [0,1,2,3,4,5,6,7,8,9] Qm Qm ?_;refine Qb ?_
      refine Zl ?_;have r:=Za hb g hb.size;have a2:=hB.later g;clear C0 C1 hb hB g;go_wp2;go_roundw
      case rel=>exact⟨j+1+1,Qk,Qk,rfl,rfl,by go_num,r,a2,a1⟩
      case measure=>exact Qn
     ·have HV:Hid (We (dcs m) s=8):=JZ (Yjt o.out λhp=>by have:=V3 hp (aT j) R.out HY.out;omega)
      go_upto_region 10 with(fail)
      have C0:=Zm e;have C1:=Zm f;have g:=Zc wr;clear e f;refine Zj 10 [0,1,2,3,4,5,6,7,8,9] Qm Qm ?_;refine Qb ?_
      refine Zl ?_;have r:=Za hb g hb.size;clear C0 C1 hb g;go_wp2
      go_ret3
      exact⟨0,0,by rw[HV.out];rfl,by unfold Zfi;rw[HV.out];rfl,r⟩
    ·have t:Hid (s.Pairwise (·< ·)):=JZ (by have:=HT.out;rw[kC (by rw[<-p.out];omega)]at this;exact this);have aj:q<=6:=(by have:=Yes o.out t.out;have:=l.out;have:=p.out;omega);have u:P*n<=180/\0<=P*n:=by
      have a:=jY p0 (show(0:Int)<=n by omega);have b:=kK p1 (show(n:Int)<=6 by omega) Qk Qk;omega
     have a3:Hid (P*n=m.base):=JZ (by unfold Ms.base;rw[HP.out,Y.out]);obtain⟨aq,ar⟩:=u;obtain⟨x0,x1,x2,x3,x4⟩:=hB.five;clear HT;go_wp2;clear x0 x1 x2 x3 x4;generalize P* (n:Int)=B at *;generalize wr=wo at *
     go_loopw [6,7,53] (λs6 s7 x wr=>∃(k M:Nat) (z:Int),k<=q/\M<64/\ -185* (k:Int)<=z/\z<=180+40* (k:Int)/\x= .int .i64 k/\s6= .int .i64 z/\s7= .int .u32 (M:Int)/\Below w.heap.size w wr/\Hid (Dj (dcs m) (s.take k)/\M=orI (dcs m) (s.take k)/\z=B+YZ (dcs m) (s.take k))) (λ_ _ x _=>q - (intOf x).toNat)
     case atStart=>exact⟨0,0,B,Qk,Qk,Qk,Qk,rfl,rfl,rfl,hb,JZ ⟨by simp[Dj],by simp[orI],by simp[YZ]⟩⟩
     case round=>
      clear hb hB;obtain⟨k,M,z,hk,hM,au,av,rfl,rfl,rfl,hb,HV⟩:=hrel;rcases JX k q with hkl|hkl
      ·obtain⟨b3,o3,y,I,e,hy,_,_⟩:=HS.out.elem hb hkl;subst I;obtain⟨i0,i1⟩:=o.out y (jC hy);have HY:=JZ hy;rw[<-l.out]at i1;have a4:y.toNat<L:=Qk;obtain⟨d,hd⟩:∃d,(dcs m)[y.toNat]? =some d:=⟨(dcs m)[y.toNat]'(by rw[<-l.out];exact a4),JQ _⟩;obtain⟨bd,od,A1,n1,c1,aa,_,⟨d0,d1,d2,d3⟩,_⟩:=HL.out.elem hb hd;subst aa;have C:((y.toNat:Nat):Int)=y:=Qk;have D:Hid (mkI (dcs m) y=d.mask):=JZ (by have:=XH hd;rwa[C]at this);have a5:Hid (suI (dcs m) y=d.sur):=JZ (by have:=Zdl hd;rwa[C]at this);have a6:d.mask<64/\ -185<=d.sur/\d.sur<=40:=by
        obtain⟨cc,X,rfl⟩:=Zid hd;exact⟨Zie O.out (jC X),Ycq O.out (jC X)⟩
       obtain⟨ab,aw,ax⟩:=a6;have S:=u32_and (a:=d.mask) (b:=M) Qk Qk;have a0:=u32_or (a:=M) (b:=d.mask) Qk Qk;have T:M ||| d.mask<64:=iW (n:=6) hM ab;generalize d.mask=mk at *;generalize d.sur=su at *;clear hy hd C;by_cases h0:mk &&& M=0
       ·have a7:Hid (Dj (dcs m) (s.take (k+1))/\M ||| mk=orI (dcs m) (s.take (k+1))/\z+su=B+YZ (dcs m) (s.take (k+1))):=JZ (by
         obtain⟨v1,v2,v3⟩:=HV.out;refine⟨(Yet HY.out).2 ⟨v1,by rw[D.out,<-v2];exact h0⟩,by rw[Yjv HY.out,D.out,<-v2],?_⟩;rw[Yeu HY.out,a5.out];omega)
        rw[h0]at S;clear h0;generalize M ||| mk=M' at *;go_wp2;go_roundw
        case rel=>exact⟨k+1,M',z+su,Qk,T,Qk,Qk,by go_num,rfl,rfl,hb,a7⟩
        case measure=>exact Qn
       ·have HE:Hid (We (dcs m) s=7):=JZ (Yju o.out t.out λhd=>by
         have:=(Yet HY.out).1 (hd.take (k+1));rw[D.out,<-HV.out.2.1]at this;exact h0 this.2)
        have ak:(((mk &&& M:Nat):Int) !=0)=true:=(by simpa using h0);clear h0;generalize mk &&& M=an at *;go_wp2
        go_ret3
        exact⟨0,0,by rw[HE.out];rfl,by unfold Zfi;rw[HE.out];rfl,hb⟩
      ·obtain rfl:q=k:=Qk
       have HE:Hid (We (dcs m) s=0/\z=Zfi m s):=JZ (by
        obtain⟨v1,v2,v3⟩:=HV.out;rw[YK p.out]at v1 v3;have he:=Sel.err (dcs m) ⟨o.out,t.out,v1⟩;refine⟨he,?_⟩;unfold Zfi;rw[jB he,v3,a3.out])
       go_wp2
       go_ret3
       exact⟨z,M,by rw[HE.out.1];rfl,HE.out.2,hb⟩
def Zwi(v1 v2:Value)(m:Ms)(s:List Int)(w:World)(h:MsM w v1 m)(ok:VM m)(h2:Z6 w v2 s):
 Calls prog 7 #[v1,v2] w λe w'=>e= .returned (.tuple #[.int .i64 (Zfi m s),.int .i64 (We (dcs m) s)])/\Below w.heap.size w w':=by
 obtain⟨A,n,c,A',n',c',x,y,B,rfl,hR,hC,hT⟩:=id h;obtain⟨W,hW,hX,b⟩:=Zbj w (.int .i64 m.fl) (.slice A n c) (.int .i64 m.pen) (.slice A' n' c') (.slice x y B);obtain⟨x0,x1,x2,x3,x4⟩:=hX.five;have HM:=JZ (h.below b);have i:=JZ ok;have HS:=JZ (h2.below b);clear h hR hC hT ok h2;generalize m.fl=F at *;generalize m.pen=P at *;go_enter func7,ntmps7;go_wp2_with fail;clear hW x0 x1 x2 x3 x4;refine(Xw _ m _ HM.out i.out).mono ?_;rintro _ w1 ⟨rfl,d⟩;have q:=hX.later d;have g:=Za b d b.size;have k:=JZ (HM.out.below d);have r:=JZ (HS.out.below d);obtain⟨x0,x1,x2,x3,x4⟩:=q.five;clear hX b d HM HS
 go_upto_region 4 with(fail)
 have C0:=Zm x0;have C1:=Zm x1;have C2:=Zm x2;have C3:=Zm x3;have C4:=Zm x4;have j:=Zc w1;clear x0 x1 x2 x3 x4;refine Zj 9 [0,1,3,2,4,5,6,7,8,9,10,11] Qm Qm ?_;refine Qb ?_
 refine Qo λ_ kq=>?_;with_reducible refine(Zca _ m _ (k.out.below j) i.out).mono ?_
 rintro _ w2 ⟨C,rfl,e2,D⟩;have a:=Za j D j.size;have t:Hid (DcsM w2 C (dcs m)):=JZ e2.rd;clear e2;refine kq.out _ _ (.inr a) (Qc ?_);clear kq
 refine Qo λ_ kq=>?_;with_reducible refine(Zdz _ _ _ m s _ (k.out.below a) i.out t.out (r.out.below a)).mono ?_
 rintro _ w3 ⟨z,M,rfl,hz,E⟩;have l:=Za a E a.size;have HZ:=JZ hz;clear hz;generalize p:We (dcs m) s=er;have u:=JZ p;clear p;refine kq.out _ _ (.inr l) (Qc ?_);clear kq
 refine Qh ?_;refine Qh ?_;refine Qh ?_;refine Zl ?_;have o:=Za g l g.size;clear C0 C1 C2 C3 C4;go_wp2;go_ret2;exact⟨by rw[<-HZ.out,u.out];rfl,o⟩
namespace Pl
def Ypc{m:Ms}{i:Int}{c:Cl}(h:m.cols[i.toNat]? =some c):mkI (dcs m) i=(dcol m i.toNat c).mask:=by
 simp[mkI,Zbh h]
def Ylw{m:Ms}{s:List Int}(h:InR (dcs m).length s){i:Int}(hi:i∈s):∃c,m.cols[i.toNat]? =some c:=by
 have:=h i hi;rw[YD]at this;exact⟨_,JQ Qk⟩
end Pl
def Zt.ownB{base:Nat}{w:World}{v:Value}{zs:List Int}(h:Zt base w v zs):∀g,v.ownBlock=some g->base<=g/\g<w.heap.size:=h.1.lt
namespace Pl
structure Ztk (m:Ms) (i:Nat) (s cov:List Int):Prop where
 rg:∀k∈s,0<=k/\k<i
 asc:s.Pairwise (·< ·)
 dj:Dj (dcs m) s
 cv:∀k∈s,∀c,m.cols[k.toNat]? =some c->∀f∈c.ops,f∈cov
def Ztk.nil(m:Ms):Ztk m 0 [] []:=⟨by simp,by simp,by simp[Dj],by simp⟩
def Ztk.skip{m:Ms}{i:Nat}{s cov:List Int}(h:Ztk m i s cov):Ztk m (i+1) s cov:=⟨λk hk=>by have:=h.rg k hk;omega,h.asc,h.dj,h.cv⟩
def Ztk.take{m:Ms}(ok:VM m){i:Nat}{s cov:List Int}(h:Ztk m i s cov){c:Cl}(hc:m.cols[i]? =some c)(hn:∀f∈c.ops,f ∉ cov):Ztk m (i+1) (s++[(i:Int)]) (cov++c.ops):=by
 refine⟨λk hk=>?_,?_,?_,λk hk d hd f hf=>?_⟩
 ·rcases jW.1 hk with hk|hk
  ·have:=h.rg k hk;omega
  ·simp at hk;omega
 ·rw[kg];refine⟨h.asc,by simp,λa ha b hb=>?_⟩;simp at hb;subst hb;exact(h.rg a ha).2
 ·rw[Zsh,Zex];refine⟨h.dj,λk hk=>?_⟩;obtain⟨k0,k1⟩:=h.rg k hk;obtain⟨j,rfl⟩:=JT k0;have e:=(JO.1 hc).1;have hj:m.cols[j]? =some m.cols[j]:=JQ Qk;rw[XH (Zbh hc),XH (Zbh hj),Zpm ok (jC hc) (jC hj)];exact λf hf hf'=>hn f hf (h.cv _ hk _ (by simpa using hj) f hf')
 ·rcases jW.1 hk with hk|hk
  ·exact cO _ (h.cv k hk d hd f hf)
  ·simp at hk;subst hk;simp only[JP]at hd;rw[hc]at hd;injection hd with hd;subst hd;exact List.mem_append_right _ hf
def Ztk.sel{m:Ms}{s cov:List Int}(h:Ztk m m.cols.length s cov):Sel (dcs m) s:=⟨λk hk=>by rw[YD];exact h.rg k hk,h.asc,h.dj⟩
end Pl
def Yjz(m:Ms)(w:World)(e:Ending)(w':World):Prop:=∃v' s,e= .returned v'/\Zt w.heap.size w' v' s/\Sel (dcs m) s/\Below w.heap.size w w'
def Zza(v1:Value)(m:Ms)(N:Int)(w:World)(h:MsM w v1 m)(ok:VM m):
 Calls prog 6 #[v1,.int .i64 N] w (Yjz m w):=by
 obtain⟨A,n,c,A',n',c',a1,a2,a3,rfl,hR,hC,hT⟩:=id h;obtain⟨s1,s2,s3⟩:=RdM.len hC;obtain⟨W,hW,hX,a4⟩:=Zbj w (.int .i64 m.fl) (.slice A n c) (.int .i64 m.pen) (.slice A' n' c') (.slice a1 a2 a3);have HC:=JZ hC;have O:=JZ ok;have R:=JZ s1;have ai:n'<=6:=by have:=ok.ncol;omega
 clear h hR hC hT ok s1;generalize m.fl=F at *;generalize m.pen=P at *;have I:=Zt.nil w.heap.size W;go_enter func6,ntmps6;go_wp2;clear hW
 go_loopw [5,6,7] (λs5 s6 x wr=>∃(i:Nat) (s a:List Int),i<=n'/\x= .int .i64 i/\Below w.heap.size w wr/\Bk wr w.heap.size 26 [.int .i64 F,.slice A n c,.int .i64 P,.slice A' n' c',.slice a1 a2 a3]/\s.length<=i/\a.length<=6*i/\Hid (Zt w.heap.size wr s5 s/\Zt w.heap.size wr s6 a/\(∀b,s6.ownBlock=some b->some b≠s5.ownBlock)/\Ztk m i s a)) (λ_ _ x _=>n' - (intOf x).toNat)
 case atStart=>exact⟨0,[],[],Qk,rfl,a4,hX,by simp,by simp,JZ ⟨I,I,by simp[Value.ownBlock],Ztk.nil m⟩⟩
 case round=>
  clear a4 hX I;obtain⟨i,s,a,hi,rfl,hb,hB,ap,ak,HV⟩:=hrel;obtain⟨x0,x1,x2,x3,x4⟩:=hB.five;rcases JX i n' with hil|hil
  ·obtain⟨cl,B⟩:∃cl,m.cols[i]? =some cl:=⟨_,JQ (by have:=R.out;omega)⟩;have al:(i:Int)<n':=Qk;obtain⟨bc,oc,sb,A1,ag,c1,hA,_,e0,e1,e2,hD⟩:=HC.out.elem hb B;subst hA;have a9:=JZ B;have y:=JZ (O.out.opl (jC B));clear B;go_wp2_with fail;refine(Zbk sb A1 ag c1 cl.dut _ hD (by have:=y.out;unfold Cl.ops at this;omega)).mono ?_;rintro _ w4 ⟨v4,rfl,e4,u⟩;have HE:Hid (Zt wr.heap.size w4 v4 cl.ops):=JZ e4;have J:=hB.later u;have z:=Za hb u hb.size;have am:=hb.size;have l:Hid (Zt w.heap.size w4 u5 s/\Zt w.heap.size w4 u6 a/\(∀b,u6.ownBlock=some b->some b≠u5.ownBlock)/\(∀b,v4.ownBlock=some b->some b≠u5.ownBlock/\some b≠u6.ownBlock)/\Ztk m i s a):=JZ ⟨HV.out.1.below u,HV.out.2.1.below u,HV.out.2.2.1,λb hvb=>by
    have h1:=(e4.ownB b hvb).1;exact⟨λe=>by have h2:=(HV.out.1.ownB b e.symm).2;omega,λe=>by have h2:=(HV.out.2.1.ownB b e.symm).2;omega⟩,HV.out.2.2.2⟩
   obtain⟨A3,t,c3,rfl⟩:=e4.sliceN;have HT:=JZ e4.len;have an:t<=6:=(by have:=y.out;have:=HT.out;unfold Cl.ops at *;omega);clear e4 u hD e0 e1 e2 x0 x1 x2 x3 x4 hB HV hb;go_wp2;generalize w4=wo at *
   go_loopw [9,10] (λs9 x wq=>∃(j:Nat) (bb:Bool),j<=t/\x= .int .i64 j/\s9= .bool bb/\Below wo.heap.size wo wq/\Hid (bb=true->∀f∈cl.ops.take j,f ∉ a)) (λ_ x _=>t - (intOf x).toNat)
   case atStart=>exact⟨0,_,Qk,rfl,rfl,JR _ _,JZ (λ_=>by simp)⟩
   case round=>
    obtain⟨j,bb,hj,rfl,rfl,k,HJ⟩:=hrel;rcases JX j t with hjl|hjl
    ·have ao:(j:Int)<t:=Qk;obtain⟨b4,o4,f,ah,M,hf,aq,ar⟩:=HE.out.ints.elem k hjl;subst ah;have HF:=JZ hf;clear hf
     cases bb
     ·go_wp2;go_roundw
      case rel=>exact⟨j+1,false,Qk,by go_num,rfl,k,JZ (λh=>by cases h)⟩
      case measure=>exact Qn
     ·go_wp2_with fail;refine(Yej _ a f _ (l.out.2.1.below k).ints).mono ?_;rintro _ w6 ⟨rfl,p⟩;have S:=Za k p k.size;clear k p M;generalize hd:decide (f∈a)=d at *;have HD:=JZ hd;clear hd;go_wp2;go_roundw
      case rel=>exact⟨j+1,!d,Qk,by go_num,rfl,S,JZ (λhd g hg=>by
       rcases(UC HF.out).1 hg with e|e
       ·exact HJ.out trivial g e
       ·subst e;have h1:=HD.out
        cases d
        ·exact of_decide_eq_false h1
        ·cases hd)⟩
      case measure=>exact Qn
    ·obtain rfl:t=j:=Qk
     have K:=J.later k;have p:=Za z k z.size;have o:Hid (Zt w.heap.size wr u5 s/\Zt w.heap.size wr u6 a/\Ztk m i s a):=JZ ⟨l.out.1.below k,l.out.2.1.below k,l.out.2.2.2.2⟩;have aa:Hid (Zt 0 wr (.slice A3 t c3) cl.ops):=JZ ((HE.out.below k).monoB (iI _))
     cases bb
     ·clear z J k;go_wp2;go_roundw
      case rel=>exact⟨i+1,s,a,Qk,by go_num,p,K,Qk,Qk,JZ ⟨o.out.1,o.out.2.1,l.out.2.2.1,o.out.2.2.skip⟩⟩
      case measure=>exact Qn
     ·have T:s.length+1<=1099511627776:=Qk;have U:=p.size;have ab:Hid (∀f∈cl.ops,f ∉ a):=JZ (λf hf=>HJ.out rfl f (by rw[show cl.ops.take t=cl.ops from YK HT.out];exact hf));have ac:=JZ o.out.1;clear z J k HJ;go_wp2_with(at_builtin;refine Yb rfl (.tmp 48) (.tmp 50) rfl wr w.heap.size u5 s rfl ac.out (i:Int) rfl Qk Qk T U ?_);intro v7 w7 q a8 C v H;have V:=o.out.2.1.others v l.out.2.2.1;have X:=aa.out.others v λb hb=>(l.out.2.2.2.1 b hb).1
      obtain⟨v8,w8,a5,r,a6,a7,E,G⟩:=XO 22 w7 w.heap.size u6 _ a cl.ops V X.ints (by have:=y.out;omega) (JW U C.size);have Y:∀b,u6.ownBlock=some b->b<wr.heap.size:=λb hb=>(o.out.2.1.ownB b hb).2
      have ad:∀b,u5.ownBlock=some b->b<wr.heap.size:=λb hb=>(o.out.1.ownB b hb).2
      have Z:∀b,v7.ownBlock=some b->b<w7.heap.size:=λb hb=>(q.ownB b hb).2
      have aj:=C.size;have L:∀b,v7.ownBlock=some b->some b≠u6.ownBlock:=λb hb e=>by
       rcases H with h|h
       ·exact l.out.2.2.1 b e.symm (by rw[<-hb,h])
       ·have h1:=h b hb;have h2:=Y b e.symm;omega
      have a0:=q.others E L;have D:∀b,v8.ownBlock=some b->some b≠v7.ownBlock:=λb hb e=>by
       rcases G with h|h
       ·exact L b e.symm (by rw[<-hb,h])
       ·have h1:=h b hb;have h2:=Z b e.symm;omega
      have ae:=a6.bk (a8.bk K Ql) Ql;have af:=(p.trans C).trans a7;have HN:Hid (Zt w.heap.size w8 v7 (s++[(i:Int)])/\Zt w.heap.size w8 v8 (a++cl.ops)/\(∀b,v8.ownBlock=some b->some b≠v7.ownBlock)/\Ztk m (i+1) (s++[(i:Int)]) (a++cl.ops)):=JZ ⟨a0,r,D,o.out.2.2.take O.out a9.out ab.out⟩;clear q a8 C v H V X r a6 a7 E G K p a0 D L Y ad Z;go_wp2_with(at_builtin;refine wpList_append_run a5 rfl rfl rfl rfl rfl ?_);go_wp2;go_roundw
      case rel=>exact⟨i+1,_,_,Qk,by go_num,af,ae,by simp;omega,by have:=y.out;simp;omega,HN⟩
      case measure=>exact Qn
  ·obtain rfl:n'=i:=Qk
   have HF:Hid (Sel (dcs m) s):=JZ (by have:=HV.out.2.2.2;rw[R.out]at this;exact this.sel);go_wp2;go_ret;exact⟨_,s,rfl,HV.out.1,HF.out,hb⟩
def WQ(base:Nat)(w:World)(v:Value)(l:List Dc)(w':World):Prop:=DcsO base w' v l/\Zf 80 w w'/\ZA v.ownBlock w w'/\Below base w w'
def WQ.after{base:Nat}{w w1 w2:World}{v:Value}{l:List Dc}(h:WQ base w v l w1)(hS:Below w1.heap.size w1 w2)(hb:base<=w.heap.size):WQ base w v l w2:=
 ⟨h.1.below hS,h.2.1.then (hS.mono h.2.2.1.1),⟨JW h.2.2.1.1 hS.size,λb hb hne=>(hS.block b (je hb h.2.2.1.1)).trans (h.2.2.1.2 b hb hne)⟩,h.2.2.2.trans (hS.mono (JW hb h.2.2.1.1))⟩
def Yth(w:World)(g k:Nat)(x:Dc)(A:Option Addr)(n c:Nat):World:=(((w.setCell ⟨g,k*4,none⟩ (.int .i64 (x.idx:Int))).setCell ⟨g,k*4+1,none⟩ (.int .u32 (x.mask:Int))).setCell ⟨g,k*4+2,none⟩ (.slice A n c)).setCell ⟨g,k*4+3,none⟩ (.int .i64 x.sur)
def WQ.put{base:Nat}{w w1:World}{g n c:Nat}{l:List Dc}(h:WQ base w (.slice (some ⟨g,0,none⟩) n c) l w1)(hb:base<=g){j:Nat}{x:Dc}(hj:j<l.length){A:Option Addr}{n1 c1:Nat}(hx:YF w1 (.slice A n1 c1) (iL x.rows)):
 WQ base w (.slice (some ⟨g,0,none⟩) n c) (l.set j x) (Yth w1 g j x A n1 c1)/\Zf 80 w1 (Yth w1 g j x A n1 c1):=by
 obtain⟨h1,h2,h3,h4⟩:=h;obtain⟨a1,a2⟩:=h1.set_ hj hx;exact⟨⟨a1,h2.trans a2,(((h3.trans ZA.of_set).trans ZA.of_set).trans ZA.of_set).trans ZA.of_set,(((h4.setCell (p:=⟨g,j*4,none⟩) hb _).setCell (p:=⟨g,j*4+1,none⟩) hb _).setCell (p:=⟨g,j*4+2,none⟩) hb _).setCell (p:=⟨g,j*4+3,none⟩) hb _⟩,a2⟩
def Ype(G:Nat)(cb:Array Value)(lt:Dc->Dc->Bool)(l:List Dc)(w:World):Prop:=
 ∀W,Zf 80 w W->w.heap.size<=W.heap.size->∀x∈l,∀y∈l,∀A n c A' n' c',Calls prog G (#[.agg #[.int .i64 (x.idx:Int),.int .u32 (x.mask:Int),.slice A n c,.int .i64 x.sur],.agg #[.int .i64 (y.idx:Int),.int .u32 (y.mask:Int),.slice A' n' c',.int .i64 y.sur]]++cb) W λe W'=>∃z:Int,e= .returned (.int .i64 z)/\decide (z<0)=lt x y/\Below W.heap.size W W'
def Pl.sortB_take{α:Type}(lt:α->α->Bool)(l:List α):∀(i:Nat) (x:α),l[i]? =some x->YC lt (l.take (i+1))=VB lt x (YC lt (l.take i)):=λi x hx=>by
 rw[jP,hx];exact Zkr lt _ _
def DcsO.shape{base:Nat}{w:World}{v:Value}{l:List Dc}(h:DcsO base w v l)(hp:0<l.length):∃g c,v= .slice (some ⟨g,0,none⟩) l.length c/\base<=g/\g<w.heap.size/\l.length<=c/\c<=9223372036854775807:=by
 obtain⟨cs,h1,_⟩:=h;rcases h1.2 with⟨rfl,e⟩|⟨g,cap,cur,rfl,hb,hg,hnc,hcm,hcs,htake⟩
 ·omega
 ·exact⟨g,cap,rfl,hb,ZU hg,hnc,JW hcm (by unfold maxLen;omega)⟩
def Ype.at_{G:Nat}{cb:Array Value}{lt:Dc->Dc->Bool}{l:List Dc}{w:World}(h:Ype G cb lt l w){base:Nat}{v:Value}{l':List Dc}{W:World}(hs:WQ base w v l' W){x y:Dc}(hx:x∈l)(hy:y∈l)(A:Option Addr)(n c:Nat)(A':Option Addr)(n' c':Nat):
 Calls prog G (#[.agg #[.int .i64 (x.idx:Int),.int .u32 (x.mask:Int),.slice A n c,.int .i64 x.sur],.agg #[.int .i64 (y.idx:Int),.int .u32 (y.mask:Int),.slice A' n' c',.int .i64 y.sur]]++cb) W λe W'=>∃z:Int,e= .returned (.int .i64 z)/\decide (z<0)=lt x y/\Below W.heap.size W W':=
 h W hs.2.1 hs.2.2.1.1 x hx y hy A n c A' n' c'
def Zjw(base:Nat)(v:Value)(l:List Dc)(w:World)(h:DcsO base w v l)(hl:l.length<=12)(n:Int)(hn:n=l.length)(G:Nat)(cb:Array Value)(lt:Dc->Dc->Bool)
 (eg:∀args w,(callFunc G args).run prog w= .ok (.enter G args) w) (hc:Ype G cb lt l w)
 (ir:∀x,lt x x=false) (tr:∀x y z,lt x y=true->lt y z=true->lt x z=true) (tr':∀x y z,lt x y=false->lt y z=false->lt x z=false):
 Calls prog 150 #[v,.int .i64 0,.int .i64 n,.func (.func G) #[] cb] w λe w'=>e= .returned (.tuple #[])/\WQ base w v (YC lt l) w':=by
 obtain⟨m,hm⟩:∃m,m=l.length:=⟨_,rfl⟩;rw[<-hm]at hl hn;subst hn;have HM:=JZ hm;have N:=λi=>JZ (Zib ir tr (l.take i))
 have S:=JZ hc;have a2:=JZ (sortB_take lt l);clear hc;rcases JX 1 m with hm1|hm1
 ·obtain⟨g,c,rfl,a5,a6,X,a7⟩:=DcsO.shape h Qk;rw[<-hm]at h X⊢;have T:=JZ a5;have E:base<=w.heap.size:=Qk
  have HI:=JZ h;have ag:=JZ eg;clear h hm X a7 a6;go_enter func150,ntmps150;go_wp2
  go_loopw [8,9] (λs6 s7 wr=>∃i:Nat,1<=i/\i<=m/\s6= .int .i64 i/\WQ base w (.slice (some ⟨g,0,none⟩) m c) (YC lt (l.take i)++l.drop i) wr) (λs6 _ _=>m - (intOf s6).toNat)
  case atStart=>exact⟨1,Qk,Qk,rfl,by
   have e:YC lt (l.take 1)++l.drop 1=l:=by
    cases l with
    |nil=>rfl
    |cons x l=>simp[YC,VB]
   rw[e];exact⟨HI.out,Zf.refl _ _,⟨JY _,λ_ _ _=>rfl⟩,JR _ _⟩⟩
  case round=>
   obtain⟨i,aj,hi,rfl,HS⟩:=hrel;rcases JX i m with hil|hil
   ·obtain⟨x,hx⟩:∃x,l[i]? =some x:=⟨l[i]'(by rw[<-HM.out];exact hil),JQ _⟩;have HX:=JZ hx;clear hx;have a3:=JZ HS;clear HS;go_wp2
    go_loopw [9] (λs7 wx=>∃(j:Nat) (a b:List Dc),j<=i/\s7= .int .i64 j/\Hid (a.length=j/\YC lt (l.take i)=a++b/\VB lt x (YC lt (l.take i))=VB lt x a++b)/\Hid (WQ base w (.slice (some ⟨g,0,none⟩) m c) (a++x::(b++l.drop (i+1))) wx)) (λs7 _=>(intOf s7).toNat)
    case atStart=>exact⟨i,YC lt (l.take i),[],Qk,rfl,JZ ⟨by rw[WI,kN,<-HM.out];omega,by simp,by simp⟩,JZ (by
     have:=a3.out;rw[drop_at HX.out]at this;simpa using this)⟩
    case round=>
     obtain⟨j,a,b,hj,rfl,HA,HW⟩:=hrel;have o:Hid ((j=0\/∃a' y,a=a'++[y]/\lt x y=false)->a++x::(b++l.drop (i+1))=YC lt (l.take (i+1))++l.drop (i+1)):=JZ (λhs=>by
      obtain⟨h1,h2,h3⟩:=HA.out;rw[a2.out i x HX.out,h3];rcases hs with hs|⟨a',y,rfl,hyx⟩
      ·have:a=[]:=kW Qk;subst this;simp[VB]
      ·have H:=(N i).out;rw[h2]at H;rw[Zph tr' (gY (vg _ _) H) hyx];simp)
     rcases JV j with hj0|hj0
     ·subst hj0
      go_upto_region 4 with(fail)
      have f:=Zc wr;refine Zj 17 [0,1,2,3,4,5,6,7,8,9,10,11,12,13,14,15,16] Qm Qm ?_;refine Qd ?_
      refine Zl ?_;have HE:=JZ (o.out (.inl rfl));clear o;go_wp2;go_roundw
      case rel=>exact⟨i+1,Qk,Qk,by go_num,by
       have:=HW.out;rw[HE.out]at this;exact this.after f E⟩
      case measure=>exact Qn
     ·obtain⟨p,rfl⟩:∃p,j=p+1:=⟨j - 1,Qk⟩;obtain⟨a',y,rfl,hp⟩:∃a' y,a=a'++[y]/\a'.length=p:=by
       have h1:=HA.out.1;have U:a≠[]:=λe=>by subst e;simp at h1
       refine⟨a.dropLast,a.getLast U,(List.dropLast_concat_getLast U).symm,by simp;omega⟩
      have HP:=JZ hp;have hL:(a'++[y]++x::(b++l.drop (i+1)))=a'++y::x::(b++l.drop (i+1)):=(by simp);have I:=HW.out;rw[hL]at I;obtain⟨Ax,nx,Y,⟨q,r,s,t⟩,_,J,_⟩:=I.1.at4 (k:=p+1) (x:=x) (by rw[<-hp];simp);obtain⟨Ay,ny,Z,⟨u,B,C,D⟩,_,K,_⟩:=I.1.at4 (k:=p) (x:=y) (by rw[<-hp];simp);have L:Hid (x∈l/\y∈l):=JZ ⟨jC HX.out,by
       have h2:=HA.out.2.1;have:y∈YC lt (l.take i):=by rw[h2];simp
       exact aZ ((YS lt).1 this)⟩
      have ah:=JZ J;have ai:=JZ K;have O:=JZ I;clear hp hL I J K;have p0:(0:Int)<=(p:Int)+1:=Qk;have p1:(p:Int)+1<m:=Qk;have p2:(p:Int)<m:=Qk;have p3:(0:Int)< (p:Int)+1:=Qk
      cases hxy:lt x y with
      |true=>
       have HN:Hid (a'.length=p/\YC lt (l.take i)=a'++(y::b)/\VB lt x (YC lt (l.take i))=VB lt x a'++(y::b)):=JZ (by
        obtain⟨_,h2,h3⟩:=HA.out;refine⟨HP.out,by simpa using h2,?_⟩;have H:=(N i).out;rw[h2]at H;rw[h3,Zpi ir tr tr' (gY (vg _ _) H) hxy];simp)
       have C0:=Zm q;have C1:=Zm r;have C2:=Zm s;have C3:=Zm t;have D0:=Zm u;have D1:=Zm B;have D2:=Zm C;have D3:=Zm D;have f:=Zc wr
       go_upto_region 4 with(fail)
       clear q r s t u B C D;refine Zj 17 [0,1,2,3,4,5,6,7,8,9,10,11,12,13,14,15,16] Qm Qm ?_;refine Qd ?_
       refine Qo λ_ kq=>?_;(with_reducible refine(S.out.at_ (O.out.after f E) L.out.1 L.out.2 _ _ _ _ _ _).mono ?_);rintro _ w4 ⟨z,rfl,hz,M⟩;rw[hxy]at hz;have F:=Za f M f.size;refine kq.out _ _ (.inr F) (Qe ?_);clear kq
       refine Zl ?_;clear C0 C1 C2 C3 D0 D1 D2 D3 o
       go_upto_region 6 with(fail)
       have P:=JZ (O.out.after F E);clear f M F;obtain⟨Ax,nx,Y,⟨q,r,s,t⟩,⟨a8,a9,aa,ab⟩,J,_⟩:=P.out.1.at4 (k:=p+1) (x:=x) (by rw[<-HP.out];simp);obtain⟨Ay,ny,Z,⟨u,B,C,D⟩,⟨ac,ad,ae,af⟩,K,_⟩:=P.out.1.at4 (k:=p) (x:=y) (by rw[<-HP.out];simp);have C0:=Zm q;have C1:=Zm r;have C2:=Zm s;have C3:=Zm t;have D0:=Zm u;have D1:=Zm B;have D2:=Zm C;have D3:=Zm D;have a4:=Zc w4;refine Zj 15 [0,1,2,3,4,5,6,7,8,9,10,11,12,13,14,15,16,17] Qm Qm ?_;refine Qb ?_
       refine Qh ?_;refine Qh ?_;refine Qh ?_;refine Zl ?_;obtain⟨a0,a1⟩:=P.out.put T.out (j:=p+1) (x:=y) (by rw[<-HP.out];simp) K;obtain⟨R,_⟩:=a0.put T.out (j:=p) (x:=x) (by rw[<-HP.out];simp) (J.but a1 Ql);rw[Zwh HP.out]at R;have V:=JZ (R.after (Zc _) E);clear a0 R a1;unfold Yth at V;generalize((((((((w4.setCell ⟨g,(p+1)*4,none⟩ (.int .i64 (y.idx:Int))).setCell ⟨g,(p+1)*4+1,none⟩ (.int .u32 (y.mask:Int))).setCell ⟨g,(p+1)*4+2,none⟩ (.slice Ay ny Z)).setCell ⟨g,(p+1)*4+3,none⟩ (.int .i64 y.sur)).setCell ⟨g,p*4,none⟩ (.int .i64 (x.idx:Int))).setCell ⟨g,p*4+1,none⟩ (.int .u32 (x.mask:Int))).setCell ⟨g,p*4+2,none⟩ (.slice Ax nx Y)).setCell ⟨g,p*4+3,none⟩ (.int .i64 x.sur)).drew=W2 at *;clear C0 C1 C2 C3 D0 D1 D2 D3 a4 q r s t u B C D a8 a9 aa ab ac ad ae af J K;go_wp2;go_roundw
       case rel=>exact⟨p,a',y::b,Qk,by go_num,HN,V⟩
       case measure=>simp[intOf]
      |false=>
       have HE:=JZ (o.out (.inr ⟨a',y,rfl,hxy⟩));clear o;have C0:=Zm q;have C1:=Zm r;have C2:=Zm s;have C3:=Zm t;have D0:=Zm u;have D1:=Zm B;have D2:=Zm C;have D3:=Zm D;have f:=Zc wr
       go_upto_region 4 with(fail)
       clear q r s t u B C D;refine Zj 17 [0,1,2,3,4,5,6,7,8,9,10,11,12,13,14,15,16] Qm Qm ?_;refine Qd ?_
       refine Qo λ_ kq=>?_;(with_reducible refine(S.out.at_ (O.out.after f E) L.out.1 L.out.2 _ _ _ _ _ _).mono ?_);rintro _ w4 ⟨z,rfl,hz,M⟩;rw[hxy]at hz;have F:=Za f M f.size;refine kq.out _ _ (.inr F) (Qe ?_);clear kq
       refine Zl ?_;clear C0 C1 C2 C3 D0 D1 D2 D3;go_wp2;go_roundw
       case rel=>exact⟨i+1,Qk,Qk,by go_num,by
        have:=HW.out;rw[HE.out]at this;exact this.after F E⟩
       case measure=>exact Qn
   ·obtain rfl:i=m:=Qk
    go_wp2
    go_end0
    exact⟨rfl,by
     have e:YC lt (l.take i)++l.drop i=YC lt l:=(by rw[HM.out];simp);rw[e]at HS;exact HS⟩
 ·have HI:=JZ h;have HV:Hid (∃A c',v= .slice A m c'):=JZ (by
   obtain⟨A,c',rfl⟩:=RdO.slice h;exact⟨A,c',by rw[hm]⟩)
  have HE:Hid (YC lt l=l):=JZ (by
   match l,hm with
   | [],_=>rfl
   | [x],_=>rfl
   |x::y::zs,hm=>simp at hm;omega)
  clear h hm;go_enter func150,ntmps150;go_wp2
  go_loopw [8] (λs6 wr=>s6= .int .i64 1/\wr=w) (λs6 _=>0)
  case atStart=>exact⟨rfl,rfl⟩
  case round=>
   obtain⟨rfl,rfl⟩:=hrel;go_wp2
   go_end0
   exact⟨rfl,by rw[HE.out];exact⟨HI.out,Zf.refl _ _,⟨JY _,λ_ _ _=>rfl⟩,JR _ _⟩⟩
def Ztl(base:Nat)(v:Value)(l:List Dc)(w:World)(h:DcsO base w v l)(hl:l.length<=12)(n:Int)(hn:n=l.length)(G:Nat)(cb:Array Value)(lt:Dc->Dc->Bool)
 (eg:∀args w,(callFunc G args).run prog w= .ok (.enter G args) w) (hc:Ype G cb lt l w)
 (ir:∀x,lt x x=false) (tr:∀x y z,lt x y=true->lt y z=true->lt x z=true) (tr':∀x y z,lt x y=false->lt y z=false->lt x z=false):
 Calls prog 119 #[v,.int .i64 n,.func (.func G) #[] cb] w λe w'=>e= .returned (.tuple #[])/\WQ base w v (YC lt l) w':=by
 have a:0<=n:=Qk
 have b:n<=12:=Qk
 have c:¬(20:Int)<=n:=Qk
 have d:¬(20:Int)<n:=Qk
 have HI:=JZ h;have HN:=JZ hn;have HC:=JZ hc;have f:=JZ eg;obtain⟨A,n',c',rfl⟩:=RdO.sliceN h;clear h hn hc;go_enter func119,ntmps119;go_wp2;refine wp_loop_rounds 1 ?_;rw[rounds_succ];go_wp2_with fail;refine(Zjw base _ l _ HI.out (by have:=HN.out;omega) n HN.out G cb lt eg HC.out ir tr tr').mono ?_;rintro _ w1 ⟨rfl,hs⟩;go_wp2;refine wp_loop_rounds 1 ?_;rw[rounds_succ];go_wp2
 go_end0
 exact⟨rfl,hs⟩
def Zqp(base:Nat)(v:Value)(l:List Dc)(w:World)(h:DcsO base w v l)(hl:l.length<=12)(G:Nat)(cb:Array Value)(lt:Dc->Dc->Bool)
 (eg:∀args w,(callFunc G args).run prog w= .ok (.enter G args) w) (hc:Ype G cb lt l w)
 (ir:∀x,lt x x=false) (tr:∀x y z,lt x y=true->lt y z=true->lt x z=true) (tr':∀x y z,lt x y=false->lt y z=false->lt x z=false):
 Calls prog 83 #[v,.func (.func G) #[] cb] w λe w'=>e= .returned (.tuple #[])/\WQ base w v (YC lt l) w':=by
 obtain⟨A,n,c,rfl⟩:=RdO.sliceN h;obtain⟨hn,_,_⟩:=RdM.len (RdO.rd h);have HI:=JZ h;have HN:=JZ hn;have HC:=JZ hc;have a:n<=12:=Qk
 clear h hn hc;go_enter func83,ntmps83;go_wp2_with fail;refine(Ztl base _ l _ HI.out hl (n:Int) (by rw[HN.out]) G cb lt eg HC.out ir tr tr').mono ?_;rintro _ w1 ⟨rfl,hs⟩;go_wp2
 go_end0
 exact⟨rfl,hs⟩
def Pl.VOK(f:RF):Prop:=∃q,f=canF q/\Sz 2 q
def Pl.VOK.sm{f:RF}(h:VOK f):f.Sm:=by
 obtain⟨q,rfl,h2⟩:=h;exact(h2.sh Ql).sm
def Zqq(x:Int)(w:World):Calls prog 88 #[.int .i64 x] w λe w'=>e= .returned (.bool false)/\w'=w:=by
 go_enter func88,ntmps88;go_wp2;go_ret;exact⟨rfl,rfl⟩
def Pl.cmpI(x y:Int):Int:=if x<y then -1 else if y<x then 1 else 0
def Zzb(x y:Int)(w:World):Calls prog 87 #[.int .i64 x,.int .i64 y] w λe w'=>e= .returned (.int .i64 (cmpI x y))/\w'=w:=by
 go_enter func87,ntmps87;go_wp2_with fail;refine(Zqq x _).mono ?_;rintro _ _ ⟨rfl,rfl⟩;go_wp2_with fail;refine(Zqq y _).mono ?_;rintro _ _ ⟨rfl,rfl⟩;rcases jm x y with h|h|h
 ·have e:Hid (cmpI x y= -1):=JZ (by unfold cmpI;rw[jB h]);go_wp2;go_ret;exact⟨by rw[e.out];rfl,rfl⟩
 ·subst h;have e:Hid (cmpI x x=0):=JZ (by unfold cmpI;simp);go_wp2;go_ret;exact⟨by rw[e.out];rfl,rfl⟩
 ·have e:Hid (cmpI x y=1):=JZ (by unfold cmpI;rw[jA Qk,jB h]);have h':¬x<y:=Qk
  go_wp2;go_ret;exact⟨by rw[e.out];rfl,rfl⟩
def Yew(w:World)(a b c d a' b' c' d':Value):∃W,(w.alloc (.cells #[a,b,c,d] 80)).alloc (.cells #[a',b',c',d'] 80)=W/\(w.alloc (.cells #[a,b,c,d] 80)).heap.size=w.heap.size+1/\Bk W w.heap.size 80 [a,b,c,d]/\Bk W (w.heap.size+1) 80 [a',b',c',d']/\Below w.heap.size w W:=by
 have h1:=Bk.new w 80 [a,b,c,d];have h2:=Bk.new (w.alloc (.cells [a,b,c,d].toArray 80)) 80 [a',b',c',d'];have b1:=Ze w (.cells [a,b,c,d].toArray 80);have b2:=Ze (w.alloc (.cells [a,b,c,d].toArray 80)) (.cells [a',b',c',d'].toArray 80);have hs:(w.alloc (.cells [a,b,c,d].toArray 80)).heap.size=w.heap.size+1:=by simp
 refine⟨_,rfl,hs,h1.later b2,?_,Za b1 b2 b1.size⟩;rw[hs]at h2;exact h2
def Zzc(x y:Dc)(A:Option Addr)(n c:Nat)(A':Option Addr)(n' c':Nat)(w:World):
 Calls prog 86 #[.agg #[.int .i64 (x.idx:Int),.int .u32 (x.mask:Int),.slice A n c,.int .i64 x.sur],.agg #[.int .i64 (y.idx:Int),.int .u32 (y.mask:Int),.slice A' n' c',.int .i64 y.sur]] w λe w'=>e= .returned (.int .i64 (cmpI x.sur y.sur))/\Below w.heap.size w w':=by
 obtain⟨W,hW,b,hX,hY,a⟩:=Yew w (.int .i64 (x.idx:Int)) (.int .u32 (x.mask:Int)) (.slice A n c) (.int .i64 x.sur) (.int .i64 (y.idx:Int)) (.int .u32 (y.mask:Int)) (.slice A' n' c') (.int .i64 y.sur);obtain⟨p1,p2,p3,p4⟩:=hX.four;obtain⟨r1,r2,r3,r4⟩:=hY.four;go_enter func86,ntmps86;go_wp2_with fail;refine(Zzb x.sur y.sur _).mono ?_;rintro _ _ ⟨rfl,rfl⟩;go_wp2;go_ret;exact⟨rfl,a⟩
def Ykb(w:World)(g:Nat)(fs:List RF):Prop:=∃B m d,Bk w g 34 [.slice B m d]/\UY w (.slice B m d) fs
def FrC.but{w w':World}{e:TypeId}{cs:List Value}{fs:List RF}(h:FrC w cs fs)(hk:Zf e w w')(h1:71≠e):FrC w' cs fs:=h.keep (hk.keep h1)
def Ykb.but{w w':World}{e:TypeId}{g:Nat}{fs:List RF}(h:Ykb w g fs)(hk:Zf e w w')(h1:34≠e)(h2:49≠e)(h3:71≠e):Ykb w' g fs:=by
 obtain⟨B,m,d,g1,cs,g2,g3⟩:=h;exact⟨B,m,d,hk.bk g1 h1,cs,hk.row g2 h2,g3.but hk h3⟩
def Ykb.below{w w':World}{g:Nat}{fs:List RF}(h:Ykb w g fs)(hb:Below w.heap.size w w'):Ykb w' g fs:=by
 obtain⟨B,m,d,g1,g2⟩:=h;exact⟨B,m,d,g1.later hb,g2.below hb⟩
def Ztm(x y:Dc)(A:Option Addr)(n c:Nat)(A':Option Addr)(n' c':Nat)(g:Nat)(fs:List RF)(w:World)(h:Ykb w g fs)(hv:∀f∈fs,VOK f)(hx:x.idx<fs.length)(hy:y.idx<fs.length):
 Calls prog 84 #[.agg #[.int .i64 (x.idx:Int),.int .u32 (x.mask:Int),.slice A n c,.int .i64 x.sur],.agg #[.int .i64 (y.idx:Int),.int .u32 (y.mask:Int),.slice A' n' c',.int .i64 y.sur],.pointer (some ⟨g,0,none⟩)] w λe w'=>e= .returned (.int .i64 (qs (qAt fs y.idx - qAt fs x.idx)))/\Below w.heap.size w w':=by
 obtain⟨W,hW,E,hX,hY,k⟩:=Yew w (.int .i64 (x.idx:Int)) (.int .u32 (x.mask:Int)) (.slice A n c) (.int .i64 x.sur) (.int .i64 (y.idx:Int)) (.int .u32 (y.mask:Int)) (.slice A' n' c') (.int .i64 y.sur);obtain⟨B,m,d,hB,hF⟩:=h.below k;obtain⟨fx,i⟩:∃f,fs[x.idx]? =some f:=⟨_,JQ hx⟩;obtain⟨fy,j⟩:∃f,fs[y.idx]? =some f:=⟨_,JQ hy⟩;have HV:Hid (qAt fs x.idx=fx.q/\qAt fs y.idx=fy.q/\fx.Sm/\fy.Sm):=JZ ⟨by unfold qAt;rw[i],by unfold qAt;rw[j],(hv fx (jC i)).sm,(hv fy (jC j)).sm⟩;have hm:m=fs.length:=by
  obtain⟨A',c',e,_⟩:=hF.shape;injection e
 rw[<-hm]at hx hy;have C:(x.idx:Int)<m:=Qk
 have D:(y.idx:Int)<m:=Qk
 clear hm;have HF:=JZ hF;obtain⟨b,F,A1,n1,c1,A2,n2,c2,hA,_,⟨x0,x1,x2,x3⟩,ex⟩:=hF.elem (JR _ _) i;obtain⟨b',z,A3,n3,c3,A4,n4,c4,l,_,⟨y0,y1,y2,y3⟩,ey⟩:=hF.elem (JR _ _) j;subst hA;injection l with l;injection l with q1 q2 _;subst q1 q2;have r:=JZ ex;have s:=JZ ey;obtain⟨p1,p2,p3,p4⟩:=hX.four;obtain⟨r1,r2,r3,r4⟩:=hY.four;have b0:=hB.cellAt 0 rfl;clear hF i j h hv ex ey;go_enter func84,ntmps84
 go_upto_region 1 with(fail)
 have C0:=Zm x0;have C1:=Zm x1;have C2:=Zm x2;have C3:=Zm x3;have D0:=Zm y0;have D1:=Zm y1;have D2:=Zm y2;have D3:=Zm y3;have E0:=Zm p1;have E1:=Zm r1;have E2:=Zm b0;have a:=Zc W;clear x0 x1 x2 x3 y0 y1 y2 y3 p1 p2 p3 p4 r1 r2 r3 r4 b0;refine Zj 12 [0,1,2,3,4,5,6,7,8,9,10,11] Qm Qm ?_;refine Qb ?_
 refine Qo λ_ kq=>?_;with_reducible refine(UT _ _ fy fx _ (s.out.below a) (r.out.below a) HV.out.2.2.2 HV.out.2.2.1).mono ?_
 rintro _ w4 ⟨rfl,u⟩;have p:=Za a u a.size;refine kq.out _ _ (.inr p) (Qc ?_);clear kq
 refine Zl ?_;have t:=Za k p k.size;have HQ:Hid (qs (fy.q - fx.q)=qs (qAt fs y.idx - qAt fs x.idx)):=JZ (by rw[HV.out.1,HV.out.2.1]);clear C0 C1 C2 C3 D0 D1 D2 D3 E0 E1 E2;go_wp2;go_ret;exact⟨by rw[<-HQ.out];rfl,t⟩
end Go.Proofs.YtobadipflggkiaaGreat
