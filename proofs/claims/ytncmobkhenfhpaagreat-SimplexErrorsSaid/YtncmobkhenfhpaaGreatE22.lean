/- Lemmas of the claim; no condition. -/
import Derived.Maps.Own
import Derived.Test.YtncmobkhenfhpaaGreatE21
import Derived.Test.YtncmobkhenfhpaaGreatE23
set_option linter.all false
set_option maxRecDepth 100000
set_option maxHeartbeats 40000000
namespace Go.Proofs.YtncmobkhenfhpaaGreat
open Go.RowKit
open Pl
attribute [local go_sem ↓] Go.wp_at_zero Go.wp_at_succ
def X4 [Old] (w w':World):Prop:=∀(b:Nat) (cs:Array Value) (t:TypeId) (fz:Nat × Nat),((t≠142∧t≠72∧t≠146)∨b < Old.n)→w.heap[b]? =some (.cells cs t fz)→w'.heap[b]? =some (.cells cs t fz)
theorem X4.trans [Old] {a b c:World} (h:X4 a b) (k:X4 b c):X4 a c:=fun x cs t fz ht hx=>k x cs t fz ht (h x cs t fz ht hx)
theorem X4.of_below [Old] {w w':World} (hb:Below w.heap.size w w'):X4 w w':=fun b _ _ _ _ h=>(hb.block b (Yo h)).trans h
theorem X4.of_but [Old] {e:TypeId} {w w':World} (hk:Ze e w w') (he:e=142∨e=72∨e=146):X4 w w':=fun b cs t fz ht h=>hk b cs t fz (ht.imp (fun hq=>by obtain ⟨h1,h2,h3⟩:=hq;rcases he with rfl | rfl | rfl <;> assumption) id) h
theorem X4.bk [Old] {w w':World} {g:Nat} {t:TypeId} {cs:List Value} (h:X4 w w') (hb:Bk w g t cs) (h1:t≠142) (h2:t≠72) (h3:t≠146):Bk w' g t cs:=h g _ t _ (.inl ⟨h1,h2,h3⟩) hb
theorem X4.own [Old] {w w':World} {base:Nat} {t:TypeId} {s n:Nat} {v:Value} {xs:List Value} (h:X4 w w') (ho:w.ownsRow base t s v n xs) (h1:t≠142) (h2:t≠72) (h3:t≠146):w'.ownsRow base t s v n xs:=by
 refine ⟨ho.1,?_⟩;rcases ho.2 with hn | ⟨b,cap,cur,rfl,hb,hg,rest⟩
 ·exact .inl hn
 ·exact .inr ⟨b,cap,cur,rfl,hb,h b _ t _ (.inl ⟨h1,h2,h3⟩) hg,rest⟩
theorem X4.keep [Old] {w w':World} (h:X4 w w'):ZG w w':=fun b cs t fz ht hb=>h b cs t fz (ht.imp (fun e=>by subst e;decide) id) hb
theorem X4.frs [Old] {w w':World} {base:Nat} {v:Value} {fs:List RF} (h:X4 w w') (ho:Yd base w v fs):Yd base w' v fs:=by
 obtain ⟨cs,g1,g2⟩:=ho;exact ⟨cs,h.own g1 (by decide) (by decide) (by decide),g2.keep h.keep⟩
theorem X4.ints [Old] {w w':World} {base:Nat} {v:Value} {zs:List Int} (h:X4 w w') (ho:ZI base w v zs):ZI base w' v zs:=⟨h.own ho.1 (by decide) (by decide) (by decide),ho.2⟩
theorem Yy.ge [Old] {base:Nat} {w:World} {v:Value} {cols:List (List En)} (h:Yy base w v cols):∀b,v.ownBlock=some b→base≤b:=by
 intro b hb;obtain ⟨cs,h1,_⟩:=h;rcases h1.2 with ⟨rfl,_⟩ | ⟨g',cap,cur,rfl,hb',_⟩
 ·simp [Value.ownBlock] at hb
 ·simp [Value.ownBlock] at hb;omega
namespace Pl
theorem Ydo {n k:Nat} {Cs:Mx} {f:Nat→Rat} (hk:k < n):(vcL n Cs).set k (spV f n)=vcL n (Zbm Cs k f):=by
 refine List.ext_getElem? fun i=>?_
 rcases JX i n with e | e
 ·rw [Ud e,List.getElem?_set];by_cases g:k=i
  ·subst g;rw [if_pos rfl,XR,if_pos hk]
   congr 1
   exact XJ fun r _=>by unfold Zbm;rw [if_pos rfl]
  ·rw [if_neg g,Ud e]
   congr 1
   exact XJ fun r _=>by unfold Zbm;rw [if_neg fun h=>g h.symm]
 ·rw [JU (by rw [List.length_set,XR];exact e),JU (by rw [XR];exact e)]
end Pl
theorem info_upd:(Tryz.prog.info? 146).map (fun i=>(i.zero,i.size,i.bytes))=some (some (.agg #[.int .i64 0,.slice none 0 0]),2,32):=by kernel_rfl
theorem Zcc [Old] {ops:Array Oper} {rest:List Oper} {o:Oper} {a:Act} {Q:Exit→Act→World→Prop} (hgd:o.guard=none) (s x:Operand)
 (ho:o.op= .call { callee:= .builtin .append,args:=#[s,x],argTypes:=#[140,140] })
 (W:World) (base bi:Nat) (v:Value) (T n q:Nat) (k:Nat→Nat) (im:Mx) (y:Nat→Rat) (hs:a.eval s=v) (hown:Zgw base bi W v T n k im) (A:Option Addr) (l c:Nat) (hf:Yd bi W (.slice A l c) (Z7 n y))
 (hx:a.eval x= .slice (some ⟨W.heap.size,0,none⟩) 1 1) (hn:T+1≤1099511627776) (hbase:base≤W.heap.size)
 (h:∀v' w',Zgw base bi w' v' (T+1) n (WF k T q) (WF im T y)→Ze 146 W w'→Below base W w'→wpList Tryz.prog ops Q rest (a.put o.dst v') w') (hO:Old.n≤base:=by first | assumption | exact Nat.zero_le _ | omega | ((first | with_reducible refine Zb.le ?_ | with_reducible refine Zb.le1 ?_ | with_reducible refine Zb.le2 ?_ | with_reducible refine Zb.le3 ?_);repeat (first | assumption | exact Zb.up (by assumption) hOl | exact Zb.up (Hid.out (by assumption)) hOl | with_reducible refine Zb.set ?_ _ _ | with_reducible refine Zb.mk_ ?_ _ | with_reducible refine Zb.dr ?_ | with_reducible refine Zb.drN ?_ | refine Zb.up (by assumption) ?_ | refine Zb.up (Hid.out (by assumption)) ?_))):
 wpList Tryz.prog ops Q (o::rest) a (W.alloc (.cells #[.int .i64 (q:Int),.slice A l c] 146)):=by
 obtain ⟨cs,h1,h2⟩:=hown;obtain ⟨i0,hi,b,d,f⟩:=info_parts info_upd;have hl:cs.length=T * 2:=h1.1;refine YI hgd s x 140 ho 146 i0 _ 2 32 Tryz.underlying140 hi b d f rfl (by decide) W base v T cs [.int .i64 (q:Int),.slice A l c] hs h1 hx rfl (by intro u hu;simp at hu;rcases hu with rfl | rfl <;> rfl) (by unfold maxLen;omega) (by omega) hbase fun v' w' g1 g2 g3=>h v' w' ⟨_,g1,fun t ht=>?_⟩ g2 g3
 by_cases e:t=T
 ·subst e;refine ⟨.slice A l c,?_,?_,?_⟩
  ·rw [ZO,List.getElem?_append_right (by omega),hl,Nat.sub_self];rfl
  ·rw [List.getElem?_append_right (by omega),hl,show t * 2+1 - t * 2=1 by omega];rfl
  ·rw [ZO];exact hf.but g2 (by decide) (by decide)
 ·obtain ⟨u,e1,e2,e3⟩:=h2 t (by omega);refine ⟨u,?_,?_,?_⟩
  ·rw [ZF (by omega),List.getElem?_append_left (by omega)];exact e1
  ·rw [List.getElem?_append_left (by omega)];exact e2
  ·rw [ZF (by omega)];exact e3.but g2 (by decide) (by decide)
theorem Zob [Old] (base bi g n K T gc cc:Nat) (Cs:Mx) (s0 s1 s2 s3:Value) (Au:Option Addr) (cu:Nat) (w:World) (hX:Bk w g 142 [.int .i64 (n:Int),.slice (some ⟨gc,0,none⟩) n cc,s0,s1,s2,s3,.slice Au T cu]) (hge:base≤g) (hO:Yy base w (.slice (some ⟨gc,0,none⟩) n cc) (vcL n Cs)) (hT:1≤T) (hT2:T≤17) (hn:n≤7) (hK:1≤K) (hE:5^n * K≤4000000)
 (hs:∀r c,r < n→c < n→Sz K (Cs c r)) (hi:Xf n Cs) (hbase:base≤w.heap.size) (hOl:Zb w:=by (repeat (first | assumption | exact Zb.up (by assumption) hOl | exact Zb.up (Hid.out (by assumption)) hOl | with_reducible refine Zb.set ?_ _ _ | with_reducible refine Zb.mk_ ?_ _ | with_reducible refine Zb.dr ?_ | with_reducible refine Zb.drN ?_ | refine Zb.up (by assumption) ?_ | refine Zb.up (Hid.out (by assumption)) ?_))) (hOb:Old.n≤base:=by first | assumption | exact Nat.zero_le _ | omega | ((first | with_reducible refine Zb.le ?_ | with_reducible refine Zb.le1 ?_ | with_reducible refine Zb.le2 ?_ | with_reducible refine Zb.le3 ?_);repeat (first | assumption | exact Zb.up (by assumption) hOl | exact Zb.up (Hid.out (by assumption)) hOl | with_reducible refine Zb.set ?_ _ _ | with_reducible refine Zb.mk_ ?_ _ | with_reducible refine Zb.dr ?_ | with_reducible refine Zb.drN ?_ | refine Zb.up (by assumption) ?_ | refine Zb.up (Hid.out (by assumption)) ?_))):
 Calls Tryz.prog 123 #[.pointer (some ⟨g,0,none⟩)] w fun o w'=>o= .returned (.tuple #[])∧Zca base bi w' g n K Cs∧Below base w w'∧X4 w w':=by
 have l:=hOl.le;have y1:=hX.cellAt 1 rfl;have y6:=hX.cellAt 6 rfl;have HX:=JZ hX;have HO:=JZ hO;have HS:=JZ hs;have HI:=JZ hi;have HK:=JZ hK;have HE:=JZ hE;have f:gc < w.heap.size:=by
  obtain ⟨cs,h1,_⟩:=hO;exact Ue h1 gc rfl
 clear hX hO hs hi hK hE;go_enter Tryz.func123,Tryz.ntmps123;go_wp2_with fail;clear y1 y6;refine (Zbe _ n K Cs _ HO.out.vecs hn HK.out HE.out HS.out).mono ?_;rintro _ w1 ⟨e,⟨R,C,L,Um,z0,z1,z2,z3,rfl,hF,h0,h1,h2,h3⟩ | ⟨rfl,k⟩⟩
 ·have HF:=JZ hF;obtain ⟨A0,c0,rfl⟩:=h0.nshape;obtain ⟨A1,c1,rfl⟩:=h1.nshape;obtain ⟨A2,c2,rfl⟩:=h2.nshape;obtain ⟨A3,c3,rfl⟩:=h3.nshape;obtain ⟨W2,j,hY,b⟩:∃W2,w1.alloc (.cells #[.slice A0 n c0,.slice A1 n c1,.slice A2 n c2,.slice A3 n c3] 137)=W2∧Bk W2 w1.heap.size 137 [.slice A0 n c0,.slice A1 n c1,.slice A2 n c2,.slice A3 n c3]∧Below w1.heap.size w1 W2:=⟨_,rfl,Bk.new w1 _ _,Zc w1 _⟩;obtain ⟨x0,x1,x2,x3⟩:=hY.four;have d:=Za e b e.size;have a:=HX.out.later d;have e0:=h0.below b;have e1:=h1.below b;have e2:=h2.below b;have e3:=h3.below b;have h:=HO.out.below d;have q2:=a.cellAt 2 rfl;have q3:=a.cellAt 3 rfl;have q4:=a.cellAt 4 rfl;have q5:=a.cellAt 5 rfl;have q6:=a.cellAt 6 rfl;have r2:=a.frozen 2;have r3:=a.frozen 3;have r4:=a.frozen 4;have r5:=a.frozen 5;have r6:=a.frozen 6;clear hF h0 h1 h2 h3 hY e b;go_wp2;clear j x0 x1 x2 x3 q2 q3 q4 q5 q6 r2 r3 r4 r5 r6;have b2:=a.set_ 2 (.slice A0 n c0);have b3:=b2.set_ 3 (.slice A1 n c1);have b4:=b3.set_ 4 (.slice A2 n c2);have b5:=b4.set_ 5 (.slice A3 n c3);have b6:=b5.set_ 6 (.slice none 0 0);have kk:=(((Ze.setCell a 2 (.slice A0 n c0)).trans (Ze.setCell b2 3 (.slice A1 n c1))).trans (Ze.setCell b3 4 (.slice A2 n c2))).trans ((Ze.setCell b4 5 (.slice A3 n c3)).trans (Ze.setCell b5 6 (.slice none 0 0)));have i:=(((((d.mono hbase).setCell (p:=⟨g,2,none⟩) hge (.slice A0 n c0)).setCell (p:=⟨g,3,none⟩) hge (.slice A1 n c1)).setCell (p:=⟨g,4,none⟩) hge (.slice A2 n c2)).setCell (p:=⟨g,5,none⟩) hge (.slice A3 n c3)).setCell (p:=⟨g,6,none⟩) hge (.slice none 0 0)
  go_end0
  exact ⟨rfl,⟨0,gc,cc,fun _=>0,R,C,fun _ _=>0,fun _ _=>0,L,Um,fun _=>Cs,_,_,_,_,_,b6,⟨hge,by omega,HE.out,rfl⟩,Ups.zero HS.out HI.out _ _ _,HF.out,h.but kk (by decide) (by decide) (by decide),(e0.but kk (by decide)).monoB hbase,(e1.but kk (by decide)).monoB hbase,(e2.but kk (by decide) (by decide) (by decide)).monoB f,(e3.but kk (by decide) (by decide) (by decide)).monoB f,Zgw.nil _ _ _ _ _ _⟩,i,(X4.of_below d).trans (X4.of_but kk (.inl rfl))⟩
 ·exact absurd HI.out k
theorem Zoc [Old] (base bi g n K:Nat) (Cs:Mx) (v:Value) (es:List En) (k:Nat) (x:Nat→Rat) (w:World) (hB:Zca base bi w g n K Cs) (h:Wp w v es) (hgo:Pl.Good n es) (hrs:∀(k:Nat) (e:En),es[k]? =some e→e.f.Rs K) (hk:k < n)
 (hx:∀r,r < n→Xw n Cs x r=XG es r) (hx0:x k≠0) (hbase:base≤w.heap.size) (hbi:bi≤w.heap.size) (hOl:Zb w:=by (repeat (first | assumption | exact Zb.up (by assumption) hOl | exact Zb.up (Hid.out (by assumption)) hOl | with_reducible refine Zb.set ?_ _ _ | with_reducible refine Zb.mk_ ?_ _ | with_reducible refine Zb.dr ?_ | with_reducible refine Zb.drN ?_ | refine Zb.up (by assumption) ?_ | refine Zb.up (Hid.out (by assumption)) ?_))) (hO:Old.n≤base:=by first | assumption | exact Nat.zero_le _ | omega | ((first | with_reducible refine Zb.le ?_ | with_reducible refine Zb.le1 ?_ | with_reducible refine Zb.le2 ?_ | with_reducible refine Zb.le3 ?_);repeat (first | assumption | exact Zb.up (by assumption) hOl | exact Zb.up (Hid.out (by assumption)) hOl | with_reducible refine Zb.set ?_ _ _ | with_reducible refine Zb.mk_ ?_ _ | with_reducible refine Zb.dr ?_ | with_reducible refine Zb.drN ?_ | refine Zb.up (by assumption) ?_ | refine Zb.up (Hid.out (by assumption)) ?_))):
 Calls Tryz.prog 92 #[.pointer (some ⟨g,0,none⟩),.int .i64 (k:Int),v] w fun o w'=>o= .returned (.int .i64 0)∧Zca base bi w' g n K (Zbm Cs k (XG es))∧Below base w w'∧X4 w w':=by
 have ce:=hOl.le;have HB:=JZ hB;obtain ⟨T,gc,cc,ks,R,C,im,V,L,Um,CC,s0,s1,s2,s3,vu,hX,⟨a6,hT,hE,a7⟩,hU,hF,hO,i0,i1,v2,v3,a8⟩:=hB;obtain ⟨Au,cu,rfl,c0,c3⟩:=a8.shape;have b9:=hF.n7;have y0:=hX.cellAt 0 rfl;have X:Hid (1≤K):=JZ (Nat.pos_of_ne_zero fun e=>by have:=hF.e1;subst e;simp at this);have HE:Hid (5^n * K≤4000000):=JZ hE;have ad:Hid (K≤4000000):=JZ (JW (Nat.le_mul_of_pos_left K (Nat.pow_pos (by decide))) hE);have ae:Hid (Xf n Cs):=JZ (by rw [← a7];exact hU.indep T (JY _));have ba:Hid (Zme es=spV (XG es) n):=JZ (cpyV_spV hgo);have bb:Hid (es.length≤1099511627776):=JZ (by
  have e1:(Zme es).length=es.length:=by simp [Zme]
  rw [cpyV_spV hgo] at e1;have:=Wt (f:=XG es) n;omega)
 have HU:=JZ hU;have HF:=JZ hF;have af:=JZ a7;have G:=JZ hrs;have bc:=JZ hgo;have bd:=JZ hx;have be:=JZ hx0;have HO:=JZ hO;have HX:=JZ hX;have bf:=JZ i0;have bg:=JZ i1;have ag:=JZ v2;have ah:=JZ v3;have bh:=JZ a8;have cf:(k:Int) < n:=by omega
 obtain ⟨Av,nv,cv,rfl⟩:∃A n c,v= .slice A n c:=by obtain ⟨A,c,e,_⟩:=h.shape;exact ⟨A,_,c,e⟩
 have hv:=h;clear hX hU hF a7 hE hO i0 i1 v2 v3 a8 hrs hgo hx hx0 h;go_enter Tryz.func92,Tryz.ntmps92;go_wp2_with fail;refine (WE _ es n K _ hv (by omega) G.out (by have:=ad.out;omega) bc.out).mono ?_;rintro _ w1 ⟨v1,rfl,e1,m⟩;obtain ⟨A1,c1,rfl⟩:=e1.slice;clear y0;have ai:=hv.below m;clear hv;go_wp2_with fail;refine (Zgx base bi g n K Cs _ (XG es) _ (HB.out.below m) e1.frs (fun i _=>Sz_col G.out X.out i)).mono ?_;rintro _ w2 ⟨v2,x',rfl,aa,bw,e2,ab⟩;have aj:Hid (x' k≠0):=JZ (by rw [ae.out.uniq aa bd.out k hk];exact be.out);have bj:=JZ aa;have s:=Za m ab m.size;have hv:=ai.below ab;obtain ⟨g2,c2,b3,c4,c5,b4,c9⟩:=e2.shape (by rw [Zi];omega);rw [Zi] at b3 b4;subst b3;obtain ⟨bz,oz,A6,n6,c6,A7,n7,c7,hA,_,⟨t0,t1,t2,t3⟩,b5⟩:=e2.frs.elem (JR _ _) (ZC hk);injection hA with hA;injection hA with hA1 hA2;subst hA1;subst hA2;simp only [Nat.zero_add] at t0 t1 t2 t3;have bl:(qs (x' k)==0)=false:=by
  have:=aj.out;simpa using fun e=>this (ZW.1 e)
 have bx:=m.size;clear e1 ai aa bw m;have bm:=JZ e2;clear e2;go_wp2_with fail;refine (Zz _ (canF (x' k)) _ b5).mono ?_;rw [Zu];rintro _ w3 ⟨rfl,M⟩;have d:=Za s M s.size;have bn:=JZ (bm.out.below M);have ak:=hv.below M;have Y:=HX.out.later d;have al:=HO.out.below d;have y1:=Y.cellAt 1 rfl;clear t0 t1 t2 t3 b5 hv s ab M;have hv:=ak;have hO:=al
 go_upto_region 9 with (fail)
 clear bl;have Y1:=Zm y1;have H:=Zf w3;clear y1;refine Zp 8 [0,1,2,3,4,5,6,7,8] (by kernel_rfl) (by kernel_rfl) ?_;repeat ((first | (refine Zd (v:=?_) rfl rfl rfl ?_ ?_;rotate_left;(· (intro _ ac;go_simp;(try go_bits);(try with_reducible rfl)))) | (refine Zj (v:=?_) rfl rfl rfl ?_ ?_;rotate_left;(· (intro _ ac;go_simp;(try go_bits);(try with_reducible rfl)))) | refine Zk rfl rfl rfl ?_);(try simp only [Act.put,pu1,pu2,pu3,pu4,pu5,pu6]))
 refine Zh rfl rfl (fun KR hKR=>?_);go_simp;with_reducible refine (UJ _ es K _ (hv.below H) G.out (by have:=ad.out;omega) bb.out).mono ?_
 rw [ba.out];rintro _ w6 ⟨v6,rfl,e6,b6⟩;have l:=Za H b6 H.size;obtain ⟨A6,n6,c6,rfl⟩:∃A n c,v6= .slice A n c:=by obtain ⟨A,c,e,_⟩:=e6.vec.shape;exact ⟨A,_,c,e⟩
 have Z:=hO.below l;obtain ⟨_,m0,m1,-⟩:=Z.at_ (Ud (L:=Cs) hk);refine hKR.out _ _ (Or.inr l) ?_;clear hKR KR;(try simp only [Act.put,pu1,pu2,pu3,pu4,pu5,pu6]);repeat ((first | (refine Zd (v:=?_) rfl rfl rfl ?_ ?_;rotate_left;(· (intro _ ac;go_simp;(try go_bits);(try with_reducible rfl)))) | (refine Zj (v:=?_) rfl rfl rfl ?_ ?_;rotate_left;(· (intro _ ac;go_simp;(try go_bits);(try with_reducible rfl)))) | refine Zk rfl rfl rfl ?_);(try simp only [Act.put,pu1,pu2,pu3,pu4,pu5,pu6]))
 refine Zh rfl rfl (fun KR hKR=>?_);go_simp;refine hKR.out _ _ (Or.inl (by decide)) ?_;clear hKR KR;(try simp only [Act.put,pu1,pu2,pu3,pu4,pu5,pu6]);refine Zx ?_;clear Y1;obtain ⟨a9,k7⟩:=Z.set_ (k:=k) (by rw [XR];exact hk) e6.vec;rw [Ydo hk] at a9;have a:=Za d l d.size;have a0:=Z6.of_set (g:=gc) (i:=k) (v:= .slice A6 n6 c6) (w:=w6);have I:=k7.bk (Y.later l) (by decide);have am:=(bf.out.below a).but k7 (by decide);have an:=(bg.out.below a).but k7 (by decide);have ao:=(ag.out.below a).others a0 k7 (fun b hb e=>by have:=ag.out.ge b hb;injection e with e;omega);have ap:=(ah.out.below a).others a0 k7 (fun b hb e=>by have:=ah.out.ge b hb;injection e with e;omega);have N:=(bh.out.below a).but k7 (by decide) (by decide) (by decide);have e7:=((bn.out.below l).but k7 (by decide) (by decide)).monoB (show bi≤w1.heap.size by omega);have t:=(a.mono hbase).setCell (p:=⟨gc,k,none⟩) HO.out.base (.slice A6 n6 c6);have aq:=(X4.of_below a).trans (X4.of_but k7 (.inr (.inl rfl)));generalize w6.setCell ⟨gc,k,none⟩ (.slice A6 n6 c6)=W7 at *;have ar:=t.size;clear hv ak hO al Z Y d H l b6 e6 a a0 k7 m0 m1;obtain ⟨y6,bv⟩:W7.cell? ⟨g,6,none⟩=some (.slice Au T cu)∧W7.frozen? ⟨g,6,none⟩=false:=⟨I.cellAt 6 rfl,I.frozen 6⟩;have au:=JW hbase ar;go_wp2_with (at_builtin;refine Zcc rfl (.tmp 53) (.tmp 57) rfl W7 base bi (.slice Au T cu) T n k ks im x' rfl N _ _ _ e7 rfl (by omega) au ?_);intro v8 W8 F k8 b8;obtain ⟨A8,c8,rfl,ca,cb⟩:=F.shape;have u:=k8.bk I (by decide);have av:=a9.but k8 (by decide) (by decide) (by decide);have aw:=am.but k8 (by decide);have ax:=an.but k8 (by decide);have ay:=ao.but k8 (by decide) (by decide) (by decide);have az:=ap.but k8 (by decide) (by decide) (by decide);have b0:=aq.trans (X4.of_but k8 (.inr (.inr rfl)));have O:=t.trans b8;have k9:=Ze.setCell u 6 (.slice A8 (T+1) c8);have y:=u.set_ 6 (.slice A8 (T+1) c8);have J:=av.but k9 (by decide) (by decide) (by decide);have a1:=aw.but k9 (by decide);have a2:=ax.but k9 (by decide);have a3:=ay.but k9 (by decide) (by decide) (by decide);have a4:=az.but k9 (by decide) (by decide) (by decide);have z:=F.but k9 (by decide) (by decide) (by decide);have a5:=b0.trans (X4.of_but k9 (.inl rfl));have j:=O.setCell (p:=⟨g,6,none⟩) a6 (.slice A8 (T+1) c8);have q6:=u.cellAt 6 rfl;have bo:=u.frozen 6;clear y6 bv I a9 am an ao ap N e7 t aq k8 b8 u av aw ax ay az F b0 O k9
 go_upto_region 11 with (fail)
 clear q6 bo;generalize W8.setCell ⟨g,6,none⟩ (.slice A8 (T+1) c8)=W9 at *;have B:=HU.out.snoc (q:=k) (v:=XG es) (x:=x') hk (fun r hr=>by rw [af.out];exact bj.out r hr) aj.out (fun r _=>Sz_col G.out X.out r);have D:WF CC (T+1) (Zbm (CC T) k (XG es)) (T+1)=Zbm Cs k (XG es):=by rw [ZO,af.out]
 have b1:base≤W9.heap.size:=JW hbase j.size;have p6:=y.cellAt 6 rfl;by_cases cd:T=16
 ·have P:Xf n (Zbm Cs k (XG es)):=by rw [← D];exact B.indep (T+1) (JY _)
  have S:∀r c,r < n→c < n→Sz K (Zbm Cs k (XG es) c r):=by rw [← D];exact B.sz (T+1) (JY _)
  have bp:=JZ y;have bq:=JZ P;have br:=JZ S;have bs:=JZ J;have b2:16 < (T:Int)+1:=by omega
  clear y P S J a1 a2 a3 a4 z B D;go_wp2_with fail;clear p6;refine (Zob base bi g n K (T+1) gc cc (Zbm Cs k (XG es)) s0 s1 s2 s3 A8 c8 _ bp.out a6 bs.out (by omega) (by omega) b9 X.out HE.out br.out bq.out b1).mono ?_;rintro _ cg ⟨rfl,b7,E,U⟩;have a:=j.trans E;have bt:=a5.trans U;clear j E a5 U;go_wp2;go_ret;exact ⟨rfl,b7,a,bt⟩
 ·have b2:¬16 < (T:Int)+1:=by omega
  have bu:Zca base bi W9 g n K (Zbm Cs k (XG es)):=⟨T+1,gc,cc,_,R,C,_,_,L,Um,_,_,_,_,_,_,y,⟨a6,by omega,HE.out,D⟩,B,by rw [ZF (by omega)];exact HF.out,J,a1,a2,a3,a4,z⟩;clear y J a1 a2 a3 a4 z B D;go_wp2;go_ret;exact ⟨rfl,bu,j,a5⟩
def Zwl [Old] (w:World) (e:Nat) (p:LPd) (ph pv:Int) (vb vB vz:Value):Prop:=
 ∃A n c A' n' c' A'' n'' c'',Bk w e 107 [.slice A n c,.slice A' n' c',.slice A'' n'' c'',.int .i64 ph,vb,.int .i64 pv,vB,vz]∧WA w (.slice A n c) p.cost∧Xz w (.slice A' n' c') p.cols∧WA w (.slice A'' n'' c'') p.right
theorem Zwl.below [Old] {w w':World} {e:Nat} {p:LPd} {ph pv:Int} {vb vB vz:Value} (h:Zwl w e p ph pv vb vB vz) (hb:Below w.heap.size w w'):Zwl w' e p ph pv vb vB vz:=by
 obtain ⟨A,n,c,A',n',c',a,b,d,h1,h2,h3,h4⟩:=h;exact ⟨A,n,c,A',n',c',a,b,d,h1.later hb,h2.below hb,h3.below hb,h4.below hb⟩
theorem Zwl.cells [Old] {w:World} {e:Nat} {p:LPd} {ph pv:Int} {vb vB vz:Value} (h:Zwl w e p ph pv vb vB vz):w.cell? ⟨e,3,none⟩=some (.int .i64 ph)∧w.cell? ⟨e,4,none⟩=some vb∧w.cell? ⟨e,5,none⟩=some (.int .i64 pv)∧w.cell? ⟨e,6,none⟩=some vB∧w.cell? ⟨e,7,none⟩=some vz:=by
 obtain ⟨A,n,c,A',n',c',a,b,d,h1,h2,h3,h4⟩:=h;exact ⟨h1.cellAt 3 rfl,h1.cellAt 4 rfl,h1.cellAt 5 rfl,h1.cellAt 6 rfl,h1.cellAt 7 rfl⟩
def Pl.LPd.Ft (p:LPd) (K:Nat):Prop:=p.Fit K∧p.right.length≤7∧5^p.right.length * K≤4000000
theorem Pl.LPd.Ft.k {p:LPd} {K:Nat} (h:p.Ft K):1≤K∧K≤4000000:=⟨h.1.k1,JW h.1.le h.2.2⟩
theorem Vl [Old] {w w':World} {g:Nat} {x y z u:Value} {b b':Bool} {A A':Option Addr} {n c n' c':Nat} {f:RF} {P:RF→Prop} (hB:Bk w' g 48 [x,y,z,u]) (hm:Zt w' (.agg #[.bool b,.slice A n c,.bool b',.slice A' n' c']) f) (hb:Below w.heap.size w w') (hg:w.heap.size≤g) (hP:P f) (hO:Old.n≤w.heap.size:=by first | assumption | exact Nat.zero_le _ | omega | ((first | with_reducible refine Zb.le ?_ | with_reducible refine Zb.le1 ?_ | with_reducible refine Zb.le2 ?_ | with_reducible refine Zb.le3 ?_);repeat (first | assumption | exact Zb.up (by assumption) hOl | exact Zb.up (Hid.out (by assumption)) hOl | with_reducible refine Zb.set ?_ _ _ | with_reducible refine Zb.mk_ ?_ _ | with_reducible refine Zb.dr ?_ | with_reducible refine Zb.drN ?_ | refine Zb.up (by assumption) ?_ | refine Zb.up (Hid.out (by assumption)) ?_))):
 ∃v' f',Ending.returned (.agg [.bool b,.slice A n c,.bool b',.slice A' n' c'].toArray)= .returned v'∧Zt ((((w'.setCell ⟨g,0,none⟩ (.bool b)).setCell ⟨g,1,none⟩ (.slice A n c)).setCell ⟨g,2,none⟩ (.bool b')).setCell ⟨g,3,none⟩ (.slice A' n' c')) v' f'∧P f'∧Below w.heap.size w ((((w'.setCell ⟨g,0,none⟩ (.bool b)).setCell ⟨g,1,none⟩ (.slice A n c)).setCell ⟨g,2,none⟩ (.bool b')).setCell ⟨g,3,none⟩ (.slice A' n' c')):=
 ⟨_,f,rfl,hm.keep (hB.keep4 (by decide) _ _ _ _),hP,ZE hb hg _ _ _ _⟩
theorem Zfi [Old] (z:Int) (w:World) (h0: -9223372036854775808≤z) (h1:z≤9223372036854775807) (hOl:Zb w:=by (repeat (first | assumption | exact Zb.up (by assumption) hOl | exact Zb.up (Hid.out (by assumption)) hOl | with_reducible refine Zb.set ?_ _ _ | with_reducible refine Zb.mk_ ?_ _ | with_reducible refine Zb.dr ?_ | with_reducible refine Zb.drN ?_ | refine Zb.up (by assumption) ?_ | refine Zb.up (Hid.out (by assumption)) ?_))):
 Calls Tryz.prog 100 #[.int .i64 z] w fun e w'=>∃v' f,e= .returned v'∧Zt w' v' f∧f=canF (z:Rat)∧Below w.heap.size w w':=by
 have i:=hOl.le;obtain ⟨W,hW,hR,g⟩:=Y7 w (.bool false) (.slice none 0 0) (.bool false) (.slice none 0 0);go_enter Tryz.func100,Tryz.ntmps100;go_wp2_with fail;clear hW;refine (V5 z 1 _ h0 h1 (by omega) (by omega)).mono ?_;rintro _ w1 ⟨v1,hv,e1,b⟩;rw [if_neg (by omega)] at hv e1;subst hv;rw [Zdx] at e1;obtain ⟨B,m,d,B',m',d',rfl,_,_⟩:=id e1;obtain ⟨W2,h,hY,c⟩:=Y7 w1 (.bool (canF (z:Rat)).num.neg) (.slice B m d) (.bool (canF (z:Rat)).den.neg) (.slice B' m' d');have a:=hR.later (Za b c b.size);obtain ⟨c0,c1,c2,c3⟩:=a.four;obtain ⟨f0,f1,f2,f3⟩:=a.fourF;obtain ⟨x0,x1,x2,x3⟩:=hY.four;go_wp2;clear h;refine Zq Tryz.results100 Tryz.underlying48 (by kernel_rfl) rfl (a.set4 _ _ _ _) rfl ?_;exact Vl (P:=fun f=>f=canF (z:Rat)) a (e1.below c) (Za g (Za b c b.size) g.size) (JY _) rfl
theorem Zof [Old] (e:Nat) (p:LPd) (K:Nat) (ph pv:Int) (vb vB vz:Value) (j:Int) (w:World) (h:Zwl w e p ph pv vb vB vz) (F:p.Ft K) (hz:lpErr p=0) (h0: -(p.right.length:Int)≤j) (h1:j < p.cols.length) (hOl:Zb w:=by (repeat (first | assumption | exact Zb.up (by assumption) hOl | exact Zb.up (Hid.out (by assumption)) hOl | with_reducible refine Zb.set ?_ _ _ | with_reducible refine Zb.mk_ ?_ _ | with_reducible refine Zb.dr ?_ | with_reducible refine Zb.drN ?_ | refine Zb.up (by assumption) ?_ | refine Zb.up (Hid.out (by assumption)) ?_))):
 Calls Tryz.prog 84 #[.pointer (some ⟨e,0,none⟩),.int .i64 j] w fun o w'=>∃v' es,o= .returned v'∧Wp w' v' es∧p.col j=XG es∧Pl.Good p.right.length es∧(∀(k:Nat) (e:En),es[k]? =some e→e.f.Rs K)∧Below w.heap.size w w':=by
 have N:=hOl.le;obtain ⟨A,n,c,A',n',c',U,J,V,hB,hc,hv,hr⟩:=h;have O:=F.2.1;have H:=F.1.cols;rcases Int.lt_or_le j 0 with hj | hj
 ·obtain ⟨r,X⟩:∃r:Nat,-1 - j=(r:Int):=⟨(-1 - j).toNat,by omega⟩;obtain rfl:j= -1 - (r:Int):=by omega
  have I:r < p.right.length:=by omega
  obtain ⟨f,hf⟩:=Yi (fs:=p.right) (i:=r) I;have P:f.Sm:=(F.1.rs r f hf).sm F.1.kb;obtain ⟨r1,r2,r3⟩:=hr.len;have y2:=hB.cellAt 2 rfl;obtain ⟨b,L,A1,n1,c1,A2,n2,c2,rfl,_,⟨q0,q1,q2,q3⟩,y⟩:=hr.elem (JR _ _) hf;have R:(r:Int) < J:=by omega
  have hq:qAt p.right r=f.q:=Yt hf;have HQ:=JZ hq;have D:Hid (∀s:Rat,s=(if qs f.q < 0 then -1 else 1)→p.col (-1 - (r:Int))=XG [⟨(r:Int),canF s⟩]∧Pl.Good p.right.length [⟨(r:Int),canF s⟩]∧∀(k:Nat) (e:En),[(⟨(r:Int),canF s⟩:En)][k]? =some e→e.f.Rs K):=JZ fun s hs=>by
   have E:s≠0∧Sz 1 s:=by
    rw [hs];split
    ·exact ⟨by decide,Zpf Sz_one⟩
    ·exact ⟨by decide,Sz_one⟩
   refine ⟨?_,⟨fun k e he=>?_,⟨rfl,trivial⟩,fun k e he=>?_⟩,fun k e he=>?_⟩
   ·rw [LPd.col_neg]
    funext i
    by_cases e:i=r
    ·subst e;rw [if_pos rfl,hq,← hs];show s=if (i:Int)=(i:Int) then (canF s).q else 0
     rw [if_pos rfl,Zu]
    ·rw [if_neg e];show (0:Rat)=if (r:Int)=(i:Int) then (canF s).q else 0
     rw [if_neg (by omega)]
   ·match k,he with
    | 0,he=>simp at he;subst he;constructor <;> simp <;> omega
   ·match k,he with
    | 0,he=>simp at he;subst he;rw [Zu];exact E.1
   ·match k,he with
    | 0,he=>simp at he;subst he;exact (E.2.mono F.1.k1).rs
  have S:qs f.q=0∨qs f.q=1∨qs f.q= -1:=by have:=Vb f.q;omega
  clear hf H F hz hc hv hr;go_enter Tryz.func84,Tryz.ntmps84;go_wp2_with fail;refine (Zz _ f _ y).mono ?_;rintro _ w1 ⟨rfl,v⟩;by_cases hn:qs f.q < 0
  ·have t:=D.out (-1) (by rw [if_pos hn]);have x:=JZ t;clear y2 q0 q1 q2 q3 y t hq;go_wp2_with fail;refine (V5 (-1) 1 _ (by omega) (by omega) (by omega) (by omega)).mono ?_;rintro _ w2 ⟨v2,G,e2,C⟩;rw [if_neg (by omega)] at G e2;subst G;rw [show Rat.divInt (-1) 1=(-1:Rat) by decide] at e2;obtain ⟨B,m,d,B',m',d',rfl,_,_⟩:=id e2;have a:=Za v C v.size;obtain ⟨W2,z,hY,g⟩:=Y7 w2 (.bool (canF (-1)).num.neg) (.slice B m d) (.bool (canF (-1)).den.neg) (.slice B' m' d');obtain ⟨x0,x1,x2,x3⟩:=hY.four;have e3:=e2.below g;go_wp2;clear z;go_ret;have hZ:=Bk.new W2 87 [.int .i64 (r:Int),.bool (canF (-1)).num.neg,.slice B m d,.bool (canF (-1)).den.neg,.slice B' m' d'];have u:=Zc W2 (.cells #[.int .i64 (r:Int),.bool (canF (-1)).num.neg,.slice B m d,.bool (canF (-1)).den.neg,.slice B' m' d'] 87);obtain ⟨g1,g2,g3⟩:=x.out;exact ⟨_,_,rfl,Wp.one hZ (e3.below u),g1,g2,g3,Za a (Za g u g.size) a.size⟩
  ·have t:=D.out 1 (by rw [if_neg hn]);have x:=JZ t;clear y2 q0 q1 q2 q3 y t hq;go_wp2_with fail;refine (Zcu _).mono ?_;rintro _ w2 ⟨v2,rfl,e2,C⟩;obtain ⟨B,m,d,B',m',d',rfl,_,_⟩:=id e2;have a:=Za v C v.size;obtain ⟨W2,z,hY,g⟩:=Y7 w2 (.bool (canF 1).num.neg) (.slice B m d) (.bool (canF 1).den.neg) (.slice B' m' d');obtain ⟨x0,x1,x2,x3⟩:=hY.four;have e3:=e2.below g;go_wp2;clear z;go_ret;have hZ:=Bk.new W2 87 [.int .i64 (r:Int),.bool (canF 1).num.neg,.slice B m d,.bool (canF 1).den.neg,.slice B' m' d'];have u:=Zc W2 (.cells #[.int .i64 (r:Int),.bool (canF 1).num.neg,.slice B m d,.bool (canF 1).den.neg,.slice B' m' d'] 87);obtain ⟨g1,g2,g3⟩:=x.out;exact ⟨_,_,rfl,Wp.one hZ (e3.below u),g1,g2,g3,Za a (Za g u g.size) a.size⟩
 ·obtain ⟨jn,rfl⟩:=JT hj;obtain ⟨es,l⟩:=Y8 (cs:=p.cols) (i:=jn) (by omega);obtain ⟨l1,l2,l3⟩:=hv.len;have y1:=hB.cellAt 1 rfl;obtain ⟨b,L,A1,c1,rfl,_,x0,M⟩:=hv.elem (JR _ _) l;obtain ⟨z1,z2,z3,z4,z5⟩:=Wq hz;have HG:Hid (p.col (jn:Int)=XG es∧Pl.Good p.right.length es∧∀(k:Nat) (e:En),es[k]? =some e→e.f.Rs K):=JZ ⟨LPd.col_pos l,⟨z4 jn es l,(z5 jn es l).2,(z5 jn es l).1⟩,(F.1.ok.2.2 jn es l).2⟩;have T:(jn:Int) < n':=by omega
  clear l hz F z1 z2 z3 z4 z5 hc hr hB hv l1;go_enter Tryz.func84,Tryz.ntmps84;go_wp2;go_ret;exact ⟨_,es,rfl,M,HG.out.1,HG.out.2.1,HG.out.2.2,JR _ _⟩
theorem Zha [Old] (e:Nat) (p:LPd) (K m cb base bi gB:Nat) (Cs:Mx) (ph pv:Int) (Ab:Option Addr) (vz v:Value) (es:List En) (w:World) (h:Zwl w e p ph pv (.slice Ab m cb) (.pointer (some ⟨gB,0,none⟩)) vz) (hB:Zca base bi w gB m K Cs) (hv:Wp w v es) (hgo:Pl.Good m es) (hrs:∀(k:Nat) (e:En),es[k]? =some e→e.f.Rs K) (hm:m≤7) (hE:5^m * K≤4000000) (hOl:Zb w:=by (repeat (first | assumption | exact Zb.up (by assumption) hOl | exact Zb.up (Hid.out (by assumption)) hOl | with_reducible refine Zb.set ?_ _ _ | with_reducible refine Zb.mk_ ?_ _ | with_reducible refine Zb.dr ?_ | with_reducible refine Zb.drN ?_ | refine Zb.up (by assumption) ?_ | refine Zb.up (Hid.out (by assumption)) ?_))) (hO:Old.n≤base:=by first | assumption | exact Nat.zero_le _ | omega | ((first | with_reducible refine Zb.le ?_ | with_reducible refine Zb.le1 ?_ | with_reducible refine Zb.le2 ?_ | with_reducible refine Zb.le3 ?_);repeat (first | assumption | exact Zb.up (by assumption) hOl | exact Zb.up (Hid.out (by assumption)) hOl | with_reducible refine Zb.set ?_ _ _ | with_reducible refine Zb.mk_ ?_ _ | with_reducible refine Zb.dr ?_ | with_reducible refine Zb.drN ?_ | refine Zb.up (by assumption) ?_ | refine Zb.up (Hid.out (by assumption)) ?_))):
 Calls Tryz.prog 87 #[.pointer (some ⟨e,0,none⟩),v] w fun o w'=>∃v' x,o= .returned v'∧(∀r,r < m→Xw m Cs x r=XG es r)∧(∀i,i < m→Sz (5^m * K) (x i))∧Yd w.heap.size w' v' (Z7 m x)∧Below w.heap.size w w':=by
 have t:=hOl.le;obtain ⟨-,y4,-,y6,-⟩:=h.cells;have l:=JZ hE;clear h hE;go_enter Tryz.func87,Tryz.ntmps87;go_wp2_with fail;refine (Zso base bi gB m K Cs v es _ hB hv hgo hrs).mono ?_;rintro _ w1 ⟨v1,x,rfl,hx,d,e1,a⟩;have HX:=JZ hx;have b:=JZ d;have q:=Zg a y4;obtain ⟨A1,n1,c1,rfl⟩:∃A n c,v1= .slice A n c:=by obtain ⟨A,c,e,_⟩:=e1.vec.shape;exact ⟨A,_,c,e⟩
 clear y4 y6 hB hv hx d hgo hrs;go_wp2_with fail;refine (WE _ (spV x m) m (5^m * K) _ e1.vec (by omega) (Zcq b.out) (by have:=l.out;omega) (Zdd x m)).mono ?_;rw [ZR (g:=x) fun i hi=>by rw [Zgj,if_pos hi]];rintro _ w2 ⟨v2,rfl,e2,j⟩;have s:=Za a j a.size;obtain ⟨A2,n2,c2,rfl⟩:=e2.sliceN;have e3:=e2.monoB a.size;clear e1 e2 a j q;go_wp2;go_ret;exact ⟨_,x,rfl,HX.out,b.out,e3,s⟩
theorem Zlw [Old] (e:Nat) (p:LPd) (K:Nat) (ph pv:Int) (vb vB vz:Value) (j:Int) (w:World) (h:Zwl w e p ph pv vb vB vz) (F:p.Ft K) (hj:j < p.cost.length) (hOl:Zb w:=by (repeat (first | assumption | exact Zb.up (by assumption) hOl | exact Zb.up (Hid.out (by assumption)) hOl | with_reducible refine Zb.set ?_ _ _ | with_reducible refine Zb.mk_ ?_ _ | with_reducible refine Zb.dr ?_ | with_reducible refine Zb.drN ?_ | refine Zb.up (by assumption) ?_ | refine Zb.up (Hid.out (by assumption)) ?_))):
 Calls Tryz.prog 108 #[.pointer (some ⟨e,0,none⟩),.int .i64 j] w fun o w'=>∃v' f,o= .returned v'∧Zt w' v' f∧(f.q=Vi p ph j∧f.Rs K)∧Below w.heap.size w w':=by
 have v:=hOl.le;obtain ⟨W,hW,hR,k⟩:=Y7 w (.bool false) (.slice none 0 0) (.bool false) (.slice none 0 0);have h':=h.below k;obtain ⟨A,n,c,A',n',c',z,C,D,hB,hc,-,-⟩:=h';have y3:=hB.cellAt 3 rfl;have y0:=hB.cellAt 0 rfl;have HF:=JZ F;have x:=F.1.cols;have u:=F.1.cl;clear h F;by_cases h1:ph=2∧0≤j
 ·obtain ⟨rfl,r⟩:=h1;rw [Zgr r];obtain ⟨jn,rfl⟩:=JT r;rw [JP];obtain ⟨f,hf⟩:=Yi (fs:=p.cost) (i:=jn) (by omega);have HQ:Hid (f.q=qAt p.cost jn∧f.Rs K):=JZ ⟨(Yt hf).symm,HF.out.1.cs jn f hf⟩;obtain ⟨r1,r2,r3⟩:=hc.len;obtain ⟨b,E,B1,n1,k1,B2,n2,k2,rfl,_,⟨q0,q1,q2,q3⟩,t⟩:=hc.elem (JR _ _) hf;have y:(jn:Int) < n:=by omega
  obtain ⟨c0,c1,c2,c3⟩:=hR.four;obtain ⟨f0,f1,f2,f3⟩:=hR.fourF;clear hf hc hj;go_enter Tryz.func108,Tryz.ntmps108;go_wp2;clear hW;refine Zq Tryz.results108 Tryz.underlying48 (by kernel_rfl) rfl (hR.set4 _ _ _ _) rfl ?_;exact Vl (P:=fun f'=>f'.q=qAt p.cost jn∧f'.Rs K) hR t k (JY _) HQ.out
 ·by_cases h2:ph=1∧j < 0
  ·obtain ⟨rfl,r⟩:=h2;rw [Zvn r];clear hc y0;go_enter Tryz.func108,Tryz.ntmps108;go_wp2_with fail;clear hW y3;refine (Zfi 1 _ (by omega) (by omega)).mono ?_;rintro _ w1 ⟨v1,s,rfl,e1,rfl,g⟩;obtain ⟨B,m,d,B',m',d',rfl,_,_⟩:=id e1;have a:=hR.later g;obtain ⟨c0,c1,c2,c3⟩:=a.four;obtain ⟨f0,f1,f2,f3⟩:=a.fourF;go_wp2;refine Zq Tryz.results108 Tryz.underlying48 (by kernel_rfl) rfl (a.set4 _ _ _ _) rfl ?_;exact Vl (P:=fun f'=>f'.q=1∧f'.Rs K) a e1 (Za k g k.size) (JY _) ⟨by rw [Zu];rfl,((show Sz 1 ((1:Int):Rat) from Sz_one).mono HF.out.1.k1).rs⟩
  ·rw [Zgs h2 h1];have HZ:=JZ HF.out.1.k1;have l:Calls Tryz.prog 100 #[.int .i64 0] W fun e w'=>∃v' f,e= .returned v'∧Zt w' v' f∧f=canF ((0:Int):Rat)∧Below W.heap.size W w':=Zfi 0 W (by omega) (by omega)
   by_cases c2:ph=2
   ·subst c2;have r:j < 0:=(by omega);clear hc y0;go_enter Tryz.func108,Tryz.ntmps108;go_wp2_with fail;clear hW y3;refine l.mono ?_;clear l;rintro _ w1 ⟨v1,s,rfl,e1,rfl,g⟩;obtain ⟨B,m,d,B',m',d',rfl,_,_⟩:=id e1;have a:=hR.later g;obtain ⟨c0,c1,c2,c3⟩:=a.four;obtain ⟨f0,f1,f2,f3⟩:=a.fourF;go_wp2;refine Zq Tryz.results108 Tryz.underlying48 (by kernel_rfl) rfl (a.set4 _ _ _ _) rfl ?_;exact Vl (P:=fun f'=>f'.q=0∧f'.Rs K) a e1 (Za k g k.size) (JY _) ⟨by rw [Zu];rfl,((show Sz 1 ((0:Int):Rat) from Sz_zero).mono HZ.out).rs⟩
   ·by_cases c1:ph=1
    ·subst c1;have r:0≤j:=(by omega);clear hc y0;go_enter Tryz.func108,Tryz.ntmps108;go_wp2_with fail;clear hW y3;refine l.mono ?_;clear l;rintro _ w1 ⟨v1,s,rfl,e1,rfl,g⟩;obtain ⟨B,m,d,B',m',d',rfl,_,_⟩:=id e1;have a:=hR.later g;obtain ⟨c0,c1,c2,c3⟩:=a.four;obtain ⟨f0,f1,f2,f3⟩:=a.fourF;go_wp2;refine Zq Tryz.results108 Tryz.underlying48 (by kernel_rfl) rfl (a.set4 _ _ _ _) rfl ?_;exact Vl (P:=fun f'=>f'.q=0∧f'.Rs K) a e1 (Za k g k.size) (JY _) ⟨by rw [Zu];rfl,((show Sz 1 ((0:Int):Rat) from Sz_zero).mono HZ.out).rs⟩
    ·have h3:(ph==2)=false:=(by simpa using c2);have h4:(ph==1)=false:=(by simpa using c1);clear hc y0 h1 h2;go_enter Tryz.func108,Tryz.ntmps108;go_wp2_with fail;clear hW y3;refine l.mono ?_;clear l;rintro _ w1 ⟨v1,s,rfl,e1,rfl,g⟩;obtain ⟨B,m,d,B',m',d',rfl,_,_⟩:=id e1;have a:=hR.later g;obtain ⟨c0,c1,c2,c3⟩:=a.four;obtain ⟨f0,f1,f2,f3⟩:=a.fourF;go_wp2;refine Zq Tryz.results108 Tryz.underlying48 (by kernel_rfl) rfl (a.set4 _ _ _ _) rfl ?_;exact Vl (P:=fun f'=>f'.q=0∧f'.Rs K) a e1 (Za k g k.size) (JY _) ⟨by rw [Zu];rfl,((show Sz 1 ((0:Int):Rat) from Sz_zero).mono HZ.out).rs⟩
namespace Pl
theorem Zci {m:Nat} {cols:Mx} {b x:Nat→Rat} (h:Xf m cols) (hx:∀r,r < m→Xw m cols x r=b r):Zim m cols b=Z7 m x:=by
 have hl:=(WN h b).1;refine List.ext_getElem? fun i=>?_
 rcases JX i m with e | e
 ·obtain ⟨f,hf⟩:=Yi (fs:=Zim m cols b) (i:=i) (by omega);rw [hf,ZC e,Zqk hf,Zlu h hx i e]
 ·rw [JU (by omega),JU (by rw [Zi];exact e)]
theorem Good.length {n:Nat} {es:List En} (h:Good n es):es.length≤n:=by
 have e1:(Zme es).length=es.length:=by simp [Zme]
 rw [cpyV_spV h] at e1;have:=Wt (f:=XG es) n;omega
def Zjc (p:LPd) (s:LSt) (j:Int) (es:List En) (t:Nat):Rat:=Vi p s.phase j - Zeg es (VP p s) t
theorem Zzs {p:LPd} {s:LSt} {j:Int} {es:List En} (hr:Reg p s) (hc:p.col j=XG es) (hg:Good p.right.length es):Zjc p s j es es.length=Zfq p s j:=by
 unfold Zjc Zfq;rw [Ziz hr,Nat.min_self,Zku,Zne hg.1 hg.2.1 es.length (JY _),List.take_length,hc];rfl
theorem Yft {p:LPd} {s:LSt} {K:Nat} {j:Int} {es:List En} (F:p.Ft K) (hs:∀(k:Nat) (e:En),es[k]? =some e→e.f.Rs K) (hl:es.length≤7) {t:Nat} (ht:t≤es.length):Sz (20 * (5^p.right.length * K)+20) (Zjc p s j es t):=by
 have h1:K≤5^p.right.length * K:=F.1.le;have h2:=Zyt (K:=5^p.right.length * K) (fun k e he=>(hs k e he).mono h1) (Zvp F.1 s) (JW F.1.k1 h1) t;have h3:t * (2 * (5^p.right.length * K)+1)≤7 * (2 * (5^p.right.length * K)+1):=JS _ (by omega);exact (Zdw ((Zin F.1.ok F.1.k1 _ _).mono h1) h2).mono (by omega)
end Pl
def Zss [Old] (w:World) (e:Nat) (p:LPd) (s:LSt) (K:Nat):Prop:=
 ∃(Ab:Option Addr) (cb base bi gB:Nat) (vz:Value),Zwl w e p s.phase s.pivots (.slice Ab p.right.length cb) (.pointer (some ⟨gB,0,none⟩)) vz∧X6 w (.slice Ab p.right.length cb) s.basis∧(Zca base bi w gB p.right.length K (s.mat p)∧Old.n≤base)∧WA w vz (zL p s)
theorem Zss.below [Old] {w w':World} {e:Nat} {p:LPd} {s:LSt} {K:Nat} (h:Zss w e p s K) (hb:Below w.heap.size w w'):Zss w' e p s K:=by
 obtain ⟨Ab,cb,base,bi,gB,vz,h1,h2,⟨h3,a⟩,h4⟩:=h;exact ⟨Ab,cb,base,bi,gB,vz,h1.below hb,h2.below hb,⟨h3.below hb,a⟩,h4.below hb⟩
theorem Zca.indep [Old] {base bi g n K:Nat} {w:World} {Cs:Mx} (h:Zca base bi w g n K Cs):Xf n Cs:=by
 obtain ⟨T,_,_,_,_,_,_,_,_,_,CC,_,_,_,_,_,_,⟨_,_,_,e⟩,hU,_⟩:=h;rw [← e];exact hU.indep T (JY _)
theorem Zss.reg [Old] {w:World} {e:Nat} {p:LPd} {s:LSt} {K:Nat} (h:Zss w e p s K):Reg p s:=by
 obtain ⟨Ab,cb,base,bi,gB,vz,h1,h2,⟨h3,a⟩,h4⟩:=h;exact h3.indep
theorem Zwm [Old] (e:Nat) (p:LPd) (s:LSt) (K:Nat) (w:World) (h:Zss w e p s K) (S:s.Fit p) (F:p.Ft K) (hOl:Zb w:=by (repeat (first | assumption | exact Zb.up (by assumption) hOl | exact Zb.up (Hid.out (by assumption)) hOl | with_reducible refine Zb.set ?_ _ _ | with_reducible refine Zb.mk_ ?_ _ | with_reducible refine Zb.dr ?_ | with_reducible refine Zb.drN ?_ | refine Zb.up (by assumption) ?_ | refine Zb.up (Hid.out (by assumption)) ?_))):
 Calls Tryz.prog 75 #[.pointer (some ⟨e,0,none⟩)] w fun o w'=>∃v',o= .returned v'∧Yd w.heap.size w' v' (VP p s)∧Below w.heap.size w w':=by
 have a5:=hOl.le;have HR:=JZ h.reg;have HH:=JZ h;obtain ⟨Ab,cb,base,bi,gB,vz,h1,h2,⟨h3,aa⟩,h4⟩:=h;obtain ⟨-,y4,-,y6,-⟩:=h1.cells;have HM:=JZ h1;have HI:=JZ h2;have HB:=JZ h3;have HF:=JZ F;have HS:=JZ S;obtain ⟨m,hm⟩:∃m,m=p.right.length:=⟨_,rfl⟩;have j:=JZ hm;rw [← hm] at y4;have a6:m≤7:=by rw [hm];exact F.2.1
 have R:=h2.len;obtain ⟨-,J,a4⟩:=R;rw [← hm] at J;have a7:=WC m (by omega);have t:=Yd.zeros w m (by unfold maxLen;omega);have u:=Zc w (.cells (zfc m) 48);rw [Zbb] at t;have HK:=JZ F.k;have T:=JZ y4;have U:=JZ y6;have V:=Zg u y4;clear h1 h2 h3 h4 F S hm y6;go_enter Tryz.func75,Tryz.ntmps75;go_wp2;clear y4 V;generalize w.alloc (.cells (zfc m) 48)=W at *
 go_loopw [23] (fun x wr=>∃k:Nat,k≤m∧x= .int .i64 k∧Below w.heap.size w wr∧∃H:Nat→RF,Yd w.heap.size wr (.slice (some ⟨w.heap.size,0,none⟩) m m) (rfL m H)∧∀i,i < m→(i < k→(H i).q=Vi p s.phase (s.at_ i))∧(H i).Rs K) (fun x _=>m - (intOf x).toNat)
 case atStart=>exact ⟨0,by omega,rfl,u,fun _=>zeroF,t,fun i hi=>⟨fun h=>absurd h (by omega),(Vz 1).mono HK.out.1⟩⟩
 case round=>
  clear t u;obtain ⟨k,hk,rfl,d,H,hO,hH⟩:=hrel;rcases JX k m with hkl | hkl
  ·have a8:(k:Int) < m:=(by omega);obtain ⟨bb,ob,z,rfl,x0,hz,z0,z1⟩:=HI.out.at_ (show k < p.right.length by rw [← j.out];exact hkl);have X:=Zg d x0;have Y:Hid (s.at_ k=z):=JZ (LSt.at_eq hz);have Z:z < p.cost.length:=(by rw [HF.out.1.cl];exact (HS.out.1 k z hz).2);have D:=JZ hH;clear hz x0 hH;go_wp2_with fail;refine (Zlw e p K s.phase s.pivots _ _ _ z _ (HM.out.below d) HF.out Z).mono ?_;rintro _ w1 ⟨v1,f,rfl,e1,hf,B⟩;obtain ⟨A1,n1,c1,A2,n2,c2,rfl,_,_⟩:=id e1;have v:=hO.below B;have l:=Za d B d.size;obtain ⟨_,_,_,_,⟨c0,ab,ac,c3⟩,⟨f0,f1,f2,f3⟩,-⟩:=v.at_ (Yu (f:=H) hkl);obtain ⟨L,_⟩:=v.set_ (k:=k) (by rw [Zw];exact hkl) e1;rw [VB hkl] at L;have a:=ZA l (JY _) (k * 4) (k * 4+1) (k * 4+2) (k * 4+3);have E:=JZ hf;clear hO v d l B e1 X hf;go_wp2;go_roundw
   case rel=>
    refine ⟨k+1,by omega,by go_num,a _ _ _ _,_,L,fun i hi=>?_⟩;by_cases g:i=k
    ·simp only [if_pos g];exact ⟨fun _=>by rw [g,Y.out];exact E.out.1,E.out.2⟩
    ·simp only [if_neg g];exact ⟨fun h=>(D.out i hi).1 (by omega),(D.out i hi).2⟩
   case measure=>simp [intOf];omega
  ·obtain rfl:m=k:=by omega
   have G:RsL K (rfL m H):=fun i f hf=>by
    have hi:i < m:=(by have:=(List.getElem?_eq_some_iff.1 hf).1;rwa [Zw] at this);rw [Yu hi] at hf;injection hf with hf;subst hf;exact (hH i hi).2
   obtain ⟨C,hC⟩:∃C:Nat→Rat,C=fun i=>Vi p s.phase (s.at_ i):=⟨_,rfl⟩
   have a0:Hid (spV (qAt (rfL m H)) (rfL m H).length=spV C m):=JZ (by
    rw [Zw,hC];exact XJ fun i hi=>by rw [Zig hi];exact (hH i hi).1 hi)
   have a1:Hid (∀i,i < m→Sz K (C i)):=JZ fun i _=>by rw [hC];exact Zin HF.out.1.ok HF.out.1.k1 _ _
   have HC:=JZ hC;have a9:=JZ hH;clear hH hC;go_wp2_with fail;refine (Xg _ (rfL m H) K _ hO.frs (by rw [Zw];omega) G (by have:=HK.out;omega)).mono ?_;rw [a0.out];rintro _ w2 ⟨v2,rfl,e2,M⟩;have a:=Za d M d.size;have y6:=Zg a U.out;obtain ⟨A2,n2,c2,rfl⟩:∃A n c,v2= .slice A n c:=by obtain ⟨A,c,e,_⟩:=e2.vec.shape;exact ⟨A,_,c,e⟩
   clear hO d M G;go_wp2_with fail;refine (Zoa base bi gB m K (s.mat p) _ (spV C m) _ (by have:=HB.out.below a;rw [← j.out] at this;exact this) e2.vec (Zdd C m) (Zcq a1.out)).mono ?_;rintro _ w3 ⟨v3,y,rfl,hy,N,e3,O⟩;have b:=Za a O a.size;have y4:=Zg b T.out;obtain ⟨A3,n3,c3,rfl⟩:∃A n c,v3= .slice A n c:=by obtain ⟨A,c,e,_⟩:=e3.vec.shape;exact ⟨A,_,c,e⟩
   have a2:=JZ N;have a3:Hid (Z7 m (XG (spV y m))=VP p s):=JZ (by
    unfold VP;rw [ZR (g:=y) fun i hi=>by rw [Zgj,if_pos hi],← j.out];refine (Zci (m:=m) (cols:=fun r k=>s.mat p k r) (by have:=HR.out.tr;rw [← j.out] at this;exact this) fun r hr=>?_).symm;rw [YX hr];have:=hy r hr;rw [Zgj,if_pos hr,HC.out] at this;exact this)
   clear e2 a O y6 hy N;go_wp2_with fail;refine (WE _ (spV y m) m (5^m * K) _ e3.vec (by omega) (Zcq a2.out) (by have:=HF.out.2.2;rw [← j.out] at this;omega) (Zdd y m)).mono ?_;rw [a3.out];rintro _ w4 ⟨v4,rfl,e4,P⟩;have I:=Za b P b.size;have e5:=e4.monoB b.size;obtain ⟨A4,n4,c4,rfl⟩:=e4.sliceN;clear e3 b P y4 e4;go_wp2;go_ret;exact ⟨_,rfl,e5,I⟩
theorem Zjd [Old] (e:Nat) (p:LPd) (s:LSt) (K j:Nat) (w:World) (h:Zss w e p s K) (F:p.Ft K) (hz:lpErr p=0) (hj:j < p.cols.length) (hOl:Zb w:=by (repeat (first | assumption | exact Zb.up (by assumption) hOl | exact Zb.up (Hid.out (by assumption)) hOl | with_reducible refine Zb.set ?_ _ _ | with_reducible refine Zb.mk_ ?_ _ | with_reducible refine Zb.dr ?_ | with_reducible refine Zb.drN ?_ | refine Zb.up (by assumption) ?_ | refine Zb.up (Hid.out (by assumption)) ?_))):
 Calls Tryz.prog 90 #[.pointer (some ⟨e,0,none⟩),.int .i64 (j:Int)] w fun o w'=>∃v',o= .returned v'∧Yd w.heap.size w' v' (dirL p s (j:Int))∧Below w.heap.size w w':=by
 have q:=hOl.le;have HR:=JZ h.reg;obtain ⟨Ab,cb,base,bi,gB,vz,h1,h2,⟨h3,u⟩,h4⟩:=h;have HM:=JZ h1;obtain ⟨A,n,c,A',n',c',v,y,z,hB,-,hv,-⟩:=h1;obtain ⟨es,a⟩:=Y8 (cs:=p.cols) (i:=j) hj;obtain ⟨l1,l2,l3⟩:=hv.len;have y1:=hB.cellAt 1 rfl;obtain ⟨b,B,A1,c1,rfl,_,x0,d⟩:=hv.elem (JR _ _) a;obtain ⟨z1,z2,z3,z4,z5⟩:=Wq hz;have HC:=JZ (LPd.col_pos a);have f:Pl.Good p.right.length es:=⟨z4 j es a,(z5 j es a).2,(z5 j es a).1⟩;have g:=(F.1.ok.2.2 j es a).2;have t:(j:Int) < n':=by omega
 have k:=F.2.1;have l:=F.2.2;clear a hz F z1 z2 z3 z4 z5 h2 h4 hB hv l1 hj;go_enter Tryz.func90,Tryz.ntmps90;go_wp2_with fail;clear y1 x0;refine (Zha e p K p.right.length cb base bi gB (s.mat p) s.phase s.pivots Ab vz _ es _ HM.out h3 d f g k l).mono ?_;rintro _ w1 ⟨v1,x,rfl,hx,-,e1,m⟩;have hd:Z7 p.right.length x=dirL p s (j:Int):=by
  unfold dirL;refine (Zci HR.out fun r hr=>?_).symm;rw [YX hr,HC.out];exact hx r hr
 rw [hd] at e1;obtain ⟨A2,n2,c2,rfl⟩:=e1.sliceN;clear hd hx h3 d;go_wp2;go_ret;exact ⟨_,rfl,e1,m⟩
theorem Zog [Old] (e:Nat) (p:LPd) (s:LSt) (K j:Nat) (vy:Value) (w:World) (h:Zss w e p s K) (hy:WA w vy (VP p s)) (F:p.Ft K) (hz:lpErr p=0) (hj:j < p.cols.length) (hOl:Zb w:=by (repeat (first | assumption | exact Zb.up (by assumption) hOl | exact Zb.up (Hid.out (by assumption)) hOl | with_reducible refine Zb.set ?_ _ _ | with_reducible refine Zb.mk_ ?_ _ | with_reducible refine Zb.dr ?_ | with_reducible refine Zb.drN ?_ | refine Zb.up (by assumption) ?_ | refine Zb.up (Hid.out (by assumption)) ?_))):
 Calls Tryz.prog 76 #[.pointer (some ⟨e,0,none⟩),vy,.int .i64 (j:Int)] w fun o w'=>∃v',o= .returned v'∧Zt w' v' (canF (Zfq p s (j:Int)))∧Below w.heap.size w w':=by
 have bu:=hOl.le;have HR:=JZ h.reg;obtain ⟨Ab,cb,base,bi,gB,vz,h1,h2,⟨h3,bx⟩,h4⟩:=h;have HM:=JZ h1;obtain ⟨A,n,c,A',n',c',bz,c8,c9,hB,-,hv,-⟩:=h1;obtain ⟨es,r⟩:=Y8 (cs:=p.cols) (i:=j) hj;obtain ⟨l1,l2,l3⟩:=hv.len;have y1:=hB.cellAt 1 rfl;obtain ⟨b,ca,A1,c1,rfl,_,x0,ac⟩:=hv.elem (JR _ _) r;obtain ⟨z1,z2,z3,z4,z5⟩:=Wq hz;have S:Pl.Good p.right.length es:=⟨z4 j es r,(z5 j es r).2,(z5 j es r).1⟩;have b7:=JZ S;have b8:Hid (Zjc p s (j:Int) es es.length=Zfq p s (j:Int)):=JZ (Zzs HR.out (LPd.col_pos r) S);have ae:=JZ (F.1.ok.2.2 j es r).2;have bv:(j:Int) < n':=by omega
 have b9:(j:Int) < p.cost.length:=by rw [F.1.cl];omega
 have HF:=JZ F;obtain ⟨Ay,cy,rfl,ax,bs⟩:=hy.shape;obtain ⟨m,hm⟩:∃m,m=p.right.length:=⟨_,rfl⟩;have ba:=JZ hm;have af:Hid ((VP p s).length=m):=JZ (by rw [hm];exact Ziz HR.out);rw [af.out] at hy ax ⊢;have bb:=JZ hy;have bc:=JZ ac;obtain ⟨l,hl⟩:∃l,l=es.length:=⟨_,rfl⟩;have T:=JZ hl;have bd:l≤7:=by rw [hl];exact JW S.length F.2.1
 rw [← hl] at x0;have be:=JZ y1;have bf:=JZ x0;obtain ⟨-,ay,bt⟩:=ac.len;rw [← hl] at ay;have HJ:Hid (K≤5^p.right.length * K∧1≤K∧5^p.right.length * K≤4000000):=JZ ⟨F.1.le,F.1.k1,F.2.2⟩;have bg:Hid (Zjc p s (j:Int) es 0=Vi p s.phase (j:Int)):=JZ (by unfold Zjc Zeg;rw [YS];grind);obtain ⟨W0,bq,az,Z⟩:=Y7 w (.bool false) (.slice none 0 0) (.bool false) (.slice none 0 0);clear r hz F z1 z2 z3 z4 z5 h2 h3 h4 hB hv l1 hj hy ac S hl hm x0 y1;go_enter Tryz.func76,Tryz.ntmps76;go_wp2_with fail;clear bq;refine (Zlw e p K s.phase s.pivots _ _ _ (j:Int) _ (HM.out.below Z) HF.out b9).mono ?_;rintro _ w1 ⟨v1,f,rfl,e1,hf,ad⟩;obtain ⟨B1,m1,d1,B2,m2,d2,rfl,_,_⟩:=id e1;have B:f.Sm:=hf.2.sm (by have:=HJ.out;omega);have bh:Hid (f.q+zeroF.q=Zjc p s (j:Int) es 0):=JZ (by rw [bg.out,zeroF_q,hf.1,Rat.add_zero]);have C:=Za Z ad Z.size;have aa:=az.later ad;clear hf az Z ad;go_wp2_with fail;refine (Zdb _ _ f zeroF _ e1 (Zt.zero _) B zeroF_sm).mono ?_;rw [bh.out];rintro _ w2 ⟨v2,rfl,e2,a7⟩;obtain ⟨B1,m1,d1,B2,m2,d2,rfl,_,_⟩:=id e2;obtain ⟨W3,br,b0,a0⟩:=Y7 w2 (.bool (canF (Zjc p s (j:Int) es 0)).num.neg) (.slice B1 m1 d1) (.bool (canF (Zjc p s (j:Int) es 0)).den.neg) (.slice B2 m2 d2);have ag:=(aa.later a7).later a0;have D:=Za C a7 C.size;have u:=Za D a0 D.size;have e3:=e2.below a0;have y1:=Zg u be.out;have x0:=Zg u bf.out;have bj:w.heap.size < w2.heap.size:=by have:=aa.lt;have:=a7.size;omega
 clear aa e1 e2 a7 a0 C D B;go_wp2;clear br y1 x0;have ah:Zit W3 w2.heap.size (Zjc p s (j:Int) es 0):=⟨_,_,_,_,_,_,b0,e3⟩;clear b0 e3;generalize w2.heap.size=gt at *
 go_loopw [24] (fun x wr=>∃t:Nat,t≤l∧x= .int .i64 t∧Below w.heap.size w wr∧Zit wr gt (Zjc p s (j:Int) es t)∧Bk wr w.heap.size 48 [.bool false,.slice none 0 0,.bool false,.slice none 0 0]) (fun x _=>l - (intOf x).toNat)
 case atStart=>exact ⟨0,by omega,rfl,u,ah,ag⟩
 case round=>
  clear u ah ag;obtain ⟨t,ht,rfl,L,hT,hR⟩:=hrel;rcases JX t l with htl | htl
  ·obtain ⟨en,M⟩:=YJ (es:=es) (i:=t) (by rw [← T.out];exact htl);obtain ⟨b2,o2,A2,n2,c2,A3,n3,c3,rfl,_,⟨x0,x1,x2,x3,x4⟩,b1⟩:=bc.out.elem L M;have ai:=b7.out.1 t en M;have E:=ae.out t en M;have aj:=JZ (Zeh M (VP p s));obtain ⟨ei,f⟩:=en;simp only at *;obtain ⟨i,rfl⟩:=JT ai.1;have bk:i < m:=(by rw [ba.out];omega);have bw:(i:Int) < m:=(by omega);obtain ⟨W4,b4,hV,N⟩:=Zgf wr (.int .i64 (i:Int)) (.bool f.num.neg) (.slice A2 n2 c2) (.bool f.den.neg) (.slice A3 n3 c3);obtain ⟨v0,v1,v2,v3,v4⟩:=hV.five;have d:=Za L N L.size;have y:=b1.below N;have U:=hT.below N;have V:=hR.later N;obtain ⟨gy,a1⟩:=Yi (fs:=VP p s) (i:=i) (by rw [af.out];exact bk);have a8:gy=canF (qAt (VP p s) i):=Zqk (by unfold VP at a1;exact a1);obtain ⟨yy,a2⟩:∃yy,yy=qAt (VP p s) i:=⟨_,rfl⟩;rw [← a2] at a8;subst a8;obtain ⟨b3,o3,A4,n4,c4,A5,n5,c5,rfl,_,⟨y0,y1,y2,y3⟩,k⟩:=bb.out.elem d a1;have ab:Hid (Zjc p s (j:Int) es (t+1)=Zjc p s (j:Int) es t - yy * f.q):=JZ (by
    unfold Zjc;rw [aj.out,show (i:Int).toNat=i from JP i,← a2];grind)
   have ak:Hid (Sz (5^p.right.length * K) yy):=JZ (by
    rw [a2];exact (Zvp HF.out.1 s).qAt (JW HJ.out.2.1 HJ.out.1) i)
   have bl:Hid (Sz (20 * (5^p.right.length * K)+20) (Zjc p s (j:Int) es t)):=JZ (Yft HF.out ae.out (by rw [← T.out];exact bd) (by rw [← T.out];exact ht));have al:Hid (f.Rs K∧Sz K f.q):=JZ ⟨E,E.sz HJ.out.2.1⟩;have am:qs yy=0∨qs yy=1∨qs yy= -1:=(by have:=Vb yy;omega);clear M ai E a1 a2 b1 hT hR L aj hV N;by_cases R:qs yy=0
   ·have bm:=JZ (ZW.1 R);clear am;go_wp2_with fail;clear b4;refine (Zz _ (canF yy) _ k).mono ?_;rw [Zu,R];rintro _ w5 ⟨rfl,a⟩;have X:=U.below a;have Y:=V.later a;have g:=Za d a d.size;have an:Zjc p s (j:Int) es t=Zjc p s (j:Int) es (t+1):=(by rw [ab.out,bm.out];grind);rw [an] at X;clear U V d a y k v0 v1 v2 v3 v4 x0 x1 x2 x3 x4 y0 y1 y2 y3 R an;go_wp2;go_roundw
    case rel=>exact ⟨t+1,by omega,by go_num,g,X,Y⟩
    case measure=>simp [intOf];omega
   ·have bn:(qs yy !=0)=true:=(by simpa using R);clear am R;go_wp2_with fail;clear b4;refine (Zz _ (canF yy) _ k).mono ?_;rw [Zu];rintro _ w5 ⟨rfl,a⟩;have X:=U.below a;have Y:=V.later a;have g:=Za d a d.size;have ao:=y.below a;have a9:=k.below a;have k0:=Zg a v0;have k1:=Zg a v1;have k2:=Zg a v2;have k3:=Zg a v3;have k4:=Zg a v4;have l0:=Zg a y0;have l1:=Zg a y1;have l2:=Zg a y2;have l3:=Zg a y3;obtain ⟨A6,n6,c6,A7,n7,c7,z,O⟩:=X;obtain ⟨t0,t1,t2,t3⟩:=z.four;obtain ⟨rr,a3⟩:∃rr,rr=Zjc p s (j:Int) es t:=⟨_,rfl⟩;have ap:(canF rr).Sm:=(by rw [a3];exact bl.out.rs.sm (by have:=HJ.out;omega));have aq:(canF yy).Sm:=ak.out.rs.sm (by have:=HJ.out;omega);have B:f.Sm:=al.out.1.sm (by have:=HJ.out;omega);have ar:(canF (yy * f.q)).Sm:=(Wz ak.out al.out.2).rs.sm (by have:=HJ.out;omega);have au:=JZ a3;rw [← a3] at t0 t2 O z;clear a3 U V d a y k v0 v1 v2 v3 v4 x0 x1 x2 x3 x4 y0 y1 y2 y3;have y:=ao;have k:=a9
    go_upto_region 6 with (fail)
    clear bn;have C0:=Zm t0;have C1:=Zm t1;have C2:=Zm t2;have C3:=Zm t3;have D0:=Zm k0;have D1:=Zm k1;have D2:=Zm k2;have D3:=Zm k3;have D4:=Zm k4;have E0:=Zm l0;have E1:=Zm l1;have E2:=Zm l2;have E3:=Zm l3;have G:=Zf w5;clear t0 t1 t2 t3 k0 k1 k2 k3 k4 l0 l1 l2 l3;refine Zp 10 [0,1,2,3,4,5,6,7,8,9,10] (by kernel_rfl) (by kernel_rfl) ?_;repeat ((first | (refine Zd (v:=?_) rfl rfl rfl ?_ ?_;rotate_left;(· (intro _ P;go_simp;(try go_bits);(try with_reducible rfl)))) | (refine Zj (v:=?_) rfl rfl rfl ?_ ?_;rotate_left;(· (intro _ P;go_simp;(try go_bits);(try with_reducible rfl)))) | refine Zk rfl rfl rfl ?_);(try simp only [Act.put,pu1,pu2,pu3,pu4,pu5,pu6]))
    refine Zh rfl rfl (fun KR hKR=>?_);go_simp;(with_reducible refine (Wj _ _ (canF yy) f _ (k.below G) (y.below G) aq B).mono ?_);rw [Zu];rintro _ w6 ⟨v6,rfl,e6,b5⟩;have H:=Za G b5 G.size;refine hKR.out _ _ (Or.inr H) ?_;clear hKR KR;(try simp only [Act.put,pu1,pu2,pu3,pu4,pu5,pu6]);repeat ((first | (refine Zd (v:=?_) rfl rfl rfl ?_ ?_;rotate_left;(· (intro _ P;go_simp;(try go_bits);(try with_reducible rfl)))) | (refine Zj (v:=?_) rfl rfl rfl ?_ ?_;rotate_left;(· (intro _ P;go_simp;(try go_bits);(try with_reducible rfl)))) | refine Zk rfl rfl rfl ?_);(try simp only [Act.put,pu1,pu2,pu3,pu4,pu5,pu6]))
    refine Zh rfl rfl (fun KR hKR=>?_);go_simp;(with_reducible refine (WT _ _ (canF rr) (canF (yy * f.q)) _ (O.below H) e6 ap ar).mono ?_);rw [Zu,Zu];rintro _ w7 ⟨v7,rfl,e7,b6⟩;have I:=Za H b6 H.size;obtain ⟨B9,l9,k9,a4,a5,a6,rfl,_,_⟩:=id e7;have J:=z.later I;obtain ⟨c0,c1,c2,c3⟩:=J.four;obtain ⟨f0,f1,f2,f3⟩:=J.fourF;refine hKR.out _ _ (Or.inr I) ?_;clear hKR KR;(try simp only [Act.put,pu1,pu2,pu3,pu4,pu5,pu6]);repeat ((first | (refine Zd (v:=?_) rfl rfl rfl ?_ ?_;rotate_left;(· (intro _ P;go_simp;(try go_bits);(try with_reducible rfl)))) | (refine Zj (v:=?_) rfl rfl rfl ?_ ?_;rotate_left;(· (intro _ P;go_simp;(try go_bits);(try with_reducible rfl)))) | refine Zk rfl rfl rfl ?_);(try simp only [Act.put,pu1,pu2,pu3,pu4,pu5,pu6]))
    refine Zh rfl rfl (fun KR hKR=>?_);go_simp;refine hKR.out _ _ (Or.inl (by decide)) ?_;clear hKR KR;(try simp only [Act.put,pu1,pu2,pu3,pu4,pu5,pu6]);refine Zx ?_;clear C0 C1 C2 C3 D0 D1 D2 D3 D4 E0 E1 E2 E3;have av:=J.but4 (.bool (canF (rr - yy * f.q)).num.neg) (.slice B9 l9 k9) (.bool (canF (rr - yy * f.q)).den.neg) (.slice a4 a5 a6);have bo:=(Y.later I).far4 (g':=gt) (by omega) (.bool (canF (rr - yy * f.q)).num.neg) (.slice B9 l9 k9) (.bool (canF (rr - yy * f.q)).den.neg) (.slice a4 a5 a6);have aw:=ZE (Za g I g.size) (Nat.le_of_lt bj) (.bool (canF (rr - yy * f.q)).num.neg) (.slice B9 l9 k9) (.bool (canF (rr - yy * f.q)).den.neg) (.slice a4 a5 a6);have bp:Zit _ gt (Zjc p s (j:Int) es (t+1)):=⟨B9,l9,k9,a4,a5,a6,by rw [ab.out,← au.out];exact J.set4 _ _ _ _,by rw [ab.out,← au.out];exact e7.keep (av.keep (by decide))⟩;clear J Y g G H I e6 e7 b5 b6 c0 c1 c2 c3 f0 f1 f2 f3 y ao k a9 O av ap aq B ar z;go_wp2;go_roundw
    case rel=>exact ⟨t+1,by omega,by go_num,aw,bp,bo⟩
    case measure=>simp [intOf];omega
  ·obtain rfl:l=t:=by omega
   rw [T.out,b8.out] at hT;obtain ⟨A6,n6,c6,A7,n7,c7,z,O⟩:=hT;obtain ⟨t0,t1,t2,t3⟩:=z.four;obtain ⟨c0,c1,c2,c3⟩:=hR.four;obtain ⟨f0,f1,f2,f3⟩:=hR.fourF;go_wp2;refine Zq Tryz.results76 Tryz.underlying48 (by kernel_rfl) rfl (hR.set4 _ _ _ _) rfl ?_;exact Yr hR O L (JY _)
namespace Pl
def Zwn (s:LSt) (D:List RF) (i:Nat):Prop:=0 < qAt D i∨(s.at_ i < 0∧qAt D i≠0)
theorem Zqp {s:LSt} {D:List RF} (h:¬s.phase=2):∀n,VM s D n=false
 | 0=>by rw [VM];exact decide_eq_false h
 | n+1=>by rw [VM];split;rfl;exact Zqp h n
theorem Zlx {s:LSt} {D:List RF} (h:s.phase=2):∀n,(∀i,i < n→¬Zwn s D i)→VM s D n=true
 | 0,_=>by rw [VM];exact decide_eq_true h
 | n+1,hh=>by rw [VM,if_neg (by have:=hh n (by omega);unfold Zwn at this;exact this)];exact Zlx h n fun i hi=>hh i (by omega)
theorem Zfj {s:LSt} {D:List RF} {i:Nat} (h:Zwn s D i):∀n,i < n→VM s D n=false
 | 0,hi=>absurd hi (by omega)
 | n+1,hi=>by
  rw [VM]
  by_cases e:i=n
  ·subst e;rw [if_pos (by unfold Zwn at h;exact h)]
  ·split
   ·rfl
   ·exact Zfj h n (by omega)
theorem Zwo {p:LPd} {s:LSt} {j:Nat} (hj:j < p.cols.length) (h:Zfq p s (j:Int) < 0) (hb:∀i,i < j→¬Zfq p s (i:Int) < 0):Zzr p s=some j:=VG (by omega) (by omega) h fun i _ hi=>hb i hi
theorem Zwp {p:LPd} {s:LSt} (hb:∀i,i < p.cols.length→¬Zfq p s (i:Int) < 0):Zzr p s=none:=VF fun i _ hi=>hb i (by omega)
end Pl
theorem Zfk [Old] (e:Nat) (p:LPd) (s:LSt) (K:Nat) (w:World) (h:Zss w e p s K) (S:s.Fit p) (F:p.Ft K) (hz:lpErr p=0) (hph:s.phase=1∨s.phase=2) (hOl:Zb w:=by (repeat (first | assumption | exact Zb.up (by assumption) hOl | exact Zb.up (Hid.out (by assumption)) hOl | with_reducible refine Zb.set ?_ _ _ | with_reducible refine Zb.mk_ ?_ _ | with_reducible refine Zb.dr ?_ | with_reducible refine Zb.drN ?_ | refine Zb.up (by assumption) ?_ | refine Zb.up (Hid.out (by assumption)) ?_))):
 Calls Tryz.prog 57 #[.pointer (some ⟨e,0,none⟩)] w fun o w'=>∃v',o= .returned (.tuple #[.int .i64 (WL p s),.int .i64 (Zcd p s),v'])∧Yd w.heap.size w' v' (Zce p s)∧Below w.heap.size w w':=by
 have aq:=hOl.le;have HR:=JZ h.reg;have HH:=JZ h;obtain ⟨Ab,cb,base,bi,gB,vz,h1,h2,⟨h3,az⟩,h4⟩:=h;obtain ⟨y3,y4,-,-,-⟩:=h1.cells;have HI:=JZ h2;obtain ⟨A,n,c,A',N,c',b0,b1,b2,hB,-,hv,-⟩:=h1;obtain ⟨l1,l2,l3⟩:=hv.len;have HN:=JZ l1;have ai:=JZ (hB.cellAt 1 rfl);obtain ⟨ph,hp⟩:∃ph,ph=s.phase:=⟨_,rfl⟩;have R:=JZ hp;rw [← hp] at hph y3;have a8:=JZ y3;have HF:=JZ F;have HS:=JZ S;have HZ:=JZ hz;have aj:=F.1.cols;have ar:N≤1200:=by omega
 obtain ⟨m,hm⟩:∃m,m=p.right.length:=⟨_,rfl⟩;have a9:=JZ hm;rw [← hm] at y4;have ak:=JZ y4;have au:m≤7:=by rw [hm];exact F.2.1
 obtain ⟨-,ae,an⟩:=h2.len;rw [← hm] at ae;clear h2 h3 h4 F S hz hB hv l1 aj hm y3 y4 hp;go_enter Tryz.func57,Tryz.ntmps57;go_wp2_with fail;refine (Zwm e p s K _ HH.out HS.out HF.out).mono ?_;rintro _ w1 ⟨v1,rfl,e1,a3⟩;have y1:=Zg a3 ai.out;have HD:=JZ e1;obtain ⟨A1,n1,c1,rfl⟩:=e1.sliceN;clear e1;go_wp2;clear y1
 go_loopw [6,20] (fun en x wr=>∃j:Nat,j≤N∧x= .int .i64 j∧en= .int .i64 (-1)∧Below w1.heap.size w1 wr∧∀i,i < j→¬Zfq p s (i:Int) < 0) (fun _ x _=>N - (intOf x).toNat)
 case atStart=>exact ⟨0,by omega,rfl,rfl,JR _ _,fun i hi=>absurd hi (by omega)⟩
 case round=>
  obtain ⟨j,hj,rfl,rfl,d,O⟩:=hrel;have Y:=JZ O;clear O;have G:=Za a3 d a3.size;rcases JX j N with hjl | hjl
  ·have Z:j < p.cols.length:=(by have:=HN.out;omega);have av:(j:Int) < N:=(by omega);go_wp2_with fail;refine (Zog e p s K j _ _ (HH.out.below G) (HD.out.frs.below d) HF.out HZ.out Z).mono ?_;rintro _ w2 ⟨v2,rfl,e2,a4⟩;have y:=Za d a4 d.size;have B:=Za G a4 G.size;have T:qs (Zfq p s (j:Int))=0∨qs (Zfq p s (j:Int))=1∨qs (Zfq p s (j:Int))= -1:=(by have:=Vb (Zfq p s (j:Int));omega);obtain ⟨B1,m1,d1,B2,m2,d2,rfl,_,_⟩:=id e2;clear d G a4;by_cases hn:qs (Zfq p s (j:Int)) < 0
   ·have HE:=JZ (Zwo Z (Zei.1 hn) Y.out);have hq:qs (Zfq p s (j:Int))= -1:=(by omega);clear T hn;go_wp2_with fail;refine (Zz _ (canF (Zfq p s (j:Int))) _ e2).mono ?_;rw [Zu,hq];rintro _ w3 ⟨rfl,P⟩;have t:=Za B P B.size;have y3:=Zg t a8.out;clear y B P e2 hq;go_wp2_with fail;refine (Zjd e p s K j _ (HH.out.below t) HF.out HZ.out Z).mono ?_;rintro _ w4 ⟨v4,rfl,e4,a5⟩;have H:=Za t a5 t.size;have u:Hid (Zcd p s=(j:Int)):=JZ (Ug HE.out).2.1;have U:Hid (dirL p s (j:Int)=Zce p s):=JZ (Ug HE.out).2.2.symm;have v:Hid (WL p s=if VM s (dirL p s (j:Int)) (dirL p s (j:Int)).length then 3 else 0):=JZ (Ug HE.out).1;have l:Hid ((dirL p s (j:Int)).length=m):=JZ (by rw [a9.out];exact Zoe HR.out _);have aa:=e4.monoB t.size;obtain ⟨A4,c4,af⟩:=e4.slice;rw [l.out] at af;subst af;obtain ⟨-,ao,ap⟩:=e4.frs.len;have al:=Zg a5 y3;clear t a5 e4;rcases hph with hp1 | hp2
    ·have r:Hid (WL p s=0):=JZ (by rw [v.out,Zqp (by rw [← R.out];omega)];rfl);have b:=aa;rw [U.out] at b;have a:=H;clear y3;subst hp1;go_wp2;refine bodyPost_ret (results_tmp3 rfl _ _ _) rfl ?_;exact ⟨_,by rw [r.out,u.out];rfl,b,a⟩
    ·subst hp2;clear y3;go_wp2;clear al;have V:=JZ aa
     go_loopw [50] (fun x wr=>∃k:Nat,k≤m∧x= .int .i64 k∧Below w4.heap.size w4 wr∧∀i,i < k→¬Zwn s (dirL p s (j:Int)) i) (fun x _=>m - (intOf x).toNat)
     case atStart=>exact ⟨0,by omega,rfl,JR _ _,fun i hi=>absurd hi (by omega)⟩
     case round=>
      obtain ⟨k,hk,rfl,d,O⟩:=hrel;have a0:=JZ O;clear O;have C:=Za H d H.size;rcases JX k m with hkl | hkl
      ·have aw:(k:Int) < m:=(by omega);obtain ⟨f,hf⟩:=Yi (fs:=dirL p s (j:Int)) (i:=k) (by rw [l.out];exact hkl);have HQ:Hid (qAt (dirL p s (j:Int)) k=f.q):=JZ (Yt hf);obtain ⟨b5,o5,A5,n5,c5,A6,n6,c6,rfl,_,⟨x0,x1,x2,x3⟩,ag⟩:=V.out.frs.elem d hf;obtain ⟨W6,am,hV,X⟩:=Y7 wr (.bool f.num.neg) (.slice A5 n5 c5) (.bool f.den.neg) (.slice A6 n6 c6);obtain ⟨u0,u1,u2,u3⟩:=hV.four;have ab:=ag.below X;have I:=Za d X d.size;have J:=Za C X C.size;have T:qs f.q=0∨qs f.q=1∨qs f.q= -1:=(by have:=Vb f.q;omega);obtain ⟨bb,ob,z,rfl,z0,ah,-,-⟩:=HI.out.at_ (show k < p.right.length by rw [← a9.out];exact hkl);have ac:Hid (s.at_ k=z):=JZ (LSt.at_eq ah);clear hf ag d C hV X ah;go_wp2_with fail;clear am;refine (Zz _ f _ ab).mono ?_;rintro _ w7 ⟨rfl,a6⟩;have D:=Za I a6 I.size;have E:=Za J a6 J.size;have z1:=Zg E z0;have y4:=Zg E ak.out;clear ab I J a6 x0 x1 x2 x3 u0 u1 u2 u3 z0;rcases T with hq | hq | hq
       ·rw [hq];have L:¬Zwn s (dirL p s (j:Int)) k:=by
         unfold Zwn;rw [HQ.out,ZW.1 hq];rintro (g | g)
         ·exact absurd g (by decide)
         ·exact g.2 rfl
        have M:=JZ L;clear hq L;go_wp2;go_roundw
        case rel=>exact ⟨k+1,by omega,by go_num,D,fun i hi=>by
         by_cases g:i=k
         ·rw [g];exact M.out
         ·exact a0.out i (by omega)⟩
        case measure=>simp [intOf];omega
       ·rw [hq];have hh:Zwn s (dirL p s (j:Int)) k:= .inl (by rw [HQ.out];exact Zat.1 (by omega));have r:Hid (WL p s=0):=JZ (by rw [v.out,Zfj hh _ (by rw [l.out];exact hkl)];rfl);have b:=V.out.below D;rw [U.out] at b;have a:=E;clear hq hh;go_wp2;refine bodyPost_ret (results_tmp3 rfl _ _ _) rfl ?_;exact ⟨_,by rw [r.out,u.out];rfl,b,a⟩
       ·rw [hq];have a1:f.q≠0:=fun g=>by have:=ZW.2 g;omega
        have a2:¬0 < f.q:=fun g=>by have:=Zat.2 g;omega
        by_cases a7:z < 0
        ·have hh:Zwn s (dirL p s (j:Int)) k:= .inr ⟨by rw [ac.out];exact a7,by rw [HQ.out];exact a1⟩;have r:Hid (WL p s=0):=JZ (by rw [v.out,Zfj hh _ (by rw [l.out];exact hkl)];rfl);have b:=V.out.below D;rw [U.out] at b;have a:=E;clear hq hh a1 a2;go_wp2;refine bodyPost_ret (results_tmp3 rfl _ _ _) rfl ?_;exact ⟨_,by rw [r.out,u.out];rfl,b,a⟩
        ·have L:¬Zwn s (dirL p s (j:Int)) k:=by
          unfold Zwn;rw [HQ.out,ac.out];rintro (g | g)
          ·exact a2 g
          ·exact a7 g.1
         have M:=JZ L;have ax:0≤z:=(by omega);clear hq L a1 a2 a7;go_wp2;go_roundw
         case rel=>exact ⟨k+1,by omega,by go_num,D,fun i hi=>by
          by_cases g:i=k
          ·rw [g];exact M.out
          ·exact a0.out i (by omega)⟩
         case measure=>simp [intOf];omega
      ·obtain rfl:m=k:=by omega
       have r:Hid (WL p s=3):=JZ (by rw [v.out,Zlx R.out.symm _ (by rw [l.out];exact a0.out)];rfl);have b:=V.out.below d;rw [U.out] at b;have a:=C;go_wp2;refine bodyPost_ret (results_tmp3 rfl _ _ _) rfl ?_;exact ⟨_,by rw [r.out,u.out];rfl,b,a⟩
   ·have M:Hid (¬Zfq p s (j:Int) < 0):=JZ fun g=>hn (by have:=Zei.2 g;omega)
    have ay:0≤qs (Zfq p s (j:Int)):=(by omega);clear T hn;go_wp2_with fail;refine (Zz _ (canF (Zfq p s (j:Int))) _ e2).mono ?_;rw [Zu];rintro _ w3 ⟨rfl,P⟩;have ad:=Za y P y.size;clear y B P e2;go_wp2;go_roundw
    case rel=>exact ⟨j+1,by omega,by go_num,rfl,ad,fun i hi=>by
     by_cases g:i=j
     ·rw [g];exact M.out
     ·exact Y.out i (by omega)⟩
    case measure=>simp [intOf];omega
  ·obtain rfl:N=j:=by omega
   have HE:=JZ (Zwp (p:=p) (s:=s) (by rw [← HN.out];exact Y.out));have u:Hid (Zcd p s= -1):=JZ (Zbf HE.out).2.1;have b:Yd w.heap.size wr (.slice none 0 0) (Zce p s):=(by rw [(Zbf HE.out).2.2];exact Yd.nil _ _);have a:=G;have y3:=Zg G a8.out;have v:Hid (WL p s=if s.phase=1 then 2 else 1):=JZ (Zbf HE.out).1;rcases hph with hp1 | hp2
   ·have r:Hid (WL p s=2):=JZ (by rw [v.out,if_pos (by rw [← R.out];exact hp1)]);subst hp1;go_wp2;refine bodyPost_ret (results_tmp3 rfl _ _ _) rfl ?_;exact ⟨_,by rw [r.out,u.out];rfl,b,a⟩
   ·have r:Hid (WL p s=1):=JZ (by rw [v.out,if_neg (by rw [← R.out];omega)]);subst hp2;go_wp2;refine bodyPost_ret (results_tmp3 rfl _ _ _) rfl ?_;exact ⟨_,by rw [r.out,u.out];rfl,b,a⟩
theorem Zbh [Old] (e:Nat) (p:LPd) (s:LSt) (K i:Nat) (w:World) (h:Zss w e p s K) (S:s.Fit p) (F:p.Ft K) (hi:i < p.right.length) (hOl:Zb w:=by (repeat (first | assumption | exact Zb.up (by assumption) hOl | exact Zb.up (Hid.out (by assumption)) hOl | with_reducible refine Zb.set ?_ _ _ | with_reducible refine Zb.mk_ ?_ _ | with_reducible refine Zb.dr ?_ | with_reducible refine Zb.drN ?_ | refine Zb.up (by assumption) ?_ | refine Zb.up (Hid.out (by assumption)) ?_))):
 Calls Tryz.prog 121 #[.pointer (some ⟨e,0,none⟩),.int .i64 (i:Int)] w fun o w'=>o= .returned (.int .i64 (ordQ p (s.at_ i)))∧Below w.heap.size w w':=by
 have g:=hOl.le;obtain ⟨Ab,cb,base,bi,gB,vz,h1,h2,⟨h3,r⟩,h4⟩:=h;obtain ⟨-,y4,-,-,-⟩:=h1.cells;obtain ⟨A,n,c,A',N,c',t,u,v,hB,-,hv,-⟩:=h1;obtain ⟨l1,l2,l3⟩:=hv.len;have y1:=hB.cellAt 1 rfl;obtain ⟨-,d,f⟩:=h2.len;obtain ⟨bb,ob,z,rfl,z0,a,x,y⟩:=h2.at_ hi;have b:Hid (s.at_ i=z):=JZ (LSt.at_eq a);have j:=S.1 i z a;have k:=F.1.cols;have l:(i:Int) < p.right.length:=by omega
 have HN:=JZ l1;have m:N≤1200:=by omega
 have q:=F.2.1;rw [b.out];rcases Int.lt_or_le z 0 with hz0 | hz0
 ·have HQ:Hid (ordQ p z=N - 1 - z):=JZ (by unfold ordQ;rw [if_neg (by omega),HN.out]);rw [HQ.out];clear h2 h3 h4 hB hv a S F l1 HQ;go_enter Tryz.func121,Tryz.ntmps121;go_wp2;go_ret;exact ⟨by go_num,JR _ _⟩
 ·have HQ:Hid (ordQ p z=z):=JZ (by unfold ordQ;rw [if_pos hz0]);rw [HQ.out];clear h2 h3 h4 hB hv a S F l1 HQ;go_enter Tryz.func121,Tryz.ntmps121;go_wp2;go_ret;exact ⟨rfl,JR _ _⟩
section
def Ybd [Old] (U w:World) (e:Nat) (p:LPd) (s:LSt) (K:Nat) (A:Option Addr) (n c:Nat) (A':Option Addr) (n' c':Nat) (A'':Option Addr) (n'' c'':Nat) (Ab:Option Addr) (cb gB:Nat) (vz:Value):Prop:=
 ∃bB bi,(WA U (.slice A n c) p.cost∧Xz U (.slice A' n' c') p.cols∧WA U (.slice A'' n'' c'') p.right)∧(U.heap.size≤e∧U.heap.size≤bB∧bB≤w.heap.size∧bi≤w.heap.size)∧ZI U.heap.size w (.slice Ab p.right.length cb) s.basis∧(∀b,(Value.slice Ab p.right.length cb).ownBlock=some b→b < bB)∧
  Zca bB bi w gB p.right.length K (s.mat p)∧Yd U.heap.size w vz (zL p s)∧(∀b,vz.ownBlock=some b→b < bi)∧Below U.heap.size U w
def Zly [Old] (U w:World) (e:Nat) (p:LPd) (s:LSt) (K:Nat):Prop:=
 ∃A n c A' n' c' A'' n'' c'' Ab cb gB vz,Bk w e 107 [.slice A n c,.slice A' n' c',.slice A'' n'' c'',.int .i64 s.phase,.slice Ab p.right.length cb,.int .i64 s.pivots,.pointer (some ⟨gB,0,none⟩),vz]∧Ybd U w e p s K A n c A' n' c' A'' n'' c'' Ab cb gB vz
section
variable {U w w':World} {e:Nat} {p:LPd} {s:LSt} {K:Nat} {A:Option Addr} {n c:Nat} {A':Option Addr} {n' c':Nat} {A'':Option Addr} {n'' c'':Nat} {Ab:Option Addr} {cb gB:Nat} {vz:Value}
theorem Ybd.below [Old] (h:Ybd U w e p s K A n c A' n' c' A'' n'' c'' Ab cb gB vz) (hb:Below w.heap.size w w'):Ybd U w' e p s K A n c A' n' c' A'' n'' c'' Ab cb gB vz:=by
 obtain ⟨bB,bi,h1,⟨h2,h3,h4,h5⟩,h6,h7,h8,h9,b,a⟩:=h;have:=hb.size;exact ⟨bB,bi,h1,⟨h2,h3,by omega,by omega⟩,h6.below hb,h7,h8.below hb,h9.below hb,b,Za a hb a.size⟩
theorem Ybd.cell [Old] {cs:List Value} (h:Ybd U w e p s K A n c A' n' c' A'' n'' c'' Ab cb gB vz) (hB:Bk w e 107 cs) (i:Nat) (v:Value) (hOU:Old.n≤U.heap.size:=by first | assumption | exact Nat.zero_le _ | omega | ((first | with_reducible refine Zb.le ?_ | with_reducible refine Zb.le1 ?_ | with_reducible refine Zb.le2 ?_ | with_reducible refine Zb.le3 ?_);repeat (first | assumption | exact Zb.up (by assumption) hOl | exact Zb.up (Hid.out (by assumption)) hOl | with_reducible refine Zb.set ?_ _ _ | with_reducible refine Zb.mk_ ?_ _ | with_reducible refine Zb.dr ?_ | with_reducible refine Zb.drN ?_ | refine Zb.up (by assumption) ?_ | refine Zb.up (Hid.out (by assumption)) ?_))):Ybd U (w.setCell ⟨e,i,none⟩ v) e p s K A n c A' n' c' A'' n'' c'' Ab cb gB vz:=by
 obtain ⟨bB,bi,h1,⟨h2,h3,h4,h5⟩,h6,h7,h8,h9,a,b⟩:=h;have d:=JW hOU h2;have hk:=Ze.setCell hB i v;exact ⟨bB,bi,h1,⟨h2,h3,by simpa using h4,by simpa using h5⟩,h6.but hk (by decide),h7,h8.but hk (by decide) (by decide) (by decide) (by decide) (by decide) (by decide) (by decide),h9.but hk (by decide) (by decide),a,b.setCell (p:=⟨e,i,none⟩) h2 v⟩
theorem Zly.below [Old] (h:Zly U w e p s K) (hb:Below w.heap.size w w'):Zly U w' e p s K:=by
 obtain ⟨A,n,c,A',n',c',a,b,d,Ab,cb,gB,vz,h1,h2⟩:=h;exact ⟨A,n,c,A',n',c',a,b,d,Ab,cb,gB,vz,h1.later hb,h2.below hb⟩
theorem Zly.bel [Old] (h:Zly U w e p s K):Below U.heap.size U w:=by
 obtain ⟨A,n,c,A',n',c',a,b,d,Ab,cb,gB,vz,h1,bB,bi,_,_,_,_,_,_,_,h2⟩:=h;exact h2
theorem Zly.r [Old] (h:Zly U w e p s K) (hOU:Old.n≤U.heap.size:=by first | assumption | exact Nat.zero_le _ | omega | ((first | with_reducible refine Zb.le ?_ | with_reducible refine Zb.le1 ?_ | with_reducible refine Zb.le2 ?_ | with_reducible refine Zb.le3 ?_);repeat (first | assumption | exact Zb.up (by assumption) hOl | exact Zb.up (Hid.out (by assumption)) hOl | with_reducible refine Zb.set ?_ _ _ | with_reducible refine Zb.mk_ ?_ _ | with_reducible refine Zb.dr ?_ | with_reducible refine Zb.drN ?_ | refine Zb.up (by assumption) ?_ | refine Zb.up (Hid.out (by assumption)) ?_))):Zss w e p s K:=by
 obtain ⟨A,n,c,A',n',c',a,b,d,Ab,cb,gB,vz,h1,bB,bi,⟨g1,g2,g3⟩,⟨_,q3,_,_⟩,h6,_,h8,h9,_,f⟩:=h;have hb:Below U.heap.size U w:=f;exact ⟨Ab,cb,bB,bi,gB,vz,⟨A,n,c,A',n',c',a,b,d,h1,g1.below hb,g2.below hb,g3.below hb⟩,h6.ints,⟨h8,JW hOU q3⟩,h9.frs⟩
end
namespace Pl
theorem Zzt {p:LPd} {s:LSt} (h:s.phase=2):Zy p s=s:=by
 obtain ⟨a,b,c⟩:=s;simp only at h;subst h;unfold Zy;simp
theorem Zst {p:LPd} {s:LSt} {k:Nat} (hk:k < (zL p s).length) (h1:s.at_ k < 0) (h2:qAt (zL p s) k≠0):Zy p s=s:=by
 unfold Zy;rw [Zaz h1 h2 hk];rfl
theorem Zwq {p:LPd} {s:LSt} (h:∀k,k < (zL p s).length→s.at_ k < 0→qAt (zL p s) k=0):Zy p s=⟨2,s.basis,s.pivots⟩:=by
 unfold Zy;rw [Zja h];rfl
end Pl
theorem Zhb [Old] (U:World) (e:Nat) (p:LPd) (s:LSt) (K:Nat) (w:World) (h:Zly U w e p s K) (F:p.Ft K) (hOl:Zb w:=by (repeat (first | assumption | exact Zb.up (by assumption) hOl | exact Zb.up (Hid.out (by assumption)) hOl | with_reducible refine Zb.set ?_ _ _ | with_reducible refine Zb.mk_ ?_ _ | with_reducible refine Zb.dr ?_ | with_reducible refine Zb.drN ?_ | refine Zb.up (by assumption) ?_ | refine Zb.up (Hid.out (by assumption)) ?_))) (hOU:Old.n≤U.heap.size:=by first | assumption | exact Nat.zero_le _ | omega | ((first | with_reducible refine Zb.le ?_ | with_reducible refine Zb.le1 ?_ | with_reducible refine Zb.le2 ?_ | with_reducible refine Zb.le3 ?_);repeat (first | assumption | exact Zb.up (by assumption) hOl | exact Zb.up (Hid.out (by assumption)) hOl | with_reducible refine Zb.set ?_ _ _ | with_reducible refine Zb.mk_ ?_ _ | with_reducible refine Zb.dr ?_ | with_reducible refine Zb.drN ?_ | refine Zb.up (by assumption) ?_ | refine Zb.up (Hid.out (by assumption)) ?_))):
 Calls Tryz.prog 89 #[.pointer (some ⟨e,0,none⟩)] w fun o w'=>o= .returned (.tuple #[])∧Zly U w' e p (Zy p s) K:=by
 have a5:=hOl.le;have HO:=JZ h;have HR:=JZ h.r.reg;obtain ⟨Ab,cb,base,bi,gB,vz,h1,h2,⟨h3,ac⟩,h4⟩:=h.r;obtain ⟨y3,y4,-,-,y7⟩:=h1.cells;obtain ⟨ph,hp⟩:∃ph,ph=s.phase:=⟨_,rfl⟩;have J:=JZ hp;rw [← hp] at y3;obtain ⟨m,hm⟩:∃m,m=p.right.length:=⟨_,rfl⟩;have L:=JZ hm;rw [← hm] at y4;have a6:m≤7:=by rw [hm];exact F.2.1
 obtain ⟨-,E,a3⟩:=h2.len;rw [← hm] at E;have l:Hid ((zL p s).length=m):=JZ (by rw [hm];exact Zod HR.out);obtain ⟨Az,cz,rfl,G,a4⟩:=h4.shape;rw [l.out] at h4 G y7;have HI:=JZ h2;have M:=JZ h4;have a7:=JZ y3;have a8:=JZ y4;have N:=JZ y7;clear h h1 h2 h3 h4 F hp hm;by_cases y:ph=2
 ·subst y;clear y4 y7;go_enter Tryz.func89,Tryz.ntmps89;go_wp2;refine bodyPost_ret (results_none rfl _ _ _) rfl ?_;exact ⟨rfl,by rw [Zzt J.out.symm];exact HO.out⟩
 ·have O:(ph==2)=false:=by simpa using y
  clear y7;go_enter Tryz.func89,Tryz.ntmps89;go_wp2;clear y3 y4 O y
  go_loopw [14] (fun x wr=>∃k:Nat,k≤m∧x= .int .i64 k∧Below w.heap.size w wr∧∀i,i < k→s.at_ i < 0→qAt (zL p s) i=0) (fun x _=>m - (intOf x).toNat)
  case atStart=>exact ⟨0,by omega,rfl,JR _ _,fun i hi=>absurd hi (by omega)⟩
  case round=>
   obtain ⟨k,hk,rfl,a,H⟩:=hrel;have u:=JZ H;clear H;rcases JX k m with hkl | hkl
   ·have a9:(k:Int) < m:=(by omega);obtain ⟨bb,ob,z,rfl,z0,I,-,-⟩:=HI.out.at_ (show k < p.right.length by rw [← L.out];exact hkl);have B:Hid (s.at_ k=z):=JZ (LSt.at_eq I);obtain ⟨f,hf⟩:=Yi (fs:=zL p s) (i:=k) (by rw [l.out];exact hkl);have HQ:Hid (qAt (zL p s) k=f.q):=JZ (Yt hf);have z1:=Zg a z0;clear I z0;by_cases a2:z < 0
    ·obtain ⟨b5,o5,A5,n5,c5,A6,n6,c6,rfl,_,⟨x0,x1,x2,x3⟩,t⟩:=M.out.elem a hf;have y7:=Zg a N.out;have C:qs f.q=0∨qs f.q=1∨qs f.q= -1:=(by have:=Vb f.q;omega);clear hf;by_cases b:qs f.q=0
     ·have v:=JZ (ZW.1 b);clear C;go_wp2_with fail;refine (Zz _ f _ t).mono ?_;rw [b];rintro _ w3 ⟨rfl,j⟩;have d:=Za a j a.size;clear a j t x0 x1 x2 x3 y7 b z1;go_wp2;go_roundw
      case rel=>exact ⟨k+1,by omega,by go_num,d,fun i hi=>by
       by_cases g:i=k
       ·rw [g];exact fun _=>by rw [HQ.out];exact v.out
       ·exact u.out i (by omega)⟩
      case measure=>simp [intOf];omega
     ·have v:Hid (f.q≠0):=JZ fun g=>b (ZW.2 g)
      have aa:(qs f.q !=0)=true:=(by simpa using b);clear C b;go_wp2_with fail;refine (Zz _ f _ t).mono ?_;rintro _ w3 ⟨rfl,j⟩;have d:=Za a j a.size;have D:Zy p s=s:=Zst (k:=k) (by rw [l.out];exact hkl) (by rw [B.out];exact a2) (by rw [HQ.out];exact v.out);clear a j t x0 x1 x2 x3 y7 z1;go_wp2;refine bodyPost_ret (results_none rfl _ _ _) rfl ?_;exact ⟨rfl,by rw [D];exact HO.out.below d⟩
    ·have ab:0≤z:=(by omega);clear hf;go_wp2;go_roundw
     case rel=>exact ⟨k+1,by omega,by go_num,a,fun i hi=>by
      by_cases g:i=k
      ·rw [g,B.out];intro h;omega
      ·exact u.out i (by omega)⟩
     case measure=>simp [intOf];omega
   ·obtain rfl:m=k:=by omega
    obtain ⟨A,n,c,A',n',c',T,V,X,Y,Z,a0,a1,hB,hI⟩:=HO.out.below a;have t3:=hB.cellAt 3 rfl;have f3:=hB.frozen 3;have P:=hI.cell hB 3 (.int .i64 2);have R:=hB.set_ 3 (.int .i64 2);have S:Hid (Zy p s=⟨2,s.basis,s.pivots⟩):=JZ (Zwq (by rw [l.out];exact u.out));clear hB hI;go_wp2
    go_end0
    exact ⟨rfl,by rw [S.out];exact ⟨A,n,c,A',n',c',T,V,X,Y,Z,a0,a1,R,P⟩⟩
theorem Zoh [Old] (e:Nat) (p:LPd) (s:LSt) (K:Nat) (vd:Value) (D:List RF) (w:World) (h:Zss w e p s K) (hd:WA w vd D) (hdl:D.length=p.right.length) (hdb:RsL (5^p.right.length * K) D) (S:s.Fit p) (F:p.Ft K) (hOl:Zb w:=by (repeat (first | assumption | exact Zb.up (by assumption) hOl | exact Zb.up (Hid.out (by assumption)) hOl | with_reducible refine Zb.set ?_ _ _ | with_reducible refine Zb.mk_ ?_ _ | with_reducible refine Zb.dr ?_ | with_reducible refine Zb.drN ?_ | refine Zb.up (by assumption) ?_ | refine Zb.up (Hid.out (by assumption)) ?_))):
 Calls Tryz.prog 91 #[.pointer (some ⟨e,0,none⟩),vd] w fun o w'=>o= .returned (.int .i64 (oi (Vk p s (zL p s) D)))∧Below w.heap.size w w':=by
 have ct:=hOl.le;have HH:=JZ h;have HR:=JZ h.reg;obtain ⟨Ab,cb,base,bi,gB,vz,h1,h2,⟨h3,cx⟩,h4⟩:=h;obtain ⟨y3,y4,-,-,y7⟩:=h1.cells;obtain ⟨ph,hp⟩:∃ph,ph=s.phase:=⟨_,rfl⟩;have bj:=JZ hp;rw [← hp] at y3;obtain ⟨m,hm⟩:∃m,m=p.right.length:=⟨_,rfl⟩;have b0:=JZ hm;rw [← hm] at y4;have a9:m≤7:=by rw [hm];exact F.2.1
 obtain ⟨-,c9,cq⟩:=h2.len;rw [← hm] at c9;have bk:Hid ((zL p s).length=m):=JZ (by rw [hm];exact Zod HR.out);have al:Hid (D.length=m):=JZ (by rw [hm];exact hdl);obtain ⟨Az,cz,rfl,ca,cr⟩:=h4.shape;obtain ⟨Ad,cd,rfl,cc,cs⟩:=hd.shape;rw [bk.out] at h4 ca y7;rw [al.out] at hd cc ⊢;have HI:=JZ h2;have bt:=JZ h4;have bl:=JZ hd;have ax:=JZ hdb;have ay:=JZ (Yfe F.1 s);have HJ:Hid (1≤5^p.right.length * K∧5^p.right.length * K≤4000000):=JZ ⟨JW F.1.k1 F.1.le,F.2.2⟩;have HS:=JZ S;have HF:=JZ F;have cu:=JZ y4;have bu:=JZ y7;clear h1 h2 h3 h4 S F hd hdl hdb hp hm y7;by_cases bh:ph=2
 ·subst bh;go_enter Tryz.func91,Tryz.ntmps91;go_wp2;clear y3 y4
  go_loopw [24] (fun x wr=>∃k:Nat,k≤m∧x= .int .i64 k∧Below w.heap.size w wr∧∀i,0≤i→i < 0+k→¬Zsq s D i < 0) (fun x _=>m - (intOf x).toNat)
  case atStart=>exact ⟨0,by omega,rfl,JR _ _,fun i _ hi=>absurd hi (by omega)⟩
  case round=>
   obtain ⟨k,hk,rfl,B,ce⟩:=hrel;have bg:=JZ ce;clear ce;rcases JX k m with hkl | hkl
   ·have bv:(k:Int) < m:=(by omega);obtain ⟨bb,ob,z,rfl,z0,cf,-,-⟩:=HI.out.at_ (show k < p.right.length by rw [← b0.out];exact hkl);have bw:Hid (s.at_ k=z):=JZ (LSt.at_eq cf);obtain ⟨f,hf⟩:=Yi (fs:=D) (i:=k) (by rw [al.out];exact hkl);have HQ:Hid (qAt D k=f.q):=JZ (Yt hf);have z1:=Zg B z0;clear cf z0;by_cases cp:z < 0
    ·obtain ⟨b5,o5,A5,n5,c5,A6,n6,c6,rfl,_,⟨x0,x1,x2,x3⟩,ab⟩:=bl.out.elem B hf;have aa:qs f.q=0∨qs f.q=1∨qs f.q= -1:=(by have:=Vb f.q;omega);clear hf;by_cases az:qs f.q=0
     ·have bm:=JZ (ZW.1 az);clear aa;go_wp2_with fail;refine (Zz _ f _ ab).mono ?_;rw [az];rintro _ w3 ⟨rfl,bf⟩;have b1:=Za B bf B.size;clear B bf ab x0 x1 x2 x3 az z1;go_wp2;go_roundw
      case rel=>exact ⟨k+1,by omega,by go_num,b1,fun i h0 hi=>by
       by_cases g:i=k
       ·rw [g];exact Zwd fun h=>h.2 (by rw [HQ.out];exact bm.out)
       ·exact bg.out i h0 (by omega)⟩
      case measure=>simp [intOf];omega
     ·have bm:Hid (f.q≠0):=JZ fun g=>az (ZW.2 g)
      have cv:(qs f.q !=0)=true:=(by simpa using az);clear aa az;go_wp2_with fail;refine (Zz _ f _ ab).mono ?_;rintro _ w3 ⟨rfl,bf⟩;have b1:=Za B bf B.size;have cg:Vk p s (zL p s) D=some k:=Zix bj.out.symm (VG (by omega) (by rw [al.out];omega) (Zql (by rw [bw.out];exact cp) (by rw [HQ.out];exact bm.out)) fun i h0 hi=>bg.out i h0 (by omega));clear B bf ab x0 x1 x2 x3 z1;go_wp2;go_ret;exact ⟨by rw [cg];rfl,b1⟩
    ·have cw:0≤z:=(by omega);clear hf;go_wp2;go_roundw
     case rel=>exact ⟨k+1,by omega,by go_num,B,fun i h0 hi=>by
      by_cases g:i=k
      ·rw [g];exact Zwd fun h=>by rw [bw.out] at h;omega
      ·exact bg.out i h0 (by omega)⟩
     case measure=>simp [intOf];omega
   ·obtain rfl:m=k:=by omega
    have bn:Hid (Vk p s (zL p s) D=Yv p s (zL p s) D D.length):=JZ (Ziy bj.out.symm (VF (by rw [al.out];exact bg.out)));obtain ⟨W8,bq,Z,Y⟩:=Y7 wr (.bool false) (.slice none 0 0) (.bool false) (.slice none 0 0);have j:=Za B Y B.size;have am:=B.size;clear B Y;go_wp2;clear bq;generalize wr.heap.size=gl at *
    go_loopw [7,43] (fun bst x wr=>∃k:Nat,k≤m∧x= .int .i64 k∧bst= .int .i64 (oi (Yv p s (zL p s) D k))∧Below w.heap.size w wr∧(∃x y z u,Bk wr gl 48 [x,y,z,u])∧∀t,Yv p s (zL p s) D k=some t→t < k∧Zit wr gl (VR (zL p s) D t)) (fun _ x _=>m - (intOf x).toNat)
    case atStart=>exact ⟨0,by omega,rfl,rfl,j,⟨_,_,_,_,Z⟩,fun t ht=>by cases ht⟩
    case round=>
     clear j Z;obtain ⟨k,hk,rfl,rfl,B,⟨lx,ly,lz,lu,hL⟩,a5⟩:=hrel;rcases JX k m with hkl | hkl
     ·have bv:(k:Int) < m:=(by omega);obtain ⟨f,hf⟩:=Yi (fs:=D) (i:=k) (by rw [al.out];exact hkl);have HQ:Hid (qAt D k=f.q):=JZ (Yt hf);have b2:=ax.out k f hf;obtain ⟨b5,o5,A5,n5,c5,A6,n6,c6,rfl,_,⟨x0,x1,x2,x3⟩,ab⟩:=bl.out.elem B hf;obtain ⟨W6,br,hV,a6⟩:=Y7 wr (.bool f.num.neg) (.slice A5 n5 c5) (.bool f.den.neg) (.slice A6 n6 c6);obtain ⟨u0,u1,u2,u3⟩:=hV.four;have an:=ab.below a6;have a3:=Za B a6 B.size;have b3:=hL.later a6;have ao:=JZ fun t ht=>(⟨(a5 t ht).1,(a5 t ht).2.below a6⟩:t < k∧Zit W6 gl (VR (zL p s) D t))
      have aa:qs f.q=0∨qs f.q=1∨qs f.q= -1:=(by have:=Vb f.q;omega);clear hf ab B hL a5;go_wp2_with fail;clear br;refine (Zz _ f _ an).mono ?_;rintro _ w7 ⟨rfl,a1⟩;have N:=Za a3 a1 a3.size;have ac:=b3.later a1;have a4:=JZ fun t ht=>(⟨(ao.out t ht).1,(ao.out t ht).2.below a1⟩:t < k∧Zit w7 gl (VR (zL p s) D t))
      have a9:=an.below a1;have ap:=hV.later a1;clear an a3 b3 ao hV a6 a1 x0 x1 x2 x3 u0 u1 u2 u3;by_cases A:0 < f.q
      ·have hq:qs f.q=1:=(by have:=Zat.2 A;omega);rw [hq];have b4:f.q≠0:=fun g=>by rw [g] at A;exact absurd A (by decide)
       have b6:f.Sm:=b2.sm (by have:=HJ.out;omega);obtain ⟨fz,ae⟩:=Yi (fs:=zL p s) (i:=k) (by rw [bk.out];exact hkl);have b7:Hid (qAt (zL p s) k=fz.q):=JZ (Yt ae);have b8:fz.Sm:=(ay.out k fz ae).sm (by have:=HJ.out;omega);obtain ⟨bz,oz,A7,n7,c7,A8,n8,c8,rfl,_,⟨z0,z1,z2,z3⟩,au⟩:=bt.out.elem N ae;obtain ⟨u0,u1,u2,u3⟩:=ap.four;have y7:=Zg N bu.out;obtain ⟨q,af⟩:∃q,q=fz.q / f.q:=⟨_,rfl⟩;have b9:Hid (fz.q / f.q=q):=JZ af.symm;have H:Hid (q=VR (zL p s) D k):=JZ (by unfold VR;rw [b7.out,HQ.out];exact af);have R:Hid (0 < qAt D k):=JZ (by rw [HQ.out];exact A);have bo:Hid (Sz (2 * (5^p.right.length * K)) q):=JZ (by
        rw [af,← b7.out,← HQ.out];exact (Zal (ay.out.qAt HJ.out.1 k) (ax.out.qAt HJ.out.1 k)).mono (by omega))
       clear ae af aa hq A b2
       go_upto_region 14 with (fail)
       go_cut [11] (fun s11 wx=>Zbc w7 (canF q) s11 wx)
       case first=>
        have C0:=Zm u0;have C1:=Zm u1;have C2:=Zm u2;have C3:=Zm u3;have E0:=Zm z0;have E1:=Zm z1;have E2:=Zm z2;have E3:=Zm z3;have D0:=Zm y7;have c:=Zf w7;clear u0 u1 u2 u3 z0 z1 z2 z3 y7;refine YC 13 (.go 0 (.go 1 (.go 2 (.go 3 (.go 4 (.go 5 (.go 6 (.go 7 (.fork 8 (.go 9 (.go 10 (.go 11 (.go 12 (.go 13 (.go 14 .done)))))) 12 (.go 8 (.go 9 (.go 10 (.go 11 (.go 13 (.go 14 .done))))))))))))))) (by kernel_rfl) (by kernel_rfl) ?_;repeat ((first | (refine ZJ (v:=?_) rfl rfl rfl ?_ ?_;rotate_left;(· (intro _ M;go_simp;(try go_bits);(try with_reducible rfl)))) | (refine ZT (v:=?_) rfl rfl rfl ?_ ?_;rotate_left;(· (intro _ M;go_simp;(try go_bits);(try with_reducible rfl)))) | refine ZU rfl rfl rfl ?_ | refine ZK rfl rfl rfl (by assumption) ?_);(try simp only [Act.put,pu1,pu2,pu3,pu4,pu5,pu6]))
        refine WI rfl rfl (fun KR hKR=>?_) (fun KR hKR=>?_)
        ·go_simp;(with_reducible refine (Xq _ _ fz f _ (au.below c) (a9.below c) b8 b6 b4).mono ?_);rw [b9.out];rintro _ wA ⟨vA,rfl,eA,ak⟩;have V:=Za c ak c.size;obtain ⟨A6,n6,c6,B6,m6,d6,rfl,_,_⟩:=id eA;refine hKR.out _ _ (Or.inr V) ?_;clear hKR KR;(try simp only [Act.put,pu1,pu2,pu3,pu4,pu5,pu6]);repeat ((first | (refine ZJ (v:=?_) rfl rfl rfl ?_ ?_;rotate_left;(· (intro _ M;go_simp;(try go_bits);(try with_reducible rfl)))) | (refine ZT (v:=?_) rfl rfl rfl ?_ ?_;rotate_left;(· (intro _ M;go_simp;(try go_bits);(try with_reducible rfl)))) | refine ZU rfl rfl rfl ?_ | refine ZK rfl rfl rfl (by assumption) ?_);(try simp only [Act.put,pu1,pu2,pu3,pu4,pu5,pu6]))
         obtain ⟨WG,av,a0,ag⟩:=Y7 wA (.bool false) (.slice none 0 0) (.bool false) (.slice none 0 0);refine ZB rfl rfl (fun KR hKR=>?_);go_simp;have aq:=V.size;have T:=Za V ag V.size;refine hKR.out _ _ (Or.inr T) ?_;clear hKR KR av;(try simp only [Act.put,pu1,pu2,pu3,pu4,pu5,pu6]);have bp:=eA.below ag;obtain ⟨t0,t1,t2,t3⟩:=a0.four;obtain ⟨f0,f1,f2,f3⟩:=a0.fourF;refine ZB rfl rfl (fun KR hKR=>?_);go_simp;refine hKR.out _ _ (Or.inl (by decide)) ?_;clear hKR KR;(try simp only [Act.put,pu1,pu2,pu3,pu4,pu5,pu6]);refine ZB rfl rfl (fun KR hKR=>?_);go_simp;refine hKR.out _ _ (Or.inl (by decide)) ?_;clear hKR KR;(try simp only [Act.put,pu1,pu2,pu3,pu4,pu5,pu6]);refine Yl ?_;go_wp2_with fail
         go_meet
         exact Zbc.mk a0 bp T aq
        ·obtain ⟨WG,av,a0,ag⟩:=Y7 w7.drew (.bool false) (.slice none 0 0) (.bool false) (.slice none 0 0);go_simp;have aq:=c.size;have T:=Za c ag c.size;refine hKR.out _ _ (Or.inr T) ?_;clear hKR KR av;(try simp only [Act.put,pu1,pu2,pu3,pu4,pu5,pu6])
         change Bk WG w7.heap.size 48 _ at a0
         refine ZB rfl rfl (fun KR hKR=>?_);go_simp;(with_reducible refine (Xq _ _ fz f _ (au.below T) (a9.below T) b8 b6 b4).mono ?_);rw [b9.out];rintro _ wA ⟨vA,rfl,eA,ak⟩;have V:=Za T ak T.size;obtain ⟨A6,n6,c6,B6,m6,d6,rfl,_,_⟩:=id eA;refine hKR.out _ _ (Or.inr V) ?_;clear hKR KR;(try simp only [Act.put,pu1,pu2,pu3,pu4,pu5,pu6]);have hG:=a0.later ak;repeat ((first | (refine ZJ (v:=?_) rfl rfl rfl ?_ ?_;rotate_left;(· (intro _ M;go_simp;(try go_bits);(try with_reducible rfl)))) | (refine ZT (v:=?_) rfl rfl rfl ?_ ?_;rotate_left;(· (intro _ M;go_simp;(try go_bits);(try with_reducible rfl)))) | refine ZU rfl rfl rfl ?_ | refine ZK rfl rfl rfl (by assumption) ?_);(try simp only [Act.put,pu1,pu2,pu3,pu4,pu5,pu6]))
         obtain ⟨t0,t1,t2,t3⟩:=hG.four;obtain ⟨f0,f1,f2,f3⟩:=hG.fourF;refine ZB rfl rfl (fun KR hKR=>?_);go_simp;refine hKR.out _ _ (Or.inl (by decide)) ?_;clear hKR KR;(try simp only [Act.put,pu1,pu2,pu3,pu4,pu5,pu6]);refine ZB rfl rfl (fun KR hKR=>?_);go_simp;refine hKR.out _ _ (Or.inl (by decide)) ?_;clear hKR KR;(try simp only [Act.put,pu1,pu2,pu3,pu4,pu5,pu6]);refine Yl ?_;go_wp2_with fail
         go_meet
         exact Zbc.mk hG eA V aq
       case rest=>
        obtain ⟨gm,Am,nm,cm,C,E,G,rfl,cl,a7,a8,Y⟩:=hcut;have j:=Za N Y N.size;have Z:=ac.later Y;have ar:=JZ fun t ht=>(⟨(a4.out t ht).1,(a4.out t ht).2.below Y⟩:t < k∧Zit wc gl (VR (zL p s) D t))
        have bx:gl≠gm:=(by have:=ac.lt;omega);clear N ac a4 a9 ap au Y u0 u1 u2 u3 z0 z1 z2 z3 y7
        cases hbo:Yv p s (zL p s) D k with
        | none=>
         have d:Hid (Yv p s (zL p s) D (k+1)=some k):=JZ (WM hbo R.out);have I:=a7;have b:=Z;have J:=a8;have a:=j;obtain ⟨w9,aw⟩:∃w9,w9=wc:=⟨_,rfl⟩;subst aw;clear a7 Z a8 j ar hbo;simp only [oi]
         -- region 19:position k is the best
         obtain ⟨t0,t1,t2,t3⟩:=I.four;obtain ⟨c0,c1,c2,c3⟩:=b.four;obtain ⟨f0,f1,f2,f3⟩:=b.fourF
         go_upto_region 19 with (fail)
         have C0:=Zm t0;have C1:=Zm t1;have C2:=Zm t2;have C3:=Zm t3;have c:=Zf w9;clear t0 t1 t2 t3;refine Zp 3 [0,1,2,3] (by kernel_rfl) (by kernel_rfl) ?_;repeat ((first | (refine Zd (v:=?_) rfl rfl rfl ?_ ?_;rotate_left;(· (intro _ M;go_simp;(try go_bits);(try with_reducible rfl)))) | (refine Zj (v:=?_) rfl rfl rfl ?_ ?_;rotate_left;(· (intro _ M;go_simp;(try go_bits);(try with_reducible rfl)))) | refine Zk rfl rfl rfl ?_);(try simp only [Act.put,pu1,pu2,pu3,pu4,pu5,pu6]))
         refine Zh rfl rfl (fun KR hKR=>?_);go_simp;refine hKR.out _ _ (Or.inl (by decide)) ?_;clear hKR KR;(try simp only [Act.put,pu1,pu2,pu3,pu4,pu5,pu6]);refine Zx ?_;clear C0 C1 C2 C3;have l:=(b.later c).set4 (.bool (canF q).num.neg) (.slice Am nm cm) (.bool (canF q).den.neg) (.slice C E G);have n:=(b.later c).but4 (.bool (canF q).num.neg) (.slice Am nm cm) (.bool (canF q).den.neg) (.slice C E G);have U:=(J.below c).keep (n.keep (by decide));have L:=ZE (Za a c a.size) am (.bool (canF q).num.neg) (.slice Am nm cm) (.bool (canF q).den.neg) (.slice C E G);clear b I J n c c0 c1 c2 c3 f0 f1 f2 f3 a;go_wp2;go_roundw
         case rel=>exact ⟨k+1,by omega,by go_num,by rw [d.out];rfl,L,⟨_,_,_,_,l⟩,fun t ht=>by
          rw [d.out] at ht;injection ht with ht;subst ht;exact ⟨by omega,Am,nm,cm,C,E,G,by rw [← H.out];exact l,by rw [← H.out];exact U⟩⟩
         case measure=>simp [intOf];omega
        | some tb=>
         obtain ⟨cn,A4,n4,c4,A5,n5,c5,ah,ai⟩:=ar.out tb hbo;have ch:(tb:Int) < m:=(by omega);have ba:qs (q - VR (zL p s) D tb)=0∨qs (q - VR (zL p s) D tb)=1∨qs (q - VR (zL p s) D tb)= -1:=(by have:=Vb (q - VR (zL p s) D tb);omega);obtain ⟨rb,aj⟩:∃rb,rb=VR (zL p s) D tb:=⟨_,rfl⟩;have X:=JZ aj;rw [← aj] at ah ai ba;have bc:(canF q).Sm:=bo.out.rs.sm (by have:=HJ.out;omega);have bd:(canF rb).Sm:=by
          rw [aj];unfold VR;exact (Zal (ay.out.qAt HJ.out.1 tb) (ax.out.qAt HJ.out.1 tb)).rs.sm (by have:=HJ.out;omega)
         have ad:=JZ hbo;obtain ⟨u0,u1,u2,u3⟩:=a7.four;obtain ⟨z0,z1,z2,z3⟩:=ah.four;simp only [oi];clear ar hbo aj Z;go_wp2_with fail;refine (Zcl _ _ (canF q) (canF rb) _ a8 ai bc bd).mono ?_;rw [Zu,Zu];rintro _ w9 ⟨rfl,a2⟩;have I:=a7.later a2;have b:=ah.later a2;have J:=a8.below a2;have r:=ai.below a2;have a:=Za j a2 j.size;clear a7 ah a8 ai j a2 u0 u1 u2 u3 z0 z1 z2 z3 bc bd;rcases ba with hc | hc | hc
         ·rw [hc];have be:Hid (q=rb):=JZ (by have:=ZW.1 hc;grind);clear hc;go_wp2_with fail;refine (Zbh e p s K k _ (HH.out.below a) HS.out HF.out (by rw [← b0.out];exact hkl)).mono ?_;rintro _ co ⟨rfl,O⟩;have I:=I.later O;have b:=b.later O;have J:=J.below O;have r:=r.below O;have a:=Za a O a.size;clear O;go_wp2_with fail;refine (Zbh e p s K tb _ (HH.out.below a) HS.out HF.out (by rw [← b0.out];omega)).mono ?_;rintro _ bs ⟨rfl,P⟩;have I:=I.later P;have b:=b.later P;have J:=J.below P;have r:=r.below P;have a:=Za a P a.size;clear P;by_cases ho:ordQ p (s.at_ k) < ordQ p (s.at_ tb)
          ·have d:Hid (Yv p s (zL p s) D (k+1)=some k):=JZ (Xb ad.out R.out (.inr ⟨by rw [← H.out,← X.out];exact be.out,ho⟩));obtain ⟨w9,aw⟩:∃w9,w9=bs:=⟨_,rfl⟩;subst aw
           -- region 19:position k is the best
           obtain ⟨t0,t1,t2,t3⟩:=I.four;obtain ⟨c0,c1,c2,c3⟩:=b.four;obtain ⟨f0,f1,f2,f3⟩:=b.fourF
           go_upto_region 19 with (fail)
           have C0:=Zm t0;have C1:=Zm t1;have C2:=Zm t2;have C3:=Zm t3;have c:=Zf w9;clear t0 t1 t2 t3;refine Zp 3 [0,1,2,3] (by kernel_rfl) (by kernel_rfl) ?_;repeat ((first | (refine Zd (v:=?_) rfl rfl rfl ?_ ?_;rotate_left;(· (intro _ M;go_simp;(try go_bits);(try with_reducible rfl)))) | (refine Zj (v:=?_) rfl rfl rfl ?_ ?_;rotate_left;(· (intro _ M;go_simp;(try go_bits);(try with_reducible rfl)))) | refine Zk rfl rfl rfl ?_);(try simp only [Act.put,pu1,pu2,pu3,pu4,pu5,pu6]))
           refine Zh rfl rfl (fun KR hKR=>?_);go_simp;refine hKR.out _ _ (Or.inl (by decide)) ?_;clear hKR KR;(try simp only [Act.put,pu1,pu2,pu3,pu4,pu5,pu6]);refine Zx ?_;clear C0 C1 C2 C3;have l:=(b.later c).set4 (.bool (canF q).num.neg) (.slice Am nm cm) (.bool (canF q).den.neg) (.slice C E G);have n:=(b.later c).but4 (.bool (canF q).num.neg) (.slice Am nm cm) (.bool (canF q).den.neg) (.slice C E G);have U:=(J.below c).keep (n.keep (by decide));have L:=ZE (Za a c a.size) am (.bool (canF q).num.neg) (.slice Am nm cm) (.bool (canF q).den.neg) (.slice C E G);clear b I J n c c0 c1 c2 c3 f0 f1 f2 f3 a;go_wp2;go_roundw
           case rel=>exact ⟨k+1,by omega,by go_num,by rw [d.out];rfl,L,⟨_,_,_,_,l⟩,fun t ht=>by
            rw [d.out] at ht;injection ht with ht;subst ht;exact ⟨by omega,Am,nm,cm,C,E,G,by rw [← H.out];exact l,by rw [← H.out];exact U⟩⟩
           case measure=>simp [intOf];omega
          ·have d:Hid (Yv p s (zL p s) D (k+1)=some tb):=JZ (Xu ad.out R.out (fun g=>by
            rcases g with g | g
            ·rw [← H.out,← X.out,be.out] at g;exact absurd g (by grind)
            ·exact ho g.2))
           have ci:ordQ p (s.at_ tb)≤ordQ p (s.at_ k):=(by omega);clear ho;generalize ordQ p (s.at_ k)=o1 at *;generalize ordQ p (s.at_ tb)=o2 at *;rw [X.out] at b r
           -- region 20:the best stays
           go_wp2;go_roundw
           case rel=>exact ⟨k+1,by omega,by go_num,by rw [d.out];rfl,a,⟨_,_,_,_,b⟩,fun t' ht'=>by
            rw [d.out] at ht';injection ht' with ht';subst ht';exact ⟨by omega,A4,n4,c4,A5,n5,c5,b,r⟩⟩
           case measure=>simp [intOf];omega
         ·rw [hc];have d:Hid (Yv p s (zL p s) D (k+1)=some tb):=JZ (Xu ad.out R.out (fun g=>by
           have:=Zat.1 (show 0 < qs (q - rb) by omega);rcases g with g | g
           ·rw [← H.out,← X.out] at g;grind
           ·have g1:=g.1;rw [← H.out,← X.out] at g1;grind))
          clear hc;rw [X.out] at b r
          -- region 20:the best stays
          go_wp2;go_roundw
          case rel=>exact ⟨k+1,by omega,by go_num,by rw [d.out];rfl,a,⟨_,_,_,_,b⟩,fun t' ht'=>by
           rw [d.out] at ht';injection ht' with ht';subst ht';exact ⟨by omega,A4,n4,c4,A5,n5,c5,b,r⟩⟩
          case measure=>simp [intOf];omega
         ·rw [hc];have d:Hid (Yv p s (zL p s) D (k+1)=some k):=JZ (Xb ad.out R.out (.inl (by
           have:=Zei.1 (show qs (q - rb) < 0 by omega);rw [← H.out,← X.out];grind)))
          clear hc
          -- region 19:position k is the best
          obtain ⟨t0,t1,t2,t3⟩:=I.four;obtain ⟨c0,c1,c2,c3⟩:=b.four;obtain ⟨f0,f1,f2,f3⟩:=b.fourF
          go_upto_region 19 with (fail)
          have C0:=Zm t0;have C1:=Zm t1;have C2:=Zm t2;have C3:=Zm t3;have c:=Zf w9;clear t0 t1 t2 t3;refine Zp 3 [0,1,2,3] (by kernel_rfl) (by kernel_rfl) ?_;repeat ((first | (refine Zd (v:=?_) rfl rfl rfl ?_ ?_;rotate_left;(· (intro _ M;go_simp;(try go_bits);(try with_reducible rfl)))) | (refine Zj (v:=?_) rfl rfl rfl ?_ ?_;rotate_left;(· (intro _ M;go_simp;(try go_bits);(try with_reducible rfl)))) | refine Zk rfl rfl rfl ?_);(try simp only [Act.put,pu1,pu2,pu3,pu4,pu5,pu6]))
          refine Zh rfl rfl (fun KR hKR=>?_);go_simp;refine hKR.out _ _ (Or.inl (by decide)) ?_;clear hKR KR;(try simp only [Act.put,pu1,pu2,pu3,pu4,pu5,pu6]);refine Zx ?_;clear C0 C1 C2 C3;have l:=(b.later c).set4 (.bool (canF q).num.neg) (.slice Am nm cm) (.bool (canF q).den.neg) (.slice C E G);have n:=(b.later c).but4 (.bool (canF q).num.neg) (.slice Am nm cm) (.bool (canF q).den.neg) (.slice C E G);have U:=(J.below c).keep (n.keep (by decide));have L:=ZE (Za a c a.size) am (.bool (canF q).num.neg) (.slice Am nm cm) (.bool (canF q).den.neg) (.slice C E G);clear b I J n c c0 c1 c2 c3 f0 f1 f2 f3 a;go_wp2;go_roundw
          case rel=>exact ⟨k+1,by omega,by go_num,by rw [d.out];rfl,L,⟨_,_,_,_,l⟩,fun t ht=>by
           rw [d.out] at ht;injection ht with ht;subst ht;exact ⟨by omega,Am,nm,cm,C,E,G,by rw [← H.out];exact l,by rw [← H.out];exact U⟩⟩
          case measure=>simp [intOf];omega
      ·have cj:qs f.q≤0:=by
        rcases aa with g | g | g
        ·omega
        ·exact absurd (Zat.1 (show 0 < qs f.q by omega)) A
        ·omega
       have d:Hid (Yv p s (zL p s) D (k+1)=Yv p s (zL p s) D k):=JZ (Vj (by rw [HQ.out];exact A));clear aa A ap a9;go_wp2;go_roundw
       case rel=>exact ⟨k+1,by omega,by go_num,by rw [d.out],N,⟨_,_,_,_,ac⟩,fun t ht=>by
        rw [d.out] at ht;exact ⟨by have:=(a4.out t ht).1;omega,(a4.out t ht).2⟩⟩
       case measure=>simp [intOf];omega
     ·obtain rfl:m=k:=by omega
      go_wp2;go_ret;exact ⟨by rw [bn.out,al.out];rfl,B⟩
 ·have ck:(ph==2)=false:=by simpa using bh
  have bn:Hid (Vk p s (zL p s) D=Yv p s (zL p s) D D.length):=JZ (Ziw (by rw [← bj.out];exact bh));go_enter Tryz.func91,Tryz.ntmps91;obtain ⟨W8,bq,Z,Y⟩:=Y7 w (.bool false) (.slice none 0 0) (.bool false) (.slice none 0 0);have j:=Y;have am:=JY w.heap.size;go_wp2;clear bq y3 y4 ck bh Y
  go_loopw [7,43] (fun bst x wr=>∃k:Nat,k≤m∧x= .int .i64 k∧bst= .int .i64 (oi (Yv p s (zL p s) D k))∧Below w.heap.size w wr∧(∃x y z u,Bk wr w.heap.size 48 [x,y,z,u])∧∀t,Yv p s (zL p s) D k=some t→t < k∧Zit wr w.heap.size (VR (zL p s) D t)) (fun _ x _=>m - (intOf x).toNat)
  case atStart=>exact ⟨0,by omega,rfl,rfl,j,⟨_,_,_,_,Z⟩,fun t ht=>by cases ht⟩
  case round=>
   clear j Z;obtain ⟨k,hk,rfl,rfl,B,⟨lx,ly,lz,lu,hL⟩,a5⟩:=hrel;rcases JX k m with hkl | hkl
   ·have bv:(k:Int) < m:=(by omega);obtain ⟨f,hf⟩:=Yi (fs:=D) (i:=k) (by rw [al.out];exact hkl);have HQ:Hid (qAt D k=f.q):=JZ (Yt hf);have b2:=ax.out k f hf;obtain ⟨b5,o5,A5,n5,c5,A6,n6,c6,rfl,_,⟨x0,x1,x2,x3⟩,ab⟩:=bl.out.elem B hf;obtain ⟨W6,br,hV,a6⟩:=Y7 wr (.bool f.num.neg) (.slice A5 n5 c5) (.bool f.den.neg) (.slice A6 n6 c6);obtain ⟨u0,u1,u2,u3⟩:=hV.four;have an:=ab.below a6;have a3:=Za B a6 B.size;have b3:=hL.later a6;have ao:=JZ fun t ht=>(⟨(a5 t ht).1,(a5 t ht).2.below a6⟩:t < k∧Zit W6 w.heap.size (VR (zL p s) D t))
    have aa:qs f.q=0∨qs f.q=1∨qs f.q= -1:=(by have:=Vb f.q;omega);clear hf ab B hL a5;go_wp2_with fail;clear br;refine (Zz _ f _ an).mono ?_;rintro _ w7 ⟨rfl,a1⟩;have N:=Za a3 a1 a3.size;have ac:=b3.later a1;have a4:=JZ fun t ht=>(⟨(ao.out t ht).1,(ao.out t ht).2.below a1⟩:t < k∧Zit w7 w.heap.size (VR (zL p s) D t))
    have a9:=an.below a1;have ap:=hV.later a1;clear an a3 b3 ao hV a6 a1 x0 x1 x2 x3 u0 u1 u2 u3;by_cases A:0 < f.q
    ·have hq:qs f.q=1:=(by have:=Zat.2 A;omega);rw [hq];have b4:f.q≠0:=fun g=>by rw [g] at A;exact absurd A (by decide)
     have b6:f.Sm:=b2.sm (by have:=HJ.out;omega);obtain ⟨fz,ae⟩:=Yi (fs:=zL p s) (i:=k) (by rw [bk.out];exact hkl);have b7:Hid (qAt (zL p s) k=fz.q):=JZ (Yt ae);have b8:fz.Sm:=(ay.out k fz ae).sm (by have:=HJ.out;omega);obtain ⟨bz,oz,A7,n7,c7,A8,n8,c8,rfl,_,⟨z0,z1,z2,z3⟩,au⟩:=bt.out.elem N ae;obtain ⟨u0,u1,u2,u3⟩:=ap.four;have y7:=Zg N bu.out;obtain ⟨q,af⟩:∃q,q=fz.q / f.q:=⟨_,rfl⟩;have b9:Hid (fz.q / f.q=q):=JZ af.symm;have H:Hid (q=VR (zL p s) D k):=JZ (by unfold VR;rw [b7.out,HQ.out];exact af);have R:Hid (0 < qAt D k):=JZ (by rw [HQ.out];exact A);have bo:Hid (Sz (2 * (5^p.right.length * K)) q):=JZ (by
      rw [af,← b7.out,← HQ.out];exact (Zal (ay.out.qAt HJ.out.1 k) (ax.out.qAt HJ.out.1 k)).mono (by omega))
     clear ae af aa hq A b2
     go_upto_region 14 with (fail)
     go_cut [11] (fun s11 wx=>Zbc w7 (canF q) s11 wx)
     case first=>
      have C0:=Zm u0;have C1:=Zm u1;have C2:=Zm u2;have C3:=Zm u3;have E0:=Zm z0;have E1:=Zm z1;have E2:=Zm z2;have E3:=Zm z3;have D0:=Zm y7;have c:=Zf w7;clear u0 u1 u2 u3 z0 z1 z2 z3 y7;refine YC 13 (.go 0 (.go 1 (.go 2 (.go 3 (.go 4 (.go 5 (.go 6 (.go 7 (.fork 8 (.go 9 (.go 10 (.go 11 (.go 12 (.go 13 (.go 14 .done)))))) 12 (.go 8 (.go 9 (.go 10 (.go 11 (.go 13 (.go 14 .done))))))))))))))) (by kernel_rfl) (by kernel_rfl) ?_;repeat ((first | (refine ZJ (v:=?_) rfl rfl rfl ?_ ?_;rotate_left;(· (intro _ M;go_simp;(try go_bits);(try with_reducible rfl)))) | (refine ZT (v:=?_) rfl rfl rfl ?_ ?_;rotate_left;(· (intro _ M;go_simp;(try go_bits);(try with_reducible rfl)))) | refine ZU rfl rfl rfl ?_ | refine ZK rfl rfl rfl (by assumption) ?_);(try simp only [Act.put,pu1,pu2,pu3,pu4,pu5,pu6]))
      refine WI rfl rfl (fun KR hKR=>?_) (fun KR hKR=>?_)
      ·go_simp;(with_reducible refine (Xq _ _ fz f _ (au.below c) (a9.below c) b8 b6 b4).mono ?_);rw [b9.out];rintro _ wA ⟨vA,rfl,eA,ak⟩;have V:=Za c ak c.size;obtain ⟨A6,n6,c6,B6,m6,d6,rfl,_,_⟩:=id eA;refine hKR.out _ _ (Or.inr V) ?_;clear hKR KR;(try simp only [Act.put,pu1,pu2,pu3,pu4,pu5,pu6]);repeat ((first | (refine ZJ (v:=?_) rfl rfl rfl ?_ ?_;rotate_left;(· (intro _ M;go_simp;(try go_bits);(try with_reducible rfl)))) | (refine ZT (v:=?_) rfl rfl rfl ?_ ?_;rotate_left;(· (intro _ M;go_simp;(try go_bits);(try with_reducible rfl)))) | refine ZU rfl rfl rfl ?_ | refine ZK rfl rfl rfl (by assumption) ?_);(try simp only [Act.put,pu1,pu2,pu3,pu4,pu5,pu6]))
       obtain ⟨WG,av,a0,ag⟩:=Y7 wA (.bool false) (.slice none 0 0) (.bool false) (.slice none 0 0);refine ZB rfl rfl (fun KR hKR=>?_);go_simp;have aq:=V.size;have T:=Za V ag V.size;refine hKR.out _ _ (Or.inr T) ?_;clear hKR KR av;(try simp only [Act.put,pu1,pu2,pu3,pu4,pu5,pu6]);have bp:=eA.below ag;obtain ⟨t0,t1,t2,t3⟩:=a0.four;obtain ⟨f0,f1,f2,f3⟩:=a0.fourF;refine ZB rfl rfl (fun KR hKR=>?_);go_simp;refine hKR.out _ _ (Or.inl (by decide)) ?_;clear hKR KR;(try simp only [Act.put,pu1,pu2,pu3,pu4,pu5,pu6]);refine ZB rfl rfl (fun KR hKR=>?_);go_simp;refine hKR.out _ _ (Or.inl (by decide)) ?_;clear hKR KR;(try simp only [Act.put,pu1,pu2,pu3,pu4,pu5,pu6]);refine Yl ?_;go_wp2_with fail
       go_meet
       exact Zbc.mk a0 bp T aq
      ·obtain ⟨WG,av,a0,ag⟩:=Y7 w7.drew (.bool false) (.slice none 0 0) (.bool false) (.slice none 0 0);go_simp;have aq:=c.size;have T:=Za c ag c.size;refine hKR.out _ _ (Or.inr T) ?_;clear hKR KR av;(try simp only [Act.put,pu1,pu2,pu3,pu4,pu5,pu6])
       change Bk WG w7.heap.size 48 _ at a0
       refine ZB rfl rfl (fun KR hKR=>?_);go_simp;(with_reducible refine (Xq _ _ fz f _ (au.below T) (a9.below T) b8 b6 b4).mono ?_);rw [b9.out];rintro _ wA ⟨vA,rfl,eA,ak⟩;have V:=Za T ak T.size;obtain ⟨A6,n6,c6,B6,m6,d6,rfl,_,_⟩:=id eA;refine hKR.out _ _ (Or.inr V) ?_;clear hKR KR;(try simp only [Act.put,pu1,pu2,pu3,pu4,pu5,pu6]);have hG:=a0.later ak;repeat ((first | (refine ZJ (v:=?_) rfl rfl rfl ?_ ?_;rotate_left;(· (intro _ M;go_simp;(try go_bits);(try with_reducible rfl)))) | (refine ZT (v:=?_) rfl rfl rfl ?_ ?_;rotate_left;(· (intro _ M;go_simp;(try go_bits);(try with_reducible rfl)))) | refine ZU rfl rfl rfl ?_ | refine ZK rfl rfl rfl (by assumption) ?_);(try simp only [Act.put,pu1,pu2,pu3,pu4,pu5,pu6]))
       obtain ⟨t0,t1,t2,t3⟩:=hG.four;obtain ⟨f0,f1,f2,f3⟩:=hG.fourF;refine ZB rfl rfl (fun KR hKR=>?_);go_simp;refine hKR.out _ _ (Or.inl (by decide)) ?_;clear hKR KR;(try simp only [Act.put,pu1,pu2,pu3,pu4,pu5,pu6]);refine ZB rfl rfl (fun KR hKR=>?_);go_simp;refine hKR.out _ _ (Or.inl (by decide)) ?_;clear hKR KR;(try simp only [Act.put,pu1,pu2,pu3,pu4,pu5,pu6]);refine Yl ?_;go_wp2_with fail
       go_meet
       exact Zbc.mk hG eA V aq
     case rest=>
      obtain ⟨gm,Am,nm,cm,C,E,G,rfl,cl,a7,a8,Y⟩:=hcut;have j:=Za N Y N.size;have Z:=ac.later Y;have ar:=JZ fun t ht=>(⟨(a4.out t ht).1,(a4.out t ht).2.below Y⟩:t < k∧Zit wc w.heap.size (VR (zL p s) D t))
      have bx:w.heap.size≠gm:=(by have:=ac.lt;omega);clear N ac a4 a9 ap au Y u0 u1 u2 u3 z0 z1 z2 z3 y7
      cases hbo:Yv p s (zL p s) D k with
      | none=>
       have d:Hid (Yv p s (zL p s) D (k+1)=some k):=JZ (WM hbo R.out);have I:=a7;have b:=Z;have J:=a8;have a:=j;obtain ⟨w9,aw⟩:∃w9,w9=wc:=⟨_,rfl⟩;subst aw;clear a7 Z a8 j ar hbo;simp only [oi]
       -- region 19:position k is the best
       obtain ⟨t0,t1,t2,t3⟩:=I.four;obtain ⟨c0,c1,c2,c3⟩:=b.four;obtain ⟨f0,f1,f2,f3⟩:=b.fourF
       go_upto_region 19 with (fail)
       have C0:=Zm t0;have C1:=Zm t1;have C2:=Zm t2;have C3:=Zm t3;have c:=Zf w9;clear t0 t1 t2 t3;refine Zp 3 [0,1,2,3] (by kernel_rfl) (by kernel_rfl) ?_;repeat ((first | (refine Zd (v:=?_) rfl rfl rfl ?_ ?_;rotate_left;(· (intro _ M;go_simp;(try go_bits);(try with_reducible rfl)))) | (refine Zj (v:=?_) rfl rfl rfl ?_ ?_;rotate_left;(· (intro _ M;go_simp;(try go_bits);(try with_reducible rfl)))) | refine Zk rfl rfl rfl ?_);(try simp only [Act.put,pu1,pu2,pu3,pu4,pu5,pu6]))
       refine Zh rfl rfl (fun KR hKR=>?_);go_simp;refine hKR.out _ _ (Or.inl (by decide)) ?_;clear hKR KR;(try simp only [Act.put,pu1,pu2,pu3,pu4,pu5,pu6]);refine Zx ?_;clear C0 C1 C2 C3;have l:=(b.later c).set4 (.bool (canF q).num.neg) (.slice Am nm cm) (.bool (canF q).den.neg) (.slice C E G);have n:=(b.later c).but4 (.bool (canF q).num.neg) (.slice Am nm cm) (.bool (canF q).den.neg) (.slice C E G);have U:=(J.below c).keep (n.keep (by decide));have L:=ZE (Za a c a.size) am (.bool (canF q).num.neg) (.slice Am nm cm) (.bool (canF q).den.neg) (.slice C E G);clear b I J n c c0 c1 c2 c3 f0 f1 f2 f3 a;go_wp2;go_roundw
       case rel=>exact ⟨k+1,by omega,by go_num,by rw [d.out];rfl,L,⟨_,_,_,_,l⟩,fun t ht=>by
        rw [d.out] at ht;injection ht with ht;subst ht;exact ⟨by omega,Am,nm,cm,C,E,G,by rw [← H.out];exact l,by rw [← H.out];exact U⟩⟩
       case measure=>simp [intOf];omega
      | some tb=>
       obtain ⟨cn,A4,n4,c4,A5,n5,c5,ah,ai⟩:=ar.out tb hbo;have ch:(tb:Int) < m:=(by omega);have ba:qs (q - VR (zL p s) D tb)=0∨qs (q - VR (zL p s) D tb)=1∨qs (q - VR (zL p s) D tb)= -1:=(by have:=Vb (q - VR (zL p s) D tb);omega);obtain ⟨rb,aj⟩:∃rb,rb=VR (zL p s) D tb:=⟨_,rfl⟩;have X:=JZ aj;rw [← aj] at ah ai ba;have bc:(canF q).Sm:=bo.out.rs.sm (by have:=HJ.out;omega);have bd:(canF rb).Sm:=by
        rw [aj];unfold VR;exact (Zal (ay.out.qAt HJ.out.1 tb) (ax.out.qAt HJ.out.1 tb)).rs.sm (by have:=HJ.out;omega)
       have ad:=JZ hbo;obtain ⟨u0,u1,u2,u3⟩:=a7.four;obtain ⟨z0,z1,z2,z3⟩:=ah.four;simp only [oi];clear ar hbo aj Z;go_wp2_with fail;refine (Zcl _ _ (canF q) (canF rb) _ a8 ai bc bd).mono ?_;rw [Zu,Zu];rintro _ w9 ⟨rfl,a2⟩;have I:=a7.later a2;have b:=ah.later a2;have J:=a8.below a2;have r:=ai.below a2;have a:=Za j a2 j.size;clear a7 ah a8 ai j a2 u0 u1 u2 u3 z0 z1 z2 z3 bc bd;rcases ba with hc | hc | hc
       ·rw [hc];have be:Hid (q=rb):=JZ (by have:=ZW.1 hc;grind);clear hc;go_wp2_with fail;refine (Zbh e p s K k _ (HH.out.below a) HS.out HF.out (by rw [← b0.out];exact hkl)).mono ?_;rintro _ co ⟨rfl,O⟩;have I:=I.later O;have b:=b.later O;have J:=J.below O;have r:=r.below O;have a:=Za a O a.size;clear O;go_wp2_with fail;refine (Zbh e p s K tb _ (HH.out.below a) HS.out HF.out (by rw [← b0.out];omega)).mono ?_;rintro _ bs ⟨rfl,P⟩;have I:=I.later P;have b:=b.later P;have J:=J.below P;have r:=r.below P;have a:=Za a P a.size;clear P;by_cases ho:ordQ p (s.at_ k) < ordQ p (s.at_ tb)
        ·have d:Hid (Yv p s (zL p s) D (k+1)=some k):=JZ (Xb ad.out R.out (.inr ⟨by rw [← H.out,← X.out];exact be.out,ho⟩));obtain ⟨w9,aw⟩:∃w9,w9=bs:=⟨_,rfl⟩;subst aw
         -- region 19:position k is the best
         obtain ⟨t0,t1,t2,t3⟩:=I.four;obtain ⟨c0,c1,c2,c3⟩:=b.four;obtain ⟨f0,f1,f2,f3⟩:=b.fourF
         go_upto_region 19 with (fail)
         have C0:=Zm t0;have C1:=Zm t1;have C2:=Zm t2;have C3:=Zm t3;have c:=Zf w9;clear t0 t1 t2 t3;refine Zp 3 [0,1,2,3] (by kernel_rfl) (by kernel_rfl) ?_;repeat ((first | (refine Zd (v:=?_) rfl rfl rfl ?_ ?_;rotate_left;(· (intro _ M;go_simp;(try go_bits);(try with_reducible rfl)))) | (refine Zj (v:=?_) rfl rfl rfl ?_ ?_;rotate_left;(· (intro _ M;go_simp;(try go_bits);(try with_reducible rfl)))) | refine Zk rfl rfl rfl ?_);(try simp only [Act.put,pu1,pu2,pu3,pu4,pu5,pu6]))
         refine Zh rfl rfl (fun KR hKR=>?_);go_simp;refine hKR.out _ _ (Or.inl (by decide)) ?_;clear hKR KR;(try simp only [Act.put,pu1,pu2,pu3,pu4,pu5,pu6]);refine Zx ?_;clear C0 C1 C2 C3;have l:=(b.later c).set4 (.bool (canF q).num.neg) (.slice Am nm cm) (.bool (canF q).den.neg) (.slice C E G);have n:=(b.later c).but4 (.bool (canF q).num.neg) (.slice Am nm cm) (.bool (canF q).den.neg) (.slice C E G);have U:=(J.below c).keep (n.keep (by decide));have L:=ZE (Za a c a.size) am (.bool (canF q).num.neg) (.slice Am nm cm) (.bool (canF q).den.neg) (.slice C E G);clear b I J n c c0 c1 c2 c3 f0 f1 f2 f3 a;go_wp2;go_roundw
         case rel=>exact ⟨k+1,by omega,by go_num,by rw [d.out];rfl,L,⟨_,_,_,_,l⟩,fun t ht=>by
          rw [d.out] at ht;injection ht with ht;subst ht;exact ⟨by omega,Am,nm,cm,C,E,G,by rw [← H.out];exact l,by rw [← H.out];exact U⟩⟩
         case measure=>simp [intOf];omega
        ·have d:Hid (Yv p s (zL p s) D (k+1)=some tb):=JZ (Xu ad.out R.out (fun g=>by
          rcases g with g | g
          ·rw [← H.out,← X.out,be.out] at g;exact absurd g (by grind)
          ·exact ho g.2))
         have ci:ordQ p (s.at_ tb)≤ordQ p (s.at_ k):=(by omega);clear ho;generalize ordQ p (s.at_ k)=o1 at *;generalize ordQ p (s.at_ tb)=o2 at *;rw [X.out] at b r
         -- region 20:the best stays
         go_wp2;go_roundw
         case rel=>exact ⟨k+1,by omega,by go_num,by rw [d.out];rfl,a,⟨_,_,_,_,b⟩,fun t' ht'=>by
          rw [d.out] at ht';injection ht' with ht';subst ht';exact ⟨by omega,A4,n4,c4,A5,n5,c5,b,r⟩⟩
         case measure=>simp [intOf];omega
       ·rw [hc];have d:Hid (Yv p s (zL p s) D (k+1)=some tb):=JZ (Xu ad.out R.out (fun g=>by
         have:=Zat.1 (show 0 < qs (q - rb) by omega);rcases g with g | g
         ·rw [← H.out,← X.out] at g;grind
         ·have g1:=g.1;rw [← H.out,← X.out] at g1;grind))
        clear hc;rw [X.out] at b r
        -- region 20:the best stays
        go_wp2;go_roundw
        case rel=>exact ⟨k+1,by omega,by go_num,by rw [d.out];rfl,a,⟨_,_,_,_,b⟩,fun t' ht'=>by
         rw [d.out] at ht';injection ht' with ht';subst ht';exact ⟨by omega,A4,n4,c4,A5,n5,c5,b,r⟩⟩
        case measure=>simp [intOf];omega
       ·rw [hc];have d:Hid (Yv p s (zL p s) D (k+1)=some k):=JZ (Xb ad.out R.out (.inl (by
         have:=Zei.1 (show qs (q - rb) < 0 by omega);rw [← H.out,← X.out];grind)))
        clear hc
        -- region 19:position k is the best
        obtain ⟨t0,t1,t2,t3⟩:=I.four;obtain ⟨c0,c1,c2,c3⟩:=b.four;obtain ⟨f0,f1,f2,f3⟩:=b.fourF
        go_upto_region 19 with (fail)
        have C0:=Zm t0;have C1:=Zm t1;have C2:=Zm t2;have C3:=Zm t3;have c:=Zf w9;clear t0 t1 t2 t3;refine Zp 3 [0,1,2,3] (by kernel_rfl) (by kernel_rfl) ?_;repeat ((first | (refine Zd (v:=?_) rfl rfl rfl ?_ ?_;rotate_left;(· (intro _ M;go_simp;(try go_bits);(try with_reducible rfl)))) | (refine Zj (v:=?_) rfl rfl rfl ?_ ?_;rotate_left;(· (intro _ M;go_simp;(try go_bits);(try with_reducible rfl)))) | refine Zk rfl rfl rfl ?_);(try simp only [Act.put,pu1,pu2,pu3,pu4,pu5,pu6]))
        refine Zh rfl rfl (fun KR hKR=>?_);go_simp;refine hKR.out _ _ (Or.inl (by decide)) ?_;clear hKR KR;(try simp only [Act.put,pu1,pu2,pu3,pu4,pu5,pu6]);refine Zx ?_;clear C0 C1 C2 C3;have l:=(b.later c).set4 (.bool (canF q).num.neg) (.slice Am nm cm) (.bool (canF q).den.neg) (.slice C E G);have n:=(b.later c).but4 (.bool (canF q).num.neg) (.slice Am nm cm) (.bool (canF q).den.neg) (.slice C E G);have U:=(J.below c).keep (n.keep (by decide));have L:=ZE (Za a c a.size) am (.bool (canF q).num.neg) (.slice Am nm cm) (.bool (canF q).den.neg) (.slice C E G);clear b I J n c c0 c1 c2 c3 f0 f1 f2 f3 a;go_wp2;go_roundw
        case rel=>exact ⟨k+1,by omega,by go_num,by rw [d.out];rfl,L,⟨_,_,_,_,l⟩,fun t ht=>by
         rw [d.out] at ht;injection ht with ht;subst ht;exact ⟨by omega,Am,nm,cm,C,E,G,by rw [← H.out];exact l,by rw [← H.out];exact U⟩⟩
        case measure=>simp [intOf];omega
    ·have cj:qs f.q≤0:=by
      rcases aa with g | g | g
      ·omega
      ·exact absurd (Zat.1 (show 0 < qs f.q by omega)) A
      ·omega
     have d:Hid (Yv p s (zL p s) D (k+1)=Yv p s (zL p s) D k):=JZ (Vj (by rw [HQ.out];exact A));clear aa A ap a9;go_wp2;go_roundw
     case rel=>exact ⟨k+1,by omega,by go_num,by rw [d.out],N,⟨_,_,_,_,ac⟩,fun t ht=>by
      rw [d.out] at ht;exact ⟨by have:=(a4.out t ht).1;omega,(a4.out t ht).2⟩⟩
     case measure=>simp [intOf];omega
   ·obtain rfl:m=k:=by omega
    go_wp2;go_ret;exact ⟨by rw [bn.out,al.out];rfl,B⟩
end
section
namespace Pl
theorem Ydv {p:LPd} {s:LSt} {Z D:List RF} {i:Nat} (h:Vk p s Z D=some i):i < D.length∧qAt D i≠0:=by
 refine ⟨Zqm h,fun e=>?_⟩;have hb:Yv p s Z D D.length=some i→False:=fun hb=>by
  have:=(VI hb).2;rw [e] at this;exact absurd this (by decide)
 by_cases hp:s.phase=2
 ·cases hf:YG (Zsq s D) 0 D.length with
  | none=>rw [Ziy hp hf] at h;exact hb h
  | some t=>
   rw [Zix hp hf] at h;injection h with h;subst h;have:=(XV hf).2.2.1;unfold Zsq at this;rw [if_neg fun g=>g.2 e] at this;exact absurd this (by decide)
 ·rw [Ziw hp] at h;exact hb h
def zP (i:Nat) (q:Rat) (d z:Nat→Rat) (k:Nat):Nat→Rat:=fun r=>if r < k∧r≠i then z r - q * d r else z r
theorem Ydw {i:Nat} {q:Rat} {d z:Nat→Rat}:zP i q d z 0=z:=by funext r;unfold zP;rw [if_neg (by omega)]
theorem Zwr {i k:Nat} {q:Rat} {d z:Nat→Rat} (h:k=i∨d k=0) (r:Nat):zP i q d z k r=zP i q d z (k+1) r:=by
 unfold zP;by_cases e:r=k
 ·subst e;rw [if_neg (by omega)];rcases h with h | h
  ·rw [if_neg (by omega)]
  ·rw [h];split <;> grind
 ·by_cases e2:r < k∧r≠i
  ·rw [if_pos e2,if_pos ⟨by omega,e2.2⟩]
  ·rw [if_neg e2,if_neg (by omega)]
theorem Ydx {i k:Nat} {q:Rat} {d z:Nat→Rat} (h:k≠i) (r:Nat):zP i q d z (k+1) r=if r=k then z k - q * d k else zP i q d z k r:=by
 unfold zP;by_cases e:r=k
 ·subst e;rw [if_pos rfl,if_pos ⟨by omega,h⟩]
 ·rw [if_neg e];by_cases e2:r < k∧r≠i
  ·rw [if_pos e2,if_pos ⟨by omega,e2.2⟩]
  ·rw [if_neg e2,if_neg (by omega)]
theorem Yfu {i k:Nat} {q:Rat} {d z:Nat→Rat}:zP i q d z k k=z k:=by unfold zP;rw [if_neg (by omega)]
theorem Yfv {p:LPd} {s:LSt} {i j:Nat} (hr:Reg p s) (hi:i < p.right.length) (hb:i < s.basis.length) (h0:qAt (dirL p s (j:Int)) i≠0):
 zL p (Zlv s i (j:Int))=Z7 p.right.length fun r=>if r=i then qAt (zL p s) i / qAt (dirL p s (j:Int)) i else zP i (qAt (zL p s) i / qAt (dirL p s (j:Int)) i) (qAt (dirL p s (j:Int))) (qAt (zL p s)) p.right.length r:=by
 unfold zL;rw [Zdi hb];refine Zci (Zej hi hr (Ux hr (j:Int)) h0) ?_;refine Zhz hi (Ux hr (j:Int)) h0 (Zwh hr) ?_ fun r hr' hne=>?_
 ·simp only [if_pos];rfl
 ·simp only [if_pos,if_neg hne];unfold zP;rw [if_pos ⟨hr',hne⟩];show qAt (zL p s) r - _ * _=qAt (zL p s) r - _ * _;grind
end Pl
def Zfl [Old] (U w0:World) (e:Nat) (p:LPd) (s:LSt) (K i:Nat) (vd:Value) (D:List RF) (gm:Nat) (q:Rat) (gB gb cb gz cz bB bi:Nat) (A:Option Addr) (n c:Nat) (A':Option Addr) (n' c':Nat) (A'':Option Addr) (n'' c'':Nat) (Am:Option Addr) (nm cm:Nat) (Am':Option Addr) (nm' cm':Nat) (j:Nat) (z:Nat→Rat) (w:World):Prop:=
 Bk w e 107 [.slice A n c,.slice A' n' c',.slice A'' n'' c'',.int .i64 s.phase,.slice (some ⟨gb,0,none⟩) p.right.length cb,.int .i64 s.pivots,.pointer (some ⟨gB,0,none⟩),.slice (some ⟨gz,0,none⟩) p.right.length cz]∧
  ZI U.heap.size w (.slice (some ⟨gb,0,none⟩) p.right.length cb) s.basis∧Zca bB bi w gB p.right.length K ((Zlv s i (j:Int)).mat p)∧Yd U.heap.size w (.slice (some ⟨gz,0,none⟩) p.right.length cz) (Z7 p.right.length z)∧Yd w0.heap.size w vd D∧
  (Bk w gm 48 [.bool (canF q).num.neg,.slice Am nm cm,.bool (canF q).den.neg,.slice Am' nm' cm']∧Zt w (.agg #[.bool (canF q).num.neg,.slice Am nm cm,.bool (canF q).den.neg,.slice Am' nm' cm']) (canF q))∧Below U.heap.size U w∧w0.heap.size≤w.heap.size
section
variable {U w0:World} {e:Nat} {p:LPd} {s:LSt} {K i:Nat} {vd:Value} {D:List RF} {gm:Nat} {q:Rat} {gB gb cb gz cz bB bi:Nat} {A:Option Addr} {n c:Nat} {A':Option Addr} {n' c':Nat} {A'':Option Addr} {n'' c'':Nat} {Am:Option Addr} {nm cm:Nat} {Am':Option Addr} {nm' cm':Nat} {j:Nat} {z z':Nat→Rat} {w w':World}
theorem Zfl.below [Old] (h:Zfl U w0 e p s K i vd D gm q gB gb cb gz cz bB bi A n c A' n' c' A'' n'' c'' Am nm cm Am' nm' cm' j z w) (hb:Below w.heap.size w w'):Zfl U w0 e p s K i vd D gm q gB gb cb gz cz bB bi A n c A' n' c' A'' n'' c'' Am nm cm Am' nm' cm' j z w':=by
 obtain ⟨h1,h2,h3,h4,h5,⟨h6,h7⟩,h8,h9⟩:=h;have:=hb.size;exact ⟨h1.later hb,h2.below hb,h3.below hb,h4.below hb,h5.below hb,⟨h6.later hb,h7.below hb⟩,Za h8 hb h8.size,by omega⟩
theorem Zfl.setZ [Old] (h:Zfl U w0 e p s K i vd D gm q gB gb cb gz cz bB bi A n c A' n' c' A'' n'' c'' Am nm cm Am' nm' cm' j z w) (hgz:gz < bi) (hgw:gz < w0.heap.size) (hgm:gz≠gm) {k:Nat} (hk:k < p.right.length) {x1 x2 x3 x4:Value} {y:Rat} (hy:Zt w (.agg #[x1,x2,x3,x4]) (canF y)) (hz:∀r,r < p.right.length→z' r=if r=k then y else z r) (hOU:Old.n≤U.heap.size:=by first | assumption | exact Nat.zero_le _ | omega | ((first | with_reducible refine Zb.le ?_ | with_reducible refine Zb.le1 ?_ | with_reducible refine Zb.le2 ?_ | with_reducible refine Zb.le3 ?_);repeat (first | assumption | exact Zb.up (by assumption) hOl | exact Zb.up (Hid.out (by assumption)) hOl | with_reducible refine Zb.set ?_ _ _ | with_reducible refine Zb.mk_ ?_ _ | with_reducible refine Zb.dr ?_ | with_reducible refine Zb.drN ?_ | refine Zb.up (by assumption) ?_ | refine Zb.up (Hid.out (by assumption)) ?_))):
 Zfl U w0 e p s K i vd D gm q gB gb cb gz cz bB bi A n c A' n' c' A'' n'' c'' Am nm cm Am' nm' cm' j z' ((((w.setCell ⟨gz,k * 4,none⟩ x1).setCell ⟨gz,k * 4+1,none⟩ x2).setCell ⟨gz,k * 4+2,none⟩ x3).setCell ⟨gz,k * 4+3,none⟩ x4):=by
 obtain ⟨h1,h2,h3,h4,h5,⟨h6,h7⟩,h8,h9⟩:=h;obtain ⟨g4,a⟩:=h4.set_ (k:=k) (by rw [Zi];exact hk) hy;have ho:=Yf (w:=w) (g:=gz) (i:=k * 4) (j:=k * 4+1) (k:=k * 4+2) (l:=k * 4+3) (x:=x1) (y:=x2) (z:=x3) (u:=x4);have hu:U.heap.size≤gz:=by
  obtain ⟨cs,hh,_⟩:=h4;have hn:p.right.length=(Z7 p.right.length z).length:=(Zi _ _).symm;rw [← hn] at hh;obtain ⟨_,_,e3⟩:=Z8 hh;exact e3
 rw [XF hk,ZR (g:=z') fun r hr=>(hz r hr).symm] at g4;exact ⟨a.bk h1 (by decide),h2.but a (by decide),h3.farF ho a hgz,g4,h5.others ho (a.keep (by decide)) (fun b hb e=>by have:=h5.own_ge b hb;injection e with e;omega),⟨ho.bk h6 (by intro e;injection e with e;omega),h7.keep (a.keep (by decide))⟩,ZA h8 hu _ _ _ _ _ _ _ _,by simpa using h9⟩
theorem Zfl.congr [Old] (h:Zfl U w0 e p s K i vd D gm q gB gb cb gz cz bB bi A n c A' n' c' A'' n'' c'' Am nm cm Am' nm' cm' j z w) (hz:∀r,r < p.right.length→z r=z' r):Zfl U w0 e p s K i vd D gm q gB gb cb gz cz bB bi A n c A' n' c' A'' n'' c'' Am nm cm Am' nm' cm' j z' w:=by
 obtain ⟨h1,h2,h3,h4,h5⟩:=h;exact ⟨h1,h2,h3,by rw [← ZR hz];exact h4,h5⟩
end
theorem Zws [Old] (U w0:World) (e:Nat) (p:LPd) (s:LSt) (K j:Nat) (vd:Value) (w:World) (h:Zly U w0 e p s K) (hb0:Below w0.heap.size w0 w) (hd:Yd w0.heap.size w vd (dirL p s (j:Int))) (hj:j < p.cols.length) (S:s.Fit p) (F:p.Ft K) (hz:lpErr p=0) (hpv0:0≤s.pivots) (hpv:s.pivots+1≤9223372036854775807) (hOl:Zb w:=by (repeat (first | assumption | exact Zb.up (by assumption) hOl | exact Zb.up (Hid.out (by assumption)) hOl | with_reducible refine Zb.set ?_ _ _ | with_reducible refine Zb.mk_ ?_ _ | with_reducible refine Zb.dr ?_ | with_reducible refine Zb.drN ?_ | refine Zb.up (by assumption) ?_ | refine Zb.up (Hid.out (by assumption)) ?_))) (hOU:Old.n≤U.heap.size:=by first | assumption | exact Nat.zero_le _ | omega | ((first | with_reducible refine Zb.le ?_ | with_reducible refine Zb.le1 ?_ | with_reducible refine Zb.le2 ?_ | with_reducible refine Zb.le3 ?_);repeat (first | assumption | exact Zb.up (by assumption) hOl | exact Zb.up (Hid.out (by assumption)) hOl | with_reducible refine Zb.set ?_ _ _ | with_reducible refine Zb.mk_ ?_ _ | with_reducible refine Zb.dr ?_ | with_reducible refine Zb.drN ?_ | refine Zb.up (by assumption) ?_ | refine Zb.up (Hid.out (by assumption)) ?_))):
 Calls Tryz.prog 58 #[.pointer (some ⟨e,0,none⟩),.int .i64 (j:Int),vd] w fun o w'=>(∃i,Vk p s (zL p s) (dirL p s (j:Int))=some i∧o= .returned (.bool true)∧Zly U w' e p (Zy p (Zlv s i (j:Int))) K)∨(Vk p s (zL p s) (dirL p s (j:Int))=none∧o= .returned (.bool false)∧Zly U w' e p s K):=by
 have e5:=hOl.le;have bp:=Zb.up h.bel (⟨hOU⟩:Zb U);have HH:=JZ (h.below hb0);have HR:=JZ h.r.reg;have bq:(dirL p s (j:Int)).length=p.right.length:=Zoe HR.out _;obtain ⟨Ad,nd,cd,rfl⟩:=hd.sliceN;have HD:=JZ hd;obtain ⟨A,n,c,A',n',c',b8,b9,ba,Ab,cb,gB,vz,cp,cq⟩:=h;obtain ⟨es,E⟩:=Y8 (cs:=p.cols) (i:=j) hj;obtain ⟨z1,z2,z3,z4,z5⟩:=Wq hz;have HC:=JZ (LPd.col_pos E);have dd:Hid (Pl.Good p.right.length es):=JZ ⟨z4 j es E,(z5 j es E).2,(z5 j es E).1⟩;have de:=JZ (F.1.ok.2.2 j es E).2;have dg:=JZ E;have HS:=JZ S;have HF:=JZ F;have dh:=JZ (cp.later hb0);have dj:=JZ cq;have br:=JZ hb0;have e8:=F.2.1;clear hb0 hd cp cq E z1 z2 z3 z4 z5 hz S F;go_enter Tryz.func58,Tryz.ntmps58;go_wp2_with fail;refine (Zoh e p s K _ (dirL p s (j:Int)) _ HH.out.r HD.out.frs bq (Yay HF.out.1 s _) HS.out HF.out).mono ?_;rintro _ w1 ⟨rfl,L⟩
 cases hlv:Vk p s (zL p s) (dirL p s (j:Int)) with
 | none=>
  have C:=HH.out.below L;clear L;simp only [oi]
  go_upto_region 2 with (fail)
  have a:=Zf w1;refine Zp 19 [0,1,2,3,4,5,6,7,8,9,10,11,12,13,14,15,16,17,18] (by kernel_rfl) (by kernel_rfl) ?_;repeat ((first | (refine Zd (v:=?_) rfl rfl rfl ?_ ?_;rotate_left;(· (intro _ d;go_simp;(try go_bits);(try with_reducible rfl)))) | (refine Zj (v:=?_) rfl rfl rfl ?_ ?_;rotate_left;(· (intro _ d;go_simp;(try go_bits);(try with_reducible rfl)))) | refine Zk rfl rfl rfl ?_ | refine Xl rfl rfl rfl (by assumption) ?_);(try simp only [Act.put,pu1,pu2,pu3,pu4,pu5,pu6]))
  refine Zx ?_;have M:=C.below a;go_wp2;go_ret;exact .inr ⟨hlv,rfl,M⟩
 | some i=>
  simp only [oi];have bs:=Ydv hlv;rw [bq] at bs;obtain ⟨hi,bb⟩:=bs;have bt:=JZ bb;have dl:i < s.basis.length:=by rw [HS.out.2];exact hi
  have a6:=JZ dl;obtain ⟨bB,bi,⟨g1,g2,g3⟩,⟨q1,q2,q3,q4⟩,bd,ar,R,T,be,bf⟩:=dj.out;have m:=Za br.out L br.out.size;have a7:=Za bf m bf.size;have dm:=m.size;obtain ⟨gb,dw,cr,ct,dz,-,-⟩:=bd.shape (by omega);rw [HS.out.2] at cr;injection cr with a1 a2 a3;subst a1;clear a2 a3 dw;have bu:zL p s=Z7 p.right.length (qAt (zL p s)):=Zci HR.out (Zwh HR.out);have bv:dirL p s (j:Int)=Z7 p.right.length (qAt (dirL p s (j:Int))):=Zci HR.out fun r hr=>by rw [YX hr];exact Ux HR.out (j:Int) r hr
  obtain ⟨zf,bg⟩:∃zf,zf=qAt (zL p s):=⟨_,rfl⟩;obtain ⟨df,bh⟩:∃df,df=qAt (dirL p s (j:Int)):=⟨_,rfl⟩;rw [bu,← bg] at T;obtain ⟨gz,cz,rfl,e0,au,cu,e1⟩:=T.shape (by rw [Zi];omega);have a8:=HD.out.below L;rw [bv,← bh] at a8;obtain ⟨gd,ee,cv,e2,e3,cw,e4⟩:=a8.shape (by rw [Zi];omega);rw [Zi] at cv cw;injection cv with a1 a2 a3;subst a1 a2 a3;rw [Zi] at T cu be;have av:=JZ bg;have a9:=JZ bh;have ah:=be gz rfl;have bw:=ar gb rfl;obtain ⟨bc,oc,Ac,cc,rfl,-,x0,cx⟩:=g2.elem a7 dg.out;obtain ⟨l1,l2,l3⟩:=g2.len;have e9:(j:Int) < n':=by omega
  have ea:(i:Int) < p.right.length:=by omega
  have ai:=R.below m;have C:=dh.out.later L;rw [Zi] at C;have y6:=C.cellAt 6 rfl;have y1:=C.cellAt 1 rfl;have bx:∀r,r < p.right.length→Xw p.right.length (s.mat p) (qAt (dirL p s (j:Int))) r=XG es r:=fun r hr=>by rw [← HC.out];exact Ux HR.out (j:Int) r hr
  have HG:=JZ (⟨g1,g2,g3⟩:_∧_∧_);have aj:=T.below m;have ak:=bd.below m;have dn:bB≤w1.heap.size:=by omega
  have dx:bi≤w1.heap.size:=by omega
  clear g1 g2 g3 l1 bd ar R T be bf bu bv bg bh
  go_upto_region 2 with (fail)
  have C0:=Zm y6;have C1:=Zm y1;have C2:=Zm x0;have a:=Zf w1;clear y6 y1 x0;refine Zp 16 [0,1,2,3,4,5,6,7,8,9,10,11,12,13,14,15,16,17,18] (by kernel_rfl) (by kernel_rfl) ?_;repeat ((first | (refine Zd (v:=?_) rfl rfl rfl ?_ ?_;rotate_left;(· (intro _ d;go_simp;(try go_bits);(try with_reducible rfl)))) | (refine Zj (v:=?_) rfl rfl rfl ?_ ?_;rotate_left;(· (intro _ d;go_simp;(try go_bits);(try with_reducible rfl)))) | refine Zk rfl rfl rfl ?_ | refine Xl rfl rfl rfl (by assumption) ?_);(try simp only [Act.put,pu1,pu2,pu3,pu4,pu5,pu6]))
  refine Zh rfl rfl (fun KR hKR=>?_);go_simp;with_reducible refine (Zoc bB bi gB p.right.length K (s.mat p) _ es i (qAt (dirL p s (j:Int))) _ (ai.below a) (cx.below a) dd.out de.out hi bx bb (by have:=a.size;omega) (by have:=a.size;omega)).mono ?_
  rintro _ w2 ⟨rfl,d9,a0,a4⟩;refine hKR.out _ _ (Or.inl (by decide)) ?_;clear hKR KR;(try simp only [Act.put,pu1,pu2,pu3,pu4,pu5,pu6]);refine Zh rfl rfl (fun KR hKR=>?_);go_simp;refine hKR.out _ _ (Or.inl (by decide)) ?_;clear hKR KR;(try simp only [Act.put,pu1,pu2,pu3,pu4,pu5,pu6]);refine Zh rfl rfl (fun KR hKR=>?_);go_simp;refine hKR.out _ _ (Or.inl (by decide)) ?_;clear hKR KR;(try simp only [Act.put,pu1,pu2,pu3,pu4,pu5,pu6]);refine Zx ?_;clear C0 C1 C2;have M:=a4.bk (C.later a) (by decide) (by decide) (by decide);have al:=a4.ints (ak.below a);have N:=a4.frs (aj.below a);have aw:=a4.frs (a8.below a);have ax:=(Za a7 a a7.size).trans (a0.mono q2);have am:w0.heap.size≤w2.heap.size:=JW dm (JW a.size a0.size);have dy:Zb w2:=⟨JW bp.le am⟩;have an:Zca bB bi w2 gB p.right.length K ((Zlv s i (j:Int)).mat p):=by rw [Zdi a6.out,HC.out];exact d9
  clear C ak aj a8 ai cx a a0 a4 d9 bx L a7 m;obtain ⟨b5,o5,A5,n5,c5,A6,n6,c6,hA,-,⟨z0,z1,z2,z3⟩,y⟩:=N.frs.elem (JR _ _) (ZC hi);injection hA with hA;injection hA with hA1 hA2;subst hA1;subst hA2;obtain ⟨b5,o5,A7,n7,c7,A8,n8,c8,hA,-,⟨d0,d1,d2,d3⟩,t⟩:=aw.frs.elem (JR _ _) (ZC hi);injection hA with hA;injection hA with hA1 hA2;subst hA1;subst hA2;simp only [Nat.zero_add] at z0 z1 z2 z3 d0 d1 d2 d3;have y7:=M.cellAt 7 rfl;obtain ⟨zi,V⟩:∃zi,zi=zf i:=⟨_,rfl⟩;obtain ⟨di,H⟩:∃di,di=df i:=⟨_,rfl⟩;obtain ⟨q,ad⟩:∃q,q=zi / di:=⟨_,rfl⟩;have bz:Hid (zi / di=q):=JZ ad.symm;have HQ:Hid (q=qAt (zL p s) i / qAt (dirL p s (j:Int)) i):=JZ (by rw [ad,V,H,av.out,a9.out]);have HJ:Hid (1≤5^p.right.length * K∧5^p.right.length * K≤4000000):=JZ ⟨JW HF.out.1.k1 HF.out.1.le,HF.out.2.2⟩;have ay:Hid (∀r,Sz (5^p.right.length * K) (zf r)):=JZ fun r=>by rw [av.out];exact (Yfe HF.out.1 s).qAt HJ.out.1 r
  have aa:Hid (∀r,Sz (5^p.right.length * K) (df r)):=JZ fun r=>by rw [a9.out];exact (Yay HF.out.1 s _).qAt HJ.out.1 r
  have c4:Hid (Sz (2 * (5^p.right.length * K)) q):=JZ (by rw [ad,V,H];exact (Zal (ay.out i) (aa.out i)).mono (by omega));have G:(canF zi).Sm:=by rw [V];exact (ay.out i).rs.sm (by have:=HJ.out;omega)
  have az:(canF di).Sm:=by rw [H];exact (aa.out i).rs.sm (by have:=HJ.out;omega)
  have b0:(canF di).q≠0:=by rw [Zu,H,a9.out];exact bt.out
  rw [← V] at z0 z2 y;rw [← H] at d0 d2 t;clear V H ad bb
  go_upto_region 4 with (fail)
  go_cut [8] (fun s8 wx=>Zbc w2 (canF q) s8 wx)
  case first=>
   have C0:=Zm z0;have C1:=Zm z1;have C2:=Zm z2;have C3:=Zm z3;have D0:=Zm d0;have D1:=Zm d1;have D2:=Zm d2;have D3:=Zm d3;have E0:=Zm y7;have a:=Zf w2;clear z0 z1 z2 z3 d0 d1 d2 d3 y7;refine YC 16 (.go 0 (.go 1 (.go 2 (.go 3 (.go 4 (.go 5 (.go 6 (.go 7 (.go 8 (.go 9 (.go 10 (.fork 11 (.go 12 (.go 13 (.go 14 (.go 15 (.go 16 (.go 17 .done)))))) 15 (.go 11 (.go 12 (.go 13 (.go 14 (.go 16 (.go 17 .done)))))))))))))))))) (by kernel_rfl) (by kernel_rfl) ?_;repeat ((first | (refine ZJ (v:=?_) rfl rfl rfl ?_ ?_;rotate_left;(· (intro _ d;go_simp;(try go_bits);(try with_reducible rfl)))) | (refine ZT (v:=?_) rfl rfl rfl ?_ ?_;rotate_left;(· (intro _ d;go_simp;(try go_bits);(try with_reducible rfl)))) | refine ZU rfl rfl rfl ?_ | refine ZK rfl rfl rfl (by assumption) ?_);(try simp only [Act.put,pu1,pu2,pu3,pu4,pu5,pu6]))
   refine WI rfl rfl (fun KR hKR=>?_) (fun KR hKR=>?_)
   ·go_simp;(with_reducible refine (Xq _ _ (canF zi) (canF di) _ (y.below a) (t.below a) G az b0).mono ?_);rw [Zu,Zu,bz.out];rintro _ wA ⟨vA,rfl,eA,af⟩;have D:=Za a af a.size;obtain ⟨A6,n6,c6,B6,m6,d6,rfl,_,_⟩:=id eA;refine hKR.out _ _ (Or.inr D) ?_;clear hKR KR;(try simp only [Act.put,pu1,pu2,pu3,pu4,pu5,pu6]);repeat ((first | (refine ZJ (v:=?_) rfl rfl rfl ?_ ?_;rotate_left;(· (intro _ d;go_simp;(try go_bits);(try with_reducible rfl)))) | (refine ZT (v:=?_) rfl rfl rfl ?_ ?_;rotate_left;(· (intro _ d;go_simp;(try go_bits);(try with_reducible rfl)))) | refine ZU rfl rfl rfl ?_ | refine ZK rfl rfl rfl (by assumption) ?_);(try simp only [Act.put,pu1,pu2,pu3,pu4,pu5,pu6]))
    obtain ⟨WG,bj,I,ae⟩:=Y7 wA (.bool false) (.slice none 0 0) (.bool false) (.slice none 0 0);refine ZB rfl rfl (fun KR hKR=>?_);go_simp;have b1:=D.size;have u:=Za D ae D.size;refine hKR.out _ _ (Or.inr u) ?_;clear hKR KR bj;(try simp only [Act.put,pu1,pu2,pu3,pu4,pu5,pu6]);have dp:=eA.below ae;obtain ⟨t0,t1,t2,t3⟩:=I.four;obtain ⟨f0,f1,f2,f3⟩:=I.fourF;refine ZB rfl rfl (fun KR hKR=>?_);go_simp;refine hKR.out _ _ (Or.inl (by decide)) ?_;clear hKR KR;(try simp only [Act.put,pu1,pu2,pu3,pu4,pu5,pu6]);refine ZB rfl rfl (fun KR hKR=>?_);go_simp;refine hKR.out _ _ (Or.inl (by decide)) ?_;clear hKR KR;(try simp only [Act.put,pu1,pu2,pu3,pu4,pu5,pu6]);refine Yl ?_;go_wp2_with fail
    go_meet
    exact Zbc.mk I dp u b1
   ·obtain ⟨WG,bj,I,ae⟩:=Y7 w2.drew (.bool false) (.slice none 0 0) (.bool false) (.slice none 0 0);go_simp;have b1:=a.size;have u:=Za a ae a.size;refine hKR.out _ _ (Or.inr u) ?_;clear hKR KR bj;(try simp only [Act.put,pu1,pu2,pu3,pu4,pu5,pu6])
    change Bk WG w2.heap.size 48 _ at I
    refine ZB rfl rfl (fun KR hKR=>?_);go_simp;(with_reducible refine (Xq _ _ (canF zi) (canF di) _ (y.below u) (t.below u) G az b0).mono ?_);rw [Zu,Zu,bz.out];rintro _ wA ⟨vA,rfl,eA,af⟩;have D:=Za u af u.size;obtain ⟨A6,n6,c6,B6,m6,d6,rfl,_,_⟩:=id eA;refine hKR.out _ _ (Or.inr D) ?_;clear hKR KR;(try simp only [Act.put,pu1,pu2,pu3,pu4,pu5,pu6]);have hG:=I.later af;repeat ((first | (refine ZJ (v:=?_) rfl rfl rfl ?_ ?_;rotate_left;(· (intro _ d;go_simp;(try go_bits);(try with_reducible rfl)))) | (refine ZT (v:=?_) rfl rfl rfl ?_ ?_;rotate_left;(· (intro _ d;go_simp;(try go_bits);(try with_reducible rfl)))) | refine ZU rfl rfl rfl ?_ | refine ZK rfl rfl rfl (by assumption) ?_);(try simp only [Act.put,pu1,pu2,pu3,pu4,pu5,pu6]))
    obtain ⟨t0,t1,t2,t3⟩:=hG.four;obtain ⟨f0,f1,f2,f3⟩:=hG.fourF;refine ZB rfl rfl (fun KR hKR=>?_);go_simp;refine hKR.out _ _ (Or.inl (by decide)) ?_;clear hKR KR;(try simp only [Act.put,pu1,pu2,pu3,pu4,pu5,pu6]);refine ZB rfl rfl (fun KR hKR=>?_);go_simp;refine hKR.out _ _ (Or.inl (by decide)) ?_;clear hKR KR;(try simp only [Act.put,pu1,pu2,pu3,pu4,pu5,pu6]);refine Yl ?_;go_wp2_with fail
    go_meet
    exact Zbc.mk hG eA D b1
  case rest=>
   obtain ⟨gm,Am,nm,cm,bl,bm,bn,rfl,ef,B,cy,f⟩:=hcut;have b2:Zfl U w0 e p s K i (.slice (some ⟨gd,0,none⟩) p.right.length cd) (Z7 p.right.length df) gm q gB gb cb gz cz bB bi A n c (some ⟨bc,oc,none⟩) n' c' b8 b9 ba Am nm cm bl bm bn j (zP i q df zf 0) wc:=⟨M.later f,al.below f,an.below f,by rw [Ydw];exact N.below f,aw.below f,⟨B,cy⟩,Za ax f ax.size,JW am f.size⟩;have ao:gz≠gm:=(by omega);have c9:=JZ b2;have y7:=b2.1.cellAt 7 rfl;clear z0 z1 z2 z3 d0 d1 d2 d3 M al an N aw B cy f ax y t G az b0 b2;go_wp2;clear y7
   go_loopw [53] (fun x wr=>∃k:Nat,k≤p.right.length∧x= .int .i64 k∧Zfl U w0 e p s K i (.slice (some ⟨gd,0,none⟩) p.right.length cd) (Z7 p.right.length df) gm q gB gb cb gz cz bB bi A n c (some ⟨bc,oc,none⟩) n' c' b8 b9 ba Am nm cm bl bm bn j (zP i q df zf k) wr) (fun x _=>p.right.length - (intOf x).toNat)
   case atStart=>exact ⟨0,by omega,rfl,c9.out⟩
   case round=>
    clear c9;obtain ⟨k,hk,rfl,hP⟩:=hrel;have HP:=JZ hP;have ca:=Zb.up hP.2.2.2.2.2.2.1 (⟨hOU⟩:Zb U);rcases JX k p.right.length with hkl | hkl
    ·have eb:(k:Int) < p.right.length:=(by omega);obtain ⟨hE,-,-,-,J,-,-,d4⟩:=hP;by_cases ag:k=i
     ·have b3:Hid (∀r,r < p.right.length→zP i q df zf k r=zP i q df zf (k+1) r):=JZ fun r _=>Zwr (.inl ag) r
      clear hE J;subst ag;go_wp2;go_roundw
      case rel=>exact ⟨k+1,by omega,by go_num,HP.out.congr b3.out⟩
      case measure=>simp [intOf];omega
     ·have dq:=JZ ag;have ds:(k:Int)≠i:=(by omega);obtain ⟨b5,o5,A7,n7,c7,A8,n8,c8,hA,-,⟨d0,d1,d2,d3⟩,t⟩:=J.frs.elem (JR _ _) (ZC hkl);injection hA with hA;injection hA with hA1 hA2;subst hA1;subst hA2;simp only [Nat.zero_add] at d0 d1 d2 d3;have ce:qs (df k)=0∨qs (df k)=1∨qs (df k)= -1:=(by have:=Vb (df k);omega);clear hE J;by_cases a5:qs (df k)=0
      ·have b3:Hid (∀r,r < p.right.length→zP i q df zf k r=zP i q df zf (k+1) r):=JZ fun r _=>Zwr (.inr (ZW.1 a5)) r
       clear ce;go_wp2_with fail;refine (Zz _ (canF (df k)) _ t).mono ?_;rw [Zu,a5];rintro _ w3 ⟨rfl,f⟩;have cf:=Zb.up f ca;have dt:=(HP.out.below f).congr b3.out;clear f t d0 d1 d2 d3 a5 HP;go_wp2;go_roundw
       case rel=>exact ⟨k+1,by omega,by go_num,dt⟩
       case measure=>simp [intOf];omega
      ·have du:(qs (df k) !=0)=true:=(by simpa using a5);clear ce a5;go_wp2_with fail;refine (Zz _ (canF (df k)) _ t).mono ?_;rw [Zu];rintro _ w3 ⟨rfl,f⟩;have cf:=Zb.up f ca;have b4:=JZ (HP.out.below f);clear f t d0 d1 d2 d3 HP;obtain ⟨hE,-,-,hZ,J,⟨B,X⟩,-,d5⟩:=b4.out;obtain ⟨b5,o5,A7,n7,c7,A8,n8,c8,hA,-,⟨d0,d1,d2,d3⟩,bo⟩:=J.frs.elem (JR _ _) (ZC hkl);injection hA with hA;injection hA with hA1 hA2;subst hA1;subst hA2;obtain ⟨b5,o5,A5,n5,c5,A6,n6,c6,hA,-,⟨z0,z1,z2,z3⟩,y⟩:=hZ.frs.elem (JR _ _) (ZC hkl);injection hA with hA;injection hA with hA1 hA2;subst hA1;subst hA2;simp only [Nat.zero_add] at d0 d1 d2 d3 z0 z1 z2 z3;obtain ⟨t0,t1,t2,t3⟩:=B.four;have y7:=hE.cellAt 7 rfl;obtain ⟨zk,Y⟩:∃zk,zk=zP i q df zf k k:=⟨_,rfl⟩;obtain ⟨dk,Z⟩:∃dk,dk=df k:=⟨_,rfl⟩;have dv:Hid (∀r,r < p.right.length→zP i q df zf (k+1) r=if r=k then zk - q * dk else zP i q df zf k r):=JZ fun r _=>by rw [Ydx dq.out,Y,Yfu,Z]
       have cg:(canF q).Sm:=c4.out.rs.sm (by have:=HJ.out;omega);have ch:(canF dk).Sm:=(by rw [Z];exact (aa.out k).rs.sm (by have:=HJ.out;omega));have G:(canF zk).Sm:=(by rw [Y,Yfu];exact (ay.out k).rs.sm (by have:=HJ.out;omega));have ci:(canF (q * dk)).Sm:=(Wz c4.out (by rw [Z];exact aa.out k)).rs.sm (by have:=HJ.out;omega);have cj:(Z7 p.right.length (zP i q df zf k))[k]? =some (canF zk):=(by rw [Y];exact ZC hkl);rw [← Y] at z0 z2 y;rw [← Z] at d0 d2 bo;clear hE J B Y Z
       go_upto_region 9 with (fail)
       clear du ds ag;have C0:=Zm z0;have C1:=Zm z1;have C2:=Zm z2;have C3:=Zm z3;have D0:=Zm d0;have D1:=Zm d1;have D2:=Zm d2;have D3:=Zm d3;have T0:=Zm t0;have T1:=Zm t1;have T2:=Zm t2;have T3:=Zm t3;have E0:=Zm y7;have a:=Zf w3;clear z0 z1 z2 z3 d0 d1 d2 d3 t0 t1 t2 t3 y7;refine Zp 20 [0,1,2,3,4,5,6,7,8,9,10,11,12,13,14,15,16,17,18,19,20] (by kernel_rfl) (by kernel_rfl) ?_;repeat ((first | (refine Zd (v:=?_) rfl rfl rfl ?_ ?_;rotate_left;(· (intro _ d;go_simp;(try go_bits);(try with_reducible rfl)))) | (refine Zj (v:=?_) rfl rfl rfl ?_ ?_;rotate_left;(· (intro _ d;go_simp;(try go_bits);(try with_reducible rfl)))) | refine Zk rfl rfl rfl ?_);(try simp only [Act.put,pu1,pu2,pu3,pu4,pu5,pu6]))
       refine Zh rfl rfl (fun KR hKR=>?_);go_simp;(with_reducible refine (Wj _ _ (canF q) (canF dk) _ (X.below a) (bo.below a) cg ch).mono ?_);rw [Zu,Zu];rintro _ w6 ⟨v6,rfl,e6,da⟩;have O:=Za a da a.size;refine hKR.out _ _ (Or.inr O) ?_;clear hKR KR;(try simp only [Act.put,pu1,pu2,pu3,pu4,pu5,pu6]);repeat ((first | (refine Zd (v:=?_) rfl rfl rfl ?_ ?_;rotate_left;(· (intro _ d;go_simp;(try go_bits);(try with_reducible rfl)))) | (refine Zj (v:=?_) rfl rfl rfl ?_ ?_;rotate_left;(· (intro _ d;go_simp;(try go_bits);(try with_reducible rfl)))) | refine Zk rfl rfl rfl ?_);(try simp only [Act.put,pu1,pu2,pu3,pu4,pu5,pu6]))
       refine Zh rfl rfl (fun KR hKR=>?_);go_simp;(with_reducible refine (WT _ _ (canF zk) (canF (q * dk)) _ (y.below O) e6 G ci).mono ?_);rw [Zu,Zu];rintro _ w7 ⟨v7,rfl,e7,db⟩;have ab:=Za O db O.size;obtain ⟨B9,l9,k9,eg,eh,ei,rfl,_,_⟩:=id e7;have ck:=hZ.below ab;obtain ⟨_,_,_,_,⟨c0,c1,c2,c3⟩,⟨f0,f1,f2,f3⟩,-⟩:=ck.at_ cj;refine hKR.out _ _ (Or.inr ab) ?_;clear hKR KR;(try simp only [Act.put,pu1,pu2,pu3,pu4,pu5,pu6]);repeat ((first | (refine Zd (v:=?_) rfl rfl rfl ?_ ?_;rotate_left;(· (intro _ d;go_simp;(try go_bits);(try with_reducible rfl)))) | (refine Zj (v:=?_) rfl rfl rfl ?_ ?_;rotate_left;(· (intro _ d;go_simp;(try go_bits);(try with_reducible rfl)))) | refine Zk rfl rfl rfl ?_);(try simp only [Act.put,pu1,pu2,pu3,pu4,pu5,pu6]))
       refine Zh rfl rfl (fun KR hKR=>?_);go_simp;refine hKR.out _ _ (Or.inl (by decide)) ?_;clear hKR KR;(try simp only [Act.put,pu1,pu2,pu3,pu4,pu5,pu6]);refine Zx ?_;clear C0 C1 C2 C3 D0 D1 D2 D3 T0 T1 T2 T3 E0;have b6:=(b4.out.below ab).setZ ah au ao hkl e7 dv.out;clear hZ ck X bo y a O ab e6 e7 da db c0 c1 c2 c3 f0 f1 f2 f3 cg ch G ci cj b4;go_wp2;go_roundw
       case rel=>exact ⟨k+1,by omega,by go_num,b6⟩
       case measure=>simp [intOf];omega
    ·obtain rfl:k=p.right.length:=by omega
     obtain ⟨hE,-,-,hZ,-,⟨B,X⟩,-,d5⟩:=hP;obtain ⟨t0,t1,t2,t3⟩:=B.four;have y7:=hE.cellAt 7 rfl;obtain ⟨_,_,_,_,⟨c0,c1,c2,c3⟩,⟨f0,f1,f2,f3⟩,-⟩:=hZ.at_ (ZC hi);clear hE hZ B
     go_upto_region 11 with (fail)
     have T0:=Zm t0;have T1:=Zm t1;have T2:=Zm t2;have T3:=Zm t3;have E0:=Zm y7;have a:=Zf wr;clear t0 t1 t2 t3 y7;refine Zp 7 [0,1,2,3,4,5,6,7] (by kernel_rfl) (by kernel_rfl) ?_;repeat ((first | (refine Zd (v:=?_) rfl rfl rfl ?_ ?_;rotate_left;(· (intro _ d;go_simp;(try go_bits);(try with_reducible rfl)))) | (refine Zj (v:=?_) rfl rfl rfl ?_ ?_;rotate_left;(· (intro _ d;go_simp;(try go_bits);(try with_reducible rfl)))) | refine Zk rfl rfl rfl ?_);(try simp only [Act.put,pu1,pu2,pu3,pu4,pu5,pu6]))
     refine Zh rfl rfl (fun KR hKR=>?_);go_simp;refine hKR.out _ _ (Or.inl (by decide)) ?_;clear hKR KR;(try simp only [Act.put,pu1,pu2,pu3,pu4,pu5,pu6]);refine Zx ?_;clear T0 T1 T2 T3 E0;have b6:=(HP.out.setZ (z':=fun r=>if r=i then q else zP i q df zf p.right.length r) ah au ao hi X (fun r _=>rfl)).below (Zf _);clear HP X a c0 c1 c2 c3 f0 f1 f2 f3;generalize ((((wr.setCell ⟨gz,i * 4,none⟩ (.bool (canF q).num.neg)).setCell ⟨gz,i * 4+1,none⟩ (.slice Am nm cm)).setCell ⟨gz,i * 4+2,none⟩ (.bool (canF q).den.neg)).setCell ⟨gz,i * 4+3,none⟩ (.slice bl bm bn)).drew=W8 at *;obtain ⟨hE,hI,hB,hZ,-,-,hU,d4⟩:=b6;obtain ⟨zz,d7⟩:=Xm (l:=s.basis) (i:=i) a6.out;obtain ⟨u0,u1,-,-⟩:=hI.at_ d7;have ec:=HF.out.1.cols;obtain ⟨d8,k9⟩:=hI.set_ (k:=i) (z:=(j:Int)) a6.out (by omega) (by omega);have cl:=hB.farI (Z6.of_set (g:=gb) (i:=i) (v:= .int .i64 (j:Int)) (w:=W8)) k9 bw;have cn:=hZ.but k9 (by decide) (by decide);have P:=k9.bk hE (by decide);have co:=hU.setCell (p:=⟨gb,i,none⟩) ct (.int .i64 (j:Int));have y4:=hE.cellAt 4 rfl;clear hI hB hZ hU k9 hE d7
     go_upto_region 13 with (fail)
     clear y4 u0 u1;have ap:w0.heap.size≤(W8.setCell ⟨gb,i,none⟩ (.int .i64 (j:Int))).heap.size:=(by simpa using d4);generalize W8.setCell ⟨gb,i,none⟩ (.int .i64 (j:Int))=W9 at *;have y5:=P.cellAt 5 rfl;have f5:=P.frozen 5;have ac:=Ze.setCell P 5 (.int .i64 (s.pivots+1));have aq:=P.set_ 5 (.int .i64 (s.pivots+1));have b7:Zly U (W9.setCell ⟨e,5,none⟩ (.int .i64 (s.pivots+1))) e p (Zlv s i (j:Int)) K:=by
      refine ⟨A,n,c,_,n',c',b8,b9,ba,_,cb,gB,_,aq,bB,bi,HG.out,⟨q1,q2,by have:=ap;simp;omega,by have:=ap;simp;omega⟩,d8.but ac (by decide),fun b hb=>?_,cl.but ac (by decide) (by decide) (by decide) (by decide) (by decide) (by decide) (by decide),?_,fun b hb=>?_,co.setCell (p:=⟨e,5,none⟩) q1 _⟩
      ·simp [Value.ownBlock] at hb;omega
      ·rw [Yfv HR.out hi a6.out bt.out,← HQ.out,← av.out,← a9.out];exact cn.but ac (by decide) (by decide)
      ·simp [Value.ownBlock] at hb;omega
     clear P aq d8 cl cn co ac;go_wp2_with fail;clear y5 f5;have ed:=Zb.up b7.bel (⟨hOU⟩:Zb U);refine (Zhb U e p (Zlv s i (j:Int)) K _ b7 HF.out).mono ?_;rintro _ ej ⟨rfl,dc⟩;clear b7;go_wp2;go_ret;exact .inl ⟨i,hlv,rfl,dc⟩
end
theorem X6.news {w:World} {ad:Addr} {n c:Nat} {zs:List Int} (h:X6 w (.slice (some ad) n c) zs):∀j u,(zs.map fun z=>Value.int .i64 z)[j]? =some u→w.cell? (ad.add j)=some u:=by
 obtain ⟨A,c',hv,hc,hm,d,f⟩:=h;injection hv with e1 e2 e3;subst e1;intro j u hj;have a:j < zs.length:=by have h9:=(List.getElem?_eq_some_iff.1 hj).1;simpa using h9
 obtain ⟨b,g,e,hx⟩:=d (by omega);have e:=Option.some.inj e;rw [e,Zll,hx j a];simp [JQ a] at hj;rw [← hj];simp [List.getD,JQ a]
theorem Zhc [Old] (v:Value) (zs:List Int) (w:World) (h:X6 w v zs) (hs:zs.length≤1099511627776) (hOl:Zb w:=by (repeat (first | assumption | exact Zb.up (by assumption) hOl | exact Zb.up (Hid.out (by assumption)) hOl | with_reducible refine Zb.set ?_ _ _ | with_reducible refine Zb.mk_ ?_ _ | with_reducible refine Zb.dr ?_ | with_reducible refine Zb.drN ?_ | refine Zb.up (by assumption) ?_ | refine Zb.up (Hid.out (by assumption)) ?_))):
 Calls Tryz.prog 83 #[v] w fun o w'=>∃v',o= .returned v'∧ZI w.heap.size w' v' zs∧Below w.heap.size w w':=by
 have q:=hOl.le;have HI:=JZ h;obtain ⟨A,c,rfl,hc,hm⟩:=h.shape;obtain ⟨n,hn⟩:∃n,n=zs.length:=⟨_,rfl⟩;rw [← hn] at hc hs ⊢;have HN:=JZ hn;have i:Hid (∀z∈zs,-9223372036854775808≤z∧z≤9223372036854775807):=JZ (by obtain ⟨_,_,_,_,_,_,h⟩:=h;exact h);have d:=fun (W:World) (a:Option Addr)=>Go.Lib.run_eql_slice_nil (P:=Tryz.prog) W 22 3 a n c 0 0 Tryz.underlying22
 obtain ⟨i0,hi,l,m,p⟩:=info_parts info_intT
 cases A with
 | none=>
  have j:n=0:=by
   rcases JV n with e | e
   ·exact e
   ·obtain ⟨b,r,_,e1,_⟩:=h.at_ (show 0 < zs.length by omega);cases e1
  subst j;obtain rfl:zs=[]:=List.length_eq_zero_iff.1 HN.out.symm;have:=d w none;clear d h hn;go_enter Tryz.func83,Tryz.ntmps83;go_wp2;go_ret;exact ⟨_,rfl,ZI.nil _ _,JR _ _⟩
 | some ad=>
  have:=d w (some ad);clear d h hn;go_enter Tryz.func83,Tryz.ntmps83;go_wp2_with (at_builtin;refine wpList_append_own_at _ rfl (.tmp 5) (.tmp 6) _ rfl w.heap.size 3 i0 _ 1 8 Tryz.underlying22 hi l m p rfl (by decide) (.slice (some ⟨w.heap.size,0,none⟩) 0 0) 0 [] rfl ?c0 ad n c (zs.map fun z=>Value.int .i64 z) rfl ?c1 ?c2 ?c6 ?c3 ?c4 ?c5 ?_)
  case c0=>exact World.ownsRow_made w #[] 0 (JY _) (by simp) (by simp)
  case c1=>simp;have:=HN.out;omega
  case c2=>
   have:=(HI.out.below ((JR _ _).alloc (JY _) (.cells #[] 3))).news;exact this
  case c3=>unfold maxLen;omega
  case c4=>omega
  case c5=>simp
  case c6=>intro u hu;simp at hu;obtain ⟨z,_,rfl⟩:=hu;rfl
  ·intro v' w1 f g _ _;go_wp2;go_ret;refine ⟨_,rfl,⟨by have e:=HN.out;rw [e] at f;simpa using f,i.out⟩,((JR _ _).alloc (JY _) _).grown g (by simp) (fun k hk=>?_)⟩;simp [Value.ownBlock] at hk;omega
theorem Zbi [Old] (U:World) (e:Nat) (p:LPd) (s:LSt) (K:Nat) (w:World) (h:Zly U w e p s K) (F:p.Ft K) (S:s.Fit p) (hOl:Zb w:=by (repeat (first | assumption | exact Zb.up (by assumption) hOl | exact Zb.up (Hid.out (by assumption)) hOl | with_reducible refine Zb.set ?_ _ _ | with_reducible refine Zb.mk_ ?_ _ | with_reducible refine Zb.dr ?_ | with_reducible refine Zb.drN ?_ | refine Zb.up (by assumption) ?_ | refine Zb.up (Hid.out (by assumption)) ?_))) (hOU:Old.n≤U.heap.size:=by first | assumption | exact Nat.zero_le _ | omega | ((first | with_reducible refine Zb.le ?_ | with_reducible refine Zb.le1 ?_ | with_reducible refine Zb.le2 ?_ | with_reducible refine Zb.le3 ?_);repeat (first | assumption | exact Zb.up (by assumption) hOl | exact Zb.up (Hid.out (by assumption)) hOl | with_reducible refine Zb.set ?_ _ _ | with_reducible refine Zb.mk_ ?_ _ | with_reducible refine Zb.dr ?_ | with_reducible refine Zb.drN ?_ | refine Zb.up (by assumption) ?_ | refine Zb.up (Hid.out (by assumption)) ?_))):
 Calls Tryz.prog 55 #[.pointer (some ⟨e,0,none⟩)] w fun o w'=>∃v',o= .returned v'∧StO w.heap.size w' v' s∧Below w.heap.size w w':=by
 have t:=hOl.le;obtain ⟨Ab,cb,base,bi,gB,vz,h1,h2,⟨h3,u⟩,h4⟩:=h.r;obtain ⟨y3,y4,y5,-,-⟩:=h1.cells;have j:s.basis.length≤1099511627776:=by rw [S.2];have:=F.2.1;omega
 obtain ⟨W,hW,hT,hb⟩:∃W,w.alloc (.cells #[.int .i64 0,.slice none 0 0,.int .i64 0] 29)=W∧Bk W w.heap.size 29 [.int .i64 0,.slice none 0 0,.int .i64 0]∧Below w.heap.size w W:=⟨_,rfl,Bk.new w _ _,Zc w _⟩;have f:=Zg hb y3;have g:=Zg hb y4;have i:=Zg hb y5;have k:=h2.below hb;have l:=hT;clear h h1 h2 h3 h4 y3 y4 y5 F S;go_enter Tryz.func55,Tryz.ntmps55
 go_upto_region 1 with (fail)
 clear hW;have C0:=Zm f;have C1:=Zm g;have C2:=Zm i;have a:=Zf W;clear f g i;refine Zp 14 [0,1,2,3,4,5,6,7,9,10,11,12,8,13,14] (by kernel_rfl) (by kernel_rfl) ?_;repeat ((first | (refine Zd (v:=?_) rfl rfl rfl ?_ ?_;rotate_left;(· (intro _ d;go_simp;(try go_bits);(try with_reducible rfl)))) | (refine Zj (v:=?_) rfl rfl rfl ?_ ?_;rotate_left;(· (intro _ d;go_simp;(try go_bits);(try with_reducible rfl)))) | refine Zk rfl rfl rfl ?_);(try simp only [Act.put,pu1,pu2,pu3,pu4,pu5,pu6]))
 refine Zh rfl rfl (fun KR hKR=>?_);go_simp;with_reducible refine (Zhc _ s.basis _ (k.below a) j).mono ?_
 rintro _ w6 ⟨v6,rfl,e6,q⟩;have c:=Za a q a.size;obtain ⟨A6,n6,c6,rfl⟩:=e6.sliceN;have b:=l.later c;obtain ⟨t0,t1,t2⟩:=b.three;obtain ⟨f0,f1,f2⟩:=b.threeF;refine hKR.out _ _ (Or.inr c) ?_;clear hKR KR;(try simp only [Act.put,pu1,pu2,pu3,pu4,pu5,pu6]);repeat ((first | (refine Zd (v:=?_) rfl rfl rfl ?_ ?_;rotate_left;(· (intro _ d;go_simp;(try go_bits);(try with_reducible rfl)))) | (refine Zj (v:=?_) rfl rfl rfl ?_ ?_;rotate_left;(· (intro _ d;go_simp;(try go_bits);(try with_reducible rfl)))) | refine Zk rfl rfl rfl ?_);(try simp only [Act.put,pu1,pu2,pu3,pu4,pu5,pu6]))
 refine Zh rfl rfl (fun KR hKR=>?_);go_simp;refine hKR.out _ _ (Or.inl (by decide)) ?_;clear hKR KR;(try simp only [Act.put,pu1,pu2,pu3,pu4,pu5,pu6]);refine Zx ?_;clear C0 C1 C2;have k0:=Ze.setCell b 0 (.int .i64 s.phase);have g0:=b.set_ 0 (.int .i64 s.phase);have k1:=Ze.setCell g0 1 (.slice A6 n6 c6);have g1:=g0.set_ 1 (.slice A6 n6 c6);have k2:=Ze.setCell g1 2 (.int .i64 s.pivots);have g2:=g1.set_ 2 (.int .i64 s.pivots);have hO:=e6.but ((k0.trans k1).trans k2) (by decide);have m:=(((Za hb c hb.size).setCell (p:=⟨w.heap.size,0,none⟩) (JY _) (.int .i64 s.phase)).setCell (p:=⟨w.heap.size,1,none⟩) (JY _) (.slice A6 n6 c6)).setCell (p:=⟨w.heap.size,2,none⟩) (JY _) (.int .i64 s.pivots);go_wp2;refine Zq Tryz.results55 Tryz.underlying29 (by kernel_rfl) rfl g2 rfl ?_;exact ⟨_,rfl,⟨A6,n6,c6,rfl,hO.monoB (JW hb.size a.size)⟩,m⟩
section
open Go.Maps (int_keyed keyOf_int_mk)
theorem Zcj {e:TypeId} (he:Tryz.prog.underlying e=some .bool) {v:Value} {b:Bool} {ps:List MemPlace} (h:plainElem (H:=Unit) Tryz.prog e v=some (.lit (.bool b),ps)):v= .bool b:=by
 unfold plainElem at h;rw [he] at h
 cases v <;> simp at h
 rw [h.1]
def UL (w:World) (b n:Nat) (zs:List Int):Prop:=
 ∃D:DataW Unit,w.ownsMap Tryz.prog 3 (plainElem Tryz.prog 4) b n D∧Go.Maps.IsMap D∧∀z:Int,D.atKey (.int .i64 z) (.lit (.bool false))= .lit (.bool (decide (z∈zs)))
theorem UL.made (w:World):UL (w.alloc (.map #[] 0)) w.heap.size 0 []:=
 ⟨.map [],World.ownsMap_made w _ _ _,Go.Maps.isMap_empty,fun z=>by simp [DataW.atKey]⟩
theorem Ybe (z:Int) (h0: -9223372036854775808≤z) (h1:z≤9223372036854775807):keyOf Tryz.prog 3 (.int .i64 z)=some (.int .i64 z):=keyOf_int_mk Tryz.underlying3 (by
 have e1:IntKind.i64.min= -9223372036854775808:=by decide
 have e2:IntKind.i64.max=9223372036854775807:=by decide
 simp [Lit.wf,e1,e2];omega)
theorem UL.look {w:World} {b n:Nat} {zs:List Int} (h:UL w b n zs) (z:Int) (h0: -9223372036854775808≤z) (h1:z≤9223372036854775807):
 (Instr.lookup 103 (.map (some b)) (.int .i64 z) false).run Tryz.prog w= .ok (.bool (decide (z∈zs))) w:=by
 obtain ⟨D,ho,hm,hd⟩:=h;obtain ⟨v,ps,hr,hv⟩:=ho.lookup (int_keyed Tryz.underlying3) Tryz.underlying103 (z:= .bool false) (by kernel_rfl) (plainElem_bool Tryz.underlying4 false) (Ybe z h0 h1);rw [hd z] at hv;rw [hr,Zcj Tryz.underlying4 hv]
theorem UL.put {w:World} {b n:Nat} {zs:List Int} (h:UL w b n zs) (hn:n < 1000) (z:Int) (h0: -9223372036854775808≤z) (h1:z≤9223372036854775807):
 ∃w',(Instr.mapUpdate 103 (.map (some b)) (.int .i64 z) (.bool true)).run Tryz.prog w= .ok () w'∧UL w' b (n+1) (z::zs)∧w.grownBy w' (some b):=by
 obtain ⟨D,ho,hm,hd⟩:=h;obtain ⟨w',hr,a,hg⟩:=ho.update (int_keyed Tryz.underlying3) Tryz.underlying103 (by unfold maxLen;omega) (Ybe z h0 h1) (plainElem_bool Tryz.underlying4 true);refine ⟨w',hr,⟨_,a,hm.put _ _,fun y=>?_⟩,hg⟩;by_cases e:y=z
 ·subst e;rw [Go.Maps.atKey_put_same hm (by trivial)];simp
 ·rw [Go.Maps.atKey_put_other (by intro g;injection g with _ g;exact e g),hd y];simp [e]
def Ygs [Old] (w:World) (p:LPd) (s:LSt) (K:Nat) (o:Ending) (w':World):Prop:=
 Below w.heap.size w w'∧((lpErr p≠0∧o= .returned (.tuple #[.pointer none,.int .i64 (lpErr p)]))∨(lpErr p=0∧vsErr p s≠0∧o= .returned (.tuple #[.pointer none,.int .i64 (vsErr p s)]))∨
  (lpErr p=0∧vsErr p s=0∧∃e,o= .returned (.tuple #[.pointer (some ⟨e,0,none⟩),.int .i64 0])∧Zly w w' e p (Zy p s) K))
theorem Zdj [Old] (v1 v2:Value) (p:LPd) (s:LSt) (K:Nat) (w:World) (h:LpM w v1 p) (h2:StM w v2 s) (ok:p.Ok K) (hF:lpErr p=0→p.Ft K) (hbl:s.basis.length≤1099511627776) (hrg:∀z∈s.basis,-9223372036854775808≤z∧z≤9223372036854775807) (hOl:Zb w:=by (repeat (first | assumption | exact Zb.up (by assumption) hOl | exact Zb.up (Hid.out (by assumption)) hOl | with_reducible refine Zb.set ?_ _ _ | with_reducible refine Zb.mk_ ?_ _ | with_reducible refine Zb.dr ?_ | with_reducible refine Zb.drN ?_ | refine Zb.up (by assumption) ?_ | refine Zb.up (Hid.out (by assumption)) ?_))):
 Calls Tryz.prog 54 #[v1,v2] w (Ygs w p s K):=by
 have el:=hOl.le;obtain ⟨A,n,c,A',n',c',a1,ex,a2,rfl,hc,hv,hr⟩:=id h;obtain ⟨cu,ar,cv,rfl,hI⟩:=id h2;obtain ⟨l1,l2,l3⟩:=hv.len;obtain ⟨r1,r2,r3⟩:=hr.len;subst l1 r1;obtain ⟨W0,e3,cw,bo⟩:=X9 w (.slice A n c) (.slice A' p.cols.length c') (.slice a1 p.right.length a2);obtain ⟨W,hW,hT,X⟩:=Xa W0 (.int .i64 s.phase) (.slice cu ar cv) (.int .i64 s.pivots);have E:=Za bo X bo.size;have hX:=cw.later X;have R:Hid (WA w (.slice A n c) p.cost∧Xz w (.slice A' p.cols.length c') p.cols∧WA w (.slice a1 p.right.length a2) p.right):=JZ ⟨hc,hv,hr⟩;have dd:=JZ h;have bc:Hid (True∧X6 w (.slice cu ar cv) s.basis):=JZ ⟨trivial,hI⟩;have em:=JZ ok;have de:=JZ hF;have en:=JZ hrg;obtain ⟨cx,ey,ez⟩:=hI.len;have bt:=JZ cx;obtain ⟨x0,x1,x2⟩:=hX.three;obtain ⟨t0,t1,t2⟩:=hT.three;have df:=JZ hX;have dg:=JZ hT;have HK:Hid (p.Ok K):=JZ ok;clear h h2 hc hv hr hI ok hF hrg cw bo X cx hX hT;go_enter Tryz.func54,Tryz.ntmps54;go_wp2_with fail;clear hW e3 x0 x1 x2 t0 t1 t2;refine (Ua _ p K _ (dd.out.below E) HK.out).mono ?_;rintro _ w1 ⟨rfl,X⟩;have a6:=Za E X E.size;have bd:=JZ (df.out.later X);have be:=JZ (dg.out.later X);clear E X;by_cases hz:lpErr p=0
 ·rw [hz];have D:=JZ hz;have HF:=JZ (de.out hz);have bu:=HF.out.2.1;have eo:=HF.out.1.cols;obtain ⟨-,x1,x2⟩:=bd.out.three;obtain ⟨t0,t1,t2⟩:=be.out.three;clear hz
  go_upto_region 4 with (fail)
  have C1:=Zm x1;have C2:=Zm x2;have F:=Zf w1;clear x1 x2 t0 t1 t2;refine Zp 8 [0,1,2,3,4,5,6,7] (by kernel_rfl) (by kernel_rfl) ?_;repeat ((first | (refine Zd (v:=?_) rfl rfl rfl ?_ ?_;rotate_left;(· (intro _ a4;go_simp;(try go_bits);(try with_reducible rfl)))) | (refine Zj (v:=?_) rfl rfl rfl ?_ ?_;rotate_left;(· (intro _ a4;go_simp;(try go_bits);(try with_reducible rfl)))) | refine Zk rfl rfl rfl ?_);(try simp only [Act.put,pu1,pu2,pu3,pu4,pu5,pu6]))
  refine Zx ?_;clear C1 C2;have M:=Za a6 F a6.size;have bv:=JZ (bd.out.later F);have bf:=JZ (be.out.later F);clear a6 F bd be;generalize w1.drew=w2 at *;obtain ⟨-,x1,x2⟩:=bv.out.three;obtain ⟨t0,t1,t2⟩:=bf.out.three;by_cases al:s.basis.length=p.right.length
  ·have G:=JZ al;have bw:ar=p.right.length:=(by rw [bt.out];exact al);subst bw;clear al;by_cases a9:s.phase < 1∨2 < s.phase∨s.pivots < 0
   ·have HV:=JZ (Yfn G.out a9);by_cases h1:s.phase=1
    ·have hA:(s.phase !=1)=false:=(by simpa using h1);have hP:s.pivots < 0:=(by omega);clear x1 x2;go_wp2;go_ret2;exact ⟨M,.inr (.inl ⟨D.out,by rw [HV.out];decide,by rw [HV.out];rfl⟩)⟩
    ·by_cases h2:s.phase=2
     ·have hA:(s.phase !=1)=true:=(by simpa using h1);have hB:(s.phase !=2)=false:=(by simpa using h2);have hP:s.pivots < 0:=(by omega);clear x1 x2;go_wp2;go_ret2;exact ⟨M,.inr (.inl ⟨D.out,by rw [HV.out];decide,by rw [HV.out];rfl⟩)⟩
     ·have hA:(s.phase !=1)=true:=(by simpa using h1);have hB:(s.phase !=2)=true:=(by simpa using h2);clear x1 x2;go_wp2;go_ret2;exact ⟨M,.inr (.inl ⟨D.out,by rw [HV.out];decide,by rw [HV.out];rfl⟩)⟩
   ·have B:=JZ a9;have bx:s.phase=1∨s.phase=2:=(by omega);have bz:=JZ bx;have ep:0≤s.pivots:=(by omega);rcases bx with h1 | h2
    case' inl=>
     have hA:(s.phase !=1)=false:=(by simpa using h1);clear h1 a9
     go_upto_region 9 with (fail)
    case' inr=>
     have hB:(s.phase !=2)=false:=(by simpa using h2);have hA:(s.phase !=1)=true:=(by simp;omega);clear h2 a9
     go_upto_region 9 with (fail)
     clear hB
    all_goals
     have y1:=bf.out.cellAt 1 rfl;clear x1 x2 t0 t1 t2 hA;go_wp2;clear y1
     go_loopw [57] (fun x wr=>∃k:Nat,k≤p.right.length∧x= .int .i64 k∧Below w2.heap.size w2 wr∧∀i,i < k→ -(p.right.length:Int)≤s.at_ i∧s.at_ i < p.cols.length) (fun x _=>p.right.length - (intOf x).toNat)
     case atStart=>exact ⟨0,by omega,rfl,JR _ _,fun i hi=>absurd hi (by omega)⟩
     case round=>
      obtain ⟨k,hk,rfl,hb,ai⟩:=hrel;have L:=JZ ai;have d:=Za M hb M.size;clear ai;rcases JX k p.right.length with hkl | hkl
      ·have bg:(k:Int) < p.right.length:=(by omega);obtain ⟨bb,ob,z,hA,z0,u,z1,z2⟩:=bc.out.2.at_ hkl;subst hA;have z3:=Zg d z0;have H:Hid (s.at_ k=z):=JZ (LSt.at_eq u);clear u z0;by_cases da:z < -(p.right.length:Int)
       ·have HV:=JZ (Yaw G.out B.out (fun g=>by have:=(g k hkl).1;rw [H.out] at this;omega));go_wp2;go_ret2;exact ⟨d,.inr (.inl ⟨D.out,by rw [HV.out];decide,by rw [HV.out];rfl⟩)⟩
       ·have c0: -(p.right.length:Int)≤z:=(by omega);by_cases db:z < p.cols.length
        ·clear da;go_wp2;go_roundw
         case rel=>exact ⟨k+1,by omega,by go_num,hb,fun i hi=>by
          by_cases g:i=k
          ·rw [g,H.out];exact ⟨c0,db⟩
          ·exact L.out i (by omega)⟩
         case measure=>simp [intOf];omega
        ·have HV:=JZ (Yaw G.out B.out (fun g=>by have:=(g k hkl).2;rw [H.out] at this;omega));have ed:(p.cols.length:Int)≤z:=(by omega);clear da db;go_wp2;go_ret2;exact ⟨d,.inr (.inl ⟨D.out,by rw [HV.out];decide,by rw [HV.out];rfl⟩)⟩
      ·obtain rfl:k=p.right.length:=by omega
       have I:Hid (Zqj p s):=JZ L.out;have bh:=JZ (bf.out.later hb);have c1:=JZ (bv.out.later hb);have y1:=bh.out.cellAt 1 rfl;have dh:=@run_makeMap Tryz.prog;have c2:=UL.made wr;have aa:=Zc wr (.map #[] 0);have di:=Zg aa y1;have er:=d.size;have et:=aa.size;have c3:=bh.out.lt;have c4:=c1.out.lt;go_wp2;clear y1 di dh;have ax:=Za d aa d.size;have dj:=JZ (bh.out.later aa);have dk:=JZ (c1.out.later aa);clear aa hb d;generalize wr.alloc (.map #[] 0)=W4 at *;generalize wr.heap.size=gm at *
       go_loopw [75] (fun x wr=>∃k:Nat,k≤p.right.length∧x= .int .i64 k∧Below w.heap.size w wr∧Below gm W4 wr∧UL wr gm k (s.basis.take k).reverse∧∀i,i < k→∀i',i' < i→s.at_ i≠s.at_ i') (fun x _=>p.right.length - (intOf x).toNat)
       case atStart=>exact ⟨0,by omega,rfl,ax,JR _ _,by simpa using c2,fun i hi=>absurd hi (by omega)⟩
       case round=>
        clear c2 ax;obtain ⟨k,hk,rfl,N,aj,ak,cy⟩:=hrel;have c7:=JZ cy;clear cy;rcases JX k p.right.length with hkl | hkl
        ·have bg:(k:Int) < p.right.length:=(by omega);obtain ⟨bb,ob,z,hA,z0,u,z1,z2⟩:=bc.out.2.at_ hkl;subst hA;have z3:=Zg N z0;have H:Hid (s.at_ k=z):=JZ (LSt.at_eq u);have ca:=ak.look z z1 z2;by_cases a5:z∈(s.basis.take k).reverse
         ·have HV:=JZ (Yfo G.out B.out I.out (fun g=>by
           rw [List.mem_reverse] at a5;obtain ⟨i,e5,d0⟩:=List.getElem_of_mem a5;rw [List.length_take] at e5;have dl:s.basis[i]? =some z:=by
            rw [JQ (by omega)];rw [List.getElem_take] at d0;rw [d0]
           exact g k hkl i (by omega) (by rw [H.out,LSt.at_eq dl])))
          have d:=N;rw [decide_eq_true a5] at ca;clear u z0 ak a5;go_wp2;go_ret2;exact ⟨d,.inr (.inl ⟨D.out,by rw [HV.out];decide,by rw [HV.out];rfl⟩)⟩
         ·obtain ⟨w6,f0,b7,bp⟩:=ak.put (by omega) z z1 z2;rw [decide_eq_false a5] at ca;have S:=N.grown bp N.size (fun x hx=>by injection hx with hx;omega);have cc:=aj.grown bp (by have:=aj.size;omega) (fun x hx=>by injection hx with hx;omega);have dm:Hid (UL w6 gm (k+1) (s.basis.take (k+1)).reverse):=JZ (by rw [List.take_add_one,u];simpa using b7);have dn:Hid (∀i',i' < k→z≠s.at_ i'):=JZ fun i' hi' e=>a5 (by
           rw [List.mem_reverse];obtain ⟨y,hy⟩:=Xm (l:=s.basis) (i:=i') (by rw [G.out];omega);rw [LSt.at_eq hy] at e;subst e;exact List.mem_iff_getElem?.2 ⟨i',by rw [List.getElem?_take,if_pos hi'];exact hy⟩)
          clear u z0 ak b7 a5 bp;go_wp2;go_roundw
          case rel=>exact ⟨k+1,by omega,by go_num,S,cc,dm.out,fun i hi i' hi'=>by
           by_cases g:i=k
           ·rw [g,H.out];exact dn.out i' (by omega)
           ·exact c7.out i (by omega) i' hi'⟩
          case measure=>simp [intOf];omega
        ·obtain rfl:k=p.right.length:=by omega
         have T:Hid (Zwb p s):=JZ c7.out;have dp:=JZ (dj.out.below aj c3);have cd:=JZ (dk.out.below aj c4);have ce:=cd.out.three;obtain ⟨x0,x1,x2⟩:=ce;obtain ⟨t0,t1,t2⟩:=dp.out.three;have E:=N;clear ak aj
         go_upto_region 23 with (fail)
         have C0:=Zm x0;have C1:=Zm x1;have C2:=Zm x2;have D0:=Zm t0;have D1:=Zm t1;have D2:=Zm t2;have F:=Zf wr;clear x0 x1 x2 t0 t1 t2;refine Zp 11 [0,1,2,3,4,6,7,5,8,9,10] (by kernel_rfl) (by kernel_rfl) ?_;repeat ((first | (refine Zd (v:=?_) rfl rfl rfl ?_ ?_;rotate_left;(· (intro _ a4;go_simp;(try go_bits);(try with_reducible rfl)))) | (refine Zj (v:=?_) rfl rfl rfl ?_ ?_;rotate_left;(· (intro _ a4;go_simp;(try go_bits);(try with_reducible rfl)))) | refine Zk rfl rfl rfl ?_);(try simp only [Act.put,pu1,pu2,pu3,pu4,pu5,pu6]))
         refine Zh rfl rfl (fun KR hKR=>?_);go_simp;(with_reducible refine (Zhc _ s.basis _ (bc.out.2.below (Za E F E.size)) hbl).mono ?_);rintro _ w6 ⟨v6,rfl,e6,av⟩;have an:=Za F av F.size;obtain ⟨Ab,e7,cb,rfl⟩:=e6.sliceN;obtain rfl:e7=p.right.length:=by rw [← G.out];exact e6.len
         refine hKR.out _ _ (Or.inr an) ?_;clear hKR KR;(try simp only [Act.put,pu1,pu2,pu3,pu4,pu5,pu6]);repeat ((first | (refine Zd (v:=?_) rfl rfl rfl ?_ ?_;rotate_left;(· (intro _ a4;go_simp;(try go_bits);(try with_reducible rfl)))) | (refine Zj (v:=?_) rfl rfl rfl ?_ ?_;rotate_left;(· (intro _ a4;go_simp;(try go_bits);(try with_reducible rfl)))) | refine Zk rfl rfl rfl ?_);(try simp only [Act.put,pu1,pu2,pu3,pu4,pu5,pu6]))
         obtain ⟨W7,e8,au,ad⟩:∃W,w6.alloc (.cells #[.slice A n c,.slice A' p.cols.length c',.slice a1 p.right.length a2,.int .i64 s.phase,.slice Ab p.right.length cb,.int .i64 s.pivots,.pointer none,.slice none 0 0] 107)=W∧Bk W w6.heap.size 107 [.slice A n c,.slice A' p.cols.length c',.slice a1 p.right.length a2,.int .i64 s.phase,.slice Ab p.right.length cb,.int .i64 s.pivots,.pointer none,.slice none 0 0]∧Below w6.heap.size w6 W:=⟨_,rfl,Bk.new w6 _ _,Zc w6 _⟩;have ao:=Za an ad an.size;refine Zh rfl rfl (fun KR hKR=>?_);go_simp;refine hKR.out _ _ (Or.inr ao) ?_;clear hKR KR e8;(try simp only [Act.put,pu1,pu2,pu3,pu4,pu5,pu6]);repeat ((first | (refine Zd (v:=?_) rfl rfl rfl ?_ ?_;rotate_left;(· (intro _ a4;go_simp;(try go_bits);(try with_reducible rfl)))) | (refine Zj (v:=?_) rfl rfl rfl ?_ ?_;rotate_left;(· (intro _ a4;go_simp;(try go_bits);(try with_reducible rfl)))) | refine Zk rfl rfl rfl ?_);(try simp only [Act.put,pu1,pu2,pu3,pu4,pu5,pu6]))
         refine Zx ?_;clear C0 C1 C2 D0 D1 D2;have a:=Za E ao E.size;have cf:=cd.out.later ao;have ap:=JZ (e6.below ad);have aq:w.heap.size≤w6.heap.size:=JW E.size (JW F.size av.size);have eu:wr.heap.size≤w6.heap.size:=JW F.size av.size;clear e6 av ad an ao F N;generalize w6.heap.size=e at *;have cg:Zwl W7 e p s.phase s.pivots (.slice Ab p.right.length cb) (.pointer none) (.slice none 0 0):=⟨A,n,c,A',_,c',a1,_,a2,au,R.out.1.below a,R.out.2.1.below a,R.out.2.2.below a⟩;have dq:=JZ cg;have ds:=JZ au;have dt:=JZ cf;have ev:=Zew p.right.length (by omega);have ch:=Yy.zeros W7 p.right.length (by unfold maxLen;omega);have o:=Zc W7 (.cells (zvc p.right.length) 72);have y4:=au.cellAt 4 rfl;have du:=Zg o y4;obtain ⟨-,eh,ei⟩:=ap.out.ints.len;clear cf au cg;go_wp2;clear y4 du;generalize W7.alloc (.cells (zvc p.right.length) 72)=W8 at *
         go_loopw [102] (fun x wr=>∃k:Nat,k≤p.right.length∧x= .int .i64 k∧Below W7.heap.size W7 wr∧∃cols:List (List En),cols.length=p.right.length∧Yy W7.heap.size wr (.slice (some ⟨W7.heap.size,0,none⟩) p.right.length p.right.length) cols∧∀i,i < k→∃es,cols[i]? =some es∧p.col (s.at_ i)=XG es∧Pl.Good p.right.length es∧∀(k:Nat) (e:En),es[k]? =some e→e.f.Rs K) (fun x _=>p.right.length - (intOf x).toNat)
         case atStart=>exact ⟨0,by omega,rfl,o,_,by simp,ch,fun i hi=>absurd hi (by omega)⟩
         case round=>
          clear ch o;obtain ⟨k,hk,rfl,hb,cols,b8,hO,d1⟩:=hrel;have bj:=JZ d1;clear d1;rcases JX k p.right.length with hkl | hkl
          ·have bg:(k:Int) < p.right.length:=(by omega);obtain ⟨bb,ob,z,hA,z0,u,z1,z2⟩:=ap.out.ints.at_ hkl;subst hA;have z3:=Zg hb z0;have bl:=I.out k hkl;rw [LSt.at_eq u] at bl;have H:Hid (s.at_ k=z):=JZ (LSt.at_eq u);clear u z0;go_wp2_with fail;refine (Zof e p K s.phase s.pivots _ _ _ z _ (dq.out.below hb) HF.out D.out bl.1 bl.2).mono ?_;rintro _ w8 ⟨v8,es,rfl,bs,d6,d7,d8,o⟩;have t:=Za hb o hb.size;have bm:=hO.below o;obtain ⟨u0,d2⟩:=Y8 (cs:=cols) (i:=k) (by omega);obtain ⟨_,m0,m1,-⟩:=bm.at_ d2;obtain ⟨ea,_⟩:=bm.set_ (k:=k) (by omega) bs;have C:=t.setCell (p:=⟨W7.heap.size,k,none⟩) (JY _) v8;obtain ⟨A8,n8,c8,rfl⟩:∃A n c,v8= .slice A n c:=by obtain ⟨A,c,e,_⟩:=bs.shape;exact ⟨A,_,c,e⟩
           have ci:Hid (p.col z=XG es∧Pl.Good p.right.length es∧∀(k:Nat) (e:En),es[k]? =some e→e.f.Rs K):=JZ ⟨d6,d7,d8⟩;clear hb o t hO bm bs d6 d7 d8 d2 z3;go_wp2;go_roundw
           case rel=>exact ⟨k+1,by omega,by go_num,C,_,by rw [List.length_set];exact b8,ea,fun i hi=>by
            by_cases g:i=k
            ·subst g;exact ⟨es,List.getElem?_set_self (by omega),by rw [H.out];exact ci.out.1,ci.out.2⟩
            ·rw [List.getElem?_set_ne (Ne.symm g)];exact bj.out i (by omega)⟩
           case measure=>simp [intOf];omega
          ·obtain rfl:k=p.right.length:=by omega
           have ab:=Za a hb a.size;have cj:∀(k:Nat) (c:List En),cols[k]? =some c→Pl.Good p.right.length c∧∀(j:Nat) (e:En),c[j]? =some e→e.f.Rs K:=fun k c hc=>by
            obtain ⟨es,h1,h2,h3⟩:=bj.out k (by have:=(List.getElem?_eq_some_iff.1 hc).1;omega);rw [hc] at h1;injection h1 with h1;subst h1;exact h3
           have ck:∀(k:Nat) (c:List En),cols[k]? =some c→s.mat p k=XG c:=fun k c hc=>by
            obtain ⟨es,h1,h2,h3⟩:=bj.out k (by have:=(List.getElem?_eq_some_iff.1 hc).1;omega);rw [hc] at h1;injection h1 with h1;subst h1;exact h2
           go_wp2_with fail;refine (Zzo _ p.right.length K cols (s.mat p) _ hO.vecs b8 bu HF.out.1.k1 HF.out.2.2 cj ck).mono ?_;clear cj ck;rintro _ w8 ⟨o,⟨gB,rfl,b9,ba⟩ | ⟨rfl,d9⟩⟩
           ·have HR:=JZ (show Reg p s from b9);have a7:=JZ (Zwg HR.out);have t:=Za hb o hb.size;have J:=Za ab o ab.size;have U:=ds.out.later t;have cl:=dt.out.later t;have ay:=ap.out.below t;have q6:=U.cellAt 6 rfl;have f6:=U.frozen 6;have k6:=Ze.setCell U 6 (.pointer (some ⟨gB,0,none⟩));have cm:=U.set_ 6 (.pointer (some ⟨gB,0,none⟩));have cn:=fun bi=>(ba bi).but k6 (by decide) (by decide) (by decide) (by decide) (by decide) (by decide) (by decide)
            have co:=k6.bk cl (by decide);have az:=ay.but k6 (by decide);have O:=J.setCell (p:=⟨e,6,none⟩) aq (.pointer (some ⟨gB,0,none⟩));have ee:wr.heap.size≤(w8.setCell ⟨e,6,none⟩ (.pointer (some ⟨gB,0,none⟩))).heap.size:=(by simpa using o.size);have b0:W7.heap.size≤wr.heap.size:=hb.size;clear hO b9 ba U cl ay k6 hb o t J ab
            go_upto_region 34 with (fail)
            clear q6 f6;generalize w8.setCell ⟨e,6,none⟩ (.pointer (some ⟨gB,0,none⟩))=W8 at *;obtain ⟨-,-,x2⟩:=co.three;go_wp2_with fail;clear x2;refine (Xg _ p.right K _ (R.out.2.2.below O) (by omega) HF.out.1.rs (by have:=HF.out.k;omega)).mono ?_;rintro _ w9 ⟨v9,rfl,e9,t⟩;obtain ⟨A9,n9,c9,rfl⟩:∃A n c,v9= .slice A n c:=by obtain ⟨A,c,e,_⟩:=e9.vec.shape;exact ⟨A,_,c,e⟩
            have ae:=cm.later t;have m:=Za O t O.size;have ef:Old.n≤wr.heap.size:=JW (Zb.up a hOl).le b0;have b1:=fun bi=>(cn bi).below t
            have af:=az.below t;have b2:Zwl w9 e p s.phase s.pivots (.slice Ab p.right.length cb) (.pointer (some ⟨gB,0,none⟩)) (.slice none 0 0):=⟨A,n,c,A',_,c',a1,_,a2,ae,R.out.1.below m,R.out.2.1.below m,R.out.2.2.below m⟩;have b3:=JZ b1;clear cm co cn az b1;go_wp2_with fail;refine (Zha e p K p.right.length cb wr.heap.size 0 gB (s.mat p) s.phase s.pivots Ab _ _ (spV (qAt p.right) p.right.length) _ b2 (b3.out 0) e9.vec (Zdd _ _) (Zcq fun i _=>HF.out.1.rs.qAt HF.out.1.k1 i) bu HF.out.2.2).mono ?_;rintro _ aw ⟨f8,x,rfl,hx,-,a3,C⟩;have cp:Z7 p.right.length x=zL p s:=by
             unfold zL;exact (Zci HR.out fun r hr=>by have:=hx r hr;rw [Zgj,if_pos hr] at this;exact this).symm
            rw [cp] at a3;have P:Hid ((zL p s).length=p.right.length):=JZ (Zod HR.out);obtain ⟨Az,cz,d3⟩:=a3.slice;rw [P.out] at d3;subst d3;obtain ⟨-,ej,ek⟩:=a3.frs.len;have V:=ae.later C;have b4:=fun bi=>(b3.out bi).below C
            have Y:=af.below C;have Z:=Za m C m.size;have q7:=V.cellAt 7 rfl;have f7:=V.frozen 7;have k7:=Ze.setCell V 7 (.slice Az p.right.length cz);have a8:=V.set_ 7 (.slice Az p.right.length cz);have ag:=Yd.own_lt a3;have b6:Ybd w (aw.setCell ⟨e,7,none⟩ (.slice Az p.right.length cz)) e p s K A n c A' p.cols.length c' a1 p.right.length a2 Ab cb gB (.slice Az p.right.length cz):=by
             refine ⟨wr.heap.size,aw.heap.size,R.out,⟨aq,?_,?_,by simp⟩,(Y.but k7 (by decide)).monoB ?_,fun b hb=>?_,(b4 _).but k7 (by decide) (by decide) (by decide) (by decide) (by decide) (by decide) (by decide),(a3.but k7 (by decide) (by decide)).monoB m.size,fun b hb=>ag b hb,Z.setCell (p:=⟨e,7,none⟩) aq _⟩
             ·exact JW a.size b0
             ·have:=t.size;have:=C.size;simp;omega
             ·exact E.size
             ·have:=Ue ap.out.1 b hb;omega
            have dv:Hid (Zly w (aw.setCell ⟨e,7,none⟩ (.slice Az p.right.length cz)) e p s K):=JZ ⟨_,_,_,_,_,_,_,_,_,_,_,_,_,a8,b6⟩;have dw:=JZ (a3.but k7 (by decide) (by decide));have cq:=JZ (Y.but k7 (by decide));have dx:=JZ a8;have J:=Z.setCell (p:=⟨e,7,none⟩) aq (.slice Az p.right.length cz);have y7:=a8.cellAt 7 rfl;clear b2 e9 hx cp a3 ae V b4 af Y O m Z t C k7 a8 ag b6
            go_upto_region 36 with (fail)
            clear q7 f7;generalize aw.setCell ⟨e,7,none⟩ (.slice Az p.right.length cz)=W9 at *;go_wp2;clear y7
            go_loopw [144] (fun x wr=>∃k:Nat,k≤p.right.length∧x= .int .i64 k∧Below W9.heap.size W9 wr∧∀i,i < k→¬qAt (zL p s) i < 0∧(s.phase=2→s.at_ i < 0→qAt (zL p s) i=0)) (fun x _=>p.right.length - (intOf x).toNat)
            case atStart=>exact ⟨0,by omega,rfl,JR _ _,fun i hi=>absurd hi (by omega)⟩
            case round=>
             obtain ⟨k,hk,rfl,hb,ai⟩:=hrel;have L:=JZ ai;clear ai;have ah:=dv.out.below hb;obtain ⟨f1,f2,eb,f3,f4,f5,e1,e2,-,e4⟩:=ah.r;rcases JX k p.right.length with hkl | hkl
             ·have bg:(k:Int) < p.right.length:=(by omega);obtain ⟨f,hf⟩:=Yi (fs:=zL p s) (i:=k) (by rw [P.out];exact hkl);have HQ:Hid (qAt (zL p s) k=f.q):=JZ (Yt hf);obtain ⟨b5,o5,A5,n5,c5,A6,n6,c6,bq,-,⟨x0,x1,x2,x3⟩,d4⟩:=dw.out.frs.elem hb hf;subst bq;obtain ⟨W6,ec,d5,br⟩:=Y7 wr (.bool f.num.neg) (.slice A5 n5 c5) (.bool f.den.neg) (.slice A6 n6 c6);obtain ⟨u0,u1,u2,u3⟩:=d5.four;have cr:=d4.below br;have S:=Za hb br hb.size;have dy:qs f.q=0∨qs f.q=1∨qs f.q= -1:=(by have:=Vb f.q;omega);obtain ⟨bb,ob,z,bq,z0,u,-,-⟩:=cq.out.ints.at_ hkl;subst bq;have H:Hid (s.at_ k=z):=JZ (LSt.at_eq u);clear hf d4 hb d5 br u ah e1 e2 e4;go_wp2_with fail;clear ec;refine (Zz _ f _ cr).mono ?_;rintro _ w7 ⟨rfl,ad⟩;have a:=Za S ad S.size;have z1:=Zg a z0;have ct:=dx.out.later a;have y3:=ct.cellAt 3 rfl;have y4:=ct.cellAt 4 rfl;clear cr S ad x0 x1 x2 x3 u0 u1 u2 u3 z0;rcases dy with hq | hq | hq
              ·rw [hq];have a0:Hid (¬qAt (zL p s) k < 0∧(s.phase=2→s.at_ k < 0→qAt (zL p s) k=0)):=JZ (by rw [HQ.out,ZW.1 hq];exact ⟨by decide,fun _ _=>rfl⟩);clear hq;rcases bz.out with hp | hp
               ·have bn:(s.phase==2)=false:=(by simp;omega);clear hp;go_wp2;go_roundw
                case rel=>exact ⟨k+1,by omega,by go_num,a,fun i hi=>by
                 by_cases g:i=k
                 ·rw [g];exact a0.out
                 ·exact L.out i (by omega)⟩
                case measure=>simp [intOf];omega
               ·have bn:(s.phase==2)=true:=(by simpa using hp);by_cases am:z < 0
                ·clear hp;go_wp2;go_roundw
                 case rel=>exact ⟨k+1,by omega,by go_num,a,fun i hi=>by
                  by_cases g:i=k
                  ·rw [g];exact a0.out
                  ·exact L.out i (by omega)⟩
                 case measure=>simp [intOf];omega
                ·have dz:0≤z:=(by omega);clear am hp;go_wp2;go_roundw
                 case rel=>exact ⟨k+1,by omega,by go_num,a,fun i hi=>by
                  by_cases g:i=k
                  ·rw [g];exact a0.out
                  ·exact L.out i (by omega)⟩
                 case measure=>simp [intOf];omega
              ·rw [hq];have ac:0 < f.q:=Zat.1 (by omega);clear hq;rcases bz.out with hp | hp
               ·have a0:Hid (¬qAt (zL p s) k < 0∧(s.phase=2→s.at_ k < 0→qAt (zL p s) k=0)):=JZ (by rw [HQ.out];exact ⟨by grind,fun g=>by omega⟩);have bn:(s.phase==2)=false:=(by simp;omega);clear hp;clear ac;go_wp2;go_roundw
                case rel=>exact ⟨k+1,by omega,by go_num,a,fun i hi=>by
                 by_cases g:i=k
                 ·rw [g];exact a0.out
                 ·exact L.out i (by omega)⟩
                case measure=>simp [intOf];omega
               ·have bn:(s.phase==2)=true:=(by simpa using hp);by_cases am:z < 0
                ·have HV:Hid (vsErr p s=16):=JZ (by
                  by_cases dc:Zzq p s
                  ·exact Yfp G.out B.out I.out T.out a7.out dc ⟨hp,Zaz (k:=k) (by rw [H.out];exact am) (by rw [HQ.out];grind) (by rw [P.out];exact hkl)⟩
                  ·exact Yax G.out B.out I.out T.out a7.out dc)
                 clear hp ac;go_wp2;go_ret2;exact ⟨Za J a J.size,.inr (.inl ⟨D.out,by rw [HV.out];decide,by rw [HV.out];rfl⟩)⟩
                ·have a0:Hid (¬qAt (zL p s) k < 0∧(s.phase=2→s.at_ k < 0→qAt (zL p s) k=0)):=JZ (by rw [HQ.out,H.out];exact ⟨by grind,fun _ g=>absurd g am⟩);have dz:0≤z:=(by omega);clear am hp ac;go_wp2;go_roundw
                 case rel=>exact ⟨k+1,by omega,by go_num,a,fun i hi=>by
                  by_cases g:i=k
                  ·rw [g];exact a0.out
                  ·exact L.out i (by omega)⟩
                 case measure=>simp [intOf];omega
              ·rw [hq];have ac:f.q < 0:=Zei.1 (by omega);have HV:Hid (vsErr p s=16):=JZ (Yax G.out B.out I.out T.out a7.out fun g=>g k hkl (by rw [HQ.out];exact ac));clear hq ac;go_wp2;go_ret2;exact ⟨Za J a J.size,.inr (.inl ⟨D.out,by rw [HV.out];decide,by rw [HV.out];rfl⟩)⟩
             ·obtain rfl:k=p.right.length:=by omega
              have HV:Hid (vsErr p s=0):=JZ (Yfq G.out B.out I.out T.out a7.out (fun i hi=>(L.out i hi).1) fun g=>by
               have:=Zja (s:=s) (zs:=zL p s) (n:=(zL p s).length) fun i hi h=>(L.out i (by rw [← P.out];exact hi)).2 g.1 h
               rw [this] at g;exact absurd g.2 (by decide))
              clear e1 e2 e4 hkl hk hb;have eg:=Zb.up ah.bel hOl;go_wp2_with fail;refine (Zhb w e p s K _ ah HF.out).mono ?_;rintro _ w8 ⟨rfl,U⟩;clear ah;go_wp2;go_ret2;exact ⟨U.bel,.inr (.inr ⟨D.out,HV.out,e,rfl,U⟩)⟩
           ·have hv:vsErr p s=13:=Ydp G.out B.out I.out T.out (by
             cases hzo:zOk p s with
             | false=>rfl
             | true=>exact absurd (Zwf hzo) d9)
            have HV:=JZ hv;have d:=Za ab o ab.size;clear hO d9 hb o ab hv;go_wp2;go_ret2;exact ⟨d,.inr (.inl ⟨D.out,by rw [HV.out];decide,by rw [HV.out];rfl⟩)⟩
  ·have HV:=JZ (Yfm al);have bw:¬ar=p.right.length:=(by have:=bt.out;omega);clear al;go_wp2;go_ret2;exact ⟨M,.inr (.inl ⟨D.out,by rw [HV.out];decide,by rw [HV.out];rfl⟩)⟩
 ·have e0:=JZ hz;have ew:(lpErr p==0)=false:=by simpa using hz
  clear hz;go_wp2;go_ret2;exact ⟨a6,.inl ⟨e0.out,rfl⟩⟩
end
namespace Pl
def Zmh (p:LPd) (s:LSt) (k:Nat):Rat:=ZZ (fun i=>Vi p 2 (s.at_ i) * qAt (zL p s) i) k
theorem Zlz {p:LPd} {s:LSt} {k:Nat}:Zmh p s (k+1)=Zmh p s k+Vi p 2 (s.at_ k) * qAt (zL p s) k:=rfl
theorem Zzu {p:LPd} {s:LSt}:Zmh p s p.right.length=Yfs p 2 s:=rfl
theorem Yfw {p:LPd} {s:LSt} {K k:Nat} (F:p.Ft K) (hk:k≤7):Sz (14 * (5^p.right.length * K)+8) (Zmh p s k):=by
 have h1:K≤5^p.right.length * K:=F.1.le;have h2:Sz (1+k * (2 * (5^p.right.length * K)+1)) (Zmh p s k):=Zph fun i _=>(Wz (Zin F.1.ok F.1.k1 _ _) ((Yfe F.1 s).qAt (JW F.1.k1 h1) i)).mono (by omega)
 have h3:k * (2 * (5^p.right.length * K)+1)≤7 * (2 * (5^p.right.length * K)+1):=JS _ hk;exact h2.mono (by omega)
end Pl
theorem Zwt [Old] (e:Nat) (p:LPd) (s:LSt) (K:Nat) (w:World) (h:Zss w e p s K) (F:p.Ft K) (hrg:Zqj p s) (hOl:Zb w:=by (repeat (first | assumption | exact Zb.up (by assumption) hOl | exact Zb.up (Hid.out (by assumption)) hOl | with_reducible refine Zb.set ?_ _ _ | with_reducible refine Zb.mk_ ?_ _ | with_reducible refine Zb.dr ?_ | with_reducible refine Zb.drN ?_ | refine Zb.up (by assumption) ?_ | refine Zb.up (Hid.out (by assumption)) ?_))):
 Calls Tryz.prog 63 #[.pointer (some ⟨e,0,none⟩)] w fun o w'=>∃v',o= .returned v'∧Zt w' v' (canF (Yfs p 2 s))∧Below w.heap.size w w':=by
 have ao:=hOl.le;obtain ⟨Ab,cb,base,bi,gB,vz,hM,hI,-,hZ⟩:=id h;obtain ⟨A,n,c,A',n',c',ar,au,av,hE,g1,g2,g3⟩:=id hM;obtain ⟨m1,m2,m3⟩:=g1.len;obtain ⟨b1,b2,b3⟩:=hI.len;have a8:Hid (n=p.cols.length):=JZ (by rw [m1];exact F.1.cl);have a9:=JZ m1;have aa:=JZ hrg;have J:=Zod h.reg;have ab:=JZ J;obtain ⟨Az,cz,a2,aj,aw⟩:=hZ.shape;rw [J] at a2 aj;subst a2;have ap:p.right.length≤7:=F.2.1;have HF:=JZ F;have HJ:Hid (K≤5^p.right.length * K∧1≤K∧5^p.right.length * K≤4000000):=JZ ⟨F.1.le,F.1.k1,F.2.2⟩;have ac:=JZ (Yfe F.1 s);have ad:=JZ F.1.ok.1;have HE:=JZ hE;have HI:=JZ hI;have ae:=JZ hZ;have af:=JZ g1;obtain ⟨W0,ak,M,N⟩:=Y7 w (.bool false) (.slice none 0 0) (.bool false) (.slice none 0 0);clear h hM g1 g2 g3 m1 b1 J hrg hZ hI hE F;go_enter Tryz.func63,Tryz.ntmps63;go_wp2_with fail;clear ak;refine (Zfi 0 _ (by omega) (by omega)).mono ?_;rintro _ w1 ⟨v1,f1,rfl,e2,rfl,I⟩;rw [show canF ((0:Int):Rat)=canF (Zmh p s 0) from rfl] at e2;obtain ⟨B1,m1,d1,B2,m2,d2,rfl,_,_⟩:=id e2;obtain ⟨W3,al,a3,B⟩:=Y7 w1 (.bool (canF (Zmh p s 0)).num.neg) (.slice B1 m1 d1) (.bool (canF (Zmh p s 0)).den.neg) (.slice B2 m2 d2);have P:=(M.later I).later B;have g:=Za N I N.size;have j:=Za g B g.size;have e3:=e2.below B;have q4:=(HE.out.later j).cellAt 4 rfl;have ag:w.heap.size < w1.heap.size:=by have:=M.lt;have:=I.size;omega
 clear M e2 N I B g;go_wp2;clear al q4;have R:Zit W3 w1.heap.size (Zmh p s 0):=⟨_,_,_,_,_,_,a3,e3⟩;clear a3 e3;generalize w1.heap.size=gt at *
 go_loopw [12] (fun x wr=>∃k:Nat,k≤p.right.length∧x= .int .i64 k∧Below w.heap.size w wr∧Zit wr gt (Zmh p s k)∧Bk wr w.heap.size 48 [.bool false,.slice none 0 0,.bool false,.slice none 0 0]) (fun x _=>p.right.length - (intOf x).toNat)
 case atStart=>exact ⟨0,by omega,rfl,j,R,P⟩
 case round=>
  clear j R P;obtain ⟨k,hk,rfl,a,hT,hR⟩:=hrel;rcases JX k p.right.length with hkl | hkl
  ·have aq:(k:Int) < p.right.length:=(by omega);obtain ⟨bb,ob,z,hA,z0,O,z1,z2⟩:=HI.out.at_ hkl;subst hA;have z3:=Zg a z0;have b:=aa.out k hkl;rw [LSt.at_eq O] at b;have S:Hid (s.at_ k=z):=JZ (LSt.at_eq O);obtain ⟨r0,r1⟩:=b;have r2:z < n:=(by rw [a8.out];exact r1);clear r1 z0 O;rcases Int.lt_or_le z 0 with hz0 | hz0
   ·have hN:Zmh p s k=Zmh p s (k+1):=(by rw [Zlz,S.out,Zgs (by omega) (by omega)];grind);rw [hN] at hT;clear hN;go_wp2;go_roundw
    case rel=>exact ⟨k+1,by omega,by go_num,a,hT,hR⟩
    case measure=>simp [intOf];omega
   ·obtain ⟨jn,rfl⟩:=JT hz0;obtain ⟨fz,C⟩:=Yi (fs:=zL p s) (i:=k) (by rw [ab.out];exact hkl);obtain ⟨f,hf⟩:=Yi (fs:=p.cost) (i:=jn) (by rw [← a9.out];omega);have T:Hid (Zmh p s (k+1)=Zmh p s k+f.q * fz.q):=JZ (by
     rw [Zlz,S.out,Zgr hz0,show (jn:Int).toNat=jn from JP jn,Yt hf,Yt C])
    have L:=ad.out jn f hf;have b:=ac.out k fz C;have U:f.Sm:=L.sm (by have:=HJ.out;omega);have V:fz.Sm:=b.sm (by have:=HJ.out;omega);have X:(canF (f.q * fz.q)).Sm:=(Wz (L.sz HJ.out.2.1) (b.sz (by have:=HJ.out;omega))).rs.sm (by have:=HJ.out;omega);obtain ⟨b5,o5,A5,n5,c5,A6,n6,c6,am,_,⟨x0,x1,x2,x3⟩,a4⟩:=ae.out.elem a C;subst am;obtain ⟨b7,o7,A7,n7,c7,A8,n8,c8,an,_,⟨u0,u1,u2,u3⟩,a5⟩:=af.out.elem a hf;subst an;have q0:=(HE.out.later a).cellAt 0 rfl;have q7:=(HE.out.later a).cellAt 7 rfl;obtain ⟨A3,n3,c3,A4,n4,c4,d,u⟩:=hT;obtain ⟨t0,t1,t2,t3⟩:=d.four;obtain ⟨rr,D⟩:∃rr,rr=Zmh p s k:=⟨_,rfl⟩;have Y:(canF rr).Sm:=(by rw [D];exact (Yfw HF.out (by omega)).rs.sm (by have:=HJ.out;omega));have Z:=JZ D;rw [← D] at t0 t2 u d;clear D hf C L b
    go_upto_region 6 with (fail)
    have C0:=Zm t0;have C1:=Zm t1;have C2:=Zm t2;have C3:=Zm t3;have D0:=Zm q0;have D1:=Zm q7;have E0:=Zm x0;have E1:=Zm x1;have E2:=Zm x2;have E3:=Zm x3;have G0:=Zm u0;have G1:=Zm u1;have G2:=Zm u2;have G3:=Zm u3;have l:=Zf wr;clear t0 t1 t2 t3 q0 q7 x0 x1 x2 x3 u0 u1 u2 u3 z3;refine Zp 18 [0,1,2,3,4,5,6,7,8,9,10,11,12,13,14,15,16,17,18] (by kernel_rfl) (by kernel_rfl) ?_;repeat ((first | (refine Zd (v:=?_) rfl rfl rfl ?_ ?_;rotate_left;(· (intro _ y;go_simp;(try go_bits);(try with_reducible rfl)))) | (refine Zj (v:=?_) rfl rfl rfl ?_ ?_;rotate_left;(· (intro _ y;go_simp;(try go_bits);(try with_reducible rfl)))) | refine Zk rfl rfl rfl ?_);(try simp only [Act.put,pu1,pu2,pu3,pu4,pu5,pu6]))
    refine Zh rfl rfl (fun KR hKR=>?_);go_simp;(with_reducible refine (Wj _ _ f fz _ (a5.below l) (a4.below l) U V).mono ?_);rintro _ w6 ⟨v6,rfl,e6,a6⟩;have m:=Za l a6 l.size;refine hKR.out _ _ (Or.inr m) ?_;clear hKR KR;(try simp only [Act.put,pu1,pu2,pu3,pu4,pu5,pu6]);repeat ((first | (refine Zd (v:=?_) rfl rfl rfl ?_ ?_;rotate_left;(· (intro _ y;go_simp;(try go_bits);(try with_reducible rfl)))) | (refine Zj (v:=?_) rfl rfl rfl ?_ ?_;rotate_left;(· (intro _ y;go_simp;(try go_bits);(try with_reducible rfl)))) | refine Zk rfl rfl rfl ?_);(try simp only [Act.put,pu1,pu2,pu3,pu4,pu5,pu6]))
    refine Zh rfl rfl (fun KR hKR=>?_);go_simp;(with_reducible refine (Zdb _ _ (canF rr) (canF (f.q * fz.q)) _ (u.below m) e6 Y X).mono ?_);rw [Zu,Zu];rintro _ w7 ⟨v7,rfl,e7,a7⟩;have r:=Za m a7 m.size;obtain ⟨B9,l9,k9,E,G,H,rfl,_,_⟩:=id e7;have t:=d.later r;obtain ⟨c0,c1,c2,c3⟩:=t.four;obtain ⟨f0,f1,f2,f3⟩:=t.fourF;refine hKR.out _ _ (Or.inr r) ?_;clear hKR KR;(try simp only [Act.put,pu1,pu2,pu3,pu4,pu5,pu6]);repeat ((first | (refine Zd (v:=?_) rfl rfl rfl ?_ ?_;rotate_left;(· (intro _ y;go_simp;(try go_bits);(try with_reducible rfl)))) | (refine Zj (v:=?_) rfl rfl rfl ?_ ?_;rotate_left;(· (intro _ y;go_simp;(try go_bits);(try with_reducible rfl)))) | refine Zk rfl rfl rfl ?_);(try simp only [Act.put,pu1,pu2,pu3,pu4,pu5,pu6]))
    refine Zh rfl rfl (fun KR hKR=>?_);go_simp;refine hKR.out _ _ (Or.inl (by decide)) ?_;clear hKR KR;(try simp only [Act.put,pu1,pu2,pu3,pu4,pu5,pu6]);refine Zx ?_;clear C0 C1 C2 C3 D0 D1 E0 E1 E2 E3 G0 G1 G2 G3;have a0:=t.but4 (.bool (canF (rr+f.q * fz.q)).num.neg) (.slice B9 l9 k9) (.bool (canF (rr+f.q * fz.q)).den.neg) (.slice E G H);have ah:=(hR.later r).far4 (g':=gt) (by omega) (.bool (canF (rr+f.q * fz.q)).num.neg) (.slice B9 l9 k9) (.bool (canF (rr+f.q * fz.q)).den.neg) (.slice E G H);have a1:=ZE (Za a r a.size) (Nat.le_of_lt ag) (.bool (canF (rr+f.q * fz.q)).num.neg) (.slice B9 l9 k9) (.bool (canF (rr+f.q * fz.q)).den.neg) (.slice E G H);have ai:Zit _ gt (Zmh p s (k+1)):=⟨B9,l9,k9,E,G,H,by rw [T.out,← Z.out];exact t.set4 _ _ _ _,by rw [T.out,← Z.out];exact e7.keep (a0.keep (by decide))⟩;clear t hR a l m r e6 e7 a6 a7 c0 c1 c2 c3 f0 f1 f2 f3 a4 a5 u a0 Y V U X d;go_wp2;go_roundw
    case rel=>exact ⟨k+1,by omega,by go_num,a1,ai,ah⟩
    case measure=>simp [intOf];omega
  ·obtain rfl:k=p.right.length:=by omega
   rw [Zzu] at hT;obtain ⟨A6,n6,c6,A7,n7,c7,d,u⟩:=hT;obtain ⟨t0,t1,t2,t3⟩:=d.four;obtain ⟨c0,c1,c2,c3⟩:=hR.four;obtain ⟨f0,f1,f2,f3⟩:=hR.fourF;go_wp2;refine Zq Tryz.results63 Tryz.underlying48 (by kernel_rfl) rfl (hR.set4 _ _ _ _) rfl ?_;exact Yr hR u a (JY _)
end Go.Proofs.YtncmobkhenfhpaaGreat
