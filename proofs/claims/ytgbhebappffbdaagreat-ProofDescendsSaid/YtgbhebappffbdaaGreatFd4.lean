/- Lemmas of the claim; no condition. -/
import Derived.Test.YtgbhebappffbdaaGreatFd3
set_option linter.all false
set_option maxRecDepth 100000
set_option maxHeartbeats 40000000
namespace Go.Proofs.YtgbhebappffbdaaGreat
open Go.RowKit
open Pl
attribute [local go_sem ↓] Go.wp_at_zero Go.wp_at_succ
namespace Pl
theorem Xr.uniq {n:Nat} {cols:Mx} {x y b:Nat→Rat} (hi:Xr n cols) (hx:∀r,r < n→Xz n cols x r=b r) (hy:∀r,r < n→Xz n cols y r=b r):∀k,k < n→x k=y k:=by
 obtain ⟨z,hz,h1⟩:=Zjq hi hx;obtain ⟨z',a,h2⟩:=Zjq hi hy;rw [hz] at a;injection a with e;subst e;exact fun k hk=>by rw [← h1 k hk,h2 k hk]
end Pl
section
section
variable {base bi:Nat} {w w':World} {v:Value} {T n:Nat} {k:Nat→Nat} {im:Mx}
theorem Zpa.farF (h:Zpa base bi w v T n k im) {g:Nat} (ho:ZW (some g) w w') (hk:Ze 46 w w') (hg:g < bi):Zpa base bi w' v T n k im:=by
 obtain ⟨cs,g1,g2⟩:=h;exact ⟨cs,hk.own g1 (by decide),fun t ht=>by
  obtain ⟨u,e1,e2,e3⟩:=g2 t ht;exact ⟨u,e1,e2,e3.others ho (hk.keep (by decide)) fun b hb e=>by
   have:=e3.own_ge b hb;injection e with e;omega⟩⟩
end
section
variable {base bi g n K:Nat} {w w':World} {Cs:Mx}
theorem Zna.farF (h:Zna base bi w g n K Cs) {b:Nat} (ho:ZW (some b) w w') (hk:Ze 46 w w') (hb:b < bi):Zna base bi w' g n K Cs:=by
 obtain ⟨T,gc,cc,k,R,C,im,V,L,Um,CC,s0,s1,s2,s3,vu,h1,h2,h3,h4,h5,h6,h7,h8,h9,a⟩:=h;exact ⟨T,gc,cc,k,R,C,im,V,L,Um,CC,s0,s1,s2,s3,vu,hk.bk h1 (by decide),h2,h3,h4,h5.but hk (by decide) (by decide) (by decide),h6.but hk (by decide),h7.but hk (by decide),h8.but hk (by decide) (by decide) (by decide),h9.but hk (by decide) (by decide) (by decide),a.farF ho hk hb⟩
theorem ZN.ge {base:Nat} {w:World} {v:Value} {zs:List Int} (h:ZN base w v zs):∀b,v.ownBlock=some b→base≤b:=by
 intro b hb;rcases h.1.2 with ⟨rfl,_⟩ | ⟨g',cap,cur,rfl,hb',_⟩
 ·simp [Value.ownBlock] at hb
 ·simp [Value.ownBlock] at hb;omega
theorem Zna.farI (h:Zna base bi w g n K Cs) {b:Nat} (ho:ZW (some b) w w') (hk:Ze 3 w w') (hb:b < base):Zna base bi w' g n K Cs:=by
 obtain ⟨T,gc,cc,k,R,C,im,V,L,Um,CC,s0,s1,s2,s3,vu,h1,h2,h3,h4,h5,h6,h7,h8,h9,a⟩:=h;exact ⟨T,gc,cc,k,R,C,im,V,L,Um,CC,s0,s1,s2,s3,vu,hk.bk h1 (by decide),h2,h3,h4,h5.but hk (by decide) (by decide) (by decide),h6.others ho (fun x hx e=>by have:=h6.ge x hx;injection e with e;omega),h7.others ho (fun x hx e=>by have:=h7.ge x hx;injection e with e;omega),h8.but hk (by decide) (by decide) (by decide),h9.but hk (by decide) (by decide) (by decide),a.but hk (by decide) (by decide) (by decide)⟩
end
end
def Keep3 (w w':World):Prop:=∀(b:Nat) (cs:Array Value) (t:TypeId) (fz:Nat × Nat),t≠163→t≠66→t≠166→w.heap[b]? =some (.cells cs t fz)→w'.heap[b]? =some (.cells cs t fz)
theorem Keep3.trans {a b c:World} (h:Keep3 a b) (k:Keep3 b c):Keep3 a c:=fun x cs t fz h1 h2 h3 hx=>k x cs t fz h1 h2 h3 (h x cs t fz h1 h2 h3 hx)
theorem Keep3.of_below {w w':World} (hb:Below w.heap.size w w'):Keep3 w w':=fun b _ _ _ _ _ _ h=>(hb.block b (Yw h)).trans h
theorem Keep3.of_but {e:TypeId} {w w':World} (hk:Ze e w w') (he:e=163∨e=66∨e=166):Keep3 w w':=fun b cs t fz h1 h2 h3 h=>hk b cs t fz (by rcases he with rfl | rfl | rfl <;> assumption) h
theorem Keep3.bk {w w':World} {g:Nat} {t:TypeId} {cs:List Value} (h:Keep3 w w') (hb:Bk w g t cs) (h1:t≠163) (h2:t≠66) (h3:t≠166):Bk w' g t cs:=h g _ t _ h1 h2 h3 hb
theorem Keep3.own {w w':World} {base:Nat} {t:TypeId} {s n:Nat} {v:Value} {xs:List Value} (h:Keep3 w w') (ho:w.ownsRow base t s v n xs) (h1:t≠163) (h2:t≠66) (h3:t≠166):w'.ownsRow base t s v n xs:=by
 refine ⟨ho.1,?_⟩;rcases ho.2 with hn | ⟨b,cap,cur,rfl,hb,hg,rest⟩
 ·exact .inl hn
 ·exact .inr ⟨b,cap,cur,rfl,hb,h b _ t _ h1 h2 h3 hg,rest⟩
theorem Keep3.keep {w w':World} (h:Keep3 w w'):ZF w w':=fun b cs fz hb=>h b cs _ fz (by decide) (by decide) (by decide) hb
theorem Keep3.frs {w w':World} {base:Nat} {v:Value} {fs:List RF} (h:Keep3 w w') (ho:Z4 base w v fs):Z4 base w' v fs:=by
 obtain ⟨cs,g1,g2⟩:=ho;exact ⟨cs,h.own g1 (by decide) (by decide) (by decide),g2.keep h.keep⟩
theorem Keep3.ints {w w':World} {base:Nat} {v:Value} {zs:List Int} (h:Keep3 w w') (ho:ZN base w v zs):ZN base w' v zs:=⟨h.own ho.1 (by decide) (by decide) (by decide),ho.2⟩
theorem Ym.ge {base:Nat} {w:World} {v:Value} {cols:List (List En)} (h:Ym base w v cols):∀b,v.ownBlock=some b→base≤b:=by
 intro b hb;obtain ⟨cs,h1,_⟩:=h;rcases h1.2 with ⟨rfl,_⟩ | ⟨g',cap,cur,rfl,hb',_⟩
 ·simp [Value.ownBlock] at hb
 ·simp [Value.ownBlock] at hb;omega
namespace Pl
theorem vcL_rep {n k:Nat} {Cs:Mx} {f:Nat→Rat} (hk:k < n):(vcL n Cs).set k (spV f n)=vcL n (Zjr Cs k f):=by
 refine List.ext_getElem? fun i=>?_
 rcases JX i n with e | e
 ·rw [Zdz e,List.getElem?_set];by_cases g:k=i
  ·subst g;rw [if_pos rfl,Zbg,if_pos hk]
   congr 1
   exact Wm fun r _=>by unfold Zjr;rw [if_pos rfl]
  ·rw [if_neg g,Zdz e]
   congr 1
   exact Wm fun r _=>by unfold Zjr;rw [if_neg fun h=>g h.symm]
 ·rw [JU (by rw [List.length_set,Zbg];exact e),JU (by rw [Zbg];exact e)]
end Pl
theorem info_upd:(Tryz.prog.info? 166).map (fun i=>(i.zero,i.size,i.bytes))=some (some (.agg #[.int .i64 0,.slice none 0 0]),2,32):=by kernel_rfl
theorem wpList_append_upd {ops:Array Oper} {rest:List Oper} {o:Oper} {a:Act} {Q:Exit→Act→World→Prop} (hgd:o.guard=none) (s x:Operand)
 (ho:o.op= .call { callee:= .builtin .append,args:=#[s,x],argTypes:=#[161,161] })
 (W:World) (base bi:Nat) (v:Value) (T n q:Nat) (k:Nat→Nat) (im:Mx) (y:Nat→Rat) (hs:a.eval s=v) (hown:Zpa base bi W v T n k im) (A:Option Addr) (l c:Nat) (hf:Z4 bi W (.slice A l c) (Yj n y))
 (hx:a.eval x= .slice (some ⟨W.heap.size,0,none⟩) 1 1) (hn:T+1≤1099511627776) (hbase:base≤W.heap.size)
 (h:∀v' w',Zpa base bi w' v' (T+1) n (WY k T q) (WY im T y)→Ze 166 W w'→Below base W w'→wpList Tryz.prog ops Q rest (a.put o.dst v') w'):
 wpList Tryz.prog ops Q (o::rest) a (W.alloc (.cells #[.int .i64 (q:Int),.slice A l c] 166)):=by
 obtain ⟨cs,h1,h2⟩:=hown;obtain ⟨i0,hi,b,d,f⟩:=info_parts info_upd;have hl:cs.length=T * 2:=h1.1;refine Zba hgd s x 161 ho 166 i0 _ 2 32 Tryz.underlying161 hi b d f rfl (by decide) W base v T cs [.int .i64 (q:Int),.slice A l c] hs h1 hx rfl (by intro u hu;simp at hu;rcases hu with rfl | rfl <;> rfl) (by unfold maxLen;omega) (by omega) hbase fun v' w' g1 g2 g3=>h v' w' ⟨_,g1,fun t ht=>?_⟩ g2 g3
 by_cases e:t=T
 ·subst e;refine ⟨.slice A l c,?_,?_,?_⟩
  ·rw [Yd,List.getElem?_append_right (by omega),hl,Nat.sub_self];rfl
  ·rw [List.getElem?_append_right (by omega),hl,show t * 2+1 - t * 2=1 by omega];rfl
  ·rw [Yd];exact hf.but g2 (by decide) (by decide)
 ·obtain ⟨u,e1,e2,e3⟩:=h2 t (by omega);refine ⟨u,?_,?_,?_⟩
  ·rw [Yv (by omega),List.getElem?_append_left (by omega)];exact e1
  ·rw [List.getElem?_append_left (by omega)];exact e2
  ·rw [Yv (by omega)];exact e3.but g2 (by decide) (by decide)
theorem refresh_own (base bi g n K T gc cc:Nat) (Cs:Mx) (s0 s1 s2 s3:Value) (Au:Option Addr) (cu:Nat) (w:World) (hX:Bk w g 163 [.int .i64 (n:Int),.slice (some ⟨gc,0,none⟩) n cc,s0,s1,s2,s3,.slice Au T cu]) (hge:base≤g) (hO:Ym base w (.slice (some ⟨gc,0,none⟩) n cc) (vcL n Cs)) (hT:1≤T) (hT2:T≤17) (hn:n≤7) (hK:1≤K) (hE:5^n * K≤4000000)
 (hs:∀r c,r < n→c < n→Sz K (Cs c r)) (hi:Xr n Cs) (hbase:base≤w.heap.size):
 Calls Tryz.prog 143 #[.pointer (some ⟨g,0,none⟩)] w fun o w'=>o= .returned (.tuple #[])∧Zna base bi w' g n K Cs∧Below base w w'∧Keep3 w w':=by
 have y1:=hX.cellAt 1 rfl;have y6:=hX.cellAt 6 rfl;have HX:=JZ hX;have HO:=JZ hO;have HS:=JZ hs;have HI:=JZ hi;have HK:=JZ hK;have HE:=JZ hE;have f:gc < w.heap.size:=by
  obtain ⟨cs,h1,_⟩:=hO;exact Uy h1 gc rfl
 clear hX hO hs hi hK hE;go_enter Tryz.func143,Tryz.ntmps143;go_wp2_with fail;clear y1 y6;refine (Zhx _ n K Cs _ HO.out.vecs hn HK.out HE.out HS.out).mono ?_;rintro _ w1 ⟨e,⟨R,C,L,Um,z0,z1,z2,z3,rfl,hF,h0,h1,h2,h3⟩ | ⟨rfl,k⟩⟩
 ·have HF:=JZ hF;obtain ⟨A0,c0,rfl⟩:=h0.nshape;obtain ⟨A1,c1,rfl⟩:=h1.nshape;obtain ⟨A2,c2,rfl⟩:=h2.nshape;obtain ⟨A3,c3,rfl⟩:=h3.nshape;obtain ⟨W2,j,hY,b⟩:∃W2,w1.alloc (.cells #[.slice A0 n c0,.slice A1 n c1,.slice A2 n c2,.slice A3 n c3] 158)=W2∧Bk W2 w1.heap.size 158 [.slice A0 n c0,.slice A1 n c1,.slice A2 n c2,.slice A3 n c3]∧Below w1.heap.size w1 W2:=⟨_,rfl,Bk.new w1 _ _,Zb w1 _⟩;obtain ⟨x0,x1,x2,x3⟩:=hY.four;have d:=Za e b e.size;have a:=HX.out.later d;have e0:=h0.below b;have e1:=h1.below b;have e2:=h2.below b;have e3:=h3.below b;have h:=HO.out.below d;have q2:=a.cellAt 2 rfl;have q3:=a.cellAt 3 rfl;have q4:=a.cellAt 4 rfl;have q5:=a.cellAt 5 rfl;have q6:=a.cellAt 6 rfl;have r2:=a.frozen 2;have r3:=a.frozen 3;have r4:=a.frozen 4;have r5:=a.frozen 5;have r6:=a.frozen 6;clear hF h0 h1 h2 h3 hY e b;go_wp2;clear j x0 x1 x2 x3 q2 q3 q4 q5 q6 r2 r3 r4 r5 r6;have b2:=a.set_ 2 (.slice A0 n c0);have b3:=b2.set_ 3 (.slice A1 n c1);have b4:=b3.set_ 4 (.slice A2 n c2);have b5:=b4.set_ 5 (.slice A3 n c3);have b6:=b5.set_ 6 (.slice none 0 0);have kk:=(((Ze.setCell a 2 (.slice A0 n c0)).trans (Ze.setCell b2 3 (.slice A1 n c1))).trans (Ze.setCell b3 4 (.slice A2 n c2))).trans ((Ze.setCell b4 5 (.slice A3 n c3)).trans (Ze.setCell b5 6 (.slice none 0 0)));have i:=(((((d.mono hbase).setCell (p:=⟨g,2,none⟩) hge (.slice A0 n c0)).setCell (p:=⟨g,3,none⟩) hge (.slice A1 n c1)).setCell (p:=⟨g,4,none⟩) hge (.slice A2 n c2)).setCell (p:=⟨g,5,none⟩) hge (.slice A3 n c3)).setCell (p:=⟨g,6,none⟩) hge (.slice none 0 0)
  go_end0
  exact ⟨rfl,⟨0,gc,cc,fun _=>0,R,C,fun _ _=>0,fun _ _=>0,L,Um,fun _=>Cs,_,_,_,_,_,b6,⟨hge,by omega,HE.out,rfl⟩,Ups.zero HS.out HI.out _ _ _,HF.out,h.but kk (by decide) (by decide) (by decide),(e0.but kk (by decide)).monoB hbase,(e1.but kk (by decide)).monoB hbase,(e2.but kk (by decide) (by decide) (by decide)).monoB f,(e3.but kk (by decide) (by decide) (by decide)).monoB f,Zpa.nil _ _ _ _ _ _⟩,i,(Keep3.of_below d).trans (Keep3.of_but kk (.inl rfl))⟩
 ·exact absurd HI.out k
theorem replace_own (base bi g n K:Nat) (Cs:Mx) (v:Value) (es:List En) (k:Nat) (x:Nat→Rat) (w:World) (hB:Zna base bi w g n K Cs) (h:Vf w v es) (hgo:Pl.Good n es) (hrs:∀(k:Nat) (e:En),es[k]? =some e→e.f.Rs K) (hk:k < n)
 (hx:∀r,r < n→Xz n Cs x r=Wl es r) (hx0:x k≠0) (hbase:base≤w.heap.size) (hbi:bi≤w.heap.size):
 Calls Tryz.prog 104 #[.pointer (some ⟨g,0,none⟩),.int .i64 (k:Int),v] w fun o w'=>o= .returned (.int .i64 0)∧Zna base bi w' g n K (Zjr Cs k (Wl es))∧Below base w w'∧Keep3 w w':=by
 have HB:=JZ hB;obtain ⟨T,gc,cc,ks,R,C,im,V,L,Um,CC,s0,s1,s2,s3,vu,hX,⟨a6,hT,hE,a7⟩,hU,hF,hO,i0,i1,v2,v3,a8⟩:=hB;obtain ⟨Au,cu,rfl,c0,c3⟩:=a8.shape;have b9:=hF.n7;have y0:=hX.cellAt 0 rfl;have X:Hid (1≤K):=JZ (Nat.pos_of_ne_zero fun e=>by have:=hF.e1;subst e;simp at this);have HE:Hid (5^n * K≤4000000):=JZ hE;have ad:Hid (K≤4000000):=JZ (JW (Nat.le_mul_of_pos_left K (Nat.pow_pos (by decide))) hE);have ae:Hid (Xr n Cs):=JZ (by rw [← a7];exact hU.indep T (JY _));have ba:Hid (Zqv es=spV (Wl es) n):=JZ (cpyV_spV hgo);have bb:Hid (es.length≤1099511627776):=JZ (by
  have e1:(Zqv es).length=es.length:=by simp [Zqv]
  rw [cpyV_spV hgo] at e1;have:=WR (f:=Wl es) n;omega)
 have HU:=JZ hU;have HF:=JZ hF;have af:=JZ a7;have G:=JZ hrs;have bc:=JZ hgo;have bd:=JZ hx;have be:=JZ hx0;have HO:=JZ hO;have HX:=JZ hX;have bf:=JZ i0;have bg:=JZ i1;have ag:=JZ v2;have ah:=JZ v3;have bh:=JZ a8;have ce:(k:Int) < n:=by omega
 obtain ⟨Av,nv,cv,rfl⟩:∃A n c,v= .slice A n c:=by obtain ⟨A,c,e,_⟩:=h.shape;exact ⟨A,_,c,e⟩
 have hv:=h;clear hX hU hF a7 hE hO i0 i1 v2 v3 a8 hrs hgo hx hx0 h;go_enter Tryz.func104,Tryz.ntmps104;go_wp2_with fail;refine (Wo _ es n K _ hv (by omega) G.out (by have:=ad.out;omega) bc.out).mono ?_;rintro _ w1 ⟨v1,rfl,e1,m⟩;obtain ⟨A1,c1,rfl⟩:=e1.slice;clear y0;have ai:=hv.below m;clear hv;go_wp2_with fail;refine (Zrm base bi g n K Cs _ (Wl es) _ (HB.out.below m) e1.frs (fun i _=>Sz_col G.out X.out i)).mono ?_;rintro _ w2 ⟨v2,x',rfl,aa,bw,e2,ab⟩;have aj:Hid (x' k≠0):=JZ (by rw [ae.out.uniq aa bd.out k hk];exact be.out);have bj:=JZ aa;have s:=Za m ab m.size;have hv:=ai.below ab;obtain ⟨g2,c2,b3,c4,c5,b4,c9⟩:=e2.shape (by rw [Zm];omega);rw [Zm] at b3 b4;subst b3;obtain ⟨bz,oz,A6,n6,c6,A7,n7,c7,hA,_,⟨t0,t1,t2,t3⟩,b5⟩:=e2.frs.elem (JR _ _) (ZK hk);injection hA with hA;injection hA with hA1 hA2;subst hA1;subst hA2;simp only [Nat.zero_add] at t0 t1 t2 t3;have bl:(qs (x' k)==0)=false:=by
  have:=aj.out;simpa using fun e=>this (Yp.1 e)
 have bx:=m.size;clear e1 ai aa bw m;have bm:=JZ e2;clear e2;go_wp2_with fail;refine (Zx _ (canF (x' k)) _ b5).mono ?_;rw [Zu];rintro _ w3 ⟨rfl,M⟩;have d:=Za s M s.size;have bn:=JZ (bm.out.below M);have ak:=hv.below M;have Y:=HX.out.later d;have al:=HO.out.below d;have y1:=Y.cellAt 1 rfl;clear t0 t1 t2 t3 b5 hv s ab M;have hv:=ak;have hO:=al
 go_upto_region 9 with (fail)
 clear bl;have Y1:=Zp y1;have H:=Zj w3;clear y1;refine Zq 8 [0,1,2,3,4,5,6,7,8] (by kernel_rfl) (by kernel_rfl) ?_;repeat ((first | (refine Zc (v:=?_) rfl rfl rfl ?_ ?_;rotate_left;(· (intro _ ac;go_simp;(try go_bits);(try with_reducible rfl)))) | (refine Zg (v:=?_) rfl rfl rfl ?_ ?_;rotate_left;(· (intro _ ac;go_simp;(try go_bits);(try with_reducible rfl)))) | refine Zh rfl rfl rfl ?_);(try simp only [Act.put,pu1,pu2,pu3,pu4,pu5,pu6]))
 refine Zd rfl rfl (fun KR hKR=>?_);go_simp;with_reducible refine (Zfd _ es K _ (hv.below H) G.out (by have:=ad.out;omega) bb.out).mono ?_
 rw [ba.out];rintro _ w6 ⟨v6,rfl,e6,b6⟩;have l:=Za H b6 H.size;obtain ⟨A6,n6,c6,rfl⟩:∃A n c,v6= .slice A n c:=by obtain ⟨A,c,e,_⟩:=e6.vec.shape;exact ⟨A,_,c,e⟩
 have Z:=hO.below l;obtain ⟨_,m0,m1,-⟩:=Z.at_ (Zdz (L:=Cs) hk);refine hKR.out _ _ (Or.inr l) ?_;clear hKR KR;(try simp only [Act.put,pu1,pu2,pu3,pu4,pu5,pu6]);repeat ((first | (refine Zc (v:=?_) rfl rfl rfl ?_ ?_;rotate_left;(· (intro _ ac;go_simp;(try go_bits);(try with_reducible rfl)))) | (refine Zg (v:=?_) rfl rfl rfl ?_ ?_;rotate_left;(· (intro _ ac;go_simp;(try go_bits);(try with_reducible rfl)))) | refine Zh rfl rfl rfl ?_);(try simp only [Act.put,pu1,pu2,pu3,pu4,pu5,pu6]))
 refine Zd rfl rfl (fun KR hKR=>?_);go_simp;refine hKR.out _ _ (Or.inl (by decide)) ?_;clear hKR KR;(try simp only [Act.put,pu1,pu2,pu3,pu4,pu5,pu6]);refine Zz ?_;clear Y1;obtain ⟨a9,k7⟩:=Z.set_ (k:=k) (by rw [Zbg];exact hk) e6.vec;rw [vcL_rep hk] at a9;have a:=Za d l d.size;have a0:=ZW.of_set (g:=gc) (i:=k) (v:= .slice A6 n6 c6) (w:=w6);have I:=k7.bk (Y.later l) (by decide);have am:=(bf.out.below a).but k7 (by decide);have an:=(bg.out.below a).but k7 (by decide);have ao:=(ag.out.below a).others a0 k7 (fun b hb e=>by have:=ag.out.ge b hb;injection e with e;omega);have ap:=(ah.out.below a).others a0 k7 (fun b hb e=>by have:=ah.out.ge b hb;injection e with e;omega);have N:=(bh.out.below a).but k7 (by decide) (by decide) (by decide);have e7:=((bn.out.below l).but k7 (by decide) (by decide)).monoB (show bi≤w1.heap.size by omega);have t:=(a.mono hbase).setCell (p:=⟨gc,k,none⟩) HO.out.base (.slice A6 n6 c6);have aq:=(Keep3.of_below a).trans (Keep3.of_but k7 (.inr (.inl rfl)));generalize w6.setCell ⟨gc,k,none⟩ (.slice A6 n6 c6)=W7 at *;have ar:=t.size;clear hv ak hO al Z Y d H l b6 e6 a a0 k7 m0 m1;obtain ⟨y6,bv⟩:W7.cell? ⟨g,6,none⟩=some (.slice Au T cu)∧W7.frozen? ⟨g,6,none⟩=false:=⟨I.cellAt 6 rfl,I.frozen 6⟩;have au:=JW hbase ar;go_wp2_with (at_builtin;refine wpList_append_upd rfl (.tmp 53) (.tmp 57) rfl W7 base bi (.slice Au T cu) T n k ks im x' rfl N _ _ _ e7 rfl (by omega) au ?_);intro v8 W8 F k8 b8;obtain ⟨A8,c8,rfl,ca,cb⟩:=F.shape;have u:=k8.bk I (by decide);have av:=a9.but k8 (by decide) (by decide) (by decide);have aw:=am.but k8 (by decide);have ax:=an.but k8 (by decide);have ay:=ao.but k8 (by decide) (by decide) (by decide);have az:=ap.but k8 (by decide) (by decide) (by decide);have b0:=aq.trans (Keep3.of_but k8 (.inr (.inr rfl)));have O:=t.trans b8;have k9:=Ze.setCell u 6 (.slice A8 (T+1) c8);have y:=u.set_ 6 (.slice A8 (T+1) c8);have J:=av.but k9 (by decide) (by decide) (by decide);have a1:=aw.but k9 (by decide);have a2:=ax.but k9 (by decide);have a3:=ay.but k9 (by decide) (by decide) (by decide);have a4:=az.but k9 (by decide) (by decide) (by decide);have z:=F.but k9 (by decide) (by decide) (by decide);have a5:=b0.trans (Keep3.of_but k9 (.inl rfl));have j:=O.setCell (p:=⟨g,6,none⟩) a6 (.slice A8 (T+1) c8);have q6:=u.cellAt 6 rfl;have bo:=u.frozen 6;clear y6 bv I a9 am an ao ap N e7 t aq k8 b8 u av aw ax ay az F b0 O k9
 go_upto_region 11 with (fail)
 clear q6 bo;generalize W8.setCell ⟨g,6,none⟩ (.slice A8 (T+1) c8)=W9 at *;have B:=HU.out.snoc (q:=k) (v:=Wl es) (x:=x') hk (fun r hr=>by rw [af.out];exact bj.out r hr) aj.out (fun r _=>Sz_col G.out X.out r);have D:WY CC (T+1) (Zjr (CC T) k (Wl es)) (T+1)=Zjr Cs k (Wl es):=by rw [Yd,af.out]
 have b1:base≤W9.heap.size:=JW hbase j.size;have p6:=y.cellAt 6 rfl;by_cases cd:T=16
 ·have P:Xr n (Zjr Cs k (Wl es)):=by rw [← D];exact B.indep (T+1) (JY _)
  have S:∀r c,r < n→c < n→Sz K (Zjr Cs k (Wl es) c r):=by rw [← D];exact B.sz (T+1) (JY _)
  have bp:=JZ y;have bq:=JZ P;have br:=JZ S;have bs:=JZ J;have b2:16 < (T:Int)+1:=by omega
  clear y P S J a1 a2 a3 a4 z B D;go_wp2_with fail;clear p6;refine (refresh_own base bi g n K (T+1) gc cc (Zjr Cs k (Wl es)) s0 s1 s2 s3 A8 c8 _ bp.out a6 bs.out (by omega) (by omega) b9 X.out HE.out br.out bq.out b1).mono ?_;rintro _ cf ⟨rfl,b7,E,U⟩;have a:=j.trans E;have bt:=a5.trans U;clear j E a5 U;go_wp2;go_ret;exact ⟨rfl,b7,a,bt⟩
 ·have b2:¬16 < (T:Int)+1:=by omega
  have bu:Zna base bi W9 g n K (Zjr Cs k (Wl es)):=⟨T+1,gc,cc,_,R,C,_,_,L,Um,_,_,_,_,_,_,y,⟨a6,by omega,HE.out,D⟩,B,by rw [Yv (by omega)];exact HF.out,J,a1,a2,a3,a4,z⟩;clear y J a1 a2 a3 a4 z B D;go_wp2;go_ret;exact ⟨rfl,bu,j,a5⟩
theorem leaving_any (e:Nat) (p:LPd) (s:LSt) (K:Nat) (vd:Value) (D:List RF) (w:World) (h:Zvw w e p s K) (hd:Xh w vd D) (hdl:D.length=p.right.length) (hdb:RsL (5^p.right.length * K) D) (S:s.Fit p) (F:p.Ft K):
 Calls Tryz.prog 103 #[.pointer (some ⟨e,0,none⟩),vd] w fun o w'=>o= .returned (.int .i64 (oi (Zeh p s (zL p s) D)))∧Below w.heap.size w w':=by
 have HH:=JZ h;have HR:=JZ h.reg;obtain ⟨Ab,cb,base,bi,gB,vz,h1,h2,h3,h4⟩:=h;obtain ⟨y3,y4,-,-,y7⟩:=h1.cells;obtain ⟨ph,hp⟩:∃ph,ph=s.phase:=⟨_,rfl⟩;have bj:=JZ hp;rw [← hp] at y3;obtain ⟨m,hm⟩:∃m,m=p.right.length:=⟨_,rfl⟩;have b0:=JZ hm;rw [← hm] at y4;have a9:m≤7:=by rw [hm];exact F.2.1
 obtain ⟨-,c9,cq⟩:=h2.len;rw [← hm] at c9;have bk:Hid ((zL p s).length=m):=JZ (by rw [hm];exact Zrr HR.out);have al:Hid (D.length=m):=JZ (by rw [hm];exact hdl);obtain ⟨Az,cz,rfl,ca,cr⟩:=h4.shape;obtain ⟨Ad,cd,rfl,cc,cs⟩:=hd.shape;rw [bk.out] at h4 ca y7;rw [al.out] at hd cc ⊢;have HI:=JZ h2;have bt:=JZ h4;have bl:=JZ hd;have ax:=JZ hdb;have ay:=JZ (Ygw F.1 s);have HJ:Hid (1≤5^p.right.length * K∧5^p.right.length * K≤4000000):=JZ ⟨JW F.1.k1 F.1.le,F.2.2⟩;have HS:=JZ S;have HF:=JZ F;have ct:=JZ y4;have bu:=JZ y7;clear h1 h2 h3 h4 S F hd hdl hdb hp hm y7;by_cases bh:ph=2
 ·subst bh;go_enter Tryz.func103,Tryz.ntmps103;go_wp2;clear y3 y4
  go_loopw [24] (fun x wr=>∃k:Nat,k≤m∧x= .int .i64 k∧Below w.heap.size w wr∧∀i,0≤i→i < 0+k→¬Zwg s D i < 0) (fun x _=>m - (intOf x).toNat)
  case atStart=>exact ⟨0,by omega,rfl,JR _ _,fun i _ hi=>absurd hi (by omega)⟩
  case round=>
   obtain ⟨k,hk,rfl,B,ce⟩:=hrel;have bg:=JZ ce;clear ce;rcases JX k m with hkl | hkl
   ·have bv:(k:Int) < m:=(by omega);obtain ⟨bb,ob,z,rfl,z0,cf,-,-⟩:=HI.out.at_ (show k < p.right.length by rw [← b0.out];exact hkl);have bw:Hid (s.at_ k=z):=JZ (LSt.at_eq cf);obtain ⟨f,hf⟩:=Yb (fs:=D) (i:=k) (by rw [al.out];exact hkl);have HQ:Hid (qAt D k=f.q):=JZ (Yo hf);have z1:=Zf B z0;clear cf z0;by_cases cp:z < 0
    ·obtain ⟨b5,o5,A5,n5,c5,A6,n6,c6,rfl,_,⟨x0,x1,x2,x3⟩,ab⟩:=bl.out.elem B hf;have aa:qs f.q=0∨qs f.q=1∨qs f.q= -1:=(by have:=Ul f.q;omega);clear hf;by_cases az:qs f.q=0
     ·have bm:=JZ (Yp.1 az);clear aa;go_wp2_with fail;refine (Zx _ f _ ab).mono ?_;rw [az];rintro _ w3 ⟨rfl,bf⟩;have b1:=Za B bf B.size;clear B bf ab x0 x1 x2 x3 az z1;go_wp2;go_roundw
      case rel=>exact ⟨k+1,by omega,by go_num,b1,fun i h0 hi=>by
       by_cases g:i=k
       ·rw [g];exact Ygm fun h=>h.2 (by rw [HQ.out];exact bm.out)
       ·exact bg.out i h0 (by omega)⟩
      case measure=>simp [intOf];omega
     ·have bm:Hid (f.q≠0):=JZ fun g=>az (Yp.2 g)
      have cu:(qs f.q !=0)=true:=(by simpa using az);clear aa az;go_wp2_with fail;refine (Zx _ f _ ab).mono ?_;rintro _ w3 ⟨rfl,bf⟩;have b1:=Za B bf B.size;have cg:Zeh p s (zL p s) D=some k:=Zvm bj.out.symm (Zap (by omega) (by rw [al.out];omega) (Zzf (by rw [bw.out];exact cp) (by rw [HQ.out];exact bm.out)) fun i h0 hi=>bg.out i h0 (by omega));clear B bf ab x0 x1 x2 x3 z1;go_wp2;go_ret;exact ⟨by rw [cg];rfl,b1⟩
    ·have cv:0≤z:=(by omega);clear hf;go_wp2;go_roundw
     case rel=>exact ⟨k+1,by omega,by go_num,B,fun i h0 hi=>by
      by_cases g:i=k
      ·rw [g];exact Ygm fun h=>by rw [bw.out] at h;omega
      ·exact bg.out i h0 (by omega)⟩
     case measure=>simp [intOf];omega
   ·obtain rfl:m=k:=by omega
    have bn:Hid (Zeh p s (zL p s) D=XQ p s (zL p s) D D.length):=JZ (Zvn bj.out.symm (Zao (by rw [al.out];exact bg.out)));obtain ⟨W8,bq,Z,Y⟩:=YN wr (.bool false) (.slice none 0 0) (.bool false) (.slice none 0 0);have j:=Za B Y B.size;have am:=B.size;clear B Y;go_wp2;clear bq;generalize wr.heap.size=gl at *
    go_loopw [7,43] (fun bst x wr=>∃k:Nat,k≤m∧x= .int .i64 k∧bst= .int .i64 (oi (XQ p s (zL p s) D k))∧Below w.heap.size w wr∧(∃x y z u,Bk wr gl 46 [x,y,z,u])∧∀t,XQ p s (zL p s) D k=some t→t < k∧Yai wr gl (Zrq (zL p s) D t)) (fun _ x _=>m - (intOf x).toNat)
    case atStart=>exact ⟨0,by omega,rfl,rfl,j,⟨_,_,_,_,Z⟩,fun t ht=>by cases ht⟩
    case round=>
     clear j Z;obtain ⟨k,hk,rfl,rfl,B,⟨lx,ly,lz,lu,hL⟩,a5⟩:=hrel;rcases JX k m with hkl | hkl
     ·have bv:(k:Int) < m:=(by omega);obtain ⟨f,hf⟩:=Yb (fs:=D) (i:=k) (by rw [al.out];exact hkl);have HQ:Hid (qAt D k=f.q):=JZ (Yo hf);have b2:=ax.out k f hf;obtain ⟨b5,o5,A5,n5,c5,A6,n6,c6,rfl,_,⟨x0,x1,x2,x3⟩,ab⟩:=bl.out.elem B hf;obtain ⟨W6,br,hV,a6⟩:=YN wr (.bool f.num.neg) (.slice A5 n5 c5) (.bool f.den.neg) (.slice A6 n6 c6);obtain ⟨u0,u1,u2,u3⟩:=hV.four;have an:=ab.below a6;have a3:=Za B a6 B.size;have b3:=hL.later a6;have ao:=JZ fun t ht=>(⟨(a5 t ht).1,(a5 t ht).2.below a6⟩:t < k∧Yai W6 gl (Zrq (zL p s) D t))
      have aa:qs f.q=0∨qs f.q=1∨qs f.q= -1:=(by have:=Ul f.q;omega);clear hf ab B hL a5;go_wp2_with fail;clear br;refine (Zx _ f _ an).mono ?_;rintro _ w7 ⟨rfl,a1⟩;have N:=Za a3 a1 a3.size;have ac:=b3.later a1;have a4:=JZ fun t ht=>(⟨(ao.out t ht).1,(ao.out t ht).2.below a1⟩:t < k∧Yai w7 gl (Zrq (zL p s) D t))
      have a9:=an.below a1;have ap:=hV.later a1;clear an a3 b3 ao hV a6 a1 x0 x1 x2 x3 u0 u1 u2 u3;by_cases A:0 < f.q
      ·have hq:qs f.q=1:=(by have:=Zjo.2 A;omega);rw [hq];have b4:f.q≠0:=fun g=>by rw [g] at A;exact absurd A (by decide)
       have b6:f.Sm:=b2.sm (by have:=HJ.out;omega);obtain ⟨fz,ae⟩:=Yb (fs:=zL p s) (i:=k) (by rw [bk.out];exact hkl);have b7:Hid (qAt (zL p s) k=fz.q):=JZ (Yo ae);have b8:fz.Sm:=(ay.out k fz ae).sm (by have:=HJ.out;omega);obtain ⟨bz,oz,A7,n7,c7,A8,n8,c8,rfl,_,⟨z0,z1,z2,z3⟩,au⟩:=bt.out.elem N ae;obtain ⟨u0,u1,u2,u3⟩:=ap.four;have y7:=Zf N bu.out;obtain ⟨q,af⟩:∃q,q=fz.q / f.q:=⟨_,rfl⟩;have b9:Hid (fz.q / f.q=q):=JZ af.symm;have H:Hid (q=Zrq (zL p s) D k):=JZ (by unfold Zrq;rw [b7.out,HQ.out];exact af);have R:Hid (0 < qAt D k):=JZ (by rw [HQ.out];exact A);have bo:Hid (Sz (2 * (5^p.right.length * K)) q):=JZ (by
        rw [af,← b7.out,← HQ.out];exact (Zje (ay.out.qAt HJ.out.1 k) (ax.out.qAt HJ.out.1 k)).mono (by omega))
       clear ae af aa hq A b2
       go_upto_region 14 with (fail)
       go_cut [11] (fun s11 wx=>Zva w7 (canF q) s11 wx)
       case first=>
        have C0:=Zp u0;have C1:=Zp u1;have C2:=Zp u2;have C3:=Zp u3;have E0:=Zp z0;have E1:=Zp z1;have E2:=Zp z2;have E3:=Zp z3;have D0:=Zp y7;have c:=Zj w7;clear u0 u1 u2 u3 z0 z1 z2 z3 y7;refine XF 13 (.go 0 (.go 1 (.go 2 (.go 3 (.go 4 (.go 5 (.go 6 (.go 7 (.fork 8 (.go 9 (.go 10 (.go 11 (.go 12 (.go 13 (.go 14 .done)))))) 12 (.go 8 (.go 9 (.go 10 (.go 11 (.go 13 (.go 14 .done))))))))))))))) (by kernel_rfl) (by kernel_rfl) ?_;repeat ((first | (refine Z6 (v:=?_) rfl rfl rfl ?_ ?_;rotate_left;(· (intro _ M;go_simp;(try go_bits);(try with_reducible rfl)))) | (refine Yr (v:=?_) rfl rfl rfl ?_ ?_;rotate_left;(· (intro _ M;go_simp;(try go_bits);(try with_reducible rfl)))) | refine Yt rfl rfl rfl ?_ | refine Z8 rfl rfl rfl (by assumption) ?_);(try simp only [Act.put,pu1,pu2,pu3,pu4,pu5,pu6]))
        refine WT rfl rfl (fun KR hKR=>?_) (fun KR hKR=>?_)
        ·go_simp;(with_reducible refine (VY _ _ fz f _ (au.below c) (a9.below c) b8 b6 b4).mono ?_);rw [b9.out];rintro _ wA ⟨vA,rfl,eA,ak⟩;have V:=Za c ak c.size;obtain ⟨A6,n6,c6,B6,m6,d6,rfl,_,_⟩:=id eA;refine hKR.out _ _ (Or.inr V) ?_;clear hKR KR;(try simp only [Act.put,pu1,pu2,pu3,pu4,pu5,pu6]);repeat ((first | (refine Z6 (v:=?_) rfl rfl rfl ?_ ?_;rotate_left;(· (intro _ M;go_simp;(try go_bits);(try with_reducible rfl)))) | (refine Yr (v:=?_) rfl rfl rfl ?_ ?_;rotate_left;(· (intro _ M;go_simp;(try go_bits);(try with_reducible rfl)))) | refine Yt rfl rfl rfl ?_ | refine Z8 rfl rfl rfl (by assumption) ?_);(try simp only [Act.put,pu1,pu2,pu3,pu4,pu5,pu6]))
         obtain ⟨WG,av,a0,ag⟩:=YN wA (.bool false) (.slice none 0 0) (.bool false) (.slice none 0 0);refine ZA rfl rfl (fun KR hKR=>?_);go_simp;have aq:=V.size;have T:=Za V ag V.size;refine hKR.out _ _ (Or.inr T) ?_;clear hKR KR av;(try simp only [Act.put,pu1,pu2,pu3,pu4,pu5,pu6]);have bp:=eA.below ag;obtain ⟨t0,t1,t2,t3⟩:=a0.four;obtain ⟨f0,f1,f2,f3⟩:=a0.fourF;refine ZA rfl rfl (fun KR hKR=>?_);go_simp;refine hKR.out _ _ (Or.inl (by decide)) ?_;clear hKR KR;(try simp only [Act.put,pu1,pu2,pu3,pu4,pu5,pu6]);refine ZA rfl rfl (fun KR hKR=>?_);go_simp;refine hKR.out _ _ (Or.inl (by decide)) ?_;clear hKR KR;(try simp only [Act.put,pu1,pu2,pu3,pu4,pu5,pu6]);refine YM ?_;go_wp2_with fail
         go_meet
         exact Zva.mk a0 bp T aq
        ·obtain ⟨WG,av,a0,ag⟩:=YN w7.drew (.bool false) (.slice none 0 0) (.bool false) (.slice none 0 0);go_simp;have aq:=c.size;have T:=Za c ag c.size;refine hKR.out _ _ (Or.inr T) ?_;clear hKR KR av;(try simp only [Act.put,pu1,pu2,pu3,pu4,pu5,pu6])
         change Bk WG w7.heap.size 46 _ at a0
         refine ZA rfl rfl (fun KR hKR=>?_);go_simp;(with_reducible refine (VY _ _ fz f _ (au.below T) (a9.below T) b8 b6 b4).mono ?_);rw [b9.out];rintro _ wA ⟨vA,rfl,eA,ak⟩;have V:=Za T ak T.size;obtain ⟨A6,n6,c6,B6,m6,d6,rfl,_,_⟩:=id eA;refine hKR.out _ _ (Or.inr V) ?_;clear hKR KR;(try simp only [Act.put,pu1,pu2,pu3,pu4,pu5,pu6]);have hG:=a0.later ak;repeat ((first | (refine Z6 (v:=?_) rfl rfl rfl ?_ ?_;rotate_left;(· (intro _ M;go_simp;(try go_bits);(try with_reducible rfl)))) | (refine Yr (v:=?_) rfl rfl rfl ?_ ?_;rotate_left;(· (intro _ M;go_simp;(try go_bits);(try with_reducible rfl)))) | refine Yt rfl rfl rfl ?_ | refine Z8 rfl rfl rfl (by assumption) ?_);(try simp only [Act.put,pu1,pu2,pu3,pu4,pu5,pu6]))
         obtain ⟨t0,t1,t2,t3⟩:=hG.four;obtain ⟨f0,f1,f2,f3⟩:=hG.fourF;refine ZA rfl rfl (fun KR hKR=>?_);go_simp;refine hKR.out _ _ (Or.inl (by decide)) ?_;clear hKR KR;(try simp only [Act.put,pu1,pu2,pu3,pu4,pu5,pu6]);refine ZA rfl rfl (fun KR hKR=>?_);go_simp;refine hKR.out _ _ (Or.inl (by decide)) ?_;clear hKR KR;(try simp only [Act.put,pu1,pu2,pu3,pu4,pu5,pu6]);refine YM ?_;go_wp2_with fail
         go_meet
         exact Zva.mk hG eA V aq
       case rest=>
        obtain ⟨gm,Am,nm,cm,C,E,G,rfl,cl,a7,a8,Y⟩:=hcut;have j:=Za N Y N.size;have Z:=ac.later Y;have ar:=JZ fun t ht=>(⟨(a4.out t ht).1,(a4.out t ht).2.below Y⟩:t < k∧Yai wc gl (Zrq (zL p s) D t))
        have bx:gl≠gm:=(by have:=ac.lt;omega);clear N ac a4 a9 ap au Y u0 u1 u2 u3 z0 z1 z2 z3 y7
        cases hbo:XQ p s (zL p s) D k with
        | none=>
         have d:Hid (XQ p s (zL p s) D (k+1)=some k):=JZ (UB hbo R.out);have I:=a7;have b:=Z;have J:=a8;have a:=j;obtain ⟨w9,aw⟩:∃w9,w9=wc:=⟨_,rfl⟩;subst aw;clear a7 Z a8 j ar hbo;simp only [oi]
         -- region 19:position k is the best
         obtain ⟨t0,t1,t2,t3⟩:=I.four;obtain ⟨c0,c1,c2,c3⟩:=b.four;obtain ⟨f0,f1,f2,f3⟩:=b.fourF
         go_upto_region 19 with (fail)
         have C0:=Zp t0;have C1:=Zp t1;have C2:=Zp t2;have C3:=Zp t3;have c:=Zj w9;clear t0 t1 t2 t3;refine Zq 3 [0,1,2,3] (by kernel_rfl) (by kernel_rfl) ?_;repeat ((first | (refine Zc (v:=?_) rfl rfl rfl ?_ ?_;rotate_left;(· (intro _ M;go_simp;(try go_bits);(try with_reducible rfl)))) | (refine Zg (v:=?_) rfl rfl rfl ?_ ?_;rotate_left;(· (intro _ M;go_simp;(try go_bits);(try with_reducible rfl)))) | refine Zh rfl rfl rfl ?_);(try simp only [Act.put,pu1,pu2,pu3,pu4,pu5,pu6]))
         refine Zd rfl rfl (fun KR hKR=>?_);go_simp;refine hKR.out _ _ (Or.inl (by decide)) ?_;clear hKR KR;(try simp only [Act.put,pu1,pu2,pu3,pu4,pu5,pu6]);refine Zz ?_;clear C0 C1 C2 C3;have l:=(b.later c).set4 (.bool (canF q).num.neg) (.slice Am nm cm) (.bool (canF q).den.neg) (.slice C E G);have n:=(b.later c).but4 (.bool (canF q).num.neg) (.slice Am nm cm) (.bool (canF q).den.neg) (.slice C E G);have U:=(J.below c).keep (n.keep (by decide));have L:=ZG (Za a c a.size) am (.bool (canF q).num.neg) (.slice Am nm cm) (.bool (canF q).den.neg) (.slice C E G);clear b I J n c c0 c1 c2 c3 f0 f1 f2 f3 a;go_wp2;go_roundw
         case rel=>exact ⟨k+1,by omega,by go_num,by rw [d.out];rfl,L,⟨_,_,_,_,l⟩,fun t ht=>by
          rw [d.out] at ht;injection ht with ht;subst ht;exact ⟨by omega,Am,nm,cm,C,E,G,by rw [← H.out];exact l,by rw [← H.out];exact U⟩⟩
         case measure=>simp [intOf];omega
        | some tb=>
         obtain ⟨cn,A4,n4,c4,A5,n5,c5,ah,ai⟩:=ar.out tb hbo;have ch:(tb:Int) < m:=(by omega);have ba:qs (q - Zrq (zL p s) D tb)=0∨qs (q - Zrq (zL p s) D tb)=1∨qs (q - Zrq (zL p s) D tb)= -1:=(by have:=Ul (q - Zrq (zL p s) D tb);omega);obtain ⟨rb,aj⟩:∃rb,rb=Zrq (zL p s) D tb:=⟨_,rfl⟩;have X:=JZ aj;rw [← aj] at ah ai ba;have bc:(canF q).Sm:=bo.out.rs.sm (by have:=HJ.out;omega);have bd:(canF rb).Sm:=by
          rw [aj];unfold Zrq;exact (Zje (ay.out.qAt HJ.out.1 tb) (ax.out.qAt HJ.out.1 tb)).rs.sm (by have:=HJ.out;omega)
         have ad:=JZ hbo;obtain ⟨u0,u1,u2,u3⟩:=a7.four;obtain ⟨z0,z1,z2,z3⟩:=ah.four;simp only [oi];clear ar hbo aj Z;go_wp2_with fail;refine (VB _ _ (canF q) (canF rb) _ a8 ai bc bd).mono ?_;rw [Zu,Zu];rintro _ w9 ⟨rfl,a2⟩;have I:=a7.later a2;have b:=ah.later a2;have J:=a8.below a2;have r:=ai.below a2;have a:=Za j a2 j.size;clear a7 ah a8 ai j a2 u0 u1 u2 u3 z0 z1 z2 z3 bc bd;rcases ba with hc | hc | hc
         ·rw [hc];have be:Hid (q=rb):=JZ (by have:=Yp.1 hc;grind);clear hc;go_wp2_with fail;refine (erank_any e p s K k _ (HH.out.below a) HS.out HF.out (by rw [← b0.out];exact hkl)).mono ?_;rintro _ co ⟨rfl,O⟩;have I:=I.later O;have b:=b.later O;have J:=J.below O;have r:=r.below O;have a:=Za a O a.size;clear O;go_wp2_with fail;refine (erank_any e p s K tb _ (HH.out.below a) HS.out HF.out (by rw [← b0.out];omega)).mono ?_;rintro _ bs ⟨rfl,P⟩;have I:=I.later P;have b:=b.later P;have J:=J.below P;have r:=r.below P;have a:=Za a P a.size;clear P;by_cases ho:Ygt p (s.at_ k) < Ygt p (s.at_ tb)
          ·have d:Hid (XQ p s (zL p s) D (k+1)=some k):=JZ (VP ad.out R.out (.inr ⟨by rw [← H.out,← X.out];exact be.out,ho⟩));obtain ⟨w9,aw⟩:∃w9,w9=bs:=⟨_,rfl⟩;subst aw
           -- region 19:position k is the best
           obtain ⟨t0,t1,t2,t3⟩:=I.four;obtain ⟨c0,c1,c2,c3⟩:=b.four;obtain ⟨f0,f1,f2,f3⟩:=b.fourF
           go_upto_region 19 with (fail)
           have C0:=Zp t0;have C1:=Zp t1;have C2:=Zp t2;have C3:=Zp t3;have c:=Zj w9;clear t0 t1 t2 t3;refine Zq 3 [0,1,2,3] (by kernel_rfl) (by kernel_rfl) ?_;repeat ((first | (refine Zc (v:=?_) rfl rfl rfl ?_ ?_;rotate_left;(· (intro _ M;go_simp;(try go_bits);(try with_reducible rfl)))) | (refine Zg (v:=?_) rfl rfl rfl ?_ ?_;rotate_left;(· (intro _ M;go_simp;(try go_bits);(try with_reducible rfl)))) | refine Zh rfl rfl rfl ?_);(try simp only [Act.put,pu1,pu2,pu3,pu4,pu5,pu6]))
           refine Zd rfl rfl (fun KR hKR=>?_);go_simp;refine hKR.out _ _ (Or.inl (by decide)) ?_;clear hKR KR;(try simp only [Act.put,pu1,pu2,pu3,pu4,pu5,pu6]);refine Zz ?_;clear C0 C1 C2 C3;have l:=(b.later c).set4 (.bool (canF q).num.neg) (.slice Am nm cm) (.bool (canF q).den.neg) (.slice C E G);have n:=(b.later c).but4 (.bool (canF q).num.neg) (.slice Am nm cm) (.bool (canF q).den.neg) (.slice C E G);have U:=(J.below c).keep (n.keep (by decide));have L:=ZG (Za a c a.size) am (.bool (canF q).num.neg) (.slice Am nm cm) (.bool (canF q).den.neg) (.slice C E G);clear b I J n c c0 c1 c2 c3 f0 f1 f2 f3 a;go_wp2;go_roundw
           case rel=>exact ⟨k+1,by omega,by go_num,by rw [d.out];rfl,L,⟨_,_,_,_,l⟩,fun t ht=>by
            rw [d.out] at ht;injection ht with ht;subst ht;exact ⟨by omega,Am,nm,cm,C,E,G,by rw [← H.out];exact l,by rw [← H.out];exact U⟩⟩
           case measure=>simp [intOf];omega
          ·have d:Hid (XQ p s (zL p s) D (k+1)=some tb):=JZ (UC ad.out R.out (fun g=>by
            rcases g with g | g
            ·rw [← H.out,← X.out,be.out] at g;exact absurd g (by grind)
            ·exact ho g.2))
           have ci:Ygt p (s.at_ tb)≤Ygt p (s.at_ k):=(by omega);clear ho;generalize Ygt p (s.at_ k)=o1 at *;generalize Ygt p (s.at_ tb)=o2 at *;rw [X.out] at b r
           -- region 20:the best stays
           go_wp2;go_roundw
           case rel=>exact ⟨k+1,by omega,by go_num,by rw [d.out];rfl,a,⟨_,_,_,_,b⟩,fun t' ht'=>by
            rw [d.out] at ht';injection ht' with ht';subst ht';exact ⟨by omega,A4,n4,c4,A5,n5,c5,b,r⟩⟩
           case measure=>simp [intOf];omega
         ·rw [hc];have d:Hid (XQ p s (zL p s) D (k+1)=some tb):=JZ (UC ad.out R.out (fun g=>by
           have:=Zjo.1 (show 0 < qs (q - rb) by omega);rcases g with g | g
           ·rw [← H.out,← X.out] at g;grind
           ·have g1:=g.1;rw [← H.out,← X.out] at g1;grind))
          clear hc;rw [X.out] at b r
          -- region 20:the best stays
          go_wp2;go_roundw
          case rel=>exact ⟨k+1,by omega,by go_num,by rw [d.out];rfl,a,⟨_,_,_,_,b⟩,fun t' ht'=>by
           rw [d.out] at ht';injection ht' with ht';subst ht';exact ⟨by omega,A4,n4,c4,A5,n5,c5,b,r⟩⟩
          case measure=>simp [intOf];omega
         ·rw [hc];have d:Hid (XQ p s (zL p s) D (k+1)=some k):=JZ (VP ad.out R.out (.inl (by
           have:=Zjn.1 (show qs (q - rb) < 0 by omega);rw [← H.out,← X.out];grind)))
          clear hc
          -- region 19:position k is the best
          obtain ⟨t0,t1,t2,t3⟩:=I.four;obtain ⟨c0,c1,c2,c3⟩:=b.four;obtain ⟨f0,f1,f2,f3⟩:=b.fourF
          go_upto_region 19 with (fail)
          have C0:=Zp t0;have C1:=Zp t1;have C2:=Zp t2;have C3:=Zp t3;have c:=Zj w9;clear t0 t1 t2 t3;refine Zq 3 [0,1,2,3] (by kernel_rfl) (by kernel_rfl) ?_;repeat ((first | (refine Zc (v:=?_) rfl rfl rfl ?_ ?_;rotate_left;(· (intro _ M;go_simp;(try go_bits);(try with_reducible rfl)))) | (refine Zg (v:=?_) rfl rfl rfl ?_ ?_;rotate_left;(· (intro _ M;go_simp;(try go_bits);(try with_reducible rfl)))) | refine Zh rfl rfl rfl ?_);(try simp only [Act.put,pu1,pu2,pu3,pu4,pu5,pu6]))
          refine Zd rfl rfl (fun KR hKR=>?_);go_simp;refine hKR.out _ _ (Or.inl (by decide)) ?_;clear hKR KR;(try simp only [Act.put,pu1,pu2,pu3,pu4,pu5,pu6]);refine Zz ?_;clear C0 C1 C2 C3;have l:=(b.later c).set4 (.bool (canF q).num.neg) (.slice Am nm cm) (.bool (canF q).den.neg) (.slice C E G);have n:=(b.later c).but4 (.bool (canF q).num.neg) (.slice Am nm cm) (.bool (canF q).den.neg) (.slice C E G);have U:=(J.below c).keep (n.keep (by decide));have L:=ZG (Za a c a.size) am (.bool (canF q).num.neg) (.slice Am nm cm) (.bool (canF q).den.neg) (.slice C E G);clear b I J n c c0 c1 c2 c3 f0 f1 f2 f3 a;go_wp2;go_roundw
          case rel=>exact ⟨k+1,by omega,by go_num,by rw [d.out];rfl,L,⟨_,_,_,_,l⟩,fun t ht=>by
           rw [d.out] at ht;injection ht with ht;subst ht;exact ⟨by omega,Am,nm,cm,C,E,G,by rw [← H.out];exact l,by rw [← H.out];exact U⟩⟩
          case measure=>simp [intOf];omega
      ·have cj:qs f.q≤0:=by
        rcases aa with g | g | g
        ·omega
        ·exact absurd (Zjo.1 (show 0 < qs f.q by omega)) A
        ·omega
       have d:Hid (XQ p s (zL p s) D (k+1)=XQ p s (zL p s) D k):=JZ (Zbl (by rw [HQ.out];exact A));clear aa A ap a9;go_wp2;go_roundw
       case rel=>exact ⟨k+1,by omega,by go_num,by rw [d.out],N,⟨_,_,_,_,ac⟩,fun t ht=>by
        rw [d.out] at ht;exact ⟨by have:=(a4.out t ht).1;omega,(a4.out t ht).2⟩⟩
       case measure=>simp [intOf];omega
     ·obtain rfl:m=k:=by omega
      go_wp2;go_ret;exact ⟨by rw [bn.out,al.out];rfl,B⟩
 ·have ck:(ph==2)=false:=by simpa using bh
  have bn:Hid (Zeh p s (zL p s) D=XQ p s (zL p s) D D.length):=JZ (Zvl (by rw [← bj.out];exact bh));go_enter Tryz.func103,Tryz.ntmps103;obtain ⟨W8,bq,Z,Y⟩:=YN w (.bool false) (.slice none 0 0) (.bool false) (.slice none 0 0);have j:=Y;have am:=JY w.heap.size;go_wp2;clear bq y3 y4 ck bh Y
  go_loopw [7,43] (fun bst x wr=>∃k:Nat,k≤m∧x= .int .i64 k∧bst= .int .i64 (oi (XQ p s (zL p s) D k))∧Below w.heap.size w wr∧(∃x y z u,Bk wr w.heap.size 46 [x,y,z,u])∧∀t,XQ p s (zL p s) D k=some t→t < k∧Yai wr w.heap.size (Zrq (zL p s) D t)) (fun _ x _=>m - (intOf x).toNat)
  case atStart=>exact ⟨0,by omega,rfl,rfl,j,⟨_,_,_,_,Z⟩,fun t ht=>by cases ht⟩
  case round=>
   clear j Z;obtain ⟨k,hk,rfl,rfl,B,⟨lx,ly,lz,lu,hL⟩,a5⟩:=hrel;rcases JX k m with hkl | hkl
   ·have bv:(k:Int) < m:=(by omega);obtain ⟨f,hf⟩:=Yb (fs:=D) (i:=k) (by rw [al.out];exact hkl);have HQ:Hid (qAt D k=f.q):=JZ (Yo hf);have b2:=ax.out k f hf;obtain ⟨b5,o5,A5,n5,c5,A6,n6,c6,rfl,_,⟨x0,x1,x2,x3⟩,ab⟩:=bl.out.elem B hf;obtain ⟨W6,br,hV,a6⟩:=YN wr (.bool f.num.neg) (.slice A5 n5 c5) (.bool f.den.neg) (.slice A6 n6 c6);obtain ⟨u0,u1,u2,u3⟩:=hV.four;have an:=ab.below a6;have a3:=Za B a6 B.size;have b3:=hL.later a6;have ao:=JZ fun t ht=>(⟨(a5 t ht).1,(a5 t ht).2.below a6⟩:t < k∧Yai W6 w.heap.size (Zrq (zL p s) D t))
    have aa:qs f.q=0∨qs f.q=1∨qs f.q= -1:=(by have:=Ul f.q;omega);clear hf ab B hL a5;go_wp2_with fail;clear br;refine (Zx _ f _ an).mono ?_;rintro _ w7 ⟨rfl,a1⟩;have N:=Za a3 a1 a3.size;have ac:=b3.later a1;have a4:=JZ fun t ht=>(⟨(ao.out t ht).1,(ao.out t ht).2.below a1⟩:t < k∧Yai w7 w.heap.size (Zrq (zL p s) D t))
    have a9:=an.below a1;have ap:=hV.later a1;clear an a3 b3 ao hV a6 a1 x0 x1 x2 x3 u0 u1 u2 u3;by_cases A:0 < f.q
    ·have hq:qs f.q=1:=(by have:=Zjo.2 A;omega);rw [hq];have b4:f.q≠0:=fun g=>by rw [g] at A;exact absurd A (by decide)
     have b6:f.Sm:=b2.sm (by have:=HJ.out;omega);obtain ⟨fz,ae⟩:=Yb (fs:=zL p s) (i:=k) (by rw [bk.out];exact hkl);have b7:Hid (qAt (zL p s) k=fz.q):=JZ (Yo ae);have b8:fz.Sm:=(ay.out k fz ae).sm (by have:=HJ.out;omega);obtain ⟨bz,oz,A7,n7,c7,A8,n8,c8,rfl,_,⟨z0,z1,z2,z3⟩,au⟩:=bt.out.elem N ae;obtain ⟨u0,u1,u2,u3⟩:=ap.four;have y7:=Zf N bu.out;obtain ⟨q,af⟩:∃q,q=fz.q / f.q:=⟨_,rfl⟩;have b9:Hid (fz.q / f.q=q):=JZ af.symm;have H:Hid (q=Zrq (zL p s) D k):=JZ (by unfold Zrq;rw [b7.out,HQ.out];exact af);have R:Hid (0 < qAt D k):=JZ (by rw [HQ.out];exact A);have bo:Hid (Sz (2 * (5^p.right.length * K)) q):=JZ (by
      rw [af,← b7.out,← HQ.out];exact (Zje (ay.out.qAt HJ.out.1 k) (ax.out.qAt HJ.out.1 k)).mono (by omega))
     clear ae af aa hq A b2
     go_upto_region 14 with (fail)
     go_cut [11] (fun s11 wx=>Zva w7 (canF q) s11 wx)
     case first=>
      have C0:=Zp u0;have C1:=Zp u1;have C2:=Zp u2;have C3:=Zp u3;have E0:=Zp z0;have E1:=Zp z1;have E2:=Zp z2;have E3:=Zp z3;have D0:=Zp y7;have c:=Zj w7;clear u0 u1 u2 u3 z0 z1 z2 z3 y7;refine XF 13 (.go 0 (.go 1 (.go 2 (.go 3 (.go 4 (.go 5 (.go 6 (.go 7 (.fork 8 (.go 9 (.go 10 (.go 11 (.go 12 (.go 13 (.go 14 .done)))))) 12 (.go 8 (.go 9 (.go 10 (.go 11 (.go 13 (.go 14 .done))))))))))))))) (by kernel_rfl) (by kernel_rfl) ?_;repeat ((first | (refine Z6 (v:=?_) rfl rfl rfl ?_ ?_;rotate_left;(· (intro _ M;go_simp;(try go_bits);(try with_reducible rfl)))) | (refine Yr (v:=?_) rfl rfl rfl ?_ ?_;rotate_left;(· (intro _ M;go_simp;(try go_bits);(try with_reducible rfl)))) | refine Yt rfl rfl rfl ?_ | refine Z8 rfl rfl rfl (by assumption) ?_);(try simp only [Act.put,pu1,pu2,pu3,pu4,pu5,pu6]))
      refine WT rfl rfl (fun KR hKR=>?_) (fun KR hKR=>?_)
      ·go_simp;(with_reducible refine (VY _ _ fz f _ (au.below c) (a9.below c) b8 b6 b4).mono ?_);rw [b9.out];rintro _ wA ⟨vA,rfl,eA,ak⟩;have V:=Za c ak c.size;obtain ⟨A6,n6,c6,B6,m6,d6,rfl,_,_⟩:=id eA;refine hKR.out _ _ (Or.inr V) ?_;clear hKR KR;(try simp only [Act.put,pu1,pu2,pu3,pu4,pu5,pu6]);repeat ((first | (refine Z6 (v:=?_) rfl rfl rfl ?_ ?_;rotate_left;(· (intro _ M;go_simp;(try go_bits);(try with_reducible rfl)))) | (refine Yr (v:=?_) rfl rfl rfl ?_ ?_;rotate_left;(· (intro _ M;go_simp;(try go_bits);(try with_reducible rfl)))) | refine Yt rfl rfl rfl ?_ | refine Z8 rfl rfl rfl (by assumption) ?_);(try simp only [Act.put,pu1,pu2,pu3,pu4,pu5,pu6]))
       obtain ⟨WG,av,a0,ag⟩:=YN wA (.bool false) (.slice none 0 0) (.bool false) (.slice none 0 0);refine ZA rfl rfl (fun KR hKR=>?_);go_simp;have aq:=V.size;have T:=Za V ag V.size;refine hKR.out _ _ (Or.inr T) ?_;clear hKR KR av;(try simp only [Act.put,pu1,pu2,pu3,pu4,pu5,pu6]);have bp:=eA.below ag;obtain ⟨t0,t1,t2,t3⟩:=a0.four;obtain ⟨f0,f1,f2,f3⟩:=a0.fourF;refine ZA rfl rfl (fun KR hKR=>?_);go_simp;refine hKR.out _ _ (Or.inl (by decide)) ?_;clear hKR KR;(try simp only [Act.put,pu1,pu2,pu3,pu4,pu5,pu6]);refine ZA rfl rfl (fun KR hKR=>?_);go_simp;refine hKR.out _ _ (Or.inl (by decide)) ?_;clear hKR KR;(try simp only [Act.put,pu1,pu2,pu3,pu4,pu5,pu6]);refine YM ?_;go_wp2_with fail
       go_meet
       exact Zva.mk a0 bp T aq
      ·obtain ⟨WG,av,a0,ag⟩:=YN w7.drew (.bool false) (.slice none 0 0) (.bool false) (.slice none 0 0);go_simp;have aq:=c.size;have T:=Za c ag c.size;refine hKR.out _ _ (Or.inr T) ?_;clear hKR KR av;(try simp only [Act.put,pu1,pu2,pu3,pu4,pu5,pu6])
       change Bk WG w7.heap.size 46 _ at a0
       refine ZA rfl rfl (fun KR hKR=>?_);go_simp;(with_reducible refine (VY _ _ fz f _ (au.below T) (a9.below T) b8 b6 b4).mono ?_);rw [b9.out];rintro _ wA ⟨vA,rfl,eA,ak⟩;have V:=Za T ak T.size;obtain ⟨A6,n6,c6,B6,m6,d6,rfl,_,_⟩:=id eA;refine hKR.out _ _ (Or.inr V) ?_;clear hKR KR;(try simp only [Act.put,pu1,pu2,pu3,pu4,pu5,pu6]);have hG:=a0.later ak;repeat ((first | (refine Z6 (v:=?_) rfl rfl rfl ?_ ?_;rotate_left;(· (intro _ M;go_simp;(try go_bits);(try with_reducible rfl)))) | (refine Yr (v:=?_) rfl rfl rfl ?_ ?_;rotate_left;(· (intro _ M;go_simp;(try go_bits);(try with_reducible rfl)))) | refine Yt rfl rfl rfl ?_ | refine Z8 rfl rfl rfl (by assumption) ?_);(try simp only [Act.put,pu1,pu2,pu3,pu4,pu5,pu6]))
       obtain ⟨t0,t1,t2,t3⟩:=hG.four;obtain ⟨f0,f1,f2,f3⟩:=hG.fourF;refine ZA rfl rfl (fun KR hKR=>?_);go_simp;refine hKR.out _ _ (Or.inl (by decide)) ?_;clear hKR KR;(try simp only [Act.put,pu1,pu2,pu3,pu4,pu5,pu6]);refine ZA rfl rfl (fun KR hKR=>?_);go_simp;refine hKR.out _ _ (Or.inl (by decide)) ?_;clear hKR KR;(try simp only [Act.put,pu1,pu2,pu3,pu4,pu5,pu6]);refine YM ?_;go_wp2_with fail
       go_meet
       exact Zva.mk hG eA V aq
     case rest=>
      obtain ⟨gm,Am,nm,cm,C,E,G,rfl,cl,a7,a8,Y⟩:=hcut;have j:=Za N Y N.size;have Z:=ac.later Y;have ar:=JZ fun t ht=>(⟨(a4.out t ht).1,(a4.out t ht).2.below Y⟩:t < k∧Yai wc w.heap.size (Zrq (zL p s) D t))
      have bx:w.heap.size≠gm:=(by have:=ac.lt;omega);clear N ac a4 a9 ap au Y u0 u1 u2 u3 z0 z1 z2 z3 y7
      cases hbo:XQ p s (zL p s) D k with
      | none=>
       have d:Hid (XQ p s (zL p s) D (k+1)=some k):=JZ (UB hbo R.out);have I:=a7;have b:=Z;have J:=a8;have a:=j;obtain ⟨w9,aw⟩:∃w9,w9=wc:=⟨_,rfl⟩;subst aw;clear a7 Z a8 j ar hbo;simp only [oi]
       -- region 19:position k is the best
       obtain ⟨t0,t1,t2,t3⟩:=I.four;obtain ⟨c0,c1,c2,c3⟩:=b.four;obtain ⟨f0,f1,f2,f3⟩:=b.fourF
       go_upto_region 19 with (fail)
       have C0:=Zp t0;have C1:=Zp t1;have C2:=Zp t2;have C3:=Zp t3;have c:=Zj w9;clear t0 t1 t2 t3;refine Zq 3 [0,1,2,3] (by kernel_rfl) (by kernel_rfl) ?_;repeat ((first | (refine Zc (v:=?_) rfl rfl rfl ?_ ?_;rotate_left;(· (intro _ M;go_simp;(try go_bits);(try with_reducible rfl)))) | (refine Zg (v:=?_) rfl rfl rfl ?_ ?_;rotate_left;(· (intro _ M;go_simp;(try go_bits);(try with_reducible rfl)))) | refine Zh rfl rfl rfl ?_);(try simp only [Act.put,pu1,pu2,pu3,pu4,pu5,pu6]))
       refine Zd rfl rfl (fun KR hKR=>?_);go_simp;refine hKR.out _ _ (Or.inl (by decide)) ?_;clear hKR KR;(try simp only [Act.put,pu1,pu2,pu3,pu4,pu5,pu6]);refine Zz ?_;clear C0 C1 C2 C3;have l:=(b.later c).set4 (.bool (canF q).num.neg) (.slice Am nm cm) (.bool (canF q).den.neg) (.slice C E G);have n:=(b.later c).but4 (.bool (canF q).num.neg) (.slice Am nm cm) (.bool (canF q).den.neg) (.slice C E G);have U:=(J.below c).keep (n.keep (by decide));have L:=ZG (Za a c a.size) am (.bool (canF q).num.neg) (.slice Am nm cm) (.bool (canF q).den.neg) (.slice C E G);clear b I J n c c0 c1 c2 c3 f0 f1 f2 f3 a;go_wp2;go_roundw
       case rel=>exact ⟨k+1,by omega,by go_num,by rw [d.out];rfl,L,⟨_,_,_,_,l⟩,fun t ht=>by
        rw [d.out] at ht;injection ht with ht;subst ht;exact ⟨by omega,Am,nm,cm,C,E,G,by rw [← H.out];exact l,by rw [← H.out];exact U⟩⟩
       case measure=>simp [intOf];omega
      | some tb=>
       obtain ⟨cn,A4,n4,c4,A5,n5,c5,ah,ai⟩:=ar.out tb hbo;have ch:(tb:Int) < m:=(by omega);have ba:qs (q - Zrq (zL p s) D tb)=0∨qs (q - Zrq (zL p s) D tb)=1∨qs (q - Zrq (zL p s) D tb)= -1:=(by have:=Ul (q - Zrq (zL p s) D tb);omega);obtain ⟨rb,aj⟩:∃rb,rb=Zrq (zL p s) D tb:=⟨_,rfl⟩;have X:=JZ aj;rw [← aj] at ah ai ba;have bc:(canF q).Sm:=bo.out.rs.sm (by have:=HJ.out;omega);have bd:(canF rb).Sm:=by
        rw [aj];unfold Zrq;exact (Zje (ay.out.qAt HJ.out.1 tb) (ax.out.qAt HJ.out.1 tb)).rs.sm (by have:=HJ.out;omega)
       have ad:=JZ hbo;obtain ⟨u0,u1,u2,u3⟩:=a7.four;obtain ⟨z0,z1,z2,z3⟩:=ah.four;simp only [oi];clear ar hbo aj Z;go_wp2_with fail;refine (VB _ _ (canF q) (canF rb) _ a8 ai bc bd).mono ?_;rw [Zu,Zu];rintro _ w9 ⟨rfl,a2⟩;have I:=a7.later a2;have b:=ah.later a2;have J:=a8.below a2;have r:=ai.below a2;have a:=Za j a2 j.size;clear a7 ah a8 ai j a2 u0 u1 u2 u3 z0 z1 z2 z3 bc bd;rcases ba with hc | hc | hc
       ·rw [hc];have be:Hid (q=rb):=JZ (by have:=Yp.1 hc;grind);clear hc;go_wp2_with fail;refine (erank_any e p s K k _ (HH.out.below a) HS.out HF.out (by rw [← b0.out];exact hkl)).mono ?_;rintro _ co ⟨rfl,O⟩;have I:=I.later O;have b:=b.later O;have J:=J.below O;have r:=r.below O;have a:=Za a O a.size;clear O;go_wp2_with fail;refine (erank_any e p s K tb _ (HH.out.below a) HS.out HF.out (by rw [← b0.out];omega)).mono ?_;rintro _ bs ⟨rfl,P⟩;have I:=I.later P;have b:=b.later P;have J:=J.below P;have r:=r.below P;have a:=Za a P a.size;clear P;by_cases ho:Ygt p (s.at_ k) < Ygt p (s.at_ tb)
        ·have d:Hid (XQ p s (zL p s) D (k+1)=some k):=JZ (VP ad.out R.out (.inr ⟨by rw [← H.out,← X.out];exact be.out,ho⟩));obtain ⟨w9,aw⟩:∃w9,w9=bs:=⟨_,rfl⟩;subst aw
         -- region 19:position k is the best
         obtain ⟨t0,t1,t2,t3⟩:=I.four;obtain ⟨c0,c1,c2,c3⟩:=b.four;obtain ⟨f0,f1,f2,f3⟩:=b.fourF
         go_upto_region 19 with (fail)
         have C0:=Zp t0;have C1:=Zp t1;have C2:=Zp t2;have C3:=Zp t3;have c:=Zj w9;clear t0 t1 t2 t3;refine Zq 3 [0,1,2,3] (by kernel_rfl) (by kernel_rfl) ?_;repeat ((first | (refine Zc (v:=?_) rfl rfl rfl ?_ ?_;rotate_left;(· (intro _ M;go_simp;(try go_bits);(try with_reducible rfl)))) | (refine Zg (v:=?_) rfl rfl rfl ?_ ?_;rotate_left;(· (intro _ M;go_simp;(try go_bits);(try with_reducible rfl)))) | refine Zh rfl rfl rfl ?_);(try simp only [Act.put,pu1,pu2,pu3,pu4,pu5,pu6]))
         refine Zd rfl rfl (fun KR hKR=>?_);go_simp;refine hKR.out _ _ (Or.inl (by decide)) ?_;clear hKR KR;(try simp only [Act.put,pu1,pu2,pu3,pu4,pu5,pu6]);refine Zz ?_;clear C0 C1 C2 C3;have l:=(b.later c).set4 (.bool (canF q).num.neg) (.slice Am nm cm) (.bool (canF q).den.neg) (.slice C E G);have n:=(b.later c).but4 (.bool (canF q).num.neg) (.slice Am nm cm) (.bool (canF q).den.neg) (.slice C E G);have U:=(J.below c).keep (n.keep (by decide));have L:=ZG (Za a c a.size) am (.bool (canF q).num.neg) (.slice Am nm cm) (.bool (canF q).den.neg) (.slice C E G);clear b I J n c c0 c1 c2 c3 f0 f1 f2 f3 a;go_wp2;go_roundw
         case rel=>exact ⟨k+1,by omega,by go_num,by rw [d.out];rfl,L,⟨_,_,_,_,l⟩,fun t ht=>by
          rw [d.out] at ht;injection ht with ht;subst ht;exact ⟨by omega,Am,nm,cm,C,E,G,by rw [← H.out];exact l,by rw [← H.out];exact U⟩⟩
         case measure=>simp [intOf];omega
        ·have d:Hid (XQ p s (zL p s) D (k+1)=some tb):=JZ (UC ad.out R.out (fun g=>by
          rcases g with g | g
          ·rw [← H.out,← X.out,be.out] at g;exact absurd g (by grind)
          ·exact ho g.2))
         have ci:Ygt p (s.at_ tb)≤Ygt p (s.at_ k):=(by omega);clear ho;generalize Ygt p (s.at_ k)=o1 at *;generalize Ygt p (s.at_ tb)=o2 at *;rw [X.out] at b r
         -- region 20:the best stays
         go_wp2;go_roundw
         case rel=>exact ⟨k+1,by omega,by go_num,by rw [d.out];rfl,a,⟨_,_,_,_,b⟩,fun t' ht'=>by
          rw [d.out] at ht';injection ht' with ht';subst ht';exact ⟨by omega,A4,n4,c4,A5,n5,c5,b,r⟩⟩
         case measure=>simp [intOf];omega
       ·rw [hc];have d:Hid (XQ p s (zL p s) D (k+1)=some tb):=JZ (UC ad.out R.out (fun g=>by
         have:=Zjo.1 (show 0 < qs (q - rb) by omega);rcases g with g | g
         ·rw [← H.out,← X.out] at g;grind
         ·have g1:=g.1;rw [← H.out,← X.out] at g1;grind))
        clear hc;rw [X.out] at b r
        -- region 20:the best stays
        go_wp2;go_roundw
        case rel=>exact ⟨k+1,by omega,by go_num,by rw [d.out];rfl,a,⟨_,_,_,_,b⟩,fun t' ht'=>by
         rw [d.out] at ht';injection ht' with ht';subst ht';exact ⟨by omega,A4,n4,c4,A5,n5,c5,b,r⟩⟩
        case measure=>simp [intOf];omega
       ·rw [hc];have d:Hid (XQ p s (zL p s) D (k+1)=some k):=JZ (VP ad.out R.out (.inl (by
         have:=Zjn.1 (show qs (q - rb) < 0 by omega);rw [← H.out,← X.out];grind)))
        clear hc
        -- region 19:position k is the best
        obtain ⟨t0,t1,t2,t3⟩:=I.four;obtain ⟨c0,c1,c2,c3⟩:=b.four;obtain ⟨f0,f1,f2,f3⟩:=b.fourF
        go_upto_region 19 with (fail)
        have C0:=Zp t0;have C1:=Zp t1;have C2:=Zp t2;have C3:=Zp t3;have c:=Zj w9;clear t0 t1 t2 t3;refine Zq 3 [0,1,2,3] (by kernel_rfl) (by kernel_rfl) ?_;repeat ((first | (refine Zc (v:=?_) rfl rfl rfl ?_ ?_;rotate_left;(· (intro _ M;go_simp;(try go_bits);(try with_reducible rfl)))) | (refine Zg (v:=?_) rfl rfl rfl ?_ ?_;rotate_left;(· (intro _ M;go_simp;(try go_bits);(try with_reducible rfl)))) | refine Zh rfl rfl rfl ?_);(try simp only [Act.put,pu1,pu2,pu3,pu4,pu5,pu6]))
        refine Zd rfl rfl (fun KR hKR=>?_);go_simp;refine hKR.out _ _ (Or.inl (by decide)) ?_;clear hKR KR;(try simp only [Act.put,pu1,pu2,pu3,pu4,pu5,pu6]);refine Zz ?_;clear C0 C1 C2 C3;have l:=(b.later c).set4 (.bool (canF q).num.neg) (.slice Am nm cm) (.bool (canF q).den.neg) (.slice C E G);have n:=(b.later c).but4 (.bool (canF q).num.neg) (.slice Am nm cm) (.bool (canF q).den.neg) (.slice C E G);have U:=(J.below c).keep (n.keep (by decide));have L:=ZG (Za a c a.size) am (.bool (canF q).num.neg) (.slice Am nm cm) (.bool (canF q).den.neg) (.slice C E G);clear b I J n c c0 c1 c2 c3 f0 f1 f2 f3 a;go_wp2;go_roundw
        case rel=>exact ⟨k+1,by omega,by go_num,by rw [d.out];rfl,L,⟨_,_,_,_,l⟩,fun t ht=>by
         rw [d.out] at ht;injection ht with ht;subst ht;exact ⟨by omega,Am,nm,cm,C,E,G,by rw [← H.out];exact l,by rw [← H.out];exact U⟩⟩
        case measure=>simp [intOf];omega
    ·have cj:qs f.q≤0:=by
      rcases aa with g | g | g
      ·omega
      ·exact absurd (Zjo.1 (show 0 < qs f.q by omega)) A
      ·omega
     have d:Hid (XQ p s (zL p s) D (k+1)=XQ p s (zL p s) D k):=JZ (Zbl (by rw [HQ.out];exact A));clear aa A ap a9;go_wp2;go_roundw
     case rel=>exact ⟨k+1,by omega,by go_num,by rw [d.out],N,⟨_,_,_,_,ac⟩,fun t ht=>by
      rw [d.out] at ht;exact ⟨by have:=(a4.out t ht).1;omega,(a4.out t ht).2⟩⟩
     case measure=>simp [intOf];omega
   ·obtain rfl:m=k:=by omega
    go_wp2;go_ret;exact ⟨by rw [bn.out,al.out];rfl,B⟩
section
namespace Pl
theorem leav_ne {p:LPd} {s:LSt} {Z D:List RF} {i:Nat} (h:Zeh p s Z D=some i):i < D.length∧qAt D i≠0:=by
 refine ⟨Zzg h,fun e=>?_⟩;have hb:XQ p s Z D D.length=some i→False:=fun hb=>by
  have:=(V5 hb).2;rw [e] at this;exact absurd this (by decide)
 by_cases hp:s.phase=2
 ·cases hf:YJ (Zwg s D) 0 D.length with
  | none=>rw [Zvn hp hf] at h;exact hb h
  | some t=>
   rw [Zvm hp hf] at h;injection h with h;subst h;have:=(XI hf).2.2.1;unfold Zwg at this;rw [if_neg fun g=>g.2 e] at this;exact absurd this (by decide)
 ·rw [Zvl hp] at h;exact hb h
def zP (i:Nat) (q:Rat) (d z:Nat→Rat) (k:Nat):Nat→Rat:=fun r=>if r < k∧r≠i then z r - q * d r else z r
theorem zP_zero {i:Nat} {q:Rat} {d z:Nat→Rat}:zP i q d z 0=z:=by funext r;unfold zP;rw [if_neg (by omega)]
theorem zP_skip {i k:Nat} {q:Rat} {d z:Nat→Rat} (h:k=i∨d k=0) (r:Nat):zP i q d z k r=zP i q d z (k+1) r:=by
 unfold zP;by_cases e:r=k
 ·subst e;rw [if_neg (by omega)];rcases h with h | h
  ·rw [if_neg (by omega)]
  ·rw [h];split <;> grind
 ·by_cases e2:r < k∧r≠i
  ·rw [if_pos e2,if_pos ⟨by omega,e2.2⟩]
  ·rw [if_neg e2,if_neg (by omega)]
theorem zP_next {i k:Nat} {q:Rat} {d z:Nat→Rat} (h:k≠i) (r:Nat):zP i q d z (k+1) r=if r=k then z k - q * d k else zP i q d z k r:=by
 unfold zP;by_cases e:r=k
 ·subst e;rw [if_pos rfl,if_pos ⟨by omega,h⟩]
 ·rw [if_neg e];by_cases e2:r < k∧r≠i
  ·rw [if_pos e2,if_pos ⟨by omega,e2.2⟩]
  ·rw [if_neg e2,if_neg (by omega)]
theorem zP_at {i k:Nat} {q:Rat} {d z:Nat→Rat}:zP i q d z k k=z k:=by unfold zP;rw [if_neg (by omega)]
theorem zL_pre {p:LPd} {s:LSt} {i j:Nat} (hr:Reg p s) (hi:i < p.right.length) (hb:i < s.basis.length) (h0:qAt (dirL p s (j:Int)) i≠0):
 zL p (Zry s i (j:Int))=Yj p.right.length fun r=>if r=i then qAt (zL p s) i / qAt (dirL p s (j:Int)) i else zP i (qAt (zL p s) i / qAt (dirL p s (j:Int)) i) (qAt (dirL p s (j:Int))) (qAt (zL p s)) p.right.length r:=by
 unfold zL;rw [Zpd hb];refine Zne (Zjs hi hr (Zpc hr (j:Int)) h0) ?_;refine Zog hi (Zpc hr (j:Int)) h0 (Yfm hr) ?_ fun r hr' hne=>?_
 ·simp only [if_pos];rfl
 ·simp only [if_pos,if_neg hne];unfold zP;rw [if_pos ⟨hr',hne⟩];show qAt (zL p s) r - _ * _=qAt (zL p s) r - _ * _;grind
end Pl
def PivAt (U w0:World) (e:Nat) (p:LPd) (s:LSt) (K i:Nat) (vd:Value) (D:List RF) (gm:Nat) (q:Rat) (gB gb cb gz cz bB bi:Nat) (A:Option Addr) (n c:Nat) (A':Option Addr) (n' c':Nat) (A'':Option Addr) (n'' c'':Nat) (Am:Option Addr) (nm cm:Nat) (Am':Option Addr) (nm' cm':Nat) (j:Nat) (z:Nat→Rat) (w:World):Prop:=
 Bk w e 129 [.slice A n c,.slice A' n' c',.slice A'' n'' c'',.int .i64 s.phase,.slice (some ⟨gb,0,none⟩) p.right.length cb,.int .i64 s.pivots,.pointer (some ⟨gB,0,none⟩),.slice (some ⟨gz,0,none⟩) p.right.length cz]∧
  ZN U.heap.size w (.slice (some ⟨gb,0,none⟩) p.right.length cb) s.basis∧Zna bB bi w gB p.right.length K ((Zry s i (j:Int)).mat p)∧Z4 U.heap.size w (.slice (some ⟨gz,0,none⟩) p.right.length cz) (Yj p.right.length z)∧Z4 w0.heap.size w vd D∧
  (Bk w gm 46 [.bool (canF q).num.neg,.slice Am nm cm,.bool (canF q).den.neg,.slice Am' nm' cm']∧Zt w (.agg #[.bool (canF q).num.neg,.slice Am nm cm,.bool (canF q).den.neg,.slice Am' nm' cm']) (canF q))∧Below U.heap.size U w∧w0.heap.size≤w.heap.size
section
variable {U w0:World} {e:Nat} {p:LPd} {s:LSt} {K i:Nat} {vd:Value} {D:List RF} {gm:Nat} {q:Rat} {gB gb cb gz cz bB bi:Nat} {A:Option Addr} {n c:Nat} {A':Option Addr} {n' c':Nat} {A'':Option Addr} {n'' c'':Nat} {Am:Option Addr} {nm cm:Nat} {Am':Option Addr} {nm' cm':Nat} {j:Nat} {z z':Nat→Rat} {w w':World}
theorem PivAt.below (h:PivAt U w0 e p s K i vd D gm q gB gb cb gz cz bB bi A n c A' n' c' A'' n'' c'' Am nm cm Am' nm' cm' j z w) (hb:Below w.heap.size w w'):PivAt U w0 e p s K i vd D gm q gB gb cb gz cz bB bi A n c A' n' c' A'' n'' c'' Am nm cm Am' nm' cm' j z w':=by
 obtain ⟨h1,h2,h3,h4,h5,⟨h6,h7⟩,h8,h9⟩:=h;have:=hb.size;exact ⟨h1.later hb,h2.below hb,h3.below hb,h4.below hb,h5.below hb,⟨h6.later hb,h7.below hb⟩,Za h8 hb h8.size,by omega⟩
theorem PivAt.setZ (h:PivAt U w0 e p s K i vd D gm q gB gb cb gz cz bB bi A n c A' n' c' A'' n'' c'' Am nm cm Am' nm' cm' j z w) (hgz:gz < bi) (hgw:gz < w0.heap.size) (hgm:gz≠gm) {k:Nat} (hk:k < p.right.length) {x1 x2 x3 x4:Value} {y:Rat} (hy:Zt w (.agg #[x1,x2,x3,x4]) (canF y)) (hz:∀r,r < p.right.length→z' r=if r=k then y else z r):
 PivAt U w0 e p s K i vd D gm q gB gb cb gz cz bB bi A n c A' n' c' A'' n'' c'' Am nm cm Am' nm' cm' j z' ((((w.setCell ⟨gz,k * 4,none⟩ x1).setCell ⟨gz,k * 4+1,none⟩ x2).setCell ⟨gz,k * 4+2,none⟩ x3).setCell ⟨gz,k * 4+3,none⟩ x4):=by
 obtain ⟨h1,h2,h3,h4,h5,⟨h6,h7⟩,h8,h9⟩:=h;obtain ⟨g4,a⟩:=h4.set_ (k:=k) (by rw [Zm];exact hk) hy;have ho:=Yq (w:=w) (g:=gz) (i:=k * 4) (j:=k * 4+1) (k:=k * 4+2) (l:=k * 4+3) (x:=x1) (y:=x2) (z:=x3) (u:=x4);have hu:U.heap.size≤gz:=by
  obtain ⟨cs,hh,_⟩:=h4;have hn:p.right.length=(Yj p.right.length z).length:=(Zm _ _).symm;rw [← hn] at hh;obtain ⟨_,_,e3⟩:=Yl hh;exact e3
 rw [Vg hk,ZT (g:=z') fun r hr=>(hz r hr).symm] at g4;exact ⟨a.bk h1 (by decide),h2.but a (by decide),h3.farF ho a hgz,g4,h5.others ho (a.keep (by decide)) (fun b hb e=>by have:=h5.own_ge b hb;injection e with e;omega),⟨ho.bk h6 (by intro e;injection e with e;omega),h7.keep (a.keep (by decide))⟩,Zw h8 hu _ _ _ _ _ _ _ _,by simpa using h9⟩
theorem PivAt.congr (h:PivAt U w0 e p s K i vd D gm q gB gb cb gz cz bB bi A n c A' n' c' A'' n'' c'' Am nm cm Am' nm' cm' j z w) (hz:∀r,r < p.right.length→z r=z' r):PivAt U w0 e p s K i vd D gm q gB gb cb gz cz bB bi A n c A' n' c' A'' n'' c'' Am nm cm Am' nm' cm' j z' w:=by
 obtain ⟨h1,h2,h3,h4,h5⟩:=h;exact ⟨h1,h2,h3,by rw [← ZT hz];exact h4,h5⟩
end
theorem pivot_own (U w0:World) (e:Nat) (p:LPd) (s:LSt) (K j:Nat) (vd:Value) (w:World) (h:Zwa U w0 e p s K) (hb0:Below w0.heap.size w0 w) (hd:Z4 w0.heap.size w vd (dirL p s (j:Int))) (hj:j < p.cols.length) (S:s.Fit p) (F:p.Ft K) (hz:lpErr p=0) (hpv0:0≤s.pivots) (hpv:s.pivots+1≤9223372036854775807):
 Calls Tryz.prog 57 #[.pointer (some ⟨e,0,none⟩),.int .i64 (j:Int),vd] w fun o w'=>(∃i,Zeh p s (zL p s) (dirL p s (j:Int))=some i∧o= .returned (.bool true)∧Zwa U w' e p (ZB p (Zry s i (j:Int))) K)∨(Zeh p s (zL p s) (dirL p s (j:Int))=none∧o= .returned (.bool false)∧Zwa U w' e p s K):=by
 have HH:=JZ (h.below hb0);have HR:=JZ h.r.reg;have bn:(dirL p s (j:Int)).length=p.right.length:=Znc HR.out _;obtain ⟨Ad,nd,cd,rfl⟩:=hd.sliceN;have HD:=JZ hd;obtain ⟨A,n,c,A',n',c',b6,b7,b8,Ab,cb,gB,vz,cl,cn⟩:=h;obtain ⟨es,E⟩:=Xb (cs:=p.cols) (i:=j) hj;obtain ⟨z1,z2,z3,z4,z5⟩:=YA hz;have HC:=JZ (LPd.col_pos E);have da:Hid (Pl.Good p.right.length es):=JZ ⟨z4 j es E,(z5 j es E).2,(z5 j es E).1⟩;have db:=JZ (F.1.ok.2.2 j es E).2;have dc:=JZ E;have HS:=JZ S;have HF:=JZ F;have dd:=JZ (cl.later hb0);have de:=JZ cn;have bo:=JZ hb0;have e0:=F.2.1;clear hb0 hd cl cn E z1 z2 z3 z4 z5 hz S F;go_enter Tryz.func57,Tryz.ntmps57;go_wp2_with fail;refine (leaving_any e p s K _ (dirL p s (j:Int)) _ HH.out.r HD.out.frs bn (Yal HF.out.1 s _) HS.out HF.out).mono ?_;rintro _ w1 ⟨rfl,L⟩
 cases hlv:Zeh p s (zL p s) (dirL p s (j:Int)) with
 | none=>
  have C:=HH.out.below L;clear L;simp only [oi]
  go_upto_region 2 with (fail)
  have a:=Zj w1;refine Zq 19 [0,1,2,3,4,5,6,7,8,9,10,11,12,13,14,15,16,17,18] (by kernel_rfl) (by kernel_rfl) ?_;repeat ((first | (refine Zc (v:=?_) rfl rfl rfl ?_ ?_;rotate_left;(· (intro _ d;go_simp;(try go_bits);(try with_reducible rfl)))) | (refine Zg (v:=?_) rfl rfl rfl ?_ ?_;rotate_left;(· (intro _ d;go_simp;(try go_bits);(try with_reducible rfl)))) | refine Zh rfl rfl rfl ?_ | refine Yy rfl rfl rfl (by assumption) ?_);(try simp only [Act.put,pu1,pu2,pu3,pu4,pu5,pu6]))
  refine Zz ?_;have M:=C.below a;go_wp2;go_ret;exact .inr ⟨hlv,rfl,M⟩
 | some i=>
  simp only [oi];have bp:=leav_ne hlv;rw [bn] at bp;obtain ⟨hi,b9⟩:=bp;have bq:=JZ b9;have dg:i < s.basis.length:=by rw [HS.out.2];exact hi
  have a6:=JZ dg;obtain ⟨bB,bi,⟨g1,g2,g3⟩,⟨q1,q2,q3,q4⟩,ba,aq,R,T,bb,bd⟩:=de.out;have m:=Za bo.out L bo.out.size;have a7:=Za bd m bd.size;have dh:=m.size;obtain ⟨gb,ds,co,cp,du,-,-⟩:=ba.shape (by omega);rw [HS.out.2] at co;injection co with a1 a2 a3;subst a1;clear a2 a3 ds;have br:zL p s=Yj p.right.length (qAt (zL p s)):=Zne HR.out (Yfm HR.out);have bs:dirL p s (j:Int)=Yj p.right.length (qAt (dirL p s (j:Int))):=Zne HR.out fun r hr=>by rw [YH hr];exact Zpc HR.out (j:Int) r hr
  obtain ⟨zf,be⟩:∃zf,zf=qAt (zL p s):=⟨_,rfl⟩;obtain ⟨df,bf⟩:∃df,df=qAt (dirL p s (j:Int)):=⟨_,rfl⟩;rw [br,← be] at T;obtain ⟨gz,cz,rfl,dv,ar,cq,dw⟩:=T.shape (by rw [Zm];omega);have a8:=HD.out.below L;rw [bs,← bf] at a8;obtain ⟨gd,e5,cr,dx,dy,ct,dz⟩:=a8.shape (by rw [Zm];omega);rw [Zm] at cr ct;injection cr with a1 a2 a3;subst a1 a2 a3;rw [Zm] at T cq bb;have au:=JZ be;have a9:=JZ bf;have ah:=bb gz rfl;have bt:=aq gb rfl;obtain ⟨bc,oc,Ac,cc,rfl,-,x0,cu⟩:=g2.elem a7 dc.out;obtain ⟨l1,l2,l3⟩:=g2.len;have e1:(j:Int) < n':=by omega
  have e2:(i:Int) < p.right.length:=by omega
  have ai:=R.below m;have C:=dd.out.later L;rw [Zm] at C;have y6:=C.cellAt 6 rfl;have y1:=C.cellAt 1 rfl;have bu:∀r,r < p.right.length→Xz p.right.length (s.mat p) (qAt (dirL p s (j:Int))) r=Wl es r:=fun r hr=>by rw [← HC.out];exact Zpc HR.out (j:Int) r hr
  have HG:=JZ (⟨g1,g2,g3⟩:_∧_∧_);have aj:=T.below m;have ak:=ba.below m;have dj:bB≤w1.heap.size:=by omega
  have dt:bi≤w1.heap.size:=by omega
  clear g1 g2 g3 l1 ba aq R T bb bd br bs be bf
  go_upto_region 2 with (fail)
  have C0:=Zp y6;have C1:=Zp y1;have C2:=Zp x0;have a:=Zj w1;clear y6 y1 x0;refine Zq 16 [0,1,2,3,4,5,6,7,8,9,10,11,12,13,14,15,16,17,18] (by kernel_rfl) (by kernel_rfl) ?_;repeat ((first | (refine Zc (v:=?_) rfl rfl rfl ?_ ?_;rotate_left;(· (intro _ d;go_simp;(try go_bits);(try with_reducible rfl)))) | (refine Zg (v:=?_) rfl rfl rfl ?_ ?_;rotate_left;(· (intro _ d;go_simp;(try go_bits);(try with_reducible rfl)))) | refine Zh rfl rfl rfl ?_ | refine Yy rfl rfl rfl (by assumption) ?_);(try simp only [Act.put,pu1,pu2,pu3,pu4,pu5,pu6]))
  refine Zd rfl rfl (fun KR hKR=>?_);go_simp;with_reducible refine (replace_own bB bi gB p.right.length K (s.mat p) _ es i (qAt (dirL p s (j:Int))) _ (ai.below a) (cu.below a) da.out db.out hi bu b9 (by have:=a.size;omega) (by have:=a.size;omega)).mono ?_
  rintro _ w2 ⟨rfl,d5,a0,a4⟩;refine hKR.out _ _ (Or.inl (by decide)) ?_;clear hKR KR;(try simp only [Act.put,pu1,pu2,pu3,pu4,pu5,pu6]);refine Zd rfl rfl (fun KR hKR=>?_);go_simp;refine hKR.out _ _ (Or.inl (by decide)) ?_;clear hKR KR;(try simp only [Act.put,pu1,pu2,pu3,pu4,pu5,pu6]);refine Zd rfl rfl (fun KR hKR=>?_);go_simp;refine hKR.out _ _ (Or.inl (by decide)) ?_;clear hKR KR;(try simp only [Act.put,pu1,pu2,pu3,pu4,pu5,pu6]);refine Zz ?_;clear C0 C1 C2;have M:=a4.bk (C.later a) (by decide) (by decide) (by decide);have al:=a4.ints (ak.below a);have N:=a4.frs (aj.below a);have av:=a4.frs (a8.below a);have aw:=(Za a7 a a7.size).trans (a0.mono q2);have bv:w0.heap.size≤w2.heap.size:=JW dh (JW a.size a0.size);have am:Zna bB bi w2 gB p.right.length K ((Zry s i (j:Int)).mat p):=by rw [Zpd a6.out,HC.out];exact d5
  clear C ak aj a8 ai cu a a0 a4 d5 bu L a7 m;obtain ⟨b5,o5,A5,n5,c5,A6,n6,c6,hA,-,⟨z0,z1,z2,z3⟩,y⟩:=N.frs.elem (JR _ _) (ZK hi);injection hA with hA;injection hA with hA1 hA2;subst hA1;subst hA2;obtain ⟨b5,o5,A7,n7,c7,A8,n8,c8,hA,-,⟨d0,d1,d2,d3⟩,t⟩:=av.frs.elem (JR _ _) (ZK hi);injection hA with hA;injection hA with hA1 hA2;subst hA1;subst hA2;simp only [Nat.zero_add] at z0 z1 z2 z3 d0 d1 d2 d3;have y7:=M.cellAt 7 rfl;obtain ⟨zi,V⟩:∃zi,zi=zf i:=⟨_,rfl⟩;obtain ⟨di,H⟩:∃di,di=df i:=⟨_,rfl⟩;obtain ⟨q,ad⟩:∃q,q=zi / di:=⟨_,rfl⟩;have bw:Hid (zi / di=q):=JZ ad.symm;have HQ:Hid (q=qAt (zL p s) i / qAt (dirL p s (j:Int)) i):=JZ (by rw [ad,V,H,au.out,a9.out]);have HJ:Hid (1≤5^p.right.length * K∧5^p.right.length * K≤4000000):=JZ ⟨JW HF.out.1.k1 HF.out.1.le,HF.out.2.2⟩;have ax:Hid (∀r,Sz (5^p.right.length * K) (zf r)):=JZ fun r=>by rw [au.out];exact (Ygw HF.out.1 s).qAt HJ.out.1 r
  have aa:Hid (∀r,Sz (5^p.right.length * K) (df r)):=JZ fun r=>by rw [a9.out];exact (Yal HF.out.1 s _).qAt HJ.out.1 r
  have bx:Hid (Sz (2 * (5^p.right.length * K)) q):=JZ (by rw [ad,V,H];exact (Zje (ax.out i) (aa.out i)).mono (by omega));have G:(canF zi).Sm:=by rw [V];exact (ax.out i).rs.sm (by have:=HJ.out;omega)
  have ay:(canF di).Sm:=by rw [H];exact (aa.out i).rs.sm (by have:=HJ.out;omega)
  have az:(canF di).q≠0:=by rw [Zu,H,a9.out];exact bq.out
  rw [← V] at z0 z2 y;rw [← H] at d0 d2 t;clear V H ad b9
  go_upto_region 4 with (fail)
  go_cut [8] (fun s8 wx=>Zva w2 (canF q) s8 wx)
  case first=>
   have C0:=Zp z0;have C1:=Zp z1;have C2:=Zp z2;have C3:=Zp z3;have D0:=Zp d0;have D1:=Zp d1;have D2:=Zp d2;have D3:=Zp d3;have E0:=Zp y7;have a:=Zj w2;clear z0 z1 z2 z3 d0 d1 d2 d3 y7;refine XF 16 (.go 0 (.go 1 (.go 2 (.go 3 (.go 4 (.go 5 (.go 6 (.go 7 (.go 8 (.go 9 (.go 10 (.fork 11 (.go 12 (.go 13 (.go 14 (.go 15 (.go 16 (.go 17 .done)))))) 15 (.go 11 (.go 12 (.go 13 (.go 14 (.go 16 (.go 17 .done)))))))))))))))))) (by kernel_rfl) (by kernel_rfl) ?_;repeat ((first | (refine Z6 (v:=?_) rfl rfl rfl ?_ ?_;rotate_left;(· (intro _ d;go_simp;(try go_bits);(try with_reducible rfl)))) | (refine Yr (v:=?_) rfl rfl rfl ?_ ?_;rotate_left;(· (intro _ d;go_simp;(try go_bits);(try with_reducible rfl)))) | refine Yt rfl rfl rfl ?_ | refine Z8 rfl rfl rfl (by assumption) ?_);(try simp only [Act.put,pu1,pu2,pu3,pu4,pu5,pu6]))
   refine WT rfl rfl (fun KR hKR=>?_) (fun KR hKR=>?_)
   ·go_simp;(with_reducible refine (VY _ _ (canF zi) (canF di) _ (y.below a) (t.below a) G ay az).mono ?_);rw [Zu,Zu,bw.out];rintro _ wA ⟨vA,rfl,eA,af⟩;have D:=Za a af a.size;obtain ⟨A6,n6,c6,B6,m6,d6,rfl,_,_⟩:=id eA;refine hKR.out _ _ (Or.inr D) ?_;clear hKR KR;(try simp only [Act.put,pu1,pu2,pu3,pu4,pu5,pu6]);repeat ((first | (refine Z6 (v:=?_) rfl rfl rfl ?_ ?_;rotate_left;(· (intro _ d;go_simp;(try go_bits);(try with_reducible rfl)))) | (refine Yr (v:=?_) rfl rfl rfl ?_ ?_;rotate_left;(· (intro _ d;go_simp;(try go_bits);(try with_reducible rfl)))) | refine Yt rfl rfl rfl ?_ | refine Z8 rfl rfl rfl (by assumption) ?_);(try simp only [Act.put,pu1,pu2,pu3,pu4,pu5,pu6]))
    obtain ⟨WG,bg,I,ae⟩:=YN wA (.bool false) (.slice none 0 0) (.bool false) (.slice none 0 0);refine ZA rfl rfl (fun KR hKR=>?_);go_simp;have b0:=D.size;have u:=Za D ae D.size;refine hKR.out _ _ (Or.inr u) ?_;clear hKR KR bg;(try simp only [Act.put,pu1,pu2,pu3,pu4,pu5,pu6]);have dl:=eA.below ae;obtain ⟨t0,t1,t2,t3⟩:=I.four;obtain ⟨f0,f1,f2,f3⟩:=I.fourF;refine ZA rfl rfl (fun KR hKR=>?_);go_simp;refine hKR.out _ _ (Or.inl (by decide)) ?_;clear hKR KR;(try simp only [Act.put,pu1,pu2,pu3,pu4,pu5,pu6]);refine ZA rfl rfl (fun KR hKR=>?_);go_simp;refine hKR.out _ _ (Or.inl (by decide)) ?_;clear hKR KR;(try simp only [Act.put,pu1,pu2,pu3,pu4,pu5,pu6]);refine YM ?_;go_wp2_with fail
    go_meet
    exact Zva.mk I dl u b0
   ·obtain ⟨WG,bg,I,ae⟩:=YN w2.drew (.bool false) (.slice none 0 0) (.bool false) (.slice none 0 0);go_simp;have b0:=a.size;have u:=Za a ae a.size;refine hKR.out _ _ (Or.inr u) ?_;clear hKR KR bg;(try simp only [Act.put,pu1,pu2,pu3,pu4,pu5,pu6])
    change Bk WG w2.heap.size 46 _ at I
    refine ZA rfl rfl (fun KR hKR=>?_);go_simp;(with_reducible refine (VY _ _ (canF zi) (canF di) _ (y.below u) (t.below u) G ay az).mono ?_);rw [Zu,Zu,bw.out];rintro _ wA ⟨vA,rfl,eA,af⟩;have D:=Za u af u.size;obtain ⟨A6,n6,c6,B6,m6,d6,rfl,_,_⟩:=id eA;refine hKR.out _ _ (Or.inr D) ?_;clear hKR KR;(try simp only [Act.put,pu1,pu2,pu3,pu4,pu5,pu6]);have hG:=I.later af;repeat ((first | (refine Z6 (v:=?_) rfl rfl rfl ?_ ?_;rotate_left;(· (intro _ d;go_simp;(try go_bits);(try with_reducible rfl)))) | (refine Yr (v:=?_) rfl rfl rfl ?_ ?_;rotate_left;(· (intro _ d;go_simp;(try go_bits);(try with_reducible rfl)))) | refine Yt rfl rfl rfl ?_ | refine Z8 rfl rfl rfl (by assumption) ?_);(try simp only [Act.put,pu1,pu2,pu3,pu4,pu5,pu6]))
    obtain ⟨t0,t1,t2,t3⟩:=hG.four;obtain ⟨f0,f1,f2,f3⟩:=hG.fourF;refine ZA rfl rfl (fun KR hKR=>?_);go_simp;refine hKR.out _ _ (Or.inl (by decide)) ?_;clear hKR KR;(try simp only [Act.put,pu1,pu2,pu3,pu4,pu5,pu6]);refine ZA rfl rfl (fun KR hKR=>?_);go_simp;refine hKR.out _ _ (Or.inl (by decide)) ?_;clear hKR KR;(try simp only [Act.put,pu1,pu2,pu3,pu4,pu5,pu6]);refine YM ?_;go_wp2_with fail
    go_meet
    exact Zva.mk hG eA D b0
  case rest=>
   obtain ⟨gm,Am,nm,cm,bh,bj,bl,rfl,e8,B,cv,f⟩:=hcut;have b1:PivAt U w0 e p s K i (.slice (some ⟨gd,0,none⟩) p.right.length cd) (Yj p.right.length df) gm q gB gb cb gz cz bB bi A n c (some ⟨bc,oc,none⟩) n' c' b6 b7 b8 Am nm cm bh bj bl j (zP i q df zf 0) wc:=⟨M.later f,al.below f,am.below f,by rw [zP_zero];exact N.below f,av.below f,⟨B,cv⟩,Za aw f aw.size,JW bv f.size⟩;have an:gz≠gm:=(by omega);have bz:=JZ b1;have y7:=b1.1.cellAt 7 rfl;clear z0 z1 z2 z3 d0 d1 d2 d3 M al am N av B cv f aw y t G ay az b1;go_wp2;clear y7
   go_loopw [53] (fun x wr=>∃k:Nat,k≤p.right.length∧x= .int .i64 k∧PivAt U w0 e p s K i (.slice (some ⟨gd,0,none⟩) p.right.length cd) (Yj p.right.length df) gm q gB gb cb gz cz bB bi A n c (some ⟨bc,oc,none⟩) n' c' b6 b7 b8 Am nm cm bh bj bl j (zP i q df zf k) wr) (fun x _=>p.right.length - (intOf x).toNat)
   case atStart=>exact ⟨0,by omega,rfl,bz.out⟩
   case round=>
    clear bz;obtain ⟨k,hk,rfl,hP⟩:=hrel;have HP:=JZ hP;rcases JX k p.right.length with hkl | hkl
    ·have e3:(k:Int) < p.right.length:=(by omega);obtain ⟨hE,-,-,-,J,-,-,cw⟩:=hP;by_cases ag:k=i
     ·have b2:Hid (∀r,r < p.right.length→zP i q df zf k r=zP i q df zf (k+1) r):=JZ fun r _=>zP_skip (.inl ag) r
      clear hE J;subst ag;go_wp2;go_roundw
      case rel=>exact ⟨k+1,by omega,by go_num,HP.out.congr b2.out⟩
      case measure=>simp [intOf];omega
     ·have dm:=JZ ag;have dn:(k:Int)≠i:=(by omega);obtain ⟨b5,o5,A7,n7,c7,A8,n8,c8,hA,-,⟨d0,d1,d2,d3⟩,t⟩:=J.frs.elem (JR _ _) (ZK hkl);injection hA with hA;injection hA with hA1 hA2;subst hA1;subst hA2;simp only [Nat.zero_add] at d0 d1 d2 d3;have c4:qs (df k)=0∨qs (df k)=1∨qs (df k)= -1:=(by have:=Ul (df k);omega);clear hE J;by_cases a5:qs (df k)=0
      ·have b2:Hid (∀r,r < p.right.length→zP i q df zf k r=zP i q df zf (k+1) r):=JZ fun r _=>zP_skip (.inr (Yp.1 a5)) r
       clear c4;go_wp2_with fail;refine (Zx _ (canF (df k)) _ t).mono ?_;rw [Zu,a5];rintro _ w3 ⟨rfl,f⟩;have dp:=(HP.out.below f).congr b2.out;clear f t d0 d1 d2 d3 a5 HP;go_wp2;go_roundw
       case rel=>exact ⟨k+1,by omega,by go_num,dp⟩
       case measure=>simp [intOf];omega
      ·have dq:(qs (df k) !=0)=true:=(by simpa using a5);clear c4 a5;go_wp2_with fail;refine (Zx _ (canF (df k)) _ t).mono ?_;rw [Zu];rintro _ w3 ⟨rfl,f⟩;have b3:=JZ (HP.out.below f);clear f t d0 d1 d2 d3 HP;obtain ⟨hE,-,-,hZ,J,⟨B,X⟩,-,cx⟩:=b3.out;obtain ⟨b5,o5,A7,n7,c7,A8,n8,c8,hA,-,⟨d0,d1,d2,d3⟩,bm⟩:=J.frs.elem (JR _ _) (ZK hkl);injection hA with hA;injection hA with hA1 hA2;subst hA1;subst hA2;obtain ⟨b5,o5,A5,n5,c5,A6,n6,c6,hA,-,⟨z0,z1,z2,z3⟩,y⟩:=hZ.frs.elem (JR _ _) (ZK hkl);injection hA with hA;injection hA with hA1 hA2;subst hA1;subst hA2;simp only [Nat.zero_add] at d0 d1 d2 d3 z0 z1 z2 z3;obtain ⟨t0,t1,t2,t3⟩:=B.four;have y7:=hE.cellAt 7 rfl;obtain ⟨zk,Y⟩:∃zk,zk=zP i q df zf k k:=⟨_,rfl⟩;obtain ⟨dk,Z⟩:∃dk,dk=df k:=⟨_,rfl⟩;have dr:Hid (∀r,r < p.right.length→zP i q df zf (k+1) r=if r=k then zk - q * dk else zP i q df zf k r):=JZ fun r _=>by rw [zP_next dm.out,Y,zP_at,Z]
       have c9:(canF q).Sm:=bx.out.rs.sm (by have:=HJ.out;omega);have ca:(canF dk).Sm:=(by rw [Z];exact (aa.out k).rs.sm (by have:=HJ.out;omega));have G:(canF zk).Sm:=(by rw [Y,zP_at];exact (ax.out k).rs.sm (by have:=HJ.out;omega));have ce:(canF (q * dk)).Sm:=(XN bx.out (by rw [Z];exact aa.out k)).rs.sm (by have:=HJ.out;omega);have cf:(Yj p.right.length (zP i q df zf k))[k]? =some (canF zk):=(by rw [Y];exact ZK hkl);rw [← Y] at z0 z2 y;rw [← Z] at d0 d2 bm;clear hE J B Y Z
       go_upto_region 9 with (fail)
       clear dq dn ag;have C0:=Zp z0;have C1:=Zp z1;have C2:=Zp z2;have C3:=Zp z3;have D0:=Zp d0;have D1:=Zp d1;have D2:=Zp d2;have D3:=Zp d3;have T0:=Zp t0;have T1:=Zp t1;have T2:=Zp t2;have T3:=Zp t3;have E0:=Zp y7;have a:=Zj w3;clear z0 z1 z2 z3 d0 d1 d2 d3 t0 t1 t2 t3 y7;refine Zq 20 [0,1,2,3,4,5,6,7,8,9,10,11,12,13,14,15,16,17,18,19,20] (by kernel_rfl) (by kernel_rfl) ?_;repeat ((first | (refine Zc (v:=?_) rfl rfl rfl ?_ ?_;rotate_left;(· (intro _ d;go_simp;(try go_bits);(try with_reducible rfl)))) | (refine Zg (v:=?_) rfl rfl rfl ?_ ?_;rotate_left;(· (intro _ d;go_simp;(try go_bits);(try with_reducible rfl)))) | refine Zh rfl rfl rfl ?_);(try simp only [Act.put,pu1,pu2,pu3,pu4,pu5,pu6]))
       refine Zd rfl rfl (fun KR hKR=>?_);go_simp;(with_reducible refine (XJ _ _ (canF q) (canF dk) _ (X.below a) (bm.below a) c9 ca).mono ?_);rw [Zu,Zu];rintro _ w6 ⟨v6,rfl,e6,d7⟩;have O:=Za a d7 a.size;refine hKR.out _ _ (Or.inr O) ?_;clear hKR KR;(try simp only [Act.put,pu1,pu2,pu3,pu4,pu5,pu6]);repeat ((first | (refine Zc (v:=?_) rfl rfl rfl ?_ ?_;rotate_left;(· (intro _ d;go_simp;(try go_bits);(try with_reducible rfl)))) | (refine Zg (v:=?_) rfl rfl rfl ?_ ?_;rotate_left;(· (intro _ d;go_simp;(try go_bits);(try with_reducible rfl)))) | refine Zh rfl rfl rfl ?_);(try simp only [Act.put,pu1,pu2,pu3,pu4,pu5,pu6]))
       refine Zd rfl rfl (fun KR hKR=>?_);go_simp;(with_reducible refine (Vj _ _ (canF zk) (canF (q * dk)) _ (y.below O) e6 G ce).mono ?_);rw [Zu,Zu];rintro _ w7 ⟨v7,rfl,e7,d8⟩;have ab:=Za O d8 O.size;obtain ⟨B9,l9,k9,e9,ea,eb,rfl,_,_⟩:=id e7;have cg:=hZ.below ab;obtain ⟨_,_,_,_,⟨c0,c1,c2,c3⟩,⟨f0,f1,f2,f3⟩,-⟩:=cg.at_ cf;refine hKR.out _ _ (Or.inr ab) ?_;clear hKR KR;(try simp only [Act.put,pu1,pu2,pu3,pu4,pu5,pu6]);repeat ((first | (refine Zc (v:=?_) rfl rfl rfl ?_ ?_;rotate_left;(· (intro _ d;go_simp;(try go_bits);(try with_reducible rfl)))) | (refine Zg (v:=?_) rfl rfl rfl ?_ ?_;rotate_left;(· (intro _ d;go_simp;(try go_bits);(try with_reducible rfl)))) | refine Zh rfl rfl rfl ?_);(try simp only [Act.put,pu1,pu2,pu3,pu4,pu5,pu6]))
       refine Zd rfl rfl (fun KR hKR=>?_);go_simp;refine hKR.out _ _ (Or.inl (by decide)) ?_;clear hKR KR;(try simp only [Act.put,pu1,pu2,pu3,pu4,pu5,pu6]);refine Zz ?_;clear C0 C1 C2 C3 D0 D1 D2 D3 T0 T1 T2 T3 E0;have b4:=(b3.out.below ab).setZ ah ar an hkl e7 dr.out;clear hZ cg X bm y a O ab e6 e7 d7 d8 c0 c1 c2 c3 f0 f1 f2 f3 c9 ca G ce cf b3;go_wp2;go_roundw
       case rel=>exact ⟨k+1,by omega,by go_num,b4⟩
       case measure=>simp [intOf];omega
    ·obtain rfl:k=p.right.length:=by omega
     obtain ⟨hE,-,-,hZ,-,⟨B,X⟩,-,cx⟩:=hP;obtain ⟨t0,t1,t2,t3⟩:=B.four;have y7:=hE.cellAt 7 rfl;obtain ⟨_,_,_,_,⟨c0,c1,c2,c3⟩,⟨f0,f1,f2,f3⟩,-⟩:=hZ.at_ (ZK hi);clear hE hZ B
     go_upto_region 11 with (fail)
     have T0:=Zp t0;have T1:=Zp t1;have T2:=Zp t2;have T3:=Zp t3;have E0:=Zp y7;have a:=Zj wr;clear t0 t1 t2 t3 y7;refine Zq 7 [0,1,2,3,4,5,6,7] (by kernel_rfl) (by kernel_rfl) ?_;repeat ((first | (refine Zc (v:=?_) rfl rfl rfl ?_ ?_;rotate_left;(· (intro _ d;go_simp;(try go_bits);(try with_reducible rfl)))) | (refine Zg (v:=?_) rfl rfl rfl ?_ ?_;rotate_left;(· (intro _ d;go_simp;(try go_bits);(try with_reducible rfl)))) | refine Zh rfl rfl rfl ?_);(try simp only [Act.put,pu1,pu2,pu3,pu4,pu5,pu6]))
     refine Zd rfl rfl (fun KR hKR=>?_);go_simp;refine hKR.out _ _ (Or.inl (by decide)) ?_;clear hKR KR;(try simp only [Act.put,pu1,pu2,pu3,pu4,pu5,pu6]);refine Zz ?_;clear T0 T1 T2 T3 E0;have b4:=(HP.out.setZ (z':=fun r=>if r=i then q else zP i q df zf p.right.length r) ah ar an hi X (fun r _=>rfl)).below (Zj _);clear HP X a c0 c1 c2 c3 f0 f1 f2 f3;generalize ((((wr.setCell ⟨gz,i * 4,none⟩ (.bool (canF q).num.neg)).setCell ⟨gz,i * 4+1,none⟩ (.slice Am nm cm)).setCell ⟨gz,i * 4+2,none⟩ (.bool (canF q).den.neg)).setCell ⟨gz,i * 4+3,none⟩ (.slice bh bj bl)).drew=W8 at *;obtain ⟨hE,hI,hB,hZ,-,-,hU,cw⟩:=b4;obtain ⟨zz,cy⟩:=Xx (l:=s.basis) (i:=i) a6.out;obtain ⟨u0,u1,-,-⟩:=hI.at_ cy;have e4:=HF.out.1.cols;obtain ⟨d4,k9⟩:=hI.set_ (k:=i) (z:=(j:Int)) a6.out (by omega) (by omega);have ch:=hB.farI (ZW.of_set (g:=gb) (i:=i) (v:= .int .i64 (j:Int)) (w:=W8)) k9 bt;have ci:=hZ.but k9 (by decide) (by decide);have P:=k9.bk hE (by decide);have cj:=hU.setCell (p:=⟨gb,i,none⟩) cp (.int .i64 (j:Int));have y4:=hE.cellAt 4 rfl;clear hI hB hZ hU k9 hE cy
     go_upto_region 13 with (fail)
     clear y4 u0 u1;have ao:w0.heap.size≤(W8.setCell ⟨gb,i,none⟩ (.int .i64 (j:Int))).heap.size:=(by simpa using cw);generalize W8.setCell ⟨gb,i,none⟩ (.int .i64 (j:Int))=W9 at *;have y5:=P.cellAt 5 rfl;have f5:=P.frozen 5;have ac:=Ze.setCell P 5 (.int .i64 (s.pivots+1));have ap:=P.set_ 5 (.int .i64 (s.pivots+1));have ck:Zwa U (W9.setCell ⟨e,5,none⟩ (.int .i64 (s.pivots+1))) e p (Zry s i (j:Int)) K:=by
      refine ⟨A,n,c,_,n',c',b6,b7,b8,_,cb,gB,_,ap,bB,bi,HG.out,⟨q1,q2,by have:=ao;simp;omega,by have:=ao;simp;omega⟩,d4.but ac (by decide),fun b hb=>?_,ch.but ac (by decide) (by decide) (by decide) (by decide) (by decide) (by decide) (by decide),?_,fun b hb=>?_,cj.setCell (p:=⟨e,5,none⟩) q1 _⟩
      ·simp [Value.ownBlock] at hb;omega
      ·rw [zL_pre HR.out hi a6.out bq.out,← HQ.out,← au.out,← a9.out];exact ci.but ac (by decide) (by decide)
      ·simp [Value.ownBlock] at hb;omega
     clear P ap d4 ch ci cj ac;go_wp2_with fail;clear y5 f5;refine (Zru U e p (Zry s i (j:Int)) K _ ck HF.out).mono ?_;rintro _ ec ⟨rfl,d9⟩;clear ck;go_wp2;go_ret;exact .inl ⟨i,hlv,rfl,d9⟩
end
theorem state_any (U:World) (e:Nat) (p:LPd) (s:LSt) (K:Nat) (w:World) (h:Zwa U w e p s K) (F:p.Ft K) (S:s.Fit p):
 Calls Tryz.prog 55 #[.pointer (some ⟨e,0,none⟩)] w fun o w'=>∃v',o= .returned v'∧StO w.heap.size w' v' s∧Below w.heap.size w w':=by
 obtain ⟨Ab,cb,base,bi,gB,vz,h1,h2,h3,h4⟩:=h.r;obtain ⟨y3,y4,y5,-,-⟩:=h1.cells;have j:s.basis.length≤1099511627776:=by rw [S.2];have:=F.2.1;omega
 obtain ⟨W,hW,hT,hb⟩:∃W,w.alloc (.cells #[.int .i64 0,.slice none 0 0,.int .i64 0] 29)=W∧Bk W w.heap.size 29 [.int .i64 0,.slice none 0 0,.int .i64 0]∧Below w.heap.size w W:=⟨_,rfl,Bk.new w _ _,Zb w _⟩;have f:=Zf hb y3;have g:=Zf hb y4;have i:=Zf hb y5;have k:=h2.below hb;have l:=hT;clear h h1 h2 h3 h4 y3 y4 y5 F S;go_enter Tryz.func55,Tryz.ntmps55
 go_upto_region 1 with (fail)
 clear hW;have C0:=Zp f;have C1:=Zp g;have C2:=Zp i;have a:=Zj W;clear f g i;refine Zq 14 [0,1,2,3,4,5,6,7,9,10,11,12,8,13,14] (by kernel_rfl) (by kernel_rfl) ?_;repeat ((first | (refine Zc (v:=?_) rfl rfl rfl ?_ ?_;rotate_left;(· (intro _ d;go_simp;(try go_bits);(try with_reducible rfl)))) | (refine Zg (v:=?_) rfl rfl rfl ?_ ?_;rotate_left;(· (intro _ d;go_simp;(try go_bits);(try with_reducible rfl)))) | refine Zh rfl rfl rfl ?_);(try simp only [Act.put,pu1,pu2,pu3,pu4,pu5,pu6]))
 refine Zd rfl rfl (fun KR hKR=>?_);go_simp;with_reducible refine (Zrv _ s.basis _ (k.below a) j).mono ?_
 rintro _ w6 ⟨v6,rfl,e6,n⟩;have c:=Za a n a.size;obtain ⟨A6,n6,c6,rfl⟩:=e6.sliceN;have b:=l.later c;obtain ⟨t0,t1,t2⟩:=b.three;obtain ⟨f0,f1,f2⟩:=b.threeF;refine hKR.out _ _ (Or.inr c) ?_;clear hKR KR;(try simp only [Act.put,pu1,pu2,pu3,pu4,pu5,pu6]);repeat ((first | (refine Zc (v:=?_) rfl rfl rfl ?_ ?_;rotate_left;(· (intro _ d;go_simp;(try go_bits);(try with_reducible rfl)))) | (refine Zg (v:=?_) rfl rfl rfl ?_ ?_;rotate_left;(· (intro _ d;go_simp;(try go_bits);(try with_reducible rfl)))) | refine Zh rfl rfl rfl ?_);(try simp only [Act.put,pu1,pu2,pu3,pu4,pu5,pu6]))
 refine Zd rfl rfl (fun KR hKR=>?_);go_simp;refine hKR.out _ _ (Or.inl (by decide)) ?_;clear hKR KR;(try simp only [Act.put,pu1,pu2,pu3,pu4,pu5,pu6]);refine Zz ?_;clear C0 C1 C2;have k0:=Ze.setCell b 0 (.int .i64 s.phase);have g0:=b.set_ 0 (.int .i64 s.phase);have k1:=Ze.setCell g0 1 (.slice A6 n6 c6);have g1:=g0.set_ 1 (.slice A6 n6 c6);have k2:=Ze.setCell g1 2 (.int .i64 s.pivots);have g2:=g1.set_ 2 (.int .i64 s.pivots);have hO:=e6.but ((k0.trans k1).trans k2) (by decide);have m:=(((Za hb c hb.size).setCell (p:=⟨w.heap.size,0,none⟩) (JY _) (.int .i64 s.phase)).setCell (p:=⟨w.heap.size,1,none⟩) (JY _) (.slice A6 n6 c6)).setCell (p:=⟨w.heap.size,2,none⟩) (JY _) (.int .i64 s.pivots);go_wp2;refine Zn Tryz.results55 Tryz.underlying29 (by kernel_rfl) rfl g2 rfl ?_;exact ⟨_,rfl,⟨A6,n6,c6,rfl,hO.monoB (JW hb.size a.size)⟩,m⟩
namespace Pl
def stL (m k:Nat):List Int:=(List.range m).map fun i:Nat=>if i < k then -1 - (i:Int) else 0
theorem stL_length {m k:Nat}:(stL m k).length=m:=by simp [stL]
theorem stL_zero {m:Nat}:stL m 0=List.replicate m 0:=by simp [stL,List.map_const']
theorem stL_next {m k:Nat}:(stL m k).set k (-1 - (k:Int))=stL m (k+1):=by
 refine List.ext_getElem (by simp [stL]) fun i h1 h2=>?_
 simp only [stL,List.getElem_set,List.getElem_map,List.getElem_range];by_cases e:k=i
 ·subst e;simp
 ·rw [if_neg e];by_cases g:i < k
  ·rw [if_pos g,if_pos (by omega)]
  ·rw [if_neg g,if_neg (by omega)]
theorem stL_all {m:Nat}:stL m m=Ydi m:=by
 unfold stL Ydi;exact List.map_congr_left fun i hi=>by rw [if_pos (List.mem_range.1 hi)]
def smSta (p:LPd):LSt:=if lpErr p=0 then ZB p (Zbu p) else ⟨0,[],0⟩
theorem smSta_no {p:LPd} (h:lpErr p≠0):smSta p=⟨0,[],0⟩:=if_neg h
theorem smSta_yes {p:LPd} (h:lpErr p=0):smSta p=ZB p (Zbu p):=if_pos h
end Pl
theorem sstart_own (v1:Value) (p:LPd) (K:Nat) (w:World) (h:LpM w v1 p) (ok:p.Ok K) (hF:lpErr p=0→p.Ft K):
 Calls Tryz.prog 19 #[v1] w fun o w'=>∃v',o= .returned (.tuple #[v',.int .i64 (lpErr p)])∧StO w.heap.size w' v' (smSta p)∧Below w.heap.size w w':=by
 obtain ⟨A,n,c,A',n',c',a0,m,a1,rfl,hc,hv,hr⟩:=id h;obtain ⟨W,hW,a2,i⟩:=Y6 w (.slice A n c) (.slice A' n' c') (.slice a0 m a1);obtain ⟨W1,ai,a3,r⟩:=Zea W (.int .i64 0) (.slice none 0 0) (.int .i64 0);have hX:=a2.later r;have a:=Za i r i.size;obtain ⟨r1,r2,r3⟩:=hr.len;have J:=JZ h;have u:=JZ (⟨ok,hF⟩:p.Ok K∧(lpErr p=0→p.Ft K));have HM:=JZ r1;obtain ⟨x0,x1,x2⟩:=hX.three;have j:w.heap.size≤W.heap.size:=i.size;clear h hc hv hr r1 a2 i r ok hF;go_enter Tryz.func19,Tryz.ntmps19;go_wp2_with fail;clear hW ai;refine (Wx _ p K _ (J.out.below a) u.out.1).mono ?_;rintro _ w3 ⟨rfl,C⟩;have v:=hX.later C;have d:=a3.later C;have b:=Za a C a.size;have a7:W.heap.size < w3.heap.size:=d.lt_;generalize W.heap.size=gr at *;clear x0 x1 x2 hX a3 a C;by_cases hz:lpErr p=0
 ·rw [hz];have HZ:=JZ hz;have M:=JZ (u.out.2 hz);have hm:m≤7:=by rw [HM.out];exact M.out.2.1
  have a8:Hid (vsErr p (Zbu p)=0):=JZ (Zvs p).vs;have am:=Zkl m (by omega);have F:=ZN.zeros w3 m (by unfold maxLen;omega);have l:=Zb w3 (.cells (zic m) 3);obtain ⟨W4,a4⟩:∃W4,w3.alloc (.cells (zic m) 3)=W4:=⟨_,rfl⟩;rw [a4] at F l;obtain ⟨W5,aj,s,t⟩:=Zea W4 (.int .i64 1) (.slice (some ⟨w3.heap.size,0,none⟩) m m) (.int .i64 0);have f:=Za b l b.size;have D:=Za f t f.size;have N:=(v.later l).later t;have O:=(d.later l).later t;have G:=(F.below t).monoB b.size;rw [← stL_zero] at G;obtain ⟨x0,x1,x2⟩:=v.three;obtain ⟨y0,y1,y2⟩:=s.three;obtain ⟨f0,f1,f2⟩:=s.threeF;have a9:w.heap.size≤w3.heap.size:=b.size;have aa:w.heap.size≤W4.heap.size:=f.size;have al:w3.heap.size≤W4.heap.size:=l.size;clear hz F l t f v d b;go_wp2;clear a4 aj x0 x1 x2 y0 y1 y2 f0 f1 f2;generalize W4.heap.size=gs at *;generalize w3.heap.size=gz at *;have kk:=Ze.setCell s 2 (.int .i64 0);have P:=s.set_ 2 (.int .i64 0);have E:=D.setCell (p:=⟨gs,2,none⟩) aa (.int .i64 0);have R:=N.set_other (g:=gs) (by omega) 2 (.int .i64 0);have S:=O.set_other (g:=gs) (by omega) 2 (.int .i64 0);have T:=G.but kk (by decide);clear N O G D kk s;generalize W5.setCell ⟨gs,2,none⟩ (.int .i64 0)=W6 at *
  go_loopw [23] (fun x wr=>∃k:Nat,k≤m∧x= .int .i64 k∧Below w.heap.size w wr∧Bk wr w.heap.size 26 [.slice A n c,.slice A' n' c',.slice a0 m a1]∧Bk wr gr 29 [.int .i64 0,.slice none 0 0,.int .i64 0]∧Bk wr gs 29 [.int .i64 1,.slice (some ⟨gz,0,none⟩) m m,.int .i64 0]∧ZN w.heap.size wr (.slice (some ⟨gz,0,none⟩) m m) (stL m k)) (fun x _=>m - (intOf x).toNat)
  case atStart=>exact ⟨0,by omega,rfl,E,R,S,P,T⟩
  case round=>
   clear E R S P T;obtain ⟨k,hk,rfl,a,hX,hR,hS,hO⟩:=hrel;obtain ⟨y0,y1,y2⟩:=hS.three;rcases JX k m with hkl | hkl
   ·have an:(k:Int) < m:=(by omega);have U: -9223372036854775808≤(-1 - (k:Int))∧(-1 - (k:Int))≤9223372036854775807:=(by omega);obtain ⟨t0,t1,-,-⟩:=hO.at_ (JQ (show k < (stL m k).length by rw [stL_length];exact hkl));obtain ⟨a5,B⟩:=hO.set_ (k:=k) (by rw [stL_length];exact hkl) U.1 U.2;rw [stL_next] at a5;have ab:=B.bk hX (by decide);have ac:=B.bk hR (by decide);have ad:=B.bk hS (by decide);have V:=a.setCell (p:=⟨gz,k,none⟩) a9 (.int .i64 (-1 - (k:Int)));clear hX hR hS hO a B;go_wp2;go_roundw
    case rel=>exact ⟨k+1,by omega,by go_num,V,ab,ac,ad,a5⟩
    case measure=>simp [intOf];omega
   ·obtain rfl:m=k:=by omega
    rw [stL_all] at hO;have X:StM wr (.agg #[.int .i64 1,.slice (some ⟨gz,0,none⟩) m m,.int .i64 0]) (Zbu p):=⟨_,_,_,rfl,by show XE _ _ (Ydi p.right.length);rw [← HM.out];exact hO.ints⟩;have ae:=JZ X;have af:Hid (∀z∈(Zbu p).basis,-9223372036854775808≤z∧z≤9223372036854775807):=JZ (by show ∀z∈Ydi p.right.length,_;rw [← HM.out];exact hO.2);obtain ⟨x0,x1,x2⟩:=hX.three;clear X hkl hk;go_wp2_with fail;refine (Zck _ _ p (Zbu p) K _ (J.out.below a) ae.out u.out.1 u.out.2 (by show (Ydi p.right.length).length≤_;rw [Zeg,← HM.out];omega) af.out).mono ?_;rintro o w8 ⟨I,ho⟩;rcases ho with ⟨he,-⟩ | ⟨-,he,-⟩ | ⟨-,-,e,rfl,hE⟩
    ·exact absurd HZ.out he
    ·exact absurd a8.out he
    ·have q:=Za a I a.size;have Y:=hR.later I;have HE:=JZ hE;clear hE hX hR hS hO x0 x1 x2 y0 y1 y2 I a;go_wp2_with fail;refine (state_any _ e p (ZB p (Zbu p)) K _ HE.out M.out (Zvs p).settle.fit).mono ?_;rintro _ w9 ⟨v9,rfl,e9,a6⟩;obtain ⟨A9,n9,c9,rfl,ak⟩:=e9;have Z:=Za q a6 q.size;have y:=Y.later a6;obtain ⟨c0,c1,c2⟩:=y.three;obtain ⟨f0,f1,f2⟩:=y.threeF;have HS:=JZ (smSta_yes HZ.out);clear Y;have k0:=Ze.setCell y 0 (.int .i64 (ZB p (Zbu p)).phase);have g0:=y.set_ 0 (.int .i64 (ZB p (Zbu p)).phase);have k1:=Ze.setCell g0 1 (.slice A9 n9 c9);have g1:=g0.set_ 1 (.slice A9 n9 c9);have k2:=Ze.setCell g1 2 (.int .i64 (ZB p (Zbu p)).pivots);have g2:=g1.set_ 2 (.int .i64 (ZB p (Zbu p)).pivots);have ag:=ak.but ((k0.trans k1).trans k2) (by decide);have H:=((Z.setCell (p:=⟨gr,0,none⟩) j (.int .i64 (ZB p (Zbu p)).phase)).setCell (p:=⟨gr,1,none⟩) j (.slice A9 n9 c9)).setCell (p:=⟨gr,2,none⟩) j (.int .i64 (ZB p (Zbu p)).pivots);go_wp2;refine Y5 Tryz.results19 Tryz.underlying29 (by kernel_rfl) rfl g2 rfl ?_;exact ⟨_,by rw [HZ.out];rfl,by rw [HS.out];exact ⟨A9,n9,c9,rfl,ag.monoB q.size⟩,H⟩
 ·have ah:(lpErr p !=0)=true:=by simpa using hz
  have HS:=JZ (smSta_no hz);obtain ⟨c0,c1,c2⟩:=d.three;obtain ⟨f0,f1,f2⟩:=d.threeF;clear hz v a7 HM;obtain ⟨L,hL⟩:∃L,lpErr p=L:=⟨_,rfl⟩;have HL:=JZ hL;rw [hL] at ah ⊢;clear hL;have k0:=Ze.setCell d 0 (.int .i64 0);have g0:=d.set_ 0 (.int .i64 0);have g1:=g0.set_ 1 (.slice none 0 0);have g2:=g1.set_ 2 (.int .i64 0);have H:=((b.setCell (p:=⟨gr,0,none⟩) j (.int .i64 0)).setCell (p:=⟨gr,1,none⟩) j (.slice none 0 0)).setCell (p:=⟨gr,2,none⟩) j (.int .i64 0);go_wp2;refine Y5 Tryz.results19 Tryz.underlying29 (by kernel_rfl) rfl g2 rfl ?_;exact ⟨_,by rw [HL.out];rfl,by rw [HS.out];exact ⟨none,0,0,rfl,ZN.nil _ _⟩,H⟩
end Go.Proofs.YtgbhebappffbdaaGreat
