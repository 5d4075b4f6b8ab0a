/- Lemmas of the claim; no condition. -/
import Derived.Test.YtidgdpkcloaheaaGreatQc2
set_option linter.all false
set_option maxRecDepth 100000
set_option maxHeartbeats 40000000
namespace Go.Proofs.YtidgdpkcloaheaaGreat
open Go.RowKit
namespace Pl
end Pl
open Pl
attribute [local go_sem ↓] Go.wp_at_zero Go.wp_at_succ
theorem wp_append_run {P:Program} {o:Oper} {a:Act} {w w':World} {K:Act→World→Prop} {Q:Exit→Act→World→Prop} {y:Nat→Option Bool} {s x:Operand} {t ty:TypeId} {v u v':Value} (hr:(Builtin.append_ #[t,t] ty #[v,u]).run P w= .ok v' w') (hty:o.type=ty) (hgd:o.guard=none) (ho:o.op= .call { callee:= .builtin .append,args:=#[s,x],argTypes:=#[t,t] })
 (hs:a.eval s=v) (hx:a.eval x=u) (h:K (a.put o.dst v') w'):if Region.wanted o y=true then Oper.wp P o a w K Q else K (a.put o.dst undef) w:=by
 subst hty;rw [if_pos (by simp [Region.wanted,hgd])];unfold Oper.wp execOp;simp only [ho,resolve,invoke,builtin,Sem.run_bind,Sem.run_pure,Result.andThen_ok,List.map_toArray,List.map_cons,List.map_nil,hs,hx,hr];exact h
theorem addr_add0 (b off j:Nat):(⟨b,off,none⟩:Addr).add j=⟨b,off+j,none⟩:=by
 unfold Addr.add;split
 ·rename_i h;subst h;rfl
 ·rfl
namespace Pl
theorem XA.uniq {n:Nat} {cols:Mx} {x y b:Nat→Rat} (hi:XA n cols) (hx:∀r,r < n→XV n cols x r=b r) (hy:∀r,r < n→XV n cols y r=b r):∀k,k < n→x k=y k:=by
 obtain ⟨z,hz,h1⟩:=Znd hi hx;obtain ⟨z',a,h2⟩:=Znd hi hy;rw [hz] at a;injection a with e;subst e;exact fun k hk=>by rw [← h1 k hk,h2 k hk]
end Pl
section
attribute [local irreducible] Yi
end
section
attribute [local irreducible] Yi
end
theorem sameVec1_any [Old] (v1 v2:Value) (es:List En) (w:World) (h:Wy w v1 es) (h2:Wy w v2 es) (hOl:Zb w:=by (repeat (first | assumption | exact Zb.up (by assumption) hOl | exact Zb.up (Hid.out (by assumption)) hOl | with_reducible refine Zb.set ?_ _ _ | with_reducible refine Zb.mk_ ?_ _ | with_reducible refine Zb.dr ?_ | with_reducible refine Zb.drN ?_ | refine Zb.up (by assumption) ?_ | refine Zb.up (Hid.out (by assumption)) ?_))):
 Calls Tryz.prog 18 #[v1,v2] w fun o w'=>o= .returned (.bool true)∧Below w.heap.size w w':=by
 have s:=hOl.le;obtain ⟨A,c,rfl,hc,u⟩:=h.shape;obtain ⟨B,d,rfl,hd,y⟩:=h2.shape;have HI:=JZ h;have HJ:=JZ h2;obtain ⟨n,hn⟩:∃n,n=es.length:=⟨_,rfl⟩;have HN:=JZ hn;rw [← hn] at hc hd ⊢;clear h h2 hn;go_enter Tryz.func18,Tryz.ntmps18;go_wp2
 go_loopw [5] (fun x wr=>∃k:Nat,k≤n∧x= .int .i64 k∧Below w.heap.size w wr) (fun x _=>n - (intOf x).toNat)
 case atStart=>exact ⟨0,by omega,rfl,JR _ _⟩
 case round=>
  obtain ⟨k,hk,rfl,hb⟩:=hrel;rcases JX k n with hkl | hkl
  ·have t:(k:Int) < n:=(by omega);obtain ⟨e,he⟩:=YS (es:=es) (i:=k) (by rw [← HN.out];exact hkl);obtain ⟨b5,o5,A5,n5,c5,A6,n6,c6,q,_,⟨x0,x1,x2,x3,x4⟩,j⟩:=HI.out.elem hb he;obtain ⟨b7,o7,A7,n7,c7,A8,n8,c8,r,_,⟨u0,u1,u2,u3,u4⟩,l⟩:=HJ.out.elem hb he;subst q r;clear he
   go_upto_region 6 with (fail)
   have C0:=Zr x0;have C1:=Zr x1;have C2:=Zr x2;have C3:=Zr x3;have C4:=Zr x4;have D0:=Zr u0;have D1:=Zr u1;have D2:=Zr u2;have D3:=Zr u3;have D4:=Zr u4;have a:=Zj wr;have hq:(e.idx !=e.idx)=false:=(by simp);clear x0 x1 x2 x3 x4 u0 u1 u2 u3 u4;refine Zt 25 [0,1,2,3,4,5,6,7,8,9,10,11,12,13,14,15,16,17,18,19,20,21,22,23,24] (by kernel_rfl) (by kernel_rfl) ?_;repeat ((first | (refine Zc (v:=?_) rfl rfl rfl ?_ ?_;rotate_left;(· (intro _ g;go_simp;(try go_bits);(try with_reducible rfl)))) | (refine Ze (v:=?_) rfl rfl rfl ?_ ?_;rotate_left;(· (intro _ g;go_simp;(try go_bits);(try with_reducible rfl)))) | refine Zf rfl rfl rfl ?_ | refine Ug rfl rfl rfl (by assumption) ?_);(try simp only [Act.put,pu1,pu2,pu3,pu4,pu5,pu6]))
   refine Zg rfl rfl (fun KR hKR=>?_);go_simp;(with_reducible refine (Zkt _ _ e.f e.f _ (j.below a) (l.below a)).mono ?_);rw [Zjr];rintro _ w6 ⟨rfl,m⟩;have b:=Za a m a.size;refine hKR.out _ _ (Or.inr b) ?_;clear hKR KR;(try simp only [Act.put,pu1,pu2,pu3,pu4,pu5,pu6]);repeat ((first | (refine Zc (v:=?_) rfl rfl rfl ?_ ?_;rotate_left;(· (intro _ g;go_simp;(try go_bits);(try with_reducible rfl)))) | (refine Ze (v:=?_) rfl rfl rfl ?_ ?_;rotate_left;(· (intro _ g;go_simp;(try go_bits);(try with_reducible rfl)))) | refine Zf rfl rfl rfl ?_ | refine Ug rfl rfl rfl (by assumption) ?_);(try simp only [Act.put,pu1,pu2,pu3,pu4,pu5,pu6]))
   refine Zv ?_;have p:=Za hb b hb.size;clear C0 C1 C2 C3 C4 D0 D1 D2 D3 D4 hb a b m j l;go_wp2;go_roundw
   case rel=>exact ⟨k+1,by omega,by go_num,p⟩
   case measure=>simp [intOf];omega
  ·obtain rfl:n=k:=by omega
   go_wp2;go_ret;exact ⟨rfl,hb⟩
theorem Wz.monoB [Old] {base base':Nat} {w:World} {v:Value} {es:List En} (h:Wz base w v es) (hb:base'≤base):Wz base' w v es:=by
 obtain ⟨cs,h1,h2⟩:=h;exact ⟨cs,WX h1 hb,h2⟩
section
attribute [local irreducible] Yi
end
theorem bcolumn_own [Old] (base bi g n K:Nat) (Cs:Mx) (j:Nat) (w:World) (hB:Zse base bi w g n K Cs) (hj:j < n) (hOl:Zb w:=by (repeat (first | assumption | exact Zb.up (by assumption) hOl | exact Zb.up (Hid.out (by assumption)) hOl | with_reducible refine Zb.set ?_ _ _ | with_reducible refine Zb.mk_ ?_ _ | with_reducible refine Zb.dr ?_ | with_reducible refine Zb.drN ?_ | refine Zb.up (by assumption) ?_ | refine Zb.up (Hid.out (by assumption)) ?_))) (hO:Old.n≤base:=by first | assumption | exact Nat.zero_le _ | omega | ((first | with_reducible refine Zb.le ?_ | with_reducible refine Zb.le1 ?_ | with_reducible refine Zb.le2 ?_ | with_reducible refine Zb.le3 ?_);repeat (first | assumption | exact Zb.up (by assumption) hOl | exact Zb.up (Hid.out (by assumption)) hOl | with_reducible refine Zb.set ?_ _ _ | with_reducible refine Zb.mk_ ?_ _ | with_reducible refine Zb.dr ?_ | with_reducible refine Zb.drN ?_ | refine Zb.up (by assumption) ?_ | refine Zb.up (Hid.out (by assumption)) ?_))):
 Calls Tryz.prog 15 #[.pointer (some ⟨g,0,none⟩),.int .i64 (j:Int)] w fun o w'=>∃v',o= .returned (.tuple #[v',.int .i64 0])∧Wz w.heap.size w' v' (spV (Cs j) n)∧Below w.heap.size w w':=by
 have u:=hOl.le;obtain ⟨T,gc,cc,k,R,C,im,V,L,Um,CC,s0,s1,s2,s3,vu,hX,⟨r,hT,hE,h⟩,hU,hF,hO,-⟩:=hB;have y0:w.cell? ⟨g,0,none⟩=some (.int .i64 (n:Int)):=hX.cellAt 0 rfl;have y1:=hX.cellAt 1 rfl;have v:=hF.n7;have p:Hid (∀i,i < n→Sz K (Cs j i)):=JZ fun i hi=>by rw [← h];exact hU.sz T (JY _) i j hi hj
 have q:Hid (K≤4000000):=JZ (JW (Nat.le_mul_of_pos_left K (Nat.pow_pos (by decide))) hE);obtain ⟨b5,o5,A5,c5,a,_,x0,hm⟩:=hO.vecs.elem (JR _ _) (Zbb (L:=Cs) hj);injection a with a;injection a with a hA6;subst a hA6;simp only [Nat.zero_add] at x0;have b:Hid (∀(k:Nat) (e:En),(spV (Cs j) n)[k]? =some e→e.f.Rs K):=JZ (Zsc p.out);have c:Hid ((spV (Cs j) n).length≤1099511627776):=JZ (by have:=Ve (f:=Cs j) n;omega);have d:Hid (Zla (spV (Cs j) n)=spV (Cs j) n):=JZ (by rw [cpyV_spV (Zqi (Cs j) n)];exact WM fun i hi=>by rw [Zsb,if_pos hi]);obtain ⟨es,l⟩:∃es,spV (Cs j) n=es:=⟨_,rfl⟩;rw [l] at b c d hm x0 ⊢;obtain ⟨ls,m⟩:∃x,es.length=x:=⟨_,rfl⟩;rw [m] at hm x0;have y:(j:Int) < n:=by omega
 have t:decide ((n:Int)≤j)=false:=by simp;omega
 clear hX hU hF h hE hT r hO l m;go_enter Tryz.func15,Tryz.ntmps15;go_wp2_with fail;refine (Zbp _ es K _ hm b.out (by have:=q.out;omega) c.out).mono ?_;rw [d.out];rintro _ w1 ⟨v1,rfl,e1,s⟩;clear y0 y1 x0 hm;go_wp2;go_ret2;exact ⟨_,rfl,e1,s⟩
section
attribute [local irreducible] Yi
end
theorem Zkv.keep3 [Old] {gc:Nat} {w w':World} (h:Zkv gc w w'):Zfo w w':=fun b cs t fz ht hb=>h b cs t fz (ht.imp (fun q=>⟨q.1,.inl q.2.1,q.2.2⟩) id) hb
section
attribute [local irreducible] Yi
end
section
theorem wpList_app_run {ops:Array Oper} {rest:List Oper} {o:Oper} {a:Act} {Q:Exit→Act→World→Prop} {w w':World} {s x:Operand} {t ty:TypeId} {v u v':Value} (hr:(Builtin.append_ #[t,t] ty #[v,u]).run Tryz.prog w= .ok v' w') (hty:o.type=ty) (hgd:o.guard=none) (ho:o.op= .call { callee:= .builtin .append,args:=#[s,x],argTypes:=#[t,t] })
 (hs:a.eval s=v) (hx:a.eval x=u) (h:wpList Tryz.prog ops Q rest (a.put o.dst v') w'):wpList Tryz.prog ops Q (o::rest) a w:=
 wpList_step fun _ hK=>wp_append_run hr hty hgd ho hs hx (hK _ _ h)
attribute [local irreducible] Yi
end
section
attribute [local irreducible] Yi
end
theorem unit_any [Old] (i:Int) (w:World) (hOl:Zb w:=by (repeat (first | assumption | exact Zb.up (by assumption) hOl | exact Zb.up (Hid.out (by assumption)) hOl | with_reducible refine Zb.set ?_ _ _ | with_reducible refine Zb.mk_ ?_ _ | with_reducible refine Zb.dr ?_ | with_reducible refine Zb.drN ?_ | refine Zb.up (by assumption) ?_ | refine Zb.up (Hid.out (by assumption)) ?_))):
 Calls Tryz.prog 19 #[.int .i64 i] w fun o w'=>∃v',o= .returned v'∧Wy w' v' [⟨i,canF 1⟩]∧Below w.heap.size w w':=by
 have d:=hOl.le;go_enter Tryz.func19,Tryz.ntmps19;go_wp2_with fail;refine (X8 1 _ (by omega) (by omega)).mono ?_;rw [show (((1:Int):Rat))=1 from rfl];rintro _ w1 ⟨v1,rfl,e1,b⟩;obtain ⟨A,n,c,A',n',c',rfl,_,_⟩:=id e1;have a:=Zd w1 (.cells #[.int .i64 i,.bool (canF 1).num.neg,.slice A n c,.bool (canF 1).den.neg,.slice A' n' c'] 39);have hB:=Bk.new w1 39 [.int .i64 i,.bool (canF 1).num.neg,.slice A n c,.bool (canF 1).den.neg,.slice A' n' c'];go_wp2;go_ret;exact ⟨_,rfl,Wy.one hB (e1.below a),Za b a b.size⟩
theorem cancopy_any [Old] (v1 v2:Value) (es:List En) (w:World) (h:Wy w v1 (Zla es)) (h2:Wy w v2 es) (hs:∀(k:Nat) (e:En),es[k]? =some e→e.f.Sh) (hOl:Zb w:=by (repeat (first | assumption | exact Zb.up (by assumption) hOl | exact Zb.up (Hid.out (by assumption)) hOl | with_reducible refine Zb.set ?_ _ _ | with_reducible refine Zb.mk_ ?_ _ | with_reducible refine Zb.dr ?_ | with_reducible refine Zb.drN ?_ | refine Zb.up (by assumption) ?_ | refine Zb.up (Hid.out (by assumption)) ?_))):
 Calls Tryz.prog 17 #[v1,v2] w fun o w'=>o= .returned (.bool true)∧Below w.heap.size w w':=by
 have E:=hOl.le;obtain ⟨A,c,rfl,t,G⟩:=h.shape;obtain ⟨B,d,rfl,y,H⟩:=h2.shape;have n:(Zla es).length=es.length:=by simp [Zla]
 rw [n] at h t ⊢;obtain ⟨l,hl⟩:∃l,es.length=l:=⟨_,rfl⟩;rw [hl] at h t h2 y ⊢;have H1:=JZ h;have H2:=JZ h2;have HL:=JZ hl;have HS:=JZ hs;clear h h2 hl hs n;go_enter Tryz.func17,Tryz.ntmps17;go_wp2
 go_loopw [5] (fun i wr=>∃k:Nat,k≤l∧i= .int .i64 k∧Below w.heap.size w wr) (fun i _=>l - (intOf i).toNat)
 case atStart=>exact ⟨0,by omega,rfl,JR _ _⟩
 case round=>
  obtain ⟨k,hk,rfl,a⟩:=hrel;rcases JX k l with hkl | hkl
  ·obtain ⟨e,he⟩:∃e,es[k]? =some e:=⟨es[k]'(by rw [HL.out];exact hkl),JQ (by rw [HL.out];exact hkl)⟩;have p:(Zla es)[k]? =some ⟨e.idx,canF e.f.q⟩:=(by simp [Zla,he]);obtain ⟨b1,o1,A1,n1,c1,A2,n2,c2,rfl,_,⟨x0,x1,x2,x3,x4⟩,m⟩:=H1.out.elem a p;obtain ⟨b2,o2,A3,n3,c3,A4,n4,c4,rfl,_,⟨y0,y1,y2,y3,y4⟩,u⟩:=H2.out.elem a he;have r:=HS.out k e he;have F:(k:Int) < l:=(by omega);clear he p
   dsimp only at x0 x1 x3 m
   obtain ⟨f,hf⟩:∃f,e.f=f:=⟨_,rfl⟩;obtain ⟨z,hz⟩:∃z,e.idx=z:=⟨_,rfl⟩;rw [hf] at x1 x3 m y1 y3 u r;rw [hz] at x0 y0;have x:Hid (Zgl (canF f.q) (canF f.q)=true):=JZ (Zjr _);clear hf hz;go_wp2_with fail;have X0:=Zr x0;have X1:=Zr x1;have X2:=Zr x2;have X3:=Zr x3;have X4:=Zr x4;have Y0:=Zr y0;have Y1:=Zr y1;have Y2:=Zr y2;have Y3:=Zr y3;have Y4:=Zr y4;have j:=Zj wr;clear x0 x1 x2 x3 x4 y0 y1 y2 y3 y4;refine Zt 26 [0,1,2,3,4,5,6,7,8,9,10,11,12,13,14,15,16,17,18,19,20,21,22,23,24,25] (by kernel_rfl) (by kernel_rfl) ?_;repeat ((first | (refine Zc (v:=?_) rfl rfl rfl ?_ ?_;rotate_left;(· (intro _ b;go_simp;(try go_bits);(try with_reducible rfl)))) | (refine Ze (v:=?_) rfl rfl rfl ?_ ?_;rotate_left;(· (intro _ b;go_simp;(try go_bits);(try with_reducible rfl)))) | refine Zf rfl rfl rfl ?_);(try simp only [Act.put,pu1,pu2,pu3,pu4,pu5,pu6]))
   refine Zg rfl rfl (fun KR hKR=>?_);go_simp;(with_reducible refine (YY _ f _ (u.below j) r).mono ?_);rintro _ w8 ⟨v8,rfl,e8,C⟩;have g:=Za j C j.size;refine hKR.out _ _ (Or.inr g) ?_;clear hKR KR;(try simp only [Act.put,pu1,pu2,pu3,pu4,pu5,pu6]);repeat ((first | (refine Zc (v:=?_) rfl rfl rfl ?_ ?_;rotate_left;(· (intro _ b;go_simp;(try go_bits);(try with_reducible rfl)))) | (refine Ze (v:=?_) rfl rfl rfl ?_ ?_;rotate_left;(· (intro _ b;go_simp;(try go_bits);(try with_reducible rfl)))) | refine Zf rfl rfl rfl ?_);(try simp only [Act.put,pu1,pu2,pu3,pu4,pu5,pu6]))
   refine Zg rfl rfl (fun KR hKR=>?_);go_simp;(with_reducible refine (Zkt _ _ (canF f.q) (canF f.q) _ (m.below g) e8).mono ?_);rw [x.out];rintro _ w9 ⟨rfl,D⟩;have s:=Za g D g.size;refine hKR.out _ _ (Or.inr s) ?_;clear hKR KR;(try simp only [Act.put,pu1,pu2,pu3,pu4,pu5,pu6]);repeat ((first | (refine Zc (v:=?_) rfl rfl rfl ?_ ?_;rotate_left;(· (intro _ b;go_simp;(try go_bits);(try with_reducible rfl)))) | (refine Ze (v:=?_) rfl rfl rfl ?_ ?_;rotate_left;(· (intro _ b;go_simp;(try go_bits);(try with_reducible rfl)))) | refine Zf rfl rfl rfl ?_);(try simp only [Act.put,pu1,pu2,pu3,pu4,pu5,pu6]))
   refine Zv ?_;clear X0 X1 X2 X3 X4 Y0 Y1 Y2 Y3 Y4;go_wp2;go_roundw
   case rel=>exact ⟨k+1,by omega,by go_num,Za a s a.size⟩
   case measure=>simp [intOf];omega
  ·obtain rfl:k=l:=by omega
   go_wp2;go_ret;exact ⟨rfl,a⟩
section
namespace Pl
theorem spV_unit {m j:Nat} (hj:j < m):spV (fun r=>if r=j then 1 else 0) m=[⟨(j:Int),canF 1⟩]:=by
 have h1:∀d,spV (fun r=>if r=j then (1:Rat) else 0) (j+1+d)=[⟨(j:Int),canF 1⟩]:=by
  intro d;rw [Zfe fun s h1 h2=>by rw [if_neg (by omega)]];rw [Xo (by simp),show spV (fun r=>if r=j then (1:Rat) else 0) j=[] from by
   have:=Zfe (f:=fun r=>if r=j then (1:Rat) else 0) (m:=0) (d:=j) fun s h1 h2=>by rw [if_neg (by omega)]
   rw [Nat.zero_add] at this;rw [this];rfl]
  simp
 have:=h1 (m - (j+1))
 rwa [show j+1+(m - (j+1))=m by omega] at this
theorem sol_e {m j:Nat} {cols:Mx} {x:Nat→Rat} (hi:XA m cols) (hj:j < m) (hx:∀r,r < m→XV m cols x r=cols j r):spV x m=[⟨(j:Int),canF 1⟩]:=by
 rw [← spV_unit hj];refine WM fun k hk=>hi.uniq (y:=fun r=>if r=j then 1 else 0) (b:=cols j) hx (fun r hr=>?_) k hk
 unfold XV;rw [Xh hj fun i _ hne=>by show cols i r * (if i=j then 1 else 0)=0;rw [if_neg hne];grind];show cols j r * (if j=j then 1 else 0)=cols j r;rw [if_pos rfl];grind
end Pl
section
variable {gc:Nat} {w w':World}
theorem Zkv.keep [Old] (h:Zkv gc w w'):ZE w w':=h.keep3.keep
end
end
section
def FrE [Old] (N:Nat) (w w':World):Prop:=w.heap.size≤w'.heap.size∧∀(b:Nat) (cs:Array Value) (t:TypeId) (fz:Nat × Nat),((t≠39∨N≤b)∨b < Old.n)→w.heap[b]? =some (.cells cs t fz)→w'.heap[b]? =some (.cells cs t fz)
section
variable {N:Nat} {w w':World}
theorem FrE.refl [Old] (N:Nat) (w:World):FrE N w w:=⟨JY _,fun _ _ _ _ _ h=>h⟩
theorem FrE.trans [Old] {w'':World} (h:FrE N w w') (k:FrE N w' w''):FrE N w w'':=⟨JW h.1 k.1,fun b cs t fz ht hx=>k.2 b cs t fz ht (h.2 b cs t fz ht hx)⟩
theorem FrE.of_below [Old] (hb:Below w.heap.size w w'):FrE N w w':=⟨hb.size,fun b _ _ _ _ h=>(hb.block b (Ye h)).trans h⟩
theorem FrE.set [Old] {g:Nat} (hg:g < N) {cur:Array Value} {fz0:Nat × Nat} (hb:w.heap[g]? =some (.cells cur 39 fz0)) (i:Nat) (x:Value) (hO:Old.n≤g:=by first | assumption | exact Nat.zero_le _ | omega | ((first | with_reducible refine Zb.le ?_ | with_reducible refine Zb.le1 ?_ | with_reducible refine Zb.le2 ?_ | with_reducible refine Zb.le3 ?_);repeat (first | assumption | exact Zb.up (by assumption) hOl | exact Zb.up (Hid.out (by assumption)) hOl | with_reducible refine Zb.set ?_ _ _ | with_reducible refine Zb.mk_ ?_ _ | with_reducible refine Zb.dr ?_ | with_reducible refine Zb.drN ?_ | refine Zb.up (by assumption) ?_ | refine Zb.up (Hid.out (by assumption)) ?_))):FrE N w (w.setCell ⟨g,i,none⟩ x):=⟨by simp,fun b cs t fz ht h=>by
 by_cases e:b=g
 ·subst e
  rw [hb] at h
  injection h with h
  injection h with _ h2 _
  rcases ht with (ht | ht) | ht
  ·exact absurd h2.symm ht
  ·omega
  ·omega
 ·rw [heap_setCell_other w _ _ _ e];exact h⟩
theorem FrE.keep [Old] (h:FrE N w w'):ZE w w':=fun b cs t fz ht hb=>h.2 b cs t fz (ht.imp (fun e=>by subst e;exact .inl (by decide)) id) hb
theorem FrE.own [Old] {base:Nat} {t:TypeId} {s n:Nat} {v:Value} {xs:List Value} (h:FrE N w w') (ho:w.ownsRow base t s v n xs) (ht:t≠39∨N≤base):w'.ownsRow base t s v n xs:=by
 refine ⟨ho.1,?_⟩;rcases ho.2 with hn | ⟨b,cap,cur,rfl,hb,hg,rest⟩
 ·exact .inl hn
 ·exact .inr ⟨b,cap,cur,rfl,hb,h.2 b _ t _ (.inl (ht.imp id fun q=>JW q hb)) hg,rest⟩
theorem FrE.bk [Old] {g:Nat} {t:TypeId} {cs:List Value} (h:FrE N w w') (hb:Bk w g t cs) (ht:t≠39):Bk w' g t cs:=h.2 g _ t _ (.inl (.inl ht)) hb
theorem Wy.frE [Old] {u:Value} {c:List En} (hm:Wy w u c) (h:FrE N w w') (hq:∀b,u.ownBlock=some b→N≤b):Wy w' u c:=by
 obtain ⟨cs,h1,h2⟩:=hm;refine ⟨cs,?_,h2.keep h.keep⟩;obtain ⟨A,cc,e,hl,hc,hm,a⟩:=h1;exact ⟨A,cc,e,hl,hc,hm,fun hp=>by
  obtain ⟨b,f,d,t',fz,e1,g,hb,hx⟩:=a hp;exact ⟨b,f,d,t',fz,e1,g,h.2 b d _ fz (.inl (.inr (hq b (by rw [e,e1];rfl)))) hb,hx⟩⟩
theorem Dp.Yl.frE [Old] {base:Nat} {v:Value} {cols:List (List En)} (h:Dp.Yl base w v cols) (hf:FrE N w w') (hN:N≤base):Dp.Yl base w' v cols:=by
 obtain ⟨cs,h1,h2⟩:=h;exact ⟨cs,hf.own h1 (.inl (by decide)),fun k c hc=>by obtain ⟨u,e,hm,hq⟩:=h2 k c hc;exact ⟨u,e,hm.frE hf (fun b hb=>JW hN (hq b hb)),hq⟩⟩
theorem Dp.Zse.frE [Old] {base bi g n K:Nat} {Cs:Mx} (h:Dp.Zse base bi w g n K Cs) (hf:FrE N w w') (hN:N≤base):Dp.Zse base bi w' g n K Cs:=by
 obtain ⟨T,gc,cc,k,R,C,im,V,L,Um,CC,s0,s1,s2,s3,vu,h1,h2,h3,h4,h5,h6,h7,h8,h9,a⟩:=h;have b:=h5.base;refine ⟨T,gc,cc,k,R,C,im,V,L,Um,CC,s0,s1,s2,s3,vu,hf.bk h1 (by decide),h2,h3,h4,h5.frE hf hN,⟨hf.own h6.1 (.inl (by decide)),h6.2⟩,⟨hf.own h7.1 (.inl (by decide)),h7.2⟩,h8.frE hf (by omega),h9.frE hf (by omega),?_⟩;obtain ⟨cs,q1,q2⟩:=a;refine ⟨cs,hf.own q1 (.inl (by decide)),fun t ht=>?_⟩;obtain ⟨u,e1,e2,xs,e3,e4⟩:=q2 t ht;exact ⟨u,e1,e2,xs,hf.own e3 (.inl (by decide)),e4.keep hf.keep⟩
end
theorem own_any_set {w:World} {base n g:Nat} {t t':TypeId} {s:Nat} {v:Value} {xs:List Value} {cur:Array Value} (h:w.ownsRow base t s v n xs) (hg:w.heap[g]? =some (.cells cur t' (0,0))) (i:Nat) (x:Value):∃xs',(w.setCell ⟨g,i,none⟩ x).ownsRow base t s v n xs':=by
 rcases h.2 with ⟨rfl,rfl⟩ | ⟨b,cap,cu,rfl,hb,hc,hn,hm,hs,ht⟩
 ·exact ⟨[],by simp,.inl ⟨rfl,rfl⟩⟩
 ·by_cases e:b=g
  ·subst e;rw [hg] at hc;injection hc with hc;injection hc with e1 e2 _;subst e1 e2;have hz:(cur.setIfInBounds i x).size=cap * s:=(by simpa using hs);refine ⟨(cur.setIfInBounds i x).toList.take (n * s),?_,.inr ⟨b,cap,cur.setIfInBounds i x,rfl,hb,heap_setCell_same w b i cur t' x hg,hn,hm,hz,rfl⟩⟩;rw [List.length_take,Array.length_toList,hz];exact Nat.min_eq_left (JS s hn)
  ·exact ⟨xs,h.1,.inr ⟨b,cap,cu,rfl,hb,by rw [heap_setCell_other w _ _ _ e];exact hc,hn,hm,hs,ht⟩⟩
theorem run_append_copyE [Old] (ty:TypeId) (W:World) (v:Value) (es:List En) (h:Wy W v es) (hn:es.length≤1099511627776):
 ∃v' w',(Builtin.append_ #[28,28] ty #[.slice none 0 0,v]).run Tryz.prog W= .ok v' w'∧Wz W.heap.size w' v' es∧Below W.heap.size W w':=by
 obtain ⟨cs,h1,h2⟩:=h;obtain ⟨A,c,rfl,hl,hc,hm,f⟩:=h1;obtain ⟨i0,hi,i,n,o⟩:=info_parts info_entry
 cases A with
 | none=>
  have h0:es.length=0:=by
   rcases JV es.length with e | e
   ·exact e
   ·obtain ⟨b,l,_,_,_,e1,_⟩:=f e;cases e1
  have m:es=[]:=List.eq_nil_of_length_eq_zero h0;subst m;refine ⟨_,_,?_,Wz.nil _ _,JR _ _⟩;simp [Builtin.append_,run_underlying Tryz.underlying28,sizeOf,typeInfo,zeroValue,hi,i,Builtin.lenOf,run_firstCells_none]
 | some ad=>
  obtain ⟨v',w',hr,g1,g2,_,_⟩:=run_append_own_at (P:=Tryz.prog) W W.heap.size 28 ty 39 i0 _ 5 72 Tryz.underlying28 hi i n o rfl (by decide) (.slice none 0 0) 0 [] (World.ownsRow_nil _ _ _ _) ad es.length c cs hl (fun j u hj=>by
   have hp:0 < es.length:=by
    have h9:=(List.getElem?_eq_some_iff.1 hj).1;omega
   obtain ⟨b,l,p,_,fz,e,_,hb,hx⟩:=f hp;have e:=Option.some.inj e;rw [e,addr_add0,cell_of_row W b (l+j) p _ fz hb,hx j u hj]) (fun u hu=>by
    obtain ⟨j,hj,e⟩:=List.getElem_of_mem hu;have hd:j / 5 < es.length:=(by omega);have hg:es[j / 5]? =some (es[j / 5]'hd):=JQ _;obtain ⟨x,y,z,u',e0,e1,e2,e3,e4,hm⟩:=h2.2 (j / 5) _ hg;obtain ⟨_,_,_,_,_,_,he,_,_⟩:=hm;injection he with he;simp only [Array.mk.injEq,List.cons.injEq,and_true] at he;obtain ⟨rfl,rfl,rfl,rfl⟩:=he;have d:j=j / 5 * 5+j % 5:=(by omega);have g:j % 5=0∨j % 5=1∨j % 5=2∨j % 5=3∨j % 5=4:=(by omega);have a:cs[j]? =some u:=(by rw [JQ hj,e]);rcases g with q | q | q | q | q
    ·rw [d,q,Nat.add_zero,e0] at a;injection a with a;rw [← a];rfl
    ·rw [d,q,e1] at a;injection a with a;rw [← a];rfl
    ·rw [d,q,e2] at a;injection a with a;rw [← a];rfl
    ·rw [d,q,e3] at a;injection a with a;rw [← a];rfl
    ·rw [d,q,e4] at a;injection a with a;rw [← a];rfl) (by unfold maxLen;omega) (by omega) (JY _)
  have hb:=(JR W.heap.size W).grown g2 (JY _) (fun k hk=>by simp [Value.ownBlock] at hk);exact ⟨v',w',hr,⟨cs,by simpa using g1,h2.keep (ZE.of_below hb)⟩,hb⟩
def MinO [Old] (base:Nat) (w:World) (v:Value) (cols:List (List En)):Prop:=∃cs,w.ownsRow base 28 1 v cols.length cs∧∀(k:Nat) (c:List En),cols[k]? =some c→∃u,cs[k]? =some u∧Wz base w u c
theorem MinO.nil [Old] (base:Nat) (w:World):MinO base w (.slice none 0 0) []:=⟨[],World.ownsRow_nil _ _ _ _,fun k c h=>by simp at h⟩
theorem MinO.vecs [Old] {base:Nat} {w:World} {v:Value} {cols:List (List En)} (h:MinO base w v cols):Xf w v cols:=by
 obtain ⟨cs,h1,h2⟩:=h;exact Yl.vecs (base:=base) ⟨cs,h1,fun k c hc=>by obtain ⟨u,e,hm⟩:=h2 k c hc;exact ⟨u,e,hm.vec⟩⟩
theorem MinO.slice [Old] {base:Nat} {w:World} {v:Value} {cols:List (List En)} (h:MinO base w v cols):∃A c,v= .slice A cols.length c:=by
 obtain ⟨A,c,e,_⟩:=h.vecs.shape;exact ⟨A,c,e⟩
theorem MinO.below [Old] {base:Nat} {w w':World} {v:Value} {cols:List (List En)} (h:MinO base w v cols) (hb:Below w.heap.size w w'):MinO base w' v cols:=by
 obtain ⟨cs,h1,h2⟩:=h;exact ⟨cs,own_below h1 hb,fun k c hc=>by obtain ⟨u,e,hm⟩:=h2 k c hc;exact ⟨u,e,hm.below hb⟩⟩
theorem run_append_min [Old] (ty:TypeId) (W:World) (base:Nat) (v:Value) (cols:List (List En)) (h:MinO base W v cols) (A:Option Addr) (n c:Nat) (es:List En) (hf:Wz base W (.slice A n c) es) (hn:cols.length+1≤1099511627776) (hbase:base≤W.heap.size) (hO:Old.n≤base:=by first | assumption | exact Nat.zero_le _ | omega | ((first | with_reducible refine Zb.le ?_ | with_reducible refine Zb.le1 ?_ | with_reducible refine Zb.le2 ?_ | with_reducible refine Zb.le3 ?_);repeat (first | assumption | exact Zb.up (by assumption) hOl | exact Zb.up (Hid.out (by assumption)) hOl | with_reducible refine Zb.set ?_ _ _ | with_reducible refine Zb.mk_ ?_ _ | with_reducible refine Zb.dr ?_ | with_reducible refine Zb.drN ?_ | refine Zb.up (by assumption) ?_ | refine Zb.up (Hid.out (by assumption)) ?_))):
 ∃v' w',(Builtin.append_ #[22,22] ty #[v,.slice (some ⟨W.heap.size,0,none⟩) 1 1]).run Tryz.prog (W.alloc (.cells #[.slice A n c] 28))= .ok v' w'∧MinO base w' v' (cols++[es])∧Below base W w':=by
 obtain ⟨cs,h1,h2⟩:=h;obtain ⟨i0,hi,a,b,f⟩:=info_parts info_vector;obtain ⟨v',w',hr,g1,g2,g3⟩:=Zbo ty 22 28 i0 _ 1 24 Tryz.underlying22 hi a b f rfl (by decide) W base v cols.length cs [.slice A n c] h1 rfl (fun u hu=>by simp at hu;subst hu;rfl) (by unfold maxLen;omega) (by omega) hbase;have hl:cs.length=cols.length * 1:=h1.1;refine ⟨v',w',hr,⟨_,by simpa using g1,fun k d hd=>?_⟩,g3⟩;rcases JX k cols.length with e | e
 ·rw [List.getElem?_append_left e] at hd;obtain ⟨u,e1,e2⟩:=h2 k d hd;exact ⟨u,by rw [List.getElem?_append_left (by omega)];exact e1,e2.butE g2 (by decide) (by decide)⟩
 ·rw [List.getElem?_append_right e] at hd;have hk:k - cols.length=0:=by
   rcases JV (k - cols.length) with q | q
   ·exact q
   ·rw [JU (by simp;omega)] at hd;cases hd
  rw [hk] at hd;simp at hd;subst hd;exact ⟨.slice A n c,by rw [List.getElem?_append_right (by omega),show k - cs.length=0 by omega];rfl,hf.butE g2 (by decide) (by decide)⟩
end
section
def ScrI [Old] (N0 N:Nat) (w3 w4:World) (cs:List Value) (cols:List (List En)) (w':World):Prop:=
 Below N0 w3 w'∧FrE N w4 w'∧∀(k:Nat) (c:List En),cols[k]? =some c→∃u xs,cs[k]? =some u∧w'.ownsRow N0 39 5 u c.length xs∧∀b,u.ownBlock=some b→b < N
section
variable {N0 N:Nat} {w3 w4 w' w'':World} {cs:List Value} {cols:List (List En)}
theorem ScrI.below [Old] (h:ScrI N0 N w3 w4 cs cols w') (hb:Below w'.heap.size w' w'') (hN:N0=w3.heap.size):ScrI N0 N w3 w4 cs cols w'':=⟨h.1.trans (hb.mono (by rw [hN];exact h.1.size)),h.2.1.trans (FrE.of_below hb),fun k c hc=>by
 obtain ⟨u,xs,e,hr,hl⟩:=h.2.2 k c hc
 exact ⟨u,xs,e,own_below hr hb,hl⟩⟩
theorem ScrI.row [Old] (h:ScrI N0 N w3 w4 cs cols w') {k:Nat} {c:List En} {u:Value} (hc:cols[k]? =some c) (hu:cs[k]? =some u):∃xs,w'.ownsRow N0 39 5 u c.length xs:=by
 obtain ⟨u',xs,e,hr,hl⟩:=h.2.2 k c hc;rw [hu] at e;injection e with e;subst e;exact ⟨xs,hr⟩
theorem ScrI.set [Old] {g:Nat} (h:ScrI N0 N w3 w4 cs cols w') (hg:N0≤g) (hl:g < N) (hx:∃cur,w'.heap[g]? =some (.cells cur 39 (0,0))) (i:Nat) (x:Value) (hO:Old.n≤N0:=by first | assumption | exact Nat.zero_le _ | omega | ((first | with_reducible refine Zb.le ?_ | with_reducible refine Zb.le1 ?_ | with_reducible refine Zb.le2 ?_ | with_reducible refine Zb.le3 ?_);repeat (first | assumption | exact Zb.up (by assumption) hOl | exact Zb.up (Hid.out (by assumption)) hOl | with_reducible refine Zb.set ?_ _ _ | with_reducible refine Zb.mk_ ?_ _ | with_reducible refine Zb.dr ?_ | with_reducible refine Zb.drN ?_ | refine Zb.up (by assumption) ?_ | refine Zb.up (Hid.out (by assumption)) ?_))):ScrI N0 N w3 w4 cs cols (w'.setCell ⟨g,i,none⟩ x)∧∃cur,(w'.setCell ⟨g,i,none⟩ x).heap[g]? =some (.cells cur 39 (0,0)):=by
 obtain ⟨cur,hx⟩:=hx;refine ⟨⟨h.1.setCell (p:=⟨g,i,none⟩) hg x,h.2.1.trans (FrE.set hl hx i x),fun k c hc=>?_⟩,_,heap_setCell_same w' g i cur _ x hx⟩;obtain ⟨u,xs,e,hr,hb⟩:=h.2.2 k c hc;obtain ⟨a,b⟩:=own_any_set hr hx i x;exact ⟨u,a,e,b,hb⟩
theorem ScrI.set5 [Old] {g:Nat} (h:ScrI N0 N w3 w4 cs cols w') (hg:N0≤g) (hl:g < N) (hx:∃cur,w'.heap[g]? =some (.cells cur 39 (0,0))) (i1 i2 i3 i4 i5:Nat) (t x y z u:Value) (hO:Old.n≤N0:=by first | assumption | exact Nat.zero_le _ | omega | ((first | with_reducible refine Zb.le ?_ | with_reducible refine Zb.le1 ?_ | with_reducible refine Zb.le2 ?_ | with_reducible refine Zb.le3 ?_);repeat (first | assumption | exact Zb.up (by assumption) hOl | exact Zb.up (Hid.out (by assumption)) hOl | with_reducible refine Zb.set ?_ _ _ | with_reducible refine Zb.mk_ ?_ _ | with_reducible refine Zb.dr ?_ | with_reducible refine Zb.drN ?_ | refine Zb.up (by assumption) ?_ | refine Zb.up (Hid.out (by assumption)) ?_))):ScrI N0 N w3 w4 cs cols (((((w'.setCell ⟨g,i1,none⟩ t).setCell ⟨g,i2,none⟩ x).setCell ⟨g,i3,none⟩ y).setCell ⟨g,i4,none⟩ z).setCell ⟨g,i5,none⟩ u):=by
 obtain ⟨h1,x1⟩:=h.set hg hl hx i1 t;obtain ⟨h2,x2⟩:=h1.set hg hl x1 i2 x;obtain ⟨h3,x3⟩:=h2.set hg hl x2 i3 y;obtain ⟨h4,x4⟩:=h3.set hg hl x3 i4 z;exact (h4.set hg hl x4 i5 u).1
end
theorem own5 {w:World} {base g n c:Nat} {xs:List Value} (h:w.ownsRow base 39 5 (.slice (some ⟨g,0,none⟩) n c) n xs) {k:Nat} (hk:k < n):∃t x y z u,(w.cell? ⟨g,k * 5,none⟩=some t∧w.cell? ⟨g,k * 5+1,none⟩=some x∧w.cell? ⟨g,k * 5+2,none⟩=some y∧w.cell? ⟨g,k * 5+3,none⟩=some z∧w.cell? ⟨g,k * 5+4,none⟩=some u)∧w.frozen? ⟨g,k * 5,none⟩=false∧w.frozen? ⟨g,k * 5+1,none⟩=false∧w.frozen? ⟨g,k * 5+2,none⟩=false∧w.frozen? ⟨g,k * 5+3,none⟩=false∧w.frozen? ⟨g,k * 5+4,none⟩=false:=by
 have hl:xs.length=n * 5:=h.1;have e:∀i (hi:i < 5),xs[k * 5+i]? =some (xs[k * 5+i]'(by omega)):=fun i hi=>JQ _
 exact ⟨_,_,_,_,_,⟨(Zw h (e 0 (by omega))).1,(Zw h (e 1 (by omega))).1,(Zw h (e 2 (by omega))).1,(Zw h (e 3 (by omega))).1,(Zw h (e 4 (by omega))).1⟩,(Zw h (e 0 (by omega))).2,(Zw h (e 1 (by omega))).2,(Zw h (e 2 (by omega))).2,(Zw h (e 3 (by omega))).2,(Zw h (e 4 (by omega))).2⟩
theorem basisCopies_any [Old] (n:Int) (v:Value) (cols:List (List En)) (w:World) (h0: -9223372036854775808≤n) (h1:n≤9223372036854775807) (h:Xf w v cols) (hi:∀(j:Nat) (es:List En),cols[j]? =some es→EnI es) (hOl:Zb w:=by (repeat (first | assumption | exact Zb.up (by assumption) hOl | exact Zb.up (Hid.out (by assumption)) hOl | with_reducible refine Zb.set ?_ _ _ | with_reducible refine Zb.mk_ ?_ _ | with_reducible refine Zb.dr ?_ | with_reducible refine Zb.drN ?_ | refine Zb.up (by assumption) ?_ | refine Zb.up (Hid.out (by assumption)) ?_))):
 Calls Tryz.prog 3 #[.int .i64 n,v] w fun e w'=>e= .returned (.bool true)∧Below w.heap.size w w':=by
 have ci:=hOl.le;obtain ⟨A1,c1,rfl,bt,co⟩:=h.shape;obtain ⟨l,hl⟩:∃l,cols.length=l:=⟨_,rfl⟩;rw [hl] at h bt ⊢;have ab:=JZ hl;clear hl;have HV:=JZ h;have HI:=JZ hi;clear h hi;go_enter Tryz.func3,Tryz.ntmps3;go_wp2_with fail;refine (Zup _ cols n _ HV.out h0 h1).mono ?_;rintro _ w1 ⟨b1,rfl,b9,d⟩
 cases b1
 case false=>
  go_wp2_with fail;refine (Zuo _).mono ?_;rintro _ wz ⟨rfl,o⟩;go_wp2;go_ret;exact ⟨rfl,Za d o d.size⟩
 case true=>
  obtain ⟨az,h7⟩:=b9 rfl;have HL:=JZ (az.c HI.out);clear b9 az;rcases Decidable.em (n < 1) with hn1 | hn1
  ·go_wp2_with fail;refine (Zuo _).mono ?_;rintro _ wz ⟨rfl,o⟩;go_wp2;go_ret;exact ⟨rfl,Za d o d.size⟩
  ·have ac:decide (n < 1)=false:=(by simpa using hn1);go_wp2_with fail;refine (Zun _ cols n _ (HV.out.below d) HL.out h7 h0 h1).mono ?_;rintro _ w2 ⟨rfl,hb⟩;have f:=Za d hb d.size;clear hb;by_cases hz:Wx n cols=0
   case neg=>
    generalize Wx n cols=ce at *;have ck:(ce==0)=false:=(by simpa using hz);go_wp2_with fail;refine (Zuo _).mono ?_;rintro _ wz ⟨rfl,o⟩;go_wp2;go_ret;exact ⟨rfl,Za f o f.size⟩
   case pos=>
    obtain ⟨m,rfl,hR⟩:=Zvw hz HL.out h7;have HR:=JZ hR;rw [hz];clear hz h7 hR;obtain rfl:m=l:=by rw [← ab.out,HR.out.len]
    clear ab ac;obtain ⟨N0,b0⟩:∃N,w2.heap.size=N:=⟨_,rfl⟩;have C:=JZ b0.symm;have K:=JZ f;have cd:Old.n≤N0:=(by rw [C.out];exact (Zb.up f hOl).le);have ad:=Zb.up f hOl;have bc:=HR.out.len;have cl:=HR.out.n7;clear b0;go_wp2;clear f
    go_loopw [5,6] (fun s5 i wr=>∃k:Nat,k≤m∧i= .int .i64 k∧MinO N0 wr s5 (cols.take k)∧Below N0 w2 wr) (fun _ i _=>m - (intOf i).toNat)
    case atStart=>exact ⟨0,by omega,rfl,MinO.nil _ _,JR _ _⟩
    case round=>
     obtain ⟨k,hk,rfl,hM,y⟩:=hrel;have D:=Za K.out (by rw [← C.out];exact y) K.out.size;have E:N0≤wr.heap.size:=(by have:=C.out;rw [this];exact y.size);have ae:(cols.take k).length=k:=(by rw [List.length_take];omega);obtain ⟨A5,c5,e5⟩:=hM.slice;rw [ae] at e5;subst e5;rcases JX k m with hkl | hkl
     ·obtain ⟨c,a3,q,F,z,t⟩:=HR.out.at_ hkl;obtain ⟨b,bu,A4,c4,rfl,_,a,hm⟩:=HV.out.elem D a3;have af:c.length≤7:=(by have:=q.len;omega);have ag:(k:Int) < m:=(by omega);obtain ⟨ve,we,G,hE,a4⟩:=run_append_copyE 28 wr (.slice A4 c.length c4) c hm (by omega);obtain ⟨Ae,ce,rfl,_,_⟩:=hE.vec.shape;obtain ⟨vm,wm,H,b2,bv⟩:=run_append_min 22 we N0 (.slice A5 k c5) (cols.take k) (hM.below a4) Ae c.length ce c (hE.monoB E) (by omega) (JW E a4.size);have ht:cols.take k++[c]=cols.take (k+1):=(by rw [List.take_add_one,a3];rfl);rw [ht] at b2;have o:=y.trans ((a4.mono E).trans bv);clear a3 q F z t hm hM hE ht;go_wp2_with (at_builtin;first | refine wpList_app_run G rfl rfl rfl rfl rfl ?_ | refine wpList_app_run H rfl rfl rfl rfl rfl ?_);clear G H a;go_roundw
      case rel=>exact ⟨k+1,by omega,by go_num,b2,o⟩
      case measure=>simp [intOf];omega
     ·obtain rfl:m=k:=by omega
      rw [List.take_of_length_le (by omega)] at hM;clear ae hk hkl;obtain ⟨N,hN⟩:∃N,wr.heap.size=N:=⟨_,rfl⟩;have cf:Old.n≤N:=(by rw [← hN];exact (Zb.up y ad).le);go_wp2_with fail;refine (Dp.Zqz _ m 12 cols (Yu cols) _ hM.vecs HR.out.len HR.out.n7 (by omega) (JW HR.out.fit (by decide)) HR.out.gK (fun k c hc=>Wu hc)).mono ?_;rintro _ w4 ⟨hb,⟨g,rfl,-,U⟩ | ⟨rfl,cb⟩⟩
      case inr=>exact absurd HR.out.ind cb
      case inl=>
       have V:=U 0;rw [hN] at V;have bd:=JZ V;have be:=hM.below hb;have ah:∀(k:Nat) (u:Value),(∃c,Wz N0 wr u c)→∀b,u.ownBlock=some b→b < N:=fun k u ⟨c,h⟩ b hb=>by rw [← hN];exact h.ltB b hb
       obtain ⟨cs,hr,he⟩:=id hM;have ai:ScrI N0 N w2 w4 cs cols w4:=⟨y.trans (hb.mono E),FrE.refl _ _,fun k c hc=>by
        obtain ⟨u,e1,e2⟩:=he k c hc;obtain ⟨xs,q1,q2⟩:=e2.below hb;exact ⟨u,xs,e1,q1,ah k u ⟨c,e2⟩⟩⟩
       have X:Hid (w4.ownsRow N0 28 1 (.slice A5 m c5) m cs):=JZ (by have:=own_below hr hb;rw [bc] at this;exact this);clear U V hM be hr he ah hb y D E hN;go_wp2
       go_loopw [9] (fun i wr=>∃j:Nat,j≤m∧i= .int .i64 j∧ScrI N0 N w2 w4 cs cols wr) (fun i _=>m - (intOf i).toNat)
       case atStart=>exact ⟨0,by omega,rfl,ai⟩
       case round=>
        clear ai;obtain ⟨j,hj,rfl,hI⟩:=hrel;rcases JX j m with hjl | hjl
        ·obtain ⟨c,a5,q,F,z,t⟩:=HR.out.at_ hjl;obtain ⟨uj,cp,b3,a6,b4⟩:=hI.2.2 j c a5;have af:c.length≤7:=(by have:=q.len;omega);obtain ⟨L,hL⟩:∃L,c.length=L:=⟨_,rfl⟩;rw [hL] at a6 af;obtain ⟨Aj,cj,rfl⟩:∃A c,uj= .slice A L c:=by
          rcases a6.2 with ⟨e,h0⟩ | ⟨b,cap,s,e,_⟩
          ·exact ⟨none,0,by rw [e,h0]⟩
          ·exact ⟨_,_,e⟩
         have aj:=JZ a5;have Y:=JZ b3;have ak:=JZ hL;have bf:=JZ b4;obtain ⟨gm,bw,cq⟩:∃gm,A5=some ⟨gm,0,none⟩∧N0≤gm:=by
          rcases X.out.2 with ⟨e,h0⟩ | ⟨b,cap,s,e,hb,_⟩
          ·omega
          ·injection e with e;exact ⟨b,e,hb⟩
         subst bw;have cm:(j:Int) < m:=(by omega);clear q F z t a5 b3 a6 b4 hL;go_wp2
         go_loopw [10] (fun i wx=>∃k:Nat,k≤L∧i= .int .i64 k∧ScrI N0 N w2 w4 cs cols wx) (fun i _=>L - (intOf i).toNat)
         case atStart=>exact ⟨0,by omega,rfl,hI⟩
         case round=>
          clear hI;obtain ⟨k,hk,rfl,hI⟩:=hrel;obtain ⟨x0,_⟩:=Zw (hI.2.1.own X.out (.inl (by decide))) Y.out;rcases JX k L with hkl | hkl
          ·obtain ⟨cr,a7⟩:=hI.row aj.out Y.out;rw [ak.out] at a7;obtain ⟨gj,bx,bz⟩:∃gj,Aj=some ⟨gj,0,none⟩∧N0≤gj:=by
            rcases a7.2 with ⟨e,h0⟩ | ⟨b,cap,s,e,hb,_⟩
            ·omega
            ·injection e with e;exact ⟨b,e,hb⟩
           subst bx;have ag:(k:Int) < L:=(by omega);have bg:=bf.out gj rfl;have cn:=hI.1;clear a7
           go_upto_region 17 with (fail)
           have X0:=Zr x0;have Z:=Zj wr;clear x0;refine Zt 8 [0,1,2,3,4,5,6,7,8] (by kernel_rfl) (by kernel_rfl) ?_;repeat ((first | (refine Zc (v:=?_) rfl rfl rfl ?_ ?_;rotate_left;(· (intro _ aa;go_simp;(try go_bits);(try with_reducible rfl)))) | (refine Ze (v:=?_) rfl rfl rfl ?_ ?_;rotate_left;(· (intro _ aa;go_simp;(try go_bits);(try with_reducible rfl)))) | refine Zf rfl rfl rfl ?_);(try simp only [Act.put,pu1,pu2,pu3,pu4,pu5,pu6]))
           refine Zg rfl rfl (fun KR hKR=>?_);go_simp;(with_reducible refine (X8 99 _ (by omega) (by omega)).mono ?_);rintro _ w8 ⟨v8,rfl,e8,ba⟩;have a0:=Za Z ba Z.size;obtain ⟨B1,l1,k1,B2,l2,k2,rfl,_,_⟩:=id e8;have a1:=hI.below a0 C.out;obtain ⟨ct,P⟩:=a1.row aj.out Y.out;rw [ak.out] at P;obtain ⟨_,_,_,_,_,⟨c0,c1,c2,c3,c4⟩,f0,f1,f2,f3,f4⟩:=own5 P hkl;refine hKR.out _ _ (Or.inr a0) ?_;clear hKR KR;(try simp only [Act.put,pu1,pu2,pu3,pu4,pu5,pu6]);repeat ((first | (refine Zc (v:=?_) rfl rfl rfl ?_ ?_;rotate_left;(· (intro _ aa;go_simp;(try go_bits);(try with_reducible rfl)))) | (refine Ze (v:=?_) rfl rfl rfl ?_ ?_;rotate_left;(· (intro _ aa;go_simp;(try go_bits);(try with_reducible rfl)))) | refine Zf rfl rfl rfl ?_);(try simp only [Act.put,pu1,pu2,pu3,pu4,pu5,pu6]))
           refine Zg rfl rfl (fun KR hKR=>?_);go_simp;refine hKR.out _ _ (Or.inl (by decide)) ?_;clear hKR KR;(try simp only [Act.put,pu1,pu2,pu3,pu4,pu5,pu6]);refine Zv ?_;clear X0 c0 c1 c2 c3 c4 f0 f1 f2 f3 f4;have al:∃s,w8.heap[gj]? =some (.cells s 39 (0,0)):=by
            obtain ⟨s,h,_⟩:=ZI P;exact ⟨s,h⟩
           have bh:=a1.set5 bz bg al (k * 5) (k * 5+1) (k * 5+2) (k * 5+3) (k * 5+4);clear hI a1 P al Z a0 ba e8;go_wp2;go_roundw
           case rel=>exact ⟨k+1,by omega,by go_num,bh _ _ _ _ _⟩
           case measure=>simp [intOf];omega
          ·obtain rfl:L=k:=by omega
           go_wp2;go_roundw
           case rel=>exact ⟨j+1,by omega,by go_num,hI⟩
           case measure=>simp [intOf];omega
        ·obtain rfl:m=j:=by omega
         have M:0 < m:=(by omega);have HB:=JZ (bd.out.frE hI.2.1 (JY _)).out;have D:=Za K.out (by rw [← C.out];exact hI.1) K.out.size;clear hI X hjl hj;generalize wr=w5 at *;obtain ⟨c,b5,q,F,z,t⟩:=HR.out.at_ M;have bi:=JZ b5;have bj:=JZ q;have am:=JZ z;have bk:=JZ t;have bl:Hid (spV (Yu cols 0) m=Zla c):=JZ (by rw [t,← cpyV_spV q]);clear b5 q F z t;go_wp2_with fail;refine (bcolumn_own N 0 g m 12 _ 0 _ HB.out M).mono ?_;rintro _ w6 ⟨v6,rfl,e6,cc⟩;obtain ⟨A6,c6,rfl,b6,ch⟩:=e6.vec.shape;obtain ⟨L,hL⟩:∃L,(spV (Yu cols 0) m).length=L:=⟨_,rfl⟩;obtain ⟨cu,b7⟩:∃xs,w6.ownsRow w5.heap.size 39 5 (.slice A6 L c6) L xs:=by
          obtain ⟨c7,q1,q2⟩:=e6;rw [hL] at q1;exact ⟨c7,q1⟩
         rw [hL] at b6 ⊢;have bm:=HB;have R:=JZ b7;have bn:=JZ bm.out;have S:=cc;clear e6 hL b7;go_wp2
         go_loopw [13] (fun i wx=>∃k:Nat,k≤L∧i= .int .i64 k∧Below w5.heap.size w5 wx∧∃xs,wx.ownsRow w5.heap.size 39 5 (.slice A6 L c6) L xs) (fun i _=>L - (intOf i).toNat)
         case atStart=>exact ⟨0,by omega,rfl,S,_,R.out⟩
         case round=>
          clear S;obtain ⟨k,hk,rfl,I,xs,B⟩:=hrel;rcases JX k L with hkl | hkl
          ·obtain ⟨g6,c8,c9⟩:∃g6,A6=some ⟨g6,0,none⟩∧w5.heap.size≤g6:=by
            rcases B.2 with ⟨e,h0⟩ | ⟨b,cap,s,e,hb,_⟩
            ·omega
            ·injection e with e;exact ⟨b,e,hb⟩
           subst c8;have ag:(k:Int) < L:=(by omega);obtain ⟨_,_,_,_,_,⟨c0,_,_,_,_⟩,f0,_,_,_,_⟩:=own5 B hkl;obtain ⟨s,T,_⟩:=ZI B;obtain ⟨ca,b8⟩:=own_any_set B T (k * 5) (.int .i64 77);have an:=I.setCell (p:=⟨g6,k * 5,none⟩) c9 (.int .i64 77);clear B T I;go_wp2;clear c0 f0;go_roundw
           case rel=>exact ⟨k+1,by omega,by go_num,an,ca,b8⟩
           case measure=>simp [intOf];omega
          ·obtain rfl:L=k:=by omega
           have ao:=JZ (bn.out.below I);have ap:=Za D I D.size;clear B I R;go_wp2_with fail;refine (bcolumn_own N 0 g m 12 _ 0 _ ao.out M).mono ?_;rintro _ y1 ⟨u1,rfl,e1,d⟩;have aq:Hid (Wy y1 u1 (Zla c)):=JZ (by rw [← bl.out];exact e1.vec);have a2:=Za ap d ap.size;have bo:=JZ (ao.out.below d);clear e1 d;obtain ⟨b,bu,A4,c4,rfl,_,a,hm⟩:=HV.out.elem a2 bi.out;simp only [Nat.add_zero] at a;have cg:(0:Int) < m:=(by omega);go_wp2_with fail;refine (Zks N 0 g m 12 _ _ c _ bo.out hm bj.out am.out).mono ?_;rintro _ y2 ⟨u2,x,rfl,hx,-,e2,J⟩;have ar:=sol_e HR.out.ind M (x:=x) (fun r hr=>by rw [hx r hr,bk.out]);have bp:Hid (Wy y2 u2 [⟨((0:Nat):Int),canF 1⟩]):=JZ (by rw [← ar];exact e2.vec);have au:=Za a2 J a2.size;have bq:=JZ (aq.out.below J);have av:=hm.below J;have O:=cell_later J a;clear hx ar e2 J hm a aq;go_wp2_with fail;refine (cancopy_any _ _ c _ bq.out av (fun k e he=>(am.out k e he).sh (by decide))).mono ?_;rintro _ y3 ⟨rfl,a8⟩;have aw:=Za au a8 au.size;have br:=JZ (bp.out.below a8);clear a8 O av;go_wp2_with fail;refine (unit_any 0 _).mono ?_;rintro _ y4 ⟨u4,rfl,e4,a9⟩;have ax:=Za aw a9 aw.size;have bs:=JZ (br.out.below a9);clear a9;go_wp2_with fail;refine (sameVec1_any _ _ _ _ bs.out e4).mono ?_;rintro _ y5 ⟨rfl,bb⟩;have ay:=Za ax bb ax.size;clear bb e4;go_wp2_with fail;refine (Zuo _).mono ?_;rintro _ wz ⟨rfl,o⟩;go_wp2;go_ret;exact ⟨rfl,Za ay o ay.size⟩
end
end Go.Proofs.YtidgdpkcloaheaaGreat
