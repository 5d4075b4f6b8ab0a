/- Contracts that the claim is built on; no condition. -/
import Derived.Great.BuildSlice
import Derived.Test.YtncmobkhenfhpaaGreatD26
set_option linter.unusedVariables false
set_option linter.unusedSimpArgs false
set_option maxRecDepth 100000
set_option maxHeartbeats 40000000
namespace Go.Proofs.YtncmobkhenfhpaaGreat
open Go.RowKit
open Pl
attribute [local go_sem ↓] Go.wp_at_zero Go.wp_at_succ
namespace Pl
theorem Ydf {m:Nat} (h:m≤3):5^m * 32≤4000:=by
 have:m=0∨m=1∨m=2∨m=3:=by omega
 rcases this with rfl | rfl | rfl | rfl <;> decide
theorem Zya.ft {p:LPd} (hok:Zya p) (hr:RsL 32 p.right):p.Ft 32:=by
 have h1:=hok.2.1;have h2:=hok.2.2.1;have h3:=Ydf h1;exact ⟨⟨hok.ok (by decide) hr,(WN hok.err).2.2.2.1,by omega,hok.2.2.2.1,by omega,by decide,by omega⟩,by omega,by omega⟩
def knP:LPd:=⟨[canF (-1),canF 0],[[⟨0,canF 1⟩],[⟨0,canF 1⟩]],[canF 4]⟩
theorem ke_err:lpErr knP=0:=by decide+kernel
theorem ke_start:(Zr knP (Yq knP)).phase=1∧(Zr knP (Yq knP)).basis=[-1]∧(Zr knP (Yq knP)).pivots=0:=by decide+kernel
theorem ke_run:(Zag knP 1 ⟨1,[-1],0⟩).phase=2∧(Zag knP 1 ⟨1,[-1],0⟩).basis=[0]∧(Zag knP 1 ⟨1,[-1],0⟩).pivots=1:=by decide+kernel
theorem ke_set:(Zr knP ⟨2,[0],1⟩).phase=2:=by decide+kernel
theorem ke_stat:XD knP ⟨2,[0],1⟩=1∧U9 knP ⟨2,[0],1⟩= -1:=by decide+kernel
theorem ke_val:Zhp knP 2 ⟨2,[0],1⟩= -4:=by decide+kernel
theorem ke_ok:Zya knP:=by
 have e1:RsL 1 knP.cost:=((RsL.nil 1).snoc (Sz.rs (Zdi (z:= -1) (by decide) (by decide)))).snoc (Sz.rs (Zdi (z:=0) (by decide) (by decide)));have c1:WQ 1 ([]++[⟨((0:Nat):Int),canF ((1:Int):Rat)⟩]):=WQ.nil.snoc (by decide) (by decide) (by decide);exact ⟨by decide,by decide,by decide,rfl,e1,Zdj (cols:=[[⟨0,canF 1⟩]]) (Zdj (cols:=[]) (fun j c h=>by simp at h) c1) c1⟩
theorem ke_rs:RsL 32 knP.right:=((RsL.nil 1).snoc (Sz.rs (Zdi (z:=4) (by decide) (by decide)))).mono (by decide)
theorem ke_ft:knP.Ft 32:=ke_ok.ft ke_rs
theorem Zud {s:LSt} {a:Int} {b:List Int} {c:Int} (h:s.phase=a∧s.basis=b∧s.pivots=c):s=⟨a,b,c⟩:=by cases s;obtain ⟨rfl,rfl,rfl⟩:=h;rfl
theorem ke_s:Zr knP (Yq knP)=⟨1,[-1],0⟩:=Zud ke_start
theorem ke_t:Zag knP 1 ⟨1,[-1],0⟩=⟨2,[0],1⟩:=Zud ke_run
theorem ke_st:Zr knP ⟨2,[0],1⟩=⟨2,[0],1⟩:=Zud ⟨ke_set,rfl,rfl⟩
theorem ke_v1:Val knP ⟨1,[-1],0⟩:=by rw [← ke_s];exact (Wt knP).settle
theorem ke_v2:Val knP ⟨2,[0],1⟩:=by rw [← ke_t];exact Zcb ke_v1
theorem ke_e1:Yx knP ⟨1,[-1],0⟩=0:=by rw [Xr ke_err];exact ke_v1.vs
theorem ke_e2:Yx knP ⟨2,[0],1⟩=0:=by rw [Xr ke_err];exact ke_v2.vs
theorem ke_ru:Zhw knP ⟨1,[-1],0⟩ 1=⟨2,[0],1⟩:=by rw [WZ ke_e1,← ke_s,settle_twice,ke_s,ke_t]
theorem ke_sm:Zuk knP ⟨2,[0],1⟩=(1,-1):=by rw [Zcd ke_e2,ke_st,ke_stat.1,ke_stat.2]
theorem ke_va:Ybf knP ⟨2,[0],1⟩=canF (-4):=by rw [Zhv ke_e2,ke_st,ke_val]
end Pl
section
section
variable {P:Program} {ops:Array Oper} {Q:Exit→Act→World→Prop} {S:World→Prop} {n:Nat}
def Zae (a:Act) (l:List (Nat × Nat)) (s:Nat→Value):Act:=l.foldl (fun a x=>a.put (some x.2) (s x.1)) a
def Zqa (s:Nat→Value) (i:Nat) (v:Value):Nat→Value:=fun k=>if k=i then v else s k
def Grow (P:Program) (ops:Array Oper) (Q:Exit→Act→World→Prop) (S:World→Prop) (n:Nat) (l:List (Nat × Nat)) (a:Act) (U:World) (Good:Nat→World→Value→Prop) (i:Nat):Prop:=
 ∀s w,(∀k∈l.map (·.1),Ybm ops i k=true→Good k w (s k))→Below U.heap.size U w→YE P ops Q S n i (fun a' w'=>Below w.heap.size w w'∧∃v,a'=Zae a l (Zqa s i v)∧Good i w' v) (Zae a l s) w
theorem Zue {l:List (Nat × Nat)} {is:List Nat} {p:Uh} {a:Act} {w:World} (U:World) (Good:Nat→World→Value→Prop) (s0:Nat→Value) (his:l.map (·.1)=is) (ha:a=Zae a l s0) (hl:is.Nodup) (hU:Below U.heap.size U w)
 (hg:∀k w w' v,Good k w v→Below w.heap.size w w'→Good k w' v) (hs:∀i∈is,Grow P ops Q S n l a U Good i)
 (h1:∀s w,(∀k∈is,Good k w (s k))→Below U.heap.size U w→Z8 P ops Q S n p (Zae a l s) w):Z8 P ops Q S n (.bag is p) a w:=by
 subst his;refine Znh (fun D a' w=>∃s,a'=Zae a l s∧Below U.heap.size U w∧∀k∈l.map (·.1),D k→Good k w (s k)) hl ⟨s0,ha,hU,fun _ _ h=>h.elim⟩ ?_ ?_
 ·rintro D a' w i oi hi hn ho hd ⟨s,rfl,hb,hG⟩;refine (hs i hi s w (fun k hk hb=>hG k hk ?_) hb).mono ?_
  ·unfold Ybm at hb;rw [ho] at hb;simp only [Array.any_eq_true,Bool.and_eq_true,beq_iff_eq] at hb;obtain ⟨j,hj,h1,h2⟩:=hb;subst h2;exact hd _ (Array.getElem_mem hj) h1 hk
  ·rintro a' w' ⟨hw,v,rfl,hv⟩;refine ⟨_,rfl,Za hb hw hb.size,fun k hk hd=>?_⟩;unfold Zqa;by_cases e:k=i
   ·rw [if_pos e,e];exact hv
   ·rw [if_neg e];exact hg _ _ _ _ (hG k hk (hd.resolve_right e)) hw
 ·rintro D a' w hd ⟨s,rfl,hb,hG⟩;exact h1 s w (fun k hk=>hG k hk (hd k hk)) hb
theorem Grow.mk {l:List (Nat × Nat)} {a:Act} {U:World} {Good:Nat→World→Value→Prop} {i:Nat} {o:Oper} (ho:ops[i]? =some o)
 (h:∀s w b,b=Zae a l s→(∀k∈l.map (·.1),Ybm ops i k=true→Good k w (s k))→Below U.heap.size U w→∀K':Act→World→Prop,Shut (∀a' w',(n≤i∨S w')→(Below w.heap.size w w'∧∃v,a'=Zae a l (Zqa s i v)∧Good i w' v)→K' a' w')→if Region.wanted o (yielded ops b.tmps)=true then Oper.wp P o b w K' Q else K' (b.put o.dst undef) w):Grow P ops Q S n l a U Good i:=
 fun s w hd hb=>WS ho (h s w _ rfl hd hb)
end
theorem Zhx (w:World) (t:TypeId) (s n:Nat) (cs:List Value) (hl:cs.length=n * s) (hn:n≤maxLen):Uq (w.alloc (.cells cs.toArray t)) t s (.slice (some ⟨w.heap.size,0,none⟩) n n) n cs:=
 ⟨_,n,rfl,hl,Nat.le_refl _,hn,fun _=>⟨w.heap.size,0,cs.toArray,_,rfl,heap_alloc_new w _,fun j u h=>by simpa using h⟩⟩
theorem Zxh {w:World} {x y z u:Value} {f:RF} (h:Zv w (.agg #[x,y,z,u]) f):WL (w.alloc (.cells #[x,y,z,u] 48)) (.slice (some ⟨w.heap.size,0,none⟩) 1 1) [f]:=
 ⟨[x,y,z,u],Zhx w 48 4 1 _ rfl (by decide),rfl,fun k g hg=>by
  match k,hg with
  | 0,hg=>injection hg with e;subst e;exact ⟨x,y,z,u,rfl,rfl,rfl,rfl,h.below (Zb w _)⟩
  | k+1,hg=>simp at hg⟩
theorem Zxi {w:World} {x y z u x' y' z' u':Value} {f f':RF} (h:Zv w (.agg #[x,y,z,u]) f) (h':Zv w (.agg #[x',y',z',u']) f'):WL (w.alloc (.cells #[x,y,z,u,x',y',z',u'] 48)) (.slice (some ⟨w.heap.size,0,none⟩) 2 2) [f,f']:=
 ⟨[x,y,z,u,x',y',z',u'],Zhx w 48 4 2 _ rfl (by decide),rfl,fun k g hg=>by
  match k,hg with
  | 0,hg=>injection hg with e;subst e;exact ⟨x,y,z,u,rfl,rfl,rfl,rfl,h.below (Zb w _)⟩
  | 1,hg=>injection hg with e;subst e;exact ⟨x',y',z',u',rfl,rfl,rfl,rfl,h'.below (Zb w _)⟩
  | k+2,hg=>simp at hg⟩
theorem Zob {w:World} {x y z u:Value} {i:Int} {f:RF} (h:Zv w (.agg #[x,y,z,u]) f):Wv (w.alloc (.cells #[.int .i64 i,x,y,z,u] 87)) (.slice (some ⟨w.heap.size,0,none⟩) 1 1) [⟨i,f⟩]:=
 ⟨[.int .i64 i,x,y,z,u],Zhx w 87 5 1 _ rfl (by decide),rfl,fun k g hg=>by
  match k,hg with
  | 0,hg=>injection hg with e;subst e;exact ⟨x,y,z,u,rfl,rfl,rfl,rfl,rfl,h.below (Zb w _)⟩
  | k+1,hg=>simp at hg⟩
theorem Zuf {w:World} {a b:Value} {c d:List En} (h:Wv w a c) (h':Wv w b d):Xd (w.alloc (.cells #[a,b] 72)) (.slice (some ⟨w.heap.size,0,none⟩) 2 2) [c,d]:=
 ⟨[a,b],Zhx w 72 1 2 _ rfl (by decide),fun k g hg=>by
  match k,hg with
  | 0,hg=>injection hg with e;subst e;exact ⟨a,rfl,h.below (Zb w _)⟩
  | 1,hg=>injection hg with e;subst e;exact ⟨b,rfl,h'.below (Zb w _)⟩
  | k+2,hg=>simp at hg⟩
end
section
namespace Pl
theorem Zxk {a b c d q:RF} {p:LPd} (ha:a=canF ((-1:Int):Rat)) (hb:b=canF ((0:Int):Rat)) (hc:c=canF ((1:Int):Rat)) (hd:d=canF ((4:Int):Rat)) (hq:q=canF ((-4:Int):Rat)) (hp:p=⟨[a,b],[[⟨0,c⟩],[⟨0,c⟩]],[d]⟩):
 p.Ft 32∧lpErr p=0∧Zr p (Yq p)=⟨1,[-1],0⟩∧(Yx p ⟨1,[-1],0⟩=0∧Zhw p ⟨1,[-1],0⟩ 1=⟨2,[0],1⟩)∧Yx p ⟨2,[0],1⟩=0∧Zuk p ⟨2,[0],1⟩=(1,-1)∧Ybf p ⟨2,[0],1⟩=q:=by
 have e1:((-1:Int):Rat)= -1:=by decide
 have e2:((0:Int):Rat)=0:=by decide
 have e3:((1:Int):Rat)=1:=by decide
 have e4:((4:Int):Rat)=4:=by decide
 have e5:((-4:Int):Rat)= -4:=by decide
 have e:p=knP:=by rw [hp,ha,hb,hc,hd,e1,e2,e3,e4];unfold knP;rfl
 rw [e,hq,e5];exact ⟨ke_ft,ke_err,ke_s,⟨ke_e1,ke_ru⟩,ke_e2,ke_sm,ke_va⟩
end Pl
def KeH (U:World) (a b c d:RF) (p:LPd) (k:Nat) (w:World) (v:Value):Prop:=match k with
 | 0=>Zv w v a
 | 1=>Zv w v b
 | 2=>WL w v [a,b]
 | 5=>Wv w v [⟨0,c⟩]
 | 8=>Wv w v [⟨0,c⟩]
 | 9=>Xd w v [[⟨0,c⟩],[⟨0,c⟩]]
 | 10=>Zv w v d
 | 11=>WL w v [d]
 | 12=>LpM w v p
 | 13=>∃g,v= .pointer (some ⟨g,0,none⟩)∧U.heap.size≤g∧Bk w g 26 [.slice none 0 0,.slice none 0 0,.slice none 0 0]
 | _=>True
theorem KeH.later {U:World} {a b c d:RF} {p:LPd} (k:Nat) (w w':World) (v:Value) (h:KeH U a b c d p k w v) (hb:Below w.heap.size w w'):KeH U a b c d p k w' v:=by
 unfold KeH at *;split at h;all_goals first | exact Zv.below h hb | exact WL.below h hb | exact Wv.below h hb | exact Xd.below h hb | exact LpM.below h hb | (obtain ⟨g,e,h1,h2⟩:=h;exact ⟨g,e,h1,h2.later hb⟩) | trivial
attribute [local irreducible] YE
theorem Ydg (w:World):
 Calls Tryz.prog 23 #[] w fun o w'=>o= .returned (.bool true)∧Below w.heap.size w w':=by
 obtain ⟨a,ha⟩:∃a:RF,a=canF ((-1:Int):Rat):=⟨_,rfl⟩;obtain ⟨b0,a4⟩:∃b:RF,b=canF ((0:Int):Rat):=⟨_,rfl⟩;obtain ⟨c1,a5⟩:∃c:RF,c=canF ((1:Int):Rat):=⟨_,rfl⟩;obtain ⟨d4,a6⟩:∃d:RF,d=canF ((4:Int):Rat):=⟨_,rfl⟩;obtain ⟨q,hq⟩:∃q:RF,q=canF ((-4:Int):Rat):=⟨_,rfl⟩;obtain ⟨p,hp⟩:∃p:LPd,p=⟨[a,b0],[[⟨0,c1⟩],[⟨0,c1⟩]],[d4]⟩:=⟨_,rfl⟩;obtain ⟨z1,z2,z3,z4,z5⟩:=Zxk ha a4 a5 a6 hq hp;have HA:=Lib.hid ha;have HB:=Lib.hid a4;have HC:=Lib.hid a5;have HD:=Lib.hid a6;have HQ:=Lib.hid hq;have HP:=Lib.hid hp;have m:=Lib.hid z1;have aj:=Lib.hid z2;have b9:=Lib.hid z3;have ak:=Lib.hid z4;have al:=Lib.hid z5;clear ha a4 a5 a6 hq hp z1 z2 z3 z4 z5;go_enter Tryz.func23,Tryz.ntmps23;go_wp2_with fail;refine (XT 1 _ (by decide) (by decide)).mono ?_;rintro _ w1 ⟨v1,rfl,e1,ae⟩;have S:Zv w1 v1 c1:=by rw [HC.out];exact e1.1
 obtain ⟨A,n,c,A',n',c',rfl,_,_⟩:=id S;obtain ⟨W,hW,hX,a7⟩:=YZ w1 (.bool c1.num.neg) (.slice A n c) (.bool c1.den.neg) (.slice A' n' c');have T:=Za ae a7 ae.size;have HO:=Lib.hid (S.below a7);obtain ⟨x0,x1,x2,x3⟩:=hX.four;clear e1 S ae a7;generalize bn:c1.num.neg=q0 at *;generalize bo:c1.den.neg=q1 at *;clear bn bo;go_wp2_with fail;clear hW;have C0:=Zm x0;have C1:=Zm x1;have C2:=Zm x2;have C3:=Zm x3;clear x0 x1 x2 x3;refine YF 14 (.go 3 (.go 4 (.go 6 (.go 7 (.bag [0,1,2,5,8,9,10,11,12,13] (.go 14 .done)))))) (by kernel_rfl) (Zqb (by kernel_rfl)) ?_;repeat ((first | (refine ZK (v:=?_) rfl rfl rfl ?_ ?_;rotate_left;(· (intro _ f;go_simp;(try go_bits);(try with_reducible rfl)))) | (refine ZU (v:=?_) rfl rfl rfl ?_ ?_;rotate_left;(· (intro _ f;go_simp;(try go_bits);(try with_reducible rfl)))) | refine ZV rfl rfl rfl ?_ | refine ZL rfl rfl rfl (by assumption) ?_);(try simp only [Act.put,pu1,pu2,pu3,pu4,pu5,pu6]))
 refine Zue (l:=[(0,13),(1,14),(2,15),(5,18),(8,21),(9,22),(10,23),(11,24),(12,25),(13,2)]) W (KeH W a b0 c1 d4 p) (fun _=>undef) rfl ?_ (by decide) (Ze W) KeH.later (List.forall_mem_cons.2 ⟨?_,List.forall_mem_cons.2 ⟨?_,List.forall_mem_cons.2 ⟨?_,List.forall_mem_cons.2 ⟨?_,List.forall_mem_cons.2 ⟨?_,List.forall_mem_cons.2 ⟨?_,List.forall_mem_cons.2 ⟨?_,List.forall_mem_cons.2 ⟨?_,List.forall_mem_cons.2 ⟨?_,List.forall_mem_cons.2 ⟨?_,List.forall_mem_nil _⟩⟩⟩⟩⟩⟩⟩⟩⟩⟩) ?_
 ·simp only [Zae,List.foldl_cons,List.foldl_nil,Act.put,List.setIfInBounds_toArray,List.set_cons_zero,List.set_cons_succ]
 ·refine Grow.mk rfl fun s wx b hbb hd hb KR hKR=>?_
  simp only [Zae,List.foldl_cons,List.foldl_nil,Act.put,List.setIfInBounds_toArray,List.set_cons_zero,List.set_cons_succ] at hbb;subst hbb;go_simp;refine (XT (-1) _ (by decide) (by decide)).mono ?_;rintro _ w' ⟨v',rfl,e',r⟩;exact hKR.out _ _ (Or.inr (Za hb r hb.size)) ⟨r,v',by simp [Zae,Zqa,Act.put],by rw [HA.out];exact e'.1⟩
 ·refine Grow.mk rfl fun s wx b hbb hd hb KR hKR=>?_
  simp only [Zae,List.foldl_cons,List.foldl_nil,Act.put,List.setIfInBounds_toArray,List.set_cons_zero,List.set_cons_succ] at hbb;subst hbb;go_simp;refine (XT (0) _ (by decide) (by decide)).mono ?_;rintro _ w' ⟨v',rfl,e',r⟩;exact hKR.out _ _ (Or.inr (Za hb r hb.size)) ⟨r,v',by simp [Zae,Zqa,Act.put],by rw [HB.out];exact e'.1⟩
 ·refine Grow.mk rfl fun s wx b hbb hd hb KR hKR=>?_
  have d0:Zv wx (s 0) a:=hd 0 (by decide) (by kernel_rfl);have d1:Zv wx (s 1) b0:=hd 1 (by decide) (by kernel_rfl);clear hd;obtain ⟨B,k,d,B',k',d',h0,_,_⟩:=id d0;obtain ⟨E,j,e,E',j',e',h1,_,_⟩:=id d1;rw [h0] at d0;rw [h1] at d1;simp only [Zae,List.foldl_cons,List.foldl_nil,Act.put,List.setIfInBounds_toArray,List.set_cons_zero,List.set_cons_succ] at hbb;subst hbb;rw [h0,h1];go_simp;exact hKR.out _ _ (Or.inr (Za hb (Zb wx _) hb.size)) ⟨Zb _ _,_,by simp [Zae,Zqa,Act.put,h0,h1],Zxi d0 d1⟩
 ·refine Grow.mk rfl fun s wx b hbb hd hb KR hKR=>?_
  clear hd;simp only [Zae,List.foldl_cons,List.foldl_nil,Act.put,List.setIfInBounds_toArray,List.set_cons_zero,List.set_cons_succ] at hbb;subst hbb;go_simp;exact hKR.out _ _ (Or.inr (Za hb (Zb wx _) hb.size)) ⟨Zb _ _,_,by simp [Zae,Zqa,Act.put],Zob (HO.out.below hb)⟩
 ·refine Grow.mk rfl fun s wx b hbb hd hb KR hKR=>?_
  clear hd;simp only [Zae,List.foldl_cons,List.foldl_nil,Act.put,List.setIfInBounds_toArray,List.set_cons_zero,List.set_cons_succ] at hbb;subst hbb;go_simp;exact hKR.out _ _ (Or.inr (Za hb (Zb wx _) hb.size)) ⟨Zb _ _,_,by simp [Zae,Zqa,Act.put],Zob (HO.out.below hb)⟩
 ·refine Grow.mk rfl fun s wx b hbb hd hb KR hKR=>?_
  have d0:Wv wx (s 5) [⟨0,c1⟩]:=hd 5 (by decide) (by kernel_rfl);have d1:Wv wx (s 8) [⟨0,c1⟩]:=hd 8 (by decide) (by kernel_rfl);clear hd;obtain ⟨B,k,h0,_,_⟩:=d0.shape;obtain ⟨E,j,h1,_,_⟩:=d1.shape;rw [h0] at d0;rw [h1] at d1;simp only [Zae,List.foldl_cons,List.foldl_nil,Act.put,List.setIfInBounds_toArray,List.set_cons_zero,List.set_cons_succ] at hbb;subst hbb;rw [h0,h1];go_simp;exact hKR.out _ _ (Or.inr (Za hb (Zb wx _) hb.size)) ⟨Zb _ _,_,by simp [Zae,Zqa,Act.put,h0,h1],Zuf d0 d1⟩
 ·refine Grow.mk rfl fun s wx b hbb hd hb KR hKR=>?_
  simp only [Zae,List.foldl_cons,List.foldl_nil,Act.put,List.setIfInBounds_toArray,List.set_cons_zero,List.set_cons_succ] at hbb;subst hbb;go_simp;refine (XT (4) _ (by decide) (by decide)).mono ?_;rintro _ w' ⟨v',rfl,e',r⟩;exact hKR.out _ _ (Or.inr (Za hb r hb.size)) ⟨r,v',by simp [Zae,Zqa,Act.put],by rw [HD.out];exact e'.1⟩
 ·refine Grow.mk rfl fun s wx b hbb hd hb KR hKR=>?_
  have d0:Zv wx (s 10) d4:=hd 10 (by decide) (by kernel_rfl);clear hd;obtain ⟨B,k,d,B',k',d',h0,_,_⟩:=id d0;rw [h0] at d0;simp only [Zae,List.foldl_cons,List.foldl_nil,Act.put,List.setIfInBounds_toArray,List.set_cons_zero,List.set_cons_succ] at hbb;subst hbb;rw [h0];go_simp;exact hKR.out _ _ (Or.inr (Za hb (Zb wx _) hb.size)) ⟨Zb _ _,_,by simp [Zae,Zqa,Act.put,h0],Zxh d0⟩
 ·refine Grow.mk rfl fun s wx b hbb hd hb KR hKR=>?_
  have d2:WL wx (s 2) [a,b0]:=hd 2 (by decide) (by kernel_rfl);have d9:Xd wx (s 9) [[⟨0,c1⟩],[⟨0,c1⟩]]:=hd 9 (by decide) (by kernel_rfl);have am:WL wx (s 11) [d4]:=hd 11 (by decide) (by kernel_rfl);clear hd;obtain ⟨A1,c1,e1,_,_⟩:=d2.shape;obtain ⟨A2,c2,e2,_,_⟩:=d9.shape;obtain ⟨A3,c3,e3,_,_⟩:=am.shape;simp only [Zae,List.foldl_cons,List.foldl_nil,Act.put,List.setIfInBounds_toArray,List.set_cons_zero,List.set_cons_succ] at hbb;subst hbb;go_simp;exact hKR.out _ _ (Or.inr hb) ⟨Below.refl _ _,.agg #[s 2,s 9,s 11],by simp [Zae,Zqa,Act.put,e1,e2,e3],_,_,_,_,_,_,_,_,_,by rw [e1,e2,e3],by rw [HP.out];exact e1▸d2,by rw [HP.out];exact e2▸d9,by rw [HP.out];exact e3▸am⟩
 ·refine Grow.mk rfl fun s wx b hbb hd hb KR hKR=>?_
  clear hd;simp only [Zae,List.foldl_cons,List.foldl_nil,Act.put,List.setIfInBounds_toArray,List.set_cons_zero,List.set_cons_succ] at hbb;subst hbb;go_simp;exact hKR.out _ _ (Or.inr (Za hb (Zb wx _) hb.size)) ⟨Zb _ _,_,by simp [Zae,Zqa,Act.put],_,rfl,hb.size,Bk.new wx 26 [.slice none 0 0,.slice none 0 0,.slice none 0 0]⟩
 ·intro s wx hG hb;have ba:LpM wx (s 12) p:=hG 12 (by decide);have bc:∃g,s 13= .pointer (some ⟨g,0,none⟩)∧W.heap.size≤g∧Bk wx g 26 [.slice none 0 0,.slice none 0 0,.slice none 0 0]:=hG 13 (by decide);obtain ⟨g,b4,O,hB⟩:=bc;clear hG C0 C1 C2 C3;simp only [Zae,List.foldl_cons,List.foldl_nil,Act.put,List.setIfInBounds_toArray,List.set_cons_zero,List.set_cons_succ];obtain ⟨A1,n1,c1,A2,n2,c2,A3,n3,c3,b5,g2,g9,b6⟩:=ba;rw [b4,b5];clear b4 b5;generalize s 0=u0 at *;generalize s 1=u1 at *;generalize s 5=u5 at *;generalize s 8=u8 at *;generalize s 10=bp at *;generalize s 2=v2 at *;generalize s 9=v9 at *;generalize s 11=bq at *;clear s;obtain ⟨t0,t1,t2⟩:=hB.three;obtain ⟨f0,f1,f2⟩:=hB.threeF;repeat ((first | (refine ZK (v:=?_) rfl rfl rfl ?_ ?_;rotate_left;(· (intro _ f;go_simp;(try go_bits);(try with_reducible rfl)))) | (refine ZU (v:=?_) rfl rfl rfl ?_ ?_;rotate_left;(· (intro _ f;go_simp;(try go_bits);(try with_reducible rfl)))) | refine ZV rfl rfl rfl ?_ | refine ZL rfl rfl rfl (by assumption) ?_);(try simp only [Act.put,pu1,pu2,pu3,pu4,pu5,pu6]))
  refine Zz rfl rfl (fun KR hKR=>?_);go_simp;refine hKR.out _ _ (Or.inl (by decide)) ?_;clear hKR KR t0 t1 t2 f0 f1 f2;refine Yp ?_;have k0:=Zd.setCell hB 0 (.slice A1 n1 c1);have b0:=hB.set_ 0 (.slice A1 n1 c1);have k1:=Zd.setCell b0 1 (.slice A2 n2 c2);have b1:=b0.set_ 1 (.slice A2 n2 c2);have k2:=Zd.setCell b1 2 (.slice A3 n3 c3);have b2:=b1.set_ 2 (.slice A3 n3 c3);have kk:=(k0.trans k1).trans k2;have an:=((hb.setCell (p:=⟨g,0,none⟩) O (.slice A1 n1 c1)).setCell (p:=⟨g,1,none⟩) O (.slice A2 n2 c2)).setCell (p:=⟨g,2,none⟩) O (.slice A3 n3 c3);have ao:LpM (((wx.setCell ⟨g,0,none⟩ (.slice A1 n1 c1)).setCell ⟨g,1,none⟩ (.slice A2 n2 c2)).setCell ⟨g,2,none⟩ (.slice A3 n3 c3)) (.agg #[.slice A1 n1 c1,.slice A2 n2 c2,.slice A3 n3 c3]) p:=
   ⟨_,_,_,_,_,_,_,_,_,rfl,g2.but kk (by decide) (by decide),g9.but kk (by decide) (by decide) (by decide),b6.but kk (by decide) (by decide)⟩
  have U:Bk (((wx.setCell ⟨g,0,none⟩ (.slice A1 n1 c1)).setCell ⟨g,1,none⟩ (.slice A2 n2 c2)).setCell ⟨g,2,none⟩ (.slice A3 n3 c3)) g 26 [.slice A1 n1 c1,.slice A2 n2 c2,.slice A3 n3 c3]:=b2;have x:=Za T an T.size;clear k0 k1 k2 kk b0 b1 b2 an g2 g9 b6 O hB hb hX HO T;generalize ((wx.setCell ⟨g,0,none⟩ (.slice A1 n1 c1)).setCell ⟨g,1,none⟩ (.slice A2 n2 c2)).setCell ⟨g,2,none⟩ (.slice A3 n3 c3)=W3 at *;obtain ⟨x0,x1,x2⟩:=U.three;have V:=Lib.hid ao;clear ao;go_wp2_with fail;refine (Zfy _ p 32 _ V.out m.out.1.ok (fun _=>m.out)).mono ?_;rw [Zef aj.out,aj.out];obtain ⟨s1,a8⟩:∃s1,s1=Zr p (Yq p):=⟨_,rfl⟩;have y:=Lib.hid (a8.trans b9.out);rw [← a8];clear a8;rintro _ w4 ⟨v4,rfl,⟨A4,n4,c4,rfl,b7⟩,af⟩;obtain ⟨W4,bf,a9,aa⟩:=Vu w4 (.int .i64 s1.phase) (.slice A4 n4 c4) (.int .i64 s1.pivots);have M:=Za af aa af.size;have C:=Za x M x.size;have X:=U.later M;have D:=Lib.hid (V.out.below M);have ap:Hid (StM W4 (.agg #[.int .i64 s1.phase,.slice A4 n4 c4,.int .i64 s1.pivots]) s1):=Lib.hid ⟨A4,n4,c4,rfl,(b7.below aa).ints⟩;clear x0 x1 x2 U af aa M b7 V x;obtain ⟨x0,x1,x2⟩:=X.three;obtain ⟨y0,y1,y2⟩:=a9.three;go_wp2_with fail;clear bf;refine (Zny _ _ p s1 32 _ D.out ap.out m.out.1.ok (fun _=>m.out) (by rw [y.out];decide) (by rw [y.out];intro z hz;simp at hz;omega) 1 (by decide) (fun _=>by rw [y.out];decide)).mono ?_;have Y:Hid (Yx p s1=0∧Zhw p s1 1=⟨2,[0],1⟩):=Lib.hid (by rw [y.out];exact ak.out);obtain ⟨t,ht⟩:∃t:LSt,t=⟨2,[0],1⟩:=⟨_,rfl⟩;have HT:=Lib.hid ht;rw [Y.out.1,Y.out.2,← ht];clear ht;rintro _ w5 ⟨v5,rfl,⟨A5,n5,c5,rfl,ag⟩,ah⟩;obtain rfl:n5=1:=by have:=ag.ints.len.1;rw [HT.out] at this;exact this
  obtain ⟨W5,bg,ab,ac⟩:=Vu w5 (.int .i64 t.phase) (.slice A5 1 c5) (.int .i64 t.pivots);have F:=Za ah ac ah.size;have G:=Za C F C.size;have Z:=X.later F;have aq:=a9.later F;have H:=Lib.hid (D.out.below F);have I:=(ag.below ac).ints;have a0:Hid (StM W5 (.agg #[.int .i64 t.phase,.slice A5 1 c5,.int .i64 t.pivots]) t):=Lib.hid ⟨A5,1,c5,rfl,I⟩;clear x0 x1 x2 y0 y1 y2 X a9 ah ac F ag D C ap Y;obtain ⟨x0,x1,x2⟩:=Z.three;obtain ⟨y0,y1,y2⟩:=ab.three;go_wp2_with fail;clear bg;have HR:Hid (t.basis.length≤1099511627776∧∀z∈t.basis,-9223372036854775808≤z∧z≤9223372036854775807):=Lib.hid (by rw [HT.out];exact ⟨by decide,by intro z hz;simp at hz;omega⟩);refine (Zee _ _ p t 32 _ H.out a0.out m.out.1.ok (fun _=>m.out) HR.out.1 HR.out.2).mono ?_;have J:Hid (Yx p t=0∧Zuk p t=(1,-1)∧Ybf p t=q):=Lib.hid (by rw [HT.out];exact al.out);rw [J.out.1,J.out.2.1];rintro _ w6 ⟨rfl,u⟩;have K:=Za G u G.size;have ar:=Z.later u;have au:=aq.later u;have a1:=ab.later u;have P:=Lib.hid (H.out.below u);have av:=Lib.hid (a0.out.below u);have aw:=I.below u;clear x0 x1 x2 y0 y1 y2 Z aq ab u H G a0 I;obtain ⟨x0,x1,x2⟩:=ar.three;obtain ⟨y0,y1,y2⟩:=a1.three;go_wp2_with fail;refine (Zpz _ _ p t 32 _ P.out av.out m.out.1.ok (fun _=>m.out) HR.out.1 HR.out.2).mono ?_;rw [J.out.1,J.out.2.2];rintro _ w7 ⟨v7,rfl,e7,ai⟩;obtain ⟨A7,n7,c7,bh,bi,bj,rfl,_,_⟩:=id e7;obtain ⟨W7,bk,bl,ad⟩:=YZ w7 (.bool q.num.neg) (.slice A7 n7 c7) (.bool q.den.neg) (.slice bh bi bj);have L:=Za ai ad ai.size;have R:=Za K L K.size;have ax:=au.later L;have N:=a1.later L;have ay:=aw.below L;have bd:=Lib.hid (e7.below ad);clear x0 x1 x2 y0 y1 y2 ar au a1 ai ad L aw P K av e7 J HR;go_wp2_with fail;clear bk;have x0:W7.cell? ⟨w4.heap.size,0,none⟩=some (.int .i64 1):=by have h:=ax.three.1;rw [y.out] at h;exact h
  have y0:W7.cell? ⟨w5.heap.size,0,none⟩=some (.int .i64 2):=by have h:=N.three.1;rw [HT.out] at h;exact h
  have y1:W7.cell? ⟨w5.heap.size,1,none⟩=some (.slice A5 1 c5):=N.three.2.1;have y2:W7.cell? ⟨w5.heap.size,2,none⟩=some (.int .i64 1):=by have h:=N.three.2.2;rw [HT.out] at h;exact h
  obtain ⟨bb,ob,z,rfl,z0,hz,_,_⟩:=ay.at_ (i:=0) (by decide);obtain rfl:z=0:=by rw [HT.out] at hz;injection hz with e;exact e.symm
  have z0:W7.cell? ⟨bb,ob,none⟩=some (.int .i64 0):=z0;obtain ⟨v0,v1,v2,v3⟩:=bl.four;have C0:=Zm x0;have C1:=Zm y0;have C2:=Zm y1;have C3:=Zm y2;have C4:=Zm z0;have C5:=Zm v0;have C6:=Zm v1;have C7:=Zm v2;have C8:=Zm v3;have a2:=Ze W7;clear x0 y0 y1 y2 z0 v0 v1 v2 v3 ax N ay hz;refine Zo 56 [0,1,2,3,4,5,6,7,8,9,10,11,12,13,14,15,16,17,18,19,20,21,22,23,24,25,26,27,28,29,30,31,32,33,34,35,36,37,38,39,40,41,42,43,44,45,46,47,48,49,50,51,52,53,54,55] (by kernel_rfl) (by kernel_rfl) ?_;repeat ((first | (refine Zc (v:=?_) rfl rfl rfl ?_ ?_;rotate_left;(· (intro _ f;go_simp;(try go_bits);(try with_reducible rfl)))) | (refine Zg (v:=?_) rfl rfl rfl ?_ ?_;rotate_left;(· (intro _ f;go_simp;(try go_bits);(try with_reducible rfl)))) | refine Zh rfl rfl rfl ?_ | refine VR rfl rfl rfl (by assumption) ?_);(try simp only [Act.put,pu1,pu2,pu3,pu4,pu5,pu6]))
  refine Zf rfl rfl (fun KR hKR=>?_);go_simp;with_reducible refine (XT (-4) _ (by decide) (by decide)).mono ?_
  rintro _ w8 ⟨v8,rfl,e8,b8⟩;have a3:=Za a2 b8 a2.size;have be:Zv w8 v8 q:=by rw [HQ.out];exact e8.1
  refine hKR.out _ _ (Or.inr a3) ?_;clear hKR KR;(try simp only [Act.put,pu1,pu2,pu3,pu4,pu5,pu6]);repeat ((first | (refine Zc (v:=?_) rfl rfl rfl ?_ ?_;rotate_left;(· (intro _ f;go_simp;(try go_bits);(try with_reducible rfl)))) | (refine Zg (v:=?_) rfl rfl rfl ?_ ?_;rotate_left;(· (intro _ f;go_simp;(try go_bits);(try with_reducible rfl)))) | refine Zh rfl rfl rfl ?_ | refine VR rfl rfl rfl (by assumption) ?_);(try simp only [Act.put,pu1,pu2,pu3,pu4,pu5,pu6]))
  refine Zf rfl rfl (fun KR hKR=>?_);go_simp;with_reducible refine (Zru _ _ q q _ ((bd.out.below a2).below b8) be).mono ?_
  rw [Zot];rintro _ w9 ⟨rfl,bm⟩;have az:=Za a3 bm a3.size;refine hKR.out _ _ (Or.inr az) ?_;clear hKR KR;(try simp only [Act.put,pu1,pu2,pu3,pu4,pu5,pu6]);repeat ((first | (refine Zc (v:=?_) rfl rfl rfl ?_ ?_;rotate_left;(· (intro _ f;go_simp;(try go_bits);(try with_reducible rfl)))) | (refine Zg (v:=?_) rfl rfl rfl ?_ ?_;rotate_left;(· (intro _ f;go_simp;(try go_bits);(try with_reducible rfl)))) | refine Zh rfl rfl rfl ?_ | refine VR rfl rfl rfl (by assumption) ?_);(try simp only [Act.put,pu1,pu2,pu3,pu4,pu5,pu6]))
  refine Zy ?_;have b3:=Za R az R.size;clear C0 C1 C2 C3 C4 C5 C6 C7 C8;go_wp2;go_ret;exact ⟨rfl,b3⟩
end
end Go.Proofs.YtncmobkhenfhpaaGreat
