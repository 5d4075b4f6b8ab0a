/- Lemmas of the claim; no condition. -/
import Derived.Test.YtidgdpkcloaheaaGreatQ13
set_option linter.all false
set_option maxRecDepth 100000
set_option maxHeartbeats 40000000
namespace Go.Proofs.YtidgdpkcloaheaaGreat
open Go.RowKit
open Pl
attribute [local go_sem ↓] Go.wp_at_zero Go.wp_at_succ
theorem Vn [Old] (v1 v2:Value) (xs ys:List Nat) (w:World) (h1:ZC w v1 xs) (h2:ZC w v2 ys) (hle:val ys≤val xs) (hlen:ys.length≤xs.length) (hs:xs.length≤549755813888) (hOl:Zb w:=by (repeat (first | assumption | exact Zb.up (by assumption) hOl | exact Zb.up (Hid.out (by assumption)) hOl | with_reducible refine Zb.set ?_ _ _ | with_reducible refine Zb.mk_ ?_ _ | with_reducible refine Zb.dr ?_ | with_reducible refine Zb.drN ?_ | refine Zb.up (by assumption) ?_ | refine Zb.up (Hid.out (by assumption)) ?_))):
 Calls Tryz.prog 114 #[v1,v2] w fun e w'=>∃k l,e= .returned (.slice (some ⟨w.heap.size,0,none⟩) k l)∧ZC w' (.slice (some ⟨w.heap.size,0,none⟩) k l) (Zi (val xs - val ys))∧Below w.heap.size w w':=by
 have n:=hOl.le;have HL:=JZ hle;clear hle;obtain ⟨A,l,c,rfl⟩:=h1.shape;obtain ⟨hl,m,p,hc⟩:=h1.len;have f:=Yw l (by omega);have HX:Hid (xs.length≤l):=JZ (by omega);have HY:Hid (ys.length≤l):=JZ (by omega);have o:(l:Int)≤549755813888:=by omega
 have g:=h1.ok;have h:=h2.ok;clear hl m hlen hs;go_enter Tryz.func114,Tryz.ntmps114;go_wp2;clear f
 go_loopw [6,7] (fun cy i wr=>∃(k:Nat) (O:List Nat) (z:Int),k≤l∧i= .int .i64 k∧cy= .int .u64 z∧0≤z∧z≤1∧l≤O.length∧O.length≤l∧Yv wr w.heap.size O∧okD O∧Below w.heap.size w wr∧
  (vt O k:Int) - z * ((B32^k:Nat):Int)=vt xs k - vt ys k) (fun _ i _=>l - (intOf i).toNat)
 case atStart=>exact ⟨0,List.replicate l 0,0,by omega,rfl,rfl,by omega,by omega,by simp,by simp,Yv.zeros w _,Zy _,(JR _ _).alloc (JY _) _,by simp [YE]⟩
 case round=>
  obtain ⟨k,O,z,hk,rfl,rfl,z0,z1,hO,b,hB,ok,a,d⟩:=hrel;have HE:=JZ d;clear d;rcases JX k l with hkl | hkl
  ·have x0:=Zl xs k;have x1:=Z4 g k;have y0:=Zl ys k;have y1:=Z4 h k;have ho:=hB.cell (k:=k) (by omega);have hf:=hB.frozen k;go_wp2_with fail;refine (Xe _ xs k _ (h1.below a) (by omega)).mono ?_;rintro e w1 ⟨rfl,rfl⟩;go_wp2_with fail;refine (Xe _ ys k _ (h2.below a) (by omega)).mono ?_;rintro e w1 ⟨rfl,rfl⟩;obtain ⟨x,hx⟩:∃x,x=di xs k+4294967296 - di ys k - z:=⟨_,rfl⟩;have j:=JZ hx;have q1:IntKind.u64.wrap (di xs k+4294967296)=di xs k+4294967296:=u64_in _ (by omega) (by omega);have q2:IntKind.u64.wrap (di xs k+4294967296 - di ys k)=di xs k+4294967296 - di ys k:=u64_in _ (by omega) (by omega);have q3:IntKind.u64.wrap (di xs k+4294967296 - di ys k - z)=x:=(by rw [hx];exact u64_in _ (by omega) (by omega));have r0:0≤x:=(by omega);have r1:x≤8589934591:=(by omega);clear hx;have q4:IntKind.u64.wrap (1 - x / 4294967296)=1 - x / 4294967296:=u64_in _ (by omega) (by omega);go_wp2;go_roundw
   case rel=>exact ⟨k+1,O.set k (x % 4294967296).toNat,1 - x / 4294967296,by omega,by go_num,rfl,by omega,by omega,by simpa using hO,by simpa using b,hB.setI k (by omega),ZA ok k (by unfold B32;omega),a.setCell (JY _) _,VK (by omega) rfl (by omega) (by have:=j.out;omega) HE.out⟩
   case measure=>simp [intOf];omega
  ·obtain rfl:k=l:=by omega
   go_wp2_with fail;refine (UV _ _ _ O _ ?_).mono ?_
   ·have:=hB.dig ok (c:=k) b (by unfold maxLen;omega)
    rwa [show O.length=k from by omega] at this
   rintro e w1 ⟨k',rfl,hv,rfl⟩;go_wp2_with fail;go_ret;refine ⟨_,_,rfl,?_,a⟩
   rwa [Zlf (show O.length=k by omega) ok z0 HX.out HY.out HL.out HE.out] at hv
theorem Vo [Old] (v1 v2:Value) (xs ys:List Nat) (w:World) (h1:ZC w v1 xs) (h2:ZC w v2 ys) (hle:val ys≤val xs) (hlen:ys.length≤xs.length) (hs:xs.length≤549755813888) (hOl:Zb w:=by (repeat (first | assumption | exact Zb.up (by assumption) hOl | exact Zb.up (Hid.out (by assumption)) hOl | with_reducible refine Zb.set ?_ _ _ | with_reducible refine Zb.mk_ ?_ _ | with_reducible refine Zb.dr ?_ | with_reducible refine Zb.drN ?_ | refine Zb.up (by assumption) ?_ | refine Zb.up (Hid.out (by assumption)) ?_))):
 Calls Tryz.prog 114 #[v1,v2] w fun e w'=>∃v',e= .returned v'∧ZC w' v' (Zi (val xs - val ys))∧Below w.heap.size w w':=
 (Vn v1 v2 xs ys w h1 h2 hle hlen hs).mono fun _ _ ⟨_,_,h1,h2,h3⟩=>⟨_,h1,h2,h3⟩
theorem Zbl [Old] (v1 v2:Value) (xs ys:List Nat) (w:World) (h1:ZC w v1 xs) (h2:ZC w v2 ys) (hs:xs.length+ys.length≤1099511627776) (hOl:Zb w:=by (repeat (first | assumption | exact Zb.up (by assumption) hOl | exact Zb.up (Hid.out (by assumption)) hOl | with_reducible refine Zb.set ?_ _ _ | with_reducible refine Zb.mk_ ?_ _ | with_reducible refine Zb.dr ?_ | with_reducible refine Zb.drN ?_ | refine Zb.up (by assumption) ?_ | refine Zb.up (Hid.out (by assumption)) ?_))):
 Calls Tryz.prog 109 #[v1,v2] w fun e w'=>∃v',e= .returned v'∧ZC w' v' (Zi (val xs * val ys))∧Below w.heap.size w w':=by
 have I:=hOl.le;obtain ⟨A,l,c,rfl⟩:=h1.shape;obtain ⟨hl,B,K,hc⟩:=h1.len;obtain ⟨A2,l2,c2,rfl⟩:=h2.shape;obtain ⟨kl,C,L,kc⟩:=h2.len;have v:=h1.ok;have x:=h2.ok;have p:=Yw (l+l2) (by omega)
 push_cast at p
 have J:(l:Int)+(l2:Int)≤1099511627776:=by omega
 have HX:Hid (xs.length≤l):=JZ (by omega);have HY:Hid (ys.length=l2):=JZ (by omega);clear hl B kl C hs;go_enter Tryz.func109,Tryz.ntmps109;go_wp2;clear p
 go_loopw [6] (fun i wr=>∃(k:Nat) (O:List Nat),k≤l∧i= .int .i64 k∧l+l2≤O.length∧O.length≤l+l2∧Yv wr w.heap.size O∧okD O∧Below w.heap.size w wr∧
  (val O:Int)=(vt xs k:Int) * val ys∧(∀j,k+l2≤j→dg O j=0)) (fun i _=>l - (intOf i).toNat)
 case atStart=>exact ⟨0,List.replicate (l+l2) 0,by omega,rfl,by simp,by simp,Yv.zeros w _,Zy _,(JR _ _).alloc (JY _) _,by simp [YE,Y2],fun j _=>XM _ _⟩
 case round=>
  obtain ⟨k,O,hk,rfl,hO,r,hB,ok,n,s,t⟩:=hrel;have HE:=JZ s;have HZ:=JZ t;clear s t;rcases JX k l with hkl | hkl
  ·obtain ⟨b1,G,rfl,D,a⟩:=h1.at_ (by omega);have y:=JZ a;clear a;have x0:=Zl xs k;have x1:=Z4 v k;obtain ⟨wo,E⟩:∃wo:World,wo=wr:=⟨_,rfl⟩;subst E;go_wp2
   go_loopw [7,8] (fun cy i wr=>∃(j:Nat) (O':List Nat) (z:Int),j≤l2∧i= .int .i64 j∧cy= .int .u64 z∧0≤z∧z≤4294967295∧l+l2≤O'.length∧O'.length≤l+l2∧Yv wr w.heap.size O'∧okD O'∧Below w.heap.size w wr∧
    (val O':Int)+z * ((B32^(k+j):Nat):Int)=(val O:Int)+di xs k * ((B32^k:Nat):Int) * vt ys j∧(∀i,k+l2≤i→dg O' i=0)) (fun _ i _=>l2 - (intOf i).toNat)
   case atStart=>exact ⟨0,O,0,by omega,rfl,rfl,by omega,by omega,hO,r,hB,ok,n,by simp [YE],HZ.out⟩
   case round=>
    clear n hB;obtain ⟨j,O',z,hj,rfl,rfl,z0,z1,hP,u,f,o,b,g,h⟩:=hrel;have q:=JZ g;have m:=JZ h;clear g h;rcases JX j l2 with hjl | hjl
    ·obtain ⟨b2,H,rfl,F,d⟩:=h2.at_ (by omega);have hx:=Y3 b D y.out hkl;have hy:=Y3 b F d hjl;clear d;have y0:=Zl ys j;have y1:=Z4 x j;have p0:0≤di xs k * di ys j:=Int.mul_nonneg x0 y0;have p1:di xs k * di ys j≤4294967295 * 4294967295:=Int.mul_le_mul x1 y1 y0 (by omega);have ho:=f.cell (k:=k+j) (by omega);have hf:=f.frozen (k+j);have o0:=Zl O' (k+j);have o1:=Z4 o (k+j);have g1:IntKind.u64.wrap (di O' (k+j))=di O' (k+j):=u64_in _ o0 (by omega);have g2:IntKind.u64.wrap (z+di O' (k+j))=z+di O' (k+j):=u64_in _ (by omega) (by omega);have g3:IntKind.u64.wrap (di xs k)=di xs k:=u64_in _ x0 (by omega);have g4:IntKind.u64.wrap (di ys j)=di ys j:=u64_in _ y0 (by omega);have g5:IntKind.u64.wrap (di xs k * di ys j)=di xs k * di ys j:=u64_in _ p0 (by omega);have g6:IntKind.u64.wrap (z+di O' (k+j)+di xs k * di ys j)=z+di O' (k+j)+di xs k * di ys j:=u64_in _ (by omega) (by omega);have g7:IntKind.i64.wrap ((k:Int)+j)=(k:Int)+j:=(by simp only [IntKind.wrap,IntKind.bits,IntKind.signed];simp;omega);have g8:((k:Int)+j).toNat=k+j:=(by omega);have g9:(k:Int)+j < (l:Int)+l2:=(by omega);go_wp2
     go_quiet (fail)
     obtain ⟨T,hT⟩:∃T,T=z+di O' (k+j)+di xs k * di ys j:=⟨_,rfl⟩;have T0:0≤T:=(by omega);have T1:T≤18446744073709551615:=(by omega);rw [← hT];have HT:=JZ hT;clear hT g1 g2 g3 g4 g5 g6 p0 p1;go_wp2;go_roundw
     case rel=>exact ⟨j+1,O'.set (k+j) (T % 4294967296).toNat,T / 4294967296,by omega,by go_num,rfl,by omega,by omega,by simpa using hP,by simpa using u,(show Yv (wr.drewN nq) w.heap.size O' from f).setI _ (by omega),ZA o _ (by unfold B32;omega),(below_drewN b nq).setCell (JY _) _,Zhk (by omega) (by omega) (by have:=HT.out;omega) q.out,fun i hi=>by rw [ZZ (by omega)];exact m.out i hi⟩
     case measure=>simp [intOf];omega
    ·obtain rfl:j=l2:=by omega
     have ho:=f.cell (k:=k+j) (by omega);have hf:=f.frozen (k+j);go_wp2;go_roundw
     case rel=>exact ⟨k+1,O'.set (k+j) z.toNat,by omega,by go_num,by simpa using hP,by simpa using u,f.setI _ (by omega),ZA o _ (by unfold B32;omega),b.setCell (JY _) _,U7 HE.out (Zbr HY.out (by omega) z0 (m.out _ (JY _)) q.out),fun i hi=>by rw [ZZ (by omega)];exact m.out i (by omega)⟩
     case measure=>simp [intOf];omega
  ·obtain rfl:k=l:=by omega
   go_wp2_with fail;refine (Yy _ O _ ?_).mono ?_
   ·have:=hB.dig ok (c:=k+l2) r (by unfold maxLen;omega)
    rwa [show O.length=k+l2 from by omega] at this
   rintro e w1 ⟨v',rfl,hv,rfl⟩;go_wp2_with fail;go_ret;refine ⟨_,rfl,?_,n⟩
   rwa [Zln HX.out HE.out] at hv
theorem Zbm [Old] (ty:TypeId) (w:World) (A:Option Addr) (n c:Nat) (ds:List Nat) (h:ZC w (.slice A n c) ds) (hs:ds.length≤549755813888):
 ∃v' w',(Builtin.append_ #[32,32] ty #[.slice none 0 0,.slice A n c]).run Tryz.prog w= .ok v' w'∧w'.ownsRow w.heap.size 106 1 v' ds.length (ds.map uc)∧Below w.heap.size w w':=by
 obtain ⟨i0,hi,d,e,f⟩:=info_parts info_u32;obtain ⟨hl,g,i,hc⟩:=h.len;obtain rfl:n=ds.length:=by omega
 rcases A with _ | ad
 ·have hn:ds=[]:=by
   rcases JV ds.length with h0 | h0
   ·exact List.length_eq_zero_iff.1 h0
   ·obtain ⟨b,j,hA,_⟩:=h.at_ h0
    cases hA
  subst hn;refine ⟨.slice none 0 0,w,?_,World.ownsRow_nil _ _ _ _,JR _ _⟩;simp [Builtin.append_,run_underlying Tryz.underlying32,sizeOf,typeInfo,hi,Builtin.lenOf,Builtin.firstCells]
 ·obtain ⟨v',w',a,h2,h3,_,_⟩:=run_append_own_at (P:=Tryz.prog) w w.heap.size 32 ty 106 i0 _ 1 4 Tryz.underlying32 hi d e f rfl (by decide) (.slice none 0 0) 0 [] (World.ownsRow_nil _ _ _ _) ad ds.length c (ds.map uc) (by simp) h.news (Uu _) (by unfold maxLen;omega) (by omega) (JY _);exact ⟨v',w',a,by simpa using h2,(JR _ _).grown h3 (JY _) (fun k hk=>by simp [Value.ownBlock] at hk)⟩
theorem VY [Old] {o:Oper} {a:Act} {K:Act→World→Prop} {Q:Exit→Act→World→Prop} (x:Operand)
 (ho:o.op= .call { callee:= .builtin .append,args:=#[.const (.slice none 0 0),x],argTypes:=#[32,32] })
 (w:World) (A:Option Addr) (n c:Nat) (ds:List Nat) (hx:a.eval x= .slice A n c) (h:ZC w (.slice A n c) ds) (hs:ds.length≤549755813888)
 (hK:∀v' w',w'.ownsRow w.heap.size 106 1 v' ds.length (ds.map uc)→Below w.heap.size w w'→K (a.put o.dst v') w'):o.wp Tryz.prog a w K Q:=by
 obtain ⟨v',w',b,h2,h3⟩:=Zbm o.type w A n c ds h hs;have hc:a.eval (.const (.slice none 0 0))= .slice none 0 0:=rfl;unfold Oper.wp execOp;simp only [ho,resolve,invoke,builtin,Sem.run_bind,Sem.run_pure,Result.andThen_ok,List.map_toArray,List.map_cons,List.map_nil,hc,hx,b];exact hK v' w' h2 h3
theorem UB [Old] {ops:Array Oper} {rest:List Oper} {o:Oper} {a:Act} {Q:Exit→Act→World→Prop} (hgd:o.guard=none) (x:Operand)
 (ho:o.op= .call { callee:= .builtin .append,args:=#[.const (.slice none 0 0),x],argTypes:=#[32,32] })
 (w:World) (A:Option Addr) (n c:Nat) (ds:List Nat) (hx:a.eval x= .slice A n c) (h:ZC w (.slice A n c) ds) (hs:ds.length≤549755813888)
 (hK:∀v' w',w'.ownsRow w.heap.size 106 1 v' ds.length (ds.map uc)→Below w.heap.size w w'→wpList Tryz.prog ops Q rest (a.put o.dst v') w'):wpList Tryz.prog ops Q (o::rest) a w:=
 wpList_plain hgd fun _ hk=>VY x ho w A n c ds hx h hs fun v' w' h2 h3=>hk _ _ (hK v' w' h2 h3)
theorem Zpq {d s:Nat} (hs:s≤31) (hd:d < B32) (h:2^(s+1)∣d):bits .or .u32 (d:Int) (2^s)=((d+2^s:Nat):Int):=by
 have h2:2^s≤2^31:=Nat.pow_le_pow_right (by decide) hs;rw [Yj,u32_or_nat _ _ (by unfold B32 at hd;omega) (by omega),or_bit h]
def Off (g:Nat) (v:Value):Prop:=∀a n c,v= .slice (some a) n c→a.block≠g
theorem Off.mk {g b o n c:Nat} (h:b≠g):Off g (.slice (some ⟨b,o,none⟩) n c):=fun a n' c' e=>by
 injection e with e1
 injection e1 with e1
 subst e1
 exact h
theorem Off.own {w:World} {base e size n g:Nat} {v:Value} {xs:List Value} (h:w.ownsRow base e size v n xs) (hg:w.heap.size≤g):Off g v:=fun a n' c' he=>by
 rcases h.2 with ⟨rfl,_⟩ | ⟨k,cap,cur,rfl,_,hh,_⟩
 ·injection he with e1;cases e1
 ·injection he with e1
  injection e1 with e1
  subst e1
  have:=Ye hh
  show k≠g
  omega
theorem ZC.far [Old] {w:World} {v:Value} {ds:List Nat} {g:Nat} (h:ZC w v ds) (ho:Off g v) (k:Nat) (u:Value):ZC (w.setCell ⟨g,k,none⟩ u) v ds:=by
 obtain ⟨A,c,hv,h1,h2,h3,h4⟩:=h;refine ⟨A,c,hv,h1,h2,h3,fun hp=>?_⟩;obtain ⟨b,d,cs,t,fz,hA,ht,hb,hc⟩:=h4 hp;have a:b≠g:=by subst hA;exact ho _ _ _ hv
 exact ⟨b,d,cs,t,fz,hA,ht,by rw [heap_setCell_other w _ _ _ a];exact hb,hc⟩
def Zwc [Old] (X Y q g:Nat) (w:World) (r d:Value) (z:Int) (wr:World) (Q:List Nat) (R D:Nat):Prop:=
 ZC wr r (Zi R)∧ZC wr d (Zi D)∧D=Y * 2^(z+1).toNat / 2∧R < Y * 2^(z+1).toNat∧X=val Q * Y+R∧2^(z+1).toNat∣val Q∧Yv wr g Q∧okD Q∧q+1≤Q.length∧Q.length≤q+1∧Below w.heap.size w wr∧(Zi R).length≤137438953472∧(Zi D).length≤549755813888∧Off g r∧Off g d
def Zjo [Old] (X Y:Nat) (w:World) (e:Ending) (w':World):Prop:=
 ∃v1 v2,e= .returned (.tuple #[v1,v2])∧ZC w' v1 (Zi (X / Y))∧ZC w' v2 (Zi (X % Y))∧Below w.heap.size w w'
theorem Vp [Old] (v1 v2:Value) (xs ys:List Nat) (w:World) (h1:ZC w v1 xs) (h2:ZC w v2 ys) (hy:val ys≠0) (hs1:(Zi (val xs)).length≤137438953472) (hs2:ys.length≤137438953472) (hOl:Zb w:=by (repeat (first | assumption | exact Zb.up (by assumption) hOl | exact Zb.up (Hid.out (by assumption)) hOl | with_reducible refine Zb.set ?_ _ _ | with_reducible refine Zb.mk_ ?_ _ | with_reducible refine Zb.dr ?_ | with_reducible refine Zb.drN ?_ | refine Zb.up (by assumption) ?_ | refine Zb.up (Hid.out (by assumption)) ?_))):
 Calls Tryz.prog 100 #[v1,v2] w (Zjo (val xs) (val ys) w):=by
 have am:=hOl.le;have ac:(Zi (val ys)).length≤137438953472:=JW (YW h2.ok) hs2;generalize hX:val xs=X at *;generalize hY:val ys=Y at *;have HX:=JZ hX;have HY:=JZ hY;have ad:=JZ hy;clear hX hY hy;go_enter Tryz.func100,Tryz.ntmps100;go_wp2_with fail;refine (Yy _ xs _ h1).mono ?_;rw [HX.out];rintro e w1 ⟨u1,rfl,g1,rfl⟩;obtain ⟨A,l,c,rfl⟩:=g1.shape;go_wp2_with (at_builtin;refine UB rfl (.tmp 12) rfl _ A l c (Zi X) rfl g1 (by omega) ?_);intro v' w1 C b;have d1:=We C (ZV X);have o1:=Off.own C (JY _);clear C;go_wp2_with fail;refine (Zaf _ xs _ (h1.below b) (by rw [HX.out];omega)).mono ?_;rw [HX.out];rintro e w2 ⟨rfl,rfl⟩;go_wp2_with fail;refine (Zaf _ ys _ (h2.below b) (by rw [HY.out];omega)).mono ?_;rw [HY.out];rintro e w2 ⟨rfl,rfl⟩;have b1:=@Zrt X;have b2:=@Zrt Y;rcases JX (bl X) (bl Y) with hlt | hge
 ·have hq:X / Y=0∧X % Y=X:=⟨Nat.div_eq_of_lt (Zeg hlt),Nat.mod_eq_of_lt (Zeg hlt)⟩;have HQ:=JZ hq;have ht:(bl X:Int) - bl Y < 0:=by omega
  clear hq;go_wp2;go_ret2;exact ⟨_,_,rfl,by rw [HQ.out.1,digs_zero];exact ZC.nil _ _ _ (by simp),by rw [HQ.out.2];exact d1,b⟩
 ·have g:=Zpk hge ad.out;obtain ⟨n,hn⟩:∃n:Nat,n=bl X - bl Y:=⟨_,rfl⟩;have an:(bl X:Int) - bl Y=(n:Int):=by omega
  rw [← hn] at g;have ae:=JZ g;obtain ⟨q,s,a9,hs⟩:∃q s,n=32 * q+s∧s≤31:=⟨n / 32,n % 32,by omega,by omega⟩;have ao:(n:Int)≤4398046511104:=by omega
  have ap:q≤137438953472:=by omega
  have hq:(n:Int) / 32=(q:Int):=by omega
  have HN:=JZ a9;have a1:=Yw (q+1) (by omega)
  push_cast at a1
  clear g hn b1 b2 a9;go_wp2_with fail;clear a1;obtain ⟨W,hW⟩:∃W,W=w1.alloc (.cells (zc (q+1)) 106):=⟨_,rfl⟩;have O:Below w1.heap.size w1 W:=hW▸Zd _ _;have hB:Yv W w1.heap.size (List.replicate (q+1) 0):=hW▸Yv.zeros w1 _;rw [← hW];clear hW;have m:=Za b O b.size;have hc:=Zjn v2 ys q s W (h2.below m) hs (by omega);rw [← HN.out,HY.out] at hc;refine hc.mono ?_;clear hc;rintro e w2 ⟨kd,ld,rfl,d2,H⟩;have o2:Off w1.heap.size (.slice (some ⟨W.heap.size,0,none⟩) kd ld):=Off.mk (by have:=hB.lt;omega);have a2:=hB.below H hB.lt;have a:=Za m H m.size;have d3:=(d1.below O).below H;have af:w.heap.size≤w1.heap.size:=b.size;clear hB b m d1 O H g1 h1 h2;have a3:(Zi (Y * 2^n)).length≤549755813888:=by
   refine JW (YO Y (2^n)) ?_;have:(Zi (2^n)).length≤q+1:=YM (by rw [UA];exact Nat.pow_lt_pow_right (by decide) (by have:=HN.out;omega));omega
  have ag:=JZ a3;have ah:Hid ((Zi X).length≤137438953472):=JZ hs1;have aq:¬(n:Int) < 0:=by omega
  clear a3 hs1 ac hge;go_wp2
  go_loopw [6,9,10] (fun r d i wr=>∃(z:Int) (Q:List Nat) (R D:Nat),-1≤z∧z≤n∧i= .int .i64 z∧Zwc X Y q w1.heap.size w r d z wr Q R D) (fun _ _ i _=>(intOf i+1).toNat)
  case atStart=>exact ⟨n,List.replicate (q+1) 0,X,Y * 2^n,by omega,by omega,rfl,d3,d2,by rw [show ((n:Int)+1).toNat=n+1 by omega,Zhx],by rw [show ((n:Int)+1).toNat=n+1 by omega];exact ae.out,by rw [Y2];simp,by rw [Y2];exact ⟨0,rfl⟩,a2,Zy _,by simp,by simp,a,ah.out,ag.out,o1,o2⟩
  case round=>
   obtain ⟨z,Q,R,D,b0,b3,rfl,dr,dd,hD,hR,aa,t,hB,v,hQ,Z,b,ab,F,oR,oD⟩:=hrel;have HD:=JZ hD;have HR:=JZ hR;have P:=JZ aa;have a4:=JZ t;clear hD hR aa t d2 d3 a2 a;rcases Int.lt_or_le z 0 with hz | hz
   ·obtain rfl:z= -1:=by omega
    have e0:((-1:Int)+1).toNat=0:=rfl;have:=HR.out;rw [e0,Nat.pow_zero,Nat.mul_one] at this;have HE:=JZ (Zte P.out this);clear this e0;go_wp2_with fail;refine (Yy _ Q _ ?_).mono ?_
    ·have:=hB.dig v (c:=q+1) Z (by unfold maxLen;omega)
     rwa [show Q.length=q+1 from by omega] at this
    rintro e w3 ⟨v3,rfl,h3,rfl⟩;go_wp2;go_ret2;exact ⟨_,_,rfl,by rw [← HE.out.1];exact h3,by rw [← HE.out.2];exact dr,b⟩
   ·obtain ⟨i,rfl⟩:=JT hz;have e1:((i:Int)+1).toNat=i+1:=(by omega);have hR:=HR.out;have hD:=HD.out;have t:=a4.out;rw [e1] at hR hD t;rw [Zhx] at hD;have ai:=JZ hR;have u:=JZ hD;have x:=JZ t;have ar:i≤n:=(by omega);clear hR hD t HR HD a4 e1;obtain ⟨I,hI⟩:∃I,I=i / 32:=⟨_,rfl⟩;obtain ⟨J,hJ⟩:∃J,J=i % 32:=⟨_,rfl⟩;have au:(i:Int) / 32=(I:Int):=(by omega);have av:(i:Int) % 32=(J:Int):=(by omega);have aw:I≤q:=(by have:=HN.out;omega);have K:J≤31:=(by omega);have S:=Ztc v x.out;have o:=fun h=>Ztd (Q:=Q) (i:=i) h
    rw [← hI] at o;rw [← hJ] at o;rw [← hI,← hJ] at S;have L:=JZ o;have a5:=JZ S;clear hI hJ o S;go_wp2_with fail;refine (Yo _ _ _ _ _ dr dd).mono ?_;rw [Zh,Zh];rintro e w3 ⟨rfl,B⟩;have T:=dr.below B;have E:=dd.below B;have j:=hB.below B hB.lt;have a:=Za b B b.size;clear dr dd hB b B;rcases JX R D with hlt | hge
    ·have hc:cmpN R D= -1:=WE hlt;have aj:=JZ hlt;rw [hc];clear hc hlt;go_wp2_with fail;refine (Zeh _ _ _ E F).mono ?_;rw [Zh];rintro e w4 ⟨k4,l4,rfl,d4,f⟩;go_wp2;go_roundw
     case rel=>exact ⟨(i:Int) - 1,Q,R,D / 2,by omega,by omega,rfl,T.below f,d4,by rw [show ((i:Int) - 1+1).toNat=i by omega,← u.out],by rw [show ((i:Int) - 1+1).toNat=i by omega,← u.out];exact aj.out,P.out,by rw [show ((i:Int) - 1+1).toNat=i by omega];exact Zpn x.out,j.below f j.lt,v,hQ,Z,Za a f a.size,ab,JW (Zo (Nat.div_le_self _ _)) F,oR,Off.mk (by have:=j.lt;omega)⟩
     case measure=>simp [intOf]
    ·have hc:0≤cmpN R D:=(by unfold cmpN;split;omega;split <;> omega);have ax:=Zfx R D;have g:=Zpm P.out ai.out (by rw [← u.out];exact hge) x.out;rw [← u.out] at g;have y:=JZ g;have M:=JZ hge;have ay:=Zpq K (Zld v I) a5.out;have a6:=JZ (Zpl (show J < 32 by omega) (Zld v I) a5.out);have az:=XG K;have al:=Xp J;generalize cmpN R D=cc at *;clear g hge;go_wp2_with fail;refine (Vn _ _ _ _ _ T E (by rw [Zh,Zh];exact M.out) (Zo M.out) (by omega)).mono ?_;rw [Zh,Zh];rintro e w4 ⟨k4,l4,rfl,d4,f⟩;have o4:Off w1.heap.size (.slice (some ⟨w3.heap.size,0,none⟩) k4 l4):=Off.mk (by have:=j.lt;omega);have U:=j.below f j.lt;have a7:=E.below f;have a8:=Za a f a.size;clear T E j a f;have ho:=U.cell (k:=I) (by omega);have hf:=U.frozen I;rw [Yc] at ho;have V:=U.set_ I (dg Q I+2^J);have d5:=d4.far o4 I (.int .u32 ((dg Q I+2^J:Nat):Int));have ak:=a7.far oD I (.int .u32 ((dg Q I+2^J:Nat):Int));have N:=a8.setCell (p:=⟨w1.heap.size,I,none⟩) af (.int .u32 ((dg Q I+2^J:Nat):Int));generalize ((dg Q I+2^J:Nat):Int)=G at *;clear a7 d4;go_wp2_with fail;refine (Zeh _ _ _ ak F).mono ?_;rw [Zh];rintro e w6 ⟨k6,l6,rfl,d6,a0⟩;rw [World.size_setCell] at d6;go_wp2;go_roundw
     case rel=>exact ⟨(i:Int) - 1,Q.set I (dg Q I+2^J),R - D,D / 2,by omega,by omega,rfl,d5.below a0,d6,by rw [show ((i:Int) - 1+1).toNat=i by omega,← u.out],by rw [show ((i:Int) - 1+1).toNat=i by omega,← u.out];exact y.out.2.1,by rw [L.out (by omega)];exact y.out.1,by rw [show ((i:Int) - 1+1).toNat=i by omega,L.out (by omega)];exact y.out.2.2,V.below a0 V.lt,ZA v _ a6.out,by simpa using hQ,by simpa using Z,Za N a0 N.size,JW (Zo (Nat.sub_le _ _)) ab,JW (Zo (Nat.div_le_self _ _)) F,o4,Off.mk (by have:=V.lt;rw [World.size_setCell] at this;omega)⟩
     case measure=>simp [intOf]
theorem WH [Old] {ops:Array Oper} {o:Oper} {a:Act} {K:Act→World→Prop} {Q:Exit→Act→World→Prop} {E:Prop} (hgd:o.guard=none) (x:Operand)
 (ho:o.op= .call { callee:= .builtin .append,args:=#[.const (.slice none 0 0),x],argTypes:=#[32,32] })
 (w:World) (A:Option Addr) (n c:Nat) (ds:List Nat) (hx:a.eval x= .slice A n c) (h:ZC w (.slice A n c) ds) (hs:ds.length≤549755813888)
 (hK:∀v' w',w'.ownsRow w.heap.size 106 1 v' ds.length (ds.map uc)→Below w.heap.size w w'→K (a.put o.dst v') w'):
 if Region.wanted o (yielded ops a.tmps)=true then Oper.wp Tryz.prog o a w K Q else E:=by
 have hw:Region.wanted o (yielded ops a.tmps)=true:=by simp [Region.wanted,hgd]
 rw [if_pos hw];exact VY x ho w A n c ds hx h hs hK
theorem Bk.snd {w:World} {g:Nat} {t:TypeId} {a b:Value} (h:Bk w g t [a,b]):w.cell? ⟨g,1,none⟩=some b:=h.two.2.1
def Zvd [Old] (G:Nat) (w:World) (Y:Nat) (s t:Value) (wr:World):Prop:=
 ∃X,ZC wr s (Zi X)∧ZC wr t (Zi Y)∧Nat.gcd X Y=G∧(Zi X).length≤137438953472∧(Zi Y).length≤137438953472∧Below w.heap.size w wr∧Bk wr (w.heap.size+1+1) 34 [.bool false,.slice none 0 0]
theorem Zps [Old] (v1 v2:Value) (a b:RI) (w:World) (h1:ZT w v1 a) (h2:ZT w v2 b) (hs:(Zi (val a.ds)).length≤137438953472) (hs2:(Zi (val b.ds)).length≤137438953472) (hOl:Zb w:=by (repeat (first | assumption | exact Zb.up (by assumption) hOl | exact Zb.up (Hid.out (by assumption)) hOl | with_reducible refine Zb.set ?_ _ _ | with_reducible refine Zb.mk_ ?_ _ | with_reducible refine Zb.dr ?_ | with_reducible refine Zb.drN ?_ | refine Zb.up (by assumption) ?_ | refine Zb.up (Hid.out (by assumption)) ?_))):
 Calls Tryz.prog 76 #[v1,v2] w fun e w'=>∃v',e= .returned v'∧ZT w' v' (canI (Nat.gcd (val a.ds) (val b.ds):Nat))∧Below w.heap.size w w':=by
 have z:=hOl.le;obtain ⟨A,n,c,rfl,hd⟩:=h1.shape;obtain ⟨A',n',c',rfl,v⟩:=h2.shape;obtain ⟨W,hW,hX,hY,hR,d⟩:=Zrp w (.bool a.neg) (.slice A n c) (.bool b.neg) (.slice A' n' c');have d1:=hd.below d;have d2:=v.below d;obtain ⟨G,hG⟩:∃G,G=Nat.gcd (val a.ds) (val b.ds):=⟨_,rfl⟩;rw [← hG];have HG:=JZ hG;clear hG;have p:True:=trivial;go_enter Tryz.func76,Tryz.ntmps76;go_wp2_with fail;clear hW
 go_region_held3 (fun w'=>w'.cell? ⟨w.heap.size,1,none⟩=some (.slice A n c)∧w'.cell? ⟨w.heap.size+1,1,none⟩=some (.slice A' n' c'))
  (first | with_reducible exact ⟨hX.drew.snd,hY.drew.snd⟩ | with_reducible exact ⟨(hX.drew.later f).snd,(hY.drew.later f).snd⟩ | with_reducible exact ⟨((hX.drew.later f).later h).snd,((hY.drew.later f).later h).snd⟩)
  (first
   | (go_at_call 98;have _t:=p;refine (Yy _ a.ds _ (d1.keep (ZE.drew _))).mono ?_;clear p _t;rintro e w3 ⟨v3,rfl,e3,rfl⟩;obtain ⟨A3,n3,k3,rfl⟩:=e3.shape)
   | (go_at_call 98;refine (Yy _ b.ds _ ((d2.keep (ZE.drew _)).below f)).mono ?_;rintro e w3 ⟨v4,rfl,e4,rfl⟩;obtain ⟨A4,n4,k4,rfl⟩:=e4.shape)
   | (refine WH rfl (.tmp 15) rfl _ A4 n4 k4 (Zi (val b.ds)) rfl e4 (by omega) ?_;intro v2 w2 o2 h)
   | (refine WH rfl (.tmp 11) rfl _ A3 n3 k3 (Zi (val a.ds)) rfl e3 (by omega) ?_;intro v1 w1 o1 f))
 have dx:=(We o1 (ZV _)).below h;have dy:=We o2 (ZV _);have q:=(hR.drew.later f).later h;have l:=Za d.drew f d.size;have i:=Za l h l.size;clear o1 o2 l f h e3 e4 d1 d2 hd v h1 h2 hX hY hR d;go_wp2
 go_loopg [5,6] (val b.ds) (fun k s t wr=>Zvd G w k s t wr)
 case atStart=>exact ⟨_,dx,dy,HG.out.symm,hs,hs2,i,q⟩
 case round=>
  obtain ⟨X,dX,dY,j,y,o,d,hR⟩:=hrel;have r:=JZ j;clear j dx dy i q;obtain ⟨A3,n3,k3,rfl⟩:=dY.shape;obtain ⟨kl,x,B,kc⟩:=dY.len;rcases JV n3 with h0 | h0
  ·have hv:gk=0:=len_zero (by omega);have HV:=JZ hv;subst h0;clear hv kl x;go_wp2_with fail;refine (Wl false _ X _ dX (by omega)).mono ?_;rw [show sm false X=(G:Int) by have:=r.out;rw [HV.out,Nat.gcd_zero_right] at this;rw [this];rfl];rintro e w3 ⟨v3,rfl,e3,g⟩;obtain ⟨A1,n1,k1,rfl,_⟩:=e3.shape;have m:=hR.later g;obtain ⟨c0,c1,f0,f1⟩:=m.two;go_wp2;refine Zn Tryz.results76 Tryz.underlying34 (by kernel_rfl) rfl (m.set2 _ _) rfl ?_;exact Yx m e3 (Za d g d.size) (by omega)
  ·have hv:gk≠0:=Vu (by omega);have HV:=JZ hv;clear hv kl x;go_wp2_with fail;have hc:=Vp _ _ (Zi X) (Zi gk) _ dX dY (by rw [Zh];exact HV.out) (by rw [Zh];exact y) o;rw [Zh,Zh] at hc;refine hc.mono ?_;clear hc;rintro e w3 ⟨v3,v4,rfl,d3,d4,g⟩;have u:=Nat.mod_lt X (Nat.pos_of_ne_zero HV.out);go_wp2
   go_roundg (X % gk)
   case measure=>exact u
   case rel=>exact ⟨gk,dY.below g,d4,by rw [← r.out,Nat.gcd_comm X gk,Nat.gcd_rec gk X,Nat.gcd_comm],o,JW (Zo (Nat.le_of_lt u)) o,Za d g d.size,hR.later g⟩
def VZ (a b:RI):Bool:=(a.neg==b.neg) && decide (a.ds=b.ds)
def Zmp [Old] (z:Int) (w:World) (e:Ending) (w':World):Prop:=∃q r,e= .returned (.tuple #[q,r,.int .i64 0])∧ZT w' q (canI z)∧ZT w' r (canI 0)∧Below w.heap.size w w'
theorem Zjp {a b:RI} (h:a.neg=b.neg) (h2:a.ds=b.ds):VZ a b=true:=by simp [VZ,h,h2]
theorem Zek {a b:RI} (h:(a.neg==b.neg)=false):VZ a b=false:=by simp [VZ,h]
theorem UL {a b:RI} (h:a.ds≠b.ds):VZ a b=false:=by simp [VZ,h]
theorem WV {a b:Bool} (h:b=a):Ending.returned (.bool a)= .returned (.bool b):=by rw [h]
theorem Zwd {a b:List Nat} {k:Nat} (h:dg a k≠dg b k):a≠b:=fun e=>h (by rw [e])
theorem Zwe {a b:List Nat} (hl:a.length=b.length) (h:∀k,k < a.length→dg a k=dg b k):a=b:=
 VO hl fun j=>by
  rcases JX j a.length with g | g
  ·exact h j g
  ·rw [XE g,XE (by omega)]
theorem Zag [Old] (v1 v2:Value) (a b:RI) (w:World) (h1:ZT w v1 a) (h2:ZT w v2 b) (hOl:Zb w:=by (repeat (first | assumption | exact Zb.up (by assumption) hOl | exact Zb.up (Hid.out (by assumption)) hOl | with_reducible refine Zb.set ?_ _ _ | with_reducible refine Zb.mk_ ?_ _ | with_reducible refine Zb.dr ?_ | with_reducible refine Zb.drN ?_ | refine Zb.up (by assumption) ?_ | refine Zb.up (Hid.out (by assumption)) ?_))):
 Calls Tryz.prog 48 #[v1,v2] w fun e w'=>e= .returned (.bool (VZ a b))∧Below w.heap.size w w':=by
 have y:=hOl.le;obtain ⟨A,n,c,rfl,hd⟩:=h1.shape;obtain ⟨A',n',c',rfl,s⟩:=h2.shape;obtain ⟨W,hW,hX,hY,h⟩:=Zmo w (.bool a.neg) (.slice A n c) (.bool b.neg) (.slice A' n' c');have d1:=hd.below h;have d2:=s.below h;obtain ⟨x0,x1,_,_⟩:=hX.two;obtain ⟨y0,y1,_,_⟩:=hY.two;obtain ⟨hl,l,z,hc⟩:=hd.len;obtain ⟨kl,p,B,kc⟩:=s.len;by_cases m:(a.neg==b.neg)=true
 ·have hb:(a.neg !=b.neg)=false:=by simpa [bne] using m
  have t:=JZ (beq_iff_eq.1 m);clear m;by_cases hn:n=n'
  ·have r:((n:Int) !=(n':Int))=false:=(by simp;omega);subst hn;have HL:Hid (a.ds.length=n∧b.ds.length=n):=JZ ⟨by omega,by omega⟩;clear hl l kl p r;go_enter Tryz.func48,Tryz.ntmps48;go_wp2;clear hW hb
   go_loopw [5] (fun i wr=>∃(k q:Nat),k≤n∧i= .int .i64 k∧wr=W.drewN q∧∀j,j < k→dg a.ds j=dg b.ds j) (fun i _=>n - (intOf i).toNat)
   case atStart=>exact ⟨0,0,by omega,rfl,rfl,fun j hj=>by omega⟩
   case round=>
    obtain ⟨k,q,hk,rfl,rfl,hz⟩:=hrel;have HZ:=JZ hz;clear hz;rcases JX k n with hkl | hkl
    ·obtain ⟨b1,v,rfl,_,f⟩:=d1.at_ (by omega);obtain ⟨b2,x,rfl,_,g⟩:=d2.at_ (by omega);have hx:=f k hkl;have hy:=g k hkl;clear f g;by_cases d:dg a.ds k=dg b.ds k
     ·have u:(di a.ds k !=di b.ds k)=false:=(by simp [di,d]);have o:=JZ d;clear d;go_wp2
      go_quiet (fail)
      go_wp2;go_roundw
      case rel=>exact ⟨k+1,q+nq,by omega,by go_num,by rfl,fun j hj=>by
       rcases Nat.eq_or_lt_of_le (Nat.le_of_lt_succ hj) with e | e
       ·subst e;exact o.out
       ·exact HZ.out j e⟩
      case measure=>simp [intOf];omega
     ·have u:(di a.ds k !=di b.ds k)=true:=(by simp [di];omega);have o:=JZ d;clear d;go_wp2
      go_quiet (fail)
      go_wp2;go_ret;exact ⟨WV (UL (Zwd o.out)),below_drewN (below_drewN h _) _⟩
    ·go_wp2;go_ret;exact ⟨WV (Zjp t.out (Zwe (by rw [HL.out.1,HL.out.2]) fun j hj=>HZ.out j (by have:=HL.out.1;omega))),below_drewN h _⟩
  ·have r:((n:Int) !=(n':Int))=true:=(by simp;omega);have HL:Hid (a.ds≠b.ds):=JZ fun e=>hn (by rw [e] at hl l;omega)
   clear hl l kl p hn;go_enter Tryz.func48,Tryz.ntmps48;go_wp2;go_ret;exact ⟨WV (UL HL.out),hW▸h⟩
 ·obtain ⟨na,da⟩:=a;obtain ⟨nb,db⟩:=b;simp only at *;have d:(na=true∧nb=false)∨(na=false∧nb=true):=by cases na <;> cases nb <;> simp_all
  clear m hl l kl p;rcases d with ⟨rfl,rfl⟩ | ⟨rfl,rfl⟩;all_goals
   go_enter Tryz.func48,Tryz.ntmps48;go_wp2;go_ret;exact ⟨WV (Zek rfl),hW▸h⟩
namespace Pl
theorem Zpt {x y:Int} (hy:y≠0) (h:y∣x):sm (decide (x < 0) !=decide (y < 0)) (x.natAbs / y.natAbs)=x / y∧x.natAbs % y.natAbs=0:=by
 obtain ⟨k,rfl⟩:=h;rw [Int.natAbs_mul,Nat.mul_div_cancel_left _ (by omega),Int.mul_ediv_cancel_left _ hy,Nat.mul_mod_right];refine ⟨?_,rfl⟩;rcases Int.lt_or_gt_of_ne hy with h | h <;> rcases Int.lt_trichotomy k 0 with g | g | g
 ·have:=Int.mul_pos_of_neg_of_neg h g;rw [decide_eq_false (by omega),decide_eq_true h];simp [sm];omega
 ·subst g;simp [sm]
 ·have:=Int.mul_neg_of_neg_of_pos h g;rw [decide_eq_true this,decide_eq_true h];simp [sm];omega
 ·have:=Int.mul_neg_of_pos_of_neg h g;rw [decide_eq_true this,decide_eq_false (by omega)];simp [sm];omega
 ·subst g;simp [sm]
 ·have:=Int.mul_pos h g;rw [decide_eq_false (by omega),decide_eq_false (by omega)];simp [sm];omega
end Pl
def Zve [Old] (x y:Int) (w:World) (wx:World) (A A':Option Addr) (n c n' c':Nat):Prop:=
 Zvc x y w wx A A' n c n' c'∧Bk wx (w.heap.size+1+1) 34 [.bool false,.slice none 0 0]∧Bk wx (w.heap.size+1+1+1) 34 [.bool false,.slice none 0 0]
theorem ZT.zero_len [Old] {w:World} {b:Bool} {A:Option Addr} {n c:Nat} (h:ZT w (.agg #[.bool b,.slice A n c]) (canI 0)):n=0:=by
 obtain ⟨d,_⟩:=h.dig;have:=d.len;rw [canI_zero] at this;simp at this;omega
theorem size_drew (w:World):w.drew.heap.size=w.heap.size:=rfl
theorem XH {w w':World} (h:Below w.heap.size w w') (o:Obj):Below w.heap.size w (w'.alloc o):=h.alloc h.size o
theorem YK {w w1 w2:World} (h:Below w.heap.size w w1) (h2:Below w1.heap.size w1 w2):Below w.heap.size w w2:=Za h h2 h.size
theorem Wn {w w':World} (h:Below w.heap.size w w'):Below w.heap.size w w'.drew:=h.drew
theorem Zgj {w w':World} (h:Below w.heap.size w w') {g:Nat} (hg:w.heap.size≤g) (k:Nat) (u:Value):Below w.heap.size w (w'.setCell ⟨g,k,none⟩ u):=h.setCell hg u
theorem Zbt [Old] {w w':World} (h:ZE w w') (o:Obj):ZE w (w'.alloc o):=h.trans (ZE.alloc _ _)
theorem Zel [Old] {w w1 w2:World} (h:ZE w w1) (h2:Below w1.heap.size w1 w2):ZE w w2:=h.trans (ZE.of_below h2)
theorem Zem [Old] {w w':World} {g:Nat} {t:TypeId} {x y:Value} (h:ZE w w') (hb:Bk w' g t [x,y]) (ht:t≠106) (c d:Value) (hg:Old.n≤g:=by first | assumption | exact Nat.zero_le _ | omega | ((first | with_reducible refine Zb.le ?_ | with_reducible refine Zb.le1 ?_ | with_reducible refine Zb.le2 ?_ | with_reducible refine Zb.le3 ?_);repeat (first | assumption | exact Zb.up (by assumption) hOl | exact Zb.up (Hid.out (by assumption)) hOl | with_reducible refine Zb.set ?_ _ _ | with_reducible refine Zb.mk_ ?_ _ | with_reducible refine Zb.dr ?_ | with_reducible refine Zb.drN ?_ | refine Zb.up (by assumption) ?_ | refine Zb.up (Hid.out (by assumption)) ?_))):ZE w ((w'.setCell ⟨g,0,none⟩ c).setCell ⟨g,1,none⟩ d):=h.trans (hb.keep2 ht c d hg)
theorem Zcr (w:World) (a b:Addr) (u v:Value):w.heap.size=((w.setCell a u).setCell b v).heap.size:=by simp
theorem Bk.made {w:World} {g:Nat} {t:TypeId} {cs:List Value} (h:g=w.heap.size):Bk (w.alloc (.cells cs.toArray t)) g t cs:=by subst h;exact Bk.new w t cs
theorem Bk.on {w w':World} {g:Nat} {t:TypeId} {cs:List Value} (h:Bk w g t cs) (hb:Below w.heap.size w w'):Bk w' g t cs:=h.later hb
theorem V4 [Old] (v1 v2:Value) (a b:RI) (w:World) (h1:ZT w v1 a) (h2:ZT w v2 b) (hs:(Zi (val a.ds)).length≤137438953472) (hs2:(Zi (val b.ds)).length≤137438953472) (hz:b.z≠0) (hdv:b.z∣a.z) (hOl:Zb w:=by (repeat (first | assumption | exact Zb.up (by assumption) hOl | exact Zb.up (Hid.out (by assumption)) hOl | with_reducible refine Zb.set ?_ _ _ | with_reducible refine Zb.mk_ ?_ _ | with_reducible refine Zb.dr ?_ | with_reducible refine Zb.drN ?_ | refine Zb.up (by assumption) ?_ | refine Zb.up (Hid.out (by assumption)) ?_))):
 Calls Tryz.prog 77 #[v1,v2] w (Zmp (a.z / b.z) w):=by
 have b3:=hOl.le;obtain ⟨A,n,c,rfl,hd⟩:=h1.shape;obtain ⟨A',n',c',rfl,a7⟩:=h2.shape;obtain ⟨W,hW,hX,hY,hR,F,i⟩:=Zrs w (.bool a.neg) (.slice A n c) (.bool b.neg) (.slice A' n' c');have i1:=h1.below i;have i2:=h2.below i;have I:w.heap.size≠w.heap.size+1:=by omega
 have J:w.heap.size+1+1≠w.heap.size:=by omega
 have K:w.heap.size+1+1≠w.heap.size+1:=by omega
 have L:w.heap.size+1+1+1≠w.heap.size:=by omega
 have M:w.heap.size+1+1+1≠w.heap.size+1:=by omega
 have l:True:=trivial;have HS:=JZ (Zpt hz hdv);have u:=JZ hz;have la:(Zi a.z.natAbs).length≤137438953472:=by rw [Zz];exact hs
 have lb:(Zi b.z.natAbs).length≤137438953472:=by rw [Zz];exact hs2
 obtain ⟨x0,x1,f0,f1⟩:=hX.two;obtain ⟨y0,y1,k0,k1⟩:=hY.two;clear hz hdv;go_enter Tryz.func77,Tryz.ntmps77;go_wp2_with fail;clear hW
 go_upto_region 1 with (fail)
 go_cut [] (fun wx=>∃(A A':Option Addr) (n c n' c':Nat),Zve a.z b.z w wx A A' n c n' c')
 case first=>
  go_region_with (first
   | (go_at_call 74;have _t:=l;refine (XC _ a _ (i1.keep (ZE.drew _)) (by omega)).mono ?_;clear l _t;rintro e w6 ⟨v6,rfl,e6,f⟩;obtain ⟨A6,n6,k6,rfl,_⟩:=e6.shape;obtain ⟨b7,b8,_,_⟩:=(hY.drew.later f).two)
   | (go_at_call 74;refine (XC _ b _ ((i2.keep (ZE.drew _)).below f) (by omega)).mono ?_;rintro e w7 ⟨v7,rfl,e7,g⟩;obtain ⟨A7,n7,k7,rfl,_⟩:=e7.shape;obtain ⟨c0,c1,r0,r1⟩:=((hX.drew.later f).later g).two;obtain ⟨a8,a9,b9,ba⟩:=((hY.drew.later f).later g).two))
  all_goals
   go_wp2_with fail
   go_meet
   obtain ⟨a1,a2,a3,a4,a5⟩:=YI ((hX.drew.later f).later g) ((hY.drew.later f).later g) I (e6.below g) e7 (Za (Za i.drew f i.size) g (JW i.size f.size)) (by omega) (by omega);exact ⟨A6,A7,n6,k6,n7,k7,⟨a1,a2,a3.dig.1,a4.dig.1,a5⟩,(((hR.drew.later f).later g).far2 J _ _).far2 K _ _,(((F.drew.later f).later g).far2 L _ _).far2 M _ _⟩
 case rest=>
  obtain ⟨B,B',m,d,m',d',⟨bX,bY,dX,dY,be⟩,bR,G⟩:=hcut;clear x0 x1 f0 f1 y0 y1 k0 k1 hX hY i i1 i2 h1 h2 hd a7 hR F hs hs2;obtain ⟨x0,x1,_,_⟩:=bX.two;obtain ⟨y0,y1,_,_⟩:=bY.two;obtain ⟨kl,aa,ab,kc⟩:=dY.len;have b4:0 < m':=by
   have:=YC (n:=b.z.natAbs) (by have:=u.out;omega);omega
  have N:((m':Int)==0)=false:=by simp;omega
  clear kl aa ab kc;go_wp2_with fail;have hc:=Vp _ _ _ _ _ dX dY (by rw [Zh];have:=u.out;omega) (by rw [Zh];exact la) lb;rw [Zh,Zh] at hc;refine hc.mono ?_;clear hc;rintro e w3 ⟨v3,v4,rfl,d3,d4,j⟩;rw [HS.out.2] at d4;have q:=bX.later j;have r:=bY.later j;have v:=bR.later j;have k:=G.later j;have s:=Za be j be.size;have lq:(Zi (a.z.natAbs / b.z.natAbs)).length≤549755813888:=JW (Zo (Nat.div_le_self _ _)) (by omega);have l0:(Zi 0).length≤549755813888:=by rw [digs_zero];decide
  clear bX bY bR G be dX dY j x0 x1 y0 y1 N;go_wp2_with fail
  go_upto_region 5 with (fail)
  go_cut [9,10] (fun s9 s10 wx=>∃(g9 h:Nat) (A6 A7:Option Addr) (n6 k6 n7 k7:Nat) (nb o:Bool),s9= .pointer (some ⟨g9,0,none⟩)∧s10= .pointer (some ⟨h,0,none⟩)∧Bk wx g9 34 [.bool nb,.slice A6 n6 k6]∧Bk wx h 34 [.bool o,.slice A7 n7 k7]∧ZT wx (.agg #[.bool nb,.slice A6 n6 k6]) (canI (a.z / b.z))∧ZT wx (.agg #[.bool o,.slice A7 n7 k7]) (canI 0)∧Below w3.heap.size w3 wx∧w3.heap.size≤g9∧w3.heap.size≤h)
  case first=>
   go_region_held3 (fun w'=>w'.cell? ⟨w.heap.size,0,none⟩=some (.bool (decide (a.z < 0)))∧w'.cell? ⟨w.heap.size+1,0,none⟩=some (.bool (decide (b.z < 0))))
    (exact ⟨(q.later (by (repeat (first | (with_reducible exact JR _ _) | (with_reducible refine XH ?_ _) | (with_reducible refine Wn ?_) | (with_reducible refine YK ?_ g) | (with_reducible refine YK ?_ f) | (with_reducible refine Zgj ?_ (by first | omega | (simp;omega)) _ _))))).two.1,(r.later (by (repeat (first | (with_reducible exact JR _ _) | (with_reducible refine XH ?_ _) | (with_reducible refine Wn ?_) | (with_reducible refine YK ?_ g) | (with_reducible refine YK ?_ f) | (with_reducible refine Zgj ?_ (by first | omega | (simp;omega)) _ _))))).two.1⟩)
    (first
     | (go_at_call 71;have _t:=l;refine (Wl _ _ _ _ (d3.below (by (repeat (first | (with_reducible exact JR _ _) | (with_reducible refine XH ?_ _) | (with_reducible refine Wn ?_) | (with_reducible refine YK ?_ g) | (with_reducible refine YK ?_ f))))) lq).mono ?_;clear l _t;rintro e w6 ⟨v6,rfl,e6,f⟩;obtain ⟨A6,n6,k6,rfl,_⟩:=e6.shape;have s6:w3.heap.size≤w6.heap.size:=(by have:=f.size;first | exact this | omega | (simp at this;omega));(try ((first | (with_reducible have bA:=Bk.on (Bk.made (cs:=[.bool false,.slice none 0 0]) rfl) f) | (with_reducible have bA:=Bk.on (Bk.drew (Bk.made (cs:=[.bool false,.slice none 0 0]) rfl)) f));obtain ⟨ac,ad,ae,af⟩:=bA.two;have O:=bA.lt;(try simp only [size_alloc,size_drew] at ac ad ae af O)));(try ((first | (with_reducible have bB:=Bk.on (Bk.alloc (Bk.made (cs:=[.bool false,.slice none 0 0]) rfl) _) f) | (with_reducible have bB:=Bk.on (Bk.drew (Bk.alloc (Bk.made (cs:=[.bool false,.slice none 0 0]) rfl) _)) f));obtain ⟨ag,ah,ai,aj⟩:=bB.two;have P:=bB.lt;(try simp only [size_alloc,size_drew] at ag ah ai aj P))))
     | (go_at_call 71;refine (Wl _ _ _ _ (d4.below (by (repeat (first | (with_reducible exact JR _ _) | (with_reducible refine XH ?_ _) | (with_reducible refine Wn ?_) | (with_reducible refine YK ?_ g) | (with_reducible refine YK ?_ f))))) l0).mono ?_;rw [Zaa];rintro e w7 ⟨v7,rfl,e7,g⟩;obtain ⟨A7,n7,k7,rfl,_⟩:=e7.shape;have s7:w6.heap.size≤w7.heap.size:=(by have:=g.size;first | exact this | omega | (simp at this;omega));(try ((with_reducible have bC:=Bk.on (Bk.made (cs:=[.bool false,.slice none 0 0]) rfl) g);obtain ⟨ak,al,am,an⟩:=bC.two;have R:=bC.lt;(try simp only [size_alloc,size_drew] at ak al am an R)));(try ((with_reducible have bD:=Bk.on (Bk.alloc (Bk.made (cs:=[.bool false,.slice none 0 0]) rfl) _) g);obtain ⟨ao,ap,aq,ar⟩:=bD.two;have S:=bD.lt;(try simp only [size_alloc,size_drew] at ao ap aq ar S)));(try (have bE:=bA.on (show Below w6.heap.size w6 w7 from by (repeat (first | (with_reducible exact JR _ _) | (with_reducible refine XH ?_ _) | (with_reducible refine Wn ?_) | (with_reducible refine YK ?_ g) | (with_reducible refine YK ?_ f))));obtain ⟨au,av,aw,ax⟩:=bE.two;have T:=bE.lt;(try simp only [size_alloc,size_drew] at au av aw ax T)));(try (have bF:=bB.on (show Below w6.heap.size w6 w7 from by (repeat (first | (with_reducible exact JR _ _) | (with_reducible refine XH ?_ _) | (with_reducible refine Wn ?_) | (with_reducible refine YK ?_ g) | (with_reducible refine YK ?_ f))));obtain ⟨ay,az,b0,b1⟩:=bF.two;have U:=bF.lt;(try simp only [size_alloc,size_drew] at ay az b0 b1 U)))))
   all_goals
    go_wp2_with fail
    go_meet
    have hq:canI (a.z / b.z)=canI (sm (!decide (a.z < 0)==decide (b.z < 0)) (a.z.natAbs / b.z.natAbs)):=(by rw [← HS.out.1];rfl);rw [hq];clear hq;refine ⟨_,_,A6,A7,n6,k6,n7,k7,_,_,rfl,rfl,?_,?_,e6.keep ?_,e7.keep ?_,?_,by omega,by omega⟩
    ·(repeat (first | (with_reducible exact Bk.made rfl) | (with_reducible exact Bk.made (size_alloc _ _).symm) | (with_reducible exact Bk.made (Zcr _ _ _ _ _)) | (with_reducible refine Bk.set2 (a:= .bool false) (b:= .slice none 0 0) ?_ _ _) | (with_reducible refine Bk.far2 ?_ (by first | omega | (simp;omega)) _ _) | (with_reducible refine Bk.alloc ?_ _) | (with_reducible refine Bk.drew ?_) | (with_reducible refine Bk.on ?_ g) | (with_reducible refine Bk.on ?_ f)))
    ·(repeat (first | (with_reducible exact Bk.made rfl) | (with_reducible exact Bk.made (size_alloc _ _).symm) | (with_reducible exact Bk.made (Zcr _ _ _ _ _)) | (with_reducible refine Bk.set2 (a:= .bool false) (b:= .slice none 0 0) ?_ _ _) | (with_reducible refine Bk.far2 ?_ (by first | omega | (simp;omega)) _ _) | (with_reducible refine Bk.alloc ?_ _) | (with_reducible refine Bk.drew ?_) | (with_reducible refine Bk.on ?_ g) | (with_reducible refine Bk.on ?_ f)))
    ·(repeat (first | (with_reducible exact ZE.refl _) | (with_reducible refine Zbt ?_ _) | (with_reducible refine Zel ?_ g) | with_reducible refine Zem (t:=34) (x:= .bool false) (y:= .slice none 0 0) ?_ (by (repeat (first | (with_reducible exact Bk.made rfl) | (with_reducible exact Bk.made (size_alloc _ _).symm) | (with_reducible exact Bk.made (Zcr _ _ _ _ _)) | (with_reducible refine Bk.set2 (a:= .bool false) (b:= .slice none 0 0) ?_ _ _) | (with_reducible refine Bk.far2 ?_ (by first | omega | (simp;omega)) _ _) | (with_reducible refine Bk.alloc ?_ _) | (with_reducible refine Bk.drew ?_) | (with_reducible refine Bk.on ?_ g) | (with_reducible refine Bk.on ?_ f)))) (by decide) _ _))
    ·(repeat (first | (with_reducible exact ZE.refl _) | (with_reducible refine Zbt ?_ _) | (with_reducible refine Zel ?_ g) | with_reducible refine Zem (t:=34) (x:= .bool false) (y:= .slice none 0 0) ?_ (by (repeat (first | (with_reducible exact Bk.made rfl) | (with_reducible exact Bk.made (size_alloc _ _).symm) | (with_reducible exact Bk.made (Zcr _ _ _ _ _)) | (with_reducible refine Bk.set2 (a:= .bool false) (b:= .slice none 0 0) ?_ _ _) | (with_reducible refine Bk.far2 ?_ (by first | omega | (simp;omega)) _ _) | (with_reducible refine Bk.alloc ?_ _) | (with_reducible refine Bk.drew ?_) | (with_reducible refine Bk.on ?_ g) | (with_reducible refine Bk.on ?_ f)))) (by decide) _ _))
    ·(repeat (first | (with_reducible exact JR _ _) | (with_reducible refine XH ?_ _) | (with_reducible refine Wn ?_) | (with_reducible refine YK ?_ g) | (with_reducible refine YK ?_ f) | (with_reducible refine Zgj ?_ (by first | omega | (simp;omega)) _ _)))
  case rest=>
   obtain ⟨g9,h,A6,A7,n6,k6,n7,k7,nb,o,rfl,rfl,bQ,bE,iQ,iE,f,b2,H⟩:=hcut;have V:=k.lt;have X:=iE.zero_len;subst X;have b5:=q.later f;have b6:=r.later f;have C:=v.later f;have p:=k.later f;have Y:=Za s f s.size;clear q r v k s f d3 d4 HS;obtain ⟨q0,q1,_,_⟩:=bQ.two;obtain ⟨r0,r1,_,_⟩:=bE.two;obtain ⟨c0,c1,f0,f1⟩:=C.two;obtain ⟨a8,a9,bb,bc⟩:=p.two;have D:w.heap.size+1+1≠g9:=(by omega);have E:w.heap.size+1+1≠h:=(by omega);have Z:w.heap.size+1+1+1≠g9:=(by omega);have a0:w.heap.size+1+1+1≠h:=(by omega);have a6:w.heap.size+1+1≠w.heap.size+1+1+1:=(by omega);clear V b2 H;go_wp2
   go_region_held3 (fun w'=>(w'.cell? ⟨g9,0,none⟩=some (.bool nb)∧w'.cell? ⟨g9,1,none⟩=some (.slice A6 n6 k6))∧(w'.cell? ⟨h,0,none⟩=some (.bool o)∧w'.cell? ⟨h,1,none⟩=some (.slice A7 0 k7)))
    (first | with_reducible exact ⟨bQ.drew.pair,bE.drew.pair⟩ | with_reducible exact ⟨(bQ.far2 (Ne.symm D) _ _).drew.pair,(bE.far2 (Ne.symm E) _ _).drew.pair⟩ | with_reducible exact ⟨((bQ.far2 (Ne.symm D) _ _).far2 (Ne.symm Z) _ _).drew.pair,((bE.far2 (Ne.symm E) _ _).far2 (Ne.symm a0) _ _).drew.pair⟩)
    (fail)
   go_wp2;obtain ⟨a1,a2,a3,a4,a5⟩:=YI C.drew p.drew a6 (iQ.keep (ZE.drew _)) (iE.keep (ZE.drew _)) Y.drew (by omega) (by omega);refine Xv Tryz.results77 Tryz.underlying34 Tryz.underlying34 (by kernel_rfl) (by kernel_rfl) rfl rfl a1 a2 rfl ?_;exact ⟨_,_,rfl,a3,a4,a5⟩
section
def floats (o:Oper):Bool:=match o.op with
 | .move .. =>true
 | .assign .. =>true
 | .pick .. =>true
 | .load .. =>true
 | .binOp .. =>true
 | .unOp .. =>true
 | .convert .. =>true
 | .fieldAddr .. =>true
 | .field .. =>true
 | .indexAddr .. =>true
 | .index .. =>true
 | .extract .. =>true
 | .slice .. =>true
 | .nilCheck .. =>true
 | .build .. =>true
 | .call c=>match c.callee with | .builtin .len=>true | _=>false
 | _=>false
def Zwi (o:Oper):Bool:=match o.op with
 | .move .. =>true
 | .assign .. =>true
 | .pick .. =>true
 | .binOp .. =>true
 | .unOp .. =>true
 | .fieldAddr .. =>true
 | .field .. =>true
 | .indexAddr .. =>true
 | .extract .. =>true
 | .build .. =>true
 | _=>false
def Zai (ops:Array Oper) (i:Nat):Bool:=((ops[i]?).map Zwi).getD false
section
variable {P:Program} {ops:Array Oper} {Q:Exit→Act→World→Prop} {md:Region.Mode} {S:World→Prop} {n:Nat}
def AnyG (P:Program) (md:Region.Mode) (ops:Array Oper) (Q:Exit→Act→World→Prop) (S:World→Prop) (n:Nat):Nat→Array Bool→Act→World→Prop
 | 0,listed,a,w=>Region.ready md ops listed=[]∧Q .normal a w
 | fuel+1,listed,a,w=>(Region.ready md ops listed=[]→Q .normal a w)∧
  ∀i∈Region.ready md ops listed,wpOp P ops Q i (fun a' w'=>(n≤i∨(S w→S w'))∧AnyG P md ops Q S n fuel (listed.setIfInBounds i true) a' w') a w
theorem AnyG.any:∀(fuel:Nat) (listed:Array Bool) (a:Act) (w:World),AnyG P md ops Q S n fuel listed a w→wpAny P md ops Q fuel listed a w
 | 0,_,_,_,h=>h
 | fuel+1,_,_,_,h=>⟨h.1,fun i hi=>wpOp_mono (fun a' w' h'=>AnyG.any fuel _ a' w' h'.2) (h.2 i hi)⟩
theorem Zwj (listed:Array Bool) (k:Nat) (h0:listed.getD k true=false) (h1:listed.getD k false=true):False:=by
 rcases JX k listed.size with h' | h'
 ·simp [h'] at h0 h1;rw [h0] at h1;cases h1
 ·simp [Array.getElem?_eq_none h'] at h1
theorem Zgp {i:Nat} {oi:Oper} {v:Value} (hi:ops[i]? =some oi) (hsel:∀(j:Nat) (o:Oper) cs b,ops[j]? =some o→o.op≠ .select cs b)
 (hQ:∀c a w,Q (.panic c) (a.put oi.dst v) w→Q (.panic c) a w):
 ∀(fuel:Nat) (listed:Array Bool) (a:Act) (w:World),
  (∀j oj,ops[j]? =some oj→j≠i→listed.getD j true=false→(∀e∈oj.after,Region.binds md e=true→e.on≠i)→oi.apart ops oj=true)→
  i∈Region.ready md ops listed→YieldsIf P ops (fun _=>True) oi v a→
  AnyG P md ops Q S n fuel (listed.setIfInBounds i true) (a.put oi.dst v) w→AnyG P md ops Q S n (fuel+1) listed a w:=by
 intro fuel
 induction fuel with
 | zero=>
  intro listed a w _ hr hy H;refine ⟨fun h=>(by rw [h] at hr;cases hr),fun j hj=>?_⟩;by_cases d:j=i
  ·subst d;exact hy.wpOp hi trivial ⟨.inr fun h=>h,H⟩
  ·have:=ready_mono hj d;rw [H.1] at this
   cases this
 | succ fuel ih=>
  intro listed a w f hr hy H;refine ⟨fun h=>(by rw [h] at hr;cases hr),fun j hj=>?_⟩;by_cases d:j=i
  ·subst d;exact hy.wpOp hi trivial ⟨.inr fun h=>h,H⟩
  ·have h1:=H.2 j (ready_mono hj d);obtain ⟨l,oj,m,q⟩:=mem_ready.1 hj;have p:∀e∈oj.after,Region.binds md e=true→e.on≠i:=fun e he hb heq=>by
    have h1:=q e he hb;rw [heq] at h1;exact Zwj listed i (mem_ready.1 hr).1 h1
   have h2:=wpOp_putIf m (f j oj m d l p) (fun cs b=>hsel i oi cs b hi) (fun cs b=>hsel j oj cs b m) hQ hy h1;have g:∀k ok,ops[k]? =some ok→k≠i→(listed.setIfInBounds j true).getD k true=false→
    (∀e∈ok.after,Region.binds md e=true→e.on≠i)→oi.apart ops ok=true:=fun k ok hk hki hun hno=>by
    refine f k ok hk hki ?_ hno;by_cases r:j=k
    ·subst r;exact l
    ·rw [getD_set_ne true r] at hun;exact hun
   refine wpOp_mono (fun a' w' h3=>⟨h3.2.1,ih (listed.setIfInBounds j true) a' w' g (ready_mono hr (Ne.symm d)) h3.1 ?_⟩) h2;rw [Array.setIfInBounds_comm _ _ d];exact h3.2.2
theorem Zbx {i:Nat} {oi:Oper} {v:Value} {fuel:Nat} {listed:Array Bool} {a:Act} {w:World} (hi:ops[i]? =some oi)
 (hs:Region.noSelect ops=true) (hf:Region.free md ops listed i=true) (hr:(Region.ready md ops listed).contains i=true)
 (hQ:∀c a w,Q (.panic c) (a.put oi.dst v) w→Q (.panic c) a w) (hy:YieldsIf P ops (fun _=>True) oi v a)
 (h:AnyG P md ops Q S n fuel (listed.setIfInBounds i true) (a.put oi.dst v) w):AnyG P md ops Q S n (fuel+1) listed a w:=
 Zgp hi (Region.noSelect_spec hs) hQ fuel listed a w (Region.free_spec hi hf) (by simpa using hr) hy h
end
def Zry (md:Region.Mode) (ops:Array Oper) (i:Nat):Array Bool:=(List.range ops.size).foldl (fun d j=>d.push (((ops[j]?).map fun o=>o.after.any fun e=>Region.binds md e && (e.on==i || d.getD e.on false)).getD false)) #[]
def Zvi (md:Region.Mode) (ops:Array Oper) (i:Nat) (d:Array Bool) (j:Nat):Bool:= !d.getD j false || ((ops[j]?).map fun o=>o.after.any fun e=>Region.binds md e && (e.on==i || d.getD e.on false)).getD false
def Zaj (md:Region.Mode) (ops:Array Oper) (n:Nat) (listed:Array Bool) (i:Nat):Bool:=
 (List.range ops.size).all fun j=>(decide (j < n) || (Zry md ops i).getD j false) && (Zvi md ops i (Zry md ops i) j && (!(Zry md ops i).getD j false || !listed.getD j true))
def Y5 (ops:Array Oper) (n i:Nat):Bool:=decide (i < n) && ((ops[i]?).map floats).getD false
def Zpw (md:Region.Mode) (ops:Array Oper) (n:Nat) (listed:Array Bool) (i:Nat):Bool:=
 if Y5 ops n i=true then Region.free md ops listed i && ((Region.ready md ops listed).contains i && (Zai ops i || Zaj md ops n listed i)) else Region.ready md ops listed==[i]
def Zmt (md:Region.Mode) (ops:Array Oper) (n:Nat):Bool→List Nat→Array Bool→Bool
 | _,[],listed=>Region.ready md ops listed==[]
 | d,i::is,listed=>Zpw md ops n listed i && (!(d && (Y5 ops n i && !Zai ops i)) && Zmt md ops n (d || decide (n≤i)) is (listed.setIfInBounds i true))
def Zpx (md:Region.Mode) (ops:Array Oper) (n:Nat) (is:List Nat):Bool:=Region.noSelect ops && (Zmt md ops n false is (Array.replicate ops.size false) && decide (is.length=ops.size))
section
variable {P:Program} {ops:Array Oper} {Q:Exit→Act→World→Prop} {md:Region.Mode} {S:World→Prop} {n:Nat}
def Xz (P:Program) (ops:Array Oper) (Q:Exit→Act→World→Prop) (S:World→Prop) (n:Nat):List Nat→Act→World→Prop
 | [],a,w=>Q .normal a w
 | i::is,a,w=>match ops[i]? with
  | none=>True
  | some o=>if Y5 ops n i=true then ∃v,(if Zai ops i=true then YieldsIf P ops (fun _=>True) o v a else YieldsIf P ops S o v a)∧Xz P ops Q S n is (a.put o.dst v) w
   else if Region.wanted o (yielded ops a.tmps)=true then Oper.wp P o a w (fun a' w'=>(n≤i∨S w')∧Xz P ops Q S n is a' w') Q
   else (n≤i∨S w)∧Xz P ops Q S n is (a.put o.dst undef) w
theorem Zgq {i:Nat} {oi:Oper} {v:Value} {d:Array Bool} (hi:ops[i]? =some oi) (hsel:∀(j:Nat) (o:Oper) cs b,ops[j]? =some o→o.op≠ .select cs b)
 (hd1:∀j,n≤j→j < ops.size→d.getD j false=true) (hd2:∀j o,ops[j]? =some o→d.getD j false=true→∃e∈o.after,Region.binds md e=true∧(e.on=i∨(e.on < ops.size∧d.getD e.on false=true)))
 (hQ:∀c a w,Q (.panic c) (a.put oi.dst v) w→Q (.panic c) a w):
 ∀(fuel:Nat) (listed:Array Bool) (a:Act) (w:World),
  (∀j oj,ops[j]? =some oj→j≠i→listed.getD j true=false→(∀e∈oj.after,Region.binds md e=true→e.on≠i)→oi.apart ops oj=true)→
  (∀j,j < ops.size→d.getD j false=true→listed.getD j true=false)→
  i∈Region.ready md ops listed→YieldsIf P ops S oi v a→S w→
  AnyG P md ops Q S n fuel (listed.setIfInBounds i true) (a.put oi.dst v) w→AnyG P md ops Q S n (fuel+1) listed a w:=by
 intro fuel
 induction fuel with
 | zero=>
  intro listed a w _ _ hr hy hS H;refine ⟨fun h=>(by rw [h] at hr;cases hr),fun j hj=>?_⟩;by_cases f:j=i
  ·subst f;exact hy.wpOp hi hS ⟨.inr fun h=>h,H⟩
  ·have:=ready_mono hj f;rw [H.1] at this
   cases this
 | succ fuel ih=>
  intro listed a w l m hr hy hS H;refine ⟨fun h=>(by rw [h] at hr;cases hr),fun j hj=>?_⟩;by_cases f:j=i
  ·subst f;exact hy.wpOp hi hS ⟨.inr fun h=>h,H⟩
  ·have h1:=H.2 j (ready_mono hj f);obtain ⟨s,oj,g,t⟩:=mem_ready.1 hj;have u:=(mem_ready.1 hr).1;have r:∀e∈oj.after,Region.binds md e=true→e.on≠i:=fun e he hb heq=>by
    have h1:=t e he hb;rw [heq] at h1;exact Zwj listed i u h1
   have x:d.getD j false=false:=by
    cases hc:d.getD j false with
    | false=>rfl
    | true=>
     obtain ⟨e,he,hb,A⟩:=hd2 j oj g hc;rcases A with h2 | ⟨h2,h3⟩
     ·exact absurd h2 (r e he hb)
     ·exact (Zwj listed e.on (m e.on h2 h3) (t e he hb)).elim
   have z:¬n≤j:=fun hle=>by
    have:=hd1 j hle (Array.getElem?_eq_some_iff.1 g).1;rw [x] at this;cases this
   have h2:=wpOp_putIf g (l j oj g f s r) (fun cs b=>hsel i oi cs b hi) (fun cs b=>hsel j oj cs b g) hQ hy h1;have p:∀k ok,ops[k]? =some ok→k≠i→(listed.setIfInBounds j true).getD k true=false→
    (∀e∈ok.after,Region.binds md e=true→e.on≠i)→oi.apart ops ok=true:=fun k ok hk hki m hno=>by
    refine l k ok hk hki ?_ hno;by_cases q:j=k
    ·subst q;exact s
    ·rw [getD_set_ne true q] at m;exact m
   have y:∀k,k < ops.size→d.getD k false=true→(listed.setIfInBounds j true).getD k true=false:=fun k hk hdk=>by
    have q:j≠k:=fun e=>by subst e;rw [x] at hdk;cases hdk
    rw [getD_set_ne true q];exact m k hk hdk
   refine wpOp_mono (fun a' w' h3=>⟨h3.2.1,ih (listed.setIfInBounds j true) a' w' p y (ready_mono hr (Ne.symm f)) h3.1 ((h3.2.1.resolve_left z) hS) ?_⟩) h2;rw [Array.setIfInBounds_comm _ _ f];exact h3.2.2
theorem Zby {i:Nat} {oi:Oper} {v:Value} {fuel:Nat} {listed:Array Bool} {a:Act} {w:World} (hi:ops[i]? =some oi)
 (hs:Region.noSelect ops=true) (hf:Region.free md ops listed i=true) (hr:(Region.ready md ops listed).contains i=true) (hw:Zaj md ops n listed i=true)
 (hQ:∀c a w,Q (.panic c) (a.put oi.dst v) w→Q (.panic c) a w) (hy:YieldsIf P ops S oi v a) (hS:S w)
 (h:AnyG P md ops Q S n fuel (listed.setIfInBounds i true) (a.put oi.dst v) w):AnyG P md ops Q S n (fuel+1) listed a w:=by
 simp only [Zaj,List.all_eq_true,List.mem_range,Bool.and_eq_true,Bool.or_eq_true,decide_eq_true_eq] at hw;refine Zgq (d:=Zry md ops i) hi (Region.noSelect_spec hs) ?_ ?_ hQ fuel listed a w (Region.free_spec hi hf) ?_ (by simpa using hr) hy hS h
 ·intro j hj b;rcases (hw j b).1 with h1 | h1
  ·omega
  ·exact h1
 ·intro j o ho g;have b:=(Array.getElem?_eq_some_iff.1 ho).1;have h1:=(hw j b).2.1;unfold Zvi at h1;rw [g,ho] at h1;simp only [Bool.not_true,Bool.false_or,Option.map_some,Option.getD_some] at h1;obtain ⟨e,he,hb⟩:=Array.any_eq_true'.1 h1;simp only [Bool.and_eq_true,Bool.or_eq_true,beq_iff_eq] at hb;refine ⟨e,he,hb.1,hb.2.imp id fun h3=>⟨?_,h3⟩⟩;rcases JX e.on ops.size with h4 | h4
  ·exact h4
  ·exfalso;have k:(Zry md ops i).size≤ops.size:=by
    unfold Zry;have:∀(l:List Nat) (d:Array Bool) (f:Array Bool→Nat→Bool),(l.foldl (fun d j=>d.push (f d j)) d).size=d.size+l.length:=by
     intro l
     induction l with
     | nil=>intro d f;simp
     | cons x l ih=>intro d f;simp [ih];omega
    have h5:=this (List.range ops.size) #[] (fun d j=>((ops[j]?).map fun o=>o.after.any fun e=>Region.binds md e && (e.on==i || d.getD e.on false)).getD false);simp only [List.size_toArray,List.length_nil,List.length_range,Nat.zero_add] at h5;exact Nat.le_of_eq h5
   have:(Zry md ops i).getD e.on false=false:=by
    simp [Array.getElem?_eq_none (show (Zry md ops i).size≤e.on by omega)]
   rw [this] at h3;cases h3
 ·intro j hj g;have h1:=(hw j hj).2.2;rw [g] at h1;simpa using h1
theorem AnyG.of_seq (hQ:∀c a d v w,Q (.panic c) (a.put d v) w→Q (.panic c) a w) (hs:Region.noSelect ops=true):
 ∀(is:List Nat) (listed:Array Bool) (a:Act) (w:World) (d:Bool),Zmt md ops n d is listed=true→(d=false→S w)→Xz P ops Q S n is a w→AnyG P md ops Q S n is.length listed a w:=by
 intro is
 induction is with
 | nil=>
  intro listed a w d b _ h;exact ⟨by simpa [Zmt] using b,h⟩
 | cons i is ih=>
  intro listed a w d b hS h;simp only [Zmt,Bool.and_eq_true] at b;obtain ⟨e,hd,b⟩:=b;unfold Xz at h;unfold Zpw at e;split at e
  ·rename_i hf
   simp only [Bool.and_eq_true] at e;obtain ⟨h1,h2,h3⟩:=e;have f:=hf;simp only [Y5,Bool.and_eq_true,decide_eq_true_eq] at f;obtain ⟨o,ho⟩:∃o,ops[i]? =some o:=by
    cases hc:ops[i]? with
    | none=>rw [hc] at f;simp at f
    | some o=>exact ⟨o,rfl⟩
   simp only [ho] at h;rw [if_pos hf] at h;obtain ⟨v,hy,hr⟩:=h;by_cases hp:Zai ops i=true
   ·rw [if_pos hp] at hy;exact Zbx ho hs h1 h2 (fun c a w=>hQ c a o.dst v w) hy (ih _ _ w _ b (fun hd'=>hS (by simp at hd';exact hd'.1)) hr)
   ·rw [if_neg hp] at hy;have g:d=false:=(by rw [hf] at hd;simpa [hp] using hd);have hw:=hS g;exact Zby ho hs h1 h2 (by simpa [hp] using h3) (fun c a w=>hQ c a o.dst v w) hy hw (ih _ _ w _ b (fun _=>hw) hr)
  ·rename_i hf
   have hr:Region.ready md ops listed=[i]:=(by simpa using e);have hi:i∈Region.ready md ops listed:=(by rw [hr];exact List.mem_singleton.2 rfl);obtain ⟨_,o,ho,_⟩:=mem_ready.1 hi;simp only [ho] at h;rw [if_neg hf] at h;refine ⟨fun h0=>(by rw [hr] at h0;cases h0),fun j hj=>?_⟩;rw [hr] at hj;obtain rfl:j=i:=by simpa using hj
   have h:wpOp P ops Q j (fun a' w'=>(n≤j∨S w')∧Xz P ops Q S n is a' w') a w:=by
    unfold wpOp;rw [ho];show if Region.wanted o (yielded ops a.tmps)=true then _ else _
    split
    ·rename_i hw;rw [if_pos hw] at h;exact .inl h
    ·rename_i hw;rw [if_neg hw] at h;exact h
   exact wpOp_mono (fun a' w' h'=>⟨h'.1.imp id (fun h _=>h),ih _ a' w' _ b (fun hle=>h'.1.resolve_left (by simp at hle;omega)) h'.2⟩) h
theorem Zt {id:Nat} {l:List Oper} {a:Act} {w:World} (n:Nat) (is:List Nat) (hm:P.follows .mixedOrders=true) (hok:Zpx .any l.toArray n is=true)
 (h:Xz P l.toArray (NoPanic Q) (fun w'=>Below w.heap.size w w') n is a w.drew):(Code.region id l.toArray true).wp P Q a w:=by
 simp only [Zpx,Bool.and_eq_true,decide_eq_true_eq] at hok;obtain ⟨hs,b,hl⟩:=hok;refine wp_region_noPanic (wp_region_any hm (AnyG.any _ _ _ _ (S:=fun w'=>Below w.heap.size w w') (n:=n) ?_));rw [← hl];have:=AnyG.of_seq (P:=P) (Q:=NoPanic Q) (S:=fun w'=>Below w.heap.size w w') (fun c a d v w h=>h) hs is _ a w.drew false b (fun _=>(JR _ _).drew) h
 rwa [hl] at this ⊢
theorem Zv {a:Act} {w:World} (h:Q .normal a w):Xz P ops (NoPanic Q) S n [] a w:=h
theorem Ze {o:Oper} {i:Nat} {is:List Nat} {a:Act} {w:World} {v:Value} (ho:ops[i]? =some o) (hf:(Y5 ops n i && !Zai ops i)=true) (hw:Region.wanted o (yielded ops a.tmps)=true) (hy:∀w',S w'→(execOp a.eval o).run P w'= .ok (.value v) w') (h:Xz P ops Q S n is (a.put o.dst v) w):Xz P ops Q S n (i::is) a w:=by
 simp only [Bool.and_eq_true,Bool.not_eq_true'] at hf;unfold Xz;rw [ho];show if _ then _ else _
 rw [if_pos hf.1];exact ⟨v,by rw [if_neg (by simp [hf.2])];exact .inl ⟨hw,hy⟩,h⟩
theorem Zc {o:Oper} {i:Nat} {is:List Nat} {a:Act} {w:World} {v:Value} (ho:ops[i]? =some o) (hf:(Y5 ops n i && Zai ops i)=true) (hw:Region.wanted o (yielded ops a.tmps)=true) (hy:∀w',True→(execOp a.eval o).run P w'= .ok (.value v) w') (h:Xz P ops Q S n is (a.put o.dst v) w):Xz P ops Q S n (i::is) a w:=by
 simp only [Bool.and_eq_true] at hf;unfold Xz;rw [ho];show if _ then _ else _
 rw [if_pos hf.1];exact ⟨v,by rw [if_pos hf.2];exact .inl ⟨hw,hy⟩,h⟩
theorem Zf {o:Oper} {i:Nat} {is:List Nat} {a:Act} {w:World} (ho:ops[i]? =some o) (hf:Y5 ops n i=true) (hw:Region.wanted o (yielded ops a.tmps)=false) (h:Xz P ops Q S n is (a.put o.dst undef) w):Xz P ops Q S n (i::is) a w:=by
 unfold Xz;rw [ho];show if _ then _ else _
 rw [if_pos hf];exact ⟨undef,by split <;> exact .inr ⟨hw,rfl⟩,h⟩
theorem Zg {o:Oper} {i:Nat} {is:List Nat} {a:Act} {w:World} (ho:ops[i]? =some o) (hf:Y5 ops n i=false)
 (h:∀K':Act→World→Prop,Shut (∀a w,(n≤i∨S w)→Xz P ops Q S n is a w→K' a w)→if Region.wanted o (yielded ops a.tmps)=true then Oper.wp P o a w K' Q else K' (a.put o.dst undef) w):Xz P ops Q S n (i::is) a w:=by
 have h1:=h (fun a' w'=>(n≤i∨S w')∧Xz P ops Q S n is a' w') (fun a w h1 h2=>⟨h1,h2⟩);unfold Xz;rw [ho];show if _ then _ else _
 rw [if_neg (by simp [hf])];exact h1
end
theorem Zr {w:World} {p:Addr} {v:Value} (h:w.cell? p=some v):∀w',Below w.heap.size w w'→w'.cell? p=some v:=fun _ hb=>ZH hb h
end
section
inductive UD where
 | done
 | go (i:Nat) (p:UD)
 | fork (i:Nat) (p:UD) (j:Nat) (q:UD)
 | bag (l:List Nat) (p:UD)
def UD.of:List Nat→UD→UD
 | [],p=>p
 | i::is,p=> .go i (UD.of is p)
def Zqb (md:Region.Mode) (ops:Array Oper) (n:Nat) (K:Array Bool→Bool):Nat→List Nat→Array Bool→Bool
 | 0,_,listed=>K listed
 | m+1,l,listed=>l.all (fun k=>listed.getD k true==false) && (!(Region.ready md ops listed).isEmpty && (Region.ready md ops listed).all fun i=>(l.contains i && decide (i < n)) && Zqb md ops n K m (l.erase i) (listed.setIfInBounds i true))
def WK (md:Region.Mode) (ops:Array Oper) (n:Nat):Bool→UD→Array Bool→Bool
 | _,.done,listed=>Region.ready md ops listed==[]
 | d,.go i p,listed=>Zpw md ops n listed i && (!(d && (Y5 ops n i && !Zai ops i)) && WK md ops n (d || decide (n≤i)) p (listed.setIfInBounds i true))
 | d,.fork i p j q,listed=>(!Y5 ops n i && !Y5 ops n j) && (Region.ready md ops listed==[i,j] && (WK md ops n (d || decide (n≤i)) p (listed.setIfInBounds i true) && WK md ops n (d || decide (n≤j)) q (listed.setIfInBounds j true)))
 | d,.bag l p,listed=> !d && Zqb md ops n (fun b=>WK md ops n false p b) l.length l listed
section
variable {P:Program} {ops:Array Oper} {Q:Exit→Act→World→Prop} {md:Region.Mode} {S:World→Prop} {n:Nat}
def Yi (P:Program) (ops:Array Oper) (Q:Exit→Act→World→Prop) (S:World→Prop) (n i:Nat) (K:Act→World→Prop) (a:Act) (w:World):Prop:=match ops[i]? with
 | none=>True
 | some o=>if Region.wanted o (yielded ops a.tmps)=true then Oper.wp P o a w (fun a' w'=>(n≤i∨S w')∧K a' w') Q else (n≤i∨S w)∧K (a.put o.dst undef) w
def Zqc (P:Program) (ops:Array Oper) (Q:Exit→Act→World→Prop) (md:Region.Mode) (S:World→Prop) (n:Nat) (K:Act→World→Prop):Nat→List Nat→Act→World→Prop
 | 0,_,a,w=>K a w
 | m+1,l,a,w=>∀i oi,i∈l→ops[i]? =some oi→(∀e∈oi.after,Region.binds md e=true→e.on ∉ l)→Yi P ops Q S n i (Zqc P ops Q md S n K m (l.erase i)) a w
def Z8 (P:Program) (ops:Array Oper) (Q:Exit→Act→World→Prop) (S:World→Prop) (n:Nat):UD→Act→World→Prop
 | .done,a,w=>Q .normal a w
 | .go i p,a,w=>match ops[i]? with
  | none=>True
  | some o=>if Y5 ops n i=true then ∃v,(if Zai ops i=true then YieldsIf P ops (fun _=>True) o v a else YieldsIf P ops S o v a)∧Z8 P ops Q S n p (a.put o.dst v) w else Yi P ops Q S n i (Z8 P ops Q S n p) a w
 | .fork i p j q,a,w=>Yi P ops Q S n i (Z8 P ops Q S n p) a w∧Yi P ops Q S n j (Z8 P ops Q S n q) a w
 | .bag l p,a,w=>Zqc P ops Q .any S n (Z8 P ops Q S n p) l.length l a w
theorem Yi.wpOp {i:Nat} {o:Oper} {K:Act→World→Prop} {a:Act} {w:World} (ho:ops[i]? =some o) (h:Yi P ops Q S n i K a w):Go.wpOp P ops Q i (fun a' w'=>(n≤i∨S w')∧K a' w') a w:=by
 unfold Yi at h;rw [ho] at h;unfold Go.wpOp;rw [ho];show if Region.wanted o (yielded ops a.tmps)=true then _ else _
 have h:if Region.wanted o (yielded ops a.tmps)=true then Oper.wp P o a w (fun a' w'=>(n≤i∨S w')∧K a' w') Q else (n≤i∨S w)∧K (a.put o.dst undef) w:=h
 split
 ·rename_i hw;rw [if_pos hw] at h;exact .inl h
 ·rename_i hw;rw [if_neg hw] at h;exact h
def UD.len:UD→Nat
 | .done=>0
 | .go _ p=>p.len+1
 | .fork _ p _ _=>p.len+1
 | .bag l p=>p.len+l.length
def UD.even:UD→Bool
 | .done=>true
 | .go _ p=>p.even
 | .fork _ p _ q=>p.even && (q.even && (p.len==q.len))
 | .bag _ p=>p.even
def Zsa (md:Region.Mode) (ops:Array Oper) (n:Nat) (p:UD):Bool:=Region.noSelect ops && (WK md ops n false p (Array.replicate ops.size false) && (p.even && decide (p.len=ops.size)))
theorem AnyG.of_plan (hQ:∀c a d v w,Q (.panic c) (a.put d v) w→Q (.panic c) a w) (hs:Region.noSelect ops=true):
 ∀(p:UD) (listed:Array Bool) (a:Act) (w:World) (d:Bool),p.even=true→WK .any ops n d p listed=true→(d=false→S w)→Z8 P ops Q S n p a w→AnyG P .any ops Q S n p.len listed a w:=by
 intro p
 induction p with
 | done=>
  intro listed a w d _ f _ h;exact ⟨by simpa [WK] using f,h⟩
 | go i p ih=>
  intro listed a w d g f hS h;simp only [WK,Bool.and_eq_true] at f;obtain ⟨r,hd,f⟩:=f;unfold Z8 at h;unfold Zpw at r;split at r
  ·rename_i hf
   simp only [Bool.and_eq_true] at r;obtain ⟨h1,h2,h3⟩:=r;have s:=hf;simp only [Y5,Bool.and_eq_true,decide_eq_true_eq] at s;obtain ⟨o,ho⟩:∃o,ops[i]? =some o:=by
    cases hc:ops[i]? with
    | none=>rw [hc] at s;simp at s
    | some o=>exact ⟨o,rfl⟩
   simp only [ho] at h;rw [if_pos hf] at h;obtain ⟨v,hy,hr⟩:=h;by_cases hp:Zai ops i=true
   ·rw [if_pos hp] at hy;exact Zbx ho hs h1 h2 (fun c a w=>hQ c a o.dst v w) hy (ih _ _ w _ g f (fun hd'=>hS (by simp at hd';exact hd'.1)) hr)
   ·rw [if_neg hp] at hy;have A:d=false:=(by rw [hf] at hd;simpa [hp] using hd);have hw:=hS A;exact Zby ho hs h1 h2 (by simpa [hp] using h3) (fun c a w=>hQ c a o.dst v w) hy hw (ih _ _ w _ g f (fun _=>hw) hr)
  ·rename_i hf
   have hr:Region.ready .any ops listed=[i]:=(by simpa using r);have hi:i∈Region.ready .any ops listed:=(by rw [hr];exact List.mem_singleton.2 rfl);obtain ⟨_,o,ho,_⟩:=mem_ready.1 hi;simp only [ho] at h;rw [if_neg hf] at h;refine ⟨fun h0=>(by rw [hr] at h0;cases h0),fun j hj=>?_⟩;rw [hr] at hj;obtain rfl:j=i:=by simpa using hj
   exact wpOp_mono (fun a' w' h'=>⟨h'.1.imp id (fun h _=>h),ih _ a' w' _ g f (fun hle=>h'.1.resolve_left (by simp at hle;omega)) h'.2⟩) (h.wpOp ho)
 | fork i p j q ihp ihq=>
  intro listed a w d g f hS h;simp only [WK,Bool.and_eq_true] at f;obtain ⟨_,hr,C,D⟩:=f;simp only [UD.even,Bool.and_eq_true,beq_iff_eq] at g;obtain ⟨E,F,u⟩:=g;have hr:Region.ready .any ops listed=[i,j]:=by simpa using hr
  obtain ⟨h1,h2⟩:=h;have hi:i∈Region.ready .any ops listed:=by rw [hr];simp
  have hj:j∈Region.ready .any ops listed:=by rw [hr];simp
  obtain ⟨_,oi,G,_⟩:=mem_ready.1 hi;obtain ⟨_,oj,H,_⟩:=mem_ready.1 hj;refine ⟨fun h0=>(by rw [hr] at h0;cases h0),fun k hk=>?_⟩;rw [hr] at hk;simp only [List.mem_cons,List.not_mem_nil,or_false] at hk;rcases hk with rfl | rfl
  ·exact wpOp_mono (fun a' w' h'=>⟨h'.1.imp id (fun h _=>h),ihp _ a' w' _ E C (fun hle=>h'.1.resolve_left (by simp at hle;omega)) h'.2⟩) (h1.wpOp G)
  ·exact wpOp_mono (fun a' w' h'=>⟨h'.1.imp id (fun h _=>h),by rw [u];exact ihq _ a' w' _ F D (fun hle=>h'.1.resolve_left (by simp at hle;omega)) h'.2⟩) (h2.wpOp H)
 | bag l p ih=>
  intro listed a w d g f hS h;simp only [WK,Bool.and_eq_true,Bool.not_eq_true'] at f;obtain ⟨hd,f⟩:=f;have B:∀(m:Nat) (l:List Nat) (listed:Array Bool) (a:Act) (w:World),Zqb .any ops n (fun b=>WK .any ops n false p b) m l listed=true→S w→Zqc P ops Q .any S n (Z8 P ops Q S n p) m l a w→AnyG P .any ops Q S n (p.len+m) listed a w:=by
   intro m
   induction m with
   | zero=>exact fun l listed a w hg hw h=>ih listed a w false g hg (fun _=>hw) h
   | succ m ihm=>
    intro l listed a w hg hw h;simp only [Zqb,Bool.and_eq_true,Bool.not_eq_true',List.all_eq_true,decide_eq_true_eq,beq_iff_eq] at hg;obtain ⟨I,x,y⟩:=hg;refine ⟨fun h0=>(by rw [h0] at x;simp at x),fun j hj=>?_⟩;obtain ⟨_,o,ho,z⟩:=mem_ready.1 hj;obtain ⟨⟨t,K⟩,J⟩:=y j hj;have t:j∈l:=(by simpa using t);exact wpOp_mono (fun a' w' h'=>⟨h'.1.imp id (fun h _=>h),ihm _ _ a' w' J (h'.1.resolve_left (by omega)) h'.2⟩) ((h j o t ho fun e he hb hin=>by
     have h1:=z e he hb;have h2:=I e.on hin;rcases JX e.on listed.size with h' | h'
     ·simp [h'] at h1 h2;rw [h1] at h2;cases h2
     ·simp [Array.getElem?_eq_none h'] at h2).wpOp ho)
  exact B _ _ _ _ _ f (hS hd) h
theorem Xg {id:Nat} {l:List Oper} {a:Act} {w:World} (n:Nat) (p:UD) (hm:P.follows .mixedOrders=true) (hok:Zsa .any l.toArray n p=true)
 (h:Z8 P l.toArray (NoPanic Q) (fun w'=>Below w.heap.size w w') n p a w.drew):(Code.region id l.toArray true).wp P Q a w:=by
 simp only [Zsa,Bool.and_eq_true,decide_eq_true_eq] at hok;obtain ⟨hs,b,e,hl⟩:=hok;refine wp_region_noPanic (wp_region_any hm (AnyG.any _ _ _ _ (S:=fun w'=>Below w.heap.size w w') (n:=n) ?_));have:=AnyG.of_plan (P:=P) (Q:=NoPanic Q) (S:=fun w'=>Below w.heap.size w w') (fun c a d v w h=>h) hs p _ a w.drew false e b (fun _=>(JR _ _).drew) h
 rwa [hl] at this
theorem Y7 {a:Act} {w:World} (h:Q .normal a w):Z8 P ops (NoPanic Q) S n .done a w:=h
theorem YA {o:Oper} {i:Nat} {p:UD} {a:Act} {w:World} {v:Value} (ho:ops[i]? =some o) (hf:(Y5 ops n i && !Zai ops i)=true) (hw:Region.wanted o (yielded ops a.tmps)=true) (hy:∀w',S w'→(execOp a.eval o).run P w'= .ok (.value v) w') (h:Z8 P ops Q S n p (a.put o.dst v) w):Z8 P ops Q S n (.go i p) a w:=by
 simp only [Bool.and_eq_true,Bool.not_eq_true'] at hf;unfold Z8;rw [ho];show if _ then _ else _
 rw [if_pos hf.1];exact ⟨v,by rw [if_neg (by simp [hf.2])];exact .inl ⟨hw,hy⟩,h⟩
theorem Yg {o:Oper} {i:Nat} {p:UD} {a:Act} {w:World} {v:Value} (ho:ops[i]? =some o) (hf:(Y5 ops n i && Zai ops i)=true) (hw:Region.wanted o (yielded ops a.tmps)=true) (hy:∀w',True→(execOp a.eval o).run P w'= .ok (.value v) w') (h:Z8 P ops Q S n p (a.put o.dst v) w):Z8 P ops Q S n (.go i p) a w:=by
 simp only [Bool.and_eq_true] at hf;unfold Z8;rw [ho];show if _ then _ else _
 rw [if_pos hf.1];exact ⟨v,by rw [if_pos hf.2];exact .inl ⟨hw,hy⟩,h⟩
theorem YB {o:Oper} {i:Nat} {p:UD} {a:Act} {w:World} (ho:ops[i]? =some o) (hf:Y5 ops n i=true) (hw:Region.wanted o (yielded ops a.tmps)=false) (h:Z8 P ops Q S n p (a.put o.dst undef) w):Z8 P ops Q S n (.go i p) a w:=by
 unfold Z8;rw [ho];show if _ then _ else _
 rw [if_pos hf];exact ⟨undef,by split <;> exact .inr ⟨hw,rfl⟩,h⟩
theorem Vb {o:Oper} {i:Nat} {K:Act→World→Prop} {a:Act} {w:World} (ho:ops[i]? =some o)
 (h:∀K':Act→World→Prop,Shut (∀a w,(n≤i∨S w)→K a w→K' a w)→if Region.wanted o (yielded ops a.tmps)=true then Oper.wp P o a w K' Q else K' (a.put o.dst undef) w):Yi P ops Q S n i K a w:=by
 have h1:=h (fun a' w'=>(n≤i∨S w')∧K a' w') (fun a w h1 h2=>⟨h1,h2⟩);unfold Yi;rw [ho];exact h1
theorem ZQ {o:Oper} {i:Nat} {p:UD} {a:Act} {w:World} (ho:ops[i]? =some o) (hf:Y5 ops n i=false)
 (h:∀K':Act→World→Prop,Shut (∀a w,(n≤i∨S w)→Z8 P ops Q S n p a w→K' a w)→if Region.wanted o (yielded ops a.tmps)=true then Oper.wp P o a w K' Q else K' (a.put o.dst undef) w):Z8 P ops Q S n (.go i p) a w:=by
 unfold Z8;rw [ho];show if _ then _ else _
 rw [if_neg (by simp [hf])];exact Vb ho h
theorem Yh {o:Oper} {i:Nat} {p:UD} {a:Act} {w:World} (ho:ops[i]? =some o) (hf:Y5 ops n i=false) (hw:Region.wanted o (yielded ops a.tmps)=false) (hS:S w) (h:Z8 P ops Q S n p (a.put o.dst undef) w):Z8 P ops Q S n (.go i p) a w:=by
 refine ZQ ho hf fun K hK=>?_
 rw [if_neg (by rw [hw];simp)];exact hK _ _ (.inr hS) h
theorem Zan {oi oj:Oper} {i j:Nat} {p q:UD} {a:Act} {w:World} (hi:ops[i]? =some oi) (hj:ops[j]? =some oj)
 (h1:∀K':Act→World→Prop,Shut (∀a w,(n≤i∨S w)→Z8 P ops Q S n p a w→K' a w)→if Region.wanted oi (yielded ops a.tmps)=true then Oper.wp P oi a w K' Q else K' (a.put oi.dst undef) w)
 (h2:∀K':Act→World→Prop,Shut (∀a w,(n≤j∨S w)→Z8 P ops Q S n q a w→K' a w)→if Region.wanted oj (yielded ops a.tmps)=true then Oper.wp P oj a w K' Q else K' (a.put oj.dst undef) w):Z8 P ops Q S n (.fork i p j q) a w:=⟨Vb hi h1,Vb hj h2⟩
theorem Yi.mono {i:Nat} {K K':Act→World→Prop} {a:Act} {w:World} (h:Yi P ops Q S n i K a w) (hk:∀a w,K a w→K' a w):Yi P ops Q S n i K' a w:=by
 unfold Yi at *;split
 ·trivial
 ·rename_i o ho
  rw [ho] at h;simp only at h;split
  ·rename_i hw;rw [if_pos hw] at h;exact Oper.wp_mono (fun a w h'=>⟨h'.1,hk a w h'.2⟩) h
  ·rename_i hw;rw [if_neg hw] at h;exact ⟨h.1,hk _ _ h.2⟩
theorem Zqd {l:List Nat} {p:UD} {a:Act} {w:World} (J:(Nat→Prop)→Act→World→Prop) (hl:l.Nodup) (h0:J (fun _=>False) a w) (hs:∀D a w i oi,i∈l→¬D i→ops[i]? =some oi→(∀e∈oi.after,Region.binds .any e=true→e.on∈l→D e.on)→J D a w→Yi P ops Q S n i (J fun k=>D k∨k=i) a w) (h1:∀D a w,(∀k∈l,D k)→J D a w→Z8 P ops Q S n p a w):Z8 P ops Q S n (.bag l p) a w:=by
 have g:∀(m:Nat) (r:List Nat) (D:Nat→Prop) (a:Act) (w:World),r.length=m→r.Nodup→(∀k∈r,¬D k)→(∀k∈r,k∈l)→(∀k∈l,k∈r∨D k)→J D a w→Zqc P ops Q .any S n (Z8 P ops Q S n p) m r a w:=by
  intro m
  induction m with
  | zero=>
   intro r D a w hr _ _ _ hd hj;have hr:=List.eq_nil_of_length_eq_zero hr;subst hr;exact h1 D a w (fun k hk=>(hd k hk).resolve_left (by simp)) hj
  | succ m ih=>
   intro r D a w hr c d b hd hj i oi hi j f;refine (hs D a w i oi (b i hi) (d i hi) j (fun e he hb hl=>(hd e.on hl).resolve_left (f e he hb)) hj).mono fun a' w' hj'=>ih _ _ a' w' (by rw [List.length_erase_of_mem hi];omega) (c.erase i) (fun k hk=>by
    rintro (h | h)
    ·exact d k (List.mem_of_mem_erase hk) h
    ·exact (c.mem_erase_iff.1 hk).1 h) (fun k hk=>b k (List.mem_of_mem_erase hk)) (fun k hk=>?_) hj'
   rcases hd k hk with h | h
   ·by_cases e:k=i
    ·exact .inr (.inr e)
    ·exact .inl ((List.mem_erase_of_ne e).2 h)
   ·exact .inr (.inl h)
 exact g _ l _ a w rfl hl (fun _ _ h=>h) (fun _ h=>h) (fun _ h=> .inl h) h0
def Us (a:Act) (d1:Nat) (s1:Value) (d2:Nat) (s2:Value) (d3:Nat) (s3:Value) (d4:Nat) (s4:Value) (d5:Nat) (s5:Value):Act:=((((a.put (some d1) s1).put (some d2) s2).put (some d3) s3).put (some d4) s4).put (some d5) s5
theorem Zmw {l:List Nat} {p:UD} {a:Act} {w:World} (d1 d2 d3 d4 d5:Nat) (s1 s2 s3 s4 s5:Value) (R:(Nat→Prop)→Value→Value→Value→Value→Value→World→Prop) (ha:a=Us a d1 s1 d2 s2 d3 s3 d4 s4 d5 s5) (hl:l.Nodup) (h0:R (fun _=>False) s1 s2 s3 s4 s5 w)
 (hs:∀D s1 s2 s3 s4 s5 w i oi,i∈l→¬D i→ops[i]? =some oi→(∀e∈oi.after,Region.binds .any e=true→e.on∈l→D e.on)→R D s1 s2 s3 s4 s5 w→Yi P ops Q S n i (fun a' w'=>∃s1 s2 s3 s4 s5,a'=Us a d1 s1 d2 s2 d3 s3 d4 s4 d5 s5∧R (fun k=>D k∨k=i) s1 s2 s3 s4 s5 w') (Us a d1 s1 d2 s2 d3 s3 d4 s4 d5 s5) w)
 (h1:∀D s1 s2 s3 s4 s5 w,(∀k∈l,D k)→R D s1 s2 s3 s4 s5 w→Z8 P ops Q S n p (Us a d1 s1 d2 s2 d3 s3 d4 s4 d5 s5) w):Z8 P ops Q S n (.bag l p) a w:=by
 refine Zqd (fun D a' w=>∃s1 s2 s3 s4 s5,a'=Us a d1 s1 d2 s2 d3 s3 d4 s4 d5 s5∧R D s1 s2 s3 s4 s5 w) hl ⟨s1,s2,s3,s4,s5,ha,h0⟩ ?_ ?_
 ·rintro D a' w i oi hi hn ho hd ⟨t1,t2,t3,t4,t5,rfl,hr⟩;exact hs D t1 t2 t3 t4 t5 w i oi hi hn ho hd hr
 ·rintro D a' w hd ⟨t1,t2,t3,t4,t5,rfl,hr⟩;exact h1 D t1 t2 t3 t4 t5 w hd hr
end
end
section
section
variable {P:Program} {ops:Array Oper} {Q:Exit→Act→World→Prop} {S:World→Prop} {n:Nat}
def Zwq (ops:Array Oper) (i k:Nat):Bool:=match ops[i]? with
 | some o=>o.after.any fun e=>Region.binds .any e && e.on==k
 | none=>false
def YR (P:Program) (ops:Array Oper) (Q:Exit→Act→World→Prop) (S:World→Prop) (n:Nat) (l:List Nat) (a:Act) (d1 d2 d3 d4 d5:Nat) (R:(Nat→Prop)→Value→Value→Value→Value→Value→World→Prop) (i:Nat):Prop:=
 ∀D s1 s2 s3 s4 s5 w,¬D i→(∀k∈l,Zwq ops i k=true→D k)→R D s1 s2 s3 s4 s5 w→Yi P ops Q S n i (fun a' w'=>∃s1 s2 s3 s4 s5,a'=Us a d1 s1 d2 s2 d3 s3 d4 s4 d5 s5∧R (fun k=>D k∨k=i) s1 s2 s3 s4 s5 w') (Us a d1 s1 d2 s2 d3 s3 d4 s4 d5 s5) w
theorem Zbd {l:List Nat} {p:UD} {a:Act} {w:World} (d1 d2 d3 d4 d5:Nat) (s1 s2 s3 s4 s5:Value) (R:(Nat→Prop)→Value→Value→Value→Value→Value→World→Prop) (ha:a=Us a d1 s1 d2 s2 d3 s3 d4 s4 d5 s5) (hl:l.Nodup) (h0:R (fun _=>False) s1 s2 s3 s4 s5 w)
 (hs:∀i∈l,YR P ops Q S n l a d1 d2 d3 d4 d5 R i)
 (h1:∀D s1 s2 s3 s4 s5 w,(∀k∈l,D k)→R D s1 s2 s3 s4 s5 w→Z8 P ops Q S n p (Us a d1 s1 d2 s2 d3 s3 d4 s4 d5 s5) w):Z8 P ops Q S n (.bag l p) a w:=
 Zmw d1 d2 d3 d4 d5 s1 s2 s3 s4 s5 R ha hl h0 (fun D s1 s2 s3 s4 s5 w i oi hi hn ho hd hr=>hs i hi D s1 s2 s3 s4 s5 w hn (fun k hk hb=>by
  unfold Zwq at hb
  rw [ho] at hb
  simp only [Array.any_eq_true,Bool.and_eq_true,beq_iff_eq] at hb
  obtain ⟨j,hj,h1,h2⟩:=hb
  subst h2
  exact hd _ (Array.getElem_mem hj) h1 hk) hr) h1
theorem YR.mk {l:List Nat} {a:Act} {d1 d2 d3 d4 d5:Nat} {R:(Nat→Prop)→Value→Value→Value→Value→Value→World→Prop} {i:Nat} {o:Oper} (ho:ops[i]? =some o)
 (h:∀D s1 s2 s3 s4 s5 w b,b=Us a d1 s1 d2 s2 d3 s3 d4 s4 d5 s5→¬D i→(∀k∈l,Zwq ops i k=true→D k)→R D s1 s2 s3 s4 s5 w→∀K':Act→World→Prop,Shut (∀a' w',(n≤i∨S w')→(∃s1 s2 s3 s4 s5,a'=Us a d1 s1 d2 s2 d3 s3 d4 s4 d5 s5∧R (fun k=>D k∨k=i) s1 s2 s3 s4 s5 w')→K' a' w')→if Region.wanted o (yielded ops b.tmps)=true then Oper.wp P o b w K' Q else K' (b.put o.dst undef) w):YR P ops Q S n l a d1 d2 d3 d4 d5 R i:=
 fun D s1 s2 s3 s4 s5 w hn hd hr=>Vb ho (h D s1 s2 s3 s4 s5 w _ rfl hn hd hr)
end
end
section
attribute [local irreducible] Yi
end
section
attribute [local irreducible] Yi
end
section
attribute [local irreducible] Yi
end
end Go.Proofs.YtidgdpkcloaheaaGreat
