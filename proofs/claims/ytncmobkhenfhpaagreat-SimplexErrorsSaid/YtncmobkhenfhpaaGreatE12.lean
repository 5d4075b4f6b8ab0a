/- Lemmas of the claim; no condition. -/
import Derived.Test.YtncmobkhenfhpaaGreatE13
set_option linter.all false
set_option maxRecDepth 100000
set_option maxHeartbeats 40000000
namespace Go.Proofs.YtncmobkhenfhpaaGreat
open Go.RowKit
open Pl
attribute [local go_sem ↓] Go.wp_at_zero Go.wp_at_succ
theorem UE [Old] (v1 v2:Value) (xs ys:List Nat) (w:World) (h1:ZQ w v1 xs) (h2:ZQ w v2 ys) (hle:val ys≤val xs) (hlen:ys.length≤xs.length) (hs:xs.length≤549755813888) (hOl:Zb w:=by (repeat (first | assumption | exact Zb.up (by assumption) hOl | exact Zb.up (Hid.out (by assumption)) hOl | with_reducible refine Zb.set ?_ _ _ | with_reducible refine Zb.mk_ ?_ _ | with_reducible refine Zb.dr ?_ | with_reducible refine Zb.drN ?_ | refine Zb.up (by assumption) ?_ | refine Zb.up (Hid.out (by assumption)) ?_))):
 Calls Tryz.prog 134 #[v1,v2] w fun e w'=>∃k l,e= .returned (.slice (some ⟨w.heap.size,0,none⟩) k l)∧ZQ w' (.slice (some ⟨w.heap.size,0,none⟩) k l) (Zo (val xs - val ys))∧Below w.heap.size w w':=by
 have n:=hOl.le;have HL:=JZ hle;clear hle;obtain ⟨A,l,c,rfl⟩:=h1.shape;obtain ⟨hl,m,p,hc⟩:=h1.len;have f:=YE l (by omega);have HX:Hid (xs.length≤l):=JZ (by omega);have HY:Hid (ys.length≤l):=JZ (by omega);have o:(l:Int)≤549755813888:=by omega
 have g:=h1.ok;have h:=h2.ok;clear hl m hlen hs;go_enter Tryz.func134,Tryz.ntmps134;go_wp2;clear f
 go_loopw [6,7] (fun cy i wr=>∃(k:Nat) (O:List Nat) (z:Int),k≤l∧i= .int .i64 k∧cy= .int .u64 z∧0≤z∧z≤1∧l≤O.length∧O.length≤l∧YD wr w.heap.size O∧okD O∧Below w.heap.size w wr∧
  (vt O k:Int) - z * ((B32^k:Nat):Int)=vt xs k - vt ys k) (fun _ i _=>l - (intOf i).toNat)
 case atStart=>exact ⟨0,List.replicate l 0,0,by omega,rfl,rfl,by omega,by omega,by simp,by simp,YD.zeros w _,ZM _,(JR _ _).alloc (JY _) _,by simp [YN]⟩
 case round=>
  obtain ⟨k,O,z,hk,rfl,rfl,z0,z1,hO,b,hB,ok,a,d⟩:=hrel;have HE:=JZ d;clear d;rcases JX k l with hkl | hkl
  ·have x0:=Zr xs k;have x1:=Yk g k;have y0:=Zr ys k;have y1:=Yk h k;have ho:=hB.cell (k:=k) (by omega);have hf:=hB.frozen k;go_wp2_with fail;refine (XQ _ xs k _ (h1.below a) (by omega)).mono ?_;rintro e w1 ⟨rfl,rfl⟩;go_wp2_with fail;refine (XQ _ ys k _ (h2.below a) (by omega)).mono ?_;rintro e w1 ⟨rfl,rfl⟩;obtain ⟨x,hx⟩:∃x,x=di xs k+4294967296 - di ys k - z:=⟨_,rfl⟩;have j:=JZ hx;have q1:IntKind.u64.wrap (di xs k+4294967296)=di xs k+4294967296:=u64_in _ (by omega) (by omega);have q2:IntKind.u64.wrap (di xs k+4294967296 - di ys k)=di xs k+4294967296 - di ys k:=u64_in _ (by omega) (by omega);have q3:IntKind.u64.wrap (di xs k+4294967296 - di ys k - z)=x:=(by rw [hx];exact u64_in _ (by omega) (by omega));have r0:0≤x:=(by omega);have r1:x≤8589934591:=(by omega);clear hx;have q4:IntKind.u64.wrap (1 - x / 4294967296)=1 - x / 4294967296:=u64_in _ (by omega) (by omega);go_wp2;go_roundw
   case rel=>exact ⟨k+1,O.set k (x % 4294967296).toNat,1 - x / 4294967296,by omega,by go_num,rfl,by omega,by omega,by simpa using hO,by simpa using b,hB.setI k (by omega),ZN ok k (by unfold B32;omega),a.setCell (JY _) _,U5 (by omega) rfl (by omega) (by have:=j.out;omega) HE.out⟩
   case measure=>simp [intOf];omega
  ·obtain rfl:k=l:=by omega
   go_wp2_with fail;refine (Zdc _ _ _ O _ ?_).mono ?_
   ·have:=hB.dig ok (c:=k) b (by unfold maxLen;omega)
    rwa [show O.length=k from by omega] at this
   rintro e w1 ⟨k',rfl,hv,rfl⟩;go_wp2_with fail;go_ret;refine ⟨_,_,rfl,?_,a⟩
   rwa [Ztd (show O.length=k by omega) ok z0 HX.out HY.out HL.out HE.out] at hv
theorem UF [Old] (v1 v2:Value) (xs ys:List Nat) (w:World) (h1:ZQ w v1 xs) (h2:ZQ w v2 ys) (hle:val ys≤val xs) (hlen:ys.length≤xs.length) (hs:xs.length≤549755813888) (hOl:Zb w:=by (repeat (first | assumption | exact Zb.up (by assumption) hOl | exact Zb.up (Hid.out (by assumption)) hOl | with_reducible refine Zb.set ?_ _ _ | with_reducible refine Zb.mk_ ?_ _ | with_reducible refine Zb.dr ?_ | with_reducible refine Zb.drN ?_ | refine Zb.up (by assumption) ?_ | refine Zb.up (Hid.out (by assumption)) ?_))):
 Calls Tryz.prog 134 #[v1,v2] w fun e w'=>∃v',e= .returned v'∧ZQ w' v' (Zo (val xs - val ys))∧Below w.heap.size w w':=
 (UE v1 v2 xs ys w h1 h2 hle hlen hs).mono fun _ _ ⟨_,_,h1,h2,h3⟩=>⟨_,h1,h2,h3⟩
theorem Zft [Old] (v1 v2:Value) (xs ys:List Nat) (w:World) (h1:ZQ w v1 xs) (h2:ZQ w v2 ys) (hs:xs.length+ys.length≤1099511627776) (hOl:Zb w:=by (repeat (first | assumption | exact Zb.up (by assumption) hOl | exact Zb.up (Hid.out (by assumption)) hOl | with_reducible refine Zb.set ?_ _ _ | with_reducible refine Zb.mk_ ?_ _ | with_reducible refine Zb.dr ?_ | with_reducible refine Zb.drN ?_ | refine Zb.up (by assumption) ?_ | refine Zb.up (Hid.out (by assumption)) ?_))):
 Calls Tryz.prog 107 #[v1,v2] w fun e w'=>∃v',e= .returned v'∧ZQ w' v' (Zo (val xs * val ys))∧Below w.heap.size w w':=by
 have I:=hOl.le;obtain ⟨A,l,c,rfl⟩:=h1.shape;obtain ⟨hl,B,K,hc⟩:=h1.len;obtain ⟨A2,l2,c2,rfl⟩:=h2.shape;obtain ⟨kl,C,L,kc⟩:=h2.len;have v:=h1.ok;have x:=h2.ok;have p:=YE (l+l2) (by omega)
 push_cast at p
 have J:(l:Int)+(l2:Int)≤1099511627776:=by omega
 have HX:Hid (xs.length≤l):=JZ (by omega);have HY:Hid (ys.length=l2):=JZ (by omega);clear hl B kl C hs;go_enter Tryz.func107,Tryz.ntmps107;go_wp2;clear p
 go_loopw [6] (fun i wr=>∃(k:Nat) (O:List Nat),k≤l∧i= .int .i64 k∧l+l2≤O.length∧O.length≤l+l2∧YD wr w.heap.size O∧okD O∧Below w.heap.size w wr∧
  (val O:Int)=(vt xs k:Int) * val ys∧(∀j,k+l2≤j→dg O j=0)) (fun i _=>l - (intOf i).toNat)
 case atStart=>exact ⟨0,List.replicate (l+l2) 0,by omega,rfl,by simp,by simp,YD.zeros w _,ZM _,(JR _ _).alloc (JY _) _,by simp [YN,XB],fun j _=>WO _ _⟩
 case round=>
  obtain ⟨k,O,hk,rfl,hO,r,hB,ok,n,s,t⟩:=hrel;have HE:=JZ s;have HZ:=JZ t;clear s t;rcases JX k l with hkl | hkl
  ·obtain ⟨b1,G,rfl,D,a⟩:=h1.at_ (by omega);have y:=JZ a;clear a;have x0:=Zr xs k;have x1:=Yk v k;obtain ⟨wo,E⟩:∃wo:World,wo=wr:=⟨_,rfl⟩;subst E;go_wp2
   go_loopw [7,8] (fun cy i wr=>∃(j:Nat) (O':List Nat) (z:Int),j≤l2∧i= .int .i64 j∧cy= .int .u64 z∧0≤z∧z≤4294967295∧l+l2≤O'.length∧O'.length≤l+l2∧YD wr w.heap.size O'∧okD O'∧Below w.heap.size w wr∧
    (val O':Int)+z * ((B32^(k+j):Nat):Int)=(val O:Int)+di xs k * ((B32^k:Nat):Int) * vt ys j∧(∀i,k+l2≤i→dg O' i=0)) (fun _ i _=>l2 - (intOf i).toNat)
   case atStart=>exact ⟨0,O,0,by omega,rfl,rfl,by omega,by omega,hO,r,hB,ok,n,by simp [YN],HZ.out⟩
   case round=>
    clear n hB;obtain ⟨j,O',z,hj,rfl,rfl,z0,z1,hP,u,f,o,b,g,h⟩:=hrel;have q:=JZ g;have m:=JZ h;clear g h;rcases JX j l2 with hjl | hjl
    ·obtain ⟨b2,H,rfl,F,d⟩:=h2.at_ (by omega);have hx:=XC b D y.out hkl;have hy:=XC b F d hjl;clear d;have y0:=Zr ys j;have y1:=Yk x j;have p0:0≤di xs k * di ys j:=Int.mul_nonneg x0 y0;have p1:di xs k * di ys j≤4294967295 * 4294967295:=Int.mul_le_mul x1 y1 y0 (by omega);have ho:=f.cell (k:=k+j) (by omega);have hf:=f.frozen (k+j);have o0:=Zr O' (k+j);have o1:=Yk o (k+j);have g1:IntKind.u64.wrap (di O' (k+j))=di O' (k+j):=u64_in _ o0 (by omega);have g2:IntKind.u64.wrap (z+di O' (k+j))=z+di O' (k+j):=u64_in _ (by omega) (by omega);have g3:IntKind.u64.wrap (di xs k)=di xs k:=u64_in _ x0 (by omega);have g4:IntKind.u64.wrap (di ys j)=di ys j:=u64_in _ y0 (by omega);have g5:IntKind.u64.wrap (di xs k * di ys j)=di xs k * di ys j:=u64_in _ p0 (by omega);have g6:IntKind.u64.wrap (z+di O' (k+j)+di xs k * di ys j)=z+di O' (k+j)+di xs k * di ys j:=u64_in _ (by omega) (by omega);have g7:IntKind.i64.wrap ((k:Int)+j)=(k:Int)+j:=(by simp only [IntKind.wrap,IntKind.bits,IntKind.signed];simp;omega);have g8:((k:Int)+j).toNat=k+j:=(by omega);have g9:(k:Int)+j < (l:Int)+l2:=(by omega);go_wp2
     go_quiet (fail)
     obtain ⟨T,hT⟩:∃T,T=z+di O' (k+j)+di xs k * di ys j:=⟨_,rfl⟩;have T0:0≤T:=(by omega);have T1:T≤18446744073709551615:=(by omega);rw [← hT];have HT:=JZ hT;clear hT g1 g2 g3 g4 g5 g6 p0 p1;go_wp2;go_roundw
     case rel=>exact ⟨j+1,O'.set (k+j) (T % 4294967296).toNat,T / 4294967296,by omega,by go_num,rfl,by omega,by omega,by simpa using hP,by simpa using u,(show YD (wr.drewN nq) w.heap.size O' from f).setI _ (by omega),ZN o _ (by unfold B32;omega),(below_drewN b nq).setCell (JY _) _,Zop (by omega) (by omega) (by have:=HT.out;omega) q.out,fun i hi=>by rw [Yj (by omega)];exact m.out i hi⟩
     case measure=>simp [intOf];omega
    ·obtain rfl:j=l2:=by omega
     have ho:=f.cell (k:=k+j) (by omega);have hf:=f.frozen (k+j);go_wp2;go_roundw
     case rel=>exact ⟨k+1,O'.set (k+j) z.toNat,by omega,by go_num,by simpa using hP,by simpa using u,f.setI _ (by omega),ZN o _ (by unfold B32;omega),b.setCell (JY _) _,Zdn HE.out (Zfy HY.out (by omega) z0 (m.out _ (JY _)) q.out),fun i hi=>by rw [Yj (by omega)];exact m.out i (by omega)⟩
     case measure=>simp [intOf];omega
  ·obtain rfl:k=l:=by omega
   go_wp2_with fail;refine (YA _ O _ ?_).mono ?_
   ·have:=hB.dig ok (c:=k+l2) r (by unfold maxLen;omega)
    rwa [show O.length=k+l2 from by omega] at this
   rintro e w1 ⟨v',rfl,hv,rfl⟩;go_wp2_with fail;go_ret;refine ⟨_,rfl,?_,n⟩
   rwa [Ztl HX.out HE.out] at hv
theorem Zfu [Old] (ty:TypeId) (w:World) (A:Option Addr) (n c:Nat) (ds:List Nat) (h:ZQ w (.slice A n c) ds) (hs:ds.length≤549755813888):
 ∃v' w',(Builtin.append_ #[44,44] ty #[.slice none 0 0,.slice A n c]).run Tryz.prog w= .ok v' w'∧w'.ownsRow w.heap.size 123 1 v' ds.length (ds.map uc)∧Below w.heap.size w w':=by
 obtain ⟨i0,hi,d,e,f⟩:=info_parts info_u32;obtain ⟨hl,g,i,hc⟩:=h.len;obtain rfl:n=ds.length:=by omega
 rcases A with _ | ad
 ·have hn:ds=[]:=by
   rcases JV ds.length with h0 | h0
   ·exact List.length_eq_zero_iff.1 h0
   ·obtain ⟨b,j,hA,_⟩:=h.at_ h0
    cases hA
  subst hn;refine ⟨.slice none 0 0,w,?_,World.ownsRow_nil _ _ _ _,JR _ _⟩;simp [Builtin.append_,run_underlying Tryz.underlying44,sizeOf,typeInfo,hi,Builtin.lenOf,Builtin.firstCells]
 ·obtain ⟨v',w',a,h2,h3,_,_⟩:=run_append_own_at (P:=Tryz.prog) w w.heap.size 44 ty 123 i0 _ 1 4 Tryz.underlying44 hi d e f rfl (by decide) (.slice none 0 0) 0 [] (World.ownsRow_nil _ _ _ _) ad ds.length c (ds.map uc) (by simp) h.news (Uk _) (by unfold maxLen;omega) (by omega) (JY _);exact ⟨v',w',a,by simpa using h2,(JR _ _).grown h3 (JY _) (fun k hk=>by simp [Value.ownBlock] at hk)⟩
theorem Zah [Old] {o:Oper} {a:Act} {K:Act→World→Prop} {Q:Exit→Act→World→Prop} (x:Operand)
 (ho:o.op= .call { callee:= .builtin .append,args:=#[.const (.slice none 0 0),x],argTypes:=#[44,44] })
 (w:World) (A:Option Addr) (n c:Nat) (ds:List Nat) (hx:a.eval x= .slice A n c) (h:ZQ w (.slice A n c) ds) (hs:ds.length≤549755813888)
 (hK:∀v' w',w'.ownsRow w.heap.size 123 1 v' ds.length (ds.map uc)→Below w.heap.size w w'→K (a.put o.dst v') w'):o.wp Tryz.prog a w K Q:=by
 obtain ⟨v',w',b,h2,h3⟩:=Zfu o.type w A n c ds h hs;have hc:a.eval (.const (.slice none 0 0))= .slice none 0 0:=rfl;unfold Oper.wp execOp;simp only [ho,resolve,invoke,builtin,Sem.run_bind,Sem.run_pure,Result.andThen_ok,List.map_toArray,List.map_cons,List.map_nil,hc,hx,b];exact hK v' w' h2 h3
theorem Zbu [Old] {ops:Array Oper} {rest:List Oper} {o:Oper} {a:Act} {Q:Exit→Act→World→Prop} (hgd:o.guard=none) (x:Operand)
 (ho:o.op= .call { callee:= .builtin .append,args:=#[.const (.slice none 0 0),x],argTypes:=#[44,44] })
 (w:World) (A:Option Addr) (n c:Nat) (ds:List Nat) (hx:a.eval x= .slice A n c) (h:ZQ w (.slice A n c) ds) (hs:ds.length≤549755813888)
 (hK:∀v' w',w'.ownsRow w.heap.size 123 1 v' ds.length (ds.map uc)→Below w.heap.size w w'→wpList Tryz.prog ops Q rest (a.put o.dst v') w'):wpList Tryz.prog ops Q (o::rest) a w:=
 wpList_plain hgd fun _ hk=>Zah x ho w A n c ds hx h hs fun v' w' h2 h3=>hk _ _ (hK v' w' h2 h3)
theorem Zyk {d s:Nat} (hs:s≤31) (hd:d < B32) (h:2^(s+1)∣d):bits .or .u32 (d:Int) (2^s)=((d+2^s:Nat):Int):=by
 have h2:2^s≤2^31:=Nat.pow_le_pow_right (by decide) hs;rw [Yw,u32_or_nat _ _ (by unfold B32 at hd;omega) (by omega),or_bit h]
def Off (g:Nat) (v:Value):Prop:=∀a n c,v= .slice (some a) n c→a.block≠g
theorem Off.mk {g b o n c:Nat} (h:b≠g):Off g (.slice (some ⟨b,o,none⟩) n c):=fun a n' c' e=>by
 injection e with e1
 injection e1 with e1
 subst e1
 exact h
theorem Off.own {w:World} {base e size n g:Nat} {v:Value} {xs:List Value} (h:w.ownsRow base e size v n xs) (hg:w.heap.size≤g):Off g v:=fun a n' c' he=>by
 rcases h.2 with ⟨rfl,_⟩ | ⟨k,cap,cur,rfl,_,hh,_⟩
 ·injection he with e1;cases e1
 ·injection he with e1
  injection e1 with e1
  subst e1
  have:=Yo hh
  show k≠g
  omega
theorem ZQ.far [Old] {w:World} {v:Value} {ds:List Nat} {g:Nat} (h:ZQ w v ds) (ho:Off g v) (k:Nat) (u:Value):ZQ (w.setCell ⟨g,k,none⟩ u) v ds:=by
 obtain ⟨A,c,hv,h1,h2,h3,h4⟩:=h;refine ⟨A,c,hv,h1,h2,h3,fun hp=>?_⟩;obtain ⟨b,d,cs,t,fz,hA,ht,hb,hc⟩:=h4 hp;have a:b≠g:=by subst hA;exact ho _ _ _ hv
 exact ⟨b,d,cs,t,fz,hA,ht,by rw [heap_setCell_other w _ _ _ a];exact hb,hc⟩
def Ygd [Old] (X Y q g:Nat) (w:World) (r d:Value) (z:Int) (wr:World) (Q:List Nat) (R D:Nat):Prop:=
 ZQ wr r (Zo R)∧ZQ wr d (Zo D)∧D=Y * 2^(z+1).toNat / 2∧R < Y * 2^(z+1).toNat∧X=val Q * Y+R∧2^(z+1).toNat∣val Q∧YD wr g Q∧okD Q∧q+1≤Q.length∧Q.length≤q+1∧Below w.heap.size w wr∧(Zo R).length≤137438953472∧(Zo D).length≤549755813888∧Off g r∧Off g d
def Zri [Old] (X Y:Nat) (w:World) (e:Ending) (w':World):Prop:=
 ∃v1 v2,e= .returned (.tuple #[v1,v2])∧ZQ w' v1 (Zo (X / Y))∧ZQ w' v2 (Zo (X % Y))∧Below w.heap.size w w'
theorem UG [Old] (v1 v2:Value) (xs ys:List Nat) (w:World) (h1:ZQ w v1 xs) (h2:ZQ w v2 ys) (hy:val ys≠0) (hs1:(Zo (val xs)).length≤137438953472) (hs2:ys.length≤137438953472) (hOl:Zb w:=by (repeat (first | assumption | exact Zb.up (by assumption) hOl | exact Zb.up (Hid.out (by assumption)) hOl | with_reducible refine Zb.set ?_ _ _ | with_reducible refine Zb.mk_ ?_ _ | with_reducible refine Zb.dr ?_ | with_reducible refine Zb.drN ?_ | refine Zb.up (by assumption) ?_ | refine Zb.up (Hid.out (by assumption)) ?_))):
 Calls Tryz.prog 136 #[v1,v2] w (Zri (val xs) (val ys) w):=by
 have am:=hOl.le;have ac:(Zo (val ys)).length≤137438953472:=JW (Xr h2.ok) hs2;generalize hX:val xs=X at *;generalize hY:val ys=Y at *;have HX:=JZ hX;have HY:=JZ hY;have ad:=JZ hy;clear hX hY hy;go_enter Tryz.func136,Tryz.ntmps136;go_wp2_with fail;refine (YA _ xs _ h1).mono ?_;rw [HX.out];rintro e w1 ⟨u1,rfl,g1,rfl⟩;obtain ⟨A,l,c,rfl⟩:=g1.shape;go_wp2_with (at_builtin;refine Zbu rfl (.tmp 12) rfl _ A l c (Zo X) rfl g1 (by omega) ?_);intro v' w1 C b;have d1:=Va C (Yb X);have o1:=Off.own C (JY _);clear C;go_wp2_with fail;refine (Zdu _ xs _ (h1.below b) (by rw [HX.out];omega)).mono ?_;rw [HX.out];rintro e w2 ⟨rfl,rfl⟩;go_wp2_with fail;refine (Zdu _ ys _ (h2.below b) (by rw [HY.out];omega)).mono ?_;rw [HY.out];rintro e w2 ⟨rfl,rfl⟩;have b1:=@Yao X;have b2:=@Yao Y;rcases JX (bl X) (bl Y) with hlt | hge
 ·have hq:X / Y=0∧X % Y=X:=⟨Nat.div_eq_of_lt (Zkb hlt),Nat.mod_eq_of_lt (Zkb hlt)⟩;have HQ:=JZ hq;have ht:(bl X:Int) - bl Y < 0:=by omega
  clear hq;go_wp2;go_ret2;exact ⟨_,_,rfl,by rw [HQ.out.1,digs_zero];exact ZQ.nil _ _ _ (by simp),by rw [HQ.out.2];exact d1,b⟩
 ·have g:=Zye hge ad.out;obtain ⟨n,hn⟩:∃n:Nat,n=bl X - bl Y:=⟨_,rfl⟩;have an:(bl X:Int) - bl Y=(n:Int):=by omega
  rw [← hn] at g;have ae:=JZ g;obtain ⟨q,s,a9,hs⟩:∃q s,n=32 * q+s∧s≤31:=⟨n / 32,n % 32,by omega,by omega⟩;have ao:(n:Int)≤4398046511104:=by omega
  have ap:q≤137438953472:=by omega
  have hq:(n:Int) / 32=(q:Int):=by omega
  have HN:=JZ a9;have a1:=YE (q+1) (by omega)
  push_cast at a1
  clear g hn b1 b2 a9;go_wp2_with fail;clear a1;obtain ⟨W,hW⟩:∃W,W=w1.alloc (.cells (zc (q+1)) 123):=⟨_,rfl⟩;have O:Below w1.heap.size w1 W:=hW▸Zc _ _;have hB:YD W w1.heap.size (List.replicate (q+1) 0):=hW▸YD.zeros w1 _;rw [← hW];clear hW;have m:=Za b O b.size;have hc:=Zrh v2 ys q s W (h2.below m) hs (by omega);rw [← HN.out,HY.out] at hc;refine hc.mono ?_;clear hc;rintro e w2 ⟨kd,ld,rfl,d2,H⟩;have o2:Off w1.heap.size (.slice (some ⟨W.heap.size,0,none⟩) kd ld):=Off.mk (by have:=hB.lt;omega);have a2:=hB.below H hB.lt;have a:=Za m H m.size;have d3:=(d1.below O).below H;have af:w.heap.size≤w1.heap.size:=b.size;clear hB b m d1 O H g1 h1 h2;have a3:(Zo (Y * 2^n)).length≤549755813888:=by
   refine JW (Y6 Y (2^n)) ?_;have:(Zo (2^n)).length≤q+1:=Y2 (by rw [Zbt];exact Nat.pow_lt_pow_right (by decide) (by have:=HN.out;omega));omega
  have ag:=JZ a3;have ah:Hid ((Zo X).length≤137438953472):=JZ hs1;have aq:¬(n:Int) < 0:=by omega
  clear a3 hs1 ac hge;go_wp2
  go_loopw [6,9,10] (fun r d i wr=>∃(z:Int) (Q:List Nat) (R D:Nat),-1≤z∧z≤n∧i= .int .i64 z∧Ygd X Y q w1.heap.size w r d z wr Q R D) (fun _ _ i _=>(intOf i+1).toNat)
  case atStart=>exact ⟨n,List.replicate (q+1) 0,X,Y * 2^n,by omega,by omega,rfl,d3,d2,by rw [show ((n:Int)+1).toNat=n+1 by omega,Zpa],by rw [show ((n:Int)+1).toNat=n+1 by omega];exact ae.out,by rw [XB];simp,by rw [XB];exact ⟨0,rfl⟩,a2,ZM _,by simp,by simp,a,ah.out,ag.out,o1,o2⟩
  case round=>
   obtain ⟨z,Q,R,D,b0,b3,rfl,dr,dd,hD,hR,aa,t,hB,v,hQ,Z,b,ab,F,oR,oD⟩:=hrel;have HD:=JZ hD;have HR:=JZ hR;have P:=JZ aa;have a4:=JZ t;clear hD hR aa t d2 d3 a2 a;rcases Int.lt_or_le z 0 with hz | hz
   ·obtain rfl:z= -1:=by omega
    have e0:((-1:Int)+1).toNat=0:=rfl;have:=HR.out;rw [e0,Nat.pow_zero,Nat.mul_one] at this;have HE:=JZ (Yce P.out this);clear this e0;go_wp2_with fail;refine (YA _ Q _ ?_).mono ?_
    ·have:=hB.dig v (c:=q+1) Z (by unfold maxLen;omega)
     rwa [show Q.length=q+1 from by omega] at this
    rintro e w3 ⟨v3,rfl,h3,rfl⟩;go_wp2;go_ret2;exact ⟨_,_,rfl,by rw [← HE.out.1];exact h3,by rw [← HE.out.2];exact dr,b⟩
   ·obtain ⟨i,rfl⟩:=JT hz;have e1:((i:Int)+1).toNat=i+1:=(by omega);have hR:=HR.out;have hD:=HD.out;have t:=a4.out;rw [e1] at hR hD t;rw [Zpa] at hD;have ai:=JZ hR;have u:=JZ hD;have x:=JZ t;have ar:i≤n:=(by omega);clear hR hD t HR HD a4 e1;obtain ⟨I,hI⟩:∃I,I=i / 32:=⟨_,rfl⟩;obtain ⟨J,hJ⟩:∃J,J=i % 32:=⟨_,rfl⟩;have au:(i:Int) / 32=(I:Int):=(by omega);have av:(i:Int) % 32=(J:Int):=(by omega);have aw:I≤q:=(by have:=HN.out;omega);have K:J≤31:=(by omega);have S:=Ycc v x.out;have o:=fun h=>Ycd (Q:=Q) (i:=i) h
    rw [← hI] at o;rw [← hJ] at o;rw [← hI,← hJ] at S;have L:=JZ o;have a5:=JZ S;clear hI hJ o S;go_wp2_with fail;refine (YB _ _ _ _ _ dr dd).mono ?_;rw [Zl,Zl];rintro e w3 ⟨rfl,B⟩;have T:=dr.below B;have E:=dd.below B;have j:=hB.below B hB.lt;have a:=Za b B b.size;clear dr dd hB b B;rcases JX R D with hlt | hge
    ·have hc:cmpN R D= -1:=VW hlt;have aj:=JZ hlt;rw [hc];clear hc hlt;go_wp2_with fail;refine (Zkc _ _ _ E F).mono ?_;rw [Zl];rintro e w4 ⟨k4,l4,rfl,d4,f⟩;go_wp2;go_roundw
     case rel=>exact ⟨(i:Int) - 1,Q,R,D / 2,by omega,by omega,rfl,T.below f,d4,by rw [show ((i:Int) - 1+1).toNat=i by omega,← u.out],by rw [show ((i:Int) - 1+1).toNat=i by omega,← u.out];exact aj.out,P.out,by rw [show ((i:Int) - 1+1).toNat=i by omega];exact Zyh x.out,j.below f j.lt,v,hQ,Z,Za a f a.size,ab,JW (Zv (Nat.div_le_self _ _)) F,oR,Off.mk (by have:=j.lt;omega)⟩
     case measure=>simp [intOf]
    ·have hc:0≤cmpN R D:=(by unfold cmpN;split;omega;split <;> omega);have ax:=Zmk R D;have g:=Zyg P.out ai.out (by rw [← u.out];exact hge) x.out;rw [← u.out] at g;have y:=JZ g;have M:=JZ hge;have ay:=Zyk K (Ztb v I) a5.out;have a6:=JZ (Zyf (show J < 32 by omega) (Ztb v I) a5.out);have az:=Wx K;have al:=XW J;generalize cmpN R D=cc at *;clear g hge;go_wp2_with fail;refine (UE _ _ _ _ _ T E (by rw [Zl,Zl];exact M.out) (Zv M.out) (by omega)).mono ?_;rw [Zl,Zl];rintro e w4 ⟨k4,l4,rfl,d4,f⟩;have o4:Off w1.heap.size (.slice (some ⟨w3.heap.size,0,none⟩) k4 l4):=Off.mk (by have:=j.lt;omega);have U:=j.below f j.lt;have a7:=E.below f;have a8:=Za a f a.size;clear T E j a f;have ho:=U.cell (k:=I) (by omega);have hf:=U.frozen I;rw [Yq] at ho;have V:=U.set_ I (dg Q I+2^J);have d5:=d4.far o4 I (.int .u32 ((dg Q I+2^J:Nat):Int));have ak:=a7.far oD I (.int .u32 ((dg Q I+2^J:Nat):Int));have N:=a8.setCell (p:=⟨w1.heap.size,I,none⟩) af (.int .u32 ((dg Q I+2^J:Nat):Int));generalize ((dg Q I+2^J:Nat):Int)=G at *;clear a7 d4;go_wp2_with fail;refine (Zkc _ _ _ ak F).mono ?_;rw [Zl];rintro e w6 ⟨k6,l6,rfl,d6,a0⟩;rw [World.size_setCell] at d6;go_wp2;go_roundw
     case rel=>exact ⟨(i:Int) - 1,Q.set I (dg Q I+2^J),R - D,D / 2,by omega,by omega,rfl,d5.below a0,d6,by rw [show ((i:Int) - 1+1).toNat=i by omega,← u.out],by rw [show ((i:Int) - 1+1).toNat=i by omega,← u.out];exact y.out.2.1,by rw [L.out (by omega)];exact y.out.1,by rw [show ((i:Int) - 1+1).toNat=i by omega,L.out (by omega)];exact y.out.2.2,V.below a0 V.lt,ZN v _ a6.out,by simpa using hQ,by simpa using Z,Za N a0 N.size,JW (Zv (Nat.sub_le _ _)) ab,JW (Zv (Nat.div_le_self _ _)) F,o4,Off.mk (by have:=V.lt;rw [World.size_setCell] at this;omega)⟩
     case measure=>simp [intOf]
theorem V6 [Old] {ops:Array Oper} {o:Oper} {a:Act} {K:Act→World→Prop} {Q:Exit→Act→World→Prop} {E:Prop} (hgd:o.guard=none) (x:Operand)
 (ho:o.op= .call { callee:= .builtin .append,args:=#[.const (.slice none 0 0),x],argTypes:=#[44,44] })
 (w:World) (A:Option Addr) (n c:Nat) (ds:List Nat) (hx:a.eval x= .slice A n c) (h:ZQ w (.slice A n c) ds) (hs:ds.length≤549755813888)
 (hK:∀v' w',w'.ownsRow w.heap.size 123 1 v' ds.length (ds.map uc)→Below w.heap.size w w'→K (a.put o.dst v') w'):
 if Region.wanted o (yielded ops a.tmps)=true then Oper.wp Tryz.prog o a w K Q else E:=by
 have hw:Region.wanted o (yielded ops a.tmps)=true:=by simp [Region.wanted,hgd]
 rw [if_pos hw];exact Zah x ho w A n c ds hx h hs hK
theorem Bk.snd {w:World} {g:Nat} {t:TypeId} {a b:Value} (h:Bk w g t [a,b]):w.cell? ⟨g,1,none⟩=some b:=h.two.2.1
def Yet [Old] (G:Nat) (w:World) (Y:Nat) (s t:Value) (wr:World):Prop:=
 ∃X,ZQ wr s (Zo X)∧ZQ wr t (Zo Y)∧Nat.gcd X Y=G∧(Zo X).length≤137438953472∧(Zo Y).length≤137438953472∧Below w.heap.size w wr∧Bk wr (w.heap.size+1+1) 46 [.bool false,.slice none 0 0]
theorem Zym [Old] (v1 v2:Value) (a b:RI) (w:World) (h1:Ym w v1 a) (h2:Ym w v2 b) (hs:(Zo (val a.ds)).length≤137438953472) (hs2:(Zo (val b.ds)).length≤137438953472) (hOl:Zb w:=by (repeat (first | assumption | exact Zb.up (by assumption) hOl | exact Zb.up (Hid.out (by assumption)) hOl | with_reducible refine Zb.set ?_ _ _ | with_reducible refine Zb.mk_ ?_ _ | with_reducible refine Zb.dr ?_ | with_reducible refine Zb.drN ?_ | refine Zb.up (by assumption) ?_ | refine Zb.up (Hid.out (by assumption)) ?_))):
 Calls Tryz.prog 103 #[v1,v2] w fun e w'=>∃v',e= .returned v'∧Ym w' v' (canI (Nat.gcd (val a.ds) (val b.ds):Nat))∧Below w.heap.size w w':=by
 have z:=hOl.le;obtain ⟨A,n,c,rfl,hd⟩:=h1.shape;obtain ⟨A',n',c',rfl,v⟩:=h2.shape;obtain ⟨W,hW,hX,hY,hR,d⟩:=Yaj w (.bool a.neg) (.slice A n c) (.bool b.neg) (.slice A' n' c');have d1:=hd.below d;have d2:=v.below d;obtain ⟨G,hG⟩:∃G,G=Nat.gcd (val a.ds) (val b.ds):=⟨_,rfl⟩;rw [← hG];have HG:=JZ hG;clear hG;have p:True:=trivial;go_enter Tryz.func103,Tryz.ntmps103;go_wp2_with fail;clear hW
 go_region_held3 (fun w'=>w'.cell? ⟨w.heap.size,1,none⟩=some (.slice A n c)∧w'.cell? ⟨w.heap.size+1,1,none⟩=some (.slice A' n' c'))
  (first | with_reducible exact ⟨hX.drew.snd,hY.drew.snd⟩ | with_reducible exact ⟨(hX.drew.later f).snd,(hY.drew.later f).snd⟩ | with_reducible exact ⟨((hX.drew.later f).later h).snd,((hY.drew.later f).later h).snd⟩)
  (first
   | (go_at_call 135;have _t:=p;refine (YA _ a.ds _ (d1.keep (ZG.drew _))).mono ?_;clear p _t;rintro e w3 ⟨v3,rfl,e3,rfl⟩;obtain ⟨A3,n3,k3,rfl⟩:=e3.shape)
   | (go_at_call 135;refine (YA _ b.ds _ ((d2.keep (ZG.drew _)).below f)).mono ?_;rintro e w3 ⟨v4,rfl,e4,rfl⟩;obtain ⟨A4,n4,k4,rfl⟩:=e4.shape)
   | (refine V6 rfl (.tmp 15) rfl _ A4 n4 k4 (Zo (val b.ds)) rfl e4 (by omega) ?_;intro v2 w2 o2 h)
   | (refine V6 rfl (.tmp 11) rfl _ A3 n3 k3 (Zo (val a.ds)) rfl e3 (by omega) ?_;intro v1 w1 o1 f))
 have dx:=(Va o1 (Yb _)).below h;have dy:=Va o2 (Yb _);have q:=(hR.drew.later f).later h;have l:=Za d.drew f d.size;have i:=Za l h l.size;clear o1 o2 l f h e3 e4 d1 d2 hd v h1 h2 hX hY hR d;go_wp2
 go_loopg [5,6] (val b.ds) (fun k s t wr=>Yet G w k s t wr)
 case atStart=>exact ⟨_,dx,dy,HG.out.symm,hs,hs2,i,q⟩
 case round=>
  obtain ⟨X,dX,dY,j,y,o,d,hR⟩:=hrel;have r:=JZ j;clear j dx dy i q;obtain ⟨A3,n3,k3,rfl⟩:=dY.shape;obtain ⟨kl,x,B,kc⟩:=dY.len;rcases JV n3 with h0 | h0
  ·have hv:gk=0:=Wh (by omega);have HV:=JZ hv;subst h0;clear hv kl x;go_wp2_with fail;refine (Vs false _ X _ dX (by omega)).mono ?_;rw [show sm false X=(G:Int) by have:=r.out;rw [HV.out,Nat.gcd_zero_right] at this;rw [this];rfl];rintro e w3 ⟨v3,rfl,e3,g⟩;obtain ⟨A1,n1,k1,rfl,_⟩:=e3.shape;have m:=hR.later g;obtain ⟨c0,c1,f0,f1⟩:=m.two;go_wp2;refine Zq Tryz.results103 Tryz.underlying46 (by kernel_rfl) rfl (m.set2 _ _) rfl ?_;exact YH m e3 (Za d g d.size) (by omega)
  ·have hv:gk≠0:=VY (by omega);have HV:=JZ hv;clear hv kl x;go_wp2_with fail;have hc:=UG _ _ (Zo X) (Zo gk) _ dX dY (by rw [Zl];exact HV.out) (by rw [Zl];exact y) o;rw [Zl,Zl] at hc;refine hc.mono ?_;clear hc;rintro e w3 ⟨v3,v4,rfl,d3,d4,g⟩;have u:=Nat.mod_lt X (Nat.pos_of_ne_zero HV.out);go_wp2
   go_roundg (X % gk)
   case measure=>exact u
   case rel=>exact ⟨gk,dY.below g,d4,by rw [← r.out,Nat.gcd_comm X gk,Nat.gcd_rec gk X,Nat.gcd_comm],o,JW (Zv (Nat.le_of_lt u)) o,Za d g d.size,hR.later g⟩
def Zaj (a b:RI):Bool:=(a.neg==b.neg) && decide (a.ds=b.ds)
def Zul [Old] (z:Int) (w:World) (e:Ending) (w':World):Prop:=∃q r,e= .returned (.tuple #[q,r,.int .i64 0])∧Ym w' q (canI z)∧Ym w' r (canI 0)∧Below w.heap.size w w'
theorem Zrj {a b:RI} (h:a.neg=b.neg) (h2:a.ds=b.ds):Zaj a b=true:=by simp [Zaj,h,h2]
theorem Zke {a b:RI} (h:(a.neg==b.neg)=false):Zaj a b=false:=by simp [Zaj,h]
theorem Zcm {a b:RI} (h:a.ds≠b.ds):Zaj a b=false:=by simp [Zaj,h]
theorem Ur {a b:Bool} (h:b=a):Ending.returned (.bool a)= .returned (.bool b):=by rw [h]
theorem Yge {a b:List Nat} {k:Nat} (h:dg a k≠dg b k):a≠b:=fun e=>h (by rw [e])
theorem Ygf {a b:List Nat} (hl:a.length=b.length) (h:∀k,k < a.length→dg a k=dg b k):a=b:=
 U9 hl fun j=>by
  rcases JX j a.length with g | g
  ·exact h j g
  ·rw [Wv g,Wv (by omega)]
theorem Zdv [Old] (v1 v2:Value) (a b:RI) (w:World) (h1:Ym w v1 a) (h2:Ym w v2 b) (hOl:Zb w:=by (repeat (first | assumption | exact Zb.up (by assumption) hOl | exact Zb.up (Hid.out (by assumption)) hOl | with_reducible refine Zb.set ?_ _ _ | with_reducible refine Zb.mk_ ?_ _ | with_reducible refine Zb.dr ?_ | with_reducible refine Zb.drN ?_ | refine Zb.up (by assumption) ?_ | refine Zb.up (Hid.out (by assumption)) ?_))):
 Calls Tryz.prog 65 #[v1,v2] w fun e w'=>e= .returned (.bool (Zaj a b))∧Below w.heap.size w w':=by
 have y:=hOl.le;obtain ⟨A,n,c,rfl,hd⟩:=h1.shape;obtain ⟨A',n',c',rfl,s⟩:=h2.shape;obtain ⟨W,hW,hX,hY,h⟩:=Zuk w (.bool a.neg) (.slice A n c) (.bool b.neg) (.slice A' n' c');have d1:=hd.below h;have d2:=s.below h;obtain ⟨x0,x1,_,_⟩:=hX.two;obtain ⟨y0,y1,_,_⟩:=hY.two;obtain ⟨hl,l,z,hc⟩:=hd.len;obtain ⟨kl,p,B,kc⟩:=s.len;by_cases m:(a.neg==b.neg)=true
 ·have hb:(a.neg !=b.neg)=false:=by simpa [bne] using m
  have t:=JZ (beq_iff_eq.1 m);clear m;by_cases hn:n=n'
  ·have r:((n:Int) !=(n':Int))=false:=(by simp;omega);subst hn;have HL:Hid (a.ds.length=n∧b.ds.length=n):=JZ ⟨by omega,by omega⟩;clear hl l kl p r;go_enter Tryz.func65,Tryz.ntmps65;go_wp2;clear hW hb
   go_loopw [5] (fun i wr=>∃(k q:Nat),k≤n∧i= .int .i64 k∧wr=W.drewN q∧∀j,j < k→dg a.ds j=dg b.ds j) (fun i _=>n - (intOf i).toNat)
   case atStart=>exact ⟨0,0,by omega,rfl,rfl,fun j hj=>by omega⟩
   case round=>
    obtain ⟨k,q,hk,rfl,rfl,hz⟩:=hrel;have HZ:=JZ hz;clear hz;rcases JX k n with hkl | hkl
    ·obtain ⟨b1,v,rfl,_,f⟩:=d1.at_ (by omega);obtain ⟨b2,x,rfl,_,g⟩:=d2.at_ (by omega);have hx:=f k hkl;have hy:=g k hkl;clear f g;by_cases d:dg a.ds k=dg b.ds k
     ·have u:(di a.ds k !=di b.ds k)=false:=(by simp [di,d]);have o:=JZ d;clear d;go_wp2
      go_quiet (fail)
      go_wp2;go_roundw
      case rel=>exact ⟨k+1,q+nq,by omega,by go_num,by rfl,fun j hj=>by
       rcases Nat.eq_or_lt_of_le (Nat.le_of_lt_succ hj) with e | e
       ·subst e;exact o.out
       ·exact HZ.out j e⟩
      case measure=>simp [intOf];omega
     ·have u:(di a.ds k !=di b.ds k)=true:=(by simp [di];omega);have o:=JZ d;clear d;go_wp2
      go_quiet (fail)
      go_wp2;go_ret;exact ⟨Ur (Zcm (Yge o.out)),below_drewN (below_drewN h _) _⟩
    ·go_wp2;go_ret;exact ⟨Ur (Zrj t.out (Ygf (by rw [HL.out.1,HL.out.2]) fun j hj=>HZ.out j (by have:=HL.out.1;omega))),below_drewN h _⟩
  ·have r:((n:Int) !=(n':Int))=true:=(by simp;omega);have HL:Hid (a.ds≠b.ds):=JZ fun e=>hn (by rw [e] at hl l;omega)
   clear hl l kl p hn;go_enter Tryz.func65,Tryz.ntmps65;go_wp2;go_ret;exact ⟨Ur (Zcm HL.out),hW▸h⟩
 ·obtain ⟨na,da⟩:=a;obtain ⟨nb,db⟩:=b;simp only at *;have d:(na=true∧nb=false)∨(na=false∧nb=true):=by cases na <;> cases nb <;> simp_all
  clear m hl l kl p;rcases d with ⟨rfl,rfl⟩ | ⟨rfl,rfl⟩;all_goals
   go_enter Tryz.func65,Tryz.ntmps65;go_wp2;go_ret;exact ⟨Ur (Zke rfl),hW▸h⟩
namespace Pl
theorem Zyn {x y:Int} (hy:y≠0) (h:y∣x):sm (decide (x < 0) !=decide (y < 0)) (x.natAbs / y.natAbs)=x / y∧x.natAbs % y.natAbs=0:=by
 obtain ⟨k,rfl⟩:=h;rw [Int.natAbs_mul,Nat.mul_div_cancel_left _ (by omega),Int.mul_ediv_cancel_left _ hy,Nat.mul_mod_right];refine ⟨?_,rfl⟩;rcases Int.lt_or_gt_of_ne hy with h | h <;> rcases Int.lt_trichotomy k 0 with g | g | g
 ·have:=Int.mul_pos_of_neg_of_neg h g;rw [decide_eq_false (by omega),decide_eq_true h];simp [sm];omega
 ·subst g;simp [sm]
 ·have:=Int.mul_neg_of_neg_of_pos h g;rw [decide_eq_true this,decide_eq_true h];simp [sm];omega
 ·have:=Int.mul_neg_of_pos_of_neg h g;rw [decide_eq_true this,decide_eq_false (by omega)];simp [sm];omega
 ·subst g;simp [sm]
 ·have:=Int.mul_pos h g;rw [decide_eq_false (by omega),decide_eq_false (by omega)];simp [sm];omega
end Pl
def Yeu [Old] (x y:Int) (w:World) (wx:World) (A A':Option Addr) (n c n' c':Nat):Prop:=
 Yes x y w wx A A' n c n' c'∧Bk wx (w.heap.size+1+1) 46 [.bool false,.slice none 0 0]∧Bk wx (w.heap.size+1+1+1) 46 [.bool false,.slice none 0 0]
theorem Ym.zero_len [Old] {w:World} {b:Bool} {A:Option Addr} {n c:Nat} (h:Ym w (.agg #[.bool b,.slice A n c]) (canI 0)):n=0:=by
 obtain ⟨d,_⟩:=h.dig;have:=d.len;rw [canI_zero] at this;simp at this;omega
theorem size_drew (w:World):w.drew.heap.size=w.heap.size:=rfl
theorem Wy {w w':World} (h:Below w.heap.size w w') (o:Obj):Below w.heap.size w (w'.alloc o):=h.alloc h.size o
theorem YU {w w1 w2:World} (h:Below w.heap.size w w1) (h2:Below w1.heap.size w1 w2):Below w.heap.size w w2:=Za h h2 h.size
theorem Vu {w w':World} (h:Below w.heap.size w w'):Below w.heap.size w w'.drew:=h.drew
theorem Zmy {w w':World} (h:Below w.heap.size w w') {g:Nat} (hg:w.heap.size≤g) (k:Nat) (u:Value):Below w.heap.size w (w'.setCell ⟨g,k,none⟩ u):=h.setCell hg u
theorem Zga [Old] {w w':World} (h:ZG w w') (o:Obj):ZG w (w'.alloc o):=h.trans (ZG.alloc _ _)
theorem Zkf [Old] {w w1 w2:World} (h:ZG w w1) (h2:Below w1.heap.size w1 w2):ZG w w2:=h.trans (ZG.of_below h2)
theorem Zkg [Old] {w w':World} {g:Nat} {t:TypeId} {x y:Value} (h:ZG w w') (hb:Bk w' g t [x,y]) (ht:t≠123) (c d:Value) (hg:Old.n≤g:=by first | assumption | exact Nat.zero_le _ | omega | ((first | with_reducible refine Zb.le ?_ | with_reducible refine Zb.le1 ?_ | with_reducible refine Zb.le2 ?_ | with_reducible refine Zb.le3 ?_);repeat (first | assumption | exact Zb.up (by assumption) hOl | exact Zb.up (Hid.out (by assumption)) hOl | with_reducible refine Zb.set ?_ _ _ | with_reducible refine Zb.mk_ ?_ _ | with_reducible refine Zb.dr ?_ | with_reducible refine Zb.drN ?_ | refine Zb.up (by assumption) ?_ | refine Zb.up (Hid.out (by assumption)) ?_))):ZG w ((w'.setCell ⟨g,0,none⟩ c).setCell ⟨g,1,none⟩ d):=h.trans (hb.keep2 ht c d hg)
theorem Zhp (w:World) (a b:Addr) (u v:Value):w.heap.size=((w.setCell a u).setCell b v).heap.size:=by simp
theorem Bk.made {w:World} {g:Nat} {t:TypeId} {cs:List Value} (h:g=w.heap.size):Bk (w.alloc (.cells cs.toArray t)) g t cs:=by subst h;exact Bk.new w t cs
theorem Bk.on {w w':World} {g:Nat} {t:TypeId} {cs:List Value} (h:Bk w g t cs) (hb:Below w.heap.size w w'):Bk w' g t cs:=h.later hb
theorem Zak [Old] (v1 v2:Value) (a b:RI) (w:World) (h1:Ym w v1 a) (h2:Ym w v2 b) (hs:(Zo (val a.ds)).length≤137438953472) (hs2:(Zo (val b.ds)).length≤137438953472) (hz:b.z≠0) (hdv:b.z∣a.z) (hOl:Zb w:=by (repeat (first | assumption | exact Zb.up (by assumption) hOl | exact Zb.up (Hid.out (by assumption)) hOl | with_reducible refine Zb.set ?_ _ _ | with_reducible refine Zb.mk_ ?_ _ | with_reducible refine Zb.dr ?_ | with_reducible refine Zb.drN ?_ | refine Zb.up (by assumption) ?_ | refine Zb.up (Hid.out (by assumption)) ?_))):
 Calls Tryz.prog 104 #[v1,v2] w (Zul (a.z / b.z) w):=by
 have b3:=hOl.le;obtain ⟨A,n,c,rfl,hd⟩:=h1.shape;obtain ⟨A',n',c',rfl,a7⟩:=h2.shape;obtain ⟨W,hW,hX,hY,hR,F,i⟩:=Yam w (.bool a.neg) (.slice A n c) (.bool b.neg) (.slice A' n' c');have i1:=h1.below i;have i2:=h2.below i;have I:w.heap.size≠w.heap.size+1:=by omega
 have J:w.heap.size+1+1≠w.heap.size:=by omega
 have K:w.heap.size+1+1≠w.heap.size+1:=by omega
 have L:w.heap.size+1+1+1≠w.heap.size:=by omega
 have M:w.heap.size+1+1+1≠w.heap.size+1:=by omega
 have l:True:=trivial;have HS:=JZ (Zyn hz hdv);have u:=JZ hz;have la:(Zo a.z.natAbs).length≤137438953472:=by rw [Z5];exact hs
 have lb:(Zo b.z.natAbs).length≤137438953472:=by rw [Z5];exact hs2
 obtain ⟨x0,x1,f0,f1⟩:=hX.two;obtain ⟨y0,y1,k0,k1⟩:=hY.two;clear hz hdv;go_enter Tryz.func104,Tryz.ntmps104;go_wp2_with fail;clear hW
 go_upto_region 1 with (fail)
 go_cut [] (fun wx=>∃(A A':Option Addr) (n c n' c':Nat),Yeu a.z b.z w wx A A' n c n' c')
 case first=>
  go_region_with (first
   | (go_at_call 105;have _t:=l;refine (Uq _ a _ (i1.keep (ZG.drew _)) (by omega)).mono ?_;clear l _t;rintro e w6 ⟨v6,rfl,e6,f⟩;obtain ⟨A6,n6,k6,rfl,_⟩:=e6.shape;obtain ⟨b7,b8,_,_⟩:=(hY.drew.later f).two)
   | (go_at_call 105;refine (Uq _ b _ ((i2.keep (ZG.drew _)).below f) (by omega)).mono ?_;rintro e w7 ⟨v7,rfl,e7,g⟩;obtain ⟨A7,n7,k7,rfl,_⟩:=e7.shape;obtain ⟨c0,c1,r0,r1⟩:=((hX.drew.later f).later g).two;obtain ⟨a8,a9,b9,ba⟩:=((hY.drew.later f).later g).two))
  all_goals
   go_wp2_with fail
   go_meet
   obtain ⟨a1,a2,a3,a4,a5⟩:=Y5 ((hX.drew.later f).later g) ((hY.drew.later f).later g) I (e6.below g) e7 (Za (Za i.drew f i.size) g (JW i.size f.size)) (by omega) (by omega);exact ⟨A6,A7,n6,k6,n7,k7,⟨a1,a2,a3.dig.1,a4.dig.1,a5⟩,(((hR.drew.later f).later g).far2 J _ _).far2 K _ _,(((F.drew.later f).later g).far2 L _ _).far2 M _ _⟩
 case rest=>
  obtain ⟨B,B',m,d,m',d',⟨bX,bY,dX,dY,be⟩,bR,G⟩:=hcut;clear x0 x1 f0 f1 y0 y1 k0 k1 hX hY i i1 i2 h1 h2 hd a7 hR F hs hs2;obtain ⟨x0,x1,_,_⟩:=bX.two;obtain ⟨y0,y1,_,_⟩:=bY.two;obtain ⟨kl,aa,ab,kc⟩:=dY.len;have b4:0 < m':=by
   have:=Y3 (n:=b.z.natAbs) (by have:=u.out;omega);omega
  have N:((m':Int)==0)=false:=by simp;omega
  clear kl aa ab kc;go_wp2_with fail;have hc:=UG _ _ _ _ _ dX dY (by rw [Zl];have:=u.out;omega) (by rw [Zl];exact la) lb;rw [Zl,Zl] at hc;refine hc.mono ?_;clear hc;rintro e w3 ⟨v3,v4,rfl,d3,d4,j⟩;rw [HS.out.2] at d4;have q:=bX.later j;have r:=bY.later j;have v:=bR.later j;have k:=G.later j;have s:=Za be j be.size;have lq:(Zo (a.z.natAbs / b.z.natAbs)).length≤549755813888:=JW (Zv (Nat.div_le_self _ _)) (by omega);have l0:(Zo 0).length≤549755813888:=by rw [digs_zero];decide
  clear bX bY bR G be dX dY j x0 x1 y0 y1 N;go_wp2_with fail
  go_upto_region 5 with (fail)
  go_cut [9,10] (fun s9 s10 wx=>∃(g9 h:Nat) (A6 A7:Option Addr) (n6 k6 n7 k7:Nat) (nb o:Bool),s9= .pointer (some ⟨g9,0,none⟩)∧s10= .pointer (some ⟨h,0,none⟩)∧Bk wx g9 46 [.bool nb,.slice A6 n6 k6]∧Bk wx h 46 [.bool o,.slice A7 n7 k7]∧Ym wx (.agg #[.bool nb,.slice A6 n6 k6]) (canI (a.z / b.z))∧Ym wx (.agg #[.bool o,.slice A7 n7 k7]) (canI 0)∧Below w3.heap.size w3 wx∧w3.heap.size≤g9∧w3.heap.size≤h)
  case first=>
   go_region_held3 (fun w'=>w'.cell? ⟨w.heap.size,0,none⟩=some (.bool (decide (a.z < 0)))∧w'.cell? ⟨w.heap.size+1,0,none⟩=some (.bool (decide (b.z < 0))))
    (exact ⟨(q.later (by (repeat (first | (with_reducible exact JR _ _) | (with_reducible refine Wy ?_ _) | (with_reducible refine Vu ?_) | (with_reducible refine YU ?_ g) | (with_reducible refine YU ?_ f) | (with_reducible refine Zmy ?_ (by first | omega | (simp;omega)) _ _))))).two.1,(r.later (by (repeat (first | (with_reducible exact JR _ _) | (with_reducible refine Wy ?_ _) | (with_reducible refine Vu ?_) | (with_reducible refine YU ?_ g) | (with_reducible refine YU ?_ f) | (with_reducible refine Zmy ?_ (by first | omega | (simp;omega)) _ _))))).two.1⟩)
    (first
     | (go_at_call 106;have _t:=l;refine (Vs _ _ _ _ (d3.below (by (repeat (first | (with_reducible exact JR _ _) | (with_reducible refine Wy ?_ _) | (with_reducible refine Vu ?_) | (with_reducible refine YU ?_ g) | (with_reducible refine YU ?_ f))))) lq).mono ?_;clear l _t;rintro e w6 ⟨v6,rfl,e6,f⟩;obtain ⟨A6,n6,k6,rfl,_⟩:=e6.shape;have s6:w3.heap.size≤w6.heap.size:=(by have:=f.size;first | exact this | omega | (simp at this;omega));(try ((first | (with_reducible have bA:=Bk.on (Bk.made (cs:=[.bool false,.slice none 0 0]) rfl) f) | (with_reducible have bA:=Bk.on (Bk.drew (Bk.made (cs:=[.bool false,.slice none 0 0]) rfl)) f));obtain ⟨ac,ad,ae,af⟩:=bA.two;have O:=bA.lt;(try simp only [size_alloc,size_drew] at ac ad ae af O)));(try ((first | (with_reducible have bB:=Bk.on (Bk.alloc (Bk.made (cs:=[.bool false,.slice none 0 0]) rfl) _) f) | (with_reducible have bB:=Bk.on (Bk.drew (Bk.alloc (Bk.made (cs:=[.bool false,.slice none 0 0]) rfl) _)) f));obtain ⟨ag,ah,ai,aj⟩:=bB.two;have P:=bB.lt;(try simp only [size_alloc,size_drew] at ag ah ai aj P))))
     | (go_at_call 106;refine (Vs _ _ _ _ (d4.below (by (repeat (first | (with_reducible exact JR _ _) | (with_reducible refine Wy ?_ _) | (with_reducible refine Vu ?_) | (with_reducible refine YU ?_ g) | (with_reducible refine YU ?_ f))))) l0).mono ?_;rw [Zbs];rintro e w7 ⟨v7,rfl,e7,g⟩;obtain ⟨A7,n7,k7,rfl,_⟩:=e7.shape;have s7:w6.heap.size≤w7.heap.size:=(by have:=g.size;first | exact this | omega | (simp at this;omega));(try ((with_reducible have bC:=Bk.on (Bk.made (cs:=[.bool false,.slice none 0 0]) rfl) g);obtain ⟨ak,al,am,an⟩:=bC.two;have R:=bC.lt;(try simp only [size_alloc,size_drew] at ak al am an R)));(try ((with_reducible have bD:=Bk.on (Bk.alloc (Bk.made (cs:=[.bool false,.slice none 0 0]) rfl) _) g);obtain ⟨ao,ap,aq,ar⟩:=bD.two;have S:=bD.lt;(try simp only [size_alloc,size_drew] at ao ap aq ar S)));(try (have bE:=bA.on (show Below w6.heap.size w6 w7 from by (repeat (first | (with_reducible exact JR _ _) | (with_reducible refine Wy ?_ _) | (with_reducible refine Vu ?_) | (with_reducible refine YU ?_ g) | (with_reducible refine YU ?_ f))));obtain ⟨au,av,aw,ax⟩:=bE.two;have T:=bE.lt;(try simp only [size_alloc,size_drew] at au av aw ax T)));(try (have bF:=bB.on (show Below w6.heap.size w6 w7 from by (repeat (first | (with_reducible exact JR _ _) | (with_reducible refine Wy ?_ _) | (with_reducible refine Vu ?_) | (with_reducible refine YU ?_ g) | (with_reducible refine YU ?_ f))));obtain ⟨ay,az,b0,b1⟩:=bF.two;have U:=bF.lt;(try simp only [size_alloc,size_drew] at ay az b0 b1 U)))))
   all_goals
    go_wp2_with fail
    go_meet
    have hq:canI (a.z / b.z)=canI (sm (!decide (a.z < 0)==decide (b.z < 0)) (a.z.natAbs / b.z.natAbs)):=(by rw [← HS.out.1];rfl);rw [hq];clear hq;refine ⟨_,_,A6,A7,n6,k6,n7,k7,_,_,rfl,rfl,?_,?_,e6.keep ?_,e7.keep ?_,?_,by omega,by omega⟩
    ·(repeat (first | (with_reducible exact Bk.made rfl) | (with_reducible exact Bk.made (size_alloc _ _).symm) | (with_reducible exact Bk.made (Zhp _ _ _ _ _)) | (with_reducible refine Bk.set2 (a:= .bool false) (b:= .slice none 0 0) ?_ _ _) | (with_reducible refine Bk.far2 ?_ (by first | omega | (simp;omega)) _ _) | (with_reducible refine Bk.alloc ?_ _) | (with_reducible refine Bk.drew ?_) | (with_reducible refine Bk.on ?_ g) | (with_reducible refine Bk.on ?_ f)))
    ·(repeat (first | (with_reducible exact Bk.made rfl) | (with_reducible exact Bk.made (size_alloc _ _).symm) | (with_reducible exact Bk.made (Zhp _ _ _ _ _)) | (with_reducible refine Bk.set2 (a:= .bool false) (b:= .slice none 0 0) ?_ _ _) | (with_reducible refine Bk.far2 ?_ (by first | omega | (simp;omega)) _ _) | (with_reducible refine Bk.alloc ?_ _) | (with_reducible refine Bk.drew ?_) | (with_reducible refine Bk.on ?_ g) | (with_reducible refine Bk.on ?_ f)))
    ·(repeat (first | (with_reducible exact ZG.refl _) | (with_reducible refine Zga ?_ _) | (with_reducible refine Zkf ?_ g) | with_reducible refine Zkg (t:=46) (x:= .bool false) (y:= .slice none 0 0) ?_ (by (repeat (first | (with_reducible exact Bk.made rfl) | (with_reducible exact Bk.made (size_alloc _ _).symm) | (with_reducible exact Bk.made (Zhp _ _ _ _ _)) | (with_reducible refine Bk.set2 (a:= .bool false) (b:= .slice none 0 0) ?_ _ _) | (with_reducible refine Bk.far2 ?_ (by first | omega | (simp;omega)) _ _) | (with_reducible refine Bk.alloc ?_ _) | (with_reducible refine Bk.drew ?_) | (with_reducible refine Bk.on ?_ g) | (with_reducible refine Bk.on ?_ f)))) (by decide) _ _))
    ·(repeat (first | (with_reducible exact ZG.refl _) | (with_reducible refine Zga ?_ _) | (with_reducible refine Zkf ?_ g) | with_reducible refine Zkg (t:=46) (x:= .bool false) (y:= .slice none 0 0) ?_ (by (repeat (first | (with_reducible exact Bk.made rfl) | (with_reducible exact Bk.made (size_alloc _ _).symm) | (with_reducible exact Bk.made (Zhp _ _ _ _ _)) | (with_reducible refine Bk.set2 (a:= .bool false) (b:= .slice none 0 0) ?_ _ _) | (with_reducible refine Bk.far2 ?_ (by first | omega | (simp;omega)) _ _) | (with_reducible refine Bk.alloc ?_ _) | (with_reducible refine Bk.drew ?_) | (with_reducible refine Bk.on ?_ g) | (with_reducible refine Bk.on ?_ f)))) (by decide) _ _))
    ·(repeat (first | (with_reducible exact JR _ _) | (with_reducible refine Wy ?_ _) | (with_reducible refine Vu ?_) | (with_reducible refine YU ?_ g) | (with_reducible refine YU ?_ f) | (with_reducible refine Zmy ?_ (by first | omega | (simp;omega)) _ _)))
  case rest=>
   obtain ⟨g9,h,A6,A7,n6,k6,n7,k7,nb,o,rfl,rfl,bQ,bE,iQ,iE,f,b2,H⟩:=hcut;have V:=k.lt;have X:=iE.zero_len;subst X;have b5:=q.later f;have b6:=r.later f;have C:=v.later f;have p:=k.later f;have Y:=Za s f s.size;clear q r v k s f d3 d4 HS;obtain ⟨q0,q1,_,_⟩:=bQ.two;obtain ⟨r0,r1,_,_⟩:=bE.two;obtain ⟨c0,c1,f0,f1⟩:=C.two;obtain ⟨a8,a9,bb,bc⟩:=p.two;have D:w.heap.size+1+1≠g9:=(by omega);have E:w.heap.size+1+1≠h:=(by omega);have Z:w.heap.size+1+1+1≠g9:=(by omega);have a0:w.heap.size+1+1+1≠h:=(by omega);have a6:w.heap.size+1+1≠w.heap.size+1+1+1:=(by omega);clear V b2 H;go_wp2
   go_region_held3 (fun w'=>(w'.cell? ⟨g9,0,none⟩=some (.bool nb)∧w'.cell? ⟨g9,1,none⟩=some (.slice A6 n6 k6))∧(w'.cell? ⟨h,0,none⟩=some (.bool o)∧w'.cell? ⟨h,1,none⟩=some (.slice A7 0 k7)))
    (first | with_reducible exact ⟨bQ.drew.pair,bE.drew.pair⟩ | with_reducible exact ⟨(bQ.far2 (Ne.symm D) _ _).drew.pair,(bE.far2 (Ne.symm E) _ _).drew.pair⟩ | with_reducible exact ⟨((bQ.far2 (Ne.symm D) _ _).far2 (Ne.symm Z) _ _).drew.pair,((bE.far2 (Ne.symm E) _ _).far2 (Ne.symm a0) _ _).drew.pair⟩)
    (fail)
   go_wp2;obtain ⟨a1,a2,a3,a4,a5⟩:=Y5 C.drew p.drew a6 (iQ.keep (ZG.drew _)) (iE.keep (ZG.drew _)) Y.drew (by omega) (by omega);refine X5 Tryz.results104 Tryz.underlying46 Tryz.underlying46 (by kernel_rfl) (by kernel_rfl) rfl rfl a1 a2 rfl ?_;exact ⟨_,_,rfl,a3,a4,a5⟩
def XZ [Old] (base:Nat) (w:World) (v:Value) (f:RF):Prop:=Zt w v f∧∃b s b' s',v= .agg #[b,s,b',s']∧w.ownsRow base 123 1 s f.num.ds.length (f.num.ds.map uc)
theorem XZ.keep [Old] {base:Nat} {w w':World} {v:Value} {f:RF} (h:XZ base w v f) (hk:ZG w w'):XZ base w' v f:=by
 obtain ⟨h0,b,s,b',s',h1,h2⟩:=h;exact ⟨h0.keep hk,b,s,b',s',h1,Zpc h2 hk⟩
theorem XZ.below [Old] {base:Nat} {w w':World} {v:Value} {f:RF} (h:XZ base w v f) (hb:Below w.heap.size w w'):XZ base w' v f:=h.keep (ZG.of_below hb)
theorem XZ.mono [Old] {base base':Nat} {w:World} {v:Value} {f:RF} (h:XZ base w v f) (hb:base'≤base):XZ base' w v f:=by
 obtain ⟨h0,b,s,b',s',h1,h2⟩:=h;exact ⟨h0,b,s,b',s',h1,Zpd h2 hb⟩
theorem XZ.mk [Old] {base:Nat} {w:World} {b b' s s':Value} {x y:RI} (h1:Zfn base w (.agg #[b,s]) x) (h2:Ym w (.agg #[b',s']) y):XZ base w (.agg #[b,s,b',s']) ⟨x,y⟩:=by
 obtain ⟨A,n,c,e,d⟩:=h1.int.shape;obtain ⟨A',n',c',e',d'⟩:=h2.shape;simp at e e';obtain ⟨rfl,rfl⟩:=e;obtain ⟨rfl,rfl⟩:=e';obtain ⟨t,e,o,_⟩:=h1;simp at e;subst e;exact ⟨⟨_,_,_,_,_,_,rfl,d,d'⟩,_,_,_,_,rfl,o⟩
theorem XD [Old] {w w2:World} {base m g:Nat} {x y z u b s b' s':Value} {a:RF} (hR:Bk w2 g 48 [x,y,z,u]) (d:XZ base w2 (.agg #[b,s,b',s']) a) (hbe:Below m w w2) (hg:m≤g) (hO:Old.n≤m:=by first | assumption | exact Nat.zero_le _ | omega | ((first | with_reducible refine Zb.le ?_ | with_reducible refine Zb.le1 ?_ | with_reducible refine Zb.le2 ?_ | with_reducible refine Zb.le3 ?_);repeat (first | assumption | exact Zb.up (by assumption) hOl | exact Zb.up (Hid.out (by assumption)) hOl | with_reducible refine Zb.set ?_ _ _ | with_reducible refine Zb.mk_ ?_ _ | with_reducible refine Zb.dr ?_ | with_reducible refine Zb.drN ?_ | refine Zb.up (by assumption) ?_ | refine Zb.up (Hid.out (by assumption)) ?_))):
 ∃v',Ending.returned (.agg [b,s,b',s'].toArray)= .returned v'∧XZ base ((((w2.setCell ⟨g,0,none⟩ b).setCell ⟨g,1,none⟩ s).setCell ⟨g,2,none⟩ b').setCell ⟨g,3,none⟩ s') v' a∧Below m w ((((w2.setCell ⟨g,0,none⟩ b).setCell ⟨g,1,none⟩ s).setCell ⟨g,2,none⟩ b').setCell ⟨g,3,none⟩ s'):=
 ⟨_,rfl,d.keep (hR.keep4 (by decide) _ _ _ _),ZE hbe hg _ _ _ _⟩
namespace Pl
theorem canF_zero:canF 0=⟨canI 0,canI 1⟩:=by
 unfold canF;rfl
theorem Ygg (x y:RI):Nat.gcd (val x.ds) (val y.ds)=Int.gcd x.z y.z:=by
 unfold Int.gcd;rw [Z5,Z5]
end Pl
def NewAt [Old] (a b:RI) (w:World) (x y:RI) (wx:World) (B B':Option Addr) (m d m' d':Nat):Prop:=
 Bk wx w.heap.size 46 [.bool x.neg,.slice B m d]∧Bk wx (w.heap.size+1) 46 [.bool y.neg,.slice B' m' d']∧Bk wx (w.heap.size+1+1) 48 [.bool false,.slice none 0 0,.bool false,.slice none 0 0]∧Below w.heap.size w wx∧
 Ym wx (.agg #[.bool x.neg,.slice B m d]) x∧Ym wx (.agg #[.bool y.neg,.slice B' m' d']) y∧0 < y.z∧Rat.divInt x.z y.z=Rat.divInt a.z b.z∧(Zo (val x.ds)).length≤137438953472∧(Zo (val y.ds)).length≤137438953472
theorem Us [Old] (v1 v2:Value) (a b:RI) (w:World) (h1:Ym w v1 a) (h2:Ym w v2 b) (hs:(Zo (val a.ds)).length≤137438953472) (hs2:(Zo (val b.ds)).length≤137438953472) (hOl:Zb w:=by (repeat (first | assumption | exact Zb.up (by assumption) hOl | exact Zb.up (Hid.out (by assumption)) hOl | with_reducible refine Zb.set ?_ _ _ | with_reducible refine Zb.mk_ ?_ _ | with_reducible refine Zb.dr ?_ | with_reducible refine Zb.drN ?_ | refine Zb.up (by assumption) ?_ | refine Zb.up (Hid.out (by assumption)) ?_))):
 Calls Tryz.prog 67 #[v1,v2] w fun e w'=>∃v',e= .returned v'∧XZ w.heap.size w' v' (canF (Rat.divInt a.z b.z))∧Below w.heap.size w w':=by
 have bu:=hOl.le;obtain ⟨A,n,c,rfl,hd⟩:=h1.shape;obtain ⟨A',n',c',rfl,bt⟩:=h2.shape;obtain ⟨W,hW,hX,bb,hR,N⟩:=Ygb w (.bool a.neg) (.slice A n c) (.bool b.neg) (.slice A' n' c');have e1:=h1.below N;have e2:=h2.below N;clear hd bt h1 h2;go_enter Tryz.func67,Tryz.ntmps67;go_wp2_with fail;clear hW;refine (Vd 1 _ (by omega) (by omega)).mono ?_;rintro e w0 ⟨v0,rfl,iO,aq⟩;obtain ⟨A0,n0,k0,rfl,_⟩:=iO.shape;have bO:=Bk.new w0 46 [.bool (canI 1).neg,.slice A0 n0 k0];have bn:=Zc w0 (.cells [.bool (canI 1).neg,.slice A0 n0 k0].toArray 46);have h:=Za aq bn aq.size;have ar:=hX.later h;have H:=bb.later h;have au:=hR.later h;have I:=Za N h N.size;have av:=e1.below h;have Z:=e2.below h;have aw:=iO.below bn;obtain ⟨y0,y1,_,_⟩:=H.two;clear hX bb hR N e1 e2 aq h bn iO;generalize bh:canI 1=T at *;have V:=JZ bh;clear bh;go_wp2_with fail;generalize w0.alloc _=W0 at *;refine (Zai _ b _ Z (by omega)).mono ?_;rintro e w1 ⟨rfl,k⟩;have a0:=ar.later k;have X:=H.later k;have C:=au.later k;have a6:=bO.later k;have a7:=aw.below k;have u:=Za I k I.size;have a8:=av.below k;have ax:=Z.below k;clear ar H au I av Z k y0 y1 bO aw;have i:∀(W:World),Bk W (w.heap.size+1+1) 48 [.bool false,.slice none 0 0,.bool false,.slice none 0 0]→Ym W (.agg #[.bool T.neg,.slice A0 n0 k0]) T→Below w.heap.size w W→Rat.divInt a.z b.z=0→
  ∃v',Ending.returned (.agg [.bool false,.slice none 0 0,.bool T.neg,.slice A0 n0 k0].toArray)= .returned v'∧XZ w.heap.size ((((W.setCell ⟨w.heap.size+1+1,0,none⟩ (.bool false)).setCell ⟨w.heap.size+1+1,1,none⟩ (.slice none 0 0)).setCell ⟨w.heap.size+1+1,2,none⟩ (.bool T.neg)).setCell ⟨w.heap.size+1+1,3,none⟩ (.slice A0 n0 k0)) v' (canF (Rat.divInt a.z b.z))∧Below w.heap.size w ((((W.setCell ⟨w.heap.size+1+1,0,none⟩ (.bool false)).setCell ⟨w.heap.size+1+1,1,none⟩ (.slice none 0 0)).setCell ⟨w.heap.size+1+1,2,none⟩ (.bool T.neg)).setCell ⟨w.heap.size+1+1,3,none⟩ (.slice A0 n0 k0)):=by
  intro W hR hI hb hz;refine XD hR ?_ hb (by omega);rw [hz,canF_zero,V.out];exact XZ.mk (Zfn.zero _ _) hI
 have a9:=JZ i;clear i;by_cases R:b.z=0
 ·have ay:sgn b.z=0:=by rw [R,sgn_zero]
  have HZ:Hid (Rat.divInt a.z b.z=0):=JZ (by rw [R,Rat.divInt_zero]);clear R;obtain ⟨o0,o1,_,_⟩:=a6.two;obtain ⟨c0,c1,c2,c3⟩:=C.four;obtain ⟨f0,f1,f2,f3⟩:=C.fourF;go_wp2;refine Zq Tryz.results67 Tryz.underlying48 (by kernel_rfl) rfl (C.set4 _ _ _ _) rfl ?_;exact a9.out _ C a7 u HZ.out
 ·have ay:(sgn b.z==0)=false:=by unfold sgn;split;rfl;rfl
  have HB:=JZ R;clear R;obtain ⟨x0,x1,_,_⟩:=a0.two;go_wp2_with fail;refine (Zai _ a _ a8 (by omega)).mono ?_;rintro e w2 ⟨rfl,l⟩;have az:=a0.later l;have J:=X.later l;have D:=C.later l;have b0:=a6.later l;have b1:=a7.below l;have v:=Za u l u.size;have b2:=a8.below l;have aa:=ax.below l;clear a0 X C u a8 ax l a6 a7 x0 x1;by_cases S:a.z=0
  ·have b3:sgn a.z=0:=(by rw [S,sgn_zero]);have HZ:Hid (Rat.divInt a.z b.z=0):=JZ (by rw [S,Rat.zero_divInt]);clear S;obtain ⟨o0,o1,_,_⟩:=b0.two;obtain ⟨c0,c1,c2,c3⟩:=D.four;obtain ⟨f0,f1,f2,f3⟩:=D.fourF;go_wp2;refine Zq Tryz.results67 Tryz.underlying48 (by kernel_rfl) rfl (D.set4 _ _ _ _) rfl ?_;exact a9.out _ D b1 v HZ.out
  ·have b3:(sgn a.z==0)=false:=(by unfold sgn;split;rfl;rfl);have HA:=JZ S;clear S b0 b1 a9 V;obtain ⟨y0,y1,_,_⟩:=J.two;go_wp2_with fail;refine (Zai _ b _ aa (by omega)).mono ?_;rintro e w3 ⟨rfl,t⟩;have K:=az.later t;have j:=J.later t;have ab:=D.later t;have o:=Za v t v.size;have ac:=b2.below t;have ad:=aa.below t;clear az J D v b2 aa t y0 y1 ay b3;have E:True:=trivial
   go_upto_if 26 with (fail)
   go_cut [2,3] (fun s2 s3 wx=>s2= .pointer (some ⟨w.heap.size,0,none⟩)∧s3= .pointer (some ⟨w.heap.size+1,0,none⟩)∧∃(x y:RI) (B B':Option Addr) (m d m' d':Nat),NewAt a b w x y wx B B' m d m' d')
   case first=>
    rcases Int.lt_or_le b.z 0 with hz | hz
    ·have HN:=JZ hz;have b4:sgn b.z= -1:=VX hz;have bk:w.heap.size≠w.heap.size+1:=(by omega);have bl:w.heap.size+1+1≠w.heap.size:=(by omega);have bm:w.heap.size+1+1≠w.heap.size+1:=(by omega);clear hz;obtain ⟨x0,x1,f0,f1⟩:=K.two;obtain ⟨y0,y1,k0,k1⟩:=j.two;go_wp2_with fail;clear b4
     go_region_with (first
      | (go_at_call 99;have _t:=E;refine (UQ _ a _ (ac.keep (ZG.drew _)) (by omega)).mono ?_;clear E _t;rintro e w6 ⟨v6,rfl,e6,f⟩;obtain ⟨A6,n6,k6,rfl,_⟩:=e6.shape;obtain ⟨bx,bz,_,_⟩:=(j.drew.later f).two)
      | (go_at_call 99;refine (UQ _ b _ ((ad.keep (ZG.drew _)).below f) (by omega)).mono ?_;rintro e w7 ⟨v7,rfl,e7,g⟩;obtain ⟨A7,n7,k7,rfl,_⟩:=e7.shape;obtain ⟨c0,c1,r0,r1⟩:=((K.drew.later f).later g).two;obtain ⟨c4,c5,c6,c7⟩:=((j.drew.later f).later g).two))
     all_goals
      go_wp2_with fail
      go_meet
      obtain ⟨a1,a2,a3,a4,a5⟩:=Y5 ((K.drew.later f).later g) ((j.drew.later f).later g) bk (e6.below g) e7 (Za (Za o.drew f o.size) g (JW o.size f.size)) (by omega) (by omega);refine ⟨rfl,rfl,_,_,A6,A7,n6,k6,n7,k7,a1,a2,((((ab.drew.later f).later g).far2 bl _ _).far2 bm _ _),a5,a3,a4,?_,?_,?_,?_⟩
      ·rw [ZL];have:=HN.out;omega
      ·rw [ZL,ZL,Rat.neg_divInt_neg]
      ·simp only [canI,Zl,Int.natAbs_neg,Z5];exact hs
      ·simp only [canI,Zl,Int.natAbs_neg,Z5];exact hs2
    ·have ae:0 < b.z:=(by have:=HB.out;omega);have b4:sgn b.z=1:=Vp ae;have HZ:=JZ ae;clear hz ae;go_wp2_with fail
     go_meet
     exact ⟨rfl,rfl,a,b,A,A',n,c,n',c',K,j,ab,o,ac,ad,HZ.out,rfl,hs,hs2⟩
   case rest=>
    obtain ⟨rfl,rfl,x,y,B,B',m,d,m',d',aj,O,bc,P,ak,al,hy,bd,am,U⟩:=hcut;have HZ:=JZ hy;have bo:=JZ bd;clear hy bd K j ab o ac ad hs hs2 E;obtain ⟨x0,x1,_,_⟩:=aj.two;obtain ⟨y0,y1,_,_⟩:=O.two;go_wp2_with fail;refine (Zym _ _ x y _ ak al am U).mono ?_;rw [Ygg];rintro e w6 ⟨v6,rfl,e6,f⟩;obtain ⟨A6,n6,k6,rfl,_⟩:=e6.shape;have bX:=aj.later f;have bY:=O.later f;have bR:=bc.later f;have af:=Za P f P.size;have i1:=ak.below f;have i2:=al.below f;clear aj O bc P ak al f x0 x1 y0 y1;have gz:(canI (Int.gcd (RI.z x) (RI.z y):Nat)).z=(Int.gcd (RI.z x) (RI.z y):Nat):=ZL _;have gs:(Zo (val (canI (Int.gcd (RI.z x) (RI.z y):Nat)).ds)).length≤137438953472:=by
     rw [show val (canI (Int.gcd (RI.z x) (RI.z y):Nat)).ds=Int.gcd (RI.z x) (RI.z y) from by simp [canI,Zl]];refine JW (Zv (Nat.le_of_dvd ?_ (show Int.gcd (RI.z x) (RI.z y)∣val (RI.ds y) from by rw [← Z5];exact Int.gcd_dvd_natAbs_right ..))) U;have:=HZ.out;have:=Z5 y;omega
    generalize canI (Int.gcd (RI.z x) (RI.z y):Nat)=G at *;have GZ:=JZ gz;clear gz;have b5:G.z≠0:=by
     rw [GZ.out];have:=Int.gcd_pos_of_ne_zero_right (RI.z x) (show RI.z y≠0 by have:=HZ.out;omega);omega
    have b6:=JZ b5;clear b5;have bG:=Bk.new w6 46 [.bool G.neg,.slice A6 n6 k6];have bn:=Zc w6 (.cells [.bool G.neg,.slice A6 n6 k6].toArray 46);have cX:=bX.later bn;have cY:=bY.later bn;have cR:=bR.later bn;have ag:=Za af bn af.size;have j1:=i1.below bn;have j2:=i2.below bn;have j3:=e6.below bn;obtain ⟨x0,x1,_,_⟩:=cX.two;obtain ⟨y0,y1,_,_⟩:=cY.two;obtain ⟨g0,g1,_,_⟩:=bG.two;clear bX bY bR af i1 i2 e6 bn;go_wp2_with fail;generalize w6.alloc _=W7 at *;refine (Zak _ _ x G _ j1 j3 am gs b6.out (by rw [GZ.out];exact Int.gcd_dvd_left ..)).mono ?_;rintro e w8 ⟨q,r,rfl,dq,dr,p⟩;obtain ⟨A8,n8,k8,rfl,_⟩:=dq.shape;obtain ⟨A9,n9,k9,rfl,_⟩:=dr.shape;have bX:=cX.later p;have bY:=cY.later p;have bR:=cR.later p;have b7:=bG.later p;have ah:=Za ag p ag.size;have i2:=j2.below p;have i3:=j3.below p;clear cX cY cR ag j1 j2 j3 bG p x0 x1 y0 y1 g0 g1;have bv:(Zo (val (canI (RI.z x / G.z)).ds)).length≤137438953472:=by
     rw [YF];refine JW (Zv (Int.natAbs_ediv_le_natAbs ..)) ?_;rw [Z5];exact am
    generalize canI 0=R1 at *;generalize bi:canI ((RI.z x) / G.z)=Q1 at *;have b8:=JZ bi;clear bi;have bQ:=(Bk.new w8 46 [.bool Q1.neg,.slice A8 n8 k8]).alloc (.cells #[.bool R1.neg,.slice A9 n9 k9] 46);have bn:=(Zc w8 (.cells [.bool Q1.neg,.slice A8 n8 k8].toArray 46)).alloc (by simp) (.cells #[.bool R1.neg,.slice A9 n9 k9] 46);have cX:=bX.later bn;have cY:=bY.later bn;have cR:=bR.later bn;have cG:=b7.later bn;have ai:=Za ah bn ah.size;have j2:=i2.below bn;have j3:=i3.below bn;have j4:=dq.below bn;obtain ⟨y0,y1,_,_⟩:=cY.two;obtain ⟨g0,g1,_,_⟩:=cG.two;obtain ⟨q0,q1,_,_⟩:=bQ.two;clear bX bY bR b7 ah i2 i3 dq dr bn;go_wp2_with fail;generalize (w8.alloc _).alloc _=W9 at *;refine (Zak _ _ y G _ j2 j3 U gs b6.out (by rw [GZ.out];exact Int.gcd_dvd_right ..)).mono ?_;rintro e F ⟨q',r',rfl,dq,dr,s⟩;obtain ⟨an,ao,ap,rfl,_⟩:=dq.shape;obtain ⟨be,bf,bg,rfl,_⟩:=dr.shape;have bR:=cR.later s;have Y:=bQ.later s;have L:=Za ai s ai.size;have i4:=j4.below s;clear cX cY cR cG ai j2 j3 j4 bQ s y0 y1 g0 g1 q0 q1;have bw:(Zo (val (canI (RI.z y / G.z)).ds)).length≤137438953472:=by
     rw [YF];refine JW (Zv (Int.natAbs_ediv_le_natAbs ..)) ?_;rw [Z5];exact U
    generalize canI 0=R2 at *;generalize bj:canI ((RI.z y) / G.z)=Q2 at *;have b9:=JZ bj;clear bj;have bD:=(Bk.new F 46 [.bool Q2.neg,.slice an ao ap]).alloc (.cells #[.bool R2.neg,.slice be bf bg] 46);have bn:=(Zc F (.cells [.bool Q2.neg,.slice an ao ap].toArray 46)).alloc (by simp) (.cells #[.bool R2.neg,.slice be bf bg] 46);have cR:=bR.later bn;have cQ:=Y.later bn;have M:=Za L bn L.size;have j4:=i4.below bn;have j5:=dq.below bn;clear bR Y L i4 dq dr bn;have bp:w8.heap.size≠w.heap.size+1+1:=cQ.ne_of cR (by decide);have bq:F.heap.size≠w.heap.size+1+1:=bD.ne_of cR (by decide);have E:True:=trivial;go_wp2_with fail;generalize (F.alloc _).alloc _=c8 at *
    go_region_held3 (fun w'=>(w'.cell? ⟨w8.heap.size,0,none⟩=some (.bool Q1.neg)∧w'.cell? ⟨w8.heap.size,1,none⟩=some (.slice A8 n8 k8))∧(w'.cell? ⟨F.heap.size,0,none⟩=some (.bool Q2.neg)∧w'.cell? ⟨F.heap.size,1,none⟩=some (.slice an ao ap)))
     (first | with_reducible exact ⟨cQ.drew.pair,bD.drew.pair⟩ | with_reducible exact ⟨(cQ.drew.later f).pair,(bD.drew.later f).pair⟩ | with_reducible exact ⟨((cQ.drew.later f).later g).pair,((bD.drew.later f).later g).pair⟩ | with_reducible exact ⟨(((cQ.drew.later f).later g).far4 bp _ _ _ _).pair,(((bD.drew.later f).later g).far4 bq _ _ _ _).pair⟩)
     (first
      | (go_at_call 105;have _t:=E;refine (Zgb _ Q1 _ (j4.keep (ZG.drew _)) (by omega)).mono ?_;clear E _t;rintro e w6 ⟨v6,rfl,e6,f⟩;obtain ⟨A6,n6,k6,rfl⟩:=e6.shape)
      | (go_at_call 105;refine (Zgb _ Q2 _ ((j5.keep (ZG.drew _)).below f) (by omega)).mono ?_;rintro e w7 ⟨v7,rfl,e7,g⟩;obtain ⟨A7,n7,k7,rfl⟩:=e7.shape;obtain ⟨c0,c1,c2,c3⟩:=((cR.drew.later f).later g).four;obtain ⟨f0,f1,f2,f3⟩:=((cR.drew.later f).later g).fourF))
    go_wp2;refine Zq Tryz.results67 Tryz.underlying48 (by kernel_rfl) rfl (((cR.drew.later f).later g).set4 _ _ _ _) rfl ?_;have ba:=Za M.drew f M.size;have br:canI (RI.z Q1)=Q1:=(by rw [← b8.out,ZL]);have bs:canI (RI.z Q2)=Q2:=(by rw [← b9.out,ZL]);rw [← bo.out,Uo HZ.out,Int.gcd_comm,← GZ.out,b8.out,b9.out];rw [br] at e6 ⊢;rw [bs] at e7 ⊢;exact XD ((cR.drew.later f).later g) (XZ.mk ((e6.below g).mono M.size) e7.int) (Za ba g ba.size) (by omega)
namespace Pl
def RF.Sh (f:RF):Prop:=(Zo (val f.num.ds)).length≤34359738368∧(Zo (val f.den.ds)).length≤34359738368
def Sz (k:Nat) (q:Rat):Prop:=(Zo q.num.natAbs).length≤k∧(Zo q.den).length≤k
theorem Sz.mono {j k:Nat} {q:Rat} (h:Sz j q) (hk:j≤k):Sz k q:=⟨JW h.1 hk,JW h.2 hk⟩
theorem Sz.sh {k:Nat} {q:Rat} (h:Sz k q) (hk:k≤34359738368):(canF q).Sh:=by
 unfold RF.Sh canF;simp only [YF];exact ⟨JW h.1 hk,JW h.2 hk⟩
theorem RF.Sh.sm {f:RF} (h:f.Sh):f.Sm:=by
 unfold RF.Sh at h;unfold RF.Sm RI.Sm;omega
theorem V7 {a b:Int} {k:Nat} (h1:(Zo a.natAbs).length≤k) (h2:(Zo b.natAbs).length≤k) (hk:1≤k):Sz k (Rat.divInt a b):=by
 unfold Sz;rw [Rat.num_divInt,Rat.den_divInt];constructor
 ·refine JW (Zv ?_) h1;refine JW (Int.natAbs_ediv_le_natAbs ..) ?_;rw [Int.natAbs_mul];have:b.sign.natAbs≤1:=by rw [Int.natAbs_sign];split <;> omega
  exact JW (JS _ this) (by omega)
 ·split
  ·exact JW (Y2 (k:=1) (by unfold B32;omega)) hk
  ·exact JW (Zv (Nat.div_le_self _ _)) h2
theorem RF.Sh.sz {f:RF} (h:f.Sh):Sz 34359738368 f.q:=V7 (by rw [Z5];exact h.1) (by rw [Z5];exact h.2) (by decide)
theorem Zgc {k:Nat} {q:Rat} (h:Sz k q):1≤k:=by
 have:=h.2;have:=Y3 (n:=q.den) q.den_pos;omega
theorem Yap (p q:Rat):Rat.divInt (p.num * q.den) (p.den * q.num)=p / q:=by
 conv=>rhs;rw [← Rat.num_divInt_den p,← Rat.num_divInt_den q]
 rw [Rat.div_def,Rat.inv_divInt,Rat.divInt_mul_divInt]
theorem Yaq (p q:Rat):Rat.divInt (p.num * q.num) (p.den * q.den)=p * q:=by
 conv=>rhs;rw [← Rat.num_divInt_den p,← Rat.num_divInt_den q]
 rw [Rat.divInt_mul_divInt]
theorem Yar (p q:Rat):Rat.divInt (p.num * q.den+q.num * p.den) (p.den * q.den)=p+q:=by
 conv=>rhs;rw [← Rat.num_divInt_den p,← Rat.num_divInt_den q]
 have h1:(p.den:Int)≠0:=by have:=p.den_pos;omega
 have h2:(q.den:Int)≠0:=by have:=q.den_pos;omega
 rw [Rat.divInt_add_divInt _ _ h1 h2]
theorem Wz {j k:Nat} {p q:Rat} (h:Sz j p) (g:Sz k q):Sz (j+k) (p * q):=by
 rw [← Yaq];refine V7 ?_ ?_ (by have:=Zgc h;omega)
 ·rw [Int.natAbs_mul];exact JW (Y6 _ _) (Nat.add_le_add h.1 g.1)
 ·rw [Int.natAbs_mul];exact JW (Y6 _ _) (Nat.add_le_add h.2 g.2)
theorem Zal {j k:Nat} {p q:Rat} (h:Sz j p) (g:Sz k q):Sz (j+k) (p / q):=by
 rw [← Yap];refine V7 ?_ ?_ (by have:=Zgc h;omega)
 ·rw [Int.natAbs_mul];exact JW (Y6 _ _) (Nat.add_le_add h.1 g.2)
 ·rw [Int.natAbs_mul];exact JW (Y6 _ _) (Nat.add_le_add h.2 g.1)
theorem Yas {j k:Nat} {p q:Rat} (h:Sz j p) (g:Sz k q):Sz (j+k+1) (p+q):=by
 rw [← Yar];refine V7 ?_ ?_ (by omega)
 ·refine Zaf ?_ ?_
  ·rw [Int.natAbs_mul];exact JW (Y6 _ _) (Nat.add_le_add h.1 g.2)
  ·rw [Int.natAbs_mul,Nat.add_comm j k];exact JW (Y6 _ _) (Nat.add_le_add g.1 h.2)
 ·rw [Int.natAbs_mul];exact JW (Y6 _ _) (JW (Nat.add_le_add h.2 g.2) (by omega))
theorem Zpf {k:Nat} {q:Rat} (h:Sz k q):Sz k (-q):=by
 unfold Sz at *;rw [Rat.neg_num,Rat.neg_den,Int.natAbs_neg];exact h
theorem Zdw {j k:Nat} {p q:Rat} (h:Sz j p) (g:Sz k q):Sz (j+k+1) (p - q):=by
 rw [Rat.sub_eq_add_neg];exact Yas h (Zpf g)
theorem Sz_zero:Sz 1 0:=by unfold Sz;exact ⟨by rw [show Int.natAbs (Rat.num 0)=0 from rfl,digs_zero];decide,Y2 (by rw [show Rat.den 0=1 from rfl];decide)⟩
theorem Zdx (z:Int):Rat.divInt z 1=(z:Rat):=Rat.mkRat_one z
theorem Ycg (f:RF):Rat.divInt (-f.num.z) f.den.z= -f.q:=(Rat.neg_divInt _ _).symm
end Pl
theorem Zt.num [Old] {w:World} {A A':Option Addr} {n c n' c':Nat} {b b':Bool} {f:RF} (h:Zt w (.agg #[.bool b,.slice A n c,.bool b',.slice A' n' c']) f):Ym w (.agg #[.bool b,.slice A n c]) f.num∧Ym w (.agg #[.bool b',.slice A' n' c']) f.den:=by
 obtain ⟨B,m,d,B',m',d',e,d1,d2⟩:=h;simp at e;obtain ⟨rfl,⟨rfl,rfl,rfl⟩,rfl,rfl,rfl,rfl⟩:=e;exact ⟨⟨_,rfl,d1⟩,_,rfl,d2⟩
theorem Ych (x y z u:Value) (w:World):(Instr.field 48 (.agg #[x,y,z,u]) 0).run Tryz.prog w= .ok (.agg #[x,y]) w:=by kernel_rfl
theorem Y7 (w:World) (x1 x2 x3 x4:Value):∃W,w.alloc (.cells #[x1,x2,x3,x4] 48)=W∧Bk W w.heap.size 48 [x1,x2,x3,x4]∧Below w.heap.size w W:=
 ⟨_,rfl,Bk.new w _ [x1,x2,x3,x4],Zc w _⟩
theorem Xd [Old] (v:Value) (a:RF) (w:World) (h:Zt w v a) (hs:a.Sh) (hOl:Zb w:=by (repeat (first | assumption | exact Zb.up (by assumption) hOl | exact Zb.up (Hid.out (by assumption)) hOl | with_reducible refine Zb.set ?_ _ _ | with_reducible refine Zb.mk_ ?_ _ | with_reducible refine Zb.dr ?_ | with_reducible refine Zb.drN ?_ | refine Zb.up (by assumption) ?_ | refine Zb.up (Hid.out (by assumption)) ?_))):
 Calls Tryz.prog 69 #[v] w fun e w'=>∃v',e= .returned v'∧XZ w.heap.size w' v' (canF a.q)∧Below w.heap.size w w':=by
 have i:=hOl.le;obtain ⟨A,n,c,A',n',c',rfl,_,_⟩:=id h;obtain ⟨W,hW,j,hX,hR,f⟩:=Zju w (.bool a.num.neg) (.slice A n c) (.bool a.den.neg) (.slice A' n' c') (.bool false) (.slice none 0 0) (.bool false) (.slice none 0 0);obtain ⟨i1,i2⟩:=(h.below f).num;obtain ⟨p1,p2,p3,p4⟩:=hX.four;obtain ⟨k,l⟩:=hs;go_enter Tryz.func69,Tryz.ntmps69;go_wp2_with fail;clear hW;refine (Us _ _ a.num a.den _ i1 i2 (by omega) (by omega)).mono ?_;rintro e w1 ⟨v1,rfl,e1,g⟩;obtain ⟨B,m,d,B',m',d',rfl,_,_⟩:=id e1.1;have b:=hR.later g;obtain ⟨c0,c1,c2,c3⟩:=b.four;obtain ⟨f0,f1,f2,f3⟩:=b.fourF;go_wp2;refine Zq Tryz.results69 Tryz.underlying48 (by kernel_rfl) rfl (b.set4 _ _ _ _) rfl ?_;exact XD b (e1.mono f.size) (Za f g f.size) (by omega)
theorem WQ [Old] (z:Int) (w:World) (h0: -9223372036854775808≤z) (h1:z≤9223372036854775807) (hOl:Zb w:=by (repeat (first | assumption | exact Zb.up (by assumption) hOl | exact Zb.up (Hid.out (by assumption)) hOl | with_reducible refine Zb.set ?_ _ _ | with_reducible refine Zb.mk_ ?_ _ | with_reducible refine Zb.dr ?_ | with_reducible refine Zb.drN ?_ | refine Zb.up (by assumption) ?_ | refine Zb.up (Hid.out (by assumption)) ?_))):
 Calls Tryz.prog 31 #[.int .i64 z] w fun e w'=>∃v',e= .returned v'∧XZ w.heap.size w' v' (canF (z:Rat))∧Below w.heap.size w w':=by
 have h:=hOl.le;obtain ⟨W,hW,hR,c⟩:=Y7 w (.bool false) (.slice none 0 0) (.bool false) (.slice none 0 0);have l1:(Zo (val (canI z).ds)).length≤137438953472:=by rw [YF];exact JW (Y2 (k:=2) (by unfold B32;omega)) (by decide)
 have l2:(Zo (val (canI 1).ds)).length≤137438953472:=by rw [YF];exact JW (Y2 (k:=2) (by unfold B32;omega)) (by decide)
 go_enter Tryz.func31,Tryz.ntmps31;go_wp2_with fail;clear hW;refine (Vd z _ h0 h1).mono ?_;rintro e w1 ⟨v1,rfl,i1,f⟩;go_wp2_with fail;refine (Vd 1 _ (by omega) (by omega)).mono ?_;rintro e w2 ⟨v2,rfl,i2,b⟩;go_wp2_with fail;refine (Us _ _ (canI z) (canI 1) _ (i1.below b) i2 l1 l2).mono ?_;rw [ZL,ZL,Zdx];rintro e w3 ⟨v3,rfl,e3,g⟩;obtain ⟨B,m,d,B',m',d',rfl,_,_⟩:=id e3.1;have a:=((hR.later f).later b).later g;have b1:=Za c f c.size;have b2:=Za b1 b b1.size;obtain ⟨c0,c1,c2,c3⟩:=a.four;obtain ⟨f0,f1,f2,f3⟩:=a.fourF;go_wp2;refine Zq Tryz.results31 Tryz.underlying48 (by kernel_rfl) rfl (a.set4 _ _ _ _) rfl ?_;exact XD a (e3.mono b2.size) (Za b2 g b2.size) (by omega)
theorem Xv [Old] (v:Value) (a:RF) (w:World) (h:Zt w v a) (hs:a.Sh) (hOl:Zb w:=by (repeat (first | assumption | exact Zb.up (by assumption) hOl | exact Zb.up (Hid.out (by assumption)) hOl | with_reducible refine Zb.set ?_ _ _ | with_reducible refine Zb.mk_ ?_ _ | with_reducible refine Zb.dr ?_ | with_reducible refine Zb.drN ?_ | refine Zb.up (by assumption) ?_ | refine Zb.up (Hid.out (by assumption)) ?_))):
 Calls Tryz.prog 42 #[v] w fun e w'=>e= .returned (.int .i64 (qs a.q))∧Below w.heap.size w w':=by
 have l:=hOl.le;obtain ⟨A,n,c,A',n',c',rfl,_,_⟩:=id h;obtain ⟨W,hW,hX,b⟩:=Y7 w (.bool a.num.neg) (.slice A n c) (.bool a.den.neg) (.slice A' n' c');have h':=h.below b;obtain ⟨p1,p2,p3,p4⟩:=hX.four;have hz:=hs.sz.1;go_enter Tryz.func42,Tryz.ntmps42;go_wp2_with fail;clear hW;refine (Xd _ a _ h' hs).mono ?_;rintro e w1 ⟨v1,rfl,e1,j⟩;obtain ⟨B,m,d,B',m',d',rfl,_,_⟩:=id e1.1;have f:sgn (canF a.q).num.z=qs a.q:=by rw [show (canF a.q).num=canI a.q.num from rfl,ZL];rfl
 have g:(Zo (val (canF a.q).num.ds)).length≤549755813888:=by rw [show (canF a.q).num=canI a.q.num from rfl,YF];omega
 have i:=JZ f;clear f;generalize canF a.q=P at *;obtain ⟨i1,i2⟩:=e1.1.num;have o:=fun (w:World)=>Ych (.bool P.num.neg) (.slice B m d) (.bool P.den.neg) (.slice B' m' d') w
 go_wp2_with fail;refine (Zai _ P.num _ i1 g).mono ?_;rw [i.out];rintro e w2 ⟨rfl,k⟩;go_wp2;go_ret;have b1:=Za b j b.size;exact ⟨rfl,Za b1 k b1.size⟩
theorem Zkh [Old] (v:Value) (a:RF) (w:World) (h:Zt w v a) (hs:a.Sh) (hOl:Zb w:=by (repeat (first | assumption | exact Zb.up (by assumption) hOl | exact Zb.up (Hid.out (by assumption)) hOl | with_reducible refine Zb.set ?_ _ _ | with_reducible refine Zb.mk_ ?_ _ | with_reducible refine Zb.dr ?_ | with_reducible refine Zb.drN ?_ | refine Zb.up (by assumption) ?_ | refine Zb.up (Hid.out (by assumption)) ?_))):
 Calls Tryz.prog 62 #[v] w fun e w'=>∃v',e= .returned v'∧XZ w.heap.size w' v' (canF (-a.q))∧Below w.heap.size w w':=by
 have j:=hOl.le;obtain ⟨A,n,c,A',n',c',rfl,_,_⟩:=id h;obtain ⟨W,hW,k,hX,hR,g⟩:=Zju w (.bool a.num.neg) (.slice A n c) (.bool a.den.neg) (.slice A' n' c') (.bool false) (.slice none 0 0) (.bool false) (.slice none 0 0);obtain ⟨i1,i2⟩:=(h.below g).num;obtain ⟨l,o⟩:=hs;have i:w.heap.size≠w.heap.size+1:=by omega
 go_enter Tryz.func62,Tryz.ntmps62;go_wp2_with fail;clear hW
 go_region_held3 (fun w'=>w'.cell? ⟨w.heap.size,0,none⟩=some (.bool a.num.neg)∧w'.cell? ⟨w.heap.size,1,none⟩=some (.slice A n c)∧w'.cell? ⟨w.heap.size,2,none⟩=some (.bool a.den.neg)∧w'.cell? ⟨w.heap.size,3,none⟩=some (.slice A' n' c'))
  (first | with_reducible exact hX.drew.four | with_reducible exact (hX.drew.later b).four | with_reducible exact ((hX.drew.later b).later f).four | with_reducible exact (((hX.drew.later b).later f).far4 i _ _ _ _).four)
  (first
   | (go_at_call 99;refine (UQ _ a.num _ (i1.keep (ZG.drew _)) (by omega)).mono ?_;rintro e w6 ⟨v6,rfl,e6,b⟩)
   | (go_at_call 67;refine (Us _ _ (canI (-a.num.z)) a.den _ e6 ((i2.keep (ZG.drew _)).below b) (by rw [YF,Int.natAbs_neg,Z5];omega) (by omega)).mono ?_;rw [ZL,Ycg];rintro e w7 ⟨v7,rfl,e7,f⟩;obtain ⟨B,m,d,B',m',d',rfl,_,_⟩:=id e7.1;obtain ⟨c0,c1,c2,c3⟩:=((hR.drew.later b).later f).four;obtain ⟨f0,f1,f2,f3⟩:=((hR.drew.later b).later f).fourF))
 go_wp2;refine Zq Tryz.results62 Tryz.underlying48 (by kernel_rfl) rfl (((hR.drew.later b).later f).set4 _ _ _ _) rfl ?_;have b1:=Za g.drew b g.size;exact XD ((hR.drew.later b).later f) (e7.mono b1.size) (Za b1 f b1.size) (by omega)
def Yci [Old] (p q:Rat) (w wx:World) (A A' B B':Option Addr) (n c n' c' m d m' d':Nat):Prop:=
 Bk wx w.heap.size 48 [.bool (canF p).num.neg,.slice A n c,.bool (canF p).den.neg,.slice A' n' c']∧Bk wx (w.heap.size+1) 48 [.bool (canF q).num.neg,.slice B m d,.bool (canF q).den.neg,.slice B' m' d']∧Bk wx (w.heap.size+1+1) 48 [.bool false,.slice none 0 0,.bool false,.slice none 0 0]∧
 Zt wx (.agg #[.bool (canF p).num.neg,.slice A n c,.bool (canF p).den.neg,.slice A' n' c']) (canF p)∧Zt wx (.agg #[.bool (canF q).num.neg,.slice B m d,.bool (canF q).den.neg,.slice B' m' d']) (canF q)∧Below w.heap.size w wx
theorem Zmz [Old] {w w4:World} {g g' h:Nat} {x y z u x' y' z' u':Value} {cs:List Value} {b1 s1 b2 s2 b3 s3 b4 s4:Value} {p q:RF} (hX:Bk w4 g 48 [x,y,z,u]) (hY:Bk w4 g' 48 [x',y',z',u']) (hR:Bk w4 h 48 cs) (hne:g≠g') (hr1:h≠g) (hr2:h≠g') (dq:Zt w4 (.agg #[b1,s1,b2,s2]) p) (dr:Zt w4 (.agg #[b3,s3,b4,s4]) q) {m:Nat} (hbe:Below m w w4) (hg:m≤g) (hg':m≤g'):
 ∀W,W=((((((((w4.setCell ⟨g,0,none⟩ b1).setCell ⟨g,1,none⟩ s1).setCell ⟨g,2,none⟩ b2).setCell ⟨g,3,none⟩ s2).setCell ⟨g',0,none⟩ b3).setCell ⟨g',1,none⟩ s3).setCell ⟨g',2,none⟩ b4).setCell ⟨g',3,none⟩ s4)→(hO:Old.n≤m:=by first | assumption | exact Nat.zero_le _ | omega | ((first | with_reducible refine Zb.le ?_ | with_reducible refine Zb.le1 ?_ | with_reducible refine Zb.le2 ?_ | with_reducible refine Zb.le3 ?_);repeat (first | assumption | exact Zb.up (by assumption) hOl | exact Zb.up (Hid.out (by assumption)) hOl | with_reducible refine Zb.set ?_ _ _ | with_reducible refine Zb.mk_ ?_ _ | with_reducible refine Zb.dr ?_ | with_reducible refine Zb.drN ?_ | refine Zb.up (by assumption) ?_ | refine Zb.up (Hid.out (by assumption)) ?_)))→
 Bk W g 48 [b1,s1,b2,s2]∧Bk W g' 48 [b3,s3,b4,s4]∧Bk W h 48 cs∧Zt W (.agg #[b1,s1,b2,s2]) p∧Zt W (.agg #[b3,s3,b4,s4]) q∧Below m w W:=by
 rintro W rfl hO;have h1:=hX.set4 b1 s1 b2 s2;have h2:=hY.far4 (Ne.symm hne) b1 s1 b2 s2;have k1:=hX.keep4 (by decide) b1 s1 b2 s2;have k2:=h2.keep4 (by decide) b3 s3 b4 s4;exact ⟨h1.far4 hne _ _ _ _,h2.set4 _ _ _ _,(hR.far4 hr1 _ _ _ _).far4 hr2 _ _ _ _,dq.keep (k1.trans k2),dr.keep (k1.trans k2),ZE (ZE hbe hg _ _ _ _) hg' _ _ _ _⟩
theorem szI {k:Nat} {q:Rat} (h:Sz k q):(canF q).num.ds.length≤k∧(canF q).den.ds.length≤k:=h
theorem szV {k:Nat} {z:Int} (h:(Zo z.natAbs).length≤k):(Zo (val (canI z).ds)).length≤k:=by rw [YF];exact h
theorem zN (q:Rat):(canF q).num.z=q.num:=ZL _
theorem zD (q:Rat):(canF q).den.z=q.den:=ZL _
namespace Pl
abbrev Mx:=Nat→Nat→Rat
def YW (M:Mx) (c:Nat):Nat→Nat→Option Nat
 | _,0=>none
 | r,n+1=>if M r c≠0 then some r else YW M c (r+1) n
def Zap (M:Mx) (k m:Nat):Option Nat:=YW M k k (m - k)
theorem Zaq {M:Mx} {c:Nat}:∀{n r:Nat},(∀s,r≤s→s < r+n→M s c=0)→YW M c r n=none
 | 0,_,_=>rfl
 | n+1,r,h=>by
  unfold YW
  rw [if_neg (by simpa using h r (JY _) (by omega))]
  exact Zaq fun s h1 h2=>h s (by omega) (by omega)
theorem Zar {M:Mx} {c:Nat}:∀{n r t:Nat},r≤t→t < r+n→M t c≠0→(∀s,r≤s→s < t→M s c=0)→YW M c r n=some t
 | 0,r,t,h1,h2,_,_=>by omega
 | n+1,r,t,h1,h2,h3,h4=>by
  unfold YW
  rcases Nat.eq_or_lt_of_le h1 with e | e
  ·subst e;rw [if_pos h3]
  ·rw [if_neg (by simpa using h4 r (JY _) e)]
   exact Zar (by omega) (by omega) h3 fun s h5 h6=>h4 s (by omega) h6
theorem Zrq {M:Mx} {k m:Nat} (h:∀s,k≤s→s < m→M s k=0):Zap M k m=none:=Zaq fun s h1 h2=>h s h1 (by omega)
theorem Zrr {M:Mx} {k m t:Nat} (h1:k≤t) (h2:t < m) (h3:M t k≠0) (h4:∀s,k≤s→s < t→M s k=0):Zap M k m=some t:=Zar h1 (by omega) h3 h4
theorem Zdz {M:Mx} {c:Nat}:∀{n r t:Nat},YW M c r n=some t→r≤t∧t < r+n∧M t c≠0
 | 0,_,_,h=>by cases h
 | n+1,r,t,h=>by
  unfold YW at h
  split at h
  ·injection h with h;subst h;exact ⟨JY _,by omega,by assumption⟩
  ·have:=Zdz h;exact ⟨by omega,by omega,this.2.2⟩
theorem Zas {M:Mx} {c:Nat}:∀{n r:Nat},YW M c r n=none→∀s,r≤s→s < r+n→M s c=0
 | 0,r,_,s,h1,h2=>by omega
 | n+1,r,h,s,h1,h2=>by
  unfold YW at h
  split at h
  ·cases h
  ·rename_i h0
   rcases Nat.eq_or_lt_of_le h1 with e | e
   ·subst e;simpa using h0
   ·exact Zas h s (by omega) (by omega)
theorem Zhs {M:Mx} {k m t:Nat} (h:Zap M k m=some t):k≤t∧t < m∧M t k≠0:=by
 have:=Zdz h;exact ⟨this.1,by omega,this.2.2⟩
theorem Zrs {M:Mx} {k m:Nat} (h:Zap M k m=none):∀s,k≤s→s < m→M s k=0:=fun s h1 h2=>Zas h s h1 (by omega)
theorem UI {A B:Mx} {c:Nat} (h:∀r,A r c=B r c):∀(n r:Nat),YW A c r n=YW B c r n
 | 0,_=>rfl
 | n+1,r=>by unfold YW;rw [h r,UI h n]
def Zyq (M:Mx) (r i:Nat) (q:Rat):Mx:=fun s c=>if s=r∧c=i then q else M s c
def swapM (M:Mx) (k t:Nat):Mx:=fun r=>if r=k then M t else if r=t then M k else M r
def scaleTo (M:Mx) (k i:Nat) (f:Rat):Mx:=fun r c=>if r=k∧k≤c∧c < i then M r c / f else M r c
def X8 (M:Mx) (k s i:Nat) (g:Rat):Mx:=fun r c=>if r=s∧k≤c∧c < i then M r c - g * M k c else M r c
def ZV (M:Mx) (k s m:Nat):Mx:=fun r c=>if r≠k∧r < s∧k≤c∧c≤m then M r c - M r k * M k c else M r c
def WB (M:Mx) (k m:Nat):Option Mx:=match Zap M k m with
 | none=>none
 | some t=>some (ZV (scaleTo (swapM M k t) k (m+1) (swapM M k t k k)) k m m)
def gj (M:Mx) (m:Nat):Nat→Option Mx
 | 0=>some M
 | k+1=>match gj M m k with
  | none=>none
  | some M'=>WB M' k m
def VN (m:Nat) (cols:Mx) (b:Nat→Rat):Mx:=fun r c=>if c < m then cols c r else b r
def YK (m:Nat) (cols:Mx) (b:Nat→Rat):Option (Nat→Rat):=(gj (VN m cols b) m m).map fun M k=>M k m
theorem Zht (M:Mx) (k:Nat) (f:Rat):scaleTo M k k f=M:=by
 funext r c;unfold scaleTo;rw [if_neg (by omega)]
theorem Zkq {M:Mx} {k i:Nat} {f:Rat} (h:k≤i):Zyq (scaleTo M k i f) k i (scaleTo M k i f k i / f)=scaleTo M k (i+1) f:=by
 funext r c;unfold Zyq scaleTo
 by_cases h1:r=k∧c=i
 ·obtain ⟨rfl,rfl⟩:=h1;rw [if_pos ⟨rfl,rfl⟩,if_neg (by omega),if_pos ⟨rfl,h,by omega⟩]
 ·rw [if_neg h1];by_cases h2:r=k∧k≤c∧c < i
  ·rw [if_pos h2,if_pos ⟨h2.1,h2.2.1,by omega⟩]
  ·rw [if_neg h2,if_neg (by omega)]
theorem Zkr (M:Mx) (k s:Nat) (g:Rat):X8 M k s k g=M:=by
 funext r c;unfold X8;rw [if_neg (by omega)]
theorem Zge {M:Mx} {k s i:Nat} {g:Rat} (h:s≠k) (c:Nat):X8 M k s i g k c=M k c:=by
 unfold X8;rw [if_neg (by omega)]
theorem Znb {M:Mx} {k s i:Nat} {g:Rat} (h:k≤i) (hs:s≠k):Zyq (X8 M k s i g) s i (X8 M k s i g s i - g * X8 M k s i g k i)=X8 M k s (i+1) g:=by
 funext r c
 rw [Zge hs];unfold Zyq X8;by_cases h1:r=s∧c=i
 ·obtain ⟨rfl,rfl⟩:=h1;rw [if_pos ⟨rfl,rfl⟩,if_neg (by omega),if_pos ⟨rfl,h,by omega⟩]
 ·rw [if_neg h1];by_cases h2:r=s∧k≤c∧c < i
  ·rw [if_pos h2,if_pos ⟨h2.1,h2.2.1,by omega⟩]
  ·rw [if_neg h2,if_neg (by omega)]
theorem Zhu (M:Mx) (k m:Nat):ZV M k 0 m=M:=by
 funext r c;unfold ZV;rw [if_neg (by omega)]
theorem Vw {M:Mx} {k s m:Nat} (c:Nat):ZV M k s m k c=M k c:=by
 unfold ZV;rw [if_neg (by omega)]
theorem Uu {M:Mx} {k s m:Nat} (c:Nat):ZV M k s m s c=M s c:=by
 unfold ZV;rw [if_neg (by omega)]
theorem Zco {M:Mx} {k s m:Nat} (h:s=k∨M s k=0):ZV M k s m=ZV M k (s+1) m:=by
 funext r c
 unfold ZV;by_cases h1:r≠k∧r < s∧k≤c∧c≤m
 ·rw [if_pos h1,if_pos ⟨h1.1,by omega,h1.2.2⟩]
 ·rw [if_neg h1];by_cases h2:r≠k∧r < s+1∧k≤c∧c≤m
  ·rw [if_pos h2];have:r=s:=by omega
   subst this;rcases h with h | h
   ·exact absurd h h2.1
   ·rw [h];grind
  ·rw [if_neg h2]
theorem Zks {M:Mx} {k s m:Nat} (hs:s≠k):X8 (ZV M k s m) k s (m+1) (ZV M k s m s k)=ZV M k (s+1) m:=by
 funext r c
 unfold X8;rw [Vw,Uu];unfold ZV;by_cases h1:r=s∧k≤c∧c < m+1
 ·obtain ⟨rfl,h2,h3⟩:=h1;rw [if_pos ⟨rfl,h2,h3⟩,if_neg (by omega),if_pos ⟨hs,by omega,h2,by omega⟩]
 ·rw [if_neg h1];by_cases h2:r≠k∧r < s∧k≤c∧c≤m
  ·rw [if_pos h2,if_pos ⟨h2.1,by omega,h2.2.2⟩]
  ·rw [if_neg h2,if_neg (by omega)]
def MB (m n K:Nat) (M:Mx):Prop:=∀r c,r < m→c < n→Sz K (M r c)
theorem MB.mono {m n K K':Nat} {M:Mx} (h:MB m n K M) (hk:K≤K'):MB m n K' M:=fun r c h1 h2=>(h r c h1 h2).mono hk
theorem MB.swap {m n K:Nat} {M:Mx} (h:MB m n K M) {k t:Nat} (hk:k < m) (ht:t < m):MB m n K (swapM M k t):=fun r c h1 h2=>by
 unfold swapM;split
 ·exact h t c ht h2
 ·split
  ·exact h k c hk h2
  ·exact h r c h1 h2
theorem MB.scale {m n K:Nat} {M:Mx} (h:MB m n K M) {k i:Nat} {f:Rat} (hf:Sz K f):MB m n (2 * K) (scaleTo M k i f):=fun r c h1 h2=>by
 unfold scaleTo;split
 ·exact (Zal (h r c h1 h2) hf).mono (by omega)
 ·exact (h r c h1 h2).mono (by omega)
theorem Zea {m n K:Nat} {M:Mx} (h:MB m n K M) {k i:Nat} {f:Rat} {r c:Nat} (hr:r < m) (hc:c < n) (hne:r≠k):Sz K (scaleTo M k i f r c):=by
 unfold scaleTo;rw [if_neg (by omega)];exact h r c hr hc
theorem Zeb {m n K:Nat} {M:Mx} (h:MB m n K M) {k i:Nat} {f:Rat} (hf:Sz K f) {r c:Nat} (hr:r < m) (hc:c < n):Sz (2 * K) (scaleTo M k i f r c):=h.scale hf r c hr hc
theorem MB.elim {m n K:Nat} {M:Mx} {k s m':Nat} (hk:k < m) (h1:∀r c,r < m→c < n→r≠k→Sz K (M r c)) (h2:∀c,c < n→Sz (2 * K) (M k c)) (hn:k < n):MB m n (5 * K) (ZV M k s m'):=fun r c hr hc=>by
 unfold ZV;split
 ·rename_i h
  have a:=h1 r c hr hc h.1
  have b:=h1 r k hr hn h.1
  have:=Zgc a
  exact (Zdw a (Wz b (h2 c hc))).mono (by omega)
 ·by_cases e:r=k
  ·subst e;exact (h2 c hc).mono (by omega)
  ·exact (h1 r c hr hc e).mono (by omega)
theorem Zyr {M M':Mx} {k m K:Nat} (h:MB m (m+1) K M) (hk:k < m) (e:WB M k m=some M'):MB m (m+1) (5 * K) M':=by
 unfold WB at e
 cases hf:Zap M k m with
 | none=>rw [hf] at e;cases e
 | some t=>
  rw [hf] at e;injection e with e;subst e;obtain ⟨h1,h2,_⟩:=Zhs hf;have hs:=h.swap hk h2;exact MB.elim hk (fun r c hr hc hne=>Zea hs hr hc hne) (fun c hc=>Zeb hs (hs k k hk (by omega)) hk hc) (by omega)
theorem Ygl {M:Mx} {m K:Nat} (h:MB m (m+1) K M):∀{k:Nat} {M':Mx},k≤m→gj M m k=some M'→MB m (m+1) (5^k * K) M'
 | 0,M',_,e=>by unfold gj at e;injection e with e;subst e;simpa using h
 | k+1,M',hk,e=>by
  unfold gj at e
  cases hg:gj M m k with
  | none=>rw [hg] at e;cases e
  | some N=>
   rw [hg] at e
   have:=Zyr (Ygl h (by omega) hg) (by omega) e
   exact this.mono (by rw [Nat.pow_succ];grind)
theorem Yew {m K:Nat} {cols:Mx} {b:Nat→Rat} (h:∀r c,r < m→c < m→Sz K (cols c r)) (hb:∀r,r < m→Sz K (b r)):MB m (m+1) K (VN m cols b):=fun r c hr hc=>by
 unfold VN;split
 ·exact h r c hr (by assumption)
 ·exact hb r hr
theorem Zpl {m K:Nat} {cols:Mx} {b x:Nat→Rat} (h:∀r c,r < m→c < m→Sz K (cols c r)) (hb:∀r,r < m→Sz K (b r)) (e:YK m cols b=some x):∀r,r < m→Sz (5^m * K) (x r):=by
 unfold YK at e
 cases hg:gj (VN m cols b) m m with
 | none=>rw [hg] at e;cases e
 | some N=>
  rw [hg] at e;injection e with e;subst e;exact fun r hr=>Ygl (Yew h hb) (JY _) hg r m hr (by omega)
def V9 (m:Nat) (A B:Mx):Prop:=∀r c,c < m→A r c=B r c
theorem V9.step {m k:Nat} {A B:Mx} (h:V9 m A B) (hk:k < m):match WB A k m,WB B k m with | some A',some B'=>V9 m A' B' | none,none=>True | _,_=>False:=by
 unfold WB Zap;rw [UI (fun r=>h r k hk)]
 cases YW B k k (m - k) with
 | none=>trivial
 | some t=>
  have hs:V9 m (swapM A k t) (swapM B k t):=fun r c hc=>by
   unfold swapM;split
   ·exact h t c hc
   ·split
    ·exact h k c hc
    ·exact h r c hc
  have h2:V9 m (scaleTo (swapM A k t) k (m+1) (swapM A k t k k)) (scaleTo (swapM B k t) k (m+1) (swapM B k t k k)):=fun r c hc=>by
   unfold scaleTo;rw [hs r c hc,hs k k hk]
  show V9 m _ _;intro r c hc;unfold ZV;rw [h2 r c hc,h2 r k hk,h2 k c hc]
theorem V9.gj {m:Nat} {A B:Mx} (h:V9 m A B):∀(k:Nat),k≤m→match gj A m k,gj B m k with | some A',some B'=>V9 m A' B' | none,none=>True | _,_=>False
 | 0,_=>h
 | k+1,hk=>by
  have ih:=V9.gj h k (by omega)
  unfold Pl.gj
  generalize Pl.gj A m k=X at ih ⊢
  generalize Pl.gj B m k=Y at ih ⊢
  match X,Y,ih with
  | some A',some B',ih=>exact ih.step (by omega)
  | none,none,_=>trivial
theorem Zec {m:Nat} {cols:Mx} (b b':Nat→Rat):(YK m cols b).isSome=(YK m cols b').isSome:=by
 have h:V9 m (VN m cols b) (VN m cols b'):=fun r c hc=>by unfold VN;rw [if_pos hc,if_pos hc]
 have:=h.gj m (JY _);unfold YK;generalize Pl.gj (VN m cols b) m m=X at this ⊢;generalize Pl.gj (VN m cols b') m m=Y at this ⊢
 match X,Y,this with
 | some A',some B',_=>rfl
 | none,none,_=>rfl
end Pl
end Go.Proofs.YtncmobkhenfhpaaGreat
