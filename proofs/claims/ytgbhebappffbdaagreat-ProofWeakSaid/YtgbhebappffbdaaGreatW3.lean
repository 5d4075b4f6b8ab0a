/- Lemmas of the claim; no condition. -/
import Derived.Test.YtgbhebappffbdaaGreatW2
import Derived.StillTail
set_option linter.all false
set_option maxRecDepth 100000
set_option maxHeartbeats 40000000
namespace Go.Proofs.YtgbhebappffbdaaGreat
open Go.RowKit
open Pl
attribute [local go_sem ↓] Go.wp_at_zero Go.wp_at_succ
theorem Zbj (v1 v2:Value) (xs ys:List Nat) (w:World) (h1:Z6 w v1 xs) (h2:Z6 w v2 ys) (hle:val ys≤val xs) (hlen:ys.length≤xs.length) (hs:xs.length≤549755813888):
 Calls Tryz.prog 116 #[v1,v2] w fun e w'=>∃k l,e= .returned (.slice (some ⟨w.heap.size,0,none⟩) k l)∧Z6 w' (.slice (some ⟨w.heap.size,0,none⟩) k l) (Zq (val xs - val ys))∧Below w.heap.size w w':=by
 have HL:=JZ hle;clear hle;obtain ⟨A,l,c,rfl⟩:=h1.shape;obtain ⟨hl,m,o,hc⟩:=h1.len;have f:=Y8 l (by omega);have HX:Hid (xs.length≤l):=JZ (by omega);have HY:Hid (ys.length≤l):=JZ (by omega);have n:(l:Int)≤549755813888:=by omega
 have g:=h1.ok;have h:=h2.ok;clear hl m hlen hs;go_enter Tryz.func116,Tryz.ntmps116;go_wp2;clear f
 go_loopw [6,7] (fun cy i wr=>∃(k:Nat) (O:List Nat) (z:Int),k≤l∧i= .int .i64 k∧cy= .int .u64 z∧0≤z∧z≤1∧l≤O.length∧O.length≤l∧Y6 wr w.heap.size O∧okD O∧Below w.heap.size w wr∧
  (vt O k:Int) - z * ((B32^k:Nat):Int)=vt xs k - vt ys k) (fun _ i _=>l - (intOf i).toNat)
 case atStart=>exact ⟨0,List.replicate l 0,0,by omega,rfl,rfl,by omega,by omega,by simp,by simp,Y6.zeros w _,ZR _,(JR _ _).alloc (JY _) _,by simp [Xg]⟩
 case round=>
  obtain ⟨k,O,z,hk,rfl,rfl,z0,z1,hO,b,hB,ok,a,d⟩:=hrel;have HE:=JZ d;clear d;rcases JX k l with hkl | hkl
  ·have x0:=Zu xs k;have x1:=Yu g k;have y0:=Zu ys k;have y1:=Yu h k;have ho:=hB.cell (k:=k) (by omega);have hf:=hB.frozen k;go_wp2_with fail;refine (WI _ xs k _ (h1.below a) (by omega)).mono ?_;rintro e w1 ⟨rfl,rfl⟩;go_wp2_with fail;refine (WI _ ys k _ (h2.below a) (by omega)).mono ?_;rintro e w1 ⟨rfl,rfl⟩;obtain ⟨x,hx⟩:∃x,x=di xs k+4294967296 - di ys k - z:=⟨_,rfl⟩;have j:=JZ hx;have q1:IntKind.u64.wrap (di xs k+4294967296)=di xs k+4294967296:=u64_in _ (by omega) (by omega);have q2:IntKind.u64.wrap (di xs k+4294967296 - di ys k)=di xs k+4294967296 - di ys k:=u64_in _ (by omega) (by omega);have q3:IntKind.u64.wrap (di xs k+4294967296 - di ys k - z)=x:=(by rw [hx];exact u64_in _ (by omega) (by omega));have r0:0≤x:=(by omega);have r1:x≤8589934591:=(by omega);clear hx;have q4:IntKind.u64.wrap (1 - x / 4294967296)=1 - x / 4294967296:=u64_in _ (by omega) (by omega);go_wp2;go_roundw
   case rel=>exact ⟨k+1,O.set k (x % 4294967296).toNat,1 - x / 4294967296,by omega,by go_num,rfl,by omega,by omega,by simpa using hO,by simpa using b,hB.setI k (by omega),ZT ok k (by unfold B32;omega),a.setCell (JY _) _,Zcp (by omega) rfl (by omega) (by have:=j.out;omega) HE.out⟩
   case measure=>simp [intOf];omega
  ·obtain rfl:k=l:=by omega
   go_wp2_with fail;refine (Zgp _ _ _ O _ ?_).mono ?_
   ·have:=hB.dig ok (c:=k) b (by unfold maxLen;omega)
    rwa [show O.length=k from by omega] at this
   rintro e w1 ⟨k',rfl,hv,rfl⟩;go_wp2_with fail;go_ret;refine ⟨_,_,rfl,?_,a⟩
   rwa [Zyt (show O.length=k by omega) ok z0 HX.out HY.out HL.out HE.out] at hv
theorem Zbk (v1 v2:Value) (xs ys:List Nat) (w:World) (h1:Z6 w v1 xs) (h2:Z6 w v2 ys) (hle:val ys≤val xs) (hlen:ys.length≤xs.length) (hs:xs.length≤549755813888):
 Calls Tryz.prog 116 #[v1,v2] w fun e w'=>∃v',e= .returned v'∧Z6 w' v' (Zq (val xs - val ys))∧Below w.heap.size w w':=
 (Zbj v1 v2 xs ys w h1 h2 hle hlen hs).mono fun _ _ ⟨_,_,h1,h2,h3⟩=>⟨_,h1,h2,h3⟩
theorem Zjt (v1 v2:Value) (xs ys:List Nat) (w:World) (h1:Z6 w v1 xs) (h2:Z6 w v2 ys) (hs:xs.length+ys.length≤1099511627776):
 Calls Tryz.prog 118 #[v1,v2] w fun e w'=>∃v',e= .returned v'∧Z6 w' v' (Zq (val xs * val ys))∧Below w.heap.size w w':=by
 obtain ⟨A,l,c,rfl⟩:=h1.shape;obtain ⟨hl,B,J,hc⟩:=h1.len;obtain ⟨A2,l2,c2,rfl⟩:=h2.shape;obtain ⟨kl,C,K,kc⟩:=h2.len;have v:=h1.ok;have x:=h2.ok;have p:=Y8 (l+l2) (by omega)
 push_cast at p
 have I:(l:Int)+(l2:Int)≤1099511627776:=by omega
 have HX:Hid (xs.length≤l):=JZ (by omega);have HY:Hid (ys.length=l2):=JZ (by omega);clear hl B kl C hs;go_enter Tryz.func118,Tryz.ntmps118;go_wp2;clear p
 go_loopw [6] (fun i wr=>∃(k:Nat) (O:List Nat),k≤l∧i= .int .i64 k∧l+l2≤O.length∧O.length≤l+l2∧Y6 wr w.heap.size O∧okD O∧Below w.heap.size w wr∧
  (val O:Int)=(vt xs k:Int) * val ys∧(∀j,k+l2≤j→dg O j=0)) (fun i _=>l - (intOf i).toNat)
 case atStart=>exact ⟨0,List.replicate (l+l2) 0,by omega,rfl,by simp,by simp,Y6.zeros w _,ZR _,(JR _ _).alloc (JY _) _,by simp [Xg,Wd],fun j _=>VH _ _⟩
 case round=>
  obtain ⟨k,O,hk,rfl,hO,r,hB,ok,n,s,t⟩:=hrel;have HE:=JZ s;have HZ:=JZ t;clear s t;rcases JX k l with hkl | hkl
  ·obtain ⟨b1,G,rfl,D,a⟩:=h1.at_ (by omega);have y:=JZ a;clear a;have x0:=Zu xs k;have x1:=Yu v k;obtain ⟨wo,E⟩:∃wo:World,wo=wr:=⟨_,rfl⟩;subst E;go_wp2
   go_loopw [7,8] (fun cy i wr=>∃(j:Nat) (O':List Nat) (z:Int),j≤l2∧i= .int .i64 j∧cy= .int .u64 z∧0≤z∧z≤4294967295∧l+l2≤O'.length∧O'.length≤l+l2∧Y6 wr w.heap.size O'∧okD O'∧Below w.heap.size w wr∧
    (val O':Int)+z * ((B32^(k+j):Nat):Int)=(val O:Int)+di xs k * ((B32^k:Nat):Int) * vt ys j∧(∀i,k+l2≤i→dg O' i=0)) (fun _ i _=>l2 - (intOf i).toNat)
   case atStart=>exact ⟨0,O,0,by omega,rfl,rfl,by omega,by omega,hO,r,hB,ok,n,by simp [Xg],HZ.out⟩
   case round=>
    clear n hB;obtain ⟨j,O',z,hj,rfl,rfl,z0,z1,hP,u,f,o,b,g,h⟩:=hrel;have q:=JZ g;have m:=JZ h;clear g h;rcases JX j l2 with hjl | hjl
    ·obtain ⟨b2,H,rfl,F,d⟩:=h2.at_ (by omega);have hx:=We b D y.out hkl;have hy:=We b F d hjl;clear d;have y0:=Zu ys j;have y1:=Yu x j;have p0:0≤di xs k * di ys j:=Int.mul_nonneg x0 y0;have p1:di xs k * di ys j≤4294967295 * 4294967295:=Int.mul_le_mul x1 y1 y0 (by omega);have ho:=f.cell (k:=k+j) (by omega);have hf:=f.frozen (k+j);have o0:=Zu O' (k+j);have o1:=Yu o (k+j);have g1:IntKind.u64.wrap (di O' (k+j))=di O' (k+j):=u64_in _ o0 (by omega);have g2:IntKind.u64.wrap (z+di O' (k+j))=z+di O' (k+j):=u64_in _ (by omega) (by omega);have g3:IntKind.u64.wrap (di xs k)=di xs k:=u64_in _ x0 (by omega);have g4:IntKind.u64.wrap (di ys j)=di ys j:=u64_in _ y0 (by omega);have g5:IntKind.u64.wrap (di xs k * di ys j)=di xs k * di ys j:=u64_in _ p0 (by omega);have g6:IntKind.u64.wrap (z+di O' (k+j)+di xs k * di ys j)=z+di O' (k+j)+di xs k * di ys j:=u64_in _ (by omega) (by omega);have g7:IntKind.i64.wrap ((k:Int)+j)=(k:Int)+j:=(by simp only [IntKind.wrap,IntKind.bits,IntKind.signed];simp;omega);have g8:((k:Int)+j).toNat=k+j:=(by omega);have g9:(k:Int)+j < (l:Int)+l2:=(by omega);go_wp2
     go_quiet (fail)
     obtain ⟨T,hT⟩:∃T,T=z+di O' (k+j)+di xs k * di ys j:=⟨_,rfl⟩;have T0:0≤T:=(by omega);have T1:T≤18446744073709551615:=(by omega);rw [← hT];have HT:=JZ hT;clear hT g1 g2 g3 g4 g5 g6 p0 p1;go_wp2;go_roundw
     case rel=>exact ⟨j+1,O'.set (k+j) (T % 4294967296).toNat,T / 4294967296,by omega,by go_num,rfl,by omega,by omega,by simpa using hP,by simpa using u,(show Y6 (wr.drewN nq) w.heap.size O' from f).setI _ (by omega),ZT o _ (by unfold B32;omega),(below_drewN b nq).setCell (JY _) _,Ztn (by omega) (by omega) (by have:=HT.out;omega) q.out,fun i hi=>by rw [Yt (by omega)];exact m.out i hi⟩
     case measure=>simp [intOf];omega
    ·obtain rfl:j=l2:=by omega
     have ho:=f.cell (k:=k+j) (by omega);have hf:=f.frozen (k+j);go_wp2;go_roundw
     case rel=>exact ⟨k+1,O'.set (k+j) z.toNat,by omega,by go_num,by simpa using hP,by simpa using u,f.setI _ (by omega),ZT o _ (by unfold B32;omega),b.setCell (JY _) _,Zhf HE.out (Zkd HY.out (by omega) z0 (m.out _ (JY _)) q.out),fun i hi=>by rw [Yt (by omega)];exact m.out i (by omega)⟩
     case measure=>simp [intOf];omega
  ·obtain rfl:k=l:=by omega
   go_wp2_with fail;refine (YY _ O _ ?_).mono ?_
   ·have:=hB.dig ok (c:=k+l2) r (by unfold maxLen;omega)
    rwa [show O.length=k+l2 from by omega] at this
   rintro e w1 ⟨v',rfl,hv,rfl⟩;go_wp2_with fail;go_ret;refine ⟨_,rfl,?_,n⟩
   rwa [Zzb HX.out HE.out] at hv
theorem Zju (ty:TypeId) (w:World) (A:Option Addr) (n c:Nat) (ds:List Nat) (h:Z6 w (.slice A n c) ds) (hs:ds.length≤549755813888):
 ∃v' w',(Builtin.append_ #[42,42] ty #[.slice none 0 0,.slice A n c]).run Tryz.prog w= .ok v' w'∧w'.ownsRow w.heap.size 148 1 v' ds.length (ds.map uc)∧Below w.heap.size w w':=by
 obtain ⟨i0,hi,d,e,f⟩:=info_parts info_u32;obtain ⟨hl,g,i,hc⟩:=h.len;obtain rfl:n=ds.length:=by omega
 rcases A with _ | ad
 ·have hn:ds=[]:=by
   rcases JV ds.length with h0 | h0
   ·exact List.length_eq_zero_iff.1 h0
   ·obtain ⟨b,j,hA,_⟩:=h.at_ h0
    cases hA
  subst hn;refine ⟨.slice none 0 0,w,?_,World.ownsRow_nil _ _ _ _,JR _ _⟩;simp [Builtin.append_,run_underlying Tryz.underlying42,sizeOf,typeInfo,hi,Builtin.lenOf,Builtin.firstCells]
 ·obtain ⟨v',w',a,h2,h3,_,_⟩:=run_append_own_at (P:=Tryz.prog) w w.heap.size 42 ty 148 i0 _ 1 4 Tryz.underlying42 hi d e f rfl (by decide) (.slice none 0 0) 0 [] (World.ownsRow_nil _ _ _ _) ad ds.length c (ds.map uc) (by simp) h.news (Zap _) (by unfold maxLen;omega) (by omega) (JY _);exact ⟨v',w',a,by simpa using h2,(JR _ _).grown h3 (JY _) (fun k hk=>by simp [Value.ownBlock] at hk)⟩
theorem Zdb {o:Oper} {a:Act} {K:Act→World→Prop} {Q:Exit→Act→World→Prop} (x:Operand)
 (ho:o.op= .call { callee:= .builtin .append,args:=#[.const (.slice none 0 0),x],argTypes:=#[42,42] })
 (w:World) (A:Option Addr) (n c:Nat) (ds:List Nat) (hx:a.eval x= .slice A n c) (h:Z6 w (.slice A n c) ds) (hs:ds.length≤549755813888)
 (hK:∀v' w',w'.ownsRow w.heap.size 148 1 v' ds.length (ds.map uc)→Below w.heap.size w w'→K (a.put o.dst v') w'):o.wp Tryz.prog a w K Q:=by
 obtain ⟨v',w',b,h2,h3⟩:=Zju o.type w A n c ds h hs;have hc:a.eval (.const (.slice none 0 0))= .slice none 0 0:=rfl;unfold Oper.wp execOp;simp only [ho,resolve,invoke,builtin,Sem.run_bind,Sem.run_pure,Result.andThen_ok,List.map_toArray,List.map_cons,List.map_nil,hc,hx,b];exact hK v' w' h2 h3
theorem Zeu {ops:Array Oper} {rest:List Oper} {o:Oper} {a:Act} {Q:Exit→Act→World→Prop} (hgd:o.guard=none) (x:Operand)
 (ho:o.op= .call { callee:= .builtin .append,args:=#[.const (.slice none 0 0),x],argTypes:=#[42,42] })
 (w:World) (A:Option Addr) (n c:Nat) (ds:List Nat) (hx:a.eval x= .slice A n c) (h:Z6 w (.slice A n c) ds) (hs:ds.length≤549755813888)
 (hK:∀v' w',w'.ownsRow w.heap.size 148 1 v' ds.length (ds.map uc)→Below w.heap.size w w'→wpList Tryz.prog ops Q rest (a.put o.dst v') w'):wpList Tryz.prog ops Q (o::rest) a w:=
 wpList_plain hgd fun _ hk=>Zdb x ho w A n c ds hx h hs fun v' w' h2 h3=>hk _ _ (hK v' w' h2 h3)
theorem Yel {d s:Nat} (hs:s≤31) (hd:d < B32) (h:2^(s+1)∣d):bits .or .u32 (d:Int) (2^s)=((d+2^s:Nat):Int):=by
 have h2:2^s≤2^31:=Nat.pow_le_pow_right (by decide) hs;rw [YO,u32_or_nat _ _ (by unfold B32 at hd;omega) (by omega),or_bit h]
def Off (g:Nat) (v:Value):Prop:=∀a n c,v= .slice (some a) n c→a.block≠g
theorem Off.mk {g b o n c:Nat} (h:b≠g):Off g (.slice (some ⟨b,o,none⟩) n c):=fun a n' c' e=>by
 injection e with e1
 injection e1 with e1
 subst e1
 exact h
theorem Off.own {w:World} {base e size n g:Nat} {v:Value} {xs:List Value} (h:w.ownsRow base e size v n xs) (hg:w.heap.size≤g):Off g v:=fun a n' c' he=>by
 rcases h.2 with ⟨rfl,_⟩ | ⟨k,cap,cur,rfl,_,hh,_⟩
 ·injection he with e1;cases e1
 ·injection he with e1
  injection e1 with e1
  subst e1
  have:=YA hh
  show k≠g
  omega
theorem Z6.far {w:World} {v:Value} {ds:List Nat} {g:Nat} (h:Z6 w v ds) (ho:Off g v) (k:Nat) (u:Value):Z6 (w.setCell ⟨g,k,none⟩ u) v ds:=by
 obtain ⟨A,c,hv,h1,h2,h3,h4⟩:=h;refine ⟨A,c,hv,h1,h2,h3,fun hp=>?_⟩;obtain ⟨b,d,cs,fz,hA,hb,hc⟩:=h4 hp;have a:b≠g:=by subst hA;exact ho _ _ _ hv
 exact ⟨b,d,cs,fz,hA,by rw [heap_setCell_other w _ _ _ a];exact hb,hc⟩
def Ynw (X Y q g:Nat) (w:World) (r d:Value) (z:Int) (wr:World) (Q:List Nat) (R D:Nat):Prop:=
 Z6 wr r (Zq R)∧Z6 wr d (Zq D)∧D=Y * 2^(z+1).toNat / 2∧R < Y * 2^(z+1).toNat∧X=val Q * Y+R∧2^(z+1).toNat∣val Q∧Y6 wr g Q∧okD Q∧q+1≤Q.length∧Q.length≤q+1∧Below w.heap.size w wr∧(Zq R).length≤137438953472∧(Zq D).length≤549755813888∧Off g r∧Off g d
def Zwk (X Y:Nat) (w:World) (e:Ending) (w':World):Prop:=
 ∃v1 v2,e= .returned (.tuple #[v1,v2])∧Z6 w' v1 (Zq (X / Y))∧Z6 w' v2 (Zq (X % Y))∧Below w.heap.size w w'
theorem Zbl (v1 v2:Value) (xs ys:List Nat) (w:World) (h1:Z6 w v1 xs) (h2:Z6 w v2 ys) (hy:val ys≠0) (hs1:(Zq (val xs)).length≤137438953472) (hs2:ys.length≤137438953472):
 Calls Tryz.prog 145 #[v1,v2] w (Zwk (val xs) (val ys) w):=by
 have ac:(Zq (val ys)).length≤137438953472:=JW (Vp h2.ok) hs2;generalize hX:val xs=X at *;generalize hY:val ys=Y at *;have HX:=JZ hX;have HY:=JZ hY;have ad:=JZ hy;clear hX hY hy;go_enter Tryz.func145,Tryz.ntmps145;go_wp2_with fail;refine (YY _ xs _ h1).mono ?_;rw [HX.out];rintro e w1 ⟨u1,rfl,g1,rfl⟩;obtain ⟨A,l,c,rfl⟩:=g1.shape;go_wp2_with (at_builtin;refine Zeu rfl (.tmp 12) rfl _ A l c (Zq X) rfl g1 (by omega) ?_);intro v' w1 C b;have d1:=VU C (Yj X);have o1:=Off.own C (JY _);clear C;go_wp2_with fail;refine (Zhm _ xs _ (h1.below b) (by rw [HX.out];omega)).mono ?_;rw [HX.out];rintro e w2 ⟨rfl,rfl⟩;go_wp2_with fail;refine (Zhm _ ys _ (h2.below b) (by rw [HY.out];omega)).mono ?_;rw [HY.out];rintro e w2 ⟨rfl,rfl⟩;have b1:=@Yhe X;have b2:=@Yhe Y;rcases JX (bl X) (bl Y) with hlt | hge
 ·have hq:X / Y=0∧X % Y=X:=⟨Nat.div_eq_of_lt (Zoe hlt),Nat.mod_eq_of_lt (Zoe hlt)⟩;have HQ:=JZ hq;have ht:(bl X:Int) - bl Y < 0:=by omega
  clear hq;go_wp2;go_ret2;exact ⟨_,_,rfl,by rw [HQ.out.1,digs_zero];exact Z6.nil _ _ _ (by simp),by rw [HQ.out.2];exact d1,b⟩
 ·have g:=Yef hge ad.out;obtain ⟨n,hn⟩:∃n:Nat,n=bl X - bl Y:=⟨_,rfl⟩;have am:(bl X:Int) - bl Y=(n:Int):=by omega
  rw [← hn] at g;have ae:=JZ g;obtain ⟨q,s,a9,hs⟩:∃q s,n=32 * q+s∧s≤31:=⟨n / 32,n % 32,by omega,by omega⟩;have an:(n:Int)≤4398046511104:=by omega
  have ao:q≤137438953472:=by omega
  have hq:(n:Int) / 32=(q:Int):=by omega
  have HN:=JZ a9;have a1:=Y8 (q+1) (by omega)
  push_cast at a1
  clear g hn b1 b2 a9;go_wp2_with fail;clear a1;obtain ⟨W,hW⟩:∃W,W=w1.alloc (.cells (zc (q+1)) 148):=⟨_,rfl⟩;have O:Below w1.heap.size w1 W:=hW▸Zi _ _;have hB:Y6 W w1.heap.size (List.replicate (q+1) 0):=hW▸Y6.zeros w1 _;rw [← hW];clear hW;have m:=Za b O b.size;have hc:=Zwj v2 ys q s W (h2.below m) hs (by omega);rw [← HN.out,HY.out] at hc;refine hc.mono ?_;clear hc;rintro e w2 ⟨kd,ld,rfl,d2,H⟩;have o2:Off w1.heap.size (.slice (some ⟨W.heap.size,0,none⟩) kd ld):=Off.mk (by have:=hB.lt;omega);have a2:=hB.below H hB.lt;have a:=Za m H m.size;have d3:=(d1.below O).below H;have af:w.heap.size≤w1.heap.size:=b.size;clear hB b m d1 O H g1 h1 h2;have a3:(Zq (Y * 2^n)).length≤549755813888:=by
   refine JW (XB Y (2^n)) ?_;have:(Zq (2^n)).length≤q+1:=Xw (by rw [Zet];exact Nat.pow_lt_pow_right (by decide) (by have:=HN.out;omega));omega
  have ag:=JZ a3;have ah:Hid ((Zq X).length≤137438953472):=JZ hs1;have ap:¬(n:Int) < 0:=by omega
  clear a3 hs1 ac hge;go_wp2
  go_loopw [6,9,10] (fun r d i wr=>∃(z:Int) (Q:List Nat) (R D:Nat),-1≤z∧z≤n∧i= .int .i64 z∧Ynw X Y q w1.heap.size w r d z wr Q R D) (fun _ _ i _=>(intOf i+1).toNat)
  case atStart=>exact ⟨n,List.replicate (q+1) 0,X,Y * 2^n,by omega,by omega,rfl,d3,d2,by rw [show ((n:Int)+1).toNat=n+1 by omega,Zty],by rw [show ((n:Int)+1).toNat=n+1 by omega];exact ae.out,by rw [Wd];simp,by rw [Wd];exact ⟨0,rfl⟩,a2,ZR _,by simp,by simp,a,ah.out,ag.out,o1,o2⟩
  case round=>
   obtain ⟨z,Q,R,D,az,b0,rfl,dr,dd,hD,hR,aa,t,hB,v,hQ,Z,b,ab,F,oR,oD⟩:=hrel;have HD:=JZ hD;have HR:=JZ hR;have P:=JZ aa;have a4:=JZ t;clear hD hR aa t d2 d3 a2 a;rcases Int.lt_or_le z 0 with hz | hz
   ·obtain rfl:z= -1:=by omega
    have e0:((-1:Int)+1).toNat=0:=rfl;have:=HR.out;rw [e0,Nat.pow_zero,Nat.mul_one] at this;have HE:=JZ (Yjc P.out this);clear this e0;go_wp2_with fail;refine (YY _ Q _ ?_).mono ?_
    ·have:=hB.dig v (c:=q+1) Z (by unfold maxLen;omega)
     rwa [show Q.length=q+1 from by omega] at this
    rintro e w3 ⟨v3,rfl,h3,rfl⟩;go_wp2;go_ret2;exact ⟨_,_,rfl,by rw [← HE.out.1];exact h3,by rw [← HE.out.2];exact dr,b⟩
   ·obtain ⟨i,rfl⟩:=JT hz;have e1:((i:Int)+1).toNat=i+1:=(by omega);have hR:=HR.out;have hD:=HD.out;have t:=a4.out;rw [e1] at hR hD t;rw [Zty] at hD;have ai:=JZ hR;have u:=JZ hD;have x:=JZ t;have aq:i≤n:=(by omega);clear hR hD t HR HD a4 e1;obtain ⟨I,hI⟩:∃I,I=i / 32:=⟨_,rfl⟩;obtain ⟨J,hJ⟩:∃J,J=i % 32:=⟨_,rfl⟩;have ar:(i:Int) / 32=(I:Int):=(by omega);have au:(i:Int) % 32=(J:Int):=(by omega);have av:I≤q:=(by have:=HN.out;omega);have K:J≤31:=(by omega);have S:=Yja v x.out;have o:=fun h=>Yjb (Q:=Q) (i:=i) h
    rw [← hI] at o;rw [← hJ] at o;rw [← hI,← hJ] at S;have L:=JZ o;have a5:=JZ S;clear hI hJ o S;go_wp2_with fail;refine (YZ _ _ _ _ _ dr dd).mono ?_;rw [Zm,Zm];rintro e w3 ⟨rfl,B⟩;have T:=dr.below B;have E:=dd.below B;have j:=hB.below B hB.lt;have a:=Za b B b.size;clear dr dd hB b B;rcases JX R D with hlt | hge
    ·have hc:cmpN R D= -1:=UQ hlt;have aj:=JZ hlt;rw [hc];clear hc hlt;go_wp2_with fail;refine (Zof _ _ _ E F).mono ?_;rw [Zm];rintro e w4 ⟨k4,l4,rfl,d4,f⟩;go_wp2;go_roundw
     case rel=>exact ⟨(i:Int) - 1,Q,R,D / 2,by omega,by omega,rfl,T.below f,d4,by rw [show ((i:Int) - 1+1).toNat=i by omega,← u.out],by rw [show ((i:Int) - 1+1).toNat=i by omega,← u.out];exact aj.out,P.out,by rw [show ((i:Int) - 1+1).toNat=i by omega];exact Yei x.out,j.below f j.lt,v,hQ,Z,Za a f a.size,ab,JW (Zy (Nat.div_le_self _ _)) F,oR,Off.mk (by have:=j.lt;omega)⟩
     case measure=>simp [intOf]
    ·have hc:0≤cmpN R D:=(by unfold cmpN;split;omega;split <;> omega);have aw:=Zrb R D;have g:=Yeh P.out ai.out (by rw [← u.out];exact hge) x.out;rw [← u.out] at g;have y:=JZ g;have M:=JZ hge;have ax:=Yel K (Zyr v I) a5.out;have a6:=JZ (Yeg (show J < 32 by omega) (Zyr v I) a5.out);have ay:=Vr K;have al:=WM J;generalize cmpN R D=cc at *;clear g hge;go_wp2_with fail;refine (Zbj _ _ _ _ _ T E (by rw [Zm,Zm];exact M.out) (Zy M.out) (by omega)).mono ?_;rw [Zm,Zm];rintro e w4 ⟨k4,l4,rfl,d4,f⟩;have o4:Off w1.heap.size (.slice (some ⟨w3.heap.size,0,none⟩) k4 l4):=Off.mk (by have:=j.lt;omega);have U:=j.below f j.lt;have a7:=E.below f;have a8:=Za a f a.size;clear T E j a f;have ho:=U.cell (k:=I) (by omega);have hf:=U.frozen I;rw [YE] at ho;have V:=U.set_ I (dg Q I+2^J);have d5:=d4.far o4 I (.int .u32 ((dg Q I+2^J:Nat):Int));have ak:=a7.far oD I (.int .u32 ((dg Q I+2^J:Nat):Int));have N:=a8.setCell (p:=⟨w1.heap.size,I,none⟩) af (.int .u32 ((dg Q I+2^J:Nat):Int));generalize ((dg Q I+2^J:Nat):Int)=G at *;clear a7 d4;go_wp2_with fail;refine (Zof _ _ _ ak F).mono ?_;rw [Zm];rintro e w6 ⟨k6,l6,rfl,d6,a0⟩;rw [World.size_setCell] at d6;go_wp2;go_roundw
     case rel=>exact ⟨(i:Int) - 1,Q.set I (dg Q I+2^J),R - D,D / 2,by omega,by omega,rfl,d5.below a0,d6,by rw [show ((i:Int) - 1+1).toNat=i by omega,← u.out],by rw [show ((i:Int) - 1+1).toNat=i by omega,← u.out];exact y.out.2.1,by rw [L.out (by omega)];exact y.out.1,by rw [show ((i:Int) - 1+1).toNat=i by omega,L.out (by omega)];exact y.out.2.2,V.below a0 V.lt,ZT v _ a6.out,by simpa using hQ,by simpa using Z,Za N a0 N.size,JW (Zy (Nat.sub_le _ _)) ab,JW (Zy (Nat.div_le_self _ _)) F,o4,Off.mk (by have:=V.lt;rw [World.size_setCell] at this;omega)⟩
     case measure=>simp [intOf]
theorem Zaa {ops:Array Oper} {o:Oper} {a:Act} {K:Act→World→Prop} {Q:Exit→Act→World→Prop} {E:Prop} (hgd:o.guard=none) (x:Operand)
 (ho:o.op= .call { callee:= .builtin .append,args:=#[.const (.slice none 0 0),x],argTypes:=#[42,42] })
 (w:World) (A:Option Addr) (n c:Nat) (ds:List Nat) (hx:a.eval x= .slice A n c) (h:Z6 w (.slice A n c) ds) (hs:ds.length≤549755813888)
 (hK:∀v' w',w'.ownsRow w.heap.size 148 1 v' ds.length (ds.map uc)→Below w.heap.size w w'→K (a.put o.dst v') w'):
 if Region.wanted o (yielded ops a.tmps)=true then Oper.wp Tryz.prog o a w K Q else E:=by
 have hw:Region.wanted o (yielded ops a.tmps)=true:=by simp [Region.wanted,hgd]
 rw [if_pos hw];exact Zdb x ho w A n c ds hx h hs hK
theorem Bk.snd {w:World} {g:Nat} {t:TypeId} {a b:Value} (h:Bk w g t [a,b]):w.cell? ⟨g,1,none⟩=some b:=h.two.2.1
def Ylw (G:Nat) (w:World) (Y:Nat) (s t:Value) (wr:World):Prop:=
 ∃X,Z6 wr s (Zq X)∧Z6 wr t (Zq Y)∧Nat.gcd X Y=G∧(Zq X).length≤137438953472∧(Zq Y).length≤137438953472∧Below w.heap.size w wr∧Bk wr (w.heap.size+1+1) 44 [.bool false,.slice none 0 0]
theorem Yen (v1 v2:Value) (a b:RI) (w:World) (h1:Yv w v1 a) (h2:Yv w v2 b) (hs:(Zq (val a.ds)).length≤137438953472) (hs2:(Zq (val b.ds)).length≤137438953472):
 Calls Tryz.prog 110 #[v1,v2] w fun e w'=>∃v',e= .returned v'∧Yv w' v' (canI (Nat.gcd (val a.ds) (val b.ds):Nat))∧Below w.heap.size w w':=by
 obtain ⟨A,n,c,rfl,hd⟩:=h1.shape;obtain ⟨A',n',c',rfl,v⟩:=h2.shape;obtain ⟨W,hW,hX,hY,hR,d⟩:=Ygz w (.bool a.neg) (.slice A n c) (.bool b.neg) (.slice A' n' c');have d1:=hd.below d;have d2:=v.below d;obtain ⟨G,hG⟩:∃G,G=Nat.gcd (val a.ds) (val b.ds):=⟨_,rfl⟩;rw [← hG];have HG:=JZ hG;clear hG;have p:True:=trivial;go_enter Tryz.func110,Tryz.ntmps110;go_wp2_with fail;clear hW
 go_region_held3 (fun w'=>w'.cell? ⟨w.heap.size,1,none⟩=some (.slice A n c)∧w'.cell? ⟨w.heap.size+1,1,none⟩=some (.slice A' n' c'))
  (first | with_reducible exact ⟨hX.drew.snd,hY.drew.snd⟩ | with_reducible exact ⟨(hX.drew.later f).snd,(hY.drew.later f).snd⟩ | with_reducible exact ⟨((hX.drew.later f).later h).snd,((hY.drew.later f).later h).snd⟩)
  (first
   | (go_at_call 117;have _t:=p;refine (YY _ a.ds _ (d1.keep (ZG.drew _))).mono ?_;clear p _t;rintro e w3 ⟨v3,rfl,e3,rfl⟩;obtain ⟨A3,n3,k3,rfl⟩:=e3.shape)
   | (go_at_call 117;refine (YY _ b.ds _ ((d2.keep (ZG.drew _)).below f)).mono ?_;rintro e w3 ⟨v4,rfl,e4,rfl⟩;obtain ⟨A4,n4,k4,rfl⟩:=e4.shape)
   | (refine Zaa rfl (.tmp 15) rfl _ A4 n4 k4 (Zq (val b.ds)) rfl e4 (by omega) ?_;intro v2 w2 o2 h)
   | (refine Zaa rfl (.tmp 11) rfl _ A3 n3 k3 (Zq (val a.ds)) rfl e3 (by omega) ?_;intro v1 w1 o1 f))
 have dx:=(VU o1 (Yj _)).below h;have dy:=VU o2 (Yj _);have q:=(hR.drew.later f).later h;have l:=Za d.drew f d.size;have i:=Za l h l.size;clear o1 o2 l f h e3 e4 d1 d2 hd v h1 h2 hX hY hR d;go_wp2
 go_loopg [5,6] (val b.ds) (fun k s t wr=>Ylw G w k s t wr)
 case atStart=>exact ⟨_,dx,dy,HG.out.symm,hs,hs2,i,q⟩
 case round=>
  obtain ⟨X,dX,dY,j,y,o,d,hR⟩:=hrel;have r:=JZ j;clear j dx dy i q;obtain ⟨A3,n3,k3,rfl⟩:=dY.shape;obtain ⟨kl,x,z,kc⟩:=dY.len;rcases JV n3 with h0 | h0
  ·have hv:gk=0:=Vb (by omega);have HV:=JZ hv;subst h0;clear hv kl x;go_wp2_with fail;refine (Ul false _ X _ dX (by omega)).mono ?_;rw [show sm false X=(G:Int) by have:=r.out;rw [HV.out,Nat.gcd_zero_right] at this;rw [this];rfl];rintro e w3 ⟨v3,rfl,e3,g⟩;obtain ⟨A1,n1,k1,rfl,_⟩:=e3.shape;have m:=hR.later g;obtain ⟨c0,c1,f0,f1⟩:=m.two;go_wp2;refine Zp Tryz.results110 Tryz.underlying44 (by kernel_rfl) rfl (m.set2 _ _) rfl ?_;exact Y9 m e3 (Za d g d.size) (by omega)
  ·have hv:gk≠0:=UT (by omega);have HV:=JZ hv;clear hv kl x;go_wp2_with fail;have hc:=Zbl _ _ (Zq X) (Zq gk) _ dX dY (by rw [Zm];exact HV.out) (by rw [Zm];exact y) o;rw [Zm,Zm] at hc;refine hc.mono ?_;clear hc;rintro e w3 ⟨v3,v4,rfl,d3,d4,g⟩;have u:=Nat.mod_lt X (Nat.pos_of_ne_zero HV.out);go_wp2
   go_roundg (X % gk)
   case measure=>exact u
   case rel=>exact ⟨gk,dY.below g,d4,by rw [← r.out,Nat.gcd_comm X gk,Nat.gcd_rec gk X,Nat.gcd_comm],o,JW (Zy (Nat.le_of_lt u)) o,Za d g d.size,hR.later g⟩
def Zdd (a b:RI):Bool:=(a.neg==b.neg) && decide (a.ds=b.ds)
def Yab (z:Int) (w:World) (e:Ending) (w':World):Prop:=∃q r,e= .returned (.tuple #[q,r,.int .i64 0])∧Yv w' q (canI z)∧Yv w' r (canI 0)∧Below w.heap.size w w'
theorem Zwl {a b:RI} (h:a.neg=b.neg) (h2:a.ds=b.ds):Zdd a b=true:=by simp [Zdd,h,h2]
theorem Zoh {a b:RI} (h:(a.neg==b.neg)=false):Zdd a b=false:=by simp [Zdd,h]
theorem Zfu {a b:RI} (h:a.ds≠b.ds):Zdd a b=false:=by simp [Zdd,h]
theorem ZM {a b:Bool} (h:b=a):Ending.returned (.bool a)= .returned (.bool b):=by rw [h]
theorem Ynx {a b:List Nat} {k:Nat} (h:dg a k≠dg b k):a≠b:=fun e=>h (by rw [e])
theorem Yny {a b:List Nat} (hl:a.length=b.length) (h:∀k,k < a.length→dg a k=dg b k):a=b:=
 Zct hl fun j=>by
  rcases JX j a.length with g | g
  ·exact h j g
  ·rw [Vo g,Vo (by omega)]
theorem Zhn (v1 v2:Value) (a b:RI) (w:World) (h1:Yv w v1 a) (h2:Yv w v2 b):
 Calls Tryz.prog 88 #[v1,v2] w fun e w'=>e= .returned (.bool (Zdd a b))∧Below w.heap.size w w':=by
 obtain ⟨A,n,c,rfl,hd⟩:=h1.shape;obtain ⟨A',n',c',rfl,s⟩:=h2.shape;obtain ⟨W,hW,hX,hY,h⟩:=Yaa w (.bool a.neg) (.slice A n c) (.bool b.neg) (.slice A' n' c');have d1:=hd.below h;have d2:=s.below h;obtain ⟨x0,x1,_,_⟩:=hX.two;obtain ⟨y0,y1,_,_⟩:=hY.two;obtain ⟨hl,l,y,hc⟩:=hd.len;obtain ⟨kl,p,z,kc⟩:=s.len;by_cases m:(a.neg==b.neg)=true
 ·have hb:(a.neg !=b.neg)=false:=by simpa [bne] using m
  have t:=JZ (beq_iff_eq.1 m);clear m;by_cases hn:n=n'
  ·have r:((n:Int) !=(n':Int))=false:=(by simp;omega);subst hn;have HL:Hid (a.ds.length=n∧b.ds.length=n):=JZ ⟨by omega,by omega⟩;clear hl l kl p r;go_enter Tryz.func88,Tryz.ntmps88;go_wp2;clear hW hb
   go_loopw [5] (fun i wr=>∃(k q:Nat),k≤n∧i= .int .i64 k∧wr=W.drewN q∧∀j,j < k→dg a.ds j=dg b.ds j) (fun i _=>n - (intOf i).toNat)
   case atStart=>exact ⟨0,0,by omega,rfl,rfl,fun j hj=>by omega⟩
   case round=>
    obtain ⟨k,q,hk,rfl,rfl,hz⟩:=hrel;have HZ:=JZ hz;clear hz;rcases JX k n with hkl | hkl
    ·obtain ⟨b1,v,rfl,_,f⟩:=d1.at_ (by omega);obtain ⟨b2,x,rfl,_,g⟩:=d2.at_ (by omega);have hx:=f k hkl;have hy:=g k hkl;clear f g;by_cases d:dg a.ds k=dg b.ds k
     ·have u:(di a.ds k !=di b.ds k)=false:=(by simp [di,d]);have o:=JZ d;clear d;go_wp2
      go_quiet (fail)
      go_wp2;go_roundw
      case rel=>exact ⟨k+1,q+nq,by omega,by go_num,by rfl,fun j hj=>by
       rcases Nat.eq_or_lt_of_le (Nat.le_of_lt_succ hj) with e | e
       ·subst e;exact o.out
       ·exact HZ.out j e⟩
      case measure=>simp [intOf];omega
     ·have u:(di a.ds k !=di b.ds k)=true:=(by simp [di];omega);have o:=JZ d;clear d;go_wp2
      go_quiet (fail)
      go_wp2;go_ret;exact ⟨ZM (Zfu (Ynx o.out)),below_drewN (below_drewN h _) _⟩
    ·go_wp2;go_ret;exact ⟨ZM (Zwl t.out (Yny (by rw [HL.out.1,HL.out.2]) fun j hj=>HZ.out j (by have:=HL.out.1;omega))),below_drewN h _⟩
  ·have r:((n:Int) !=(n':Int))=true:=(by simp;omega);have HL:Hid (a.ds≠b.ds):=JZ fun e=>hn (by rw [e] at hl l;omega)
   clear hl l kl p hn;go_enter Tryz.func88,Tryz.ntmps88;go_wp2;go_ret;exact ⟨ZM (Zfu HL.out),hW▸h⟩
 ·obtain ⟨na,da⟩:=a;obtain ⟨nb,db⟩:=b;simp only at *;have d:(na=true∧nb=false)∨(na=false∧nb=true):=by cases na <;> cases nb <;> simp_all
  clear m hl l kl p;rcases d with ⟨rfl,rfl⟩ | ⟨rfl,rfl⟩;all_goals
   go_enter Tryz.func88,Tryz.ntmps88;go_wp2;go_ret;exact ⟨ZM (Zoh rfl),hW▸h⟩
namespace Pl
theorem Yeo {x y:Int} (hy:y≠0) (h:y∣x):sm (decide (x < 0) !=decide (y < 0)) (x.natAbs / y.natAbs)=x / y∧x.natAbs % y.natAbs=0:=by
 obtain ⟨k,rfl⟩:=h;rw [Int.natAbs_mul,Nat.mul_div_cancel_left _ (by omega),Int.mul_ediv_cancel_left _ hy,Nat.mul_mod_right];refine ⟨?_,rfl⟩;rcases Int.lt_or_gt_of_ne hy with h | h <;> rcases Int.lt_trichotomy k 0 with g | g | g
 ·have:=Int.mul_pos_of_neg_of_neg h g;rw [decide_eq_false (by omega),decide_eq_true h];simp [sm];omega
 ·subst g;simp [sm]
 ·have:=Int.mul_neg_of_neg_of_pos h g;rw [decide_eq_true this,decide_eq_true h];simp [sm];omega
 ·have:=Int.mul_neg_of_pos_of_neg h g;rw [decide_eq_true this,decide_eq_false (by omega)];simp [sm];omega
 ·subst g;simp [sm]
 ·have:=Int.mul_pos h g;rw [decide_eq_false (by omega),decide_eq_false (by omega)];simp [sm];omega
end Pl
def Ylx (x y:Int) (w:World) (wx:World) (A A':Option Addr) (n c n' c':Nat):Prop:=
 Ylv x y w wx A A' n c n' c'∧Bk wx (w.heap.size+1+1) 44 [.bool false,.slice none 0 0]∧Bk wx (w.heap.size+1+1+1) 44 [.bool false,.slice none 0 0]
theorem Yv.zero_len {w:World} {b:Bool} {A:Option Addr} {n c:Nat} (h:Yv w (.agg #[.bool b,.slice A n c]) (canI 0)):n=0:=by
 obtain ⟨d,_⟩:=h.dig;have:=d.len;rw [canI_zero] at this;simp at this;omega
theorem size_drew (w:World):w.drew.heap.size=w.heap.size:=rfl
theorem Vs {w w':World} (h:Below w.heap.size w w') (o:Obj):Below w.heap.size w (w'.alloc o):=h.alloc h.size o
theorem Xt {w w1 w2:World} (h:Below w.heap.size w w1) (h2:Below w1.heap.size w1 w2):Below w.heap.size w w2:=Za h h2 h.size
theorem Uo {w w':World} (h:Below w.heap.size w w'):Below w.heap.size w w'.drew:=h.drew
theorem Zrp {w w':World} (h:Below w.heap.size w w') {g:Nat} (hg:w.heap.size≤g) (k:Nat) (u:Value):Below w.heap.size w (w'.setCell ⟨g,k,none⟩ u):=h.setCell hg u
theorem Zkf {w w':World} (h:ZG w w') (o:Obj):ZG w (w'.alloc o):=h.trans (ZG.alloc _ _)
theorem Zoi {w w1 w2:World} (h:ZG w w1) (h2:Below w1.heap.size w1 w2):ZG w w2:=h.trans (ZG.of_below h2)
theorem Zoj {w w':World} {g:Nat} {t:TypeId} {x y:Value} (h:ZG w w') (hb:Bk w' g t [x,y]) (ht:t≠148) (c d:Value):ZG w ((w'.setCell ⟨g,0,none⟩ c).setCell ⟨g,1,none⟩ d):=h.trans (hb.keep2 ht c d)
theorem Zlw (w:World) (a b:Addr) (u v:Value):w.heap.size=((w.setCell a u).setCell b v).heap.size:=by simp
theorem Bk.made {w:World} {g:Nat} {t:TypeId} {cs:List Value} (h:g=w.heap.size):Bk (w.alloc (.cells cs.toArray t)) g t cs:=by subst h;exact Bk.new w t cs
theorem Bk.on {w w':World} {g:Nat} {t:TypeId} {cs:List Value} (h:Bk w g t cs) (hb:Below w.heap.size w w'):Bk w' g t cs:=h.later hb
theorem Zde (v1 v2:Value) (a b:RI) (w:World) (h1:Yv w v1 a) (h2:Yv w v2 b) (hs:(Zq (val a.ds)).length≤137438953472) (hs2:(Zq (val b.ds)).length≤137438953472) (hz:b.z≠0) (hdv:b.z∣a.z):
 Calls Tryz.prog 111 #[v1,v2] w (Yab (a.z / b.z) w):=by
 obtain ⟨A,n,c,rfl,hd⟩:=h1.shape;obtain ⟨A',n',c',rfl,a7⟩:=h2.shape;obtain ⟨W,hW,hX,hY,hR,F,i⟩:=Yhc w (.bool a.neg) (.slice A n c) (.bool b.neg) (.slice A' n' c');have i1:=h1.below i;have i2:=h2.below i;have I:w.heap.size≠w.heap.size+1:=by omega
 have J:w.heap.size+1+1≠w.heap.size:=by omega
 have K:w.heap.size+1+1≠w.heap.size+1:=by omega
 have L:w.heap.size+1+1+1≠w.heap.size:=by omega
 have M:w.heap.size+1+1+1≠w.heap.size+1:=by omega
 have l:True:=trivial;have HS:=JZ (Yeo hz hdv);have u:=JZ hz;have la:(Zq a.z.natAbs).length≤137438953472:=by rw [Z8];exact hs
 have lb:(Zq b.z.natAbs).length≤137438953472:=by rw [Z8];exact hs2
 obtain ⟨x0,x1,f0,f1⟩:=hX.two;obtain ⟨y0,y1,k0,k1⟩:=hY.two;clear hz hdv;go_enter Tryz.func111,Tryz.ntmps111;go_wp2_with fail;clear hW
 go_upto_region 1 with (fail)
 go_cut [] (fun wx=>∃(A A':Option Addr) (n c n' c':Nat),Ylx a.z b.z w wx A A' n c n' c')
 case first=>
  go_region_with (first
   | (go_at_call 112;have _t:=l;refine (Zat _ a _ (i1.keep (ZG.drew _)) (by omega)).mono ?_;clear l _t;rintro e w6 ⟨v6,rfl,e6,f⟩;obtain ⟨A6,n6,k6,rfl,_⟩:=e6.shape;obtain ⟨b6,b7,_,_⟩:=(hY.drew.later f).two)
   | (go_at_call 112;refine (Zat _ b _ ((i2.keep (ZG.drew _)).below f) (by omega)).mono ?_;rintro e w7 ⟨v7,rfl,e7,g⟩;obtain ⟨A7,n7,k7,rfl,_⟩:=e7.shape;obtain ⟨c0,c1,r0,r1⟩:=((hX.drew.later f).later g).two;obtain ⟨a8,a9,b8,b9⟩:=((hY.drew.later f).later g).two))
  all_goals
   go_wp2_with fail
   go_meet
   obtain ⟨a1,a2,a3,a4,a5⟩:=Xz ((hX.drew.later f).later g) ((hY.drew.later f).later g) I (e6.below g) e7 (Za (Za i.drew f i.size) g (JW i.size f.size)) (by omega) (by omega);exact ⟨A6,A7,n6,k6,n7,k7,⟨a1,a2,a3.dig.1,a4.dig.1,a5⟩,(((hR.drew.later f).later g).far2 J _ _).far2 K _ _,(((F.drew.later f).later g).far2 L _ _).far2 M _ _⟩
 case rest=>
  obtain ⟨B,B',m,d,m',d',⟨bX,bY,dX,dY,be⟩,bR,G⟩:=hcut;clear x0 x1 f0 f1 y0 y1 k0 k1 hX hY i i1 i2 h1 h2 hd a7 hR F hs hs2;obtain ⟨x0,x1,_,_⟩:=bX.two;obtain ⟨y0,y1,_,_⟩:=bY.two;obtain ⟨kl,aa,ab,kc⟩:=dY.len;have b3:0 < m':=by
   have:=Xx (n:=b.z.natAbs) (by have:=u.out;omega);omega
  have N:((m':Int)==0)=false:=by simp;omega
  clear kl aa ab kc;go_wp2_with fail;have hc:=Zbl _ _ _ _ _ dX dY (by rw [Zm];have:=u.out;omega) (by rw [Zm];exact la) lb;rw [Zm,Zm] at hc;refine hc.mono ?_;clear hc;rintro e w3 ⟨v3,v4,rfl,d3,d4,j⟩;rw [HS.out.2] at d4;have q:=bX.later j;have r:=bY.later j;have v:=bR.later j;have k:=G.later j;have s:=Za be j be.size;have lq:(Zq (a.z.natAbs / b.z.natAbs)).length≤549755813888:=JW (Zy (Nat.div_le_self _ _)) (by omega);have l0:(Zq 0).length≤549755813888:=by rw [digs_zero];decide
  clear bX bY bR G be dX dY j x0 x1 y0 y1 N;go_wp2_with fail
  go_upto_region 5 with (fail)
  go_cut [9,10] (fun s9 s10 wx=>∃(g9 h:Nat) (A6 A7:Option Addr) (n6 k6 n7 k7:Nat) (nb o:Bool),s9= .pointer (some ⟨g9,0,none⟩)∧s10= .pointer (some ⟨h,0,none⟩)∧Bk wx g9 44 [.bool nb,.slice A6 n6 k6]∧Bk wx h 44 [.bool o,.slice A7 n7 k7]∧Yv wx (.agg #[.bool nb,.slice A6 n6 k6]) (canI (a.z / b.z))∧Yv wx (.agg #[.bool o,.slice A7 n7 k7]) (canI 0)∧Below w3.heap.size w3 wx∧w3.heap.size≤g9∧w3.heap.size≤h)
  case first=>
   go_region_held3 (fun w'=>w'.cell? ⟨w.heap.size,0,none⟩=some (.bool (decide (a.z < 0)))∧w'.cell? ⟨w.heap.size+1,0,none⟩=some (.bool (decide (b.z < 0))))
    (exact ⟨(q.later (by (repeat (first | (with_reducible exact JR _ _) | (with_reducible refine Vs ?_ _) | (with_reducible refine Uo ?_) | (with_reducible refine Xt ?_ g) | (with_reducible refine Xt ?_ f) | (with_reducible refine Zrp ?_ (by first | omega | (simp;omega)) _ _))))).two.1,(r.later (by (repeat (first | (with_reducible exact JR _ _) | (with_reducible refine Vs ?_ _) | (with_reducible refine Uo ?_) | (with_reducible refine Xt ?_ g) | (with_reducible refine Xt ?_ f) | (with_reducible refine Zrp ?_ (by first | omega | (simp;omega)) _ _))))).two.1⟩)
    (first
     | (go_at_call 113;have _t:=l;refine (Ul _ _ _ _ (d3.below (by (repeat (first | (with_reducible exact JR _ _) | (with_reducible refine Vs ?_ _) | (with_reducible refine Uo ?_) | (with_reducible refine Xt ?_ g) | (with_reducible refine Xt ?_ f))))) lq).mono ?_;clear l _t;rintro e w6 ⟨v6,rfl,e6,f⟩;obtain ⟨A6,n6,k6,rfl,_⟩:=e6.shape;have s6:w3.heap.size≤w6.heap.size:=(by have:=f.size;first | exact this | omega | (simp at this;omega));(try ((first | (with_reducible have bA:=Bk.on (Bk.made (cs:=[.bool false,.slice none 0 0]) rfl) f) | (with_reducible have bA:=Bk.on (Bk.drew (Bk.made (cs:=[.bool false,.slice none 0 0]) rfl)) f));obtain ⟨ac,ad,ae,af⟩:=bA.two;have O:=bA.lt;(try simp only [size_alloc,size_drew] at ac ad ae af O)));(try ((first | (with_reducible have bB:=Bk.on (Bk.alloc (Bk.made (cs:=[.bool false,.slice none 0 0]) rfl) _) f) | (with_reducible have bB:=Bk.on (Bk.drew (Bk.alloc (Bk.made (cs:=[.bool false,.slice none 0 0]) rfl) _)) f));obtain ⟨ag,ah,ai,aj⟩:=bB.two;have P:=bB.lt;(try simp only [size_alloc,size_drew] at ag ah ai aj P))))
     | (go_at_call 113;refine (Ul _ _ _ _ (d4.below (by (repeat (first | (with_reducible exact JR _ _) | (with_reducible refine Vs ?_ _) | (with_reducible refine Uo ?_) | (with_reducible refine Xt ?_ g) | (with_reducible refine Xt ?_ f))))) l0).mono ?_;rw [Zes];rintro e w7 ⟨v7,rfl,e7,g⟩;obtain ⟨A7,n7,k7,rfl,_⟩:=e7.shape;have s7:w6.heap.size≤w7.heap.size:=(by have:=g.size;first | exact this | omega | (simp at this;omega));(try ((with_reducible have bC:=Bk.on (Bk.made (cs:=[.bool false,.slice none 0 0]) rfl) g);obtain ⟨ak,al,am,an⟩:=bC.two;have R:=bC.lt;(try simp only [size_alloc,size_drew] at ak al am an R)));(try ((with_reducible have bD:=Bk.on (Bk.alloc (Bk.made (cs:=[.bool false,.slice none 0 0]) rfl) _) g);obtain ⟨ao,ap,aq,ar⟩:=bD.two;have S:=bD.lt;(try simp only [size_alloc,size_drew] at ao ap aq ar S)));(try (have bE:=bA.on (show Below w6.heap.size w6 w7 from by (repeat (first | (with_reducible exact JR _ _) | (with_reducible refine Vs ?_ _) | (with_reducible refine Uo ?_) | (with_reducible refine Xt ?_ g) | (with_reducible refine Xt ?_ f))));obtain ⟨au,av,aw,ax⟩:=bE.two;have T:=bE.lt;(try simp only [size_alloc,size_drew] at au av aw ax T)));(try (have bF:=bB.on (show Below w6.heap.size w6 w7 from by (repeat (first | (with_reducible exact JR _ _) | (with_reducible refine Vs ?_ _) | (with_reducible refine Uo ?_) | (with_reducible refine Xt ?_ g) | (with_reducible refine Xt ?_ f))));obtain ⟨ay,az,b0,b1⟩:=bF.two;have U:=bF.lt;(try simp only [size_alloc,size_drew] at ay az b0 b1 U)))))
   all_goals
    go_wp2_with fail
    go_meet
    have hq:canI (a.z / b.z)=canI (sm (!decide (a.z < 0)==decide (b.z < 0)) (a.z.natAbs / b.z.natAbs)):=(by rw [← HS.out.1];rfl);rw [hq];clear hq;refine ⟨_,_,A6,A7,n6,k6,n7,k7,_,_,rfl,rfl,?_,?_,e6.keep ?_,e7.keep ?_,?_,by omega,by omega⟩
    ·(repeat (first | (with_reducible exact Bk.made rfl) | (with_reducible exact Bk.made (size_alloc _ _).symm) | (with_reducible exact Bk.made (Zlw _ _ _ _ _)) | (with_reducible refine Bk.set2 (a:= .bool false) (b:= .slice none 0 0) ?_ _ _) | (with_reducible refine Bk.far2 ?_ (by first | omega | (simp;omega)) _ _) | (with_reducible refine Bk.alloc ?_ _) | (with_reducible refine Bk.drew ?_) | (with_reducible refine Bk.on ?_ g) | (with_reducible refine Bk.on ?_ f)))
    ·(repeat (first | (with_reducible exact Bk.made rfl) | (with_reducible exact Bk.made (size_alloc _ _).symm) | (with_reducible exact Bk.made (Zlw _ _ _ _ _)) | (with_reducible refine Bk.set2 (a:= .bool false) (b:= .slice none 0 0) ?_ _ _) | (with_reducible refine Bk.far2 ?_ (by first | omega | (simp;omega)) _ _) | (with_reducible refine Bk.alloc ?_ _) | (with_reducible refine Bk.drew ?_) | (with_reducible refine Bk.on ?_ g) | (with_reducible refine Bk.on ?_ f)))
    ·(repeat (first | (with_reducible exact ZG.refl _) | (with_reducible refine Zkf ?_ _) | (with_reducible refine Zoi ?_ g) | with_reducible refine Zoj (t:=44) (x:= .bool false) (y:= .slice none 0 0) ?_ (by (repeat (first | (with_reducible exact Bk.made rfl) | (with_reducible exact Bk.made (size_alloc _ _).symm) | (with_reducible exact Bk.made (Zlw _ _ _ _ _)) | (with_reducible refine Bk.set2 (a:= .bool false) (b:= .slice none 0 0) ?_ _ _) | (with_reducible refine Bk.far2 ?_ (by first | omega | (simp;omega)) _ _) | (with_reducible refine Bk.alloc ?_ _) | (with_reducible refine Bk.drew ?_) | (with_reducible refine Bk.on ?_ g) | (with_reducible refine Bk.on ?_ f)))) (by decide) _ _))
    ·(repeat (first | (with_reducible exact ZG.refl _) | (with_reducible refine Zkf ?_ _) | (with_reducible refine Zoi ?_ g) | with_reducible refine Zoj (t:=44) (x:= .bool false) (y:= .slice none 0 0) ?_ (by (repeat (first | (with_reducible exact Bk.made rfl) | (with_reducible exact Bk.made (size_alloc _ _).symm) | (with_reducible exact Bk.made (Zlw _ _ _ _ _)) | (with_reducible refine Bk.set2 (a:= .bool false) (b:= .slice none 0 0) ?_ _ _) | (with_reducible refine Bk.far2 ?_ (by first | omega | (simp;omega)) _ _) | (with_reducible refine Bk.alloc ?_ _) | (with_reducible refine Bk.drew ?_) | (with_reducible refine Bk.on ?_ g) | (with_reducible refine Bk.on ?_ f)))) (by decide) _ _))
    ·(repeat (first | (with_reducible exact JR _ _) | (with_reducible refine Vs ?_ _) | (with_reducible refine Uo ?_) | (with_reducible refine Xt ?_ g) | (with_reducible refine Xt ?_ f) | (with_reducible refine Zrp ?_ (by first | omega | (simp;omega)) _ _)))
  case rest=>
   obtain ⟨g9,h,A6,A7,n6,k6,n7,k7,nb,o,rfl,rfl,bQ,bE,iQ,iE,f,b2,H⟩:=hcut;have V:=k.lt;have X:=iE.zero_len;subst X;have b4:=q.later f;have b5:=r.later f;have C:=v.later f;have p:=k.later f;have Y:=Za s f s.size;clear q r v k s f d3 d4 HS;obtain ⟨q0,q1,_,_⟩:=bQ.two;obtain ⟨r0,r1,_,_⟩:=bE.two;obtain ⟨c0,c1,f0,f1⟩:=C.two;obtain ⟨a8,a9,ba,bb⟩:=p.two;have D:w.heap.size+1+1≠g9:=(by omega);have E:w.heap.size+1+1≠h:=(by omega);have Z:w.heap.size+1+1+1≠g9:=(by omega);have a0:w.heap.size+1+1+1≠h:=(by omega);have a6:w.heap.size+1+1≠w.heap.size+1+1+1:=(by omega);clear V b2 H;go_wp2
   go_region_held3 (fun w'=>(w'.cell? ⟨g9,0,none⟩=some (.bool nb)∧w'.cell? ⟨g9,1,none⟩=some (.slice A6 n6 k6))∧(w'.cell? ⟨h,0,none⟩=some (.bool o)∧w'.cell? ⟨h,1,none⟩=some (.slice A7 0 k7)))
    (first | with_reducible exact ⟨bQ.drew.pair,bE.drew.pair⟩ | with_reducible exact ⟨(bQ.far2 (Ne.symm D) _ _).drew.pair,(bE.far2 (Ne.symm E) _ _).drew.pair⟩ | with_reducible exact ⟨((bQ.far2 (Ne.symm D) _ _).far2 (Ne.symm Z) _ _).drew.pair,((bE.far2 (Ne.symm E) _ _).far2 (Ne.symm a0) _ _).drew.pair⟩)
    (fail)
   go_wp2;obtain ⟨a1,a2,a3,a4,a5⟩:=Xz C.drew p.drew a6 (iQ.keep (ZG.drew _)) (iE.keep (ZG.drew _)) Y.drew (by omega) (by omega);refine WT Tryz.results111 Tryz.underlying44 Tryz.underlying44 (by kernel_rfl) (by kernel_rfl) rfl rfl a1 a2 rfl ?_;exact ⟨_,_,rfl,a3,a4,a5⟩
def Wz (base:Nat) (w:World) (v:Value) (f:RF):Prop:=Zw w v f∧∃b s b' s',v= .agg #[b,s,b',s']∧w.ownsRow base 148 1 s f.num.ds.length (f.num.ds.map uc)
theorem Wz.keep {base:Nat} {w w':World} {v:Value} {f:RF} (h:Wz base w v f) (hk:ZG w w'):Wz base w' v f:=by
 obtain ⟨h0,b,s,b',s',h1,h2⟩:=h;exact ⟨h0.keep hk,b,s,b',s',h1,Zua h2 hk⟩
theorem Wz.below {base:Nat} {w w':World} {v:Value} {f:RF} (h:Wz base w v f) (hb:Below w.heap.size w w'):Wz base w' v f:=h.keep (ZG.of_below hb)
theorem Wz.mono {base base':Nat} {w:World} {v:Value} {f:RF} (h:Wz base w v f) (hb:base'≤base):Wz base' w v f:=by
 obtain ⟨h0,b,s,b',s',h1,h2⟩:=h;exact ⟨h0,b,s,b',s',h1,Zub h2 hb⟩
theorem Wz.mk {base:Nat} {w:World} {b b' s s':Value} {x y:RI} (h1:Zjn base w (.agg #[b,s]) x) (h2:Yv w (.agg #[b',s']) y):Wz base w (.agg #[b,s,b',s']) ⟨x,y⟩:=by
 obtain ⟨A,n,c,e,d⟩:=h1.int.shape;obtain ⟨A',n',c',e',d'⟩:=h2.shape;simp at e e';obtain ⟨rfl,rfl⟩:=e;obtain ⟨rfl,rfl⟩:=e';obtain ⟨t,e,o,_⟩:=h1;simp at e;subst e;exact ⟨⟨_,_,_,_,_,_,rfl,d,d'⟩,_,_,_,_,rfl,o⟩
theorem YL {w w2:World} {base m g:Nat} {x y z u b s b' s':Value} {a:RF} (hR:Bk w2 g 46 [x,y,z,u]) (d:Wz base w2 (.agg #[b,s,b',s']) a) (hbe:Below m w w2) (hg:m≤g):
 ∃v',Ending.returned (.agg [b,s,b',s'].toArray)= .returned v'∧Wz base ((((w2.setCell ⟨g,0,none⟩ b).setCell ⟨g,1,none⟩ s).setCell ⟨g,2,none⟩ b').setCell ⟨g,3,none⟩ s') v' a∧Below m w ((((w2.setCell ⟨g,0,none⟩ b).setCell ⟨g,1,none⟩ s).setCell ⟨g,2,none⟩ b').setCell ⟨g,3,none⟩ s'):=
 ⟨_,rfl,d.keep (hR.keep4 (by decide) _ _ _ _),ZI hbe hg _ _ _ _⟩
namespace Pl
theorem canF_zero:canF 0=⟨canI 0,canI 1⟩:=by
 unfold canF;rfl
theorem Ynz (x y:RI):Nat.gcd (val x.ds) (val y.ds)=Int.gcd x.z y.z:=by
 unfold Int.gcd;rw [Z8,Z8]
end Pl
def NewAt (a b:RI) (w:World) (x y:RI) (wx:World) (B B':Option Addr) (m d m' d':Nat):Prop:=
 Bk wx w.heap.size 44 [.bool x.neg,.slice B m d]∧Bk wx (w.heap.size+1) 44 [.bool y.neg,.slice B' m' d']∧Bk wx (w.heap.size+1+1) 46 [.bool false,.slice none 0 0,.bool false,.slice none 0 0]∧Below w.heap.size w wx∧
 Yv wx (.agg #[.bool x.neg,.slice B m d]) x∧Yv wx (.agg #[.bool y.neg,.slice B' m' d']) y∧0 < y.z∧Rat.divInt x.z y.z=Rat.divInt a.z b.z∧(Zq (val x.ds)).length≤137438953472∧(Zq (val y.ds)).length≤137438953472
theorem Zau (v1 v2:Value) (a b:RI) (w:World) (h1:Yv w v1 a) (h2:Yv w v2 b) (hs:(Zq (val a.ds)).length≤137438953472) (hs2:(Zq (val b.ds)).length≤137438953472):
 Calls Tryz.prog 62 #[v1,v2] w fun e w'=>∃v',e= .returned v'∧Wz w.heap.size w' v' (canF (Rat.divInt a.z b.z))∧Below w.heap.size w w':=by
 obtain ⟨A,n,c,rfl,hd⟩:=h1.shape;obtain ⟨A',n',c',rfl,bt⟩:=h2.shape;obtain ⟨W,hW,hX,bb,hR,N⟩:=Ynu w (.bool a.neg) (.slice A n c) (.bool b.neg) (.slice A' n' c');have e1:=h1.below N;have e2:=h2.below N;clear hd bt h1 h2;go_enter Tryz.func62,Tryz.ntmps62;go_wp2_with fail;clear hW;refine (VV 1 _ (by omega) (by omega)).mono ?_;rintro e w0 ⟨v0,rfl,iO,aq⟩;obtain ⟨A0,n0,k0,rfl,_⟩:=iO.shape;have bO:=Bk.new w0 44 [.bool (canI 1).neg,.slice A0 n0 k0];have bn:=Zi w0 (.cells [.bool (canI 1).neg,.slice A0 n0 k0].toArray 44);have h:=Za aq bn aq.size;have ar:=hX.later h;have H:=bb.later h;have au:=hR.later h;have I:=Za N h N.size;have av:=e1.below h;have Z:=e2.below h;have aw:=iO.below bn;obtain ⟨y0,y1,_,_⟩:=H.two;clear hX bb hR N e1 e2 aq h bn iO;generalize bh:canI 1=T at *;have V:=JZ bh;clear bh;go_wp2_with fail;generalize w0.alloc _=W0 at *;refine (Zdc _ b _ Z (by omega)).mono ?_;rintro e w1 ⟨rfl,k⟩;have a0:=ar.later k;have X:=H.later k;have C:=au.later k;have a6:=bO.later k;have a7:=aw.below k;have u:=Za I k I.size;have a8:=av.below k;have ax:=Z.below k;clear ar H au I av Z k y0 y1 bO aw;have i:∀(W:World),Bk W (w.heap.size+1+1) 46 [.bool false,.slice none 0 0,.bool false,.slice none 0 0]→Yv W (.agg #[.bool T.neg,.slice A0 n0 k0]) T→Below w.heap.size w W→Rat.divInt a.z b.z=0→
  ∃v',Ending.returned (.agg [.bool false,.slice none 0 0,.bool T.neg,.slice A0 n0 k0].toArray)= .returned v'∧Wz w.heap.size ((((W.setCell ⟨w.heap.size+1+1,0,none⟩ (.bool false)).setCell ⟨w.heap.size+1+1,1,none⟩ (.slice none 0 0)).setCell ⟨w.heap.size+1+1,2,none⟩ (.bool T.neg)).setCell ⟨w.heap.size+1+1,3,none⟩ (.slice A0 n0 k0)) v' (canF (Rat.divInt a.z b.z))∧Below w.heap.size w ((((W.setCell ⟨w.heap.size+1+1,0,none⟩ (.bool false)).setCell ⟨w.heap.size+1+1,1,none⟩ (.slice none 0 0)).setCell ⟨w.heap.size+1+1,2,none⟩ (.bool T.neg)).setCell ⟨w.heap.size+1+1,3,none⟩ (.slice A0 n0 k0)):=by
  intro W hR hI hb hz;refine YL hR ?_ hb (by omega);rw [hz,canF_zero,V.out];exact Wz.mk (Zjn.zero _ _) hI
 have a9:=JZ i;clear i;by_cases R:b.z=0
 ·have ay:sgn b.z=0:=by rw [R,sgn_zero]
  have HZ:Hid (Rat.divInt a.z b.z=0):=JZ (by rw [R,Rat.divInt_zero]);clear R;obtain ⟨o0,o1,_,_⟩:=a6.two;obtain ⟨c0,c1,c2,c3⟩:=C.four;obtain ⟨f0,f1,f2,f3⟩:=C.fourF;go_wp2;refine Zp Tryz.results62 Tryz.underlying46 (by kernel_rfl) rfl (C.set4 _ _ _ _) rfl ?_;exact a9.out _ C a7 u HZ.out
 ·have ay:(sgn b.z==0)=false:=by unfold sgn;split;rfl;rfl
  have HB:=JZ R;clear R;obtain ⟨x0,x1,_,_⟩:=a0.two;go_wp2_with fail;refine (Zdc _ a _ a8 (by omega)).mono ?_;rintro e w2 ⟨rfl,l⟩;have az:=a0.later l;have J:=X.later l;have D:=C.later l;have b0:=a6.later l;have b1:=a7.below l;have v:=Za u l u.size;have b2:=a8.below l;have aa:=ax.below l;clear a0 X C u a8 ax l a6 a7 x0 x1;by_cases S:a.z=0
  ·have b3:sgn a.z=0:=(by rw [S,sgn_zero]);have HZ:Hid (Rat.divInt a.z b.z=0):=JZ (by rw [S,Rat.zero_divInt]);clear S;obtain ⟨o0,o1,_,_⟩:=b0.two;obtain ⟨c0,c1,c2,c3⟩:=D.four;obtain ⟨f0,f1,f2,f3⟩:=D.fourF;go_wp2;refine Zp Tryz.results62 Tryz.underlying46 (by kernel_rfl) rfl (D.set4 _ _ _ _) rfl ?_;exact a9.out _ D b1 v HZ.out
  ·have b3:(sgn a.z==0)=false:=(by unfold sgn;split;rfl;rfl);have HA:=JZ S;clear S b0 b1 a9 V;obtain ⟨y0,y1,_,_⟩:=J.two;go_wp2_with fail;refine (Zdc _ b _ aa (by omega)).mono ?_;rintro e w3 ⟨rfl,t⟩;have K:=az.later t;have j:=J.later t;have ab:=D.later t;have o:=Za v t v.size;have ac:=b2.below t;have ad:=aa.below t;clear az J D v b2 aa t y0 y1 ay b3;have E:True:=trivial
   go_upto_if 26 with (fail)
   go_cut [2,3] (fun s2 s3 wx=>s2= .pointer (some ⟨w.heap.size,0,none⟩)∧s3= .pointer (some ⟨w.heap.size+1,0,none⟩)∧∃(x y:RI) (B B':Option Addr) (m d m' d':Nat),NewAt a b w x y wx B B' m d m' d')
   case first=>
    rcases Int.lt_or_le b.z 0 with hz | hz
    ·have HN:=JZ hz;have b4:sgn b.z= -1:=UR hz;have bk:w.heap.size≠w.heap.size+1:=(by omega);have bl:w.heap.size+1+1≠w.heap.size:=(by omega);have bm:w.heap.size+1+1≠w.heap.size+1:=(by omega);clear hz;obtain ⟨x0,x1,f0,f1⟩:=K.two;obtain ⟨y0,y1,k0,k1⟩:=j.two;go_wp2_with fail;clear b4
     go_region_with (first
      | (go_at_call 87;have _t:=E;refine (Zbs _ a _ (ac.keep (ZG.drew _)) (by omega)).mono ?_;clear E _t;rintro e w6 ⟨v6,rfl,e6,f⟩;obtain ⟨A6,n6,k6,rfl,_⟩:=e6.shape;obtain ⟨bw,bx,_,_⟩:=(j.drew.later f).two)
      | (go_at_call 87;refine (Zbs _ b _ ((ad.keep (ZG.drew _)).below f) (by omega)).mono ?_;rintro e w7 ⟨v7,rfl,e7,g⟩;obtain ⟨A7,n7,k7,rfl,_⟩:=e7.shape;obtain ⟨c0,c1,r0,r1⟩:=((K.drew.later f).later g).two;obtain ⟨bz,c4,c5,c6⟩:=((j.drew.later f).later g).two))
     all_goals
      go_wp2_with fail
      go_meet
      obtain ⟨a1,a2,a3,a4,a5⟩:=Xz ((K.drew.later f).later g) ((j.drew.later f).later g) bk (e6.below g) e7 (Za (Za o.drew f o.size) g (JW o.size f.size)) (by omega) (by omega);refine ⟨rfl,rfl,_,_,A6,A7,n6,k6,n7,k7,a1,a2,((((ab.drew.later f).later g).far2 bl _ _).far2 bm _ _),a5,a3,a4,?_,?_,?_,?_⟩
      ·rw [ZL];have:=HN.out;omega
      ·rw [ZL,ZL,Rat.neg_divInt_neg]
      ·simp only [canI,Zm,Int.natAbs_neg,Z8];exact hs
      ·simp only [canI,Zm,Int.natAbs_neg,Z8];exact hs2
    ·have ae:0 < b.z:=(by have:=HB.out;omega);have b4:sgn b.z=1:=Ui ae;have HZ:=JZ ae;clear hz ae;go_wp2_with fail
     go_meet
     exact ⟨rfl,rfl,a,b,A,A',n,c,n',c',K,j,ab,o,ac,ad,HZ.out,rfl,hs,hs2⟩
   case rest=>
    obtain ⟨rfl,rfl,x,y,B,B',m,d,m',d',aj,O,bc,P,ak,al,hy,bd,am,U⟩:=hcut;have HZ:=JZ hy;have bo:=JZ bd;clear hy bd K j ab o ac ad hs hs2 E;obtain ⟨x0,x1,_,_⟩:=aj.two;obtain ⟨y0,y1,_,_⟩:=O.two;go_wp2_with fail;refine (Yen _ _ x y _ ak al am U).mono ?_;rw [Ynz];rintro e w6 ⟨v6,rfl,e6,f⟩;obtain ⟨A6,n6,k6,rfl,_⟩:=e6.shape;have bX:=aj.later f;have bY:=O.later f;have bR:=bc.later f;have af:=Za P f P.size;have i1:=ak.below f;have i2:=al.below f;clear aj O bc P ak al f x0 x1 y0 y1;have gz:(canI (Int.gcd (RI.z x) (RI.z y):Nat)).z=(Int.gcd (RI.z x) (RI.z y):Nat):=ZL _;have gs:(Zq (val (canI (Int.gcd (RI.z x) (RI.z y):Nat)).ds)).length≤137438953472:=by
     rw [show val (canI (Int.gcd (RI.z x) (RI.z y):Nat)).ds=Int.gcd (RI.z x) (RI.z y) from by simp [canI,Zm]];refine JW (Zy (Nat.le_of_dvd ?_ (show Int.gcd (RI.z x) (RI.z y)∣val (RI.ds y) from by rw [← Z8];exact Int.gcd_dvd_natAbs_right ..))) U;have:=HZ.out;have:=Z8 y;omega
    generalize canI (Int.gcd (RI.z x) (RI.z y):Nat)=G at *;have GZ:=JZ gz;clear gz;have b5:G.z≠0:=by
     rw [GZ.out];have:=Int.gcd_pos_of_ne_zero_right (RI.z x) (show RI.z y≠0 by have:=HZ.out;omega);omega
    have b6:=JZ b5;clear b5;have bG:=Bk.new w6 44 [.bool G.neg,.slice A6 n6 k6];have bn:=Zi w6 (.cells [.bool G.neg,.slice A6 n6 k6].toArray 44);have cX:=bX.later bn;have cY:=bY.later bn;have cR:=bR.later bn;have ag:=Za af bn af.size;have j1:=i1.below bn;have j2:=i2.below bn;have j3:=e6.below bn;obtain ⟨x0,x1,_,_⟩:=cX.two;obtain ⟨y0,y1,_,_⟩:=cY.two;obtain ⟨g0,g1,_,_⟩:=bG.two;clear bX bY bR af i1 i2 e6 bn;go_wp2_with fail;generalize w6.alloc _=W7 at *;refine (Zde _ _ x G _ j1 j3 am gs b6.out (by rw [GZ.out];exact Int.gcd_dvd_left ..)).mono ?_;rintro e w8 ⟨q,r,rfl,dq,dr,p⟩;obtain ⟨A8,n8,k8,rfl,_⟩:=dq.shape;obtain ⟨A9,n9,k9,rfl,_⟩:=dr.shape;have bX:=cX.later p;have bY:=cY.later p;have bR:=cR.later p;have b7:=bG.later p;have ah:=Za ag p ag.size;have i2:=j2.below p;have i3:=j3.below p;clear cX cY cR ag j1 j2 j3 bG p x0 x1 y0 y1 g0 g1;have bu:(Zq (val (canI (RI.z x / G.z)).ds)).length≤137438953472:=by
     rw [YP];refine JW (Zy (Int.natAbs_ediv_le_natAbs ..)) ?_;rw [Z8];exact am
    generalize canI 0=R1 at *;generalize bi:canI ((RI.z x) / G.z)=Q1 at *;have b8:=JZ bi;clear bi;have bQ:=(Bk.new w8 44 [.bool Q1.neg,.slice A8 n8 k8]).alloc (.cells #[.bool R1.neg,.slice A9 n9 k9] 44);have bn:=(Zi w8 (.cells [.bool Q1.neg,.slice A8 n8 k8].toArray 44)).alloc (by simp) (.cells #[.bool R1.neg,.slice A9 n9 k9] 44);have cX:=bX.later bn;have cY:=bY.later bn;have cR:=bR.later bn;have cG:=b7.later bn;have ai:=Za ah bn ah.size;have j2:=i2.below bn;have j3:=i3.below bn;have j4:=dq.below bn;obtain ⟨y0,y1,_,_⟩:=cY.two;obtain ⟨g0,g1,_,_⟩:=cG.two;obtain ⟨q0,q1,_,_⟩:=bQ.two;clear bX bY bR b7 ah i2 i3 dq dr bn;go_wp2_with fail;generalize (w8.alloc _).alloc _=W9 at *;refine (Zde _ _ y G _ j2 j3 U gs b6.out (by rw [GZ.out];exact Int.gcd_dvd_right ..)).mono ?_;rintro e F ⟨q',r',rfl,dq,dr,s⟩;obtain ⟨an,ao,ap,rfl,_⟩:=dq.shape;obtain ⟨be,bf,bg,rfl,_⟩:=dr.shape;have bR:=cR.later s;have Y:=bQ.later s;have L:=Za ai s ai.size;have i4:=j4.below s;clear cX cY cR cG ai j2 j3 j4 bQ s y0 y1 g0 g1 q0 q1;have bv:(Zq (val (canI (RI.z y / G.z)).ds)).length≤137438953472:=by
     rw [YP];refine JW (Zy (Int.natAbs_ediv_le_natAbs ..)) ?_;rw [Z8];exact U
    generalize canI 0=R2 at *;generalize bj:canI ((RI.z y) / G.z)=Q2 at *;have b9:=JZ bj;clear bj;have bD:=(Bk.new F 44 [.bool Q2.neg,.slice an ao ap]).alloc (.cells #[.bool R2.neg,.slice be bf bg] 44);have bn:=(Zi F (.cells [.bool Q2.neg,.slice an ao ap].toArray 44)).alloc (by simp) (.cells #[.bool R2.neg,.slice be bf bg] 44);have cR:=bR.later bn;have cQ:=Y.later bn;have M:=Za L bn L.size;have j4:=i4.below bn;have j5:=dq.below bn;clear bR Y L i4 dq dr bn;have bp:w8.heap.size≠w.heap.size+1+1:=cQ.ne_of cR (by decide);have bq:F.heap.size≠w.heap.size+1+1:=bD.ne_of cR (by decide);have E:True:=trivial;go_wp2_with fail;generalize (F.alloc _).alloc _=c7 at *
    go_region_held3 (fun w'=>(w'.cell? ⟨w8.heap.size,0,none⟩=some (.bool Q1.neg)∧w'.cell? ⟨w8.heap.size,1,none⟩=some (.slice A8 n8 k8))∧(w'.cell? ⟨F.heap.size,0,none⟩=some (.bool Q2.neg)∧w'.cell? ⟨F.heap.size,1,none⟩=some (.slice an ao ap)))
     (first | with_reducible exact ⟨cQ.drew.pair,bD.drew.pair⟩ | with_reducible exact ⟨(cQ.drew.later f).pair,(bD.drew.later f).pair⟩ | with_reducible exact ⟨((cQ.drew.later f).later g).pair,((bD.drew.later f).later g).pair⟩ | with_reducible exact ⟨(((cQ.drew.later f).later g).far4 bp _ _ _ _).pair,(((bD.drew.later f).later g).far4 bq _ _ _ _).pair⟩)
     (first
      | (go_at_call 112;have _t:=E;refine (Zkg _ Q1 _ (j4.keep (ZG.drew _)) (by omega)).mono ?_;clear E _t;rintro e w6 ⟨v6,rfl,e6,f⟩;obtain ⟨A6,n6,k6,rfl⟩:=e6.shape)
      | (go_at_call 112;refine (Zkg _ Q2 _ ((j5.keep (ZG.drew _)).below f) (by omega)).mono ?_;rintro e w7 ⟨v7,rfl,e7,g⟩;obtain ⟨A7,n7,k7,rfl⟩:=e7.shape;obtain ⟨c0,c1,c2,c3⟩:=((cR.drew.later f).later g).four;obtain ⟨f0,f1,f2,f3⟩:=((cR.drew.later f).later g).fourF))
    go_wp2;refine Zp Tryz.results62 Tryz.underlying46 (by kernel_rfl) rfl (((cR.drew.later f).later g).set4 _ _ _ _) rfl ?_;have ba:=Za M.drew f M.size;have br:canI (RI.z Q1)=Q1:=(by rw [← b8.out,ZL]);have bs:canI (RI.z Q2)=Q2:=(by rw [← b9.out,ZL]);rw [← bo.out,Zar HZ.out,Int.gcd_comm,← GZ.out,b8.out,b9.out];rw [br] at e6 ⊢;rw [bs] at e7 ⊢;exact YL ((cR.drew.later f).later g) (Wz.mk ((e6.below g).mono M.size) e7.int) (Za ba g ba.size) (by omega)
namespace Pl
def RF.Sh (f:RF):Prop:=(Zq (val f.num.ds)).length≤34359738368∧(Zq (val f.den.ds)).length≤34359738368
def Sz (k:Nat) (q:Rat):Prop:=(Zq q.num.natAbs).length≤k∧(Zq q.den).length≤k
theorem Sz.mono {j k:Nat} {q:Rat} (h:Sz j q) (hk:j≤k):Sz k q:=⟨JW h.1 hk,JW h.2 hk⟩
theorem Sz.sh {k:Nat} {q:Rat} (h:Sz k q) (hk:k≤34359738368):(canF q).Sh:=by
 unfold RF.Sh canF;simp only [YP];exact ⟨JW h.1 hk,JW h.2 hk⟩
theorem RF.Sh.sm {f:RF} (h:f.Sh):f.Sm:=by
 unfold RF.Sh at h;unfold RF.Sm RI.Sm;omega
theorem V4 {a b:Int} {k:Nat} (h1:(Zq a.natAbs).length≤k) (h2:(Zq b.natAbs).length≤k) (hk:1≤k):Sz k (Rat.divInt a b):=by
 unfold Sz;rw [Rat.num_divInt,Rat.den_divInt];constructor
 ·refine JW (Zy ?_) h1;refine JW (Int.natAbs_ediv_le_natAbs ..) ?_;rw [Int.natAbs_mul];have:b.sign.natAbs≤1:=by rw [Int.natAbs_sign];split <;> omega
  exact JW (JS _ this) (by omega)
 ·split
  ·exact JW (Xw (k:=1) (by unfold B32;omega)) hk
  ·exact JW (Zy (Nat.div_le_self _ _)) h2
theorem RF.Sh.sz {f:RF} (h:f.Sh):Sz 34359738368 f.q:=V4 (by rw [Z8];exact h.1) (by rw [Z8];exact h.2) (by decide)
theorem Zkh {k:Nat} {q:Rat} (h:Sz k q):1≤k:=by
 have:=h.2;have:=Xx (n:=q.den) q.den_pos;omega
theorem Yhf (p q:Rat):Rat.divInt (p.num * q.den) (p.den * q.num)=p / q:=by
 conv=>rhs;rw [← Rat.num_divInt_den p,← Rat.num_divInt_den q]
 rw [Rat.div_def,Rat.inv_divInt,Rat.divInt_mul_divInt]
theorem Yhg (p q:Rat):Rat.divInt (p.num * q.num) (p.den * q.den)=p * q:=by
 conv=>rhs;rw [← Rat.num_divInt_den p,← Rat.num_divInt_den q]
 rw [Rat.divInt_mul_divInt]
theorem Yhh (p q:Rat):Rat.divInt (p.num * q.den+q.num * p.den) (p.den * q.den)=p+q:=by
 conv=>rhs;rw [← Rat.num_divInt_den p,← Rat.num_divInt_den q]
 have h1:(p.den:Int)≠0:=by have:=p.den_pos;omega
 have h2:(q.den:Int)≠0:=by have:=q.den_pos;omega
 rw [Rat.divInt_add_divInt _ _ h1 h2]
theorem XO {j k:Nat} {p q:Rat} (h:Sz j p) (g:Sz k q):Sz (j+k) (p * q):=by
 rw [← Yhg];refine V4 ?_ ?_ (by have:=Zkh h;omega)
 ·rw [Int.natAbs_mul];exact JW (XB _ _) (Nat.add_le_add h.1 g.1)
 ·rw [Int.natAbs_mul];exact JW (XB _ _) (Nat.add_le_add h.2 g.2)
theorem Zdf {j k:Nat} {p q:Rat} (h:Sz j p) (g:Sz k q):Sz (j+k) (p / q):=by
 rw [← Yhf];refine V4 ?_ ?_ (by have:=Zkh h;omega)
 ·rw [Int.natAbs_mul];exact JW (XB _ _) (Nat.add_le_add h.1 g.2)
 ·rw [Int.natAbs_mul];exact JW (XB _ _) (Nat.add_le_add h.2 g.1)
theorem Zud {j k:Nat} {p q:Rat} (h:Sz j p) (g:Sz k q):Sz (j+k+1) (p+q):=by
 rw [← Yhh];refine V4 ?_ ?_ (by omega)
 ·refine Zcz ?_ ?_
  ·rw [Int.natAbs_mul];exact JW (XB _ _) (Nat.add_le_add h.1 g.2)
  ·rw [Int.natAbs_mul,Nat.add_comm j k];exact JW (XB _ _) (Nat.add_le_add g.1 h.2)
 ·rw [Int.natAbs_mul];exact JW (XB _ _) (JW (Nat.add_le_add h.2 g.2) (by omega))
theorem Zki {k:Nat} {q:Rat} (h:Sz k q):Sz k (-q):=by
 unfold Sz at *;rw [Rat.neg_num,Rat.neg_den,Int.natAbs_neg];exact h
theorem Zdg {j k:Nat} {p q:Rat} (h:Sz j p) (g:Sz k q):Sz (j+k+1) (p - q):=by
 rw [Rat.sub_eq_add_neg];exact Zud h (Zki g)
theorem Sz_zero:Sz 1 0:=by unfold Sz;exact ⟨by rw [show Int.natAbs (Rat.num 0)=0 from rfl,digs_zero];decide,Xw (by rw [show Rat.den 0=1 from rfl];decide)⟩
theorem Zho (z:Int):Rat.divInt z 1=(z:Rat):=Rat.mkRat_one z
theorem Yje (f:RF):Rat.divInt (-f.num.z) f.den.z= -f.q:=(Rat.neg_divInt _ _).symm
end Pl
theorem Zw.num {w:World} {A A':Option Addr} {n c n' c':Nat} {b b':Bool} {f:RF} (h:Zw w (.agg #[.bool b,.slice A n c,.bool b',.slice A' n' c']) f):Yv w (.agg #[.bool b,.slice A n c]) f.num∧Yv w (.agg #[.bool b',.slice A' n' c']) f.den:=by
 obtain ⟨B,m,d,B',m',d',e,d1,d2⟩:=h;simp at e;obtain ⟨rfl,⟨rfl,rfl,rfl⟩,rfl,rfl,rfl,rfl⟩:=e;exact ⟨⟨_,rfl,d1⟩,_,rfl,d2⟩
theorem Yjf (x y z u:Value) (w:World):(Instr.field 46 (.agg #[x,y,z,u]) 0).run Tryz.prog w= .ok (.agg #[x,y]) w:=by kernel_rfl
theorem YR (w:World) (x1 x2 x3 x4:Value):∃W,w.alloc (.cells #[x1,x2,x3,x4] 46)=W∧Bk W w.heap.size 46 [x1,x2,x3,x4]∧Below w.heap.size w W:=
 ⟨_,rfl,Bk.new w _ [x1,x2,x3,x4],Zi w _⟩
theorem Xn (v:Value) (a:RF) (w:World) (h:Zw w v a) (hs:a.Sh):
 Calls Tryz.prog 61 #[v] w fun e w'=>∃v',e= .returned v'∧Wz w.heap.size w' v' (canF a.q)∧Below w.heap.size w w':=by
 obtain ⟨A,n,c,A',n',c',rfl,_,_⟩:=id h;obtain ⟨W,hW,i,hX,hR,f⟩:=Zjr w (.bool a.num.neg) (.slice A n c) (.bool a.den.neg) (.slice A' n' c') (.bool false) (.slice none 0 0) (.bool false) (.slice none 0 0);obtain ⟨i1,i2⟩:=(h.below f).num;obtain ⟨p1,p2,p3,p4⟩:=hX.four;obtain ⟨j,k⟩:=hs;go_enter Tryz.func61,Tryz.ntmps61;go_wp2_with fail;clear hW;refine (Zau _ _ a.num a.den _ i1 i2 (by omega) (by omega)).mono ?_;rintro e w1 ⟨v1,rfl,e1,g⟩;obtain ⟨B,m,d,B',m',d',rfl,_,_⟩:=id e1.1;have b:=hR.later g;obtain ⟨c0,c1,c2,c3⟩:=b.four;obtain ⟨f0,f1,f2,f3⟩:=b.fourF;go_wp2;refine Zp Tryz.results61 Tryz.underlying46 (by kernel_rfl) rfl (b.set4 _ _ _ _) rfl ?_;exact YL b (e1.mono f.size) (Za f g f.size) (by omega)
theorem Yl (z:Int) (w:World) (h0: -9223372036854775808≤z) (h1:z≤9223372036854775807):
 Calls Tryz.prog 26 #[.int .i64 z] w fun e w'=>∃v',e= .returned v'∧Wz w.heap.size w' v' (canF (z:Rat))∧Below w.heap.size w w':=by
 obtain ⟨W,hW,hR,c⟩:=YR w (.bool false) (.slice none 0 0) (.bool false) (.slice none 0 0);have l1:(Zq (val (canI z).ds)).length≤137438953472:=by rw [YP];exact JW (Xw (k:=2) (by unfold B32;omega)) (by decide)
 have l2:(Zq (val (canI 1).ds)).length≤137438953472:=by rw [YP];exact JW (Xw (k:=2) (by unfold B32;omega)) (by decide)
 go_enter Tryz.func26,Tryz.ntmps26;go_wp2_with fail;clear hW;refine (VV z _ h0 h1).mono ?_;rintro e w1 ⟨v1,rfl,i1,f⟩;go_wp2_with fail;refine (VV 1 _ (by omega) (by omega)).mono ?_;rintro e w2 ⟨v2,rfl,i2,b⟩;go_wp2_with fail;refine (Zau _ _ (canI z) (canI 1) _ (i1.below b) i2 l1 l2).mono ?_;rw [ZL,ZL,Zho];rintro e w3 ⟨v3,rfl,e3,g⟩;obtain ⟨B,m,d,B',m',d',rfl,_,_⟩:=id e3.1;have a:=((hR.later f).later b).later g;have b1:=Za c f c.size;have b2:=Za b1 b b1.size;obtain ⟨c0,c1,c2,c3⟩:=a.four;obtain ⟨f0,f1,f2,f3⟩:=a.fourF;go_wp2;refine Zp Tryz.results26 Tryz.underlying46 (by kernel_rfl) rfl (a.set4 _ _ _ _) rfl ?_;exact YL a (e3.mono b2.size) (Za b2 g b2.size) (by omega)
theorem Z4 (v:Value) (a:RF) (w:World) (h:Zw w v a) (hs:a.Sh):
 Calls Tryz.prog 48 #[v] w fun e w'=>e= .returned (.int .i64 (qs a.q))∧Below w.heap.size w w':=by
 obtain ⟨A,n,c,A',n',c',rfl,_,_⟩:=id h;obtain ⟨W,hW,hX,b⟩:=YR w (.bool a.num.neg) (.slice A n c) (.bool a.den.neg) (.slice A' n' c');have h':=h.below b;obtain ⟨p1,p2,p3,p4⟩:=hX.four;have hz:=hs.sz.1;go_enter Tryz.func48,Tryz.ntmps48;go_wp2_with fail;clear hW;refine (Xn _ a _ h' hs).mono ?_;rintro e w1 ⟨v1,rfl,e1,j⟩;obtain ⟨B,m,d,B',m',d',rfl,_,_⟩:=id e1.1;have f:sgn (canF a.q).num.z=qs a.q:=by rw [show (canF a.q).num=canI a.q.num from rfl,ZL];rfl
 have g:(Zq (val (canF a.q).num.ds)).length≤549755813888:=by rw [show (canF a.q).num=canI a.q.num from rfl,YP];omega
 have i:=JZ f;clear f;generalize canF a.q=P at *;obtain ⟨i1,i2⟩:=e1.1.num;have l:=fun (w:World)=>Yjf (.bool P.num.neg) (.slice B m d) (.bool P.den.neg) (.slice B' m' d') w
 go_wp2_with fail;refine (Zdc _ P.num _ i1 g).mono ?_;rw [i.out];rintro e w2 ⟨rfl,k⟩;go_wp2;go_ret;have b1:=Za b j b.size;exact ⟨rfl,Za b1 k b1.size⟩
theorem Zfv (v:Value) (a:RF) (w:World) (h:Zw w v a) (hs:a.Sh):
 Calls Tryz.prog 45 #[v] w fun e w'=>∃v',e= .returned v'∧Wz w.heap.size w' v' (canF (-a.q))∧Below w.heap.size w w':=by
 obtain ⟨A,n,c,A',n',c',rfl,_,_⟩:=id h;obtain ⟨W,hW,j,hX,hR,g⟩:=Zjr w (.bool a.num.neg) (.slice A n c) (.bool a.den.neg) (.slice A' n' c') (.bool false) (.slice none 0 0) (.bool false) (.slice none 0 0);obtain ⟨i1,i2⟩:=(h.below g).num;obtain ⟨k,l⟩:=hs;have i:w.heap.size≠w.heap.size+1:=by omega
 go_enter Tryz.func45,Tryz.ntmps45;go_wp2_with fail;clear hW
 go_region_held3 (fun w'=>w'.cell? ⟨w.heap.size,0,none⟩=some (.bool a.num.neg)∧w'.cell? ⟨w.heap.size,1,none⟩=some (.slice A n c)∧w'.cell? ⟨w.heap.size,2,none⟩=some (.bool a.den.neg)∧w'.cell? ⟨w.heap.size,3,none⟩=some (.slice A' n' c'))
  (first | with_reducible exact hX.drew.four | with_reducible exact (hX.drew.later b).four | with_reducible exact ((hX.drew.later b).later f).four | with_reducible exact (((hX.drew.later b).later f).far4 i _ _ _ _).four)
  (first
   | (go_at_call 87;refine (Zbs _ a.num _ (i1.keep (ZG.drew _)) (by omega)).mono ?_;rintro e w6 ⟨v6,rfl,e6,b⟩)
   | (go_at_call 62;refine (Zau _ _ (canI (-a.num.z)) a.den _ e6 ((i2.keep (ZG.drew _)).below b) (by rw [YP,Int.natAbs_neg,Z8];omega) (by omega)).mono ?_;rw [ZL,Yje];rintro e w7 ⟨v7,rfl,e7,f⟩;obtain ⟨B,m,d,B',m',d',rfl,_,_⟩:=id e7.1;obtain ⟨c0,c1,c2,c3⟩:=((hR.drew.later b).later f).four;obtain ⟨f0,f1,f2,f3⟩:=((hR.drew.later b).later f).fourF))
 go_wp2;refine Zp Tryz.results45 Tryz.underlying46 (by kernel_rfl) rfl (((hR.drew.later b).later f).set4 _ _ _ _) rfl ?_;have b1:=Za g.drew b g.size;exact YL ((hR.drew.later b).later f) (e7.mono b1.size) (Za b1 f b1.size) (by omega)
def Yjg (p q:Rat) (w wx:World) (A A' B B':Option Addr) (n c n' c' m d m' d':Nat):Prop:=
 Bk wx w.heap.size 46 [.bool (canF p).num.neg,.slice A n c,.bool (canF p).den.neg,.slice A' n' c']∧Bk wx (w.heap.size+1) 46 [.bool (canF q).num.neg,.slice B m d,.bool (canF q).den.neg,.slice B' m' d']∧Bk wx (w.heap.size+1+1) 46 [.bool false,.slice none 0 0,.bool false,.slice none 0 0]∧
 Zw wx (.agg #[.bool (canF p).num.neg,.slice A n c,.bool (canF p).den.neg,.slice A' n' c']) (canF p)∧Zw wx (.agg #[.bool (canF q).num.neg,.slice B m d,.bool (canF q).den.neg,.slice B' m' d']) (canF q)∧Below w.heap.size w wx
theorem Zrq {w w4:World} {g g' h:Nat} {x y z u x' y' z' u':Value} {cs:List Value} {b1 s1 b2 s2 b3 s3 b4 s4:Value} {p q:RF} (hX:Bk w4 g 46 [x,y,z,u]) (hY:Bk w4 g' 46 [x',y',z',u']) (hR:Bk w4 h 46 cs) (hne:g≠g') (hr1:h≠g) (hr2:h≠g') (dq:Zw w4 (.agg #[b1,s1,b2,s2]) p) (dr:Zw w4 (.agg #[b3,s3,b4,s4]) q) {m:Nat} (hbe:Below m w w4) (hg:m≤g) (hg':m≤g'):
 ∀W,W=((((((((w4.setCell ⟨g,0,none⟩ b1).setCell ⟨g,1,none⟩ s1).setCell ⟨g,2,none⟩ b2).setCell ⟨g,3,none⟩ s2).setCell ⟨g',0,none⟩ b3).setCell ⟨g',1,none⟩ s3).setCell ⟨g',2,none⟩ b4).setCell ⟨g',3,none⟩ s4)→
 Bk W g 46 [b1,s1,b2,s2]∧Bk W g' 46 [b3,s3,b4,s4]∧Bk W h 46 cs∧Zw W (.agg #[b1,s1,b2,s2]) p∧Zw W (.agg #[b3,s3,b4,s4]) q∧Below m w W:=by
 rintro W rfl;have h1:=hX.set4 b1 s1 b2 s2;have h2:=hY.far4 (Ne.symm hne) b1 s1 b2 s2;have k1:=hX.keep4 (by decide) b1 s1 b2 s2;have k2:=h2.keep4 (by decide) b3 s3 b4 s4;exact ⟨h1.far4 hne _ _ _ _,h2.set4 _ _ _ _,(hR.far4 hr1 _ _ _ _).far4 hr2 _ _ _ _,dq.keep (k1.trans k2),dr.keep (k1.trans k2),ZI (ZI hbe hg _ _ _ _) hg' _ _ _ _⟩
theorem szI {k:Nat} {q:Rat} (h:Sz k q):(canF q).num.ds.length≤k∧(canF q).den.ds.length≤k:=h
theorem szV {k:Nat} {z:Int} (h:(Zq z.natAbs).length≤k):(Zq (val (canI z).ds)).length≤k:=by rw [YP];exact h
theorem zN (q:Rat):(canF q).num.z=q.num:=ZL _
theorem zD (q:Rat):(canF q).den.z=q.den:=ZL _
namespace Pl
abbrev Mx:=Nat→Nat→Rat
def Xu (M:Mx) (c:Nat):Nat→Nat→Option Nat
 | _,0=>none
 | r,n+1=>if M r c≠0 then some r else Xu M c (r+1) n
def Zdh (M:Mx) (k m:Nat):Option Nat:=Xu M k k (m - k)
theorem Zdi {M:Mx} {c:Nat}:∀{n r:Nat},(∀s,r≤s→s < r+n→M s c=0)→Xu M c r n=none
 | 0,_,_=>rfl
 | n+1,r,h=>by
  unfold Xu
  rw [if_neg (by simpa using h r (JY _) (by omega))]
  exact Zdi fun s h1 h2=>h s (by omega) (by omega)
theorem Zdj {M:Mx} {c:Nat}:∀{n r t:Nat},r≤t→t < r+n→M t c≠0→(∀s,r≤s→s < t→M s c=0)→Xu M c r n=some t
 | 0,r,t,h1,h2,_,_=>by omega
 | n+1,r,t,h1,h2,h3,h4=>by
  unfold Xu
  rcases Nat.eq_or_lt_of_le h1 with e | e
  ·subst e;rw [if_pos h3]
  ·rw [if_neg (by simpa using h4 r (JY _) e)]
   exact Zdj (by omega) (by omega) h3 fun s h5 h6=>h4 s (by omega) h6
theorem Zwm {M:Mx} {k m:Nat} (h:∀s,k≤s→s < m→M s k=0):Zdh M k m=none:=Zdi fun s h1 h2=>h s h1 (by omega)
theorem Zwn {M:Mx} {k m t:Nat} (h1:k≤t) (h2:t < m) (h3:M t k≠0) (h4:∀s,k≤s→s < t→M s k=0):Zdh M k m=some t:=Zdj h1 (by omega) h3 h4
theorem Zhp {M:Mx} {c:Nat}:∀{n r t:Nat},Xu M c r n=some t→r≤t∧t < r+n∧M t c≠0
 | 0,_,_,h=>by cases h
 | n+1,r,t,h=>by
  unfold Xu at h
  split at h
  ·injection h with h;subst h;exact ⟨JY _,by omega,by assumption⟩
  ·have:=Zhp h;exact ⟨by omega,by omega,this.2.2⟩
theorem Zdk {M:Mx} {c:Nat}:∀{n r:Nat},Xu M c r n=none→∀s,r≤s→s < r+n→M s c=0
 | 0,r,_,s,h1,h2=>by omega
 | n+1,r,h,s,h1,h2=>by
  unfold Xu at h
  split at h
  ·cases h
  ·rename_i h0
   rcases Nat.eq_or_lt_of_le h1 with e | e
   ·subst e;simpa using h0
   ·exact Zdk h s (by omega) (by omega)
theorem Zlx {M:Mx} {k m t:Nat} (h:Zdh M k m=some t):k≤t∧t < m∧M t k≠0:=by
 have:=Zhp h;exact ⟨this.1,by omega,this.2.2⟩
theorem Zwo {M:Mx} {k m:Nat} (h:Zdh M k m=none):∀s,k≤s→s < m→M s k=0:=fun s h1 h2=>Zdk h s h1 (by omega)
theorem Zbm {A B:Mx} {c:Nat} (h:∀r,A r c=B r c):∀(n r:Nat),Xu A c r n=Xu B c r n
 | 0,_=>rfl
 | n+1,r=>by unfold Xu;rw [h r,Zbm h n]
def Yeq (M:Mx) (r i:Nat) (q:Rat):Mx:=fun s c=>if s=r∧c=i then q else M s c
def swapM (M:Mx) (k t:Nat):Mx:=fun r=>if r=k then M t else if r=t then M k else M r
def scaleTo (M:Mx) (k i:Nat) (f:Rat):Mx:=fun r c=>if r=k∧k≤c∧c < i then M r c / f else M r c
def WY (M:Mx) (k s i:Nat) (g:Rat):Mx:=fun r c=>if r=s∧k≤c∧c < i then M r c - g * M k c else M r c
def Yb (M:Mx) (k s m:Nat):Mx:=fun r c=>if r≠k∧r < s∧k≤c∧c≤m then M r c - M r k * M k c else M r c
def Vt (M:Mx) (k m:Nat):Option Mx:=match Zdh M k m with
 | none=>none
 | some t=>some (Yb (scaleTo (swapM M k t) k (m+1) (swapM M k t k k)) k m m)
def gj (M:Mx) (m:Nat):Nat→Option Mx
 | 0=>some M
 | k+1=>match gj M m k with
  | none=>none
  | some M'=>Vt M' k m
def UH (m:Nat) (cols:Mx) (b:Nat→Rat):Mx:=fun r c=>if c < m then cols c r else b r
def YS (m:Nat) (cols:Mx) (b:Nat→Rat):Option (Nat→Rat):=(gj (UH m cols b) m m).map fun M k=>M k m
theorem Zly (M:Mx) (k:Nat) (f:Rat):scaleTo M k k f=M:=by
 funext r c;unfold scaleTo;rw [if_neg (by omega)]
theorem Zok {M:Mx} {k i:Nat} {f:Rat} (h:k≤i):Yeq (scaleTo M k i f) k i (scaleTo M k i f k i / f)=scaleTo M k (i+1) f:=by
 funext r c;unfold Yeq scaleTo
 by_cases h1:r=k∧c=i
 ·obtain ⟨rfl,rfl⟩:=h1;rw [if_pos ⟨rfl,rfl⟩,if_neg (by omega),if_pos ⟨rfl,h,by omega⟩]
 ·rw [if_neg h1];by_cases h2:r=k∧k≤c∧c < i
  ·rw [if_pos h2,if_pos ⟨h2.1,h2.2.1,by omega⟩]
  ·rw [if_neg h2,if_neg (by omega)]
theorem Zol (M:Mx) (k s:Nat) (g:Rat):WY M k s k g=M:=by
 funext r c;unfold WY;rw [if_neg (by omega)]
theorem Zkj {M:Mx} {k s i:Nat} {g:Rat} (h:s≠k) (c:Nat):WY M k s i g k c=M k c:=by
 unfold WY;rw [if_neg (by omega)]
theorem Zrr {M:Mx} {k s i:Nat} {g:Rat} (h:k≤i) (hs:s≠k):Yeq (WY M k s i g) s i (WY M k s i g s i - g * WY M k s i g k i)=WY M k s (i+1) g:=by
 funext r c
 rw [Zkj hs];unfold Yeq WY;by_cases h1:r=s∧c=i
 ·obtain ⟨rfl,rfl⟩:=h1;rw [if_pos ⟨rfl,rfl⟩,if_neg (by omega),if_pos ⟨rfl,h,by omega⟩]
 ·rw [if_neg h1];by_cases h2:r=s∧k≤c∧c < i
  ·rw [if_pos h2,if_pos ⟨h2.1,h2.2.1,by omega⟩]
  ·rw [if_neg h2,if_neg (by omega)]
theorem Zlz (M:Mx) (k m:Nat):Yb M k 0 m=M:=by
 funext r c;unfold Yb;rw [if_neg (by omega)]
theorem Uq {M:Mx} {k s m:Nat} (c:Nat):Yb M k s m k c=M k c:=by
 unfold Yb;rw [if_neg (by omega)]
theorem Zav {M:Mx} {k s m:Nat} (c:Nat):Yb M k s m s c=M s c:=by
 unfold Yb;rw [if_neg (by omega)]
theorem Zfw {M:Mx} {k s m:Nat} (h:s=k∨M s k=0):Yb M k s m=Yb M k (s+1) m:=by
 funext r c
 unfold Yb;by_cases h1:r≠k∧r < s∧k≤c∧c≤m
 ·rw [if_pos h1,if_pos ⟨h1.1,by omega,h1.2.2⟩]
 ·rw [if_neg h1];by_cases h2:r≠k∧r < s+1∧k≤c∧c≤m
  ·rw [if_pos h2];have:r=s:=by omega
   subst this;rcases h with h | h
   ·exact absurd h h2.1
   ·rw [h];grind
  ·rw [if_neg h2]
theorem Zom {M:Mx} {k s m:Nat} (hs:s≠k):WY (Yb M k s m) k s (m+1) (Yb M k s m s k)=Yb M k (s+1) m:=by
 funext r c
 unfold WY;rw [Uq,Zav];unfold Yb;by_cases h1:r=s∧k≤c∧c < m+1
 ·obtain ⟨rfl,h2,h3⟩:=h1;rw [if_pos ⟨rfl,h2,h3⟩,if_neg (by omega),if_pos ⟨hs,by omega,h2,by omega⟩]
 ·rw [if_neg h1];by_cases h2:r≠k∧r < s∧k≤c∧c≤m
  ·rw [if_pos h2,if_pos ⟨h2.1,by omega,h2.2.2⟩]
  ·rw [if_neg h2,if_neg (by omega)]
def MB (m n K:Nat) (M:Mx):Prop:=∀r c,r < m→c < n→Sz K (M r c)
theorem MB.mono {m n K K':Nat} {M:Mx} (h:MB m n K M) (hk:K≤K'):MB m n K' M:=fun r c h1 h2=>(h r c h1 h2).mono hk
theorem MB.swap {m n K:Nat} {M:Mx} (h:MB m n K M) {k t:Nat} (hk:k < m) (ht:t < m):MB m n K (swapM M k t):=fun r c h1 h2=>by
 unfold swapM;split
 ·exact h t c ht h2
 ·split
  ·exact h k c hk h2
  ·exact h r c h1 h2
theorem MB.scale {m n K:Nat} {M:Mx} (h:MB m n K M) {k i:Nat} {f:Rat} (hf:Sz K f):MB m n (2 * K) (scaleTo M k i f):=fun r c h1 h2=>by
 unfold scaleTo;split
 ·exact (Zdf (h r c h1 h2) hf).mono (by omega)
 ·exact (h r c h1 h2).mono (by omega)
theorem Zhq {m n K:Nat} {M:Mx} (h:MB m n K M) {k i:Nat} {f:Rat} {r c:Nat} (hr:r < m) (hc:c < n) (hne:r≠k):Sz K (scaleTo M k i f r c):=by
 unfold scaleTo;rw [if_neg (by omega)];exact h r c hr hc
theorem Zhr {m n K:Nat} {M:Mx} (h:MB m n K M) {k i:Nat} {f:Rat} (hf:Sz K f) {r c:Nat} (hr:r < m) (hc:c < n):Sz (2 * K) (scaleTo M k i f r c):=h.scale hf r c hr hc
theorem MB.elim {m n K:Nat} {M:Mx} {k s m':Nat} (hk:k < m) (h1:∀r c,r < m→c < n→r≠k→Sz K (M r c)) (h2:∀c,c < n→Sz (2 * K) (M k c)) (hn:k < n):MB m n (5 * K) (Yb M k s m'):=fun r c hr hc=>by
 unfold Yb;split
 ·rename_i h
  have a:=h1 r c hr hc h.1
  have b:=h1 r k hr hn h.1
  have:=Zkh a
  exact (Zdg a (XO b (h2 c hc))).mono (by omega)
 ·by_cases e:r=k
  ·subst e;exact (h2 c hc).mono (by omega)
  ·exact (h1 r c hr hc e).mono (by omega)
theorem Yer {M M':Mx} {k m K:Nat} (h:MB m (m+1) K M) (hk:k < m) (e:Vt M k m=some M'):MB m (m+1) (5 * K) M':=by
 unfold Vt at e
 cases hf:Zdh M k m with
 | none=>rw [hf] at e;cases e
 | some t=>
  rw [hf] at e;injection e with e;subst e;obtain ⟨h1,h2,_⟩:=Zlx hf;have hs:=h.swap hk h2;exact MB.elim hk (fun r c hr hc hne=>Zhq hs hr hc hne) (fun c hc=>Zhr hs (hs k k hk (by omega)) hk hc) (by omega)
theorem Yoa {M:Mx} {m K:Nat} (h:MB m (m+1) K M):∀{k:Nat} {M':Mx},k≤m→gj M m k=some M'→MB m (m+1) (5^k * K) M'
 | 0,M',_,e=>by unfold gj at e;injection e with e;subst e;simpa using h
 | k+1,M',hk,e=>by
  unfold gj at e
  cases hg:gj M m k with
  | none=>rw [hg] at e;cases e
  | some N=>
   rw [hg] at e
   have:=Yer (Yoa h (by omega) hg) (by omega) e
   exact this.mono (by rw [Nat.pow_succ];grind)
theorem Yly {m K:Nat} {cols:Mx} {b:Nat→Rat} (h:∀r c,r < m→c < m→Sz K (cols c r)) (hb:∀r,r < m→Sz K (b r)):MB m (m+1) K (UH m cols b):=fun r c hr hc=>by
 unfold UH;split
 ·exact h r c hr (by assumption)
 ·exact hb r hr
theorem Zue {m K:Nat} {cols:Mx} {b x:Nat→Rat} (h:∀r c,r < m→c < m→Sz K (cols c r)) (hb:∀r,r < m→Sz K (b r)) (e:YS m cols b=some x):∀r,r < m→Sz (5^m * K) (x r):=by
 unfold YS at e
 cases hg:gj (UH m cols b) m m with
 | none=>rw [hg] at e;cases e
 | some N=>
  rw [hg] at e;injection e with e;subst e;exact fun r hr=>Yoa (Yly h hb) (JY _) hg r m hr (by omega)
def Zab (m:Nat) (A B:Mx):Prop:=∀r c,c < m→A r c=B r c
theorem Zab.step {m k:Nat} {A B:Mx} (h:Zab m A B) (hk:k < m):match Vt A k m,Vt B k m with | some A',some B'=>Zab m A' B' | none,none=>True | _,_=>False:=by
 unfold Vt Zdh;rw [Zbm (fun r=>h r k hk)]
 cases Xu B k k (m - k) with
 | none=>trivial
 | some t=>
  have hs:Zab m (swapM A k t) (swapM B k t):=fun r c hc=>by
   unfold swapM;split
   ·exact h t c hc
   ·split
    ·exact h k c hc
    ·exact h r c hc
  have h2:Zab m (scaleTo (swapM A k t) k (m+1) (swapM A k t k k)) (scaleTo (swapM B k t) k (m+1) (swapM B k t k k)):=fun r c hc=>by
   unfold scaleTo;rw [hs r c hc,hs k k hk]
  show Zab m _ _;intro r c hc;unfold Yb;rw [h2 r c hc,h2 r k hk,h2 k c hc]
theorem Zab.gj {m:Nat} {A B:Mx} (h:Zab m A B):∀(k:Nat),k≤m→match gj A m k,gj B m k with | some A',some B'=>Zab m A' B' | none,none=>True | _,_=>False
 | 0,_=>h
 | k+1,hk=>by
  have ih:=Zab.gj h k (by omega)
  unfold Pl.gj
  generalize Pl.gj A m k=X at ih ⊢
  generalize Pl.gj B m k=Y at ih ⊢
  match X,Y,ih with
  | some A',some B',ih=>exact ih.step (by omega)
  | none,none,_=>trivial
theorem Zbt {m:Nat} {cols:Mx} (b b':Nat→Rat):(YS m cols b).isSome=(YS m cols b').isSome:=by
 have h:Zab m (UH m cols b) (UH m cols b'):=fun r c hc=>by unfold UH;rw [if_pos hc,if_pos hc]
 have:=h.gj m (JY _);unfold YS;generalize Pl.gj (UH m cols b) m m=X at this ⊢;generalize Pl.gj (UH m cols b') m m=Y at this ⊢
 match X,Y,this with
 | some A',some B',_=>rfl
 | none,none,_=>rfl
end Pl
end Go.Proofs.YtgbhebappffbdaaGreat
namespace Go.Proofs.YtgbhebappffbdaaGreat
open Go.RowKit
open Pl
attribute [local go_sem ↓] Go.wp_at_zero Go.wp_at_succ
def FrC (w:World) (cs:List Value) (fs:List RF):Prop:=
 cs.length=fs.length * 4∧∀k f,fs[k]? =some f→∃x y z u,cs[k * 4]? =some x∧cs[k * 4+1]? =some y∧cs[k * 4+2]? =some z∧cs[k * 4+3]? =some u∧Zw w (.agg #[x,y,z,u]) f
theorem FrC.keep {w w':World} {cs:List Value} {fs:List RF} (h:FrC w cs fs) (hk:ZG w w'):FrC w' cs fs:=
 ⟨h.1,fun k f hf=>by
  obtain ⟨x,y,z,u,h1,h2,h3,h4,h5⟩:=h.2 k f hf
  exact ⟨x,y,z,u,h1,h2,h3,h4,h5.keep hk⟩⟩
theorem FrC.nil (w:World):FrC w [] []:=⟨rfl,fun k f h=>by simp at h⟩
theorem FrC.snoc {w:World} {cs:List Value} {fs:List RF} (h:FrC w cs fs) {x y z u:Value} {f:RF} (hf:Zw w (.agg #[x,y,z,u]) f):FrC w (cs++[x,y,z,u]) (fs++[f]):=by
 refine ⟨by simp [h.1];omega,fun k g hg=>?_⟩;have hl:=h.1;rcases JX k fs.length with hk | hk
 ·rw [List.getElem?_append_left hk] at hg;obtain ⟨x',y',z',u',h1,h2,h3,h4,h5⟩:=h.2 k g hg;refine ⟨x',y',z',u',?_,?_,?_,?_,h5⟩
  ·rw [List.getElem?_append_left (by omega)];exact h1
  ·rw [List.getElem?_append_left (by omega)];exact h2
  ·rw [List.getElem?_append_left (by omega)];exact h3
  ·rw [List.getElem?_append_left (by omega)];exact h4
 ·rw [List.getElem?_append_right hk] at hg;have a:k - fs.length=0:=by
   rcases JV (k - fs.length) with e | e
   ·exact e
   ·rw [JU (by simp;omega)] at hg;cases hg
  rw [a] at hg;simp at hg;subst hg;obtain rfl:k=fs.length:=by omega
  refine ⟨x,y,z,u,?_,?_,?_,?_,hf⟩
  ·rw [List.getElem?_append_right (by omega),show fs.length * 4 - cs.length=0 by omega];rfl
  ·rw [List.getElem?_append_right (by omega),show fs.length * 4+1 - cs.length=1 by omega];rfl
  ·rw [List.getElem?_append_right (by omega),show fs.length * 4+2 - cs.length=2 by omega];rfl
  ·rw [List.getElem?_append_right (by omega),show fs.length * 4+3 - cs.length=3 by omega];rfl
def Zwq (cs:List Value) (j:Nat) (x y z u:Value):List Value:=(((cs.set j x).set (j+1) y).set (j+2) z).set (j+3) u
theorem FrC.set_ {w:World} {cs:List Value} {fs:List RF} (h:FrC w cs fs) {k:Nat} (hk:k < fs.length) {x y z u:Value} {f:RF} (hf:Zw w (.agg #[x,y,z,u]) f):FrC w (Zwq cs (k * 4) x y z u) (fs.set k f):=by
 have hl:=h.1;refine ⟨by simp [Zwq,hl],fun j g hg=>?_⟩;rcases Nat.lt_trichotomy j k with hjk | hjk | hjk
 ·rw [List.getElem?_set_ne (by omega)] at hg;obtain ⟨x',y',z',u',h1,h2,h3,h4,h5⟩:=h.2 j g hg;refine ⟨x',y',z',u',?_,?_,?_,?_,h5⟩ <;> unfold Zwq <;> rw [List.getElem?_set_ne (by omega),List.getElem?_set_ne (by omega),List.getElem?_set_ne (by omega),List.getElem?_set_ne (by omega)] <;> assumption
 ·subst hjk;rw [List.getElem?_set_self hk] at hg;injection hg with hg;subst hg;refine ⟨x,y,z,u,?_,?_,?_,?_,hf⟩ <;> unfold Zwq
  ·rw [List.getElem?_set_ne (by omega),List.getElem?_set_ne (by omega),List.getElem?_set_ne (by omega),List.getElem?_set_self (by omega)]
  ·rw [List.getElem?_set_ne (by omega),List.getElem?_set_ne (by omega),List.getElem?_set_self (by simp;omega)]
  ·rw [List.getElem?_set_ne (by omega),List.getElem?_set_self (by simp;omega)]
  ·rw [List.getElem?_set_self (by simp;omega)]
 ·rw [List.getElem?_set_ne (by omega)] at hg;obtain ⟨x',y',z',u',h1,h2,h3,h4,h5⟩:=h.2 j g hg;refine ⟨x',y',z',u',?_,?_,?_,?_,h5⟩ <;> unfold Zwq <;> rw [List.getElem?_set_ne (by omega),List.getElem?_set_ne (by omega),List.getElem?_set_ne (by omega),List.getElem?_set_ne (by omega)] <;> assumption
def UD (w:World) (t:TypeId) (s:Nat) (v:Value) (n:Nat) (xs:List Value):Prop:=
 ∃A c,v= .slice A n c∧xs.length=n * s∧n≤c∧c≤maxLen∧(0 < n→∃b off cs fz,A=some ⟨b,off,none⟩∧w.heap[b]? =some (.cells cs t fz)∧∀j u,xs[j]? =some u→cs[off+j]? =some u)
theorem UD.below {w w':World} {t:TypeId} {s n:Nat} {v:Value} {xs:List Value} (h:UD w t s v n xs) (hb:Below w.heap.size w w'):UD w' t s v n xs:=by
 obtain ⟨A,c,h1,h2,h3,h4,h5⟩:=h;refine ⟨A,c,h1,h2,h3,h4,fun hp=>?_⟩;obtain ⟨b,a,cs,fz,hA,hc,hx⟩:=h5 hp;exact ⟨b,a,cs,fz,hA,(hb.block b (YA hc)).trans hc,hx⟩
theorem UD.shape {w:World} {t:TypeId} {s n:Nat} {v:Value} {xs:List Value} (h:UD w t s v n xs):∃A c,v= .slice A n c∧n≤c∧c≤9223372036854775807:=by
 obtain ⟨A,c,h1,h2,h3,h4,h5⟩:=h;unfold maxLen at h4;exact ⟨A,c,h1,h3,by omega⟩
theorem UD.at_ {w:World} {t:TypeId} {s n c:Nat} {A:Option Addr} {xs:List Value} (h:UD w t s (.slice A n c) n xs) (hn:0 < n):
 ∃b off,A=some ⟨b,off,none⟩∧b < w.heap.size∧∀j u,xs[j]? =some u→w.cell? ⟨b,off+j,none⟩=some u:=by
 obtain ⟨A',c',hv,h2,h3,h4,h5⟩:=h;injection hv with e1 e2 e3;subst e1;obtain ⟨b,off,cs,fz,hA,hc,hx⟩:=h5 hn;exact ⟨b,off,hA,YA hc,fun j u hj=>by rw [cell_of_row w b (off+j) cs _ fz hc,hx j u hj]⟩
theorem UD.len {w:World} {t:TypeId} {s n m c:Nat} {A:Option Addr} {xs:List Value} (h:UD w t s (.slice A n c) m xs):n=m:=by
 obtain ⟨A',c',hv,_⟩:=h;injection hv
theorem UD.of_own {w:World} {base:Nat} {t:TypeId} {s n:Nat} {v:Value} {xs:List Value} (h:w.ownsRow base t s v n xs):UD w t s v n xs:=by
 rcases h.2 with ⟨rfl,h0⟩ | ⟨g,cap,cur,rfl,hb,hg,hnc,hcm,hcs,htake⟩
 ·have hl:=h.1;have hx:n=0∨s=0:=by
   subst h0;exact Or.inl rfl
  subst h0;exact ⟨none,0,rfl,hl,JY _,by simp,fun hp=>by omega⟩
 ·refine ⟨_,cap,rfl,h.1,hnc,hcm,fun _=>⟨g,0,cur,(0,0),rfl,hg,fun j u hj=>?_⟩⟩;rw [← htake,List.getElem?_take] at hj;split at hj
  ·simpa using hj
  ·cases hj
theorem UD.nil (w:World) (t:TypeId) (s:Nat) (A:Option Addr) (c:Nat) (hm:c≤maxLen):UD w t s (.slice A 0 c) 0 []:=⟨A,c,rfl,by simp,Nat.zero_le _,hm,fun h=>by omega⟩
def Y1 (w:World) (v:Value) (fs:List RF):Prop:=∃cs,UD w 46 4 v fs.length cs∧FrC w cs fs
theorem Y1.below {w w':World} {v:Value} {fs:List RF} (h:Y1 w v fs) (hb:Below w.heap.size w w'):Y1 w' v fs:=by
 obtain ⟨cs,h1,h2⟩:=h;exact ⟨cs,h1.below hb,h2.keep (ZG.of_below hb)⟩
theorem Y1.shape {w:World} {v:Value} {fs:List RF} (h:Y1 w v fs):∃A c,v= .slice A fs.length c∧fs.length≤c∧c≤9223372036854775807:=by
 obtain ⟨cs,h1,h2⟩:=h;exact h1.shape
theorem Y1.at_ {w:World} {A:Option Addr} {n c:Nat} {fs:List RF} (h:Y1 w (.slice A n c) fs) {k:Nat} {f:RF} (hf:fs[k]? =some f):
 ∃b off x y z u,A=some ⟨b,off,none⟩∧b < w.heap.size∧w.cell? ⟨b,off+k * 4,none⟩=some x∧w.cell? ⟨b,off+k * 4+1,none⟩=some y∧w.cell? ⟨b,off+k * 4+2,none⟩=some z∧w.cell? ⟨b,off+k * 4+3,none⟩=some u∧Zw w (.agg #[x,y,z,u]) f:=by
 obtain ⟨cs,h1,h2⟩:=h;obtain ⟨x,y,z,u,c1,c2,c3,c4,hm⟩:=h2.2 k f hf;have hk:k < fs.length:=(List.getElem?_eq_some_iff.1 hf).1;have hn:=h1.len;subst hn;obtain ⟨b,off,hA,hb,hc⟩:=h1.at_ (by omega);exact ⟨b,off,x,y,z,u,hA,hb,hc _ _ c1,hc _ _ c2,hc _ _ c3,hc _ _ c4,hm⟩
def ZU (base:Nat) (w:World) (v:Value) (fs:List RF):Prop:=∃cs,w.ownsRow base 46 4 v fs.length cs∧FrC w cs fs
theorem ZU.frs {base:Nat} {w:World} {v:Value} {fs:List RF} (h:ZU base w v fs):Y1 w v fs:=by
 obtain ⟨cs,h1,h2⟩:=h;exact ⟨cs,UD.of_own h1,h2⟩
theorem own_below {w w':World} {base:Nat} {t:TypeId} {s n:Nat} {v:Value} {xs:List Value} (h:w.ownsRow base t s v n xs) (hb:Below w.heap.size w w'):w'.ownsRow base t s v n xs:=by
 refine ⟨h.1,?_⟩;rcases h.2 with hn | ⟨g,cap,cur,rfl,hb',hgg,rest⟩
 ·exact .inl hn
 ·exact .inr ⟨g,cap,cur,rfl,hb',(hb.block g (YA hgg)).trans hgg,rest⟩
theorem ZU.below {base:Nat} {w w':World} {v:Value} {fs:List RF} (h:ZU base w v fs) (hb:Below w.heap.size w w'):ZU base w' v fs:=by
 obtain ⟨cs,h1,h2⟩:=h;exact ⟨cs,own_below h1 hb,h2.keep (ZG.of_below hb)⟩
theorem ZU.nil (base:Nat) (w:World):ZU base w (.slice none 0 0) []:=⟨[],World.ownsRow_nil _ _ _ _,FrC.nil _⟩
theorem info_frac:(Tryz.prog.info? 46).map (fun i=>(i.zero,i.size,i.bytes))=some (some (.agg #[.bool false,.slice none 0 0,.bool false,.slice none 0 0]),4,64):=by kernel_rfl
section
section
variable {P:Program} {ops:Array Oper} {Q:Exit→Act→World→Prop} {md:Region.Mode} {S:World→Prop} {n:Nat}
def AnyF (P:Program) (md:Region.Mode) (ops:Array Oper) (Q:Exit→Act→World→Prop) (S:World→Prop) (n:Nat):Nat→Array Bool→Act→World→Prop
 | 0,listed,a,w=>Region.ready md ops listed=[]∧Q .normal a w
 | fuel+1,listed,a,w=>(Region.ready md ops listed=[]→Q .normal a w)∧
  ∀i∈Region.ready md ops listed,wpOp P ops Q i (fun a' w'=>(n≤i∨S w')∧AnyF P md ops Q S n fuel (listed.setIfInBounds i true) a' w') a w
theorem AnyF.any:∀(fuel:Nat) (listed:Array Bool) (a:Act) (w:World),AnyF P md ops Q S n fuel listed a w→wpAny P md ops Q fuel listed a w
 | 0,_,_,_,h=>h
 | fuel+1,_,_,_,h=>⟨h.1,fun i hi=>wpOp_mono (fun a' w' h'=>AnyF.any fuel _ a' w' h'.2) (h.2 i hi)⟩
theorem Us {id:Nat} {a:Act} {w:World} (hm:P.follows .mixedOrders=true) (hS:S w.drew)
 (h:S w.drew→AnyF P .any ops Q S n ops.size (Array.replicate ops.size false) a w.drew):(Code.region id ops true).wp P Q a w:=
 wp_region_any hm (AnyF.any _ _ _ _ (h hS))
def Zma (md:Region.Mode) (ops:Array Oper) (n i:Nat):Bool:=(List.range ops.size).all fun j=>decide (j < n) || Region.waitsFor md ops j i
theorem Zmb {i j:Nat} (h:Zma md ops n i=true) (hj:n≤j) {oj:Oper} (ho:ops[j]? =some oj):∃e∈oj.after,Region.binds md e=true∧e.on=i:=by
 have b:j < ops.size:=(Array.getElem?_eq_some_iff.1 ho).1;have h1:=List.all_eq_true.1 h j (List.mem_range.2 b);rw [decide_eq_false (by omega),Bool.false_or] at h1;obtain ⟨d,a,e,he,hb,c⟩:=Region.waitsFor_spec h1;rw [ho] at a;injection a with a;subst a;exact ⟨e,he,hb,c⟩
theorem Zwr {i:Nat} {oi:Oper} {v:Value} (hi:ops[i]? =some oi) (hsel:∀(j:Nat) (o:Oper) cs b,ops[j]? =some o→o.op≠ .select cs b) (hw:Zma md ops n i=true)
 (hQ:∀c a w,Q (.panic c) (a.put oi.dst v) w→Q (.panic c) a w):
 ∀(fuel:Nat) (listed:Array Bool) (a:Act) (w:World),
  (∀j oj,ops[j]? =some oj→j≠i→listed.getD j true=false→(∀e∈oj.after,Region.binds md e=true→e.on≠i)→oi.apart ops oj=true)→
  i∈Region.ready md ops listed→YieldsIf P ops S oi v a→S w→
  AnyF P md ops Q S n fuel (listed.setIfInBounds i true) (a.put oi.dst v) w→AnyF P md ops Q S n (fuel+1) listed a w:=by
 intro fuel
 induction fuel with
 | zero=>
  intro listed a w _ hr hy hS H;refine ⟨fun h=>(by rw [h] at hr;cases hr),fun j hj=>?_⟩;by_cases d:j=i
  ·subst d;exact hy.wpOp hi hS ⟨.inr hS,H⟩
  ·have:=ready_mono hj d;rw [H.1] at this
   cases this
 | succ fuel ih=>
  intro listed a w f hr hy hS H;refine ⟨fun h=>(by rw [h] at hr;cases hr),fun j hj=>?_⟩;by_cases d:j=i
  ·subst d;exact hy.wpOp hi hS ⟨.inr hS,H⟩
  ·have h1:=H.2 j (ready_mono hj d);obtain ⟨p,oj,l,q⟩:=mem_ready.1 hj;have m:∀e∈oj.after,Region.binds md e=true→e.on≠i:=fun e he hb heq=>by
    have h1:=q e he hb;have h0:=(mem_ready.1 hr).1;rw [heq] at h1;rcases JX i listed.size with h' | h'
    ·simp [h'] at h0 h1;rw [h0] at h1;cases h1
    ·simp [Array.getElem?_eq_none h'] at h1
   have s:¬n≤j:=fun hle=>by
    obtain ⟨e,he,hb,t⟩:=Zmb hw hle l;exact m e he hb t
   have h2:=wpOp_putIf l (f j oj l d p m) (fun cs b=>hsel i oi cs b hi) (fun cs b=>hsel j oj cs b l) hQ hy h1;have g:∀k ok,ops[k]? =some ok→k≠i→(listed.setIfInBounds j true).getD k true=false→
    (∀e∈ok.after,Region.binds md e=true→e.on≠i)→oi.apart ops ok=true:=fun k ok hk hki hun hno=>by
    refine f k ok hk hki ?_ hno;by_cases r:j=k
    ·subst r;exact p
    ·rw [getD_set_ne true r] at hun;exact hun
   refine wpOp_mono (fun a' w' h3=>⟨h3.2.1,ih (listed.setIfInBounds j true) a' w' g (ready_mono hr (Ne.symm d)) h3.1 (h3.2.1.resolve_left s) ?_⟩) h2;rw [Array.setIfInBounds_comm _ _ d];exact h3.2.2
theorem Zo {i:Nat} {oi:Oper} {v:Value} {fuel:Nat} {listed:Array Bool} {a:Act} {w:World} (hi:ops[i]? =some oi)
 (hs:Region.noSelect ops=true) (hf:Region.free md ops listed i=true) (hr:(Region.ready md ops listed).contains i=true) (hw:Zma md ops n i=true)
 (hQ:∀c a w,Q (.panic c) (a.put oi.dst v) w→Q (.panic c) a w) (hy:YieldsIf P ops S oi v a) (hS:S w)
 (h:AnyF P md ops Q S n fuel (listed.setIfInBounds i true) (a.put oi.dst v) w):AnyF P md ops Q S n (fuel+1) listed a w:=
 Zwr hi (Region.noSelect_spec hs) hw hQ fuel listed a w (Region.free_spec hi hf) (by simpa using hr) hy hS h
theorem XD {i:Nat} {o:Oper} {fuel:Nat} {listed:Array Bool} {a:Act} {w:World} (hr:Region.ready md ops listed=[i]) (ho:ops[i]? =some o)
 (h:∀K':Act→World→Prop,Shut (∀a w,S w→(S w→AnyF P md ops Q S n fuel (listed.setIfInBounds i true) a w)→K' a w)→if Region.wanted o (yielded ops a.tmps)=true then Oper.wp P o a w K' Q else K' (a.put o.dst undef) w):
 AnyF P md ops Q S n (fuel+1) listed a w:=by
 refine ⟨fun h0=>(by rw [hr] at h0;cases h0),fun j hj=>?_⟩;rw [hr] at hj;obtain rfl:j=i:=by simpa using hj
 exact wpOp_step ho (fun K' hK=>h K' (fun a w hS hW=>hK a w ⟨.inr hS,hW hS⟩))
theorem V6 {i:Nat} {o:Oper} {fuel:Nat} {listed:Array Bool} {a:Act} {w:World} (hr:Region.ready md ops listed=[i]) (ho:ops[i]? =some o) (hn:n≤i)
 (h:∀K':Act→World→Prop,Shut (∀a w,AnyF P md ops Q S n fuel (listed.setIfInBounds i true) a w→K' a w)→if Region.wanted o (yielded ops a.tmps)=true then Oper.wp P o a w K' Q else K' (a.put o.dst undef) w):
 AnyF P md ops Q S n (fuel+1) listed a w:=by
 refine ⟨fun h0=>(by rw [hr] at h0;cases h0),fun j hj=>?_⟩;rw [hr] at hj;obtain rfl:j=i:=by simpa using hj
 exact wpOp_step ho (fun K' hK=>h K' (fun a w hW=>hK a w ⟨.inl hn,hW⟩))
theorem Vu {listed:Array Bool} {a:Act} {w:World} (hr:Region.ready md ops listed=[]) (h:Q .normal a w):∀fuel,AnyF P md ops Q S n fuel listed a w
 | 0=>⟨hr,h⟩
 | _+1=>⟨fun _=>h,by rw [hr];simp⟩
end
end
section
def floats (o:Oper):Bool:=match o.op with
 | .move .. =>true
 | .assign .. =>true
 | .pick .. =>true
 | .load .. =>true
 | .binOp .. =>true
 | .unOp .. =>true
 | .convert .. =>true
 | .fieldAddr .. =>true
 | .field .. =>true
 | .indexAddr .. =>true
 | .index .. =>true
 | .extract .. =>true
 | .slice .. =>true
 | .nilCheck .. =>true
 | .build .. =>true
 | .call c=>match c.callee with | .builtin .len=>true | _=>false
 | _=>false
def Yob (o:Oper):Bool:=match o.op with
 | .move .. =>true
 | .assign .. =>true
 | .pick .. =>true
 | .binOp .. =>true
 | .unOp .. =>true
 | .fieldAddr .. =>true
 | .field .. =>true
 | .indexAddr .. =>true
 | .extract .. =>true
 | .build .. =>true
 | _=>false
def Zio (ops:Array Oper) (i:Nat):Bool:=((ops[i]?).map Yob).getD false
section
variable {P:Program} {ops:Array Oper} {Q:Exit→Act→World→Prop} {md:Region.Mode} {S:World→Prop} {n:Nat}
def AnyG (P:Program) (md:Region.Mode) (ops:Array Oper) (Q:Exit→Act→World→Prop) (S:World→Prop) (n:Nat):Nat→Array Bool→Act→World→Prop
 | 0,listed,a,w=>Region.ready md ops listed=[]∧Q .normal a w
 | fuel+1,listed,a,w=>(Region.ready md ops listed=[]→Q .normal a w)∧
  ∀i∈Region.ready md ops listed,wpOp P ops Q i (fun a' w'=>(n≤i∨(S w→S w'))∧AnyG P md ops Q S n fuel (listed.setIfInBounds i true) a' w') a w
theorem AnyG.any:∀(fuel:Nat) (listed:Array Bool) (a:Act) (w:World),AnyG P md ops Q S n fuel listed a w→wpAny P md ops Q fuel listed a w
 | 0,_,_,_,h=>h
 | fuel+1,_,_,_,h=>⟨h.1,fun i hi=>wpOp_mono (fun a' w' h'=>AnyG.any fuel _ a' w' h'.2) (h.2 i hi)⟩
theorem Yoc (listed:Array Bool) (k:Nat) (h0:listed.getD k true=false) (h1:listed.getD k false=true):False:=by
 rcases JX k listed.size with h' | h'
 ·simp [h'] at h0 h1;rw [h0] at h1;cases h1
 ·simp [Array.getElem?_eq_none h'] at h1
theorem Zrz {i:Nat} {oi:Oper} {v:Value} (hi:ops[i]? =some oi) (hsel:∀(j:Nat) (o:Oper) cs b,ops[j]? =some o→o.op≠ .select cs b)
 (hQ:∀c a w,Q (.panic c) (a.put oi.dst v) w→Q (.panic c) a w):
 ∀(fuel:Nat) (listed:Array Bool) (a:Act) (w:World),
  (∀j oj,ops[j]? =some oj→j≠i→listed.getD j true=false→(∀e∈oj.after,Region.binds md e=true→e.on≠i)→oi.apart ops oj=true)→
  i∈Region.ready md ops listed→YieldsIf P ops (fun _=>True) oi v a→
  AnyG P md ops Q S n fuel (listed.setIfInBounds i true) (a.put oi.dst v) w→AnyG P md ops Q S n (fuel+1) listed a w:=by
 intro fuel
 induction fuel with
 | zero=>
  intro listed a w _ hr hy H;refine ⟨fun h=>(by rw [h] at hr;cases hr),fun j hj=>?_⟩;by_cases d:j=i
  ·subst d;exact hy.wpOp hi trivial ⟨.inr fun h=>h,H⟩
  ·have:=ready_mono hj d;rw [H.1] at this
   cases this
 | succ fuel ih=>
  intro listed a w f hr hy H;refine ⟨fun h=>(by rw [h] at hr;cases hr),fun j hj=>?_⟩;by_cases d:j=i
  ·subst d;exact hy.wpOp hi trivial ⟨.inr fun h=>h,H⟩
  ·have h1:=H.2 j (ready_mono hj d);obtain ⟨l,oj,m,q⟩:=mem_ready.1 hj;have p:∀e∈oj.after,Region.binds md e=true→e.on≠i:=fun e he hb heq=>by
    have h1:=q e he hb;rw [heq] at h1;exact Yoc listed i (mem_ready.1 hr).1 h1
   have h2:=wpOp_putIf m (f j oj m d l p) (fun cs b=>hsel i oi cs b hi) (fun cs b=>hsel j oj cs b m) hQ hy h1;have g:∀k ok,ops[k]? =some ok→k≠i→(listed.setIfInBounds j true).getD k true=false→
    (∀e∈ok.after,Region.binds md e=true→e.on≠i)→oi.apart ops ok=true:=fun k ok hk hki hun hno=>by
    refine f k ok hk hki ?_ hno;by_cases r:j=k
    ·subst r;exact l
    ·rw [getD_set_ne true r] at hun;exact hun
   refine wpOp_mono (fun a' w' h3=>⟨h3.2.1,ih (listed.setIfInBounds j true) a' w' g (ready_mono hr (Ne.symm d)) h3.1 ?_⟩) h2;rw [Array.setIfInBounds_comm _ _ d];exact h3.2.2
theorem Zkt {i:Nat} {oi:Oper} {v:Value} {fuel:Nat} {listed:Array Bool} {a:Act} {w:World} (hi:ops[i]? =some oi)
 (hs:Region.noSelect ops=true) (hf:Region.free md ops listed i=true) (hr:(Region.ready md ops listed).contains i=true)
 (hQ:∀c a w,Q (.panic c) (a.put oi.dst v) w→Q (.panic c) a w) (hy:YieldsIf P ops (fun _=>True) oi v a)
 (h:AnyG P md ops Q S n fuel (listed.setIfInBounds i true) (a.put oi.dst v) w):AnyG P md ops Q S n (fuel+1) listed a w:=
 Zrz hi (Region.noSelect_spec hs) hQ fuel listed a w (Region.free_spec hi hf) (by simpa using hr) hy h
end
def Yhi (md:Region.Mode) (ops:Array Oper) (i:Nat):Array Bool:=(List.range ops.size).foldl (fun d j=>d.push (((ops[j]?).map fun o=>o.after.any fun e=>Region.binds md e && (e.on==i || d.getD e.on false)).getD false)) #[]
def Ymh (md:Region.Mode) (ops:Array Oper) (i:Nat) (d:Array Bool) (j:Nat):Bool:= !d.getD j false || ((ops[j]?).map fun o=>o.after.any fun e=>Region.binds md e && (e.on==i || d.getD e.on false)).getD false
def Zip (md:Region.Mode) (ops:Array Oper) (n:Nat) (listed:Array Bool) (i:Nat):Bool:=
 (List.range ops.size).all fun j=>(decide (j < n) || (Yhi md ops i).getD j false) && (Ymh md ops i (Yhi md ops i) j && (!(Yhi md ops i).getD j false || !listed.getD j true))
def XG (ops:Array Oper) (n i:Nat):Bool:=decide (i < n) && ((ops[i]?).map floats).getD false
def Yez (md:Region.Mode) (ops:Array Oper) (n:Nat) (listed:Array Bool) (i:Nat):Bool:=
 if XG ops n i=true then Region.free md ops listed i && ((Region.ready md ops listed).contains i && (Zio ops i || Zip md ops n listed i)) else Region.ready md ops listed==[i]
def Yam (md:Region.Mode) (ops:Array Oper) (n:Nat):Bool→List Nat→Array Bool→Bool
 | _,[],listed=>Region.ready md ops listed==[]
 | d,i::is,listed=>Yez md ops n listed i && (!(d && (XG ops n i && !Zio ops i)) && Yam md ops n (d || decide (n≤i)) is (listed.setIfInBounds i true))
def Yfa (md:Region.Mode) (ops:Array Oper) (n:Nat) (is:List Nat):Bool:=Region.noSelect ops && (Yam md ops n false is (Array.replicate ops.size false) && decide (is.length=ops.size))
section
variable {P:Program} {ops:Array Oper} {Q:Exit→Act→World→Prop} {md:Region.Mode} {S:World→Prop} {n:Nat}
def XP (P:Program) (ops:Array Oper) (Q:Exit→Act→World→Prop) (S:World→Prop) (n:Nat):List Nat→Act→World→Prop
 | [],a,w=>Q .normal a w
 | i::is,a,w=>match ops[i]? with
  | none=>True
  | some o=>if XG ops n i=true then ∃v,(if Zio ops i=true then YieldsIf P ops (fun _=>True) o v a else YieldsIf P ops S o v a)∧XP P ops Q S n is (a.put o.dst v) w
   else if Region.wanted o (yielded ops a.tmps)=true then Oper.wp P o a w (fun a' w'=>(n≤i∨S w')∧XP P ops Q S n is a' w') Q
   else (n≤i∨S w)∧XP P ops Q S n is (a.put o.dst undef) w
theorem Zsa {i:Nat} {oi:Oper} {v:Value} {d:Array Bool} (hi:ops[i]? =some oi) (hsel:∀(j:Nat) (o:Oper) cs b,ops[j]? =some o→o.op≠ .select cs b)
 (hd1:∀j,n≤j→j < ops.size→d.getD j false=true) (hd2:∀j o,ops[j]? =some o→d.getD j false=true→∃e∈o.after,Region.binds md e=true∧(e.on=i∨(e.on < ops.size∧d.getD e.on false=true)))
 (hQ:∀c a w,Q (.panic c) (a.put oi.dst v) w→Q (.panic c) a w):
 ∀(fuel:Nat) (listed:Array Bool) (a:Act) (w:World),
  (∀j oj,ops[j]? =some oj→j≠i→listed.getD j true=false→(∀e∈oj.after,Region.binds md e=true→e.on≠i)→oi.apart ops oj=true)→
  (∀j,j < ops.size→d.getD j false=true→listed.getD j true=false)→
  i∈Region.ready md ops listed→YieldsIf P ops S oi v a→S w→
  AnyG P md ops Q S n fuel (listed.setIfInBounds i true) (a.put oi.dst v) w→AnyG P md ops Q S n (fuel+1) listed a w:=by
 intro fuel
 induction fuel with
 | zero=>
  intro listed a w _ _ hr hy hS H;refine ⟨fun h=>(by rw [h] at hr;cases hr),fun j hj=>?_⟩;by_cases f:j=i
  ·subst f;exact hy.wpOp hi hS ⟨.inr fun h=>h,H⟩
  ·have:=ready_mono hj f;rw [H.1] at this
   cases this
 | succ fuel ih=>
  intro listed a w l m hr hy hS H;refine ⟨fun h=>(by rw [h] at hr;cases hr),fun j hj=>?_⟩;by_cases f:j=i
  ·subst f;exact hy.wpOp hi hS ⟨.inr fun h=>h,H⟩
  ·have h1:=H.2 j (ready_mono hj f);obtain ⟨s,oj,g,t⟩:=mem_ready.1 hj;have u:=(mem_ready.1 hr).1;have r:∀e∈oj.after,Region.binds md e=true→e.on≠i:=fun e he hb heq=>by
    have h1:=t e he hb;rw [heq] at h1;exact Yoc listed i u h1
   have x:d.getD j false=false:=by
    cases hc:d.getD j false with
    | false=>rfl
    | true=>
     obtain ⟨e,he,hb,A⟩:=hd2 j oj g hc;rcases A with h2 | ⟨h2,h3⟩
     ·exact absurd h2 (r e he hb)
     ·exact (Yoc listed e.on (m e.on h2 h3) (t e he hb)).elim
   have z:¬n≤j:=fun hle=>by
    have:=hd1 j hle (Array.getElem?_eq_some_iff.1 g).1;rw [x] at this;cases this
   have h2:=wpOp_putIf g (l j oj g f s r) (fun cs b=>hsel i oi cs b hi) (fun cs b=>hsel j oj cs b g) hQ hy h1;have p:∀k ok,ops[k]? =some ok→k≠i→(listed.setIfInBounds j true).getD k true=false→
    (∀e∈ok.after,Region.binds md e=true→e.on≠i)→oi.apart ops ok=true:=fun k ok hk hki m hno=>by
    refine l k ok hk hki ?_ hno;by_cases q:j=k
    ·subst q;exact s
    ·rw [getD_set_ne true q] at m;exact m
   have y:∀k,k < ops.size→d.getD k false=true→(listed.setIfInBounds j true).getD k true=false:=fun k hk hdk=>by
    have q:j≠k:=fun e=>by subst e;rw [x] at hdk;cases hdk
    rw [getD_set_ne true q];exact m k hk hdk
   refine wpOp_mono (fun a' w' h3=>⟨h3.2.1,ih (listed.setIfInBounds j true) a' w' p y (ready_mono hr (Ne.symm f)) h3.1 ((h3.2.1.resolve_left z) hS) ?_⟩) h2;rw [Array.setIfInBounds_comm _ _ f];exact h3.2.2
theorem Zku {i:Nat} {oi:Oper} {v:Value} {fuel:Nat} {listed:Array Bool} {a:Act} {w:World} (hi:ops[i]? =some oi)
 (hs:Region.noSelect ops=true) (hf:Region.free md ops listed i=true) (hr:(Region.ready md ops listed).contains i=true) (hw:Zip md ops n listed i=true)
 (hQ:∀c a w,Q (.panic c) (a.put oi.dst v) w→Q (.panic c) a w) (hy:YieldsIf P ops S oi v a) (hS:S w)
 (h:AnyG P md ops Q S n fuel (listed.setIfInBounds i true) (a.put oi.dst v) w):AnyG P md ops Q S n (fuel+1) listed a w:=by
 simp only [Zip,List.all_eq_true,List.mem_range,Bool.and_eq_true,Bool.or_eq_true,decide_eq_true_eq] at hw;refine Zsa (d:=Yhi md ops i) hi (Region.noSelect_spec hs) ?_ ?_ hQ fuel listed a w (Region.free_spec hi hf) ?_ (by simpa using hr) hy hS h
 ·intro j hj b;rcases (hw j b).1 with h1 | h1
  ·omega
  ·exact h1
 ·intro j o ho g;have b:=(Array.getElem?_eq_some_iff.1 ho).1;have h1:=(hw j b).2.1;unfold Ymh at h1;rw [g,ho] at h1;simp only [Bool.not_true,Bool.false_or,Option.map_some,Option.getD_some] at h1;obtain ⟨e,he,hb⟩:=Array.any_eq_true'.1 h1;simp only [Bool.and_eq_true,Bool.or_eq_true,beq_iff_eq] at hb;refine ⟨e,he,hb.1,hb.2.imp id fun h3=>⟨?_,h3⟩⟩;rcases JX e.on ops.size with h4 | h4
  ·exact h4
  ·exfalso;have k:(Yhi md ops i).size≤ops.size:=by
    unfold Yhi;have:∀(l:List Nat) (d:Array Bool) (f:Array Bool→Nat→Bool),(l.foldl (fun d j=>d.push (f d j)) d).size=d.size+l.length:=by
     intro l
     induction l with
     | nil=>intro d f;simp
     | cons x l ih=>intro d f;simp [ih];omega
    have h5:=this (List.range ops.size) #[] (fun d j=>((ops[j]?).map fun o=>o.after.any fun e=>Region.binds md e && (e.on==i || d.getD e.on false)).getD false);simp only [List.size_toArray,List.length_nil,List.length_range,Nat.zero_add] at h5;exact Nat.le_of_eq h5
   have:(Yhi md ops i).getD e.on false=false:=by
    simp [Array.getElem?_eq_none (show (Yhi md ops i).size≤e.on by omega)]
   rw [this] at h3;cases h3
 ·intro j hj g;have h1:=(hw j hj).2.2;rw [g] at h1;simpa using h1
theorem AnyG.of_seq (hQ:∀c a d v w,Q (.panic c) (a.put d v) w→Q (.panic c) a w) (hs:Region.noSelect ops=true):
 ∀(is:List Nat) (listed:Array Bool) (a:Act) (w:World) (d:Bool),Yam md ops n d is listed=true→(d=false→S w)→XP P ops Q S n is a w→AnyG P md ops Q S n is.length listed a w:=by
 intro is
 induction is with
 | nil=>
  intro listed a w d b _ h;exact ⟨by simpa [Yam] using b,h⟩
 | cons i is ih=>
  intro listed a w d b hS h;simp only [Yam,Bool.and_eq_true] at b;obtain ⟨e,hd,b⟩:=b;unfold XP at h;unfold Yez at e;split at e
  ·rename_i hf
   simp only [Bool.and_eq_true] at e;obtain ⟨h1,h2,h3⟩:=e;have f:=hf;simp only [XG,Bool.and_eq_true,decide_eq_true_eq] at f;obtain ⟨o,ho⟩:∃o,ops[i]? =some o:=by
    cases hc:ops[i]? with
    | none=>rw [hc] at f;simp at f
    | some o=>exact ⟨o,rfl⟩
   simp only [ho] at h;rw [if_pos hf] at h;obtain ⟨v,hy,hr⟩:=h;by_cases hp:Zio ops i=true
   ·rw [if_pos hp] at hy;exact Zkt ho hs h1 h2 (fun c a w=>hQ c a o.dst v w) hy (ih _ _ w _ b (fun hd'=>hS (by simp at hd';exact hd'.1)) hr)
   ·rw [if_neg hp] at hy;have g:d=false:=(by rw [hf] at hd;simpa [hp] using hd);have hw:=hS g;exact Zku ho hs h1 h2 (by simpa [hp] using h3) (fun c a w=>hQ c a o.dst v w) hy hw (ih _ _ w _ b (fun _=>hw) hr)
  ·rename_i hf
   have hr:Region.ready md ops listed=[i]:=(by simpa using e);have hi:i∈Region.ready md ops listed:=(by rw [hr];exact List.mem_singleton.2 rfl);obtain ⟨_,o,ho,_⟩:=mem_ready.1 hi;simp only [ho] at h;rw [if_neg hf] at h;refine ⟨fun h0=>(by rw [hr] at h0;cases h0),fun j hj=>?_⟩;rw [hr] at hj;obtain rfl:j=i:=by simpa using hj
   have h:wpOp P ops Q j (fun a' w'=>(n≤j∨S w')∧XP P ops Q S n is a' w') a w:=by
    unfold wpOp;rw [ho];show if Region.wanted o (yielded ops a.tmps)=true then _ else _
    split
    ·rename_i hw;rw [if_pos hw] at h;exact .inl h
    ·rename_i hw;rw [if_neg hw] at h;exact h
   exact wpOp_mono (fun a' w' h'=>⟨h'.1.imp id (fun h _=>h),ih _ a' w' _ b (fun hle=>h'.1.resolve_left (by simp at hle;omega)) h'.2⟩) h
theorem Zn {id:Nat} {l:List Oper} {a:Act} {w:World} (n:Nat) (is:List Nat) (hm:P.follows .mixedOrders=true) (hok:Yfa .any l.toArray n is=true)
 (h:XP P l.toArray (NoPanic Q) (fun w'=>Below w.heap.size w w') n is a w.drew):(Code.region id l.toArray true).wp P Q a w:=by
 simp only [Yfa,Bool.and_eq_true,decide_eq_true_eq] at hok;obtain ⟨hs,b,hl⟩:=hok;refine wp_region_noPanic (wp_region_any hm (AnyG.any _ _ _ _ (S:=fun w'=>Below w.heap.size w w') (n:=n) ?_));rw [← hl];have:=AnyG.of_seq (P:=P) (Q:=NoPanic Q) (S:=fun w'=>Below w.heap.size w w') (fun c a d v w h=>h) hs is _ a w.drew false b (fun _=>(JR _ _).drew) h
 rwa [hl] at this ⊢
theorem Zv {a:Act} {w:World} (h:Q .normal a w):XP P ops (NoPanic Q) S n [] a w:=h
theorem Zd {o:Oper} {i:Nat} {is:List Nat} {a:Act} {w:World} {v:Value} (ho:ops[i]? =some o) (hf:(XG ops n i && !Zio ops i)=true) (hw:Region.wanted o (yielded ops a.tmps)=true) (hy:∀w',S w'→(execOp a.eval o).run P w'= .ok (.value v) w') (h:XP P ops Q S n is (a.put o.dst v) w):XP P ops Q S n (i::is) a w:=by
 simp only [Bool.and_eq_true,Bool.not_eq_true'] at hf;unfold XP;rw [ho];show if _ then _ else _
 rw [if_pos hf.1];exact ⟨v,by rw [if_neg (by simp [hf.2])];exact .inl ⟨hw,hy⟩,h⟩
theorem Zb {o:Oper} {i:Nat} {is:List Nat} {a:Act} {w:World} {v:Value} (ho:ops[i]? =some o) (hf:(XG ops n i && Zio ops i)=true) (hw:Region.wanted o (yielded ops a.tmps)=true) (hy:∀w',True→(execOp a.eval o).run P w'= .ok (.value v) w') (h:XP P ops Q S n is (a.put o.dst v) w):XP P ops Q S n (i::is) a w:=by
 simp only [Bool.and_eq_true] at hf;unfold XP;rw [ho];show if _ then _ else _
 rw [if_pos hf.1];exact ⟨v,by rw [if_pos hf.2];exact .inl ⟨hw,hy⟩,h⟩
theorem Ze {o:Oper} {i:Nat} {is:List Nat} {a:Act} {w:World} (ho:ops[i]? =some o) (hf:XG ops n i=true) (hw:Region.wanted o (yielded ops a.tmps)=false) (h:XP P ops Q S n is (a.put o.dst undef) w):XP P ops Q S n (i::is) a w:=by
 unfold XP;rw [ho];show if _ then _ else _
 rw [if_pos hf];exact ⟨undef,by split <;> exact .inr ⟨hw,rfl⟩,h⟩
theorem Zf {o:Oper} {i:Nat} {is:List Nat} {a:Act} {w:World} (ho:ops[i]? =some o) (hf:XG ops n i=false)
 (h:∀K':Act→World→Prop,Shut (∀a w,(n≤i∨S w)→XP P ops Q S n is a w→K' a w)→if Region.wanted o (yielded ops a.tmps)=true then Oper.wp P o a w K' Q else K' (a.put o.dst undef) w):XP P ops Q S n (i::is) a w:=by
 have h1:=h (fun a' w'=>(n≤i∨S w')∧XP P ops Q S n is a' w') (fun a w h1 h2=>⟨h1,h2⟩);unfold XP;rw [ho];show if _ then _ else _
 rw [if_neg (by simp [hf])];exact h1
end
theorem Zl {w:World} {p:Addr} {v:Value} (h:w.cell? p=some v):∀w',Below w.heap.size w w'→w'.cell? p=some v:=fun _ hb=>Zk hb h
theorem skC {P : Program} {ops : Array Oper} {Q : Exit → Act → World → Prop} {S : World → Prop} {n : Nat} {o : Oper} {i : Nat} {is : List Nat} {a : Act} {w : World} (ho : ops[i]? = some o) (hf : XG ops n i = false) (hw : Region.wanted o (yielded ops a.tmps) = false) (h : XP P ops Q S n is (a.put o.dst undef) w) (hS : S w := by assumption) : XP P ops Q S n (i :: is) a w := Zf ho hf fun K hK => by rw [if_neg (by rw [hw]; simp)]; exact hK.out _ _ (.inr hS) h
end
section
inductive Zfb where
 | done
 | go (i:Nat) (p:Zfb)
 | fork (i:Nat) (p:Zfb) (j:Nat) (q:Zfb)
 | bag (l:List Nat) (p:Zfb)
def Zfb.of:List Nat→Zfb→Zfb
 | [],p=>p
 | i::is,p=> .go i (Zfb.of is p)
def Yfj (md:Region.Mode) (ops:Array Oper) (n:Nat) (K:Array Bool→Bool):Nat→List Nat→Array Bool→Bool
 | 0,_,listed=>K listed
 | m+1,l,listed=>l.all (fun k=>listed.getD k true==false) && (!(Region.ready md ops listed).isEmpty && (Region.ready md ops listed).all fun i=>(l.contains i && decide (i < n)) && Yfj md ops n K m (l.erase i) (listed.setIfInBounds i true))
def Zaf (md:Region.Mode) (ops:Array Oper) (n:Nat):Bool→Zfb→Array Bool→Bool
 | _,.done,listed=>Region.ready md ops listed==[]
 | d,.go i p,listed=>Yez md ops n listed i && (!(d && (XG ops n i && !Zio ops i)) && Zaf md ops n (d || decide (n≤i)) p (listed.setIfInBounds i true))
 | d,.fork i p j q,listed=>(!XG ops n i && !XG ops n j) && (Region.ready md ops listed==[i,j] && (Zaf md ops n (d || decide (n≤i)) p (listed.setIfInBounds i true) && Zaf md ops n (d || decide (n≤j)) q (listed.setIfInBounds j true)))
 | d,.bag l p,listed=> !d && Yfj md ops n (fun b=>Zaf md ops n false p b) l.length l listed
section
variable {P:Program} {ops:Array Oper} {Q:Exit→Act→World→Prop} {md:Region.Mode} {S:World→Prop} {n:Nat}
def Xr (P:Program) (ops:Array Oper) (Q:Exit→Act→World→Prop) (S:World→Prop) (n i:Nat) (K:Act→World→Prop) (a:Act) (w:World):Prop:=match ops[i]? with
 | none=>True
 | some o=>if Region.wanted o (yielded ops a.tmps)=true then Oper.wp P o a w (fun a' w'=>(n≤i∨S w')∧K a' w') Q else (n≤i∨S w)∧K (a.put o.dst undef) w
def Yfk (P:Program) (ops:Array Oper) (Q:Exit→Act→World→Prop) (md:Region.Mode) (S:World→Prop) (n:Nat) (K:Act→World→Prop):Nat→List Nat→Act→World→Prop
 | 0,_,a,w=>K a w
 | m+1,l,a,w=>∀i oi,i∈l→ops[i]? =some oi→(∀e∈oi.after,Region.binds md e=true→e.on ∉ l)→Xr P ops Q S n i (Yfk P ops Q md S n K m (l.erase i)) a w
def Yy (P:Program) (ops:Array Oper) (Q:Exit→Act→World→Prop) (S:World→Prop) (n:Nat):Zfb→Act→World→Prop
 | .done,a,w=>Q .normal a w
 | .go i p,a,w=>match ops[i]? with
  | none=>True
  | some o=>if XG ops n i=true then ∃v,(if Zio ops i=true then YieldsIf P ops (fun _=>True) o v a else YieldsIf P ops S o v a)∧Yy P ops Q S n p (a.put o.dst v) w else Xr P ops Q S n i (Yy P ops Q S n p) a w
 | .fork i p j q,a,w=>Xr P ops Q S n i (Yy P ops Q S n p) a w∧Xr P ops Q S n j (Yy P ops Q S n q) a w
 | .bag l p,a,w=>Yfk P ops Q .any S n (Yy P ops Q S n p) l.length l a w
theorem Xr.wpOp {i:Nat} {o:Oper} {K:Act→World→Prop} {a:Act} {w:World} (ho:ops[i]? =some o) (h:Xr P ops Q S n i K a w):Go.wpOp P ops Q i (fun a' w'=>(n≤i∨S w')∧K a' w') a w:=by
 unfold Xr at h;rw [ho] at h;unfold Go.wpOp;rw [ho];show if Region.wanted o (yielded ops a.tmps)=true then _ else _
 have h:if Region.wanted o (yielded ops a.tmps)=true then Oper.wp P o a w (fun a' w'=>(n≤i∨S w')∧K a' w') Q else (n≤i∨S w)∧K (a.put o.dst undef) w:=h
 split
 ·rename_i hw;rw [if_pos hw] at h;exact .inl h
 ·rename_i hw;rw [if_neg hw] at h;exact h
def Zfb.len:Zfb→Nat
 | .done=>0
 | .go _ p=>p.len+1
 | .fork _ p _ _=>p.len+1
 | .bag l p=>p.len+l.length
def Zfb.even:Zfb→Bool
 | .done=>true
 | .go _ p=>p.even
 | .fork _ p _ q=>p.even && (q.even && (p.len==q.len))
 | .bag _ p=>p.even
def Yhk (md:Region.Mode) (ops:Array Oper) (n:Nat) (p:Zfb):Bool:=Region.noSelect ops && (Zaf md ops n false p (Array.replicate ops.size false) && (p.even && decide (p.len=ops.size)))
theorem AnyG.of_plan (hQ:∀c a d v w,Q (.panic c) (a.put d v) w→Q (.panic c) a w) (hs:Region.noSelect ops=true):
 ∀(p:Zfb) (listed:Array Bool) (a:Act) (w:World) (d:Bool),p.even=true→Zaf .any ops n d p listed=true→(d=false→S w)→Yy P ops Q S n p a w→AnyG P .any ops Q S n p.len listed a w:=by
 intro p
 induction p with
 | done=>
  intro listed a w d _ f _ h;exact ⟨by simpa [Zaf] using f,h⟩
 | go i p ih=>
  intro listed a w d g f hS h;simp only [Zaf,Bool.and_eq_true] at f;obtain ⟨r,hd,f⟩:=f;unfold Yy at h;unfold Yez at r;split at r
  ·rename_i hf
   simp only [Bool.and_eq_true] at r;obtain ⟨h1,h2,h3⟩:=r;have s:=hf;simp only [XG,Bool.and_eq_true,decide_eq_true_eq] at s;obtain ⟨o,ho⟩:∃o,ops[i]? =some o:=by
    cases hc:ops[i]? with
    | none=>rw [hc] at s;simp at s
    | some o=>exact ⟨o,rfl⟩
   simp only [ho] at h;rw [if_pos hf] at h;obtain ⟨v,hy,hr⟩:=h;by_cases hp:Zio ops i=true
   ·rw [if_pos hp] at hy;exact Zkt ho hs h1 h2 (fun c a w=>hQ c a o.dst v w) hy (ih _ _ w _ g f (fun hd'=>hS (by simp at hd';exact hd'.1)) hr)
   ·rw [if_neg hp] at hy;have A:d=false:=(by rw [hf] at hd;simpa [hp] using hd);have hw:=hS A;exact Zku ho hs h1 h2 (by simpa [hp] using h3) (fun c a w=>hQ c a o.dst v w) hy hw (ih _ _ w _ g f (fun _=>hw) hr)
  ·rename_i hf
   have hr:Region.ready .any ops listed=[i]:=(by simpa using r);have hi:i∈Region.ready .any ops listed:=(by rw [hr];exact List.mem_singleton.2 rfl);obtain ⟨_,o,ho,_⟩:=mem_ready.1 hi;simp only [ho] at h;rw [if_neg hf] at h;refine ⟨fun h0=>(by rw [hr] at h0;cases h0),fun j hj=>?_⟩;rw [hr] at hj;obtain rfl:j=i:=by simpa using hj
   exact wpOp_mono (fun a' w' h'=>⟨h'.1.imp id (fun h _=>h),ih _ a' w' _ g f (fun hle=>h'.1.resolve_left (by simp at hle;omega)) h'.2⟩) (h.wpOp ho)
 | fork i p j q ihp ihq=>
  intro listed a w d g f hS h;simp only [Zaf,Bool.and_eq_true] at f;obtain ⟨_,hr,C,D⟩:=f;simp only [Zfb.even,Bool.and_eq_true,beq_iff_eq] at g;obtain ⟨E,F,u⟩:=g;have hr:Region.ready .any ops listed=[i,j]:=by simpa using hr
  obtain ⟨h1,h2⟩:=h;have hi:i∈Region.ready .any ops listed:=by rw [hr];simp
  have hj:j∈Region.ready .any ops listed:=by rw [hr];simp
  obtain ⟨_,oi,G,_⟩:=mem_ready.1 hi;obtain ⟨_,oj,H,_⟩:=mem_ready.1 hj;refine ⟨fun h0=>(by rw [hr] at h0;cases h0),fun k hk=>?_⟩;rw [hr] at hk;simp only [List.mem_cons,List.not_mem_nil,or_false] at hk;rcases hk with rfl | rfl
  ·exact wpOp_mono (fun a' w' h'=>⟨h'.1.imp id (fun h _=>h),ihp _ a' w' _ E C (fun hle=>h'.1.resolve_left (by simp at hle;omega)) h'.2⟩) (h1.wpOp G)
  ·exact wpOp_mono (fun a' w' h'=>⟨h'.1.imp id (fun h _=>h),by rw [u];exact ihq _ a' w' _ F D (fun hle=>h'.1.resolve_left (by simp at hle;omega)) h'.2⟩) (h2.wpOp H)
 | bag l p ih=>
  intro listed a w d g f hS h;simp only [Zaf,Bool.and_eq_true,Bool.not_eq_true'] at f;obtain ⟨hd,f⟩:=f;have B:∀(m:Nat) (l:List Nat) (listed:Array Bool) (a:Act) (w:World),Yfj .any ops n (fun b=>Zaf .any ops n false p b) m l listed=true→S w→Yfk P ops Q .any S n (Yy P ops Q S n p) m l a w→AnyG P .any ops Q S n (p.len+m) listed a w:=by
   intro m
   induction m with
   | zero=>exact fun l listed a w hg hw h=>ih listed a w false g hg (fun _=>hw) h
   | succ m ihm=>
    intro l listed a w hg hw h;simp only [Yfj,Bool.and_eq_true,Bool.not_eq_true',List.all_eq_true,decide_eq_true_eq,beq_iff_eq] at hg;obtain ⟨I,x,y⟩:=hg;refine ⟨fun h0=>(by rw [h0] at x;simp at x),fun j hj=>?_⟩;obtain ⟨_,o,ho,z⟩:=mem_ready.1 hj;obtain ⟨⟨t,K⟩,J⟩:=y j hj;have t:j∈l:=(by simpa using t);exact wpOp_mono (fun a' w' h'=>⟨h'.1.imp id (fun h _=>h),ihm _ _ a' w' J (h'.1.resolve_left (by omega)) h'.2⟩) ((h j o t ho fun e he hb hin=>by
     have h1:=z e he hb;have h2:=I e.on hin;rcases JX e.on listed.size with h' | h'
     ·simp [h'] at h1 h2;rw [h1] at h2;cases h2
     ·simp [Array.getElem?_eq_none h'] at h2).wpOp ho)
  exact B _ _ _ _ _ f (hS hd) h
theorem Xl {id:Nat} {l:List Oper} {a:Act} {w:World} (n:Nat) (p:Zfb) (hm:P.follows .mixedOrders=true) (hok:Yhk .any l.toArray n p=true)
 (h:Yy P l.toArray (NoPanic Q) (fun w'=>Below w.heap.size w w') n p a w.drew):(Code.region id l.toArray true).wp P Q a w:=by
 simp only [Yhk,Bool.and_eq_true,decide_eq_true_eq] at hok;obtain ⟨hs,b,e,hl⟩:=hok;refine wp_region_noPanic (wp_region_any hm (AnyG.any _ _ _ _ (S:=fun w'=>Below w.heap.size w w') (n:=n) ?_));have:=AnyG.of_plan (P:=P) (Q:=NoPanic Q) (S:=fun w'=>Below w.heap.size w w') (fun c a d v w h=>h) hs p _ a w.drew false e b (fun _=>(JR _ _).drew) h
 rwa [hl] at this
theorem Yf {a:Act} {w:World} (h:Q .normal a w):Yy P ops (NoPanic Q) S n .done a w:=h
theorem ZW {o:Oper} {i:Nat} {p:Zfb} {a:Act} {w:World} {v:Value} (ho:ops[i]? =some o) (hf:(XG ops n i && !Zio ops i)=true) (hw:Region.wanted o (yielded ops a.tmps)=true) (hy:∀w',S w'→(execOp a.eval o).run P w'= .ok (.value v) w') (h:Yy P ops Q S n p (a.put o.dst v) w):Yy P ops Q S n (.go i p) a w:=by
 simp only [Bool.and_eq_true,Bool.not_eq_true'] at hf;unfold Yy;rw [ho];show if _ then _ else _
 rw [if_pos hf.1];exact ⟨v,by rw [if_neg (by simp [hf.2])];exact .inl ⟨hw,hy⟩,h⟩
theorem ZJ {o:Oper} {i:Nat} {p:Zfb} {a:Act} {w:World} {v:Value} (ho:ops[i]? =some o) (hf:(XG ops n i && Zio ops i)=true) (hw:Region.wanted o (yielded ops a.tmps)=true) (hy:∀w',True→(execOp a.eval o).run P w'= .ok (.value v) w') (h:Yy P ops Q S n p (a.put o.dst v) w):Yy P ops Q S n (.go i p) a w:=by
 simp only [Bool.and_eq_true] at hf;unfold Yy;rw [ho];show if _ then _ else _
 rw [if_pos hf.1];exact ⟨v,by rw [if_pos hf.2];exact .inl ⟨hw,hy⟩,h⟩
theorem ZZ {o:Oper} {i:Nat} {p:Zfb} {a:Act} {w:World} (ho:ops[i]? =some o) (hf:XG ops n i=true) (hw:Region.wanted o (yielded ops a.tmps)=false) (h:Yy P ops Q S n p (a.put o.dst undef) w):Yy P ops Q S n (.go i p) a w:=by
 unfold Yy;rw [ho];show if _ then _ else _
 rw [if_pos hf];exact ⟨undef,by split <;> exact .inr ⟨hw,rfl⟩,h⟩
theorem Zba {o:Oper} {i:Nat} {K:Act→World→Prop} {a:Act} {w:World} (ho:ops[i]? =some o)
 (h:∀K':Act→World→Prop,Shut (∀a w,(n≤i∨S w)→K a w→K' a w)→if Region.wanted o (yielded ops a.tmps)=true then Oper.wp P o a w K' Q else K' (a.put o.dst undef) w):Xr P ops Q S n i K a w:=by
 have h1:=h (fun a' w'=>(n≤i∨S w')∧K a' w') (fun a w h1 h2=>⟨h1,h2⟩);unfold Xr;rw [ho];exact h1
theorem Zt {o:Oper} {i:Nat} {p:Zfb} {a:Act} {w:World} (ho:ops[i]? =some o) (hf:XG ops n i=false)
 (h:∀K':Act→World→Prop,Shut (∀a w,(n≤i∨S w)→Yy P ops Q S n p a w→K' a w)→if Region.wanted o (yielded ops a.tmps)=true then Oper.wp P o a w K' Q else K' (a.put o.dst undef) w):Yy P ops Q S n (.go i p) a w:=by
 unfold Yy;rw [ho];show if _ then _ else _
 rw [if_neg (by simp [hf])];exact Zba ho h
theorem ZK {o:Oper} {i:Nat} {p:Zfb} {a:Act} {w:World} (ho:ops[i]? =some o) (hf:XG ops n i=false) (hw:Region.wanted o (yielded ops a.tmps)=false) (hS:S w) (h:Yy P ops Q S n p (a.put o.dst undef) w):Yy P ops Q S n (.go i p) a w:=by
 refine Zt ho hf fun K hK=>?_
 rw [if_neg (by rw [hw];simp)];exact hK _ _ (.inr hS) h
theorem XH {oi oj:Oper} {i j:Nat} {p q:Zfb} {a:Act} {w:World} (hi:ops[i]? =some oi) (hj:ops[j]? =some oj)
 (h1:∀K':Act→World→Prop,Shut (∀a w,(n≤i∨S w)→Yy P ops Q S n p a w→K' a w)→if Region.wanted oi (yielded ops a.tmps)=true then Oper.wp P oi a w K' Q else K' (a.put oi.dst undef) w)
 (h2:∀K':Act→World→Prop,Shut (∀a w,(n≤j∨S w)→Yy P ops Q S n q a w→K' a w)→if Region.wanted oj (yielded ops a.tmps)=true then Oper.wp P oj a w K' Q else K' (a.put oj.dst undef) w):Yy P ops Q S n (.fork i p j q) a w:=⟨Zba hi h1,Zba hj h2⟩
theorem Xr.mono {i:Nat} {K K':Act→World→Prop} {a:Act} {w:World} (h:Xr P ops Q S n i K a w) (hk:∀a w,K a w→K' a w):Xr P ops Q S n i K' a w:=by
 unfold Xr at *;split
 ·trivial
 ·rename_i o ho
  rw [ho] at h;simp only at h;split
  ·rename_i hw;rw [if_pos hw] at h;exact Oper.wp_mono (fun a w h'=>⟨h'.1,hk a w h'.2⟩) h
  ·rename_i hw;rw [if_neg hw] at h;exact ⟨h.1,hk _ _ h.2⟩
theorem Yfl {l:List Nat} {p:Zfb} {a:Act} {w:World} (J:(Nat→Prop)→Act→World→Prop) (hl:l.Nodup) (h0:J (fun _=>False) a w) (hs:∀D a w i oi,i∈l→¬D i→ops[i]? =some oi→(∀e∈oi.after,Region.binds .any e=true→e.on∈l→D e.on)→J D a w→Xr P ops Q S n i (J fun k=>D k∨k=i) a w) (h1:∀D a w,(∀k∈l,D k)→J D a w→Yy P ops Q S n p a w):Yy P ops Q S n (.bag l p) a w:=by
 have g:∀(m:Nat) (r:List Nat) (D:Nat→Prop) (a:Act) (w:World),r.length=m→r.Nodup→(∀k∈r,¬D k)→(∀k∈r,k∈l)→(∀k∈l,k∈r∨D k)→J D a w→Yfk P ops Q .any S n (Yy P ops Q S n p) m r a w:=by
  intro m
  induction m with
  | zero=>
   intro r D a w hr _ _ _ hd hj;have hr:=List.eq_nil_of_length_eq_zero hr;subst hr;exact h1 D a w (fun k hk=>(hd k hk).resolve_left (by simp)) hj
  | succ m ih=>
   intro r D a w hr c d b hd hj i oi hi j f;refine (hs D a w i oi (b i hi) (d i hi) j (fun e he hb hl=>(hd e.on hl).resolve_left (f e he hb)) hj).mono fun a' w' hj'=>ih _ _ a' w' (by rw [List.length_erase_of_mem hi];omega) (c.erase i) (fun k hk=>by
    rintro (h | h)
    ·exact d k (List.mem_of_mem_erase hk) h
    ·exact (c.mem_erase_iff.1 hk).1 h) (fun k hk=>b k (List.mem_of_mem_erase hk)) (fun k hk=>?_) hj'
   rcases hd k hk with h | h
   ·by_cases e:k=i
    ·exact .inr (.inr e)
    ·exact .inl ((List.mem_erase_of_ne e).2 h)
   ·exact .inr (.inl h)
 exact g _ l _ a w rfl hl (fun _ _ h=>h) (fun _ h=>h) (fun _ h=> .inl h) h0
def Zjp (a:Act) (d1:Nat) (s1:Value) (d2:Nat) (s2:Value) (d3:Nat) (s3:Value) (d4:Nat) (s4:Value) (d5:Nat) (s5:Value):Act:=((((a.put (some d1) s1).put (some d2) s2).put (some d3) s3).put (some d4) s4).put (some d5) s5
theorem Ybd {l:List Nat} {p:Zfb} {a:Act} {w:World} (d1 d2 d3 d4 d5:Nat) (s1 s2 s3 s4 s5:Value) (R:(Nat→Prop)→Value→Value→Value→Value→Value→World→Prop) (ha:a=Zjp a d1 s1 d2 s2 d3 s3 d4 s4 d5 s5) (hl:l.Nodup) (h0:R (fun _=>False) s1 s2 s3 s4 s5 w)
 (hs:∀D s1 s2 s3 s4 s5 w i oi,i∈l→¬D i→ops[i]? =some oi→(∀e∈oi.after,Region.binds .any e=true→e.on∈l→D e.on)→R D s1 s2 s3 s4 s5 w→Xr P ops Q S n i (fun a' w'=>∃s1 s2 s3 s4 s5,a'=Zjp a d1 s1 d2 s2 d3 s3 d4 s4 d5 s5∧R (fun k=>D k∨k=i) s1 s2 s3 s4 s5 w') (Zjp a d1 s1 d2 s2 d3 s3 d4 s4 d5 s5) w)
 (h1:∀D s1 s2 s3 s4 s5 w,(∀k∈l,D k)→R D s1 s2 s3 s4 s5 w→Yy P ops Q S n p (Zjp a d1 s1 d2 s2 d3 s3 d4 s4 d5 s5) w):Yy P ops Q S n (.bag l p) a w:=by
 refine Yfl (fun D a' w=>∃s1 s2 s3 s4 s5,a'=Zjp a d1 s1 d2 s2 d3 s3 d4 s4 d5 s5∧R D s1 s2 s3 s4 s5 w) hl ⟨s1,s2,s3,s4,s5,ha,h0⟩ ?_ ?_
 ·rintro D a' w i oi hi hn ho hd ⟨t1,t2,t3,t4,t5,rfl,hr⟩;exact hs D t1 t2 t3 t4 t5 w i oi hi hn ho hd hr
 ·rintro D a' w hd ⟨t1,t2,t3,t4,t5,rfl,hr⟩;exact h1 D t1 t2 t3 t4 t5 w hd hr
end
end
section
section
variable {P:Program} {ops:Array Oper} {Q:Exit→Act→World→Prop} {S:World→Prop} {n:Nat}
def Yof (ops:Array Oper) (i k:Nat):Bool:=match ops[i]? with
 | some o=>o.after.any fun e=>Region.binds .any e && e.on==k
 | none=>false
def WU (P:Program) (ops:Array Oper) (Q:Exit→Act→World→Prop) (S:World→Prop) (n:Nat) (l:List Nat) (a:Act) (d1 d2 d3 d4 d5:Nat) (R:(Nat→Prop)→Value→Value→Value→Value→Value→World→Prop) (i:Nat):Prop:=
 ∀D s1 s2 s3 s4 s5 w,¬D i→(∀k∈l,Yof ops i k=true→D k)→R D s1 s2 s3 s4 s5 w→Xr P ops Q S n i (fun a' w'=>∃s1 s2 s3 s4 s5,a'=Zjp a d1 s1 d2 s2 d3 s3 d4 s4 d5 s5∧R (fun k=>D k∨k=i) s1 s2 s3 s4 s5 w') (Zjp a d1 s1 d2 s2 d3 s3 d4 s4 d5 s5) w
theorem Zpt {l:List Nat} {p:Zfb} {a:Act} {w:World} (d1 d2 d3 d4 d5:Nat) (s1 s2 s3 s4 s5:Value) (R:(Nat→Prop)→Value→Value→Value→Value→Value→World→Prop) (ha:a=Zjp a d1 s1 d2 s2 d3 s3 d4 s4 d5 s5) (hl:l.Nodup) (h0:R (fun _=>False) s1 s2 s3 s4 s5 w)
 (hs:∀i∈l,WU P ops Q S n l a d1 d2 d3 d4 d5 R i)
 (h1:∀D s1 s2 s3 s4 s5 w,(∀k∈l,D k)→R D s1 s2 s3 s4 s5 w→Yy P ops Q S n p (Zjp a d1 s1 d2 s2 d3 s3 d4 s4 d5 s5) w):Yy P ops Q S n (.bag l p) a w:=
 Ybd d1 d2 d3 d4 d5 s1 s2 s3 s4 s5 R ha hl h0 (fun D s1 s2 s3 s4 s5 w i oi hi hn ho hd hr=>hs i hi D s1 s2 s3 s4 s5 w hn (fun k hk hb=>by
  unfold Yof at hb
  rw [ho] at hb
  simp only [Array.any_eq_true,Bool.and_eq_true,beq_iff_eq] at hb
  obtain ⟨j,hj,h1,h2⟩:=hb
  subst h2
  exact hd _ (Array.getElem_mem hj) h1 hk) hr) h1
theorem WU.mk {l:List Nat} {a:Act} {d1 d2 d3 d4 d5:Nat} {R:(Nat→Prop)→Value→Value→Value→Value→Value→World→Prop} {i:Nat} {o:Oper} (ho:ops[i]? =some o)
 (h:∀D s1 s2 s3 s4 s5 w b,b=Zjp a d1 s1 d2 s2 d3 s3 d4 s4 d5 s5→¬D i→(∀k∈l,Yof ops i k=true→D k)→R D s1 s2 s3 s4 s5 w→∀K':Act→World→Prop,Shut (∀a' w',(n≤i∨S w')→(∃s1 s2 s3 s4 s5,a'=Zjp a d1 s1 d2 s2 d3 s3 d4 s4 d5 s5∧R (fun k=>D k∨k=i) s1 s2 s3 s4 s5 w')→K' a' w')→if Region.wanted o (yielded ops b.tmps)=true then Oper.wp P o b w K' Q else K' (b.put o.dst undef) w):WU P ops Q S n l a d1 d2 d3 d4 d5 R i:=
 fun D s1 s2 s3 s4 s5 w hn hd hr=>Zba ho (h D s1 s2 s3 s4 s5 w _ rfl hn hd hr)
end
end
end Go.Proofs.YtgbhebappffbdaaGreat
