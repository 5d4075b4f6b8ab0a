/- Contracts and plain facts that the claim is built on, joined out of smaller texts; no condition. -/
import Derived.Test.YtncmobkhenfhpaaGreatB18
set_option linter.unusedVariables false
set_option linter.unusedSimpArgs false
set_option maxRecDepth 100000
set_option maxHeartbeats 40000000
namespace Go.Proofs.YtncmobkhenfhpaaGreat
open Go.RowKit
open Pl
attribute [local go_sem ↓] Go.wp_at_zero Go.wp_at_succ
theorem rsubDigits_own (v1 v2:Value) (xs ys:List Nat) (w:World) (h1:DigM w v1 xs) (h2:DigM w v2 ys) (hle:val ys≤val xs) (hlen:ys.length≤xs.length) (hs:xs.length≤549755813888):
 Calls Tryz.prog 134 #[v1,v2] w fun e w'=>∃k l,e= .returned (.slice (some ⟨w.heap.size,0,none⟩) k l)∧DigM w' (.slice (some ⟨w.heap.size,0,none⟩) k l) (digs (val xs - val ys))∧Below w.heap.size w w':=by
 have HL:=Lib.hid hle
 clear hle
 obtain ⟨A,l,c,rfl⟩:=h1.shape
 obtain ⟨hl,hl',hnc,hc⟩:=h1.len
 have hmk:=make_u32 l (by omega)
 have HX:Hid (xs.length≤l):=Lib.hid (by omega)
 have HY:Hid (ys.length≤l):=Lib.hid (by omega)
 have hm4:(l:Int)≤549755813888:=by omega
 have ok1:=h1.ok
 have ok2:=h2.ok
 clear hl hl' hlen hs
 go_enter Tryz.func134,Tryz.ntmps134
 go_wp2
 clear hmk
 go_loopw [6,7] (fun cy i wr=>∃(k:Nat) (O:List Nat) (z:Int),k≤l∧i= .int .i64 k∧cy= .int .u64 z∧0≤z∧z≤1∧l≤O.length∧O.length≤l∧DigB wr w.heap.size O∧okD O∧Below w.heap.size w wr∧
  (vt O k:Int) - z * ((B32^k:Nat):Int)=vt xs k - vt ys k) (fun _ i _=>l - (intOf i).toNat)
 case atStart=>exact ⟨0,List.replicate l 0,0,by omega,rfl,rfl,by omega,by omega,by simp,by simp,DigB.zeros w _,okD_replicate _,(Below.refl _ _).alloc (Nat.le_refl _) _,by simp [vt_zero]⟩
 case round=>
  obtain ⟨k,O,z,hk,rfl,rfl,z0,z1,hO,hO',hB,ok,hbe,heq⟩:=hrel
  have HE:=Lib.hid heq
  clear heq
  rcases Nat.lt_or_ge k l with hkl | hkl
  ·have x0:=di_nonneg xs k
   have x1:=di_le ok1 k
   have y0:=di_nonneg ys k
   have y1:=di_le ok2 k
   have ho:=hB.cell (k:=k) (by omega)
   have hf:=hB.frozen k
   go_wp2_with fail
   refine (rdigit_any _ xs k _ (h1.below hbe) (by omega)).mono ?_
   rintro e w1 ⟨rfl,rfl⟩
   go_wp2_with fail
   refine (rdigit_any _ ys k _ (h2.below hbe) (by omega)).mono ?_
   rintro e w1 ⟨rfl,rfl⟩
   obtain ⟨x,hx⟩:∃x,x=di xs k+4294967296 - di ys k - z:=⟨_,rfl⟩
   have HX2:=Lib.hid hx
   have q1:IntKind.u64.wrap (di xs k+4294967296)=di xs k+4294967296:=u64_in _ (by omega) (by omega)
   have q2:IntKind.u64.wrap (di xs k+4294967296 - di ys k)=di xs k+4294967296 - di ys k:=u64_in _ (by omega) (by omega)
   have q3:IntKind.u64.wrap (di xs k+4294967296 - di ys k - z)=x:=by rw [hx];exact u64_in _ (by omega) (by omega)
   have r0:0≤x:=by omega
   have r1:x≤8589934591:=by omega
   clear hx
   have q4:IntKind.u64.wrap (1 - x / 4294967296)=1 - x / 4294967296:=u64_in _ (by omega) (by omega)
   go_wp2
   go_roundw
   case rel=>exact ⟨k+1,O.set k (x % 4294967296).toNat,1 - x / 4294967296,by omega,by go_num,rfl,by omega,by omega,by simpa using hO,by simpa using hO',hB.setI k (by omega),okD_set ok k (by unfold B32;omega),hbe.setCell (Nat.le_refl _) _,sub_step (by omega) rfl (by omega) (by have:=HX2.out;omega) HE.out⟩
   case measure=>simp [intOf];omega
  ·obtain rfl:k=l:=by omega
   go_wp2_with fail
   refine (rtrim_at _ _ _ O _ ?_).mono ?_
   ·have:=hB.dig ok (c:=k) hO' (by unfold maxLen;omega)
    rwa [show O.length=k from by omega] at this
   rintro e w1 ⟨k',rfl,hv,rfl⟩
   go_wp2_with fail
   go_ret
   refine ⟨_,_,rfl,?_,hbe⟩
   rwa [sub_fin (show O.length=k by omega) ok z0 HX.out HY.out HL.out HE.out] at hv
theorem rmulDigits_any (v1 v2:Value) (xs ys:List Nat) (w:World) (h1:DigM w v1 xs) (h2:DigM w v2 ys) (hs:xs.length+ys.length≤1099511627776):
 Calls Tryz.prog 107 #[v1,v2] w fun e w'=>∃v',e= .returned v'∧DigM w' v' (digs (val xs * val ys))∧Below w.heap.size w w':=by
 obtain ⟨A,l,c,rfl⟩:=h1.shape
 obtain ⟨hl,hl',hnc,hc⟩:=h1.len
 obtain ⟨A2,l2,c2,rfl⟩:=h2.shape
 obtain ⟨kl,kl',knc,kc⟩:=h2.len
 have ok1:=h1.ok
 have ok2:=h2.ok
 have hmk:=make_u32 (l+l2) (by omega)
 push_cast at hmk
 have hm4:(l:Int)+(l2:Int)≤1099511627776:=by omega
 have HX:Hid (xs.length≤l):=Lib.hid (by omega)
 have HY:Hid (ys.length=l2):=Lib.hid (by omega)
 clear hl hl' kl kl' hs
 go_enter Tryz.func107,Tryz.ntmps107
 go_wp2
 clear hmk
 go_loopw [6] (fun i wr=>∃(k:Nat) (O:List Nat),k≤l∧i= .int .i64 k∧l+l2≤O.length∧O.length≤l+l2∧DigB wr w.heap.size O∧okD O∧Below w.heap.size w wr∧
  (val O:Int)=(vt xs k:Int) * val ys∧(∀j,k+l2≤j→dg O j=0)) (fun i _=>l - (intOf i).toNat)
 case atStart=>exact ⟨0,List.replicate (l+l2) 0,by omega,rfl,by simp,by simp,DigB.zeros w _,okD_replicate _,(Below.refl _ _).alloc (Nat.le_refl _) _,by simp [vt_zero,val_replicate],fun j _=>dg_replicate _ _⟩
 case round=>
  obtain ⟨k,O,hk,rfl,hO,hO',hB,ok,hbe,heq,hzz⟩:=hrel
  have HE:=Lib.hid heq
  have HZ:=Lib.hid hzz
  clear heq hzz
  rcases Nat.lt_or_ge k l with hkl | hkl
  ·obtain ⟨b1,off1,rfl,hb1,hcell1⟩:=h1.at_ (by omega)
   have HC1:=Lib.hid hcell1
   clear hcell1
   have x0:=di_nonneg xs k
   have x1:=di_le ok1 k
   obtain ⟨wo,hwo⟩:∃wo:World,wo=wr:=⟨_,rfl⟩
   subst hwo
   go_wp2
   go_loopw [7,8] (fun cy i wr=>∃(j:Nat) (O':List Nat) (z:Int),j≤l2∧i= .int .i64 j∧cy= .int .u64 z∧0≤z∧z≤4294967295∧l+l2≤O'.length∧O'.length≤l+l2∧DigB wr w.heap.size O'∧okD O'∧Below w.heap.size w wr∧
    (val O':Int)+z * ((B32^(k+j):Nat):Int)=(val O:Int)+di xs k * ((B32^k:Nat):Int) * vt ys j∧(∀i,k+l2≤i→dg O' i=0)) (fun _ i _=>l2 - (intOf i).toNat)
   case atStart=>exact ⟨0,O,0,by omega,rfl,rfl,by omega,by omega,hO,hO',hB,ok,hbe,by simp [vt_zero],HZ.out⟩
   case round=>
    clear hbe hB
    obtain ⟨j,O',z,hj,rfl,rfl,z0,z1,hP,hP',hB',okP,hbe',heq',hzz'⟩:=hrel
    have HE':=Lib.hid heq'
    have HZ':=Lib.hid hzz'
    clear heq' hzz'
    rcases Nat.lt_or_ge j l2 with hjl | hjl
    ·obtain ⟨b2,off2,rfl,hb2,hcell2⟩:=h2.at_ (by omega)
     have hx:=dig_in hbe' hb1 HC1.out hkl
     have hy:=dig_in hbe' hb2 hcell2 hjl
     clear hcell2
     have y0:=di_nonneg ys j
     have y1:=di_le ok2 j
     have p0:0≤di xs k * di ys j:=Int.mul_nonneg x0 y0
     have p1:di xs k * di ys j≤4294967295 * 4294967295:=Int.mul_le_mul x1 y1 y0 (by omega)
     have ho:=hB'.cell (k:=k+j) (by omega)
     have hf:=hB'.frozen (k+j)
     have o0:=di_nonneg O' (k+j)
     have o1:=di_le okP (k+j)
     have g1:IntKind.u64.wrap (di O' (k+j))=di O' (k+j):=u64_in _ o0 (by omega)
     have g2:IntKind.u64.wrap (z+di O' (k+j))=z+di O' (k+j):=u64_in _ (by omega) (by omega)
     have g3:IntKind.u64.wrap (di xs k)=di xs k:=u64_in _ x0 (by omega)
     have g4:IntKind.u64.wrap (di ys j)=di ys j:=u64_in _ y0 (by omega)
     have g5:IntKind.u64.wrap (di xs k * di ys j)=di xs k * di ys j:=u64_in _ p0 (by omega)
     have g6:IntKind.u64.wrap (z+di O' (k+j)+di xs k * di ys j)=z+di O' (k+j)+di xs k * di ys j:=u64_in _ (by omega) (by omega)
     have g7:IntKind.i64.wrap ((k:Int)+j)=(k:Int)+j:=by simp only [IntKind.wrap,IntKind.bits,IntKind.signed];simp;omega
     have g8:((k:Int)+j).toNat=k+j:=by omega
     have g9:(k:Int)+j < (l:Int)+l2:=by omega
     go_wp2
     go_quiet (fail)
     obtain ⟨T,hT⟩:∃T,T=z+di O' (k+j)+di xs k * di ys j:=⟨_,rfl⟩
     have T0:0≤T:=by omega
     have T1:T≤18446744073709551615:=by omega
     rw [← hT]
     have HT:=Lib.hid hT
     clear hT g1 g2 g3 g4 g5 g6 p0 p1
     go_wp2
     go_roundw
     case rel=>exact ⟨j+1,O'.set (k+j) (T % 4294967296).toNat,T / 4294967296,by omega,by go_num,rfl,by omega,by omega,by simpa using hP,by simpa using hP',(show DigB (wr.drewN nq) w.heap.size O' from hB').setI _ (by omega),okD_set okP _ (by unfold B32;omega),(below_drewN hbe' nq).setCell (Nat.le_refl _) _,mul_step (by omega) (by omega) (by have:=HT.out;omega) HE'.out,fun i hi=>by rw [dg_set_ne (by omega)];exact HZ'.out i hi⟩
     case measure=>simp [intOf];omega
    ·obtain rfl:j=l2:=by omega
     have ho:=hB'.cell (k:=k+j) (by omega)
     have hf:=hB'.frozen (k+j)
     go_wp2
     go_roundw
     case rel=>exact ⟨k+1,O'.set (k+j) z.toNat,by omega,by go_num,by simpa using hP,by simpa using hP',hB'.setI _ (by omega),okD_set okP _ (by unfold B32;omega),hbe'.setCell (Nat.le_refl _) _,mul_outer HE.out (mul_carry' HY.out (by omega) z0 (HZ'.out _ (Nat.le_refl _)) HE'.out),fun i hi=>by rw [dg_set_ne (by omega)];exact HZ'.out i (by omega)⟩
     case measure=>simp [intOf];omega
  ·obtain rfl:k=l:=by omega
   go_wp2_with fail
   refine (rtrim_any _ O _ ?_).mono ?_
   ·have:=hB.dig ok (c:=k+l2) hO' (by unfold maxLen;omega)
    rwa [show O.length=k+l2 from by omega] at this
   rintro e w1 ⟨v',rfl,hv,rfl⟩
   go_wp2_with fail
   go_ret
   refine ⟨_,rfl,?_,hbe⟩
   rwa [mul_fin HX.out HE.out] at hv
theorem run_append_dig (ty:TypeId) (w:World) (A:Option Addr) (n c:Nat) (ds:List Nat) (h:DigM w (.slice A n c) ds) (hs:ds.length≤549755813888):
 ∃v' w',(Builtin.append_ #[44,44] ty #[.slice none 0 0,.slice A n c]).run Tryz.prog w= .ok v' w'∧w'.ownsRow w.heap.size 123 1 v' ds.length (ds.map uc)∧Below w.heap.size w w':=by
 obtain ⟨i0,hi,hz0,hz1,hz2⟩:=info_parts info_u32
 obtain ⟨hl,hl',hnc,hc⟩:=h.len
 obtain rfl:n=ds.length:=by omega
 rcases A with _ | ad
 ·have hn:ds=[]:=by
   rcases Nat.eq_zero_or_pos ds.length with h0 | h0
   ·exact List.length_eq_zero_iff.1 h0
   ·obtain ⟨b,off,hA,_⟩:=h.at_ h0
    cases hA
  subst hn
  refine ⟨.slice none 0 0,w,?_,World.ownsRow_nil _ _ _ _,Below.refl _ _⟩
  simp [Builtin.append_,run_underlying Tryz.underlying44,sizeOf,typeInfo,hi,Builtin.lenOf,Builtin.firstCells]
 ·obtain ⟨v',w',hrun,h2,h3,_,_⟩:=run_append_own_at (P:=Tryz.prog) w w.heap.size 44 ty 123 i0 _ 1 4 Tryz.underlying44 hi hz0 hz1 hz2 rfl (by decide) (.slice none 0 0) 0 [] (World.ownsRow_nil _ _ _ _) ad ds.length c (ds.map uc) (by simp) h.news (uc_oneCell _) (by unfold maxLen;omega) (by omega) (Nat.le_refl _)
  exact ⟨v',w',hrun,by simpa using h2,(Below.refl _ _).grown h3 (Nat.le_refl _) (fun k hk=>by simp [Value.ownBlock] at hk)⟩
theorem wp_append_dig {o:Oper} {a:Act} {K:Act→World→Prop} {Q:Exit→Act→World→Prop} (x:Operand)
 (ho:o.op= .call { callee:= .builtin .append,args:=#[.const (.slice none 0 0),x],argTypes:=#[44,44] })
 (w:World) (A:Option Addr) (n c:Nat) (ds:List Nat) (hx:a.eval x= .slice A n c) (h:DigM w (.slice A n c) ds) (hs:ds.length≤549755813888)
 (hK:∀v' w',w'.ownsRow w.heap.size 123 1 v' ds.length (ds.map uc)→Below w.heap.size w w'→K (a.put o.dst v') w'):o.wp Tryz.prog a w K Q:=by
 obtain ⟨v',w',hrun,h2,h3⟩:=run_append_dig o.type w A n c ds h hs
 have hc:a.eval (.const (.slice none 0 0))= .slice none 0 0:=rfl
 unfold Oper.wp execOp
 simp only [ho,resolve,invoke,builtin,Sem.run_bind,Sem.run_pure,Result.andThen_ok,List.map_toArray,List.map_cons,List.map_nil,hc,hx,hrun]
 exact hK v' w' h2 h3
theorem wpList_append_dig {ops:Array Oper} {rest:List Oper} {o:Oper} {a:Act} {Q:Exit→Act→World→Prop} (hgd:o.guard=none) (x:Operand)
 (ho:o.op= .call { callee:= .builtin .append,args:=#[.const (.slice none 0 0),x],argTypes:=#[44,44] })
 (w:World) (A:Option Addr) (n c:Nat) (ds:List Nat) (hx:a.eval x= .slice A n c) (h:DigM w (.slice A n c) ds) (hs:ds.length≤549755813888)
 (hK:∀v' w',w'.ownsRow w.heap.size 123 1 v' ds.length (ds.map uc)→Below w.heap.size w w'→wpList Tryz.prog ops Q rest (a.put o.dst v') w'):wpList Tryz.prog ops Q (o::rest) a w:=
 wpList_plain hgd fun _ hk=>wp_append_dig x ho w A n c ds hx h hs fun v' w' h2 h3=>hk _ _ (hK v' w' h2 h3)
theorem or_bit32 {d s:Nat} (hs:s≤31) (hd:d < B32) (h:2^(s+1)∣d):bits .or .u32 (d:Int) (2^s)=((d+2^s:Nat):Int):=by
 have h2:2^s≤2^31:=Nat.pow_le_pow_right (by decide) hs
 rw [pow_cast,u32_or_nat _ _ (by unfold B32 at hd;omega) (by omega),or_bit h]
def Off (g:Nat) (v:Value):Prop:=∀a n c,v= .slice (some a) n c→a.block≠g
theorem Off.mk {g b o n c:Nat} (h:b≠g):Off g (.slice (some ⟨b,o,none⟩) n c):=fun a n' c' e=>by
 injection e with e1
 injection e1 with e1
 subst e1
 exact h
theorem Off.own {w:World} {base e size n g:Nat} {v:Value} {xs:List Value} (h:w.ownsRow base e size v n xs) (hg:w.heap.size≤g):Off g v:=fun a n' c' he=>by
 rcases h.2 with ⟨rfl,_⟩ | ⟨k,cap,cur,rfl,_,hh,_⟩
 ·injection he with e1;cases e1
 ·injection he with e1
  injection e1 with e1
  subst e1
  have:=lt_heap hh
  show k≠g
  omega
theorem DigM.far {w:World} {v:Value} {ds:List Nat} {g:Nat} (h:DigM w v ds) (ho:Off g v) (k:Nat) (u:Value):DigM (w.setCell ⟨g,k,none⟩ u) v ds:=by
 obtain ⟨A,c,hv,h1,h2,h3,h4⟩:=h
 refine ⟨A,c,hv,h1,h2,h3,fun hp=>?_⟩
 obtain ⟨b,off,cs,fz,hA,hb,hc⟩:=h4 hp
 have hne:b≠g:=by subst hA;exact ho _ _ _ hv
 exact ⟨b,off,cs,fz,hA,by rw [heap_setCell_other w _ _ _ hne];exact hb,hc⟩
def DivAt (X Y q g:Nat) (w:World) (r d:Value) (z:Int) (wr:World) (Q:List Nat) (R D:Nat):Prop:=
 DigM wr r (digs R)∧DigM wr d (digs D)∧D=Y * 2^(z+1).toNat / 2∧R < Y * 2^(z+1).toNat∧X=val Q * Y+R∧2^(z+1).toNat∣val Q∧DigB wr g Q∧okD Q∧q+1≤Q.length∧Q.length≤q+1∧Below w.heap.size w wr∧(digs R).length≤137438953472∧(digs D).length≤549755813888∧Off g r∧Off g d
def DivDigPost (X Y:Nat) (w:World) (e:Ending) (w':World):Prop:=
 ∃v1 v2,e= .returned (.tuple #[v1,v2])∧DigM w' v1 (digs (X / Y))∧DigM w' v2 (digs (X % Y))∧Below w.heap.size w w'
theorem rdivDigits_any (v1 v2:Value) (xs ys:List Nat) (w:World) (h1:DigM w v1 xs) (h2:DigM w v2 ys) (hy:val ys≠0) (hs1:(digs (val xs)).length≤137438953472) (hs2:ys.length≤137438953472):
 Calls Tryz.prog 136 #[v1,v2] w (DivDigPost (val xs) (val ys) w):=by
 have hsy:(digs (val ys)).length≤137438953472:=Nat.le_trans (digs_len_le h2.ok) hs2
 generalize hX:val xs=X at *
 generalize hY:val ys=Y at *
 have HX:=Lib.hid hX
 have HY:=Lib.hid hY
 have HYZ:=Lib.hid hy
 clear hX hY hy
 go_enter Tryz.func136,Tryz.ntmps136
 go_wp2_with fail
 refine (rtrim_any _ xs _ h1).mono ?_
 rw [HX.out]
 rintro e w1 ⟨u1,rfl,g1,rfl⟩
 obtain ⟨A,l,c,rfl⟩:=g1.shape
 go_wp2_with (at_builtin;refine wpList_append_dig rfl (.tmp 12) rfl _ A l c (digs X) rfl g1 (by omega) ?_)
 intro v' w1 hown hbe
 have d1:=own_dig hown (okD_digs X)
 have o1:=Off.own hown (Nat.le_refl _)
 clear hown
 go_wp2_with fail
 refine (rbitLen_any _ xs _ (h1.below hbe) (by rw [HX.out];omega)).mono ?_
 rw [HX.out]
 rintro e w2 ⟨rfl,rfl⟩
 go_wp2_with fail
 refine (rbitLen_any _ ys _ (h2.below hbe) (by rw [HY.out];omega)).mono ?_
 rw [HY.out]
 rintro e w2 ⟨rfl,rfl⟩
 have b1:=@bl_len X
 have b2:=@bl_len Y
 rcases Nat.lt_or_ge (bl X) (bl Y) with hlt | hge
 ·have hq:X / Y=0∧X % Y=X:=⟨Nat.div_eq_of_lt (bl_sub_lt hlt),Nat.mod_eq_of_lt (bl_sub_lt hlt)⟩
  have HQ:=Lib.hid hq
  have ht:(bl X:Int) - bl Y < 0:=by omega
  clear hq
  go_wp2
  go_ret2
  exact ⟨_,_,rfl,by rw [HQ.out.1,digs_zero];exact DigM.nil _ _ _ (by simp),by rw [HQ.out.2];exact d1,hbe⟩
 ·have hst:=bl_start hge HYZ.out
  obtain ⟨n,hn⟩:∃n:Nat,n=bl X - bl Y:=⟨_,rfl⟩
  have hn':(bl X:Int) - bl Y=(n:Int):=by omega
  rw [← hn] at hst
  have HST:=Lib.hid hst
  obtain ⟨q,s,hqs,hs⟩:∃q s,n=32 * q+s∧s≤31:=⟨n / 32,n % 32,by omega,by omega⟩
  have hnb:(n:Int)≤4398046511104:=by omega
  have hqb:q≤137438953472:=by omega
  have hq:(n:Int) / 32=(q:Int):=by omega
  have HN:=Lib.hid hqs
  have hmk:=make_u32 (q+1) (by omega)
  push_cast at hmk
  clear hst hn b1 b2 hqs
  go_wp2_with fail
  clear hmk
  obtain ⟨W,hW⟩:∃W,W=w1.alloc (.cells (zc (q+1)) 123):=⟨_,rfl⟩
  have hbn:Below w1.heap.size w1 W:=hW▸below_new _ _
  have hB:DigB W w1.heap.size (List.replicate (q+1) 0):=hW▸DigB.zeros w1 _
  rw [← hW]
  clear hW
  have hbe2:=below_then hbe hbn hbe.size
  have hc:=rshift_own v2 ys q s W (h2.below hbe2) hs (by omega)
  rw [← HN.out,HY.out] at hc
  refine hc.mono ?_
  clear hc
  rintro e w2 ⟨kd,ld,rfl,d2,hb2⟩
  have o2:Off w1.heap.size (.slice (some ⟨W.heap.size,0,none⟩) kd ld):=Off.mk (by have:=hB.lt;omega)
  have hB2:=hB.below hb2 hB.lt
  have hbe3:=below_then hbe2 hb2 hbe2.size
  have d3:=(d1.below hbn).below hb2
  have hg1:w.heap.size≤w1.heap.size:=hbe.size
  clear hB hbe hbe2 d1 hbn hb2 g1 h1 h2
  have hD0:(digs (Y * 2^n)).length≤549755813888:=by
   refine Nat.le_trans (mul_len Y (2^n)) ?_
   have:(digs (2^n)).length≤q+1:=digs_lt (by rw [B32_pow];exact Nat.pow_lt_pow_right (by decide) (by have:=HN.out;omega))
   omega
  have HD0:=Lib.hid hD0
  have hsx:Hid ((digs X).length≤137438953472):=Lib.hid hs1
  have hnn:¬(n:Int) < 0:=by omega
  clear hD0 hs1 hsy hge
  go_wp2
  go_loopw [6,9,10] (fun r d i wr=>∃(z:Int) (Q:List Nat) (R D:Nat),-1≤z∧z≤n∧i= .int .i64 z∧DivAt X Y q w1.heap.size w r d z wr Q R D) (fun _ _ i _=>(intOf i+1).toNat)
  case atStart=>exact ⟨n,List.replicate (q+1) 0,X,Y * 2^n,by omega,by omega,rfl,d3,d2,by rw [show ((n:Int)+1).toNat=n+1 by omega,half_pow],by rw [show ((n:Int)+1).toNat=n+1 by omega];exact HST.out,by rw [val_replicate];simp,by rw [val_replicate];exact ⟨0,rfl⟩,hB2,okD_replicate _,by simp,by simp,hbe3,hsx.out,HD0.out,o1,o2⟩
  case round=>
   obtain ⟨z,Q,R,D,hz0,hz1,rfl,dr,dd,hD,hR,hXQ,hdv,hB,okQ,hQ,hQ',hbe,hsR,hsD,oR,oD⟩:=hrel
   have HD:=Lib.hid hD
   have HR:=Lib.hid hR
   have HXQ:=Lib.hid hXQ
   have HDV:=Lib.hid hdv
   clear hD hR hXQ hdv d2 d3 hB2 hbe3
   rcases Int.lt_or_le z 0 with hz | hz
   ·obtain rfl:z= -1:=by omega
    have e0:((-1:Int)+1).toNat=0:=rfl
    have:=HR.out
    rw [e0,Nat.pow_zero,Nat.mul_one] at this
    have HE:=Lib.hid (bit_end HXQ.out this)
    clear this e0
    go_wp2_with fail
    refine (rtrim_any _ Q _ ?_).mono ?_
    ·have:=hB.dig okQ (c:=q+1) hQ' (by unfold maxLen;omega)
     rwa [show Q.length=q+1 from by omega] at this
    rintro e w3 ⟨v3,rfl,h3,rfl⟩
    go_wp2
    go_ret2
    exact ⟨_,_,rfl,by rw [← HE.out.1];exact h3,by rw [← HE.out.2];exact dr,hbe⟩
   ·obtain ⟨i,rfl⟩:=Int.eq_ofNat_of_zero_le hz
    have e1:((i:Int)+1).toNat=i+1:=by omega
    have hR:=HR.out
    have hD:=HD.out
    have hdv:=HDV.out
    rw [e1] at hR hD hdv
    rw [half_pow] at hD
    have HR1:=Lib.hid hR
    have HD1:=Lib.hid hD
    have HDV1:=Lib.hid hdv
    have hin:i≤n:=by omega
    clear hR hD hdv HR HD HDV e1
    obtain ⟨I,hI⟩:∃I,I=i / 32:=⟨_,rfl⟩
    obtain ⟨J,hJ⟩:∃J,J=i % 32:=⟨_,rfl⟩
    have hi1:(i:Int) / 32=(I:Int):=by omega
    have hi2:(i:Int) % 32=(J:Int):=by omega
    have hiq:I≤q:=by have:=HN.out;omega
    have hJ31:J≤31:=by omega
    have hdb:=dg_bits okQ HDV1.out
    have hval:=fun h=>val_bit (Q:=Q) (i:=i) h
    rw [← hI] at hval
    rw [← hJ] at hval
    rw [← hI,← hJ] at hdb
    have HVAL:=Lib.hid hval
    have HDB:=Lib.hid hdb
    clear hI hJ hval hdb
    go_wp2_with fail
    refine (rcompareDigits_any _ _ _ _ _ dr dd).mono ?_
    rw [val_digs,val_digs]
    rintro e w3 ⟨rfl,hb3⟩
    have dr3:=dr.below hb3
    have dd3:=dd.below hb3
    have hB3:=hB.below hb3 hB.lt
    have hbe3:=below_then hbe hb3 hbe.size
    clear dr dd hB hbe hb3
    rcases Nat.lt_or_ge R D with hlt | hge
    ·have hc:cmpN R D= -1:=cmpN_lt hlt
     have HLT:=Lib.hid hlt
     rw [hc]
     clear hc hlt
     go_wp2_with fail
     refine (rhalf_own _ _ _ dd3 hsD).mono ?_
     rw [val_digs]
     rintro e w4 ⟨k4,l4,rfl,d4,hb4⟩
     go_wp2
     go_roundw
     case rel=>exact ⟨(i:Int) - 1,Q,R,D / 2,by omega,by omega,rfl,dr3.below hb4,d4,by rw [show ((i:Int) - 1+1).toNat=i by omega,← HD1.out],by rw [show ((i:Int) - 1+1).toNat=i by omega,← HD1.out];exact HLT.out,HXQ.out,by rw [show ((i:Int) - 1+1).toNat=i by omega];exact bit_skip HDV1.out,hB3.below hb4 hB3.lt,okQ,hQ,hQ',below_then hbe3 hb4 hbe3.size,hsR,Nat.le_trans (digs_len_mono (Nat.div_le_self _ _)) hsD,oR,Off.mk (by have:=hB3.lt;omega)⟩
     case measure=>simp [intOf]
    ·have hc:0≤cmpN R D:=by unfold cmpN;split;omega;split <;> omega
     have hcb:=cmpN_bd R D
     have hst:=bit_step HXQ.out HR1.out (by rw [← HD1.out];exact hge) HDV1.out
     rw [← HD1.out] at hst
     have HST2:=Lib.hid hst
     have hge2:=Lib.hid hge
     have hor:=or_bit32 hJ31 (dg_lt okQ I) HDB.out
     have HFIT:=Lib.hid (bit_fits (show J < 32 by omega) (dg_lt okQ I) HDB.out)
     have hpw:=pow_le_31 hJ31
     have hpw0:=pow_pos_1 J
     generalize cmpN R D=cc at *
     clear hst hge
     go_wp2_with fail
     refine (rsubDigits_own _ _ _ _ _ dr3 dd3 (by rw [val_digs,val_digs];exact hge2.out) (digs_len_mono hge2.out) (by omega)).mono ?_
     rw [val_digs,val_digs]
     rintro e w4 ⟨k4,l4,rfl,d4,hb4⟩
     have o4:Off w1.heap.size (.slice (some ⟨w3.heap.size,0,none⟩) k4 l4):=Off.mk (by have:=hB3.lt;omega)
     have hB4:=hB3.below hb4 hB3.lt
     have dd4:=dd3.below hb4
     have hbe4:=below_then hbe3 hb4 hbe3.size
     clear dr3 dd3 hB3 hbe3 hb4
     have ho:=hB4.cell (k:=I) (by omega)
     have hf:=hB4.frozen I
     rw [di_eq] at ho
     have hB5:=hB4.set_ I (dg Q I+2^J)
     have d5:=d4.far o4 I (.int .u32 ((dg Q I+2^J:Nat):Int))
     have dd5:=dd4.far oD I (.int .u32 ((dg Q I+2^J:Nat):Int))
     have hbe5:=hbe4.setCell (p:=⟨w1.heap.size,I,none⟩) hg1 (.int .u32 ((dg Q I+2^J:Nat):Int))
     generalize ((dg Q I+2^J:Nat):Int)=G at *
     clear dd4 d4
     go_wp2_with fail
     refine (rhalf_own _ _ _ dd5 hsD).mono ?_
     rw [val_digs]
     rintro e w6 ⟨k6,l6,rfl,d6,hb6⟩
     rw [World.size_setCell] at d6
     go_wp2
     go_roundw
     case rel=>exact ⟨(i:Int) - 1,Q.set I (dg Q I+2^J),R - D,D / 2,by omega,by omega,rfl,d5.below hb6,d6,by rw [show ((i:Int) - 1+1).toNat=i by omega,← HD1.out],by rw [show ((i:Int) - 1+1).toNat=i by omega,← HD1.out];exact HST2.out.2.1,by rw [HVAL.out (by omega)];exact HST2.out.1,by rw [show ((i:Int) - 1+1).toNat=i by omega,HVAL.out (by omega)];exact HST2.out.2.2,hB5.below hb6 hB5.lt,okD_set okQ _ HFIT.out,by simpa using hQ,by simpa using hQ',below_then hbe5 hb6 hbe5.size,Nat.le_trans (digs_len_mono (Nat.sub_le _ _)) hsR,Nat.le_trans (digs_len_mono (Nat.div_le_self _ _)) hsD,o4,Off.mk (by have:=hB5.lt;rw [World.size_setCell] at this;omega)⟩
     case measure=>simp [intOf]
theorem step_append_dig {ops:Array Oper} {o:Oper} {a:Act} {K:Act→World→Prop} {Q:Exit→Act→World→Prop} {E:Prop} (hgd:o.guard=none) (x:Operand)
 (ho:o.op= .call { callee:= .builtin .append,args:=#[.const (.slice none 0 0),x],argTypes:=#[44,44] })
 (w:World) (A:Option Addr) (n c:Nat) (ds:List Nat) (hx:a.eval x= .slice A n c) (h:DigM w (.slice A n c) ds) (hs:ds.length≤549755813888)
 (hK:∀v' w',w'.ownsRow w.heap.size 123 1 v' ds.length (ds.map uc)→Below w.heap.size w w'→K (a.put o.dst v') w'):
 if Region.wanted o (yielded ops a.tmps)=true then Oper.wp Tryz.prog o a w K Q else E:=by
 have hw:Region.wanted o (yielded ops a.tmps)=true:=by simp [Region.wanted,hgd]
 rw [if_pos hw]
 exact wp_append_dig x ho w A n c ds hx h hs hK
theorem Bk.snd {w:World} {g:Nat} {t:TypeId} {a b:Value} (h:Bk w g t [a,b]):w.cell? ⟨g,1,none⟩=some b:=h.two.2.1
def RGcdAt (G:Nat) (w:World) (Y:Nat) (s t:Value) (wr:World):Prop:=
 ∃X,DigM wr s (digs X)∧DigM wr t (digs Y)∧Nat.gcd X Y=G∧(digs X).length≤137438953472∧(digs Y).length≤137438953472∧Below w.heap.size w wr∧Bk wr (w.heap.size+1+1) 46 [.bool false,.slice none 0 0]
theorem rgcd_any (v1 v2:Value) (a b:RI) (w:World) (h1:IntM w v1 a) (h2:IntM w v2 b) (hs:(digs (val a.ds)).length≤137438953472) (hs2:(digs (val b.ds)).length≤137438953472):
 Calls Tryz.prog 103 #[v1,v2] w fun e w'=>∃v',e= .returned v'∧IntM w' v' (canI (Nat.gcd (val a.ds) (val b.ds):Nat))∧Below w.heap.size w w':=by
 obtain ⟨A,n,c,rfl,hd⟩:=h1.shape
 obtain ⟨A',n',c',rfl,hd'⟩:=h2.shape
 obtain ⟨W,hW,hX,hY,hR,hbe⟩:=box2 w (.bool a.neg) (.slice A n c) (.bool b.neg) (.slice A' n' c')
 have d1:=hd.below hbe
 have d2:=hd'.below hbe
 obtain ⟨G,hG⟩:∃G,G=Nat.gcd (val a.ds) (val b.ds):=⟨_,rfl⟩
 rw [← hG]
 have HG:=Lib.hid hG
 clear hG
 have tok:True:=trivial
 go_enter Tryz.func103,Tryz.ntmps103
 go_wp2_with fail
 clear hW
 go_region_held3 (fun w'=>w'.cell? ⟨w.heap.size,1,none⟩=some (.slice A n c)∧w'.cell? ⟨w.heap.size+1,1,none⟩=some (.slice A' n' c'))
  (first | with_reducible exact ⟨hX.drew.snd,hY.drew.snd⟩ | with_reducible exact ⟨(hX.drew.later hb1).snd,(hY.drew.later hb1).snd⟩ | with_reducible exact ⟨((hX.drew.later hb1).later hb2).snd,((hY.drew.later hb1).later hb2).snd⟩)
  (first
   | (go_at_call 135;have _t:=tok;refine (rtrim_any _ a.ds _ (d1.keep (Keep.drew _))).mono ?_;clear tok _t;rintro e w3 ⟨v3,rfl,e3,rfl⟩;obtain ⟨A3,n3,k3,rfl⟩:=e3.shape)
   | (go_at_call 135;refine (rtrim_any _ b.ds _ ((d2.keep (Keep.drew _)).below hb1)).mono ?_;rintro e w3 ⟨v4,rfl,e4,rfl⟩;obtain ⟨A4,n4,k4,rfl⟩:=e4.shape)
   | (refine step_append_dig rfl (.tmp 15) rfl _ A4 n4 k4 (digs (val b.ds)) rfl e4 (by omega) ?_;intro v2 w2 o2 hb2)
   | (refine step_append_dig rfl (.tmp 11) rfl _ A3 n3 k3 (digs (val a.ds)) rfl e3 (by omega) ?_;intro v1 w1 o1 hb1))
 have dx:=(own_dig o1 (okD_digs _)).below hb2
 have dy:=own_dig o2 (okD_digs _)
 have hR2:=(hR.drew.later hb1).later hb2
 have bb1:=below_then hbe.drew hb1 hbe.size
 have hbe2:=below_then bb1 hb2 bb1.size
 clear o1 o2 bb1 hb1 hb2 e3 e4 d1 d2 hd hd' h1 h2 hX hY hR hbe
 go_wp2
 go_loopg [5,6] (val b.ds) (fun k s t wr=>RGcdAt G w k s t wr)
 case atStart=>exact ⟨_,dx,dy,HG.out.symm,hs,hs2,hbe2,hR2⟩
 case round=>
  obtain ⟨X,dX,dY,hgcd,hsX,hsY,hbe,hR⟩:=hrel
  have HGC:=Lib.hid hgcd
  clear hgcd dx dy hbe2 hR2
  obtain ⟨A3,n3,k3,rfl⟩:=dY.shape
  obtain ⟨kl,kl',knc,kc⟩:=dY.len
  rcases Nat.eq_zero_or_pos n3 with h0 | h0
  ·have hv:gk=0:=len_zero (by omega)
   have HV:=Lib.hid hv
   subst h0
   clear hv kl kl'
   go_wp2_with fail
   refine (make_dig false _ X _ dX (by omega)).mono ?_
   rw [show sm false X=(G:Int) by have:=HGC.out;rw [HV.out,Nat.gcd_zero_right] at this;rw [this];rfl]
   rintro e w3 ⟨v3,rfl,e3,hb3⟩
   obtain ⟨A1,n1,k1,rfl,_⟩:=e3.shape
   have hR3:=hR.later hb3
   obtain ⟨c0,c1,f0,f1⟩:=hR3.two
   go_wp2
   refine ret_cell Tryz.results103 Tryz.underlying46 (by kernel_rfl) rfl (hR3.set2 _ _) rfl ?_
   exact fin_int hR3 e3 (below_then hbe hb3 hbe.size) (by omega)
  ·have hv:gk≠0:=len_pos (by omega)
   have HV:=Lib.hid hv
   clear hv kl kl'
   go_wp2_with fail
   have hc:=rdivDigits_any _ _ (digs X) (digs gk) _ dX dY (by rw [val_digs];exact HV.out) (by rw [val_digs];exact hsX) hsY
   rw [val_digs,val_digs] at hc
   refine hc.mono ?_
   clear hc
   rintro e w3 ⟨v3,v4,rfl,d3,d4,hb3⟩
   have hlt:=Nat.mod_lt X (Nat.pos_of_ne_zero HV.out)
   go_wp2
   go_roundg (X % gk)
   case measure=>exact hlt
   case rel=>exact ⟨gk,dY.below hb3,d4,by rw [← HGC.out,Nat.gcd_comm X gk,Nat.gcd_rec gk X,Nat.gcd_comm],hsY,Nat.le_trans (digs_len_mono (Nat.le_of_lt hlt)) hsY,below_then hbe hb3 hbe.size,hR.later hb3⟩
def sameI (a b:RI):Bool:=(a.neg==b.neg) && decide (a.ds=b.ds)
def DivExPost (z:Int) (w:World) (e:Ending) (w':World):Prop:=∃q r,e= .returned (.tuple #[q,r,.int .i64 0])∧IntM w' q (canI z)∧IntM w' r (canI 0)∧Below w.heap.size w w'
theorem sameI_true {a b:RI} (h:a.neg=b.neg) (h2:a.ds=b.ds):sameI a b=true:=by simp [sameI,h,h2]
theorem sameI_false1 {a b:RI} (h:(a.neg==b.neg)=false):sameI a b=false:=by simp [sameI,h]
theorem sameI_false2 {a b:RI} (h:a.ds≠b.ds):sameI a b=false:=by simp [sameI,h]
theorem ret_bool {a b:Bool} (h:b=a):Ending.returned (.bool a)= .returned (.bool b):=by rw [h]
theorem dg_ne {a b:List Nat} {k:Nat} (h:dg a k≠dg b k):a≠b:=fun e=>h (by rw [e])
theorem ds_eq {a b:List Nat} (hl:a.length=b.length) (h:∀k,k < a.length→dg a k=dg b k):a=b:=
 val_eq_of_all hl fun j=>by
  rcases Nat.lt_or_ge j a.length with g | g
  ·exact h j g
  ·rw [dg_ge g,dg_ge (by omega)]
theorem sameInt_any (v1 v2:Value) (a b:RI) (w:World) (h1:IntM w v1 a) (h2:IntM w v2 b):
 Calls Tryz.prog 65 #[v1,v2] w fun e w'=>e= .returned (.bool (sameI a b))∧Below w.heap.size w w':=by
 obtain ⟨A,n,c,rfl,hd⟩:=h1.shape
 obtain ⟨A',n',c',rfl,hd'⟩:=h2.shape
 obtain ⟨W,hW,hX,hY,hbe⟩:=boxes_i w (.bool a.neg) (.slice A n c) (.bool b.neg) (.slice A' n' c')
 have d1:=hd.below hbe
 have d2:=hd'.below hbe
 obtain ⟨x0,x1,_,_⟩:=hX.two
 obtain ⟨y0,y1,_,_⟩:=hY.two
 obtain ⟨hl,hl',hnc,hc⟩:=hd.len
 obtain ⟨kl,kl',knc,kc⟩:=hd'.len
 by_cases hab:(a.neg==b.neg)=true
 ·have hb:(a.neg !=b.neg)=false:=by simpa [bne] using hab
  have HAB:=Lib.hid (beq_iff_eq.1 hab)
  clear hab
  by_cases hn:n=n'
  ·have hb2:((n:Int) !=(n':Int))=false:=by simp;omega
   subst hn
   have HL:Hid (a.ds.length=n∧b.ds.length=n):=Lib.hid ⟨by omega,by omega⟩
   clear hl hl' kl kl' hb2
   go_enter Tryz.func65,Tryz.ntmps65
   go_wp2
   clear hW hb
   go_loopw [5] (fun i wr=>∃(k q:Nat),k≤n∧i= .int .i64 k∧wr=W.drewN q∧∀j,j < k→dg a.ds j=dg b.ds j) (fun i _=>n - (intOf i).toNat)
   case atStart=>exact ⟨0,0,by omega,rfl,rfl,fun j hj=>by omega⟩
   case round=>
    obtain ⟨k,q,hk,rfl,rfl,hz⟩:=hrel
    have HZ:=Lib.hid hz
    clear hz
    rcases Nat.lt_or_ge k n with hkl | hkl
    ·obtain ⟨b1,off1,rfl,_,hcell1⟩:=d1.at_ (by omega)
     obtain ⟨b2,off2,rfl,_,hcell2⟩:=d2.at_ (by omega)
     have hx:=hcell1 k hkl
     have hy:=hcell2 k hkl
     clear hcell1 hcell2
     by_cases hne:dg a.ds k=dg b.ds k
     ·have hb3:(di a.ds k !=di b.ds k)=false:=by simp [di,hne]
      have HNE:=Lib.hid hne
      clear hne
      go_wp2
      go_quiet (fail)
      go_wp2
      go_roundw
      case rel=>exact ⟨k+1,q+nq,by omega,by go_num,by rfl,fun j hj=>by
       rcases Nat.eq_or_lt_of_le (Nat.le_of_lt_succ hj) with e | e
       ·subst e;exact HNE.out
       ·exact HZ.out j e⟩
      case measure=>simp [intOf];omega
     ·have hb3:(di a.ds k !=di b.ds k)=true:=by simp [di];omega
      have HNE:=Lib.hid hne
      clear hne
      go_wp2
      go_quiet (fail)
      go_wp2
      go_ret
      exact ⟨ret_bool (sameI_false2 (dg_ne HNE.out)),below_drewN (below_drewN hbe _) _⟩
    ·go_wp2
     go_ret
     exact ⟨ret_bool (sameI_true HAB.out (ds_eq (by rw [HL.out.1,HL.out.2]) fun j hj=>HZ.out j (by have:=HL.out.1;omega))),below_drewN hbe _⟩
  ·have hb2:((n:Int) !=(n':Int))=true:=by simp;omega
   have HL:Hid (a.ds≠b.ds):=Lib.hid fun e=>hn (by rw [e] at hl hl';omega)
   clear hl hl' kl kl' hn
   go_enter Tryz.func65,Tryz.ntmps65
   go_wp2
   go_ret
   exact ⟨ret_bool (sameI_false2 HL.out),hW▸hbe⟩
 ·obtain ⟨na,da⟩:=a
  obtain ⟨nb,db⟩:=b
  simp only at *
  have hne:(na=true∧nb=false)∨(na=false∧nb=true):=by cases na <;> cases nb <;> simp_all
  clear hab hl hl' kl kl'
  rcases hne with ⟨rfl,rfl⟩ | ⟨rfl,rfl⟩
  all_goals
   go_enter Tryz.func65,Tryz.ntmps65
   go_wp2
   go_ret
   exact ⟨ret_bool (sameI_false1 rfl),hW▸hbe⟩
end Go.Proofs.YtncmobkhenfhpaaGreat
