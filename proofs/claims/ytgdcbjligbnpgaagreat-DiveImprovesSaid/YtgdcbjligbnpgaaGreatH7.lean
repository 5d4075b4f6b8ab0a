/- Lemmas of the claim; no condition. -/
import Derived.Test.YtgdcbjligbnpgaaGreatH6
set_option linter.all false
set_option maxRecDepth 100000
set_option maxHeartbeats 40000000
namespace Go.Proofs.YtgdcbjligbnpgaaGreat
open Go.RowKit
open Pl
attribute [local go_sem ↓] Go.wp_at_zero Go.wp_at_succ
theorem radd_fin {O xs ys:List Nat} {k:Nat} {z:Int} (hO:O.length=k) (hz:0≤z) (hx:xs.length+1≤k) (hy:ys.length+1≤k) (okx:okD xs) (oky:okD ys)
 (h:(vt O k:Int)+z * ((B32^k:Nat):Int)=vt xs k+vt ys k):val O=val xs+val ys:=by
 rw [vt_ge (by omega),vt_ge (show xs.length≤k by omega),vt_ge (show ys.length≤k by omega)] at h
 obtain ⟨j,rfl⟩:∃j,k=j+1:=⟨k - 1,by omega⟩
 have a1:=Nat.lt_of_lt_of_le (val_lt okx) (Nat.pow_le_pow_right B32_pos (show xs.length≤j by omega))
 have a2:=Nat.lt_of_lt_of_le (val_lt oky) (Nat.pow_le_pow_right B32_pos (show ys.length≤j by omega))
 rw [Nat.pow_succ] at h
 generalize B32^j=p at *
 rcases Int.lt_or_eq_of_le hz with h1 | h1
 ·have:1 * ((p * B32:Nat):Int)≤z * ((p * B32:Nat):Int):=Int.mul_le_mul_of_nonneg_right (by omega) (by omega)
  unfold B32 at *
  omega
 ·subst h1
  omega
theorem raddDigits_any (v1 v2:Value) (xs ys:List Nat) (w:World) (h1:DigM w v1 xs) (h2:DigM w v2 ys) (hx:xs.length≤549755813888) (hy:ys.length≤549755813888):
 Calls Tryz.prog 121 #[v1,v2] w fun e w'=>∃v',e= .returned v'∧DigM w' v' (digs (val xs+val ys))∧Below w.heap.size w w':=by
 obtain ⟨A,l,c,rfl⟩:=h1.shape
 obtain ⟨hl,hl',hnc,hc⟩:=h1.len
 obtain ⟨A2,l2,c2,rfl⟩:=h2.shape
 obtain ⟨kl,kl',knc,kc⟩:=h2.len
 rcases Nat.lt_or_ge l l2 with hll | hll
 ·have hmk:=make_u32 (l2+1) (by omega)
  push_cast at hmk
  have HX:Hid (xs.length≤l2):=Lib.hid (by omega)
  have HY:Hid (ys.length≤l2):=Lib.hid (by omega)
  have hm4:(l2:Int)≤549755813888:=by omega
  have ok1:=h1.ok
  have ok2:=h2.ok
  clear hl hl' kl kl' hx hy
  go_enter Tryz.func121,Tryz.ntmps121
  go_wp2
  clear hmk
  go_loopw [7,8] (fun cy i wr=>∃(k:Nat) (O:List Nat) (z:Int),k≤l2+1∧i= .int .i64 k∧cy= .int .u64 z∧0≤z∧z≤1∧l2+1≤O.length∧O.length≤l2+1∧DigB wr w.heap.size O∧okD O∧Below w.heap.size w wr∧
   (vt O k:Int)+z * ((B32^k:Nat):Int)=vt xs k+vt ys k) (fun _ i _=>l2+1 - (intOf i).toNat)
  case atStart=>exact ⟨0,List.replicate (l2+1) 0,0,by omega,rfl,rfl,by omega,by omega,by simp,by simp,DigB.zeros w _,okD_replicate _,(Below.refl _ _).alloc (Nat.le_refl _) _,by simp [vt_zero]⟩
  case round=>
   obtain ⟨k,O,z,hk,rfl,rfl,z0,z1,hO,hO',hB,ok,hbe,heq⟩:=hrel
   have HE:=Lib.hid heq
   clear heq
   rcases Nat.lt_or_ge k (l2+1) with hkl | hkl
   ·have x0:=di_nonneg xs k
    have x1:=di_le ok1 k
    have y0:=di_nonneg ys k
    have y1:=di_le ok2 k
    go_wp2_with fail
    refine (rdigit_any _ xs k _ (h1.below hbe) (by omega)).mono ?_
    rintro e w1 ⟨rfl,rfl⟩
    go_wp2_with fail
    refine (rdigit_any _ ys k _ (h2.below hbe) (by omega)).mono ?_
    rintro e w1 ⟨rfl,rfl⟩
    have ho:=hB.cell (k:=k) (by omega)
    have hf:=hB.frozen k
    go_wp2
    go_roundw
    case rel=>exact ⟨k+1,O.set k ((z+di xs k+di ys k) % 4294967296).toNat,_,by omega,by go_num,rfl,by omega,by omega,by simpa using hO,by simpa using hO',hB.setI k (by omega),okD_set ok k (by unfold B32;omega),hbe.setCell (Nat.le_refl _) _,add_step (by omega) z0 rfl HE.out⟩
    case measure=>simp [intOf];omega
   ·obtain rfl:k=l2+1:=by omega
    have hge:decide (((l2:Int)+1) < (l2:Int)+1)=false:=by simp
    go_wp2_with fail
    refine (rtrim_any _ O _ ?_).mono ?_
    ·have:=hB.dig ok (c:=l2+1) hO' (by unfold maxLen;omega)
     rwa [show O.length=l2+1 from by omega] at this
    rintro e w1 ⟨v',rfl,hv,rfl⟩
    go_wp2_with fail
    go_ret
    refine ⟨_,rfl,?_,hbe⟩
    rwa [radd_fin (show O.length=l2+1 by omega) z0 (by have:=HX.out;omega) (by have:=HY.out;omega) ok1 ok2 HE.out] at hv
 ·have hmk:=make_u32 (l+1) (by omega)
  push_cast at hmk
  have HX:Hid (xs.length≤l):=Lib.hid (by omega)
  have HY:Hid (ys.length≤l):=Lib.hid (by omega)
  have hm4:(l:Int)≤549755813888:=by omega
  have ok1:=h1.ok
  have ok2:=h2.ok
  clear hl hl' kl kl' hx hy
  go_enter Tryz.func121,Tryz.ntmps121
  go_wp2
  clear hmk
  go_loopw [7,8] (fun cy i wr=>∃(k:Nat) (O:List Nat) (z:Int),k≤l+1∧i= .int .i64 k∧cy= .int .u64 z∧0≤z∧z≤1∧l+1≤O.length∧O.length≤l+1∧DigB wr w.heap.size O∧okD O∧Below w.heap.size w wr∧
   (vt O k:Int)+z * ((B32^k:Nat):Int)=vt xs k+vt ys k) (fun _ i _=>l+1 - (intOf i).toNat)
  case atStart=>exact ⟨0,List.replicate (l+1) 0,0,by omega,rfl,rfl,by omega,by omega,by simp,by simp,DigB.zeros w _,okD_replicate _,(Below.refl _ _).alloc (Nat.le_refl _) _,by simp [vt_zero]⟩
  case round=>
   obtain ⟨k,O,z,hk,rfl,rfl,z0,z1,hO,hO',hB,ok,hbe,heq⟩:=hrel
   have HE:=Lib.hid heq
   clear heq
   rcases Nat.lt_or_ge k (l+1) with hkl | hkl
   ·have x0:=di_nonneg xs k
    have x1:=di_le ok1 k
    have y0:=di_nonneg ys k
    have y1:=di_le ok2 k
    go_wp2_with fail
    refine (rdigit_any _ xs k _ (h1.below hbe) (by omega)).mono ?_
    rintro e w1 ⟨rfl,rfl⟩
    go_wp2_with fail
    refine (rdigit_any _ ys k _ (h2.below hbe) (by omega)).mono ?_
    rintro e w1 ⟨rfl,rfl⟩
    have ho:=hB.cell (k:=k) (by omega)
    have hf:=hB.frozen k
    go_wp2
    go_roundw
    case rel=>exact ⟨k+1,O.set k ((z+di xs k+di ys k) % 4294967296).toNat,_,by omega,by go_num,rfl,by omega,by omega,by simpa using hO,by simpa using hO',hB.setI k (by omega),okD_set ok k (by unfold B32;omega),hbe.setCell (Nat.le_refl _) _,add_step (by omega) z0 rfl HE.out⟩
    case measure=>simp [intOf];omega
   ·obtain rfl:k=l+1:=by omega
    have hge:decide (((l:Int)+1) < (l:Int)+1)=false:=by simp
    go_wp2_with fail
    refine (rtrim_any _ O _ ?_).mono ?_
    ·have:=hB.dig ok (c:=l+1) hO' (by unfold maxLen;omega)
     rwa [show O.length=l+1 from by omega] at this
    rintro e w1 ⟨v',rfl,hv,rfl⟩
    go_wp2_with fail
    go_ret
    refine ⟨_,rfl,?_,hbe⟩
    rwa [radd_fin (show O.length=l+1 by omega) z0 (by have:=HX.out;omega) (by have:=HY.out;omega) ok1 ok2 HE.out] at hv
theorem rsubDigits_own (v1 v2:Value) (xs ys:List Nat) (w:World) (h1:DigM w v1 xs) (h2:DigM w v2 ys) (hle:val ys≤val xs) (hlen:ys.length≤xs.length) (hs:xs.length≤549755813888):
 Calls Tryz.prog 119 #[v1,v2] w fun e w'=>∃k l,e= .returned (.slice (some ⟨w.heap.size,0,none⟩) k l)∧DigM w' (.slice (some ⟨w.heap.size,0,none⟩) k l) (digs (val xs - val ys))∧Below w.heap.size w w':=by
 have HL:=Lib.hid hle
 clear hle
 obtain ⟨A,l,c,rfl⟩:=h1.shape
 obtain ⟨hl,hl',hnc,hc⟩:=h1.len
 have hmk:=make_u32 l (by omega)
 have HX:Hid (xs.length≤l):=Lib.hid (by omega)
 have HY:Hid (ys.length≤l):=Lib.hid (by omega)
 have hm4:(l:Int)≤549755813888:=by omega
 have ok1:=h1.ok
 have ok2:=h2.ok
 clear hl hl' hlen hs
 go_enter Tryz.func119,Tryz.ntmps119
 go_wp2
 clear hmk
 go_loopw [6,7] (fun cy i wr=>∃(k:Nat) (O:List Nat) (z:Int),k≤l∧i= .int .i64 k∧cy= .int .u64 z∧0≤z∧z≤1∧l≤O.length∧O.length≤l∧DigB wr w.heap.size O∧okD O∧Below w.heap.size w wr∧
  (vt O k:Int) - z * ((B32^k:Nat):Int)=vt xs k - vt ys k) (fun _ i _=>l - (intOf i).toNat)
 case atStart=>exact ⟨0,List.replicate l 0,0,by omega,rfl,rfl,by omega,by omega,by simp,by simp,DigB.zeros w _,okD_replicate _,(Below.refl _ _).alloc (Nat.le_refl _) _,by simp [vt_zero]⟩
 case round=>
  obtain ⟨k,O,z,hk,rfl,rfl,z0,z1,hO,hO',hB,ok,hbe,heq⟩:=hrel
  have HE:=Lib.hid heq
  clear heq
  rcases Nat.lt_or_ge k l with hkl | hkl
  ·have x0:=di_nonneg xs k
   have x1:=di_le ok1 k
   have y0:=di_nonneg ys k
   have y1:=di_le ok2 k
   have ho:=hB.cell (k:=k) (by omega)
   have hf:=hB.frozen k
   go_wp2_with fail
   refine (rdigit_any _ xs k _ (h1.below hbe) (by omega)).mono ?_
   rintro e w1 ⟨rfl,rfl⟩
   go_wp2_with fail
   refine (rdigit_any _ ys k _ (h2.below hbe) (by omega)).mono ?_
   rintro e w1 ⟨rfl,rfl⟩
   obtain ⟨x,hx⟩:∃x,x=di xs k+4294967296 - di ys k - z:=⟨_,rfl⟩
   have HX2:=Lib.hid hx
   have q1:IntKind.u64.wrap (di xs k+4294967296)=di xs k+4294967296:=u64_in _ (by omega) (by omega)
   have q2:IntKind.u64.wrap (di xs k+4294967296 - di ys k)=di xs k+4294967296 - di ys k:=u64_in _ (by omega) (by omega)
   have q3:IntKind.u64.wrap (di xs k+4294967296 - di ys k - z)=x:=by rw [hx];exact u64_in _ (by omega) (by omega)
   have r0:0≤x:=by omega
   have r1:x≤8589934591:=by omega
   clear hx
   have q4:IntKind.u64.wrap (1 - x / 4294967296)=1 - x / 4294967296:=u64_in _ (by omega) (by omega)
   go_wp2
   go_roundw
   case rel=>exact ⟨k+1,O.set k (x % 4294967296).toNat,1 - x / 4294967296,by omega,by go_num,rfl,by omega,by omega,by simpa using hO,by simpa using hO',hB.setI k (by omega),okD_set ok k (by unfold B32;omega),hbe.setCell (Nat.le_refl _) _,sub_step (by omega) rfl (by omega) (by have:=HX2.out;omega) HE.out⟩
   case measure=>simp [intOf];omega
  ·obtain rfl:k=l:=by omega
   go_wp2_with fail
   refine (rtrim_at _ _ _ O _ ?_).mono ?_
   ·have:=hB.dig ok (c:=k) hO' (by unfold maxLen;omega)
    rwa [show O.length=k from by omega] at this
   rintro e w1 ⟨k',rfl,hv,rfl⟩
   go_wp2_with fail
   go_ret
   refine ⟨_,_,rfl,?_,hbe⟩
   rwa [sub_fin (show O.length=k by omega) ok z0 HX.out HY.out HL.out HE.out] at hv
theorem rsubDigits_any (v1 v2:Value) (xs ys:List Nat) (w:World) (h1:DigM w v1 xs) (h2:DigM w v2 ys) (hle:val ys≤val xs) (hlen:ys.length≤xs.length) (hs:xs.length≤549755813888):
 Calls Tryz.prog 119 #[v1,v2] w fun e w'=>∃v',e= .returned v'∧DigM w' v' (digs (val xs - val ys))∧Below w.heap.size w w':=
 (rsubDigits_own v1 v2 xs ys w h1 h2 hle hlen hs).mono fun _ _ ⟨_,_,h1,h2,h3⟩=>⟨_,h1,h2,h3⟩
theorem rmulDigits_any (v1 v2:Value) (xs ys:List Nat) (w:World) (h1:DigM w v1 xs) (h2:DigM w v2 ys) (hs:xs.length+ys.length≤1099511627776):
 Calls Tryz.prog 81 #[v1,v2] w fun e w'=>∃v',e= .returned v'∧DigM w' v' (digs (val xs * val ys))∧Below w.heap.size w w':=by
 obtain ⟨A,l,c,rfl⟩:=h1.shape
 obtain ⟨hl,hl',hnc,hc⟩:=h1.len
 obtain ⟨A2,l2,c2,rfl⟩:=h2.shape
 obtain ⟨kl,kl',knc,kc⟩:=h2.len
 have ok1:=h1.ok
 have ok2:=h2.ok
 have hmk:=make_u32 (l+l2) (by omega)
 push_cast at hmk
 have hm4:(l:Int)+(l2:Int)≤1099511627776:=by omega
 have HX:Hid (xs.length≤l):=Lib.hid (by omega)
 have HY:Hid (ys.length=l2):=Lib.hid (by omega)
 clear hl hl' kl kl' hs
 go_enter Tryz.func81,Tryz.ntmps81
 go_wp2
 clear hmk
 go_loopw [6] (fun i wr=>∃(k:Nat) (O:List Nat),k≤l∧i= .int .i64 k∧l+l2≤O.length∧O.length≤l+l2∧DigB wr w.heap.size O∧okD O∧Below w.heap.size w wr∧
  (val O:Int)=(vt xs k:Int) * val ys∧(∀j,k+l2≤j→dg O j=0)) (fun i _=>l - (intOf i).toNat)
 case atStart=>exact ⟨0,List.replicate (l+l2) 0,by omega,rfl,by simp,by simp,DigB.zeros w _,okD_replicate _,(Below.refl _ _).alloc (Nat.le_refl _) _,by simp [vt_zero,val_replicate],fun j _=>dg_replicate _ _⟩
 case round=>
  obtain ⟨k,O,hk,rfl,hO,hO',hB,ok,hbe,heq,hzz⟩:=hrel
  have HE:=Lib.hid heq
  have HZ:=Lib.hid hzz
  clear heq hzz
  rcases Nat.lt_or_ge k l with hkl | hkl
  ·obtain ⟨b1,off1,rfl,hb1,hcell1⟩:=h1.at_ (by omega)
   have HC1:=Lib.hid hcell1
   clear hcell1
   have x0:=di_nonneg xs k
   have x1:=di_le ok1 k
   obtain ⟨wo,hwo⟩:∃wo:World,wo=wr:=⟨_,rfl⟩
   subst hwo
   go_wp2
   go_loopw [7,8] (fun cy i wr=>∃(j:Nat) (O':List Nat) (z:Int),j≤l2∧i= .int .i64 j∧cy= .int .u64 z∧0≤z∧z≤4294967295∧l+l2≤O'.length∧O'.length≤l+l2∧DigB wr w.heap.size O'∧okD O'∧Below w.heap.size w wr∧
    (val O':Int)+z * ((B32^(k+j):Nat):Int)=(val O:Int)+di xs k * ((B32^k:Nat):Int) * vt ys j∧(∀i,k+l2≤i→dg O' i=0)) (fun _ i _=>l2 - (intOf i).toNat)
   case atStart=>exact ⟨0,O,0,by omega,rfl,rfl,by omega,by omega,hO,hO',hB,ok,hbe,by simp [vt_zero],HZ.out⟩
   case round=>
    clear hbe hB
    obtain ⟨j,O',z,hj,rfl,rfl,z0,z1,hP,hP',hB',okP,hbe',heq',hzz'⟩:=hrel
    have HE':=Lib.hid heq'
    have HZ':=Lib.hid hzz'
    clear heq' hzz'
    rcases Nat.lt_or_ge j l2 with hjl | hjl
    ·obtain ⟨b2,off2,rfl,hb2,hcell2⟩:=h2.at_ (by omega)
     have hx:=dig_in hbe' hb1 HC1.out hkl
     have hy:=dig_in hbe' hb2 hcell2 hjl
     clear hcell2
     have y0:=di_nonneg ys j
     have y1:=di_le ok2 j
     have p0:0≤di xs k * di ys j:=Int.mul_nonneg x0 y0
     have p1:di xs k * di ys j≤4294967295 * 4294967295:=Int.mul_le_mul x1 y1 y0 (by omega)
     have ho:=hB'.cell (k:=k+j) (by omega)
     have hf:=hB'.frozen (k+j)
     have o0:=di_nonneg O' (k+j)
     have o1:=di_le okP (k+j)
     have g1:IntKind.u64.wrap (di O' (k+j))=di O' (k+j):=u64_in _ o0 (by omega)
     have g2:IntKind.u64.wrap (z+di O' (k+j))=z+di O' (k+j):=u64_in _ (by omega) (by omega)
     have g3:IntKind.u64.wrap (di xs k)=di xs k:=u64_in _ x0 (by omega)
     have g4:IntKind.u64.wrap (di ys j)=di ys j:=u64_in _ y0 (by omega)
     have g5:IntKind.u64.wrap (di xs k * di ys j)=di xs k * di ys j:=u64_in _ p0 (by omega)
     have g6:IntKind.u64.wrap (z+di O' (k+j)+di xs k * di ys j)=z+di O' (k+j)+di xs k * di ys j:=u64_in _ (by omega) (by omega)
     have g7:IntKind.i64.wrap ((k:Int)+j)=(k:Int)+j:=by simp only [IntKind.wrap,IntKind.bits,IntKind.signed];simp;omega
     have g8:((k:Int)+j).toNat=k+j:=by omega
     have g9:(k:Int)+j < (l:Int)+l2:=by omega
     go_wp2
     go_quiet (fail)
     obtain ⟨T,hT⟩:∃T,T=z+di O' (k+j)+di xs k * di ys j:=⟨_,rfl⟩
     have T0:0≤T:=by omega
     have T1:T≤18446744073709551615:=by omega
     rw [← hT]
     have HT:=Lib.hid hT
     clear hT g1 g2 g3 g4 g5 g6 p0 p1
     go_wp2
     go_roundw
     case rel=>exact ⟨j+1,O'.set (k+j) (T % 4294967296).toNat,T / 4294967296,by omega,by go_num,rfl,by omega,by omega,by simpa using hP,by simpa using hP',(show DigB (wr.drewN nq) w.heap.size O' from hB').setI _ (by omega),okD_set okP _ (by unfold B32;omega),(below_drewN hbe' nq).setCell (Nat.le_refl _) _,mul_step (by omega) (by omega) (by have:=HT.out;omega) HE'.out,fun i hi=>by rw [dg_set_ne (by omega)];exact HZ'.out i hi⟩
     case measure=>simp [intOf];omega
    ·obtain rfl:j=l2:=by omega
     have ho:=hB'.cell (k:=k+j) (by omega)
     have hf:=hB'.frozen (k+j)
     go_wp2
     go_roundw
     case rel=>exact ⟨k+1,O'.set (k+j) z.toNat,by omega,by go_num,by simpa using hP,by simpa using hP',hB'.setI _ (by omega),okD_set okP _ (by unfold B32;omega),hbe'.setCell (Nat.le_refl _) _,mul_outer HE.out (mul_carry' HY.out (by omega) z0 (HZ'.out _ (Nat.le_refl _)) HE'.out),fun i hi=>by rw [dg_set_ne (by omega)];exact HZ'.out i (by omega)⟩
     case measure=>simp [intOf];omega
  ·obtain rfl:k=l:=by omega
   go_wp2_with fail
   refine (rtrim_any _ O _ ?_).mono ?_
   ·have:=hB.dig ok (c:=k+l2) hO' (by unfold maxLen;omega)
    rwa [show O.length=k+l2 from by omega] at this
   rintro e w1 ⟨v',rfl,hv,rfl⟩
   go_wp2_with fail
   go_ret
   refine ⟨_,rfl,?_,hbe⟩
   rwa [mul_fin HX.out HE.out] at hv
theorem rmul_any (v1 v2:Value) (a b:RI) (w:World) (h1:IntM w v1 a) (h2:IntM w v2 b) (hs:a.ds.length+b.ds.length≤549755813888):
 Calls Tryz.prog 53 #[v1,v2] w fun e w'=>∃v',e= .returned v'∧IntM w' v' (canI (a.z * b.z))∧Below w.heap.size w w':=by
 obtain ⟨A,n,c,rfl,hd⟩:=h1.shape
 obtain ⟨A',n',c',rfl,hd'⟩:=h2.shape
 obtain ⟨W,hW,hX,hY,hR,hbe⟩:=box2 w (.bool a.neg) (.slice A n c) (.bool b.neg) (.slice A' n' c')
 have d1:=hd.below hbe
 have d2:=hd'.below hbe
 have hlen:(digs (val a.ds * val b.ds)).length≤549755813888:=by
  have q1:=digs_len_le hd.ok
  have q2:=digs_len_le hd'.ok
  exact Nat.le_trans (mul_len _ _) (by omega)
 go_enter Tryz.func53,Tryz.ntmps53
 go_wp2_with fail
 clear hW
 have hn1:w.heap.size≠w.heap.size+1+1:=by omega
 have hn2:w.heap.size+1≠w.heap.size+1+1:=by omega
 go_region_held3 (fun w'=>(w'.cell? ⟨w.heap.size,0,none⟩=some (.bool a.neg)∧w'.cell? ⟨w.heap.size,1,none⟩=some (.slice A n c))∧(w'.cell? ⟨w.heap.size+1,0,none⟩=some (.bool b.neg)∧w'.cell? ⟨w.heap.size+1,1,none⟩=some (.slice A' n' c')))
  (first | with_reducible exact ⟨hX.drew.pair,hY.drew.pair⟩ | with_reducible exact ⟨(hX.drew.later hb1).pair,(hY.drew.later hb1).pair⟩ | with_reducible exact ⟨((hX.drew.later hb1).later hb2).pair,((hY.drew.later hb1).later hb2).pair⟩ | with_reducible exact ⟨((hX.drew.later hb1).later hb2).two_far hn1 _ _,((hY.drew.later hb1).later hb2).two_far hn2 _ _⟩)
  (first
   | (go_at_call 81;refine (rmulDigits_any _ _ a.ds b.ds _ (d1.keep (Keep.drew _)) (d2.keep (Keep.drew _)) (by omega)).mono ?_;rintro e w1 ⟨v1,rfl,e1,hb1⟩)
   | (go_at_call 80;refine (make_dig (a.neg !=b.neg) _ _ _ e1 hlen).mono ?_;rintro e w2 ⟨v2,rfl,e2,hb2⟩;obtain ⟨A3,n3,k3,rfl,_⟩:=e2.shape;obtain ⟨c0,c1,f0,f1⟩:=((hR.drew.later hb1).later hb2).two))
 go_wp2
 refine ret_cell Tryz.results53 Tryz.underlying57 (by kernel_rfl) rfl (((hR.drew.later hb1).later hb2).set2 _ _) rfl ?_
 rw [RI.z_eq,RI.z_eq,← sm_mul]
 exact fin_int ((hR.drew.later hb1).later hb2) e2 (below_then (below_then hbe.drew hb1 hbe.size) hb2 (Nat.le_trans hbe.size hb1.size)) (by omega)
theorem radd_any (v1 v2:Value) (a b:RI) (w:World) (h1:IntM w v1 a) (h2:IntM w v2 b) (hs:a.ds.length≤274877906944) (hs2:b.ds.length≤274877906944):
 Calls Tryz.prog 107 #[v1,v2] w fun e w'=>∃v',e= .returned v'∧IntM w' v' (canI (a.z+b.z))∧Below w.heap.size w w':=by
 obtain ⟨A,n,c,rfl,hd⟩:=h1.shape
 obtain ⟨A',n',c',rfl,hd'⟩:=h2.shape
 obtain ⟨W,hW,hX,hY,hR,hbe⟩:=box2 w (.bool a.neg) (.slice A n c) (.bool b.neg) (.slice A' n' c')
 have d1:=hd.below hbe
 have d2:=hd'.below hbe
 have q1:=digs_len_le hd.ok
 have q2:=digs_len_le hd'.ok
 have hn1:w.heap.size≠w.heap.size+1+1:=by omega
 have hn2:w.heap.size+1≠w.heap.size+1+1:=by omega
 obtain ⟨x0,x1,_,_⟩:=hX.two
 obtain ⟨y0,y1,_,_⟩:=hY.two
 by_cases hab:(a.neg==b.neg)=true
 ·have hab':b.neg=a.neg:=(beq_iff_eq.1 hab).symm
  have hlen:(digs (val a.ds+val b.ds)).length≤549755813888:=Nat.le_trans (add_len _ _ 274877906944 (by omega) (by omega)) (by decide)
  have HAB:=Lib.hid hab'
  clear hab'
  go_enter Tryz.func107,Tryz.ntmps107
  go_wp2_with fail
  clear hW hab
  go_region_held3 (fun w'=>(w'.cell? ⟨w.heap.size,0,none⟩=some (.bool a.neg)∧w'.cell? ⟨w.heap.size,1,none⟩=some (.slice A n c))∧(w'.cell? ⟨w.heap.size+1,0,none⟩=some (.bool b.neg)∧w'.cell? ⟨w.heap.size+1,1,none⟩=some (.slice A' n' c')))
   (first | with_reducible exact ⟨hX.drew.pair,hY.drew.pair⟩ | with_reducible exact ⟨(hX.drew.later hb1).pair,(hY.drew.later hb1).pair⟩ | with_reducible exact ⟨((hX.drew.later hb1).later hb2).pair,((hY.drew.later hb1).later hb2).pair⟩ | with_reducible exact ⟨((hX.drew.later hb1).later hb2).two_far hn1 _ _,((hY.drew.later hb1).later hb2).two_far hn2 _ _⟩)
   (first
    | (go_at_call 121;refine (raddDigits_any _ _ a.ds b.ds _ (d1.keep (Keep.drew _)) (d2.keep (Keep.drew _)) (by omega) (by omega)).mono ?_;rintro e w1 ⟨v1,rfl,e1,hb1⟩)
    | (go_at_call 80;refine (make_dig a.neg _ _ _ e1 hlen).mono ?_;rintro e w2 ⟨v2,rfl,e2,hb2⟩;obtain ⟨A3,n3,k3,rfl,_⟩:=e2.shape;obtain ⟨c0,c1,f0,f1⟩:=((hR.drew.later hb1).later hb2).two))
  go_wp2
  refine ret_cell Tryz.results107 Tryz.underlying57 (by kernel_rfl) rfl (((hR.drew.later hb1).later hb2).set2 _ _) rfl ?_
  rw [RI.z_eq,RI.z_eq,HAB.out,sm_add_same]
  exact fin_int ((hR.drew.later hb1).later hb2) e2 (below_then (below_then hbe.drew hb1 hbe.size) hb2 (Nat.le_trans hbe.size hb1.size)) (by omega)
 ·have hab':(a.neg==b.neg)=false:=by simpa using hab
  clear hab
  have hcb:=cmpN_bd (val a.ds) (val b.ds)
  rcases Nat.lt_or_ge (val a.ds) (val b.ds) with hlt | hge
  ·have hc:cmpN (val a.ds) (val b.ds)= -1:=cmpN_lt hlt
   have hlen:(digs (val b.ds - val a.ds)).length≤549755813888:=Nat.le_trans (digs_len_mono (Nat.sub_le _ _)) (by omega)
   have hl2:(digs (val a.ds)).length≤b.ds.length:=Nat.le_trans (digs_len_mono (Nat.le_of_lt hlt)) q2
   have HLT:=Lib.hid hlt
   clear hlt hcb
   go_enter Tryz.func107,Tryz.ntmps107
   go_wp2_with fail
   clear hW
   refine (rcompareDigits_any _ _ a.ds b.ds _ d1 d2).mono ?_
   rw [hc]
   rintro e w0 ⟨rfl,hb0⟩
   have hX0:=hX.later hb0
   have hY0:=hY.later hb0
   have hR0:=hR.later hb0
   have d10:=d1.below hb0
   have d20:=d2.below hb0
   have hbe0:=below_then hbe hb0 hbe.size
   clear hX hY hR d1 d2 hbe hc x0 x1 y0 y1
   have HAB:=Lib.hid hab'
   clear hab'
   go_wp2_with fail
   go_region_held3 (fun w'=>(w'.cell? ⟨w.heap.size,0,none⟩=some (.bool a.neg)∧w'.cell? ⟨w.heap.size,1,none⟩=some (.slice A n c))∧(w'.cell? ⟨w.heap.size+1,0,none⟩=some (.bool b.neg)∧w'.cell? ⟨w.heap.size+1,1,none⟩=some (.slice A' n' c')))
    (first | with_reducible exact ⟨hX0.drew.pair,hY0.drew.pair⟩ | with_reducible exact ⟨(hX0.drew.later hb1).pair,(hY0.drew.later hb1).pair⟩ | with_reducible exact ⟨((hX0.drew.later hb1).later hb2).pair,((hY0.drew.later hb1).later hb2).pair⟩ | with_reducible exact ⟨((hX0.drew.later hb1).later hb2).two_far hn1 _ _,((hY0.drew.later hb1).later hb2).two_far hn2 _ _⟩)
    (first
     | (go_at_call 104;refine (rtrim_any _ a.ds _ (d10.keep (Keep.drew _))).mono ?_;rintro e w3 ⟨v3,rfl,e3,rfl⟩)
     | (go_at_call 119;refine (rsubDigits_any _ _ b.ds (digs (val a.ds)) _ (d20.keep (Keep.drew _)) e3 (by rw [val_digs];exact Nat.le_of_lt HLT.out) hl2 (by omega)).mono ?_;rw [val_digs];rintro e w1 ⟨v1,rfl,e1,hb1⟩)
     | (go_at_call 80;refine (make_dig b.neg _ _ _ e1 hlen).mono ?_;rintro e w2 ⟨v2,rfl,e2,hb2⟩;obtain ⟨A3,n3,k3,rfl,_⟩:=e2.shape;obtain ⟨c0,c1,f0,f1⟩:=((hR0.drew.later hb1).later hb2).two))
   go_wp2
   refine ret_cell Tryz.results107 Tryz.underlying57 (by kernel_rfl) rfl (((hR0.drew.later hb1).later hb2).set2 _ _) rfl ?_
   rw [RI.z_eq,RI.z_eq,sm_sub_r HAB.out (Nat.le_of_lt HLT.out)]
   exact fin_int ((hR0.drew.later hb1).later hb2) e2 (below_then (below_then hbe0.drew hb1 hbe0.size) hb2 (Nat.le_trans hbe0.size hb1.size)) (by omega)
  ·have hc:0≤cmpN (val a.ds) (val b.ds):=by unfold cmpN;split;omega;split <;> omega
   have hlen:(digs (val a.ds - val b.ds)).length≤549755813888:=Nat.le_trans (digs_len_mono (Nat.sub_le _ _)) (by omega)
   have hl2:(digs (val b.ds)).length≤a.ds.length:=Nat.le_trans (digs_len_mono hge) q1
   have HGE:=Lib.hid hge
   clear hge
   go_enter Tryz.func107,Tryz.ntmps107
   go_wp2_with fail
   clear hW
   refine (rcompareDigits_any _ _ a.ds b.ds _ d1 d2).mono ?_
   rintro e w0 ⟨rfl,hb0⟩
   generalize cmpN (val a.ds) (val b.ds)=cc at *
   have hX0:=hX.later hb0
   have hY0:=hY.later hb0
   have hR0:=hR.later hb0
   have d10:=d1.below hb0
   have d20:=d2.below hb0
   have hbe0:=below_then hbe hb0 hbe.size
   clear hX hY hR d1 d2 hbe x0 x1 y0 y1
   have HAB:=Lib.hid hab'
   clear hab'
   go_wp2_with fail
   go_region_held3 (fun w'=>(w'.cell? ⟨w.heap.size,0,none⟩=some (.bool a.neg)∧w'.cell? ⟨w.heap.size,1,none⟩=some (.slice A n c))∧(w'.cell? ⟨w.heap.size+1,0,none⟩=some (.bool b.neg)∧w'.cell? ⟨w.heap.size+1,1,none⟩=some (.slice A' n' c')))
    (first | with_reducible exact ⟨hX0.drew.pair,hY0.drew.pair⟩ | with_reducible exact ⟨(hX0.drew.later hb1).pair,(hY0.drew.later hb1).pair⟩ | with_reducible exact ⟨((hX0.drew.later hb1).later hb2).pair,((hY0.drew.later hb1).later hb2).pair⟩ | with_reducible exact ⟨((hX0.drew.later hb1).later hb2).two_far hn1 _ _,((hY0.drew.later hb1).later hb2).two_far hn2 _ _⟩)
    (first
     | (go_at_call 104;refine (rtrim_any _ b.ds _ (d20.keep (Keep.drew _))).mono ?_;rintro e w3 ⟨v3,rfl,e3,rfl⟩)
     | (go_at_call 119;refine (rsubDigits_any _ _ a.ds (digs (val b.ds)) _ (d10.keep (Keep.drew _)) e3 (by rw [val_digs];exact HGE.out) hl2 (by omega)).mono ?_;rw [val_digs];rintro e w1 ⟨v1,rfl,e1,hb1⟩)
     | (go_at_call 80;refine (make_dig a.neg _ _ _ e1 hlen).mono ?_;rintro e w2 ⟨v2,rfl,e2,hb2⟩;obtain ⟨A3,n3,k3,rfl,_⟩:=e2.shape;obtain ⟨c0,c1,f0,f1⟩:=((hR0.drew.later hb1).later hb2).two))
   go_wp2
   refine ret_cell Tryz.results107 Tryz.underlying57 (by kernel_rfl) rfl (((hR0.drew.later hb1).later hb2).set2 _ _) rfl ?_
   rw [RI.z_eq,RI.z_eq,sm_sub_l HAB.out HGE.out]
   exact fin_int ((hR0.drew.later hb1).later hb2) e2 (below_then (below_then hbe0.drew hb1 hbe0.size) hb2 (Nat.le_trans hbe0.size hb1.size)) (by omega)
theorem len_canI (z:Int):(canI z).ds.length=(digs z.natAbs).length:=rfl
end Go.Proofs.YtgdcbjligbnpgaaGreat
