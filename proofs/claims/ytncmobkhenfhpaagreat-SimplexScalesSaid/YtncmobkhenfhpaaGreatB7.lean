/- Contracts and plain facts that the claim is built on, joined out of smaller texts; no condition. -/
import Derived.Test.YtncmobkhenfhpaaGreatB3
set_option linter.unusedVariables false
set_option linter.unusedSimpArgs false
set_option maxRecDepth 100000
set_option maxHeartbeats 40000000
namespace Go.Proofs.YtncmobkhenfhpaaGreat
open Go.RowKit
open Pl
theorem gcd_step {x y:Int} (hx:0≤x) (hy:0 < y):Nat.gcd y.toNat (x % y).toNat=Nat.gcd x.toNat y.toNat:=by
 obtain ⟨a,rfl⟩:=Int.eq_ofNat_of_zero_le hx
 obtain ⟨b,rfl⟩:=Int.eq_ofNat_of_zero_le (Int.le_of_lt hy)
 rw [← Int.natCast_emod,Int.toNat_natCast,Int.toNat_natCast,Int.toNat_natCast,Nat.gcd_comm a b,Nat.gcd_rec b a,Nat.gcd_comm]
theorem gcdWord_any (x y:Int) (w:World) (x0:0≤x) (x1:x≤18446744073709551615) (y0:0≤y) (y1:y≤18446744073709551615):
 Calls Tryz.prog 170 #[.int .u64 x,.int .u64 y] w fun e w'=>e= .returned (.int .u64 ((Nat.gcd x.toNat y.toNat:Nat):Int))∧Below w.heap.size w w':=by
 go_enter Tryz.func170,Tryz.ntmps170
 go_wp2
 go_loopw [0,1] (fun s t wr=>∃(a b:Int) (q:Nat),s= .int .u64 a∧t= .int .u64 b∧0≤a∧a≤18446744073709551615∧0≤b∧b≤18446744073709551615∧wr=w.drewN q∧Nat.gcd a.toNat b.toNat=Nat.gcd x.toNat y.toNat) (fun _ t _=>(intOf t).toNat)
 case atStart=>exact ⟨x,y,0,rfl,rfl,x0,x1,y0,y1,rfl,rfl⟩
 case round=>
  obtain ⟨a,b,q,rfl,rfl,a0,a1,b0,b1,rfl,hg⟩:=hrel
  have HG:=Lib.hid hg
  clear hg
  rcases Int.lt_or_eq_of_le b0 with h | h
  ·have t1:(b !=0)=true:=by simp;omega
   have q0:¬b=0:=by omega
   have m0:0≤a % b:=Int.emod_nonneg _ (by omega)
   have m1:a % b < b:=Int.emod_lt_of_pos _ h
   have q2:a.tmod b=a % b:=Int.tmod_eq_emod_of_nonneg a0
   have q3:IntKind.u64.wrap (a % b)=a % b:=u64_in _ m0 (by omega)
   go_wp2
   go_quiet (fail)
   go_wp2
   go_roundw
   case rel=>exact ⟨b,a % b,q+nq,rfl,rfl,b0,b1,m0,by omega,World.drewN_drewN _ _ _,by rw [gcd_step a0 h];exact HG.out⟩
   case measure=>simp [intOf];omega
  ·subst h
   go_wp2
   go_ret
   refine ⟨ret_int ?_,below_drewN' _ _⟩
   rw [← HG.out]
   simp
   omega
theorem ring_comb (O p q b a c u v x y pw P Q pr qr r t:Int) (h:O+(p - q - b) * pw=u * a - v * c) (e1:p+u * x=pr+4294967296 * P) (e2:q+v * y=qr+4294967296 * Q) (e3:pr - qr - b=r - 4294967296 * t):
 O+r * pw+(P - Q - t) * (pw * 4294967296)=u * (a+x * pw) - v * (c+y * pw):=by grind
theorem comb_step {O xs ys:List Nat} {k:Nat} {p q b u v P Q pr qr r t:Int} (hk:k < O.length) (hr:0≤r) (e1:p+u * di xs k=pr+4294967296 * P) (e2:q+v * di ys k=qr+4294967296 * Q) (e3:pr - qr - b=r - 4294967296 * t)
 (h:(vt O k:Int)+(p - q - b) * ((B32^k:Nat):Int)=u * vt xs k - v * vt ys k):
 (vt (O.set k r.toNat) (k+1):Int)+(P - Q - t) * ((B32^(k+1):Nat):Int)=u * vt xs (k+1) - v * vt ys (k+1):=by
 rw [vt_cast_set hk hr,vt_cast_succ,vt_cast_succ,pow_cast_succ]
 exact ring_comb _ _ _ _ _ _ _ _ _ _ _ _ _ _ _ _ _ h e1 e2 e3
theorem comb_fin {O xs ys:List Nat} {n R:Nat} {p q b u v:Int} (okO:okD O) (hO:O.length=n) (hx:xs.length≤n) (hy:ys.length≤n) (hR:u * val xs - v * val ys=(R:Int)) (hlt:R < B32^n)
 (h:(vt O n:Int)+(p - q - b) * ((B32^n:Nat):Int)=u * vt xs n - v * vt ys n):val O=R:=by
 rw [vt_ge hx,vt_ge hy,vt_ge (by omega),hR] at h
 have hv:=val_lt okO
 rw [hO] at hv
 generalize p - q - b=c at *
 generalize B32^n=P at *
 have hc:c=0:=by
  rcases Int.lt_trichotomy c 0 with g | g | g
  ·have:c * (P:Int)≤(-1) * P:=Int.mul_le_mul_of_nonneg_right (by omega) (by omega)
   omega
  ·exact g
  ·have:1 * (P:Int)≤c * P:=Int.mul_le_mul_of_nonneg_right (by omega) (by omega)
   omega
 subst hc
 omega
theorem combine_lt (v1 v2:Value) (xs ys:List Nat) (u v:Int) (R:Nat) (w:World) (h1:DigM w v1 xs) (h2:DigM w v2 ys) (hcmp:xs.length < ys.length) (u0:0≤u) (u1:u≤4294967295) (w0:0≤v) (w1:v≤4294967295) (hs:ys.length≤549755813888)
 (hR:u * val xs - v * val ys=(R:Int)) (hlt:R < B32^(ys.length)):
 Calls Tryz.prog 169 #[v1,.int .u64 u,v2,.int .u64 v] w fun e w'=>∃v',e= .returned v'∧DigM w' v' (digs R)∧Below w.heap.size w w':=by
 have HR:=Lib.hid hR
 have HLT:=Lib.hid hlt
 clear hR hlt
 obtain ⟨A,l,c,rfl⟩:=h1.shape
 obtain ⟨hl,hl',hnc,hc⟩:=h1.len
 obtain ⟨A2,l2,c2,rfl⟩:=h2.shape
 obtain ⟨kl,kl',knc,kc⟩:=h2.len
 have hmk:=make_u32 l2 (by omega)
 have hcmp2:(l:Int) < l2:=by omega
 go_enter Tryz.func169,Tryz.ntmps169
 go_wp2
 clear hmk
 go_loopw [11,12,13,24] (fun ps qs bs i wr=>∃(k:Nat) (O:List Nat) (p q b:Int),k≤l2∧i= .int .i64 k∧ps= .int .u64 p∧qs= .int .u64 q∧bs= .int .i64 b∧0≤p∧p≤4294967295∧0≤q∧q≤4294967295∧0≤b∧b≤1∧l2≤O.length∧O.length≤l2∧DigB wr w.heap.size O∧okD O∧Below w.heap.size w wr∧
  (vt O k:Int)+(p - q - b) * ((B32^k:Nat):Int)=u * vt xs k - v * vt ys k) (fun _ _ _ i _=>l2 - (intOf i).toNat)
 case atStart=>exact ⟨0,List.replicate l2 0,0,0,0,by omega,rfl,rfl,rfl,rfl,by omega,by omega,by omega,by omega,by omega,by omega,by simp,by simp,DigB.zeros w _,okD_replicate _,(Below.refl _ _).alloc (Nat.le_refl _) _,by simp [vt_zero]⟩
 case round=>
  obtain ⟨k,O,p,q,b,hk,rfl,rfl,rfl,rfl,p0,p1,q0,q1,b0,b1,hO,hO',hB,ok,hbe,heq⟩:=hrel
  have HE:=Lib.hid heq
  clear heq
  rcases Nat.lt_or_ge k l2 with hkl | hkl
  ·have ho:=hB.cell (k:=k) (by omega)
   have hf:=hB.frozen k
   have x0:=di_nonneg xs k
   have x1:=di_le h1.ok k
   have y0:=di_nonneg ys k
   have y1:=di_le h2.ok k
   have a0:0≤u * di xs k:=Int.mul_nonneg u0 x0
   have a1:u * di xs k≤4294967295 * 4294967295:=Int.mul_le_mul u1 x1 x0 (by omega)
   have c0:0≤v * di ys k:=Int.mul_nonneg w0 y0
   have c1:v * di ys k≤4294967295 * 4294967295:=Int.mul_le_mul w1 y1 y0 (by omega)
   obtain ⟨bY,offy,rfl,hby,hcelly⟩:=h2.at_ (by omega)
   have hy:=dig_in hbe hby hcelly hkl
   clear hcelly
   rcases Nat.lt_or_ge k l with hk2 | hk2
   ·skip
    obtain ⟨bx,offx,rfl,hbx,hcellx⟩:=h1.at_ (by omega)
    have hx:=dig_in hbe hbx hcellx hk2
    clear hcellx
    have hm1:=and_mask (show 0≤p+u * di xs k by omega) (show p+u * di xs k≤18446744073709551615 by omega)
    have hm2:=and_mask (show 0≤q+v * di ys k by omega) (show q+v * di ys k≤18446744073709551615 by omega)
    go_wp2
    ·go_roundw
     case rel=>exact ⟨k+1,O.set k _,_,_,1,by omega,by go_num,rfl,rfl,rfl,by omega,by omega,by omega,by omega,by omega,by omega,by simpa using hO,by simpa using hO',hB.setI k (by omega),okD_set ok k (by unfold B32;omega),hbe.setCell (Nat.le_refl _) _,comb_step (pr:=(p+u * di xs k) % 4294967296) (qr:=(q+v * di ys k) % 4294967296) (by omega) (by omega) (by omega) (by omega) (by omega) HE.out⟩
     case measure=>simp [intOf];omega
    ·go_roundw
     case rel=>exact ⟨k+1,O.set k _,_,_,0,by omega,by go_num,rfl,rfl,rfl,by omega,by omega,by omega,by omega,by omega,by omega,by simpa using hO,by simpa using hO',hB.setI k (by omega),okD_set ok k (by unfold B32;omega),hbe.setCell (Nat.le_refl _) _,comb_step (pr:=(p+u * di xs k) % 4294967296) (qr:=(q+v * di ys k) % 4294967296) (by omega) (by omega) (by omega) (by omega) (by omega) HE.out⟩
     case measure=>simp [intOf];omega
   ·have hx0:di xs k=0:=by rw [di_eq,dg_ge (by omega)];rfl
    have HX:=Lib.hid hx0
    clear hx0
    have hm1:=and_mask (show 0≤p by omega) (show p≤18446744073709551615 by omega)
    have hm2:=and_mask (show 0≤q+v * di ys k by omega) (show q+v * di ys k≤18446744073709551615 by omega)
    go_wp2
    ·go_roundw
     case rel=>exact ⟨k+1,O.set k _,_,_,1,by omega,by go_num,rfl,rfl,rfl,by omega,by omega,by omega,by omega,by omega,by omega,by simpa using hO,by simpa using hO',hB.setI k (by omega),okD_set ok k (by unfold B32;omega),hbe.setCell (Nat.le_refl _) _,comb_step (pr:=(p) % 4294967296) (qr:=(q+v * di ys k) % 4294967296) (by omega) (by omega) (by rw [HX.out];omega) (by omega) (by omega) HE.out⟩
     case measure=>simp [intOf];omega
    ·go_roundw
     case rel=>exact ⟨k+1,O.set k _,_,_,0,by omega,by go_num,rfl,rfl,rfl,by omega,by omega,by omega,by omega,by omega,by omega,by simpa using hO,by simpa using hO',hB.setI k (by omega),okD_set ok k (by unfold B32;omega),hbe.setCell (Nat.le_refl _) _,comb_step (pr:=(p) % 4294967296) (qr:=(q+v * di ys k) % 4294967296) (by omega) (by omega) (by rw [HX.out];omega) (by omega) (by omega) HE.out⟩
     case measure=>simp [intOf];omega
  ·obtain rfl:k=l2:=by omega
   go_wp2_with fail
   refine (trim_any _ O _ ?_).mono ?_
   ·have:=hB.dig ok (c:=k) hO' (by unfold maxLen;omega)
    rwa [show O.length=k from by omega] at this
   rintro e w1 ⟨v',rfl,hv,rfl⟩
   go_wp2_with fail
   go_ret
   refine ⟨_,rfl,?_,hbe⟩
   rwa [comb_fin ok (show O.length=k by omega) (by omega) (by omega) HR.out (by have:=HLT.out;rwa [show ys.length=k from by omega] at this) HE.out] at hv
theorem combine_ge (v1 v2:Value) (xs ys:List Nat) (u v:Int) (R:Nat) (w:World) (h1:DigM w v1 xs) (h2:DigM w v2 ys) (hcmp:ys.length≤xs.length) (u0:0≤u) (u1:u≤4294967295) (w0:0≤v) (w1:v≤4294967295) (hs:xs.length≤549755813888)
 (hR:u * val xs - v * val ys=(R:Int)) (hlt:R < B32^(xs.length)):
 Calls Tryz.prog 169 #[v1,.int .u64 u,v2,.int .u64 v] w fun e w'=>∃v',e= .returned v'∧DigM w' v' (digs R)∧Below w.heap.size w w':=by
 have HR:=Lib.hid hR
 have HLT:=Lib.hid hlt
 clear hR hlt
 obtain ⟨A,l,c,rfl⟩:=h1.shape
 obtain ⟨hl,hl',hnc,hc⟩:=h1.len
 obtain ⟨A2,l2,c2,rfl⟩:=h2.shape
 obtain ⟨kl,kl',knc,kc⟩:=h2.len
 have hmk:=make_u32 l (by omega)
 have hcmp2:¬(l:Int) < l2:=by omega
 go_enter Tryz.func169,Tryz.ntmps169
 go_wp2
 clear hmk
 go_loopw [11,12,13,24] (fun ps qs bs i wr=>∃(k:Nat) (O:List Nat) (p q b:Int),k≤l∧i= .int .i64 k∧ps= .int .u64 p∧qs= .int .u64 q∧bs= .int .i64 b∧0≤p∧p≤4294967295∧0≤q∧q≤4294967295∧0≤b∧b≤1∧l≤O.length∧O.length≤l∧DigB wr w.heap.size O∧okD O∧Below w.heap.size w wr∧
  (vt O k:Int)+(p - q - b) * ((B32^k:Nat):Int)=u * vt xs k - v * vt ys k) (fun _ _ _ i _=>l - (intOf i).toNat)
 case atStart=>exact ⟨0,List.replicate l 0,0,0,0,by omega,rfl,rfl,rfl,rfl,by omega,by omega,by omega,by omega,by omega,by omega,by simp,by simp,DigB.zeros w _,okD_replicate _,(Below.refl _ _).alloc (Nat.le_refl _) _,by simp [vt_zero]⟩
 case round=>
  obtain ⟨k,O,p,q,b,hk,rfl,rfl,rfl,rfl,p0,p1,q0,q1,b0,b1,hO,hO',hB,ok,hbe,heq⟩:=hrel
  have HE:=Lib.hid heq
  clear heq
  rcases Nat.lt_or_ge k l with hkl | hkl
  ·have ho:=hB.cell (k:=k) (by omega)
   have hf:=hB.frozen k
   have x0:=di_nonneg xs k
   have x1:=di_le h1.ok k
   have y0:=di_nonneg ys k
   have y1:=di_le h2.ok k
   have a0:0≤u * di xs k:=Int.mul_nonneg u0 x0
   have a1:u * di xs k≤4294967295 * 4294967295:=Int.mul_le_mul u1 x1 x0 (by omega)
   have c0:0≤v * di ys k:=Int.mul_nonneg w0 y0
   have c1:v * di ys k≤4294967295 * 4294967295:=Int.mul_le_mul w1 y1 y0 (by omega)
   obtain ⟨bx,offx,rfl,hbx,hcellx⟩:=h1.at_ (by omega)
   have hx:=dig_in hbe hbx hcellx hkl
   clear hcellx
   rcases Nat.lt_or_ge k l2 with hk2 | hk2
   ·skip
    obtain ⟨bY,offy,rfl,hby,hcelly⟩:=h2.at_ (by omega)
    have hy:=dig_in hbe hby hcelly hk2
    clear hcelly
    have hm1:=and_mask (show 0≤p+u * di xs k by omega) (show p+u * di xs k≤18446744073709551615 by omega)
    have hm2:=and_mask (show 0≤q+v * di ys k by omega) (show q+v * di ys k≤18446744073709551615 by omega)
    go_wp2
    ·go_roundw
     case rel=>exact ⟨k+1,O.set k _,_,_,1,by omega,by go_num,rfl,rfl,rfl,by omega,by omega,by omega,by omega,by omega,by omega,by simpa using hO,by simpa using hO',hB.setI k (by omega),okD_set ok k (by unfold B32;omega),hbe.setCell (Nat.le_refl _) _,comb_step (pr:=(p+u * di xs k) % 4294967296) (qr:=(q+v * di ys k) % 4294967296) (by omega) (by omega) (by omega) (by omega) (by omega) HE.out⟩
     case measure=>simp [intOf];omega
    ·go_roundw
     case rel=>exact ⟨k+1,O.set k _,_,_,0,by omega,by go_num,rfl,rfl,rfl,by omega,by omega,by omega,by omega,by omega,by omega,by simpa using hO,by simpa using hO',hB.setI k (by omega),okD_set ok k (by unfold B32;omega),hbe.setCell (Nat.le_refl _) _,comb_step (pr:=(p+u * di xs k) % 4294967296) (qr:=(q+v * di ys k) % 4294967296) (by omega) (by omega) (by omega) (by omega) (by omega) HE.out⟩
     case measure=>simp [intOf];omega
   ·have hy0:di ys k=0:=by rw [di_eq,dg_ge (by omega)];rfl
    have HY:=Lib.hid hy0
    clear hy0
    have hm1:=and_mask (show 0≤p+u * di xs k by omega) (show p+u * di xs k≤18446744073709551615 by omega)
    have hm2:=and_mask (show 0≤q by omega) (show q≤18446744073709551615 by omega)
    go_wp2
    ·go_roundw
     case rel=>exact ⟨k+1,O.set k _,_,_,1,by omega,by go_num,rfl,rfl,rfl,by omega,by omega,by omega,by omega,by omega,by omega,by simpa using hO,by simpa using hO',hB.setI k (by omega),okD_set ok k (by unfold B32;omega),hbe.setCell (Nat.le_refl _) _,comb_step (pr:=(p+u * di xs k) % 4294967296) (qr:=(q) % 4294967296) (by omega) (by omega) (by omega) (by rw [HY.out];omega) (by omega) HE.out⟩
     case measure=>simp [intOf];omega
    ·go_roundw
     case rel=>exact ⟨k+1,O.set k _,_,_,0,by omega,by go_num,rfl,rfl,rfl,by omega,by omega,by omega,by omega,by omega,by omega,by simpa using hO,by simpa using hO',hB.setI k (by omega),okD_set ok k (by unfold B32;omega),hbe.setCell (Nat.le_refl _) _,comb_step (pr:=(p+u * di xs k) % 4294967296) (qr:=(q) % 4294967296) (by omega) (by omega) (by omega) (by rw [HY.out];omega) (by omega) HE.out⟩
     case measure=>simp [intOf];omega
  ·obtain rfl:k=l:=by omega
   go_wp2_with fail
   refine (trim_any _ O _ ?_).mono ?_
   ·have:=hB.dig ok (c:=k) hO' (by unfold maxLen;omega)
    rwa [show O.length=k from by omega] at this
   rintro e w1 ⟨v',rfl,hv,rfl⟩
   go_wp2_with fail
   go_ret
   refine ⟨_,rfl,?_,hbe⟩
   rwa [comb_fin ok (show O.length=k by omega) (by omega) (by omega) HR.out (by have:=HLT.out;rwa [show xs.length=k from by omega] at this) HE.out] at hv
end Go.Proofs.YtncmobkhenfhpaaGreat
