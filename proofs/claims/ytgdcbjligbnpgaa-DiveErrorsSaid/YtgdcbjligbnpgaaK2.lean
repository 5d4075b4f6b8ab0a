/- Lemmas of the claim; no condition. -/
import Derived.Deep.QuietTactic
import Derived.BigQuiet
import Derived.Laws.BitsAllLaws
import Derived.Deep.RegionHeld3
import Derived.Deep.DrawnRows
import Derived.Test.YtgdcbjligbnpgaaK1
set_option linter.all false
set_option maxRecDepth 100000
set_option maxHeartbeats 40000000
namespace Go.Proofs.Ytgdcbjligbnpgaa
open Go.RowKit
open Pl
attribute [local go_sem ↓] Go.wp_at_zero Go.wp_at_succ
theorem trim_fin {w:World} {A:Option Addr} {n c k:Nat} {ds:List Nat} (h:DigM w (.slice A n c) ds) (hk:k≤n) (hz:∀i,k≤i→dg ds i=0) (hl:k=0∨dg ds (k - 1)≠0):
 DigM w (.slice A k k) (digs (val ds)):=by
 obtain ⟨h1,h2,h3,h4⟩:=h.len
 rw [digs_take h.ok (by omega) hz hl]
 exact h.take hk (Nat.le_refl _) (by unfold maxLen;omega)
theorem trim_any (v:Value) (ds:List Nat) (w:World) (h:DigM w v ds):
 Calls Try.prog 73 #[v] w fun e w'=>∃v',e= .returned v'∧DigM w v' (digs (val ds))∧w=w':=by
 obtain ⟨A,n,c,rfl⟩:=h.shape
 obtain ⟨hl,hl',hnc,hc⟩:=h.len
 go_enter Try.func73,Try.ntmps73
 go_wp2
 go_loop [3] (fun x=>∃k:Nat,k≤n∧x= .int .i64 k∧∀i,k≤i→dg ds i=0) (fun x=>(intOf x).toNat)
 case atStart=>exact ⟨n,Nat.le_refl _,rfl,fun i hi=>dg_ge (by omega)⟩
 case round=>
  obtain ⟨k,hk,rfl,hz⟩:=hrel
  have HZ:=Lib.hid hz
  clear hz
  rcases Nat.eq_zero_or_pos k with h0 | h0
  ·subst h0
   go_wp2
   go_ret
   exact ⟨_,rfl,trim_fin h hk HZ.out (.inl rfl),rfl⟩
  ·obtain ⟨j,rfl⟩:∃j,k=j+1:=⟨k - 1,by omega⟩
   obtain ⟨b,off,rfl,_,hcell⟩:=h.at_ (by omega)
   have hcj:=hcell j (by omega)
   clear hcell
   by_cases hd:dg ds j=0
   ·have hb:=di_beq_true hd
    have HD:=Lib.hid hd
    clear hd
    go_wp2
    go_round
    case rel=>exact ⟨j,by omega,by go_num,fun i hi=>by
     rcases Nat.eq_or_lt_of_le hi with e | e
     ·exact e▸HD.out
     ·exact HZ.out i e⟩
    case measure=>simp [intOf]
   ·have hb:=di_beq_false hd
    have HD:=Lib.hid hd
    clear hd
    go_wp2
    go_ret
    exact ⟨_,rfl,trim_fin h hk HZ.out (.inr (by simpa using HD.out)),rfl⟩
theorem dig_one (w:World) (z:Int) (hd:z < 4294967296) (h0:0 < z):DigM (w.alloc (.cells #[.int .u32 z] 50)) (.slice (some ⟨w.heap.size,0,none⟩) 1 1) (digs z.toNat):=by
 obtain ⟨d,rfl⟩:=Int.eq_ofNat_of_zero_le (Int.le_of_lt h0)
 rw [Int.toNat_natCast,digs_one (by omega) (by unfold B32;omega)]
 have:=DigB.dig (DigB.new w [d]) (by simp [okD,B32];omega) (c:=1) (by simp) (by simp [maxLen])
 simpa [uc] using this
theorem dig_two (w:World) (z:Int) (h:4294967296≤z) (h2:z≤18446744073709551615):
 DigM (w.alloc (.cells #[.int .u32 (z % 4294967296),.int .u32 (z / 4294967296)] 50)) (.slice (some ⟨w.heap.size,0,none⟩) 2 2) (digs z.toNat):=by
 obtain ⟨n,rfl⟩:=Int.eq_ofNat_of_zero_le (show 0≤z by omega)
 rw [Int.toNat_natCast,digs_two (by unfold B32;omega) (by unfold B32;omega)]
 have:=DigB.dig (DigB.new w [n % B32,n / B32]) (by simp [okD,B32];omega) (c:=2) (by simp) (by simp [maxLen])
 simpa [uc,B32] using this
theorem fromWord_any (z:Int) (w:World) (hz:0≤z) (hn:z≤18446744073709551615):
 Calls Try.prog 95 #[.int .u64 z] w fun e w'=>∃v',e= .returned v'∧DigM w' v' (digs z.toNat)∧Below w.heap.size w w':=by
 rcases Int.lt_or_eq_of_le hz with h0 | h0
 ·rcases Int.lt_or_le z 4294967296 with h1 | h1
  ·go_enter Try.func95,Try.ntmps95
   go_wp2
   go_ret
   exact ⟨_,rfl,dig_one w z h1 h0,(Below.refl _ _).alloc (Nat.le_refl _) _⟩
  ·go_enter Try.func95,Try.ntmps95
   go_wp2
   go_ret
   exact ⟨_,rfl,dig_two w z h1 hn,(Below.refl _ _).alloc (Nat.le_refl _) _⟩
 ·subst h0
  go_enter Try.func95,Try.ntmps95
  go_wp2
  go_ret
  exact ⟨_,rfl,by simp only [Int.toNat_zero,digs_zero];exact DigM.nil _ _ _ (by simp),Below.refl _ _⟩
theorem below_drewN' (w:World) (n:Nat):Below w.heap.size w (w.drewN n):=⟨rfl,rfl,rfl,Nat.le_refl _,fun _ _=>rfl⟩
theorem u64_in (x:Int) (h0:0≤x) (h1:x≤18446744073709551615):IntKind.u64.wrap x=x:=by
 simp only [IntKind.wrap,IntKind.bits,IntKind.signed];simp;omega
theorem ret_int {k:IntKind} {a b:Int} (h:a=b):Ending.returned (.int k a)= .returned (.int k b):=by rw [h]
theorem cmp_all {a b l:Nat} {z:Int} (h1:(digs a).length=l) (h2:(digs b).length=l) (h3: -1≤z) (h4:z < 0) (h:∀i:Nat,z < i→dg (digs a) i=dg (digs b) i):0=cmpN a b:=by
 rw [cmpN_eq]
 exact digs_inj (val_eq_of_all (by omega) (fun j=>h j (by omega)))
theorem cmp_less {a b l j:Nat} (h1:(digs a).length=l) (h2:(digs b).length=l) (h:∀i:Nat,(j:Int) < i→dg (digs a) i=dg (digs b) i) (g:dg (digs a) j < dg (digs b) j):cmpN a b= -1:=by
 refine cmpN_lt ?_
 have:=val_lt_of_top (okD_digs a) (by omega) (fun i hi=>h i (by omega)) g
 rwa [val_digs,val_digs] at this
theorem cmp_more {a b l j:Nat} (h1:(digs a).length=l) (h2:(digs b).length=l) (h:∀i:Nat,(j:Int) < i→dg (digs a) i=dg (digs b) i) (g:dg (digs b) j < dg (digs a) j):cmpN a b=1:=by
 refine cmpN_gt ?_
 have:=val_lt_of_top (okD_digs b) (by omega) (fun i hi=>(h i (by omega)).symm) g
 rwa [val_digs,val_digs] at this
theorem compareMag_any (v1 v2:Value) (a b:Nat) (w:World) (h1:DigM w v1 (digs a)) (h2:DigM w v2 (digs b)):
 Calls Try.prog 79 #[v1,v2] w fun e w'=>e= .returned (.int .i64 (cmpN a b))∧Below w.heap.size w w':=by
 obtain ⟨A,l,c,rfl⟩:=h1.shape
 obtain ⟨hl,hl',hnc,hc⟩:=h1.len
 obtain ⟨A2,l2,c2,rfl⟩:=h2.shape
 obtain ⟨kl,kl',knc,kc⟩:=h2.len
 rcases Nat.lt_trichotomy l l2 with hlt | heq | hgt
 ·have e:cmpN a b= -1:=cmpN_lt (lt_of_len (by omega))
  rw [e]
  go_enter Try.func79,Try.ntmps79
  go_wp2
  go_ret
  exact ⟨rfl,Below.refl _ _⟩
 ·subst heq
  go_enter Try.func79,Try.ntmps79
  go_wp2
  go_loopw [5] (fun x wr=>∃(z:Int) (q:Nat),-1≤z∧z < l∧x= .int .i64 z∧wr=w.drewN q∧∀i:Nat,z < i→dg (digs a) i=dg (digs b) i) (fun x _=>(intOf x+1).toNat)
  case atStart=>exact ⟨(l:Int) - 1,0,by omega,by omega,rfl,rfl,fun i hi=>by rw [dg_ge (by omega),dg_ge (by omega)]⟩
  case round=>
   obtain ⟨z,q,hk0,hk,rfl,rfl,hz⟩:=hrel
   have HZ:=Lib.hid hz
   clear hz
   rcases Int.lt_or_le z 0 with h0 | h0
   ·go_wp2
    go_ret
    exact ⟨ret_int (cmp_all (l:=l) (by omega) (by omega) hk0 h0 HZ.out),below_drewN' _ _⟩
   ·obtain ⟨j,rfl⟩:=Int.eq_ofNat_of_zero_le h0
    obtain ⟨b1,off1,rfl,_,hcell1⟩:=h1.at_ (by omega)
    obtain ⟨b2,off2,rfl,_,hcell2⟩:=h2.at_ (by omega)
    have hc1:=hcell1 j (by omega)
    have hc2:=hcell2 j (by omega)
    clear hcell1 hcell2
    rcases Nat.lt_trichotomy (dg (digs a) j) (dg (digs b) j) with g | g | g
    ·have t1:(di (digs a) j !=di (digs b) j)=true:=by simp [di];omega
     have t2:decide (di (digs a) j < di (digs b) j)=true:=by simp [di];omega
     have HG:=Lib.hid g
     clear g
     go_wp2
     go_quiet (fail)
     go_wp2
     go_quiet (fail)
     go_wp2
     go_ret
     exact ⟨ret_int (cmp_less (l:=l) (by omega) (by omega) HZ.out HG.out).symm,by simp only [World.drewN_drewN];exact below_drewN' _ _⟩
    ·have t1:(di (digs a) j !=di (digs b) j)=false:=by simp [di];omega
     have HG:=Lib.hid g
     clear g
     go_wp2
     go_quiet (fail)
     go_wp2
     go_roundw
     case rel=>exact ⟨(j:Int) - 1,q+nq,by omega,by omega,rfl,rfl,fun i hi=>by
      rcases Nat.eq_or_lt_of_le (show j≤i by omega) with e | e
      ·exact e▸HG.out
      ·exact HZ.out i (by omega)⟩
     case measure=>simp [intOf]
    ·have t1:(di (digs a) j !=di (digs b) j)=true:=by simp [di];omega
     have t2:decide (di (digs a) j < di (digs b) j)=false:=by simp [di];omega
     have HG:=Lib.hid g
     clear g
     go_wp2
     go_quiet (fail)
     go_wp2
     go_quiet (fail)
     go_wp2
     go_ret
     exact ⟨ret_int (cmp_more (l:=l) (by omega) (by omega) HZ.out HG.out).symm,by simp only [World.drewN_drewN];exact below_drewN' _ _⟩
 ·have e:cmpN a b=1:=cmpN_gt (lt_of_len (by omega))
  rw [e]
  go_enter Try.func79,Try.ntmps79
  go_wp2
  go_ret
  exact ⟨rfl,Below.refl _ _⟩
theorem dig_in {w wr:World} {B b off n:Nat} {ds:List Nat} (hb:Below B w wr) (hlt:b < B) (h:∀k,k < n→w.cell? ⟨b,off+k,none⟩=some (.int .u32 (di ds k))) {k:Nat} (hk:k < n):
 wr.cell? ⟨b,off+k,none⟩=some (.int .u32 (di ds k)):=(hb.cell (p:=⟨b,off+k,none⟩) hlt).trans (h k hk)
namespace Pl
theorem ring_set {V1 V2 o p b x d:Nat} (h:V1+o * p=V2+d * p):x+b * V1+o * (p * b)=x+b * V2+d * (p * b):=by
 have h1:b * (V1+o * p)=b * (V2+d * p):=by rw [h]
 rw [Nat.mul_add,Nat.mul_add] at h1
 have e1:o * (p * b)=b * (o * p):=by rw [← Nat.mul_assoc,Nat.mul_comm]
 have e2:d * (p * b)=b * (d * p):=by rw [← Nat.mul_assoc,Nat.mul_comm]
 omega
theorem val_set {ds:List Nat} {i:Nat} {z:Int} (h:i < ds.length) (hz:0≤z):((val (ds.set i z.toNat):Nat):Int)=val ds+(z - di ds i) * ((B32^i:Nat):Int):=by
 have e:∀(l:List Nat) (i d:Nat),i < l.length→val (l.set i d)+dg l i * B32^i=val l+d * B32^i:=by
  intro l
  induction l with
  | nil=>intro i d h;simp at h
  | cons x l ih=>
   intro i d h
   cases i with
   | zero=>simp [val,dg];omega
   | succ i=>
    have:=ih i d (by simpa using h)
    have e1:dg (x::l) (i+1)=dg l i:=by simp [dg]
    rw [List.set_cons_succ,e1]
    simp only [val,Nat.pow_succ]
    generalize B32^i=p at *
    generalize B32=b at *
    generalize val (l.set i d)=V1 at *
    generalize val l=V2 at *
    generalize dg l i=o at *
    exact ring_set this
 have h1:=e ds i z.toNat h
 have h2:((val (ds.set i z.toNat):Nat):Int)+di ds i * ((B32^i:Nat):Int)=val ds+z * ((B32^i:Nat):Int):=by
  have:=congrArg (fun n:Nat=>(n:Int)) h1
  simp only [Int.natCast_add,Int.natCast_mul,Int.toNat_of_nonneg hz] at this
  exact this
 rw [Int.sub_mul]
 omega
theorem ring_mul (V V0 o r z q d f p pk pj yj:Int) (h:V+z * p=V0+d * pk * yj) (e:z+(d * f+o)=r+4294967296 * q) (hp:p=pk * pj):V+(r - o) * p+q * (p * 4294967296)=V0+d * pk * (yj+f * pj):=by
 subst hp;grind
theorem mul_step {O ys:List Nat} {k j:Nat} {z d r q V0:Int} (hk:k+j < O.length) (hr:0≤r) (e:z+(d * di ys j+di O (k+j))=r+4294967296 * q)
 (h:(val O:Int)+z * ((B32^(k+j):Nat):Int)=V0+d * ((B32^k:Nat):Int) * vt ys j):
 (val (O.set (k+j) r.toNat):Int)+q * ((B32^(k+(j+1)):Nat):Int)=V0+d * ((B32^k:Nat):Int) * vt ys (j+1):=by
 rw [val_set hk hr,← Nat.add_assoc,pow_cast_succ,vt_cast_succ]
 exact ring_mul _ _ _ _ _ _ _ _ _ _ _ _ h e (by rw [Nat.pow_add,Int.natCast_mul])
theorem mul_carry {O ys:List Nat} {k:Nat} {z d V0:Int} (hk:k+ys.length < O.length) (hz:0≤z) (h0:dg O (k+ys.length)=0)
 (h:(val O:Int)+z * ((B32^(k+ys.length):Nat):Int)=V0+d * ((B32^k:Nat):Int) * vt ys ys.length):
 (val (O.set (k+ys.length) z.toNat):Int)=V0+d * ((B32^k:Nat):Int) * val ys:=by
 rw [val_set hk hz,di_eq,h0,← vt_len ys,← h]
 simp
theorem mul_outer {xs ys:List Nat} {k:Nat} {V V':Int} (h:V=(vt xs k:Int) * val ys) (h':V'=V+di xs k * ((B32^k:Nat):Int) * val ys):V'=(vt xs (k+1):Int) * val ys:=by
 rw [h',h,vt_cast_succ,Int.add_mul]
end Pl
theorem below_drew {w w1:World} (h:Below w.drew.heap.size w.drew w1):Below w.heap.size w w1:=((Below.refl _ w).drew).trans h
theorem mulMag_nil (v1 v2:Value) (xs ys:List Nat) (w:World) (h1:DigM w v1 xs) (h2:DigM w v2 ys) (h0:xs.length=0∨ys.length=0):
 Calls Try.prog 81 #[v1,v2] w fun e w'=>∃v',e= .returned v'∧DigM w' v' (digs (val xs * val ys))∧Below w.heap.size w w':=by
 have e0:val xs * val ys=0:=by
  rcases h0 with h | h
  ·rw [List.length_eq_zero_iff.1 h];simp [val]
  ·rw [List.length_eq_zero_iff.1 h];simp [val]
 rw [e0,digs_zero]
 clear e0
 obtain ⟨A,l,c,rfl⟩:=h1.shape
 obtain ⟨hl,hl',hnc,hc⟩:=h1.len
 obtain ⟨A2,l2,c2,rfl⟩:=h2.shape
 obtain ⟨kl,kl',knc,kc⟩:=h2.len
 rcases Nat.eq_zero_or_pos l with g | g
 ·obtain rfl:l=0:=g
  go_enter Try.func81,Try.ntmps81
  go_wp2
  go_ret
  exact ⟨_,rfl,DigM.nil _ _ _ (by simp),Below.refl _ _⟩
 ·obtain rfl:l2=0:=by omega
  have hb:((l:Int)==0)=false:=by simp;omega
  go_enter Try.func81,Try.ntmps81
  go_wp2
  go_ret
  exact ⟨_,rfl,DigM.nil _ _ _ (by simp),Below.refl _ _⟩
theorem mulMag_one (v1 v2:Value) (xs ys:List Nat) (w:World) (h1:DigM w v1 xs) (h2:DigM w v2 ys) (g1:xs.length=1) (g2:ys.length=1):
 Calls Try.prog 81 #[v1,v2] w fun e w'=>∃v',e= .returned v'∧DigM w' v' (digs (val xs * val ys))∧Below w.heap.size w w':=by
 obtain ⟨x,rfl⟩:=List.length_eq_one_iff.1 g1
 obtain ⟨y,rfl⟩:=List.length_eq_one_iff.1 g2
 obtain ⟨A,l,c,rfl⟩:=h1.shape
 obtain ⟨hl,hl',hnc,hc⟩:=h1.len
 obtain ⟨A2,l2,c2,rfl⟩:=h2.shape
 obtain ⟨kl,kl',knc,kc⟩:=h2.len
 obtain rfl:l=1:=by simp at hl hl';omega
 obtain rfl:l2=1:=by simp at kl kl';omega
 obtain ⟨b1,off1,rfl,hb1,hcell1⟩:=h1.at_ (by omega)
 obtain ⟨b2,off2,rfl,hb2,hcell2⟩:=h2.at_ (by omega)
 have hx:=hcell1 0 (by omega)
 have hy:=hcell2 0 (by omega)
 rw [Nat.add_zero] at hx hy
 have x0:=di_nonneg [x] 0
 have x1:=di_le h1.ok 0
 have y0:=di_nonneg [y] 0
 have y1:=di_le h2.ok 0
 have hv:val [x] * val [y]=(di [x] 0 * di [y] 0).toNat:=by
  have:di [x] 0 * di [y] 0=((x * y:Nat):Int):=by simp [di,dg]
  rw [this,Int.toNat_natCast];simp [val]
 rw [hv]
 clear hcell1 hcell2 hl hl' kl kl' h1 h2 hv
 generalize di [x] 0=p at *
 generalize di [y] 0=q at *
 have p0:0≤p * q:=Int.mul_nonneg x0 y0
 have p1:p * q≤4294967295 * 4294967295:=Int.mul_le_mul x1 y1 y0 (by omega)
 have r1:IntKind.u64.wrap p=p:=u64_in p x0 (by omega)
 have r2:IntKind.u64.wrap q=q:=u64_in q y0 (by omega)
 have r3:IntKind.u64.wrap (p * q)=p * q:=u64_in _ p0 (by omega)
 go_enter Try.func81,Try.ntmps81
 go_wp2
 go_region_held3 (fun w'=>w'.cell? ⟨b1,off1,none⟩=some (.int .u32 p)∧w'.cell? ⟨b2,off2,none⟩=some (.int .u32 q)) (first | exact ⟨hx,hy⟩ | exact ⟨cell_later hbb hx,cell_later hbb hy⟩)
  (first | (go_at_call 95;refine (fromWord_any (p * q) _ p0 (by omega)).mono ?_;rintro e w1 ⟨v',rfl,hv',hbb⟩))
 go_wp2
 go_ret
 exact ⟨_,rfl,hv',below_drew hbb⟩
theorem mul_fin {O xs ys:List Nat} {k:Nat} (hk:xs.length≤k) (h:(val O:Int)=(vt xs k:Int) * val ys):val O=val xs * val ys:=by
 rw [vt_ge hk,← Int.natCast_mul] at h
 omega
theorem mul_carry' {O ys:List Nat} {k j:Nat} {z d V0:Int} (hj:ys.length=j) (hk:k+j < O.length) (hz:0≤z) (h0:dg O (k+j)=0)
 (h:(val O:Int)+z * ((B32^(k+j):Nat):Int)=V0+d * ((B32^k:Nat):Int) * vt ys j):(val (O.set (k+j) z.toNat):Int)=V0+d * ((B32^k:Nat):Int) * val ys:=by
 subst hj;exact mul_carry hk hz h0 h
theorem mulMag_gen (v1 v2:Value) (xs ys:List Nat) (w:World) (h1:DigM w v1 xs) (h2:DigM w v2 ys) (g1:0 < xs.length) (g2:0 < ys.length) (g:2 < xs.length+ys.length) (hs:xs.length+ys.length≤1099511627776):
 Calls Try.prog 81 #[v1,v2] w fun e w'=>∃v',e= .returned v'∧DigM w' v' (digs (val xs * val ys))∧Below w.heap.size w w':=by
 obtain ⟨A,l,c,rfl⟩:=h1.shape
 obtain ⟨hl,hl',hnc,hc⟩:=h1.len
 obtain ⟨A2,l2,c2,rfl⟩:=h2.shape
 obtain ⟨kl,kl',knc,kc⟩:=h2.len
 obtain ⟨b1,off1,rfl,hb1,hcell1⟩:=h1.at_ (by omega)
 obtain ⟨b2,off2,rfl,hb2,hcell2⟩:=h2.at_ (by omega)
 have ok1:=h1.ok
 have ok2:=h2.ok
 have HC1:=Lib.hid hcell1
 have HC2:=Lib.hid hcell2
 clear hcell1 hcell2 h1 h2
 have hmk:=make_u32 (l+l2) (by omega)
 push_cast at hmk
 have t1:((l:Int)==0)=false:=by simp;omega
 have t2:((l2:Int)==0)=false:=by simp;omega
 have hone:((l:Int)==1)=true∧((l2:Int)==1)=false∨((l:Int)==1)=false:=by
  by_cases h:l=1
  ·left;subst h;simp;omega
  ·right;simp;omega
 rcases hone with ⟨t3,t4⟩ | t3
 all_goals
  go_enter Try.func81,Try.ntmps81
  go_wp2
  clear hmk
  go_loopw [46] (fun i wr=>∃(k:Nat) (O:List Nat),k≤l∧i= .int .i64 k∧l+l2≤O.length∧O.length≤l+l2∧DigB wr w.heap.size O∧okD O∧Below w.heap.size w wr∧
   (val O:Int)=(vt xs k:Int) * val ys∧(∀j,k+l2≤j→dg O j=0)) (fun i _=>l - (intOf i).toNat)
  case atStart=>exact ⟨0,List.replicate (l+l2) 0,by omega,rfl,by simp,by simp,DigB.zeros w _,okD_replicate _,(Below.refl _ _).alloc (Nat.le_refl _) _,by simp [vt_zero,val_replicate],fun j _=>dg_replicate _ _⟩
  case round=>
   obtain ⟨k,O,hk,rfl,hO,hO',hB,ok,hbe,heq,hzz⟩:=hrel
   have HE:=Lib.hid heq
   have HZ:=Lib.hid hzz
   clear heq hzz
   rcases Nat.lt_or_ge k l with hkl | hkl
   ·have hx:=dig_in hbe hb1 HC1.out hkl
    have x0:=di_nonneg xs k
    have x1:=di_le ok1 k
    by_cases hd:dg xs k=0
    ·have t5:=di_beq_true hd
     have HD:=Lib.hid hd
     clear hd
     go_wp2
     go_roundw
     case rel=>exact ⟨k+1,O,by omega,by go_num,hO,hO',hB,ok,hbe,mul_outer HE.out (by rw [di_eq,HD.out];simp),fun j hj=>HZ.out j (by omega)⟩
     case measure=>simp [intOf];omega
    ·have t5:=di_beq_false hd
     clear hd
     obtain ⟨wo,hwo⟩:∃wo:World,wo=wr:=⟨_,rfl⟩
     subst hwo
     go_wp2
     go_loopw [8,68] (fun cy i wr=>∃(j:Nat) (O':List Nat) (z:Int),j≤l2∧i= .int .i64 j∧cy= .int .u64 z∧0≤z∧z≤4294967295∧l+l2≤O'.length∧O'.length≤l+l2∧DigB wr w.heap.size O'∧okD O'∧Below w.heap.size w wr∧
      (val O':Int)+z * ((B32^(k+j):Nat):Int)=(val O:Int)+di xs k * ((B32^k:Nat):Int) * vt ys j∧(∀i,k+l2≤i→dg O' i=0)) (fun _ i _=>l2 - (intOf i).toNat)
     case atStart=>exact ⟨0,O,0,by omega,rfl,rfl,by omega,by omega,hO,hO',hB,ok,hbe,by simp [vt_zero],HZ.out⟩
     case round=>
      clear hx hbe hB
      obtain ⟨j,O',z,hj,rfl,rfl,z0,z1,hP,hP',hB',okP,hbe',heq',hzz'⟩:=hrel
      have HE':=Lib.hid heq'
      have HZ':=Lib.hid hzz'
      clear heq' hzz'
      rcases Nat.lt_or_ge j l2 with hjl | hjl
      ·have hy:=dig_in hbe' hb2 HC2.out hjl
       have y0:=di_nonneg ys j
       have y1:=di_le ok2 j
       have p0:0≤di xs k * di ys j:=Int.mul_nonneg x0 y0
       have p1:di xs k * di ys j≤4294967295 * 4294967295:=Int.mul_le_mul x1 y1 y0 (by omega)
       have ho:=hB'.cell (k:=k+j) (by omega)
       have hf:=hB'.frozen (k+j)
       have o0:=di_nonneg O' (k+j)
       have o1:=di_le okP (k+j)
       go_wp2
       go_roundw
       case rel=>exact ⟨j+1,O'.set (k+j) ((z+(di xs k * di ys j+di O' (k+j))) % 4294967296).toNat,_,by omega,by go_num,rfl,by omega,by omega,by simpa using hP,by simpa using hP',hB'.setI _ (by omega),okD_set okP _ (by unfold B32;omega),hbe'.setCell (Nat.le_refl _) _,mul_step (by omega) (by omega) (by omega) HE'.out,fun i hi=>by rw [dg_set_ne (by omega)];exact HZ'.out i hi⟩
       case measure=>simp [intOf];omega
      ·obtain rfl:j=l2:=by omega
       have ho:=hB'.cell (k:=k+j) (by omega)
       have hf:=hB'.frozen (k+j)
       go_wp2
       go_roundw
       case rel=>exact ⟨k+1,O'.set (k+j) z.toNat,by omega,by go_num,by simpa using hP,by simpa using hP',hB'.setI _ (by omega),okD_set okP _ (by unfold B32;omega),hbe'.setCell (Nat.le_refl _) _,mul_outer HE.out (mul_carry' (by omega) (by omega) z0 (HZ'.out _ (Nat.le_refl _)) HE'.out),fun i hi=>by rw [dg_set_ne (by omega)];exact HZ'.out i (by omega)⟩
       case measure=>simp [intOf];omega
   ·obtain rfl:k=l:=by omega
    go_wp2_with fail
    refine (trim_any _ O _ ?_).mono ?_
    ·have:=hB.dig ok (c:=k+l2) hO' (by unfold maxLen;omega)
     rwa [show O.length=k+l2 from by omega] at this
    rintro e w1 ⟨v',rfl,hv,rfl⟩
    go_wp2_with fail
    go_ret
    refine ⟨_,rfl,?_,hbe⟩
    rwa [mul_fin (by omega) HE.out] at hv
theorem mulMag_any (v1 v2:Value) (xs ys:List Nat) (w:World) (h1:DigM w v1 xs) (h2:DigM w v2 ys) (hs:xs.length+ys.length≤1099511627776):
 Calls Try.prog 81 #[v1,v2] w fun e w'=>∃v',e= .returned v'∧DigM w' v' (digs (val xs * val ys))∧Below w.heap.size w w':=by
 by_cases h:xs.length=0∨ys.length=0
 ·exact mulMag_nil v1 v2 xs ys w h1 h2 h
 ·by_cases g:xs.length=1∧ys.length=1
  ·exact mulMag_one v1 v2 xs ys w h1 h2 g.1 g.2
  ·exact mulMag_gen v1 v2 xs ys w h1 h2 (by omega) (by omega) (by omega) hs
namespace Pl
def bl (n:Nat):Nat:=if n=0 then 0 else n.log2+1
theorem bl_zero:bl 0=0:=rfl
theorem bl_lt (n:Nat):n < 2^bl n:=by
 unfold bl
 split
 ·subst_vars;decide
 ·rename_i h;exact (Nat.log2_lt h).1 (Nat.lt_succ_self _)
theorem bl_le {n:Nat} (h:n≠0):0 < bl n∧2^(bl n - 1)≤n:=by
 unfold bl
 rw [if_neg h]
 exact ⟨by omega,by simpa using (Nat.le_log2 h).1 (Nat.le_refl _)⟩
theorem bl_unique {n k:Nat} (h:n < 2^k) (h2:k=0∨2^(k - 1)≤n):bl n=k:=by
 rcases Nat.eq_zero_or_pos n with h0 | h0
 ·subst h0
  rcases h2 with rfl | h2
  ·rfl
  ·have:=Nat.pow_pos (n:=k - 1) (show 0 < 2 by decide);omega
 ·have h1:n≠0:=by omega
  have hk:k≠0:=by rintro rfl;simp at h;omega
  rcases h2 with h2 | h2
  ·exact absurd h2 hk
  ·have a:=(Nat.log2_lt h1).2 h
   have b:=(Nat.le_log2 h1).2 h2
   unfold bl
   rw [if_neg h1]
   omega
theorem bl_half {n:Nat} (h:n≠0):bl n=bl (n / 2)+1:=by
 have h1:=bl_lt (n / 2)
 have e:2^(bl (n / 2)+1)=2 * 2^bl (n / 2):=by rw [Nat.pow_succ,Nat.mul_comm]
 apply bl_unique
 ·omega
 ·right
  rw [Nat.add_sub_cancel]
  rcases Nat.eq_zero_or_pos (n / 2) with h0 | h0
  ·rw [h0,bl_zero];omega
  ·obtain ⟨p,q⟩:=bl_le (n:=n / 2) (by omega)
   have e2:2^bl (n / 2)=2 * 2^(bl (n / 2) - 1):=by
    rw [show bl (n / 2)=(bl (n / 2) - 1)+1 by omega,Nat.pow_succ,Nat.mul_comm,Nat.add_sub_cancel]
   omega
theorem B32_pow (k:Nat):B32^k=2^(32 * k):=by rw [Nat.pow_mul];rfl
theorem bl_high {a r k:Nat} (ha:a≠0) (hr:r < 2^k):bl (r+a * 2^k)=k+bl a:=by
 apply bl_unique
 ·rw [Nat.pow_add]
  have h:(a+1) * 2^k≤2^bl a * 2^k:=Nat.mul_le_mul_right _ (bl_lt a)
  rw [Nat.add_mul,Nat.one_mul] at h
  rw [Nat.mul_comm (2^k)]
  omega
 ·right
  obtain ⟨p,q⟩:=bl_le ha
  rw [show k+bl a - 1=(bl a - 1)+k by omega,Nat.pow_add]
  have:=Nat.mul_le_mul_right (2^k) q
  omega
theorem bl_digs {n l:Nat} (hl:(digs n).length=l+1):bl n=32 * l+bl (dg (digs n) l):=by
 have hv:n=vt (digs n) (l+1):=by rw [vt_ge (by omega),val_digs]
 have h0:dg (digs n) l≠0:=by
  have hp:0 < n:=by
   rcases Nat.eq_zero_or_pos n with h | h
   ·subst h;rw [digs_zero] at hl;simp at hl
   ·exact h
  have:=dg_digs_last hp
  rwa [hl,Nat.add_sub_cancel] at this
 have hr:=vt_lt (okD_digs n) l
 rw [vt_succ'] at hv
 rw [B32_pow] at hv hr
 have:=bl_high h0 hr
 rw [← hv] at this
 exact this
theorem bl_mono {a b:Nat} (h:a≤b):bl a≤bl b:=by
 rcases Nat.lt_or_ge (bl b) (bl a) with hlt | hge
 ·exfalso
  have ha:a≠0:=by rintro rfl;simp [bl] at hlt
  obtain ⟨p,q⟩:=bl_le ha
  have h1:=bl_lt b
  have h2:2^bl b≤2^(bl a - 1):=Nat.pow_le_pow_right (by decide) (by omega)
  omega
 ·exact hge
theorem bl_len {n:Nat}:bl n≤32 * (digs n).length:=by
 rcases Nat.lt_or_ge (32 * (digs n).length) (bl n) with h | h
 ·exfalso
  have hn:n≠0:=by rintro rfl;simp [bl] at h
  obtain ⟨p,q⟩:=bl_le hn
  have h1:=digs_lt_pow n
  rw [B32_pow] at h1
  have h2:2^(32 * (digs n).length)≤2^(bl n - 1):=Nat.pow_le_pow_right (by decide) (by omega)
  omega
 ·exact h
theorem bl_sub_lt {a b:Nat} (h:bl a < bl b):a < b:=by
 rcases Nat.lt_or_ge a b with g | g
 ·exact g
 ·have:=bl_mono g;omega
theorem bl_start {a b:Nat} (h:bl b≤bl a) (hb:b≠0):a < b * 2^(bl a - bl b+1):=by
 obtain ⟨p,q⟩:=bl_le hb
 have h1:=bl_lt a
 have h2:=Nat.mul_le_mul_right (2^(bl a - bl b+1)) q
 rw [← Nat.pow_add,show bl b - 1+(bl a - bl b+1)=bl a by omega] at h2
 omega
theorem or_bit {a s:Nat} (h:2^(s+1)∣a):a ||| 2^s=a+2^s:=by
 obtain ⟨m,rfl⟩:=h
 have:=Nat.shiftLeft_add_eq_or_of_lt (i:=s+1) (b:=2^s) (by rw [Nat.pow_succ];have:=Nat.pow_pos (n:=s) (show 0 < 2 by decide);omega) m
 rw [Nat.shiftLeft_eq,Nat.mul_comm m] at this
 exact this.symm
theorem dg_bits {Q:List Nat} {i:Nat} (ok:okD Q) (h:2^(i+1)∣val Q):2^(i % 32+1)∣dg Q (i / 32):=by
 have hs:=val_split Q (i / 32)
 have hl:=vt_lt ok (i / 32)
 have hd:=dg_lt ok (i / 32)
 rw [B32_pow] at hs hl
 have hi:i+1=32 * (i / 32)+(i % 32+1):=by omega
 rw [hi,Nat.pow_add] at h
 have hB:2^(i % 32+1)∣B32:=⟨2^(32 - (i % 32+1)),by rw [← Nat.pow_add,show i % 32+1+(32 - (i % 32+1))=32 by omega];rfl⟩
 generalize val (Q.drop (i / 32+1))=H at *
 have h0:vt Q (i / 32)=0:=by
  have a:2^(32 * (i / 32))∣val Q:=Nat.dvd_trans (Nat.dvd_mul_right _ _) h
  have b:2^(32 * (i / 32))∣vt Q (i / 32):=by
   rw [hs] at a
   exact (Nat.dvd_add_left (Nat.dvd_mul_right _ _)).1 a
  exact Nat.eq_zero_of_dvd_of_lt b hl
 rw [h0,Nat.zero_add] at hs
 rw [hs] at h
 have h3:=Nat.dvd_of_mul_dvd_mul_left (Nat.pow_pos (by decide)) h
 exact (Nat.dvd_add_left (Nat.dvd_trans hB (Nat.dvd_mul_right _ _))).1 h3
theorem val_bit {Q:List Nat} {i:Nat} (hi:i / 32 < Q.length):val (Q.set (i / 32) (dg Q (i / 32)+2^(i % 32)))=val Q+2^i:=by
 have h:=val_set (ds:=Q) (i:=i / 32) (z:=((dg Q (i / 32)+2^(i % 32):Nat):Int)) hi (Int.natCast_nonneg _)
 rw [Int.toNat_natCast] at h
 have e:2^i=2^(i % 32) * B32^(i / 32):=by
  rw [B32_pow,← Nat.pow_add,show i % 32+32 * (i / 32)=i by omega]
 rw [e]
 have e2:((dg Q (i / 32)+2^(i % 32):Nat):Int) - di Q (i / 32)=((2^(i % 32):Nat):Int):=by unfold di;omega
 rw [e2,← Int.natCast_mul] at h
 omega
theorem bit_fits {d s:Nat} (hs:s < 32) (hd:d < B32) (h:2^(s+1)∣d):d+2^s < B32:=by
 obtain ⟨m,rfl⟩:=h
 have hB:B32=2^(s+1) * 2^(32 - (s+1)):=by rw [← Nat.pow_add,show s+1+(32 - (s+1))=32 by omega];rfl
 rw [hB] at hd ⊢
 have hm:=Nat.lt_of_mul_lt_mul_left hd
 have h2:2^(s+1) * (m+1)≤2^(s+1) * 2^(32 - (s+1)):=Nat.mul_le_mul_left _ hm
 have h3:2^s < 2^(s+1):=Nat.pow_lt_pow_right (by decide) (by omega)
 rw [Nat.mul_add] at h2
 omega
theorem bit_step {X b Q R j:Nat} (hX:X=Q * b+R) (hR:R < b * 2^(j+1)) (hle:b * 2^j≤R) (hd:2^(j+1)∣Q):X=(Q+2^j) * b+(R - b * 2^j)∧R - b * 2^j < b * 2^j∧2^j∣Q+2^j:=by
 rw [Nat.pow_succ,← Nat.mul_assoc] at hR
 refine ⟨?_,by omega,Nat.dvd_add (Nat.dvd_trans ⟨2,by rw [Nat.pow_succ]⟩ hd) (Nat.dvd_refl _)⟩
 rw [Nat.add_mul,Nat.mul_comm (2^j) b]
 omega
theorem bit_skip {Q j:Nat} (hd:2^(j+1)∣Q):2^j∣Q:=Nat.dvd_trans ⟨2,by rw [Nat.pow_succ]⟩ hd
theorem half_pow (b j:Nat):b * 2^(j+1) / 2=b * 2^j:=by rw [Nat.pow_succ,← Nat.mul_assoc,Nat.mul_div_cancel _ (by decide)]
theorem bit_end {X b Q R:Nat} (hX:X=Q * b+R) (hR:R < b):Q=X / b∧R=X % b:=by
 have h:X / b=Q∧X % b=R:=by
  rw [hX,Nat.mul_comm,Nat.mul_add_div (by omega),Nat.div_eq_of_lt hR,Nat.mul_add_mod,Nat.mod_eq_of_lt hR]
  exact ⟨rfl,rfl⟩
 exact ⟨h.1.symm,h.2.symm⟩
theorem rshl_step {S xs:List Nat} {k q s:Nat} {hi lo:Int} (hk:k+q+1 < S.length) (h0:dg S (k+q+1)=0) (hlo:0≤lo) (hhi:0≤hi) (e:di xs k * 2^s=lo+4294967296 * hi)
 (h:(val S:Int)=vt xs k * 2^(32 * q+s)):
 ((val ((S.set (k+q) (di S (k+q)+lo).toNat).set (k+q+1) hi.toNat):Nat):Int)=vt xs (k+1) * 2^(32 * q+s):=by
 have hd:=di_nonneg S (k+q)
 rw [val_set (by simpa using hk) hhi,val_set (by omega) (by omega),di_eq (S.set _ _),dg_set_ne (by omega),h0,vt_cast_succ,pow_cast_succ,h]
 have e1:((B32^(k+q):Nat):Int)=((B32^k:Nat):Int) * 2^(32 * q):=by
  rw [Nat.pow_add,B32_pow q,Int.natCast_mul,Int.natCast_pow 2];rfl
 rw [e1,Int.pow_add]
 generalize ((B32^k:Nat):Int)=P at *
 generalize (2:Int)^(32 * q)=T at *
 generalize (2:Int)^s=U at *
 generalize (vt xs k:Int)=V at *
 generalize di S (k+q)=D at *
 generalize di xs k=x at *
 simp only [Int.natCast_zero,Int.sub_zero]
 grind
theorem half_fin {O xs:List Nat} {k:Nat} (hx:xs.length≤k) (hO:O.length≤k) (h:2 * (vt O k:Int)+di xs 0 % 2=(vt xs k:Int)+(di xs k % 2) * ((B32^k:Nat):Int)):val O=val xs / 2:=by
 rw [vt_ge hx,vt_ge hO,di_eq xs k,dg_ge hx] at h
 have e2:di xs 0 % 2=((dg xs 0 % 2:Nat):Int):=by rw [Int.natCast_emod];rfl
 rw [e2] at h
 have:((0:Nat):Int) % 2 * ((B32^k:Nat):Int)=0:=by simp
 omega
end Pl
end Go.Proofs.Ytgdcbjligbnpgaa
