/- Contracts and plain facts that the claim is built on, joined out of smaller texts; no condition. -/
import Derived.Deep.RegionHeld3
import Derived.Deep.DrawnRows
import Derived.Test.YtncmobkhenfhpaaGreatB1
set_option linter.unusedVariables false
set_option linter.unusedSimpArgs false
set_option maxRecDepth 100000
set_option maxHeartbeats 40000000
namespace Go.Proofs.YtncmobkhenfhpaaGreat
open Go.RowKit
open Pl
attribute [local go_sem ↓] Go.wp_at_zero Go.wp_at_succ
namespace Pl
theorem ring_set {V1 V2 o p b x d:Nat} (h:V1+o * p=V2+d * p):x+b * V1+o * (p * b)=x+b * V2+d * (p * b):=by
 have h1:b * (V1+o * p)=b * (V2+d * p):=by rw [h]
 rw [Nat.mul_add,Nat.mul_add] at h1
 have e1:o * (p * b)=b * (o * p):=by rw [← Nat.mul_assoc,Nat.mul_comm]
 have e2:d * (p * b)=b * (d * p):=by rw [← Nat.mul_assoc,Nat.mul_comm]
 omega
theorem val_set {ds:List Nat} {i:Nat} {z:Int} (h:i < ds.length) (hz:0≤z):((val (ds.set i z.toNat):Nat):Int)=val ds+(z - di ds i) * ((B32^i:Nat):Int):=by
 have e:∀(l:List Nat) (i d:Nat),i < l.length→val (l.set i d)+dg l i * B32^i=val l+d * B32^i:=by
  intro l
  induction l with
  | nil=>intro i d h;simp at h
  | cons x l ih=>
   intro i d h
   cases i with
   | zero=>simp [val,dg];omega
   | succ i=>
    have:=ih i d (by simpa using h)
    have e1:dg (x::l) (i+1)=dg l i:=by simp [dg]
    rw [List.set_cons_succ,e1]
    simp only [val,Nat.pow_succ]
    generalize B32^i=p at *
    generalize B32=b at *
    generalize val (l.set i d)=V1 at *
    generalize val l=V2 at *
    generalize dg l i=o at *
    exact ring_set this
 have h1:=e ds i z.toNat h
 have h2:((val (ds.set i z.toNat):Nat):Int)+di ds i * ((B32^i:Nat):Int)=val ds+z * ((B32^i:Nat):Int):=by
  have:=congrArg (fun n:Nat=>(n:Int)) h1
  simp only [Int.natCast_add,Int.natCast_mul,Int.toNat_of_nonneg hz] at this
  exact this
 rw [Int.sub_mul]
 omega
theorem ring_mul (V V0 o r z q d f p pk pj yj:Int) (h:V+z * p=V0+d * pk * yj) (e:z+(d * f+o)=r+4294967296 * q) (hp:p=pk * pj):V+(r - o) * p+q * (p * 4294967296)=V0+d * pk * (yj+f * pj):=by
 subst hp;grind
theorem mul_step {O ys:List Nat} {k j:Nat} {z d r q V0:Int} (hk:k+j < O.length) (hr:0≤r) (e:z+(d * di ys j+di O (k+j))=r+4294967296 * q)
 (h:(val O:Int)+z * ((B32^(k+j):Nat):Int)=V0+d * ((B32^k:Nat):Int) * vt ys j):
 (val (O.set (k+j) r.toNat):Int)+q * ((B32^(k+(j+1)):Nat):Int)=V0+d * ((B32^k:Nat):Int) * vt ys (j+1):=by
 rw [val_set hk hr,← Nat.add_assoc,pow_cast_succ,vt_cast_succ]
 exact ring_mul _ _ _ _ _ _ _ _ _ _ _ _ h e (by rw [Nat.pow_add,Int.natCast_mul])
theorem mul_carry {O ys:List Nat} {k:Nat} {z d V0:Int} (hk:k+ys.length < O.length) (hz:0≤z) (h0:dg O (k+ys.length)=0)
 (h:(val O:Int)+z * ((B32^(k+ys.length):Nat):Int)=V0+d * ((B32^k:Nat):Int) * vt ys ys.length):
 (val (O.set (k+ys.length) z.toNat):Int)=V0+d * ((B32^k:Nat):Int) * val ys:=by
 rw [val_set hk hz,di_eq,h0,← vt_len ys,← h]
 simp
theorem mul_outer {xs ys:List Nat} {k:Nat} {V V':Int} (h:V=(vt xs k:Int) * val ys) (h':V'=V+di xs k * ((B32^k:Nat):Int) * val ys):V'=(vt xs (k+1):Int) * val ys:=by
 rw [h',h,vt_cast_succ,Int.add_mul]
theorem val_drop (ds:List Nat) (j:Nat):val (ds.drop j)=dg ds j+B32 * val (ds.drop (j+1)):=by
 rcases Nat.lt_or_ge j ds.length with h | h
 ·rw [List.drop_eq_getElem_cons h]
  have:ds[j]=dg ds j:=by simp [dg,h]
  rw [this];rfl
 ·rw [List.drop_eq_nil_of_le h,List.drop_eq_nil_of_le (by omega),dg_ge h];simp [val]
theorem ring_divw (x V Q r d b q m:Nat) (h:V=d * Q+r) (e:r * b+x=d * q+m):x+b * V=d * (q+b * Q)+m:=by
 subst h
 have e1:b * (d * Q+r)=d * (b * Q)+r * b:=by
  rw [Nat.mul_add,Nat.mul_left_comm,Nat.mul_comm b r]
 rw [e1,Nat.mul_add]
 omega
theorem divw_step {ds Q:List Nat} {j r d:Nat} (hj:j < Q.length) (h:val (ds.drop (j+1))=d * val (Q.drop (j+1))+r):
 val (ds.drop j)=d * val ((Q.set j ((r * B32+dg ds j) / d)).drop j)+(r * B32+dg ds j) % d:=by
 rw [val_drop,val_drop (Q.set j _) j,dg_set_eq hj,List.drop_set_of_lt (by omega)]
 exact ring_divw _ _ _ _ _ _ _ _ h (Nat.div_add_mod _ _).symm
end Pl
theorem below_drew {w w1:World} (h:Below w.drew.heap.size w.drew w1):Below w.heap.size w w1:=((Below.refl _ w).drew).trans h
theorem mulMag_nil (v1 v2:Value) (xs ys:List Nat) (w:World) (h1:DigM w v1 xs) (h2:DigM w v2 ys) (h0:xs.length=0∨ys.length=0):
 Calls Tryz.prog 150 #[v1,v2] w fun e w'=>∃v',e= .returned v'∧DigM w' v' (digs (val xs * val ys))∧Below w.heap.size w w':=by
 have e0:val xs * val ys=0:=by
  rcases h0 with h | h
  ·rw [List.length_eq_zero_iff.1 h];simp [val]
  ·rw [List.length_eq_zero_iff.1 h];simp [val]
 rw [e0,digs_zero]
 clear e0
 obtain ⟨A,l,c,rfl⟩:=h1.shape
 obtain ⟨hl,hl',hnc,hc⟩:=h1.len
 obtain ⟨A2,l2,c2,rfl⟩:=h2.shape
 obtain ⟨kl,kl',knc,kc⟩:=h2.len
 rcases Nat.eq_zero_or_pos l with g | g
 ·obtain rfl:l=0:=g
  go_enter Tryz.func150,Tryz.ntmps150
  go_wp2
  go_ret
  exact ⟨_,rfl,DigM.nil _ _ _ (by simp),Below.refl _ _⟩
 ·obtain rfl:l2=0:=by omega
  have hb:((l:Int)==0)=false:=by simp;omega
  go_enter Tryz.func150,Tryz.ntmps150
  go_wp2
  go_ret
  exact ⟨_,rfl,DigM.nil _ _ _ (by simp),Below.refl _ _⟩
theorem mulMag_one (v1 v2:Value) (xs ys:List Nat) (w:World) (h1:DigM w v1 xs) (h2:DigM w v2 ys) (g1:xs.length=1) (g2:ys.length=1):
 Calls Tryz.prog 150 #[v1,v2] w fun e w'=>∃v',e= .returned v'∧DigM w' v' (digs (val xs * val ys))∧Below w.heap.size w w':=by
 obtain ⟨x,rfl⟩:=List.length_eq_one_iff.1 g1
 obtain ⟨y,rfl⟩:=List.length_eq_one_iff.1 g2
 obtain ⟨A,l,c,rfl⟩:=h1.shape
 obtain ⟨hl,hl',hnc,hc⟩:=h1.len
 obtain ⟨A2,l2,c2,rfl⟩:=h2.shape
 obtain ⟨kl,kl',knc,kc⟩:=h2.len
 obtain rfl:l=1:=by simp at hl hl';omega
 obtain rfl:l2=1:=by simp at kl kl';omega
 obtain ⟨b1,off1,rfl,hb1,hcell1⟩:=h1.at_ (by omega)
 obtain ⟨b2,off2,rfl,hb2,hcell2⟩:=h2.at_ (by omega)
 have hx:=hcell1 0 (by omega)
 have hy:=hcell2 0 (by omega)
 rw [Nat.add_zero] at hx hy
 have x0:=di_nonneg [x] 0
 have x1:=di_le h1.ok 0
 have y0:=di_nonneg [y] 0
 have y1:=di_le h2.ok 0
 have hv:val [x] * val [y]=(di [x] 0 * di [y] 0).toNat:=by
  have:di [x] 0 * di [y] 0=((x * y:Nat):Int):=by simp [di,dg]
  rw [this,Int.toNat_natCast];simp [val]
 rw [hv]
 clear hcell1 hcell2 hl hl' kl kl' h1 h2 hv
 generalize di [x] 0=p at *
 generalize di [y] 0=q at *
 have p0:0≤p * q:=Int.mul_nonneg x0 y0
 have p1:p * q≤4294967295 * 4294967295:=Int.mul_le_mul x1 y1 y0 (by omega)
 have r1:IntKind.u64.wrap p=p:=u64_in p x0 (by omega)
 have r2:IntKind.u64.wrap q=q:=u64_in q y0 (by omega)
 have r3:IntKind.u64.wrap (p * q)=p * q:=u64_in _ p0 (by omega)
 go_enter Tryz.func150,Tryz.ntmps150
 go_wp2
 go_region_held3 (fun w'=>w'.cell? ⟨b1,off1,none⟩=some (.int .u32 p)∧w'.cell? ⟨b2,off2,none⟩=some (.int .u32 q)) (first | exact ⟨hx,hy⟩ | exact ⟨cell_later hbb hx,cell_later hbb hy⟩)
  (first | (go_at_call 159;refine (fromWord_any (p * q) _ p0 (by omega)).mono ?_;rintro e w1 ⟨v',rfl,hv',hbb⟩))
 go_wp2
 go_ret
 exact ⟨_,rfl,hv',below_drew hbb⟩
theorem mul_fin {O xs ys:List Nat} {k:Nat} (hk:xs.length≤k) (h:(val O:Int)=(vt xs k:Int) * val ys):val O=val xs * val ys:=by
 rw [vt_ge hk,← Int.natCast_mul] at h
 omega
theorem mul_carry' {O ys:List Nat} {k j:Nat} {z d V0:Int} (hj:ys.length=j) (hk:k+j < O.length) (hz:0≤z) (h0:dg O (k+j)=0)
 (h:(val O:Int)+z * ((B32^(k+j):Nat):Int)=V0+d * ((B32^k:Nat):Int) * vt ys j):(val (O.set (k+j) z.toNat):Int)=V0+d * ((B32^k:Nat):Int) * val ys:=by
 subst hj;exact mul_carry hk hz h0 h
theorem mulMag_gen (v1 v2:Value) (xs ys:List Nat) (w:World) (h1:DigM w v1 xs) (h2:DigM w v2 ys) (g1:0 < xs.length) (g2:0 < ys.length) (g:2 < xs.length+ys.length) (hs:xs.length+ys.length≤1099511627776):
 Calls Tryz.prog 150 #[v1,v2] w fun e w'=>∃v',e= .returned v'∧DigM w' v' (digs (val xs * val ys))∧Below w.heap.size w w':=by
 obtain ⟨A,l,c,rfl⟩:=h1.shape
 obtain ⟨hl,hl',hnc,hc⟩:=h1.len
 obtain ⟨A2,l2,c2,rfl⟩:=h2.shape
 obtain ⟨kl,kl',knc,kc⟩:=h2.len
 obtain ⟨b1,off1,rfl,hb1,hcell1⟩:=h1.at_ (by omega)
 obtain ⟨b2,off2,rfl,hb2,hcell2⟩:=h2.at_ (by omega)
 have ok1:=h1.ok
 have ok2:=h2.ok
 have HC1:=Lib.hid hcell1
 have HC2:=Lib.hid hcell2
 clear hcell1 hcell2 h1 h2
 have hmk:=make_u32 (l+l2) (by omega)
 push_cast at hmk
 have t1:((l:Int)==0)=false:=by simp;omega
 have t2:((l2:Int)==0)=false:=by simp;omega
 have hone:((l:Int)==1)=true∧((l2:Int)==1)=false∨((l:Int)==1)=false:=by
  by_cases h:l=1
  ·left;subst h;simp;omega
  ·right;simp;omega
 rcases hone with ⟨t3,t4⟩ | t3
 all_goals
  go_enter Tryz.func150,Tryz.ntmps150
  go_wp2
  clear hmk
  go_loopw [46] (fun i wr=>∃(k:Nat) (O:List Nat),k≤l∧i= .int .i64 k∧l+l2≤O.length∧O.length≤l+l2∧DigB wr w.heap.size O∧okD O∧Below w.heap.size w wr∧
   (val O:Int)=(vt xs k:Int) * val ys∧(∀j,k+l2≤j→dg O j=0)) (fun i _=>l - (intOf i).toNat)
  case atStart=>exact ⟨0,List.replicate (l+l2) 0,by omega,rfl,by simp,by simp,DigB.zeros w _,okD_replicate _,(Below.refl _ _).alloc (Nat.le_refl _) _,by simp [vt_zero,val_replicate],fun j _=>dg_replicate _ _⟩
  case round=>
   obtain ⟨k,O,hk,rfl,hO,hO',hB,ok,hbe,heq,hzz⟩:=hrel
   have HE:=Lib.hid heq
   have HZ:=Lib.hid hzz
   clear heq hzz
   rcases Nat.lt_or_ge k l with hkl | hkl
   ·have hx:=dig_in hbe hb1 HC1.out hkl
    have x0:=di_nonneg xs k
    have x1:=di_le ok1 k
    by_cases hd:dg xs k=0
    ·have t5:=di_beq_true hd
     have HD:=Lib.hid hd
     clear hd
     go_wp2
     go_roundw
     case rel=>exact ⟨k+1,O,by omega,by go_num,hO,hO',hB,ok,hbe,mul_outer HE.out (by rw [di_eq,HD.out];simp),fun j hj=>HZ.out j (by omega)⟩
     case measure=>simp [intOf];omega
    ·have t5:=di_beq_false hd
     clear hd
     obtain ⟨wo,hwo⟩:∃wo:World,wo=wr:=⟨_,rfl⟩
     subst hwo
     go_wp2
     go_loopw [8,68] (fun cy i wr=>∃(j:Nat) (O':List Nat) (z:Int),j≤l2∧i= .int .i64 j∧cy= .int .u64 z∧0≤z∧z≤4294967295∧l+l2≤O'.length∧O'.length≤l+l2∧DigB wr w.heap.size O'∧okD O'∧Below w.heap.size w wr∧
      (val O':Int)+z * ((B32^(k+j):Nat):Int)=(val O:Int)+di xs k * ((B32^k:Nat):Int) * vt ys j∧(∀i,k+l2≤i→dg O' i=0)) (fun _ i _=>l2 - (intOf i).toNat)
     case atStart=>exact ⟨0,O,0,by omega,rfl,rfl,by omega,by omega,hO,hO',hB,ok,hbe,by simp [vt_zero],HZ.out⟩
     case round=>
      clear hx hbe hB
      obtain ⟨j,O',z,hj,rfl,rfl,z0,z1,hP,hP',hB',okP,hbe',heq',hzz'⟩:=hrel
      have HE':=Lib.hid heq'
      have HZ':=Lib.hid hzz'
      clear heq' hzz'
      rcases Nat.lt_or_ge j l2 with hjl | hjl
      ·have hy:=dig_in hbe' hb2 HC2.out hjl
       have y0:=di_nonneg ys j
       have y1:=di_le ok2 j
       have p0:0≤di xs k * di ys j:=Int.mul_nonneg x0 y0
       have p1:di xs k * di ys j≤4294967295 * 4294967295:=Int.mul_le_mul x1 y1 y0 (by omega)
       have ho:=hB'.cell (k:=k+j) (by omega)
       have hf:=hB'.frozen (k+j)
       have o0:=di_nonneg O' (k+j)
       have o1:=di_le okP (k+j)
       go_wp2
       go_roundw
       case rel=>exact ⟨j+1,O'.set (k+j) ((z+(di xs k * di ys j+di O' (k+j))) % 4294967296).toNat,_,by omega,by go_num,rfl,by omega,by omega,by simpa using hP,by simpa using hP',hB'.setI _ (by omega),okD_set okP _ (by unfold B32;omega),hbe'.setCell (Nat.le_refl _) _,mul_step (by omega) (by omega) (by omega) HE'.out,fun i hi=>by rw [dg_set_ne (by omega)];exact HZ'.out i hi⟩
       case measure=>simp [intOf];omega
      ·obtain rfl:j=l2:=by omega
       have ho:=hB'.cell (k:=k+j) (by omega)
       have hf:=hB'.frozen (k+j)
       go_wp2
       go_roundw
       case rel=>exact ⟨k+1,O'.set (k+j) z.toNat,by omega,by go_num,by simpa using hP,by simpa using hP',hB'.setI _ (by omega),okD_set okP _ (by unfold B32;omega),hbe'.setCell (Nat.le_refl _) _,mul_outer HE.out (mul_carry' (by omega) (by omega) z0 (HZ'.out _ (Nat.le_refl _)) HE'.out),fun i hi=>by rw [dg_set_ne (by omega)];exact HZ'.out i (by omega)⟩
       case measure=>simp [intOf];omega
   ·obtain rfl:k=l:=by omega
    go_wp2_with fail
    refine (trim_any _ O _ ?_).mono ?_
    ·have:=hB.dig ok (c:=k+l2) hO' (by unfold maxLen;omega)
     rwa [show O.length=k+l2 from by omega] at this
    rintro e w1 ⟨v',rfl,hv,rfl⟩
    go_wp2_with fail
    go_ret
    refine ⟨_,rfl,?_,hbe⟩
    rwa [mul_fin (by omega) HE.out] at hv
theorem mulMag_any (v1 v2:Value) (xs ys:List Nat) (w:World) (h1:DigM w v1 xs) (h2:DigM w v2 ys) (hs:xs.length+ys.length≤1099511627776):
 Calls Tryz.prog 150 #[v1,v2] w fun e w'=>∃v',e= .returned v'∧DigM w' v' (digs (val xs * val ys))∧Below w.heap.size w w':=by
 by_cases h:xs.length=0∨ys.length=0
 ·exact mulMag_nil v1 v2 xs ys w h1 h2 h
 ·by_cases g:xs.length=1∧ys.length=1
  ·exact mulMag_one v1 v2 xs ys w h1 h2 g.1 g.2
  ·exact mulMag_gen v1 v2 xs ys w h1 h2 (by omega) (by omega) (by omega) hs
end Go.Proofs.YtncmobkhenfhpaaGreat
