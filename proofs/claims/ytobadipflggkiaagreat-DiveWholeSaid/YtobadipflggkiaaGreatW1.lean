/- Lemmas of the claim; no condition. -/
import Derived.Test.YtobadipflggkiaaGreatProg
import Derived.WalkKit
import Derived.WalkSpells
import Derived.WalkLawsBesides
import Derived.Lib.Hide
import Derived.Deep.QuietTactic
import Derived.BigQuiet
import Derived.Laws.BitsAllLaws
import Derived.Deep.RegionHeld3
import Derived.Deep.DrawnRows
import Derived.Maps.AppendAt
import Derived.Lib.SliceRun
import Derived.Deep.DeepCutAuto
import Derived.Deep.CutBlock
set_option linter.all false
set_option maxRecDepth 100000
set_option maxHeartbeats 40000000
namespace Go.Proofs.YtobadipflggkiaaGreat
open Go.RowKit
namespace Pl
end Pl
open Pl Tryz
attribute [local go_sem ↓] Go.wp_at_zero Go.wp_at_succ
structure Qa(A:Prop):Prop where out:A
def Qk{p:Prop}(h:p:=by omega):p:=h
def Ql{p:Prop}(h:p:=by decide):p:=h
def Qm{p:Prop}(h:p:=by kernel_rfl):p:=h
def Qn{p:Prop}(h:p:=by simp[intOf];omega):p:=h
def jA:=@if_neg
def jB:=@if_pos
def jC:=@List.mem_of_getElem?
def jE:=@List.getElem?_set_ne
def jF:=@Int.natCast_mul
def jG:=@List.mem_cons_of_mem
def jH:=@List.getElem?_append_right
def jI:=@List.getElem?_append_left
def jJ:=@Int.mul_le_mul_of_nonneg_right
def jK:=@List.mem_cons_self
def jL:=@List.set_cons_zero
def jM:=@List.getElem?_set_self
def jO:=@List.set_cons_succ
def jP:=@List.take_add_one
def jQ:=@Nat.mul_comm
def jR:=@Int.lt_or_le
def jS:=@Nat.pow_le_pow_right
def jT:=@List.pairwise_cons
def jU:=@Bool.and_eq_true
def jV:=@List.ext_getElem?
def jW:=@List.mem_append
def jX:=@List.setIfInBounds_toArray
def jY:=@Int.mul_nonneg
def jZ:=@Nat.le_of_lt
def ja:=@List.getD_eq_getElem?_getD
def jb:=@List.mem_map
def jd:=@List.length_set
def je:=@Nat.lt_of_lt_of_le
def jf:=@Nat.pow_succ
def jg:=@Nat.pow_pos
def jh:=@decide_eq_true_eq
def ji:=@Nat.zero_add
def jk:=@List.mem_filter
def jm:=@Int.lt_trichotomy
def jo:=@Nat.dvd_mul_left_of_dvd
def jq:=@List.length_filter_le
def jr:=@Int.mul_le_mul_of_nonneg_left
def jv:=@Int.toNat_of_nonneg
def jw:=@List.mem_cons
def jy:=@cell_later
def kC:=@List.take_of_length_le
def kD:=@Int.natAbs_mul
def kE:=@decide_eq_true
def kF:=@Nat.lt_trichotomy
def kG:=@Nat.mul_assoc
def kH:=@Nat.eq_or_lt_of_le
def kJ:=@Int.emod_lt_of_pos
def kK:=@Int.mul_le_mul
def kL:=@info_parts
def kM:=@List.map_cons
def kN:=@List.length_take
def kP:=@BitVec.toNat_ofInt
def kQ:=@List.length_append
def kR:=@Int.mul_comm
def kS:=@List.mem_iff_getElem?
def kT:=@List.getElem?_replicate
def kU:=@Nat.shiftLeft_add_eq_or_of_lt
def kV:=@Nat.add_mul
def kW:=@List.eq_nil_of_length_eq_zero
def kX:=@List.drop_eq_nil_of_le
def kY:=@World.ownsRow_nil
def kg:=@List.pairwise_append
def kr:=@Rat.div_mul_cancel
def ku:=@Nat.mul_le_mul_left
def kv:=@Int.emod_nonneg
def kw:=@decide_eq_false
def ky:=@List.length_cons
def iC:=@Nat.mod_lt
def iF:=@Nat.and_two_pow_sub_one_eq_mod
def iG:=@Nat.pow_add
def iH:=@Int.add_mul
def iI:=@Nat.zero_le
def iJ:=@List.forall_mem_cons
def iK:=@List.drop_eq_getElem_cons
def iM:=@Int.lt_or_eq_of_le
def iP:=@bodyPost_ret
def iR:=@decide_eq_true_iff
def iT:=@List.mem_range
def iU:=@List.foldl_cons
def iV:=@List.getElem?_set
def iW:=@Nat.or_lt_two_pow
def iX:=@List.length_eq_zero_iff
def iY:=@Nat.mul_add
def iZ:=@List.getElem?_take
def ib:=@Int.le_refl
def ic:=@Nat.add_le_add
def ig:=@Nat.mod_eq_of_lt
def ik:=@Nat.div_eq_of_lt
def il:=@Nat.shiftLeft_eq
def iq:=@List.mem_or_eq_of_mem_set
def iw:=@List.pairwise_iff_getElem
def iy:=@Nat.testBit_two_pow
def vD:=@Result.andThen_ok
def vE:=@Rat.div_def
def vF:=@Int.mul_ediv_cancel_left
def vG:=@Int.natCast_add
def vH:=@heap_setCell_other
def vI:=@Nat.pos_of_ne_zero
def vJ:=@Int.ediv_le_self
def vK:=@Nat.pow_lt_pow_right
def vL:=@List.map_toArray
def vM:=@decide_eq_false_iff_not
def vN:=@World.drewN_drewN
def vO:=@Int.tmod_eq_emod_of_nonneg
def vP:=@Sem.run_bind
def vR:=@Nat.le_mul_of_pos_left
def vS:=@List.nodup_iff_pairwise_ne
def vT:=@List.length_take_le
def vU:=@Nat.div_add_mod
def vV:=@Int.ediv_nonneg
def vW:=@List.cons_append
def vX:=@Int.natCast_emod
def vY:=@Rat.num_divInt_den
def vZ:=@List.mem_singleton
def ve:=@Nat.add_assoc
def vg:=@List.sublist_append_left
def vk:=@Nat.and_comm
def vo:=@heap_alloc_new
def vv:=@Nat.one_mul
def vw:=@Nat.mul_left_comm
def gD:=@List.pairwise_map
def gF:=@List.getElem?_cons_zero
def gG:=@List.map_nil
def gH:=@Int.le_trans
def gI:=@Int.mul_add
def gJ:=@IntKind.wrap_i64
def gK:=@Nat.lt_of_mul_lt_mul_right
def gL:=@Nat.mul_le_mul
def gM:=@Int.fdiv_eq_ediv_of_nonneg
def gN:=@Int.natAbs_neg
def gP:=@Rat.mul_nonneg
def gQ:=@Nat.div_lt_iff_lt_mul
def gT:=@List.take_append_drop
def gW:=@Rat.divInt_mul_divInt
def gX:=@Rat.divInt_add_divInt
def gY:=@List.Pairwise.sublist
def gZ:=@Nat.mul_add_div
def bH:=@Rat.zero_divInt
def bJ:=@List.getElem?_map
def bK:=@Nat.gcd_comm
def bL:=@Ne.symm
def bM:=@Int.ne_of_gt
def bP:=@Sem.run_pure
def bS:=@Nat.eq_of_testBit_eq
def bT:=@List.eq_of_mem_replicate
def bU:=@List.getElem_of_mem
def bZ:=@Int.natCast_ediv
def dA:=@List.all_eq_true
def dB:=@Nat.add_sub_cancel_left
def dC:=@Nat.dvd_add_left
def dD:=@Int.tdiv_eq_ediv_of_dvd
def dE:=@BitVec.toNat_and
def dF:=@List.mem_reverse
def dG:=@List.getElem_cons_zero
def dH:=@List.getElem_cons_succ
def dI:=@Nat.add_zero
def dJ:=@Int.le_ediv_iff_mul_le
def dK:=@Int.mul_right_comm
def dL:=@Bool.false_eq_true
def dM:=@Rat.neg_divInt_neg
def dN:=@List.filter_append
def dO:=@Nat.div_le_self
def dP:=@List.nodup_cons
def dR:=@Int.gcd_dvd_right
def dS:=@List.append_assoc
def dU:=@List.Sublist.refl
def dV:=@Option.some.injEq
def dW:=@List.getElem_toArray
def dZ:=@Array.getElem?_eq_some_iff
def eB:=@cell_of_row
def eD:=@wpList_append_own_at
def eF:=@size_madeCells
def eG:=@Nat.testBit_or
def eH:=@List.length_drop
def eO:=@Below.heap_alloc
def eP:=@wpList_plain
def eQ:=@List.not_mem_nil
def eT:=@Nat.sub_self
def eU:=@List.take_length
def eZ:=@Nat.and_self
def fC:=@results_tmp3
def fD:=@Int.mul_neg_of_pos_of_neg
def fE:=@Int.natAbs_ediv_le_natAbs
def fF:=@Classical.byContradiction
def fG:=@List.exists_mem_of_ne_nil
def fH:=@List.map_congr_left
def fI:=@Go.Lib.run_eql_slice_nil
def fJ:=@List.length_erase_of_mem
def fK:=@Bool.or_eq_true
def fM:=@run_loadVar_row
def fO:=@List.length_nil
def fP:=@Int.sub_eq_add_neg
def fQ:=@Rat.sub_eq_add_neg
def fT:=@Option.toList_some
def fV:=@Rat.not_lt
def fZ:=@Int.sub_mul
def aA:=@Nat.mul_pos
def aB:=@below_drewN
def aC:=@Int.neg_mul
def aD:=@Int.mul_pos
def aF:=@Rat.le_refl
def aG:=@mem_ready
def aH:=@List.pairwise_singleton
def aI:=@Go.Maps.atKey_put_other
def aJ:=@List.length_eq_one_iff
def aK:=@Int.ediv_lt_iff_lt_mul
def aL:=@Int.gcd_comm
def aM:=@run_append_own_at
def aN:=@Rat.add_zero
def aO:=@Rat.mul_comm
def aP:=@Array.getElem?_eq_none
def aQ:=@List.length_range
def aR:=@Bool.not_eq_true'
def aS:=@List.mem_of_mem_erase
def aT:=@Nat.lt_succ_self
def aU:=@wpOp_mono
def aV:=@List.getElem_mem
def aW:=@Nat.lt_of_not_le
def aX:=@Nat.and_le_right
def aY:=@List.sum_cons
def aZ:=@List.mem_of_mem_take
def cK:=@List.mem_of_mem_drop
def cO:=@List.mem_append_left
def cZ:=@Nat.div_lt_self
def BA:=@Rat.divInt_zero
def BC:=@Rat.num_eq_zero
def BD:=@List.length_map
def BF:=@List.append_nil
def BG:=@Nat.testBit_and
def BH:=@List.length_pos_iff
def BJ:=@Nat.add_comm
def BK:=@Rat.le_of_lt
def BL:=@Nat.ne_of_lt
def BM:=@List.getElem?_drop
def BN:=@run_make
def BO:=@Nat.mul_right_comm
def BP:=@beq_iff_eq
def BQ:=@World.ownsRow_made
def BR:=@Nat.add_sub_cancel
def BS:=@Rat.neg_divInt
def BU:=@run_underlying
def BV:=@Int.lt_or_gt_of_ne
def BX:=@ready_mono
def BZ:=@Nat.mul_one
def Ba:=@heap_setCell_same
def Bb:=@Nat.gcd_rec
def Bc:=@Int.mul_neg
def Bd:=@Nat.dvd_mul_right
def Be:=@wp_region_noPanic
def Bg:=@List.nodup_append
def Bh:=@List.take_sublist
def Bi:=@Nat.dvd_trans
def Bj:=@if_false
def Bl:=@Int.gcd_dvd_left
def Bn:=@results_none
def Bo:=@u32_and
def pu1{α : Type _}(l : List α)(i : Nat)(a : α) : l.toArray.setIfInBounds i a = (l.set i a).toArray := jX l i a
def pu2{α : Type _}{a : α}{xs : List α}{b : α} : (a :: xs).set 0 b = b :: xs := jL
def pu3{α : Type _}{a : α}{xs : List α}{n : Nat}{b : α} : (a :: xs).set (n + 1) b = a :: xs.set n b := jO
def pu4{α : Type _}{l : List α}{i : Nat}(h : i<l.toArray.size) : l.toArray[i] = l[i]'(by simpa using h) := dW h
def pu5{α : Type _}(a : α)(xs : List α)(h : 0< (a :: xs).length) : (a :: xs)[0] = a := dG a xs h
def pu6{α : Type _}(a : α)(xs : List α)(i : Nat)(h : i + 1< (a :: xs).length) : (a :: xs)[i + 1] = xs[i]'(by simpa using h) := dH a xs i h
def JZ{p : Prop}(h : p) : Hid p := Lib.hid h
def JY(n : Nat) : n <= n := Nat.le_refl n
def JX(a b : Nat) : a<b \/ a ≥ b := Nat.lt_or_ge a b
def JW{n m k : Nat}(h : n <= m)(g : m <= k) : n <= k := Nat.le_trans h g
def JV(n : Nat) : n = 0 \/ 0<n := Nat.eq_zero_or_pos n
def JU{α : Type _}{l : List α}{i : Nat}(h : l.length <= i) : l[i]? = none := List.getElem?_eq_none h
def JT{a : Int}(h : 0 <= a) : ∃ n : Nat, a = n := Int.eq_ofNat_of_zero_le h
def JS{m n : Nat}(k : Nat)(h : m <= n) : m*k <= n*k := Nat.mul_le_mul_right k h
def JR(n : Nat)(w : World) : Below n w w := Below.refl n w
def JQ{α : Type _}{l : List α}{i : Nat}(h : i<l.length) : l[i]? = some l[i] := List.getElem?_eq_getElem h
def JP(n : Nat) : (n : Int).toNat = n := Int.toNat_natCast n
def JO{α : Type _}{l : List α}{i : Nat}{a : α} : l[i]? = some a ↔ ∃ h : i<l.length, l[i] = a := List.getElem?_eq_some_iff
namespace Pl
def B32:Nat:=4294967296
def B32_pos:0<B32:=Ql
def B32_eq:B32=4294967296:=rfl
def val:List Nat->Nat
 | []=>0
 |d::ds=>d+B32*val ds
def okD(ds:List Nat):Prop:=∀d∈ds,d<B32
def okD_nil:okD []:=by intro d h;cases h
def Zlk{d:Nat}{ds:List Nat}:okD (d::ds)↔d<B32/\okD ds:=by simp[okD]
def Zll{a:List Nat}(h:okD a)(n:Nat):okD (a.take n):=λd hd=>h d (aZ hd)
def Zgg{a:List Nat}(h:okD a)(n:Nat):okD (a.drop n):=λd hd=>h d (cK hd)
def ZK{a:List Nat}(h:okD a)(i:Nat){d:Nat}(hd:d<B32):okD (a.set i d):=λx hx=>by
 rcases iq hx with h1|h1
 ·exact h x h1
 ·exact h1▸hd
def ZJ(n:Nat):okD (List.replicate n 0):=λd hd=>by
 have:=bT hd;subst this;exact B32_pos
def dg(ds:List Nat)(i:Nat):Nat:=ds.getD i 0
def Zzp{ds:List Nat}(h:okD ds)(i:Nat):dg ds i<B32:=by
 unfold dg;rw[ja]
 cases hi:ds[i]? with
 |none=>exact B32_pos
 |some d=>exact h d (jC hi)
def Ysq{ds:List Nat}(h:okD ds)(i:Nat):dg ds i<=4294967295:=by have:=Zzp h i;unfold B32 at this;omega
def Vi{ds:List Nat}{i:Nat}(h:i<ds.length):ds[i]? =some (dg ds i):=by
 simp[dg,JQ h]
def VU{ds:List Nat}{i:Nat}(h:ds.length<=i):dg ds i=0:=by simp[dg,JU h]
def UI{ds:List Nat}{i d:Nat}(h:i<ds.length):dg (ds.set i d) i=d:=by simp[dg,h]
def Yk{ds:List Nat}{i j d:Nat}(h:i≠j):dg (ds.set i d) j=dg ds j:=by simp[dg,h]
def Ylz{ds:List Nat}{i n:Nat}(h:i<n):dg (ds.take n) i=dg ds i:=by simp[dg,h]
def VV{ds:List Nat}{i n:Nat}:dg (ds.drop n) i=dg ds (n+i):=by simp[dg]
def di(ds:List Nat)(i:Nat):Int:=(dg ds i:Nat)
def Yx(ds:List Nat)(i:Nat):di ds i=((dg ds i:Nat):Int):=rfl
def Zr(ds:List Nat)(i:Nat):0<=di ds i:=by unfold di;omega
def Yl{ds:List Nat}(h:okD ds)(i:Nat):di ds i<=4294967295:=by have:=Ysq h i;unfold di;omega
def Zbl{ds:List Nat}{i:Nat}(h:dg ds i=0):(di ds i==0)=true:=by simp[di,h]
def UJ{ds:List Nat}{i:Nat}(h:dg ds i≠0):(di ds i==0)=false:=by simp[di,h]
def vt(ds:List Nat)(i:Nat):Nat:=val (ds.take i)
def val_append(a b:List Nat):val (a++b)=val a+B32^a.length*val b:=by
 induction a with
 |nil=>simp[val]
 |cons d a ih=>
  simp only[vW,val,ih,ky,jf];rw[iY,<-kG,jQ B32 (B32^a.length),ve]
def Y3(ds:List Nat):vt ds 0=0:=by simp[vt,val]
def Zzq{ds:List Nat}{i:Nat}(h:i<ds.length):vt ds (i+1)=vt ds i+dg ds i*B32^i:=by
 unfold vt;rw[List.take_succ_eq_append_getElem h,val_append,kN,Nat.min_eq_left (jZ h)];have:ds[i]=dg ds i:=by simp[dg,h]
 rw[this];simp[val,jQ]
def XU{ds:List Nat}{i:Nat}(h:ds.length<=i):vt ds i=val ds:=by unfold vt;rw[kC h]
def Ykq(ds:List Nat):vt ds ds.length=val ds:=XU (JY _)
def Y4(ds:List Nat)(i:Nat):vt ds (i+1)=vt ds i+dg ds i*B32^i:=by
 rcases JX i ds.length with h|h
 ·exact Zzq h
 ·rw[XU h,XU Qk,VU h];simp
def Zgz{ds:List Nat}(h:okD ds):val ds<B32^ds.length:=by
 induction ds with
 |nil=>simp[val]
 |cons d ds ih=>
  obtain⟨h1,h2⟩:=Zlk.1 h;have:=ih h2;simp only[val,ky,jf];have h3:B32* (val ds+1)<=B32*B32^ds.length:=ku _ this;rw[jQ (B32^ds.length)];rw[iY]at h3;omega
def Zaw{ds:List Nat}(h:okD ds)(i:Nat):vt ds i<B32^i:=by
 have h1:=Zgz (Zll h i);exact je h1 (jS B32_pos (vT _ _))
def Znu{ds:List Nat}{i j d:Nat}(h:j<=i):vt (ds.set i d) j=vt ds j:=by
 unfold vt;rw[List.take_set_of_le h]
def Zbm{ds:List Nat}{i d:Nat}(h:i<ds.length):vt (ds.set i d) (i+1)=vt ds i+d*B32^i:=by
 rw[Zzq (by simpa using h),Znu (JY _),UI h]
def Yfn{a b:List Nat}{n:Nat}(h:∀i,i<n->dg a i=dg b i):vt a n=vt b n:=by
 induction n with
 |zero=>simp[Y3]
 |succ n ih=>rw[Y4,Y4,ih (λi hi=>h i Qk),h n Qk]
def XY(n:Nat):val (List.replicate n 0)=0:=by
 induction n with
 |zero=>rfl
 |succ n ih=>simp[List.replicate_succ,val,ih]
def VG(n i:Nat):dg (List.replicate n 0) i=0:=by
 unfold dg;rw[ja,kT];split <;> rfl
def Zp(n:Nat):List Nat:=if _h:n=0 then []else(n%B32)::Zp (n/B32)
 termination_by n
 decreasing_by exact cZ Qk Ql
def digs_zero:Zp 0=[]:=by rw[Zp];simp
def WR{n:Nat}(h:0<n):Zp n=(n%B32)::Zp (n/B32):=by
 rw[Zp,dif_neg Qk]
def Zre{n:Nat}:Zp n=[]↔n=0:=by
 rcases JV n with h|h
 ·subst h;simp[digs_zero]
 ·rw[WR h];simp;omega
def Zn(n:Nat):val (Zp n)=n:=by
 induction n using Nat.strongRecOn with
 |ind n ih=>
  rcases JV n with h|h
  ·subst h;simp[digs_zero,val]
  ·rw[WR h];simp only[val];rw[ih _ (cZ h Ql)];exact Nat.mod_add_div n B32
def Z8(n:Nat):okD (Zp n):=by
 induction n using Nat.strongRecOn with
 |ind n ih=>
  rcases JV n with h|h
  ·subst h;simp[digs_zero,okD]
  ·rw[WR h,Zlk];exact⟨iC _ B32_pos,ih _ (cZ h Ql)⟩
def Xd{n k:Nat}(h:n<B32^k):(Zp n).length<=k:=by
 induction k generalizing n with
 |zero=>
  have:n=0:=by simpa using h
  subst this;simp[digs_zero]
 |succ k ih=>
  rcases JV n with h0|h0
  ·subst h0;simp[digs_zero]
  ·rw[WR h0,ky];have:n/B32<B32^k:=by
    rw[gQ B32_pos];rw[jf]at h;exact h
   have:=ih this;omega
def Yu(n:Nat):n<B32^(Zp n).length:=by
 have:=Zgz (Z8 n);rwa[Zn]at this
def Yma{n k:Nat}(h:k< (Zp n).length):B32^k<=n:=by
 rcases JX n (B32^k)with h1|h1
 ·have:=Xd h1;omega
 ·exact h1
def Zu{m n:Nat}(h:m<=n):(Zp m).length<=(Zp n).length:=
 Xd (Nat.lt_of_le_of_lt h (Yu n))
def Xe{n:Nat}(h:0<n):0< (Zp n).length:=by
 rw[WR h];simp
def Znv{ds:List Nat}(ok:okD ds)(h:ds=[]\/dg ds (ds.length - 1)≠0):Zp (val ds)=ds:=by
 induction ds with
 |nil=>simp[val,digs_zero]
 |cons d ds ih=>
  obtain⟨h1,h2⟩:=Zlk.1 ok;have hl:dg (d::ds) ((d::ds).length - 1)≠0:=by
   rcases h with h|h
   ·cases h
   ·exact h
  have a:0<val (d::ds):=by
   rcases JV (val (d::ds))with h0|h0
   ·exfalso;have b:∀(l:List Nat),val l=0->∀i,dg l i=0:=by
     intro l
     induction l with
     |nil=>intro _ i;simp[dg]
     |cons x l ih'=>
      intro hv i;simp only[val]at hv;have hx:x=0:=Qk;have hm:B32*val l=0:=Qk;have c:val l=0:=by
       rcases Nat.mul_eq_zero.1 hm with h|h
       ·exact absurd h Ql
       ·exact h
      cases i with
      |zero=>simpa[dg]using hx
      |succ i=>have:=ih' c i;simpa[dg]using this
    exact hl (b _ h0 _)
   ·exact h0
  rw[WR a];have e1:val (d::ds)%B32=d:=by
   simp only[val];rw[Nat.add_mul_mod_self_left];exact ig h1
  have e2:val (d::ds)/B32=val ds:=by
   simp only[val];rw[Nat.add_mul_div_left _ _ B32_pos,ik h1];simp
  rw[e1,e2,ih h2]
  cases ds with
  |nil=>exact .inl rfl
  |cons x ds=>right;simpa[dg]using hl
def Znw{ds:List Nat}(ok:okD ds){n:Nat}(hn:n<=ds.length)(hz:∀i,n<=i->dg ds i=0)(hl:n=0\/dg ds (n - 1)≠0):Zp (val ds)=ds.take n:=by
 have hv:val ds=val (ds.take n):=by
  rw[<-Ykq ds];show vt ds ds.length=vt ds n;clear hl;have:∀k,vt ds (n+k)=vt ds n:=by
   intro k
   induction k with
   |zero=>rfl
   |succ k ih=>rw[<-ve,Y4,hz (n+k) Qk,ih];simp
  have h:=this (ds.length - n)
  rwa[show n+(ds.length - n)=ds.length from Qk]at h
 rw[hv];refine Znv (Zll ok n) ?_;rcases hl with h|h
 ·left;subst h;simp
 ·right;have a:(ds.take n).length=n:=by rw[kN];omega
  rw[a];rcases JV n with h0|h0
  ·subst h0;intro hh;exact h (hz _ Qk)
  ·rw[Ylz Qk];exact h
def Vj{ds:List Nat}(ok:okD ds):(Zp (val ds)).length<=ds.length:=Xd (Zgz ok)
def UK{n:Nat}(h:0<n):dg (Zp n) ((Zp n).length - 1)≠0:=by
 induction n using Nat.strongRecOn with
 |ind n ih=>
  rw[WR h];rcases JV (n/B32)with h0|h0
  ·rw[h0,digs_zero];have:n%B32=n:=ig (by
    rcases JX n B32 with h1|h1
    ·exact h1
    ·have:=Nat.div_pos h1 B32_pos;omega)
   simp[dg,this];omega
  ·have:=ih _ (cZ h Ql) h0;have hp:=Xe h0;have e:((n%B32)::Zp (n/B32)).length - 1=(Zp (n/B32)).length - 1+1:=(by simp;omega);rw[e];simpa[dg]using this
def Zgh{n:Nat}(h0:0<n)(h:n<B32):Zp n=[n]:=by
 rw[WR h0,ik h,digs_zero,ig h]
def Ztu{n:Nat}(h:B32<=n)(h2:n<B32*B32):Zp n=[n%B32,n/B32]:=by
 have:=B32_pos;have h1:0<n/B32:=Nat.div_pos h B32_pos;have h3:n/B32<B32:=by rw[gQ B32_pos];exact h2
 rw[WR Qk,Zgh h1 h3]
def YL(k:Nat):((B32^(k+1):Nat):Int)=((B32^k:Nat):Int)*4294967296:=by
 rw[jf,jF];rfl
def Z4(ds:List Nat)(k:Nat):((vt ds (k+1):Nat):Int)=vt ds k+di ds k* ((B32^k:Nat):Int):=by
 rw[Y4,vG,jF];rfl
def Xf{ds:List Nat}{k:Nat}{z:Int}(h:k<ds.length)(hz:0<=z):((vt (ds.set k z.toNat) (k+1):Nat):Int)=vt ds k+z* ((B32^k:Nat):Int):=by
 rw[Zbm h,vG,jF,jv hz]
def Yfo(O x y z p r q a b:Int)(h:O+z*p=a+b)(e:z+x+y=r+4294967296*q):O+r*p+q* (p*4294967296)=a+x*p+(b+y*p):=by grind
def Ui{O xs ys:List Nat}{k:Nat}{z y:Int}(hk:k<O.length)(hz:0<=z)(hy:y=di ys k)
 (h:(vt O k:Int)+z* ((B32^k:Nat):Int)=vt xs k+vt ys k):
 (vt (O.set k ((z+di xs k+y)%4294967296).toNat) (k+1):Int)+((z+di xs k+y)/4294967296)* ((B32^(k+1):Nat):Int)=vt xs (k+1)+vt ys (k+1):=by
 subst hy;rw[Xf hk Qk,Z4,Z4,YL];exact Yfo _ _ _ _ _ _ _ _ _ h Qk
def Yfp(O x y z p r q a b:Int)(h:O - z*p=a - b)(e:x - z - y=r - 4294967296*q):O+r*p - q* (p*4294967296)=a+x*p - (b+y*p):=by grind
def Zcd{O xs ys:List Nat}{k:Nat}{z y r q:Int}(hk:k<O.length)(hy:y=di ys k)(hr:0<=r)(hq:r - 4294967296*q=di xs k - z - y)
 (h:(vt O k:Int) - z* ((B32^k:Nat):Int)=vt xs k - vt ys k):
 (vt (O.set k r.toNat) (k+1):Int) - q* ((B32^(k+1):Nat):Int)=vt xs (k+1) - vt ys (k+1):=by
 subst hy;rw[Xf hk hr,Z4,Z4,YL];exact Yfp _ _ _ _ _ _ _ _ _ h Qk
def Zzr{O xs ys:List Nat}{k:Nat}{z:Int}(hO:O.length=k)(ok:okD O)(hz:0<=z)(hx:xs.length<=k)(hy:ys.length<=k)(hle:val ys<=val xs)
 (h:(vt O k:Int) - z* ((B32^k:Nat):Int)=vt xs k - vt ys k):val O=val xs - val ys:=by
 rw[XU hx,XU hy,XU Qk]at h;have a:=Zgz ok;rw[hO]at a;have b:z=0:=by
  rcases iM hz with h1|h1
  ·exfalso;have:((B32^k:Nat):Int)*1<=((B32^k:Nat):Int)*z:=jr Qk Qk;rw[kR z]at h;omega
  ·exact h1.symm
 subst b;omega
def Zce{a b:Nat}(h:(Zp a).length< (Zp b).length):a<b:=by
 have h1:=Yu a;have h2:=Yma h;omega
def Zcf(ds:List Nat)(i:Nat):val ds=vt ds i+B32^i* (dg ds i+B32*val (ds.drop (i+1))):=by
 rcases JX i ds.length with h|h
 ·have e:ds=ds.take i++(dg ds i::ds.drop (i+1)):=by
   have hd:ds[i]=dg ds i:=(by simp[dg,h]);rw[<-hd,<-iK h,gT]
  have hl:(ds.take i).length=i:=by rw[kN];omega
  calc val ds=val (ds.take i++(dg ds i::ds.drop (i+1))):=by rw[<-e]
   _=_:=by rw[val_append,hl];rfl
 ·rw[XU h,VU h,kX Qk];simp[val]
def Zjy{a b:List Nat}{n:Nat}(hl:a.length=b.length)(h:∀i,n<=i->dg a i=dg b i):a.drop n=b.drop n:=by
 apply jV;intro i;rw[BM,BM];rcases JX (n+i) a.length with h1|h1
 ·rw[Vi h1,Vi Qk,h _ Qk]
 ·rw[JU h1,JU Qk]
def Zcg{a b:List Nat}(ha:okD a)(hl:a.length=b.length){i:Nat}(h:∀j,i<j->dg a j=dg b j)(hi:dg a i<dg b i):val a<val b:=by
 rw[Zcf a i,Zcf b i,Zjy hl (λj hj=>h j Qk)];have h1:=Zaw ha i;have h2:B32^i* (dg a i+B32*val (b.drop (i+1))+1)<=B32^i* (dg b i+B32*val (b.drop (i+1))):=ku _ Qk;rw[iY,BZ]at h2;omega
def Zlm{a b:List Nat}(hl:a.length=b.length)(h:∀j,dg a j=dg b j):a=b:=by
 have:=Zjy (n:=0) hl (λi _=>h i);simpa using this
def Yfq{a b:Nat}(h:Zp a=Zp b):a=b:=by rw[<-Zn a,h,Zn]
def cmpN(a b:Nat):Int:=if a<b then -1 else if a=b then 0 else 1
def UL{a b:Nat}(h:a<b):cmpN a b= -1:=by simp[cmpN,h]
def Zrf{a b:Nat}(h:a=b):cmpN a b=0:=by simp[cmpN,h]
def Zha{a b:Nat}(h:b<a):cmpN a b=1:=by
 unfold cmpN;rw[jA Qk,jA Qk]
def Zrg(a b:Nat): -1<=cmpN a b/\cmpN a b<=1:=by
 unfold cmpN;split
 ·decide
 ·split <;> decide
end Pl
def uc(d:Nat):Value:= .int .u32 (d:Int)
def ZP(w:World)(v:Value)(ds:List Nat):Prop:=
 ∃A c,v= .slice A ds.length c/\ds.length<=c/\c<=maxLen/\okD ds/\
  (0<ds.length->∃b off cs fz,A=some ⟨b,off,none⟩/\w.heap[b]? =some (.cells cs 71 fz)/\∀k d,ds[k]? =some d->cs[off+k]? =some (uc d))
def ZI(w w':World):Prop:=∀(b:Nat) (cs:Array Value) (fz:Nat × Nat),w.heap[b]? =some (.cells cs 71 fz)->w'.heap[b]? =some (.cells cs 71 fz)
def ZI.refl(w:World):ZI w w:=λ_ _ _ h=>h
def ZI.trans{a b c:World}(h:ZI a b)(k:ZI b c):ZI a c:=λx cs fz hx=>k x cs fz (h x cs fz hx)
def ZU{w:World}{b:Nat}{o:Obj}(h:w.heap[b]? =some o):b<w.heap.size:=(dZ.1 h).1
def ZI.of_below{w w':World}(h:Below w.heap.size w w'):ZI w w':=λb _ _ hb=>(h.block b (ZU hb)).trans hb
def ZI.drew(w:World):ZI w w.drew:=λ_ _ _ h=>h
def ZI.drewN(w:World)(n:Nat):ZI w (w.drewN n):=λ_ _ _ h=>h
def ZI.alloc(w:World)(o:Obj):ZI w (w.alloc o):=ZI.of_below ((JR _ _).alloc (JY _) o)
def ZI.setCell{w:World}{g:Nat}{cs:Array Value}{t:TypeId}{fz:Nat × Nat}(h:w.heap[g]? =some (.cells cs t fz))(ht:t≠71)(i:Nat)(u:Value):ZI w (w.setCell ⟨g,i,none⟩ u):=by
 intro b c d hb;have a:b≠g:=by
  rintro rfl;rw[h]at hb;injection hb with hb;injection hb with _ h2 _;exact ht h2
 rw[vH w _ _ _ a];exact hb
def ZP.keep{w w':World}{v:Value}{ds:List Nat}(h:ZP w v ds)(hk:ZI w w'):ZP w' v ds:=by
 obtain⟨A,c,hv,h1,h2,h3,h4⟩:=h;refine⟨A,c,hv,h1,h2,h3,λhp=>?_⟩;obtain⟨b,a,cs,fz,hA,hb,hc⟩:=h4 hp;exact⟨b,a,cs,fz,hA,hk b cs fz hb,hc⟩
def ZP.below{w w':World}{v:Value}{ds:List Nat}(h:ZP w v ds)(hb:Below w.heap.size w w'):ZP w' v ds:=h.keep (ZI.of_below hb)
def ZP.ok{w:World}{v:Value}{ds:List Nat}(h:ZP w v ds):okD ds:=by
 obtain⟨_,_,_,_,_,h3,_⟩:=h;exact h3
def ZP.len{w:World}{A:Option Addr}{n c:Nat}{ds:List Nat}(h:ZP w (.slice A n c) ds):n<=ds.length/\ds.length<=n/\n<=c/\c<=9223372036854775807:=by
 obtain⟨_,_,hv,h1,h2,_,_⟩:=h;injection hv with _ e2 e3;subst e2 e3;unfold maxLen at h2;exact⟨JY _,JY _,h1,Qk⟩
def ZP.shape{w:World}{v:Value}{ds:List Nat}(h:ZP w v ds):∃A n c,v= .slice A n c:=by
 obtain⟨A,c,hv,_⟩:=h;exact⟨A,_,c,hv⟩
def ZP.at_{w:World}{A:Option Addr}{n c:Nat}{ds:List Nat}(h:ZP w (.slice A n c) ds)(hn:0<n):
 ∃b off,A=some ⟨b,off,none⟩/\b<w.heap.size/\∀k,k<n->w.cell? ⟨b,off+k,none⟩=some (.int .u32 (di ds k)):=by
 obtain⟨hl,a,_,_⟩:=h.len;obtain⟨A',c',hv,h1,h2,h3,h4⟩:=h;injection hv with e1 e2 e3;subst e1 e3;obtain⟨b,off,cs,fz,hA,hb,hc⟩:=h4 Qk;refine⟨b,off,hA,ZU hb,λk hk=>?_⟩;rw[eB w b (off+k) cs _ fz hb,hc k (dg ds k) (Vi Qk)];rfl
def ZP.take{w:World}{A:Option Addr}{n c:Nat}{ds:List Nat}(h:ZP w (.slice A n c) ds){k c':Nat}(hk:k<=n)(hc:k<=c')(hm:c'<=maxLen):ZP w (.slice A k c') (ds.take k):=by
 obtain⟨hl,g,_,_⟩:=h.len;obtain⟨A',c1,hv,h1,h2,h3,h4⟩:=h;injection hv with e1 e2 e3;subst e1 e3;have a:(ds.take k).length=k:=by rw[kN];omega
 refine⟨A,c',by rw[a],by rw[a];exact hc,hm,Zll h3 k,λhp=>?_⟩;rw[a]at hp;obtain⟨b,f,cs,fz,hA,hb,e⟩:=h4 Qk;refine⟨b,f,cs,fz,hA,hb,λj d hj=>e j d ?_⟩;rw[iZ]at hj;split at hj
 ·exact hj
 ·cases hj
def ZP.nil(w:World)(A:Option Addr)(c:Nat)(hm:c<=maxLen):ZP w (.slice A 0 c) []:=
 ⟨A,c,rfl,by simp,hm,okD_nil,λh=>absurd h (by simp)⟩
def YU(w:World)(g:Nat)(ds:List Nat):Prop:=w.heap[g]? =some (.cells (ds.map uc).toArray 71 (0,0))
def YU.lt{w:World}{g:Nat}{ds:List Nat}(h:YU w g ds):g<w.heap.size:=ZU h
def YU.cell{w:World}{g:Nat}{ds:List Nat}(h:YU w g ds){k:Nat}(hk:k<ds.length):w.cell? ⟨g,k,none⟩=some (.int .u32 (di ds k)):=by
 rw[eB w g k _ _ _ h];simp[Vi hk,uc,di]
def YU.frozen{w:World}{g:Nat}{ds:List Nat}(h:YU w g ds)(k:Nat):w.frozen? ⟨g,k,none⟩=false:=frozen_of_row w g k _ _ h
def YU.new(w:World)(ds:List Nat):YU (w.alloc (.cells (ds.map uc).toArray 71)) w.heap.size ds:=vo w _
def YU.set_{w:World}{g:Nat}{ds:List Nat}(h:YU w g ds)(k d:Nat):YU (w.setCell ⟨g,k,none⟩ (.int .u32 (d:Int))) g (ds.set k d):=by
 unfold YU at h⊢;rw[Ba w g k _ _ _ h];simp[uc,List.map_set]
def YU.setI{w:World}{g:Nat}{ds:List Nat}(h:YU w g ds)(k:Nat){z:Int}(hz:0<=z):YU (w.setCell ⟨g,k,none⟩ (.int .u32 z)) g (ds.set k z.toNat):=by
 have:=h.set_ k z.toNat
 rwa[jv hz]at this
def YU.below{w w':World}{B g:Nat}{ds:List Nat}(h:YU w g ds)(hb:Below B w w')(hg:g<B):YU w' g ds:=(hb.block g hg).trans h
def YU.dig{w:World}{g:Nat}{ds:List Nat}(h:YU w g ds)(ok:okD ds){c:Nat}(hc:ds.length<=c)(hm:c<=maxLen):ZP w (.slice (some ⟨g,0,none⟩) ds.length c) ds:=
 ⟨_,c,rfl,hc,hm,ok,λ_=>⟨g,0,_,_,rfl,h,λk d hk=>by simp[hk,uc]⟩⟩
def zc(n:Nat):Array Value:=((List.replicate n 0).map uc).toArray
def YU.zeros(w:World)(n:Nat):YU (w.alloc (.cells (zc n) 71)) w.heap.size (List.replicate n 0):=YU.new w _
def Yfr(n:Nat):madeCells (Value.cells (.int .u32 0)) (n*1)=zc n:=by
 simp[madeCells,Value.cells,uc,zc];apply Array.ext
 ·simp
 ·intro i h1 h2;simp[Nat.mod_one]
def info_u32:(prog.info? 71).map (λi=>(i.zero,i.size,i.bytes))=some (some (.int .u32 0),1,4):=Qm
def YV(n:Nat)(hn:n<=1099511627776)(w:World):
 (Instr.makeSlice 45 (.int .i64 (n:Int)) (.int .i64 (n:Int))).run prog w= .ok (.slice (some ⟨w.heap.size,0,none⟩) n n) (w.alloc (.cells (zc n) 71)):=by
 obtain⟨i0,hi,a,b,c⟩:=kL info_u32;have hb:(i0.bytes:Int)* (n:Int)<=281474976710656:=by rw[c];omega
 have hr:=BN (P:=prog) w 45 71 i0 _ underlying45 hi a .i64 .i64 n n Qk Qk hb Qk;simp only[JP,b]at hr;rw[hr,Yfr]
def Ztv{w:World}{A:Option Addr}{n c k:Nat}{ds:List Nat}(h:ZP w (.slice A n c) ds)(hk:k<=n)(hz:∀i,k<=i->dg ds i=0)(hl:k=0\/dg ds (k - 1)≠0):
 ZP w (.slice A k k) (Zp (val ds)):=by
 obtain⟨h1,h2,h3,h4⟩:=h.len;rw[Znw h.ok Qk hz hl];exact h.take hk (JY _) (by unfold maxLen;omega)
def Z7(v:Value)(ds:List Nat)(w:World)(h:ZP w v ds):
 Calls prog 134 #[v] w λe w'=>∃v',e= .returned v'/\ZP w v' (Zp (val ds))/\w=w':=by
 obtain⟨A,n,c,rfl⟩:=h.shape;obtain⟨hl,f,g,hc⟩:=h.len;go_enter func134,ntmps134;go_wp2
 go_loop [3] (λx=>∃k:Nat,k<=n/\x= .int .i64 k/\∀i,k<=i->dg ds i=0) (λx=>(intOf x).toNat)
 case atStart=>exact⟨n,JY _,rfl,λi hi=>VU Qk⟩
 case round=>
  obtain⟨k,hk,rfl,hz⟩:=hrel;have HZ:=JZ hz;clear hz;rcases JV k with h0|h0
  ·subst h0;go_wp2;go_ret;exact⟨_,rfl,Ztv h hk HZ.out (.inl rfl),rfl⟩
  ·obtain⟨j,rfl⟩:∃j,k=j+1:=⟨k - 1,Qk⟩;obtain⟨b,l,rfl,_,a⟩:=h.at_ Qk;have d:=a j Qk;clear a;by_cases hd:dg ds j=0
   ·have hb:=Zbl hd;have HD:=JZ hd;clear hd;go_wp2
    go_round
    case rel=>exact⟨j,Qk,by go_num,λi hi=>by
     rcases kH hi with e|e
     ·exact e▸HD.out
     ·exact HZ.out i e⟩
    case measure=>simp[intOf]
   ·have hb:=UJ hd;have HD:=JZ hd;clear hd;go_wp2;go_ret;exact⟨_,rfl,Ztv h hk HZ.out (.inr (by simpa using HD.out)),rfl⟩
def Ymb(w:World)(z:Int)(hd:z<4294967296)(h0:0<z):ZP (w.alloc (.cells #[.int .u32 z] 71)) (.slice (some ⟨w.heap.size,0,none⟩) 1 1) (Zp z.toNat):=by
 obtain⟨d,rfl⟩:=JT (Int.le_of_lt h0);rw[JP,Zgh Qk (by unfold B32;omega)];have:=YU.dig (YU.new w [d]) (by simp[okD,B32];omega) (c:=1) (by simp) (by simp[maxLen]);simpa[uc]using this
def Ymc(w:World)(z:Int)(h:4294967296<=z)(h2:z<=18446744073709551615):
 ZP (w.alloc (.cells #[.int .u32 (z%4294967296),.int .u32 (z/4294967296)] 71)) (.slice (some ⟨w.heap.size,0,none⟩) 2 2) (Zp z.toNat):=by
 obtain⟨n,rfl⟩:=JT (show 0<=z by omega);rw[JP,Ztu (by unfold B32;omega) (by unfold B32;omega)];have:=YU.dig (YU.new w [n%B32,n/B32]) (by simp[okD,B32];omega) (c:=2) (by simp) (by simp[maxLen]);simpa[uc,B32]using this
def Y2(z:Int)(w:World)(hz:0<=z)(hn:z<=18446744073709551615):
 Calls prog 131 #[.int .u64 z] w λe w'=>∃v',e= .returned v'/\ZP w' v' (Zp z.toNat)/\Below w.heap.size w w':=by
 rcases iM hz with h0|h0
 ·rcases jR z 4294967296 with h1|h1
  ·go_enter func131,ntmps131;go_wp2;go_ret;exact⟨_,rfl,Ymb w z h1 h0,(JR _ _).alloc (JY _) _⟩
  ·go_enter func131,ntmps131;go_wp2;go_ret;exact⟨_,rfl,Ymc w z h1 hn,(JR _ _).alloc (JY _) _⟩
 ·subst h0;go_enter func131,ntmps131;go_wp2;go_ret;exact⟨_,rfl,by simp only[Int.toNat_zero,digs_zero];exact ZP.nil _ _ _ (by simp),JR _ _⟩
def below_drewN'(w:World)(n:Nat):Below w.heap.size w (w.drewN n):=⟨rfl,rfl,rfl,JY _,λ_ _=>rfl⟩
def u64_in(x:Int)(h0:0<=x)(h1:x<=18446744073709551615):IntKind.u64.wrap x=x:=by
 simp only[IntKind.wrap,IntKind.bits,IntKind.signed];simp;omega
def Zag{x y:Int}(x0:0<=x)(x1:x<=4294967295)(y0:0<=y)(y1:y<=4294967295):bits .or .u64 (y*4294967296) x=y*4294967296+x:=by
 obtain⟨a,rfl⟩:=JT x0;obtain⟨b,rfl⟩:=JT y0;have e:((b:Int)*4294967296)=((b*4294967296:Nat):Int):=Qk
 rw[e,u64_or_nat _ _ Qk Qk];have h:b*4294967296 ||| a=b*4294967296+a:=by
  have:=kU (i:=32) (b:=a) Qk b;rw[il,show(2:Nat)^32=4294967296 from rfl]at this;omega
 rw[h];omega
def Vf(v:Value)(n:Nat)(w:World)(h:ZP w v (Zp n))(hn:n<B32*B32):
 Calls prog 173 #[v] w λe w'=>e= .returned (.int .u64 (n:Int))/\Below w.heap.size w w':=by
 obtain⟨A,l,c,rfl⟩:=h.shape;obtain⟨hl,d,k,hc⟩:=h.len;rcases JV n with h0|h0
 ·subst h0;rw[digs_zero]at hl;obtain rfl:l=0:=by simpa using hl
  clear d;go_enter func173,ntmps173;go_wp2;go_ret;exact⟨rfl,JR _ _⟩
 ·obtain⟨b,m,rfl,_,a⟩:=h.at_ (by have:=Xe h0;omega);rcases JX n B32 with h1|h1
  ·rw[Zgh h0 h1]at hl d a;obtain rfl:l=1:=by simp at hl d;omega
   have f:=a 0 Qk;have e0:di [n] 0=(n:Int):=(by simp[di,dg]);rw[e0,dI]at f;have hh:(n:Int)<=4294967295:=(by unfold B32 at h1;omega);have j:0<=(n:Int):=Qk;generalize(n:Int)=z at *;clear a h hn h1 hl d e0;go_enter func173,ntmps173;go_wp2;go_ret;exact⟨rfl,JR _ _⟩
  ·rw[Ztu h1 hn]at hl d a;obtain rfl:l=2:=by simp at hl d;omega
   have f:=a 0 Qk;have g:=a 1 Qk;have e0:di [n%B32,n/B32] 0=((n%B32:Nat):Int):=(by simp[di,dg]);have e1:di [n%B32,n/B32] 1=((n/B32:Nat):Int):=(by simp[di,dg]);rw[e0,dI]at f;rw[e1]at g;obtain⟨x,hx⟩:∃x:Int,x=((n%B32:Nat):Int):=⟨_,rfl⟩;obtain⟨y,hy⟩:∃y:Int,y=((n/B32:Nat):Int):=⟨_,rfl⟩;rw[<-hx]at f;rw[<-hy]at g;have i:(n:Int)=y*4294967296+x:=(by rw[hx,hy];unfold B32;omega);have x0:0<=x:=Qk;have x1:x<=4294967295:=(by rw[hx];unfold B32;omega);have y0:0<=y:=Qk;have y1:y<=4294967295:=(by rw[hy];unfold B32 at hn⊢;omega);rw[i];clear a h hn h1 hl d e0 e1 hx hy i h0;have r1:IntKind.u64.wrap x=x:=u64_in x x0 Qk;have r2:IntKind.u64.wrap y=y:=u64_in y y0 Qk;have r3:IntKind.u64.wrap (y*4294967296)=y*4294967296:=u64_in _ Qk Qk;have r4:=Zag x0 x1 y0 y1;go_enter func173,ntmps173;go_wp2
   go_quiet (fail)
   go_wp2;go_ret;exact⟨rfl,below_drewN' _ _⟩
def VW{k:IntKind}{a b:Int}(h:a=b):Ending.returned (.int k a)= .returned (.int k b):=by rw[h]
def Zzs{a b l:Nat}{z:Int}(h1:(Zp a).length=l)(h2:(Zp b).length=l)(h3: -1<=z)(h4:z<0)(h:∀i:Nat,z<i->dg (Zp a) i=dg (Zp b) i):0=cmpN a b:=by
 rw[Zrf];exact Yfq (Zlm Qk (λj=>h j Qk))
def Ztw{a b l j:Nat}(h1:(Zp a).length=l)(h2:(Zp b).length=l)(h:∀i:Nat,(j:Int)<i->dg (Zp a) i=dg (Zp b) i)(g:dg (Zp a) j<dg (Zp b) j):cmpN a b= -1:=by
 refine UL ?_;have:=Zcg (Z8 a) Qk (λi hi=>h i Qk) g
 rwa[Zn,Zn]at this
def Ztx{a b l j:Nat}(h1:(Zp a).length=l)(h2:(Zp b).length=l)(h:∀i:Nat,(j:Int)<i->dg (Zp a) i=dg (Zp b) i)(g:dg (Zp b) j<dg (Zp a) j):cmpN a b=1:=by
 refine Zha ?_;have:=Zcg (Z8 b) Qk (λi hi=>(h i Qk).symm) g
 rwa[Zn,Zn]at this
def Yi(v1 v2:Value)(a b:Nat)(w:World)(h1:ZP w v1 (Zp a))(h2:ZP w v2 (Zp b)):
 Calls prog 142 #[v1,v2] w λe w'=>e= .returned (.int .i64 (cmpN a b))/\Below w.heap.size w w':=by
 obtain⟨A,l,c,rfl⟩:=h1.shape;obtain⟨hl,p,r,hc⟩:=h1.len;obtain⟨A2,l2,c2,rfl⟩:=h2.shape;obtain⟨kl,s,t,kc⟩:=h2.len;rcases kF l l2 with hlt|heq|hgt
 ·have e:cmpN a b= -1:=UL (Zce Qk);rw[e];go_enter func142,ntmps142;go_wp2;go_ret;exact⟨rfl,JR _ _⟩
 ·subst heq;go_enter func142,ntmps142;go_wp2
  go_loopw [5] (λx wr=>∃(z:Int) (q:Nat),-1<=z/\z<l/\x= .int .i64 z/\wr=w.drewN q/\∀i:Nat,z<i->dg (Zp a) i=dg (Zp b) i) (λx _=>(intOf x+1).toNat)
  case atStart=>exact⟨(l:Int) - 1,0,Qk,Qk,rfl,rfl,λi hi=>by rw[VU Qk,VU Qk]⟩
  case round=>
   obtain⟨z,q,h,hk,rfl,rfl,hz⟩:=hrel;have HZ:=JZ hz;clear hz;rcases jR z 0 with h0|h0
   ·go_wp2;go_ret;exact⟨VW (Zzs (l:=l) Qk Qk h h0 HZ.out),below_drewN' _ _⟩
   ·obtain⟨j,rfl⟩:=JT h0;obtain⟨b1,k,rfl,_,d⟩:=h1.at_ Qk;obtain⟨b2,m,rfl,_,f⟩:=h2.at_ Qk;have n:=d j Qk;have o:=f j Qk;clear d f;rcases kF (dg (Zp a) j) (dg (Zp b) j)with g|g|g
    ·have t1:(di (Zp a) j !=di (Zp b) j)=true:=(by simp[di];omega);have t2:decide (di (Zp a) j<di (Zp b) j)=true:=(by simp[di];omega);have HG:=JZ g;clear g;go_wp2
     go_quiet (fail)
     go_wp2
     go_quiet (fail)
     go_wp2;go_ret;exact⟨VW (Ztw (l:=l) Qk Qk HZ.out HG.out).symm,by simp only[vN];exact below_drewN' _ _⟩
    ·have t1:(di (Zp a) j !=di (Zp b) j)=false:=(by simp[di];omega);have HG:=JZ g;clear g;go_wp2
     go_quiet (fail)
     go_wp2;go_roundw
     case rel=>exact⟨(j:Int) - 1,q+nq,Qk,Qk,rfl,rfl,λi hi=>by
      rcases kH (show j<=i by omega)with e|e
      ·exact e▸HG.out
      ·exact HZ.out i Qk⟩
     case measure=>simp[intOf]
    ·have t1:(di (Zp a) j !=di (Zp b) j)=true:=(by simp[di];omega);have t2:decide (di (Zp a) j<di (Zp b) j)=false:=(by simp[di];omega);have HG:=JZ g;clear g;go_wp2
     go_quiet (fail)
     go_wp2
     go_quiet (fail)
     go_wp2;go_ret;exact⟨VW (Ztx (l:=l) Qk Qk HZ.out HG.out).symm,by simp only[vN];exact below_drewN' _ _⟩
 ·have e:cmpN a b=1:=Zha (Zce Qk);rw[e];go_enter func142,ntmps142;go_wp2;go_ret;exact⟨rfl,JR _ _⟩
def XZ{w wr:World}{B b off n:Nat}{ds:List Nat}(hb:Below B w wr)(hlt:b<B)(h:∀k,k<n->w.cell? ⟨b,off+k,none⟩=some (.int .u32 (di ds k))){k:Nat}(hk:k<n):
 wr.cell? ⟨b,off+k,none⟩=some (.int .u32 (di ds k)):=(hb.cell (p:=⟨b,off+k,none⟩) hlt).trans (h k hk)
def Zzt{O xs ys:List Nat}{k:Nat}{z:Int}(_hkl:k ≥ k)(hO:k+1<=O.length)(hO':O.length<=k+1)(z0:0<=z)(hx:xs.length<=k)(hy:ys.length<=k)
 (h:(vt O k:Int)+z* ((B32^k:Nat):Int)=vt xs k+vt ys k):val (O.set k z.toNat)=val xs+val ys:=by
 have e:=Xf (ds:=O) (k:=k) Qk z0;rw[XU (by simpa using hO'),h,XU hx,XU hy]at e;omega
def Zzu(v1 v2:Value)(xs ys:List Nat)(w:World)(h1:ZP w v1 xs)(h2:ZP w v2 ys)(hle:ys.length<=xs.length)(hs:xs.length<=549755813888):
 Calls prog 165 #[v1,v2] w λe w'=>∃v',e= .returned v'/\ZP w' v' (Zp (val xs+val ys))/\Below w.heap.size w w':=by
 obtain⟨A,l,c,rfl⟩:=h1.shape;obtain⟨hl,r,s,hc⟩:=h1.len;obtain⟨A2,l2,c2,rfl⟩:=h2.shape;obtain⟨kl,t,u,kc⟩:=h2.len;have o:l2<=l:=Qk
 have g:=YV (l+1) Qk
 push_cast at g
 go_enter func165,ntmps165;go_wp2;clear g
 go_loopw [6,22] (λcy i wr=>∃(k:Nat) (O:List Nat) (z:Int),k<=l/\i= .int .i64 k/\cy= .int .u64 z/\0<=z/\z<=1/\l+1<=O.length/\O.length<=l+1/\YU wr w.heap.size O/\okD O/\Below w.heap.size w wr/\
  (vt O k:Int)+z* ((B32^k:Nat):Int)=vt xs k+vt ys k) (λ_ i _=>l - (intOf i).toNat)
 case atStart=>exact⟨0,List.replicate (l+1) 0,0,Qk,rfl,rfl,Qk,Qk,by simp,by simp,YU.zeros w _,ZJ _,(JR _ _).alloc (JY _) _,by simp[Y3]⟩
 case round=>
  obtain⟨k,O,z,hk,rfl,rfl,z0,z1,hO,f,hB,ok,d,h⟩:=hrel;have HE:=JZ h;clear h;rcases JX k l with hkl|hkl
  ·obtain⟨b1,p,rfl,m,a⟩:=h1.at_ Qk;have hx:=XZ d m a hkl;have x0:=Zr xs k;have x1:=Yl h1.ok k;have ho:=hB.cell (k:=k) Qk;have hf:=hB.frozen k;clear a;rcases JX k l2 with hk2|hk2
   ·obtain⟨b2,q,rfl,n,b⟩:=h2.at_ Qk;have hy:=XZ d n b hk2;have y0:=Zr ys k;have y1:=Yl h2.ok k;clear b;go_wp2;go_roundw
    case rel=>exact⟨k+1,O.set k ((z+di xs k+di ys k)%4294967296).toNat,_,Qk,by go_num,rfl,Qk,Qk,by simpa using hO,by simpa using f,hB.setI k Qk,ZK ok k (by unfold B32;omega),d.setCell (JY _) _,Ui Qk z0 rfl HE.out⟩
    case measure=>exact Qn
   ·have hy:0=di ys k:=(by rw[Yx,VU Qk];rfl);have HY:=JZ hy;clear hy;go_wp2;go_roundw
    case rel=>exact⟨k+1,O.set k ((z+di xs k)%4294967296).toNat,_,Qk,by go_num,rfl,Qk,Qk,by simpa using hO,by simpa using f,hB.setI k Qk,ZK ok k (by unfold B32;omega),d.setCell (JY _) _,by have:=Ui Qk z0 HY.out HE.out;simpa using this⟩
    case measure=>exact Qn
  ·obtain rfl:k=l:=Qk
   have ho:=hB.cell (k:=k) Qk;have hf:=hB.frozen k;have j:=hB.setI k z0;go_wp2_with fail;refine(Z7 _ (O.set k z.toNat) _ ?_).mono ?_
   ·have:=j.dig (ZK ok k (by unfold B32;omega)) (c:=k+1) (by simpa using f) (by unfold maxLen;omega)
    rwa[show(O.set k z.toNat).length=k+1 from by simp;omega]at this
   rintro e w1 ⟨v',rfl,hv,rfl⟩;go_wp2_with fail;go_ret;refine⟨_,rfl,?_,d.setCell (JY _) _⟩
   rwa[Zzt hkl hO f z0 Qk Qk HE.out]at hv
def Zzv(v1 v2:Value)(xs ys:List Nat)(w:World)(h1:ZP w v1 xs)(h2:ZP w v2 ys)(hle:ys.length<xs.length)(hs:xs.length<=549755813888):
 Calls prog 165 #[v2,v1] w λe w'=>∃v',e= .returned v'/\ZP w' v' (Zp (val xs+val ys))/\Below w.heap.size w w':=by
 obtain⟨A,l,c,rfl⟩:=h1.shape;obtain⟨hl,r,s,hc⟩:=h1.len;obtain⟨A2,l2,c2,rfl⟩:=h2.shape;obtain⟨kl,t,u,kc⟩:=h2.len;have o:l2<l:=Qk
 have g:=YV (l+1) Qk
 push_cast at g
 go_enter func165,ntmps165;go_wp2;clear g
 go_loopw [6,22] (λcy i wr=>∃(k:Nat) (O:List Nat) (z:Int),k<=l/\i= .int .i64 k/\cy= .int .u64 z/\0<=z/\z<=1/\l+1<=O.length/\O.length<=l+1/\YU wr w.heap.size O/\okD O/\Below w.heap.size w wr/\
  (vt O k:Int)+z* ((B32^k:Nat):Int)=vt xs k+vt ys k) (λ_ i _=>l - (intOf i).toNat)
 case atStart=>exact⟨0,List.replicate (l+1) 0,0,Qk,rfl,rfl,Qk,Qk,by simp,by simp,YU.zeros w _,ZJ _,(JR _ _).alloc (JY _) _,by simp[Y3]⟩
 case round=>
  obtain⟨k,O,z,hk,rfl,rfl,z0,z1,hO,f,hB,ok,d,h⟩:=hrel;have HE:=JZ h;clear h;rcases JX k l with hkl|hkl
  ·obtain⟨b1,p,rfl,m,a⟩:=h1.at_ Qk;have hx:=XZ d m a hkl;have x0:=Zr xs k;have x1:=Yl h1.ok k;have ho:=hB.cell (k:=k) Qk;have hf:=hB.frozen k;clear a;rcases JX k l2 with hk2|hk2
   ·obtain⟨b2,q,rfl,n,b⟩:=h2.at_ Qk;have hy:=XZ d n b hk2;have y0:=Zr ys k;have y1:=Yl h2.ok k;clear b;go_wp2;go_roundw
    case rel=>exact⟨k+1,O.set k ((z+di xs k+di ys k)%4294967296).toNat,_,Qk,by go_num,rfl,Qk,Qk,by simpa using hO,by simpa using f,hB.setI k Qk,ZK ok k (by unfold B32;omega),d.setCell (JY _) _,Ui Qk z0 rfl HE.out⟩
    case measure=>exact Qn
   ·have hy:0=di ys k:=(by rw[Yx,VU Qk];rfl);have HY:=JZ hy;clear hy;go_wp2;go_roundw
    case rel=>exact⟨k+1,O.set k ((z+di xs k)%4294967296).toNat,_,Qk,by go_num,rfl,Qk,Qk,by simpa using hO,by simpa using f,hB.setI k Qk,ZK ok k (by unfold B32;omega),d.setCell (JY _) _,by have:=Ui Qk z0 HY.out HE.out;simpa using this⟩
    case measure=>exact Qn
  ·obtain rfl:k=l:=Qk
   have ho:=hB.cell (k:=k) Qk;have hf:=hB.frozen k;have j:=hB.setI k z0;go_wp2_with fail;refine(Z7 _ (O.set k z.toNat) _ ?_).mono ?_
   ·have:=j.dig (ZK ok k (by unfold B32;omega)) (c:=k+1) (by simpa using f) (by unfold maxLen;omega)
    rwa[show(O.set k z.toNat).length=k+1 from by simp;omega]at this
   rintro e w1 ⟨v',rfl,hv,rfl⟩;go_wp2_with fail;go_ret;refine⟨_,rfl,?_,d.setCell (JY _) _⟩
   rwa[Zzt hkl hO f z0 Qk Qk HE.out]at hv
def Zeg(v1 v2:Value)(xs ys:List Nat)(w:World)(h1:ZP w v1 xs)(h2:ZP w v2 ys)(hx:xs.length<=549755813888)(hy:ys.length<=549755813888):
 Calls prog 165 #[v1,v2] w λe w'=>∃v',e= .returned v'/\ZP w' v' (Zp (val xs+val ys))/\Below w.heap.size w w':=by
 rcases JX xs.length ys.length with h|h
 ·rw[BJ];exact Zzv v2 v1 ys xs w h2 h1 h hy
 ·exact Zzu v1 v2 xs ys w h1 h2 h hx
def Zah(v1 v2:Value)(xs ys:List Nat)(w:World)(h1:ZP w v1 xs)(h2:ZP w v2 ys)(hle:val ys<=val xs)(hlen:ys.length<=xs.length)(hs:xs.length<=549755813888):
 Calls prog 166 #[v1,v2] w λe w'=>∃v',e= .returned v'/\ZP w' v' (Zp (val xs - val ys))/\Below w.heap.size w w':=by
 have HL:=JZ hle;clear hle;obtain⟨A,l,c,rfl⟩:=h1.shape;obtain⟨hl,p,q,hc⟩:=h1.len;obtain⟨A2,l2,c2,rfl⟩:=h2.shape;obtain⟨kl,r,s,kc⟩:=h2.len;have h:=YV l Qk;go_enter func166,ntmps166;go_wp2;clear h
 go_loopw [6,15] (λcy i wr=>∃(k:Nat) (O:List Nat) (z:Int),k<=l/\i= .int .i64 k/\cy= .int .i64 z/\0<=z/\z<=1/\l<=O.length/\O.length<=l/\YU wr w.heap.size O/\okD O/\Below w.heap.size w wr/\
  (vt O k:Int) - z* ((B32^k:Nat):Int)=vt xs k - vt ys k) (λ_ i _=>l - (intOf i).toNat)
 case atStart=>exact⟨0,List.replicate l 0,0,Qk,rfl,rfl,Qk,Qk,by simp,by simp,YU.zeros w _,ZJ _,(JR _ _).alloc (JY _) _,by simp[Y3]⟩
 case round=>
  obtain⟨k,O,z,hk,rfl,rfl,z0,z1,hO,f,hB,ok,a,g⟩:=hrel;have HE:=JZ g;clear g;rcases JX k l with hkl|hkl
  ·obtain⟨b1,n,rfl,j,b⟩:=h1.at_ Qk;have hx:=XZ a j b hkl;have x0:=Zr xs k;have x1:=Yl h1.ok k;have ho:=hB.cell (k:=k) Qk;have hf:=hB.frozen k;clear b;rcases JX k l2 with hk2|hk2
   ·obtain⟨b2,o,rfl,m,d⟩:=h2.at_ Qk;have hy:=XZ a m d hk2;have y0:=Zr ys k;have y1:=Yl h2.ok k;clear d;go_wp2
    ·go_roundw
     case rel=>exact⟨k+1,O.set k ((di xs k - z - di ys k)%4294967296).toNat,1,Qk,by go_num,rfl,Qk,Qk,by simpa using hO,by simpa using f,hB.setI k Qk,ZK ok k (by unfold B32;omega),a.setCell (JY _) _,Zcd Qk rfl Qk Qk HE.out⟩
     case measure=>exact Qn
    ·go_roundw
     case rel=>exact⟨k+1,O.set k (di xs k - z - di ys k).toNat,0,Qk,by go_num,rfl,Qk,Qk,by simpa using hO,by simpa using f,hB.setI k Qk,ZK ok k (by unfold B32;omega),a.setCell (JY _) _,Zcd Qk rfl Qk Qk HE.out⟩
     case measure=>exact Qn
   ·have hy:0=di ys k:=(by rw[Yx,VU Qk];rfl);have HY:=JZ hy;clear hy;go_wp2
    ·go_roundw
     case rel=>exact⟨k+1,O.set k ((di xs k - z)%4294967296).toNat,1,Qk,by go_num,rfl,Qk,Qk,by simpa using hO,by simpa using f,hB.setI k Qk,ZK ok k (by unfold B32;omega),a.setCell (JY _) _,Zcd Qk HY.out Qk Qk HE.out⟩
     case measure=>exact Qn
    ·go_roundw
     case rel=>exact⟨k+1,O.set k (di xs k - z).toNat,0,Qk,by go_num,rfl,Qk,Qk,by simpa using hO,by simpa using f,hB.setI k Qk,ZK ok k (by unfold B32;omega),a.setCell (JY _) _,Zcd Qk HY.out Qk Qk HE.out⟩
     case measure=>exact Qn
  ·obtain rfl:k=l:=Qk
   go_wp2_with fail;refine(Z7 _ O _ ?_).mono ?_
   ·have:=hB.dig ok (c:=k) f (by unfold maxLen;omega)
    rwa[show O.length=k from Qk]at this
   rintro e w1 ⟨v',rfl,hv,rfl⟩;go_wp2_with fail;go_ret;refine⟨_,rfl,?_,a⟩
   rwa[Zzr (show O.length=k by omega) ok z0 Qk Qk HL.out HE.out]at hv
namespace Pl
def Yfs{V1 V2 o p b x d:Nat}(h:V1+o*p=V2+d*p):x+b*V1+o* (p*b)=x+b*V2+d* (p*b):=by
 have h1:b* (V1+o*p)=b* (V2+d*p):=by rw[h]
 rw[iY,iY]at h1;have e1:o* (p*b)=b* (o*p):=by rw[<-kG,jQ]
 have e2:d* (p*b)=b* (d*p):=by rw[<-kG,jQ]
 omega
def Zhb{ds:List Nat}{i:Nat}{z:Int}(h:i<ds.length)(hz:0<=z):((val (ds.set i z.toNat):Nat):Int)=val ds+(z - di ds i)* ((B32^i:Nat):Int):=by
 have e:∀(l:List Nat) (i d:Nat),i<l.length->val (l.set i d)+dg l i*B32^i=val l+d*B32^i:=by
  intro l
  induction l with
  |nil=>intro i d h;simp at h
  |cons x l ih=>
   intro i d h
   cases i with
   |zero=>simp[val,dg];omega
   |succ i=>
    have:=ih i d (by simpa using h);have e1:dg (x::l) (i+1)=dg l i:=(by simp[dg]);rw[jO,e1];simp only[val,jf];generalize B32^i=p at *;generalize B32=b at *;generalize val (l.set i d)=V1 at *;generalize val l=V2 at *;generalize dg l i=o at *;exact Yfs this
 have h1:=e ds i z.toNat h;have h2:((val (ds.set i z.toNat):Nat):Int)+di ds i* ((B32^i:Nat):Int)=val ds+z* ((B32^i:Nat):Int):=by
  have:=congrArg (λn:Nat=>(n:Int)) h1;simp only[vG,jF,jv hz]at this;exact this
 rw[fZ];omega
def Yft(V V0 o r z q d f p pk pj yj:Int)(h:V+z*p=V0+d*pk*yj)(e:z+(d*f+o)=r+4294967296*q)(hp:p=pk*pj):V+(r - o)*p+q* (p*4294967296)=V0+d*pk* (yj+f*pj):=by
 subst hp;grind
def Zty{O ys:List Nat}{k j:Nat}{z d r q V0:Int}(hk:k+j<O.length)(hr:0<=r)(e:z+(d*di ys j+di O (k+j))=r+4294967296*q)
 (h:(val O:Int)+z* ((B32^(k+j):Nat):Int)=V0+d* ((B32^k:Nat):Int)*vt ys j):
 (val (O.set (k+j) r.toNat):Int)+q* ((B32^(k+(j+1)):Nat):Int)=V0+d* ((B32^k:Nat):Int)*vt ys (j+1):=by
 rw[Zhb hk hr,<-ve,YL,Z4];exact Yft _ _ _ _ _ _ _ _ _ _ _ _ h e (by rw[iG,jF])
def Zzw{O ys:List Nat}{k:Nat}{z d V0:Int}(hk:k+ys.length<O.length)(hz:0<=z)(h0:dg O (k+ys.length)=0)
 (h:(val O:Int)+z* ((B32^(k+ys.length):Nat):Int)=V0+d* ((B32^k:Nat):Int)*vt ys ys.length):
 (val (O.set (k+ys.length) z.toNat):Int)=V0+d* ((B32^k:Nat):Int)*val ys:=by
 rw[Zhb hk hz,Yx,h0,<-Ykq ys,<-h];simp
def Zhc{xs ys:List Nat}{k:Nat}{V V':Int}(h:V=(vt xs k:Int)*val ys)(h':V'=V+di xs k* ((B32^k:Nat):Int)*val ys):V'=(vt xs (k+1):Int)*val ys:=by
 rw[h',h,Z4,iH]
def Zln(ds:List Nat)(j:Nat):val (ds.drop j)=dg ds j+B32*val (ds.drop (j+1)):=by
 rcases JX j ds.length with h|h
 ·rw[iK h];have:ds[j]=dg ds j:=by simp[dg,h]
  rw[this];rfl
 ·rw[kX h,kX Qk,VU h];simp[val]
def Zzx(x V Q r d b q m:Nat)(h:V=d*Q+r)(e:r*b+x=d*q+m):x+b*V=d* (q+b*Q)+m:=by
 subst h;have e1:b* (d*Q+r)=d* (b*Q)+r*b:=by
  rw[iY,vw,jQ b r]
 rw[e1,iY];omega
def Zzy{ds Q:List Nat}{j r d:Nat}(hj:j<Q.length)(h:val (ds.drop (j+1))=d*val (Q.drop (j+1))+r):
 val (ds.drop j)=d*val ((Q.set j ((r*B32+dg ds j)/d)).drop j)+(r*B32+dg ds j)%d:=by
 rw[Zln,Zln (Q.set j _) j,UI hj,List.drop_set_of_lt Qk];exact Zzx _ _ _ _ _ _ _ _ h (vU _ _).symm
end Pl
def V6{w w1:World}(h:Below w.drew.heap.size w.drew w1):Below w.heap.size w w1:=((JR _ w).drew).trans h
def Zwv(v1 v2:Value)(xs ys:List Nat)(w:World)(h1:ZP w v1 xs)(h2:ZP w v2 ys)(h0:xs.length=0\/ys.length=0):
 Calls prog 141 #[v1,v2] w λe w'=>∃v',e= .returned v'/\ZP w' v' (Zp (val xs*val ys))/\Below w.heap.size w w':=by
 have e0:val xs*val ys=0:=by
  rcases h0 with h|h
  ·rw[iX.1 h];simp[val]
  ·rw[iX.1 h];simp[val]
 rw[e0,digs_zero];clear e0;obtain⟨A,l,c,rfl⟩:=h1.shape;obtain⟨hl,a,b,hc⟩:=h1.len;obtain⟨A2,l2,c2,rfl⟩:=h2.shape;obtain⟨kl,d,f,kc⟩:=h2.len;rcases JV l with g|g
 ·obtain rfl:l=0:=g;go_enter func141,ntmps141;go_wp2;go_ret;exact⟨_,rfl,ZP.nil _ _ _ (by simp),JR _ _⟩
 ·obtain rfl:l2=0:=Qk
  have hb:((l:Int)==0)=false:=by simp;omega
  go_enter func141,ntmps141;go_wp2;go_ret;exact⟨_,rfl,ZP.nil _ _ _ (by simp),JR _ _⟩
def Zww(v1 v2:Value)(xs ys:List Nat)(w:World)(h1:ZP w v1 xs)(h2:ZP w v2 ys)(g1:xs.length=1)(g2:ys.length=1):
 Calls prog 141 #[v1,v2] w λe w'=>∃v',e= .returned v'/\ZP w' v' (Zp (val xs*val ys))/\Below w.heap.size w w':=by
 obtain⟨x,rfl⟩:=aJ.1 g1;obtain⟨y,rfl⟩:=aJ.1 g2;obtain⟨A,l,c,rfl⟩:=h1.shape;obtain⟨hl,f,k,hc⟩:=h1.len;obtain⟨A2,l2,c2,rfl⟩:=h2.shape;obtain⟨kl,g,m,kc⟩:=h2.len;obtain rfl:l=1:=by simp at hl f;omega
 obtain rfl:l2=1:=by simp at kl g;omega
 obtain⟨b1,h,rfl,n,a⟩:=h1.at_ Qk;obtain⟨b2,i,rfl,o,b⟩:=h2.at_ Qk;have hx:=a 0 Qk;have hy:=b 0 Qk;rw[dI]at hx hy;have x0:=Zr [x] 0;have x1:=Yl h1.ok 0;have y0:=Zr [y] 0;have y1:=Yl h2.ok 0;have hv:val [x]*val [y]=(di [x] 0*di [y] 0).toNat:=by
  have:di [x] 0*di [y] 0=((x*y:Nat):Int):=by simp[di,dg]
  rw[this,JP];simp[val]
 rw[hv];clear a b hl f kl g h1 h2 hv;generalize di [x] 0=p at *;generalize di [y] 0=q at *;have p0:0<=p*q:=jY x0 y0;have p1:p*q<=4294967295*4294967295:=kK x1 y1 y0 Qk;have r1:IntKind.u64.wrap p=p:=u64_in p x0 Qk;have r2:IntKind.u64.wrap q=q:=u64_in q y0 Qk;have r3:IntKind.u64.wrap (p*q)=p*q:=u64_in _ p0 Qk;go_enter func141,ntmps141;go_wp2
 go_region_held3(λw'=>w'.cell? ⟨b1,h,none⟩=some (.int .u32 p)/\w'.cell? ⟨b2,i,none⟩=some (.int .u32 q)) (first|exact⟨hx,hy⟩|exact⟨jy d hx,jy d hy⟩)
  (first|(go_at_call 131;refine(Y2 (p*q) _ p0 Qk).mono ?_;rintro e w1 ⟨v',rfl,j,d⟩))
 go_wp2;go_ret;exact⟨_,rfl,j,V6 d⟩
def Zzz{O xs ys:List Nat}{k:Nat}(hk:xs.length<=k)(h:(val O:Int)=(vt xs k:Int)*val ys):val O=val xs*val ys:=by
 rw[XU hk,<-jF]at h;omega
def Zjz{O ys:List Nat}{k j:Nat}{z d V0:Int}(hj:ys.length=j)(hk:k+j<O.length)(hz:0<=z)(h0:dg O (k+j)=0)
 (h:(val O:Int)+z* ((B32^(k+j):Nat):Int)=V0+d* ((B32^k:Nat):Int)*vt ys j):(val (O.set (k+j) z.toNat):Int)=V0+d* ((B32^k:Nat):Int)*val ys:=by
 subst hj;exact Zzw hk hz h0 h
def Zwx(v1 v2:Value)(xs ys:List Nat)(w:World)(h1:ZP w v1 xs)(h2:ZP w v2 ys)(g1:0<xs.length)(g2:0<ys.length)(g:2<xs.length+ys.length)(hs:xs.length+ys.length<=1099511627776):
 Calls prog 141 #[v1,v2] w λe w'=>∃v',e= .returned v'/\ZP w' v' (Zp (val xs*val ys))/\Below w.heap.size w w':=by
 obtain⟨A,l,c,rfl⟩:=h1.shape;obtain⟨hl,K,L,hc⟩:=h1.len;obtain⟨A2,l2,c2,rfl⟩:=h2.shape;obtain⟨kl,M,N,kc⟩:=h2.len;obtain⟨b1,I,rfl,F,a⟩:=h1.at_ Qk;obtain⟨b2,J,rfl,G,b⟩:=h2.at_ Qk;have B:=h1.ok;have C:=h2.ok;have D:=JZ a;have E:=JZ b;clear a b h1 h2;have s:=YV (l+l2) Qk
 push_cast at s
 have t1:((l:Int)==0)=false:=by simp;omega
 have t2:((l2:Int)==0)=false:=by simp;omega
 have t:((l:Int)==1)=true/\((l2:Int)==1)=false\/((l:Int)==1)=false:=by
  by_cases h:l=1
  ·left;subst h;simp;omega
  ·right;simp;omega
 rcases t with⟨t3,t4⟩|t3;all_goals
  go_enter func141,ntmps141;go_wp2;clear s
  go_loopw [46] (λi wr=>∃(k:Nat) (O:List Nat),k<=l/\i= .int .i64 k/\l+l2<=O.length/\O.length<=l+l2/\YU wr w.heap.size O/\okD O/\Below w.heap.size w wr/\
   (val O:Int)=(vt xs k:Int)*val ys/\(∀j,k+l2<=j->dg O j=0)) (λi _=>l - (intOf i).toNat)
  case atStart=>exact⟨0,List.replicate (l+l2) 0,Qk,rfl,by simp,by simp,YU.zeros w _,ZJ _,(JR _ _).alloc (JY _) _,by simp[Y3,XY],λj _=>VG _ _⟩
  case round=>
   obtain⟨k,O,hk,rfl,hO,q,hB,ok,f,v,x⟩:=hrel;have HE:=JZ v;have HZ:=JZ x;clear v x;rcases JX k l with hkl|hkl
   ·have hx:=XZ f F D.out hkl;have x0:=Zr xs k;have x1:=Yl B k;by_cases hd:dg xs k=0
    ·have t5:=Zbl hd;have HD:=JZ hd;clear hd;go_wp2;go_roundw
     case rel=>exact⟨k+1,O,Qk,by go_num,hO,q,hB,ok,f,Zhc HE.out (by rw[Yx,HD.out];simp),λj hj=>HZ.out j Qk⟩
     case measure=>exact Qn
    ·have t5:=UJ hd;clear hd;obtain⟨wo,H⟩:∃wo:World,wo=wr:=⟨_,rfl⟩;subst H;go_wp2
     go_loopw [8,68] (λcy i wr=>∃(j:Nat) (O':List Nat) (z:Int),j<=l2/\i= .int .i64 j/\cy= .int .u64 z/\0<=z/\z<=4294967295/\l+l2<=O'.length/\O'.length<=l+l2/\YU wr w.heap.size O'/\okD O'/\Below w.heap.size w wr/\
      (val O':Int)+z* ((B32^(k+j):Nat):Int)=(val O:Int)+di xs k* ((B32^k:Nat):Int)*vt ys j/\(∀i,k+l2<=i->dg O' i=0)) (λ_ i _=>l2 - (intOf i).toNat)
     case atStart=>exact⟨0,O,0,Qk,rfl,rfl,Qk,Qk,hO,q,hB,ok,f,by simp[Y3],HZ.out⟩
     case round=>
      clear hx f hB;obtain⟨j,O',z,hj,rfl,rfl,z0,z1,hP,y,d,r,m,n,o⟩:=hrel;have u:=JZ n;have p:=JZ o;clear n o;rcases JX j l2 with hjl|hjl
      ·have hy:=XZ m G E.out hjl;have y0:=Zr ys j;have y1:=Yl C j;have p0:0<=di xs k*di ys j:=jY x0 y0;have p1:di xs k*di ys j<=4294967295*4294967295:=kK x1 y1 y0 Qk;have ho:=d.cell (k:=k+j) Qk;have hf:=d.frozen (k+j);have o0:=Zr O' (k+j);have o1:=Yl r (k+j);go_wp2;go_roundw
       case rel=>exact⟨j+1,O'.set (k+j) ((z+(di xs k*di ys j+di O' (k+j)))%4294967296).toNat,_,Qk,by go_num,rfl,Qk,Qk,by simpa using hP,by simpa using y,d.setI _ Qk,ZK r _ (by unfold B32;omega),m.setCell (JY _) _,Zty Qk Qk Qk u.out,λi hi=>by rw[Yk Qk];exact p.out i hi⟩
       case measure=>exact Qn
      ·obtain rfl:j=l2:=Qk
       have ho:=d.cell (k:=k+j) Qk;have hf:=d.frozen (k+j);go_wp2;go_roundw
       case rel=>exact⟨k+1,O'.set (k+j) z.toNat,Qk,by go_num,by simpa using hP,by simpa using y,d.setI _ Qk,ZK r _ (by unfold B32;omega),m.setCell (JY _) _,Zhc HE.out (Zjz Qk Qk z0 (p.out _ (JY _)) u.out),λi hi=>by rw[Yk Qk];exact p.out i Qk⟩
       case measure=>exact Qn
   ·obtain rfl:k=l:=Qk
    go_wp2_with fail;refine(Z7 _ O _ ?_).mono ?_
    ·have:=hB.dig ok (c:=k+l2) q (by unfold maxLen;omega)
     rwa[show O.length=k+l2 from Qk]at this
    rintro e w1 ⟨v',rfl,hv,rfl⟩;go_wp2_with fail;go_ret;refine⟨_,rfl,?_,f⟩
    rwa[Zzz Qk HE.out]at hv
def Zwy(v1 v2:Value)(xs ys:List Nat)(w:World)(h1:ZP w v1 xs)(h2:ZP w v2 ys)(hs:xs.length+ys.length<=1099511627776):
 Calls prog 141 #[v1,v2] w λe w'=>∃v',e= .returned v'/\ZP w' v' (Zp (val xs*val ys))/\Below w.heap.size w w':=by
 by_cases h:xs.length=0\/ys.length=0
 ·exact Zwv v1 v2 xs ys w h1 h2 h
 ·by_cases g:xs.length=1/\ys.length=1
  ·exact Zww v1 v2 xs ys w h1 h2 g.1 g.2
  ·exact Zwx v1 v2 xs ys w h1 h2 Qk Qk Qk hs
section
namespace Pl
def Yfx{U V V' U' q v1 top P:Nat}(hV:V=v1*P+V')(hU:U=top*P+U')(hU':U'<P)(hq:q*V<=U)(h1:0<v1):q<=top/v1:=by
 rw[Nat.le_div_iff_mul_le h1];have a1:q* (v1*P)<=q*V:=ku _ Qk;have a2:q*v1*P< (top+1)*P:=by
  rw[kG,kV,vv];omega
 have:=gK a2;omega
def Ypz{U V V' U' q G v12 top3 P:Nat}(hV:V=v12*P+V')(hU:U=top3*P+U')(hU':U'<P)(hq:q*V<=U)(h:top3<G*v12):q<G:=by
 rcases JX q G with h1|h1
 ·exact h1
 ·exfalso;have a1:G* (v12*P)<=q*V:=gL h1 Qk;have a2:(top3+1)*P<=G*v12*P:=JS _ h;rw[kV,vv]at a2;rw[<-kG]at a1;omega
def Yme{U V V' U' G v12 top3 P b:Nat}(hV:V=v12*P+V')(hU:U=top3*P+U')(hV':V'<P)(h:G*v12<=top3)(hG:G<=b)(hb:b*P<=V):G*V<=U+V:=by
 have a1:G*V=G*v12*P+G*V':=by rw[hV,iY,kG]
 have a2:G*v12*P<=top3*P:=JS _ h;have a3:G*V'<=b*P:=gL hG Qk;omega
def Yaa(O g f v p r q a b c bo y x:Int)(h:O - (c+bo)*p=a - g*b)(e1:c+g*f=y+4294967296*v)(e2:x - bo - y=r - 4294967296*q):O+r*p - (v+q)* (p*4294967296)=a+x*p - g* (b+f*p):=by grind
def Yab(X:List Nat)(m:Nat):vt X (m+3)=(dg X (m+2)*B32+dg X (m+1))*B32^(m+1)+vt X (m+1):=by
 rw[Y4,Y4,jf B32 (m+1),kV];generalize B32^(m+1)=p;generalize B32=b;have:dg X (m+2)* (p*b)=dg X (m+2)*b*p:=by rw[kG,jQ p b]
 omega
def Zri(X:List Nat)(m:Nat):vt X (m+3)=((dg X (m+2)*B32+dg X (m+1))*B32+dg X m)*B32^m+vt X m:=by
 rw[Yab,Y4 X m,jf,kV _ (dg X m)];generalize dg X (m+2)*B32+dg X (m+1)=t;generalize B32^m=p;generalize B32=b;have:t* (p*b)=t*b*p:=by rw[kG,jQ p b]
 omega
def Zrj(X:List Nat)(m:Nat):vt X (m+2)=dg X (m+1)*B32^(m+1)+vt X (m+1):=by rw[Y4,BJ]
def Ymf(X:List Nat)(m:Nat):vt X (m+2)=(dg X (m+1)*B32+dg X m)*B32^m+vt X m:=by
 rw[Zrj,Y4 X m,jf,kV];generalize B32^m=p;generalize B32=b;have:dg X (m+1)* (p*b)=dg X (m+1)*b*p:=by rw[kG,jQ p b]
 omega
section
variable {U vs:List Nat} {m q:Nat} {G R:Int}
def Ymg(okU:okD U)(hq:q*vt vs (m+2)<=vt U (m+3))(h1:1<=di vs (m+1)):(q:Int)<=(di U (m+2)*4294967296+di U (m+1))/di vs (m+1):=by
 have h:=Yfx (Zrj vs m) (Yab U m) (Zaw okU _) hq (by rw[Yx]at h1;omega);have e:(di U (m+2)*4294967296+di U (m+1))/di vs (m+1)=(((dg U (m+2)*B32+dg U (m+1))/dg vs (m+1):Nat):Int):=by
  rw[bZ,vG,jF];rfl
 rw[e];omega
def Yac(okU:okD U)(hq:q*vt vs (m+2)<=vt U (m+3))(hG:0<=G)(hR:0<=R)(e:G*di vs (m+1)+R=di U (m+2)*4294967296+di U (m+1))(t:R*4294967296+di U m<G*di vs m):(q:Int)<=G - 1:=by
 obtain⟨g,rfl⟩:=JT hG;obtain⟨r,rfl⟩:=JT hR;have e':g*dg vs (m+1)+r=dg U (m+2)*B32+dg U (m+1):=by
  rw[Yx,Yx,Yx]at e;rw[B32_eq];omega
 have t':r*B32+dg U m<g*dg vs m:=by
  rw[Yx,Yx]at t;rw[B32_eq];have:((g*dg vs m:Nat):Int)=(g:Int)* (dg vs m:Nat):=jF _ _;omega
 have h:=Ypz (G:=g) (Ymf vs m) (Zri U m) (Zaw okU _) hq (by
  rw[<-e',kV,iY];have:g* (dg vs (m+1)*B32)=g*dg vs (m+1)*B32:=(kG _ _ _).symm;omega)
 omega
def Zrk(okV:okD vs)(hG:0<=G)(hG1:G<=4294967295)(hR:0<=R)(h1:1<=di vs (m+1))(e:G*di vs (m+1)+R=di U (m+2)*4294967296+di U (m+1))(t:G*di vs m<=R*4294967296+di U m):
 G.toNat*vt vs (m+2)<=vt U (m+3)+vt vs (m+2):=by
 obtain⟨g,rfl⟩:=JT hG;obtain⟨r,rfl⟩:=JT hR;have e':g*dg vs (m+1)+r=dg U (m+2)*B32+dg U (m+1):=by
  rw[Yx,Yx,Yx]at e;rw[B32_eq];omega
 have t':g*dg vs m<=r*B32+dg U m:=by
  rw[Yx,Yx]at t;rw[B32_eq];have:((g*dg vs m:Nat):Int)=(g:Int)* (dg vs m:Nat):=jF _ _;omega
 rw[JP];refine Yme (b:=B32) (Ymf vs m) (Zri U m) (Zaw okV _) ?_ (by rw[B32_eq];omega) ?_
 ·rw[<-e',kV,iY];have:g* (dg vs (m+1)*B32)=g*dg vs (m+1)*B32:=(kG _ _ _).symm;omega
 ·rw[Ymf,jQ B32];have h2:B32^m*B32<=(dg vs (m+1)*B32+dg vs m)*B32^m:=by
   rw[jQ];refine JS _ ?_;have:1*B32<=dg vs (m+1)*B32:=JS _ (by rw[Yx]at h1;omega);omega
  omega
def Yqa(okV:okD vs)(h:vt U (m+3)<B32*vt vs (m+2)):di U (m+2)<=di vs (m+1):=by
 rcases JX (dg vs (m+1)) (dg U (m+2))with h1|h1
 ·exfalso;rw[Y4 U (m+2),Zrj vs m]at h;have a1:=Zaw okV (m+1);have a2:(dg vs (m+1)+1)*B32^(m+2)<=dg U (m+2)*B32^(m+2):=JS _ h1;rw[jf B32 (m+1)]at a2 h;generalize B32^(m+1)=p at *;generalize vt vs (m+1)=y at *;generalize dg vs (m+1)=d at *;have a3:(d+1)* (p*B32)=B32* (d*p+p):=by rw[jQ p,<-kG,jQ (d+1),kG,kV,vv]
  have a4:B32* (d*p+y)<=B32* (d*p+p):=ku _ Qk;omega
 ·rw[Yx,Yx];omega
end
def Znx{X U vs:List Nat}{k:Nat}{g c bo r q v y:Int}(hk:k<X.length)(hr:0<=r)(e1:c+g*di vs k=y+4294967296*v)(e2:di U k - bo - y=r - 4294967296*q)
 (h:(vt X k:Int) - (c+bo)* ((B32^k:Nat):Int)=vt U k - g*vt vs k):
 (vt (X.set k r.toNat) (k+1):Int) - (v+q)* ((B32^(k+1):Nat):Int)=vt U (k+1) - g*vt vs (k+1):=by
 rw[Xf hk hr,Z4,Z4,YL];exact Yaa _ _ _ _ _ _ _ _ _ _ _ _ _ h e1 e2
def Yfy{U vs X:List Nat}{n q:Nat}{g c bo:Int}(okX:okD X)(okV:okD vs)(hV:0<vt vs n)(hq:q=vt U (n+1)/vt vs n)(hg0:(q:Int)<=g)(hg1:g.toNat*vt vs n<=vt U (n+1)+vt vs n)
 (h:(vt X n:Int) - (c+bo)* ((B32^n:Nat):Int)=vt U n - g*vt vs n):
 (0<=di U n - bo - c->di U n - bo - c=0/\g=q/\vt X n=vt U (n+1)%vt vs n)/\
 (di U n - bo - c<0->di U n - bo - c= -1/\g - 1=q/\vt X n+vt vs n=vt U (n+1)%vt vs n+B32^n):=by
 obtain⟨G,rfl⟩:=JT (show 0<=g by omega);rw[JP]at hg1;have hX:=Zaw okX n;have f:=Zaw okV n;have hU:=Z4 U n;have b:=vU (vt U (n+1)) (vt vs n);have i:=iC (vt U (n+1)) hV;rw[<-hq]at b;generalize vt U (n+1)%vt vs n=R at *;generalize vt U (n+1)=UU at *;generalize vt vs n=V at *;generalize vt X n=XX at *;generalize B32^n=P at *;generalize vt U n=U0 at *;have d:G=q\/G=q+1:=by
  have:G<q+2:=by
   have a:G*V< (q+2)*V:=by
    rw[kV];have:V*q=q*V:=jQ _ _;omega
   exact gK a
  omega
 have j:(XX:Int)+(di U n - bo - c)* (P:Int)=UU - G*V:=by
  have:(di U n - bo - c)* (P:Int)=di U n* (P:Int) - (c+bo)* (P:Int):=by rw[Int.sub_sub,fZ];rw[Int.add_comm bo c]
  omega
 generalize di U n - bo - c=t at *;have k:((q*V:Nat):Int)=(q:Int)*V:=jF _ _;have e:V*q=q*V:=jQ _ _;rcases d with rfl|rfl
 ·have hR:(XX:Int)+t*P=R:=Qk
  refine⟨λh0=>?_,λh0=>?_⟩
  ·have ht:t=0:=by
    rcases iM h0 with h1|h1
    ·exfalso;have:1* (P:Int)<=t*P:=jJ Qk Qk;omega
    ·exact h1.symm
   subst ht;exact⟨rfl,rfl,Qk⟩
  ·exfalso;have:t* (P:Int)<=(-1)*P:=jJ Qk Qk;omega
 ·have hR:(XX:Int)+t*P=R - V:=by
   have:(((q+1:Nat):Int))*V=(q:Int)*V+V:=by rw[vG,iH];simp
   omega
  refine⟨λh0=>?_,λh0=>?_⟩
  ·exfalso;have:0* (P:Int)<=t*P:=jJ h0 Qk;omega
  ·have ht:t= -1:=by
    rcases iM (show t<= -1 by omega)with h1|h1
    ·exfalso;have:t* (P:Int)<=(-2)*P:=jJ Qk Qk;omega
    ·exact h1
   subst ht;exact⟨rfl,Qk,Qk⟩
end Pl
end
def Yo(s:Nat):((2:Int)^s)=((2^s:Nat):Int):=by rw[Int.natCast_pow];rfl
def Wz(s:Nat):(1:Int)<=2^s:=by rw[Yo];have:=jg (n:=s) (show 0<2 by decide);omega
def Vl{s:Nat}(h:s<=31):(2:Int)^s<=2147483648:=by
 rw[Yo];have:=jS (show 0<2 by decide) h;omega
def Yfz{z x:Int}{s:Nat}(z0:0<=z)(z1:z<2^s)(x0:0<=x)(q0:0<=x*2^s)(q1:x*2^s<=18446744073709551615)(z2:z<=18446744073709551615):bits .or .u64 z (x*2^s)=z+x*2^s:=by
 obtain⟨a,rfl⟩:=JT z0;obtain⟨b,rfl⟩:=JT x0;rw[Yo]at *;rw[<-jF]at *;rw[u64_or_nat _ _ Qk Qk,Nat.or_comm,<-il,<-kU Qk,il];omega
def Yga(O x z p r q a P:Int)(h:O+z*p=a*P)(e:z+x*P=r+4294967296*q):O+r*p+q* (p*4294967296)=(a+x*p)*P:=by grind
def Ygb{O xs:List Nat}{k:Nat}{z P r q:Int}(hk:k<O.length)(hr:0<=r)(e:z+di xs k*P=r+4294967296*q)(h:(vt O k:Int)+z* ((B32^k:Nat):Int)=vt xs k*P):
 (vt (O.set k r.toNat) (k+1):Int)+q* ((B32^(k+1):Nat):Int)=vt xs (k+1)*P:=by
 rw[Xf hk hr,Z4,YL];exact Yga _ _ _ _ _ _ _ _ h e
def Ymj{O xs:List Nat}{k s:Nat}{z:Int}(hx:xs.length<=k)(hO:k+1<=O.length)(hO':O.length<=k+1)(hz:0<=z)(h:(vt O k:Int)+z* ((B32^k:Nat):Int)=vt xs k*2^s):val (O.set k z.toNat)=val xs*2^s:=by
 have e:=Xf (ds:=O) (k:=k) Qk hz;rw[XU (by simpa using hO'),h,XU hx,Yo,<-jF]at e;omega
def Zci(v:Value)(ds:List Nat)(s:Nat)(w:World)(h:ZP w v ds)(hs:s<=31)(hl0:ds.length<=549755813888):
 Calls prog 179 #[v,.int .u64 (s:Int)] w λe w'=>∃O:List Nat,e= .returned (.slice (some ⟨w.heap.size,0,none⟩) (ds.length+1) (ds.length+1))/\YU w' w.heap.size O/\O.length=ds.length+1/\okD O/\val O=val ds*2^s/\Below w.heap.size w w':=by
 obtain⟨A,l,c,rfl⟩:=h.shape;obtain⟨hl,p,q,hc⟩:=h.len;have n:=Vl hs;have o:(1:Int)<=2^s:=Wz s;have d:=YV (l+1) Qk
 push_cast at d
 go_enter func179,ntmps179;go_wp2;clear d
 go_loopw [6,15] (λcy i wr=>∃(k:Nat) (O:List Nat) (z:Int),k<=l/\i= .int .i64 k/\cy= .int .u64 z/\0<=z/\z<2^s/\l+1<=O.length/\O.length<=l+1/\YU wr w.heap.size O/\okD O/\Below w.heap.size w wr/\
  (vt O k:Int)+z* ((B32^k:Nat):Int)=vt ds k*2^s) (λ_ i _=>l - (intOf i).toNat)
 case atStart=>exact⟨0,List.replicate (l+1) 0,0,Qk,rfl,rfl,Qk,Int.pow_pos Qk,by simp,by simp,YU.zeros w _,ZJ _,(JR _ _).alloc (JY _) _,by simp[Y3]⟩
 case round=>
  obtain⟨k,O,z,hk,rfl,rfl,z0,z1,hO,g,hB,ok,b,f⟩:=hrel;have HE:=JZ f;clear f;rcases JX k l with hkl|hkl
  ·obtain⟨b1,m,rfl,j,a⟩:=h.at_ Qk;have hx:=XZ b j a hkl;have x0:=Zr ds k;have x1:=Yl h.ok k;have ho:=hB.cell (k:=k) Qk;have hf:=hB.frozen k;clear a;have q0:0<=di ds k*2^s:=jY x0 Qk;have q1:di ds k*2^s<=4294967295*2^s:=jJ x1 Qk;have r1:IntKind.u64.wrap (di ds k*2^s)=di ds k*2^s:=u64_in _ q0 Qk;have r2:bits .or .u64 z (di ds k*2^s)=z+di ds k*2^s:=Yfz z0 z1 x0 q0 Qk Qk;go_wp2;go_roundw
   case rel=>exact⟨k+1,O.set k ((z+di ds k*2^s)%4294967296).toNat,_,Qk,by go_num,rfl,Qk,Qk,by simpa using hO,by simpa using g,hB.setI k Qk,ZK ok k (by unfold B32;omega),b.setCell (JY _) _,Ygb Qk Qk Qk HE.out⟩
   case measure=>exact Qn
  ·obtain rfl:k=l:=Qk
   have ho:=hB.cell (k:=k) Qk;have hf:=hB.frozen k;have z2:z<=4294967295:=Qk;go_wp2;go_ret;rw[show ds.length=k from Qk];exact⟨O.set k z.toNat,rfl,hB.setI k z0,by simp;omega,ZK ok k (by unfold B32;omega),Ymj Qk Qk Qk z0 HE.out,b.setCell (JY _) _⟩
def Zny(z:Int):0<=z%4294967296:=kv _ Ql
def Ykt(z:Int):(z%4294967296).toNat<B32:=by
 have:=kJ z (show(0:Int)<4294967296 by decide);have:=Zny z;unfold B32;generalize z%4294967296=y at *;omega
def Yad{x y:Int}(x0:0<=x)(x1:x<=4294967295)(y0:0<=y)(y1:y<=4294967295):bits .or .u64 x (y*4294967296)=x+y*4294967296:=by
 obtain⟨a,rfl⟩:=JT x0;obtain⟨b,rfl⟩:=JT y0;have e:((b:Int)*4294967296)=((b*4294967296:Nat):Int):=Qk
 rw[e,u64_or_nat _ _ Qk Qk,Nat.or_comm];have h:b*4294967296 ||| a=b*4294967296+a:=by
  have:=kU (i:=32) (b:=a) Qk b;rw[il,show(2:Nat)^32=4294967296 from rfl]at this;omega
 rw[h];omega
def Ymk{x y P Q:Nat}(hP:0<P)(hx:x<P*Q):P* ((x+y* (P*Q))/P% (P*Q))=x - x%P+(y%P)* (P*Q):=by
 have hQ:0<Q:=vI (λe=>by subst e;simp at hx);have e1:(x+y* (P*Q))/P=x/P+y*Q:=by
  rw[show y* (P*Q)=P* (y*Q)from by rw[vw],Nat.add_mul_div_left _ _ hP]
 have e2:y*Q=(y%P)*Q+(P*Q)* (y/P):=by
  have:=vU y P
  calc y*Q=(P* (y/P)+y%P)*Q:=by rw[this]
   _=_:=by rw[kV,BJ,BO]
 have h1:x/P<Q:=by rw[gQ hP,jQ];exact hx
 have h2:y%P<P:=iC _ hP;have h3:(y%P)*Q+Q<=P*Q:=by
  have:(y%P+1)*Q<=P*Q:=JS _ h2
  rwa[kV,vv]at this
 rw[e1,e2,<-ve,Nat.add_mul_mod_self_left,ig Qk,iY];have h4:=vU x P;have h5:P* (y%P*Q)=y%P* (P*Q):=by rw[vw]
 omega
def Znz{s:Nat}{x y:Int}(hs:s<=31)(x0:0<=x)(x1:x<=4294967295)(y0:0<=y):
 2^s* ((x+y*4294967296)/2^s%4294967296)=x - x%2^s+4294967296* (y%2^s):=by
 obtain⟨a,rfl⟩:=JT x0;obtain⟨b,rfl⟩:=JT y0;have hB:2^s*2^(32 - s)=4294967296:=by rw[<-iG,show s+(32 - s)=32 from Qk]
 have h:=Ymk (x:=a) (y:=b) (P:=2^s) (Q:=2^(32 - s)) (jg Ql) (by rw[hB];omega);rw[hB]at h;rw[Yo];generalize 2^s=p at *;have hm:a%p<=a:=Nat.mod_le _ _;have e1:((a:Int)+(b:Int)*4294967296)/ (p:Int)%4294967296=(((a+b*4294967296)/p%4294967296:Nat):Int):=by
  rw[vX,bZ,vG,jF];rfl
 have e2:(a:Int)% (p:Int)=((a%p:Nat):Int):=by rw[vX]
 have e3:(b:Int)% (p:Int)=((b%p:Nat):Int):=by rw[vX]
 rw[e1,e2,e3,<-jF,h];omega
def Ygc(P O x r c a p xr yr:Int)(h:P*O+c=a+xr*p)(e:P*r=x - xr+4294967296*yr):P* (O+r*p)+c=a+x*p+yr* (p*4294967296):=by grind
def Zlo{O xs:List Nat}{k:Nat}{P r c xr yr:Int}(hk:k<O.length)(hr:0<=r)(e:P*r=di xs k - xr+4294967296*yr)(h:P* (vt O k:Int)+c=(vt xs k:Int)+xr* ((B32^k:Nat):Int)):
 P* (vt (O.set k r.toNat) (k+1):Int)+c=(vt xs (k+1):Int)+yr* ((B32^(k+1):Nat):Int):=by
 rw[Xf hk hr,Z4,YL];exact Ygc _ _ _ _ _ _ _ _ _ h e
def Yml{O xs:List Nat}{k s:Nat}(hx:xs.length<=k)(hO:O.length<=k)(h:2^s* (vt O k:Int)+di xs 0%2^s=(vt xs k:Int)+(di xs k%2^s)* ((B32^k:Nat):Int)):val O=val xs/2^s:=by
 rw[XU hx,XU hO,Yo,Yx xs k,VU hx]at h;have hp:=jg (n:=s) (show 0<2 by decide);generalize 2^s=p at *;have e2:di xs 0% (p:Int)=((dg xs 0%p:Nat):Int):=by rw[vX];rfl
 rw[e2,<-jF]at h;have a:=iC (dg xs 0) hp;have h':val xs=p*val O+dg xs 0%p:=by
  have:((0:Nat):Int)% (p:Int)* ((B32^k:Nat):Int)=0:=by simp
  omega
 rw[h',gZ hp,ik a];omega
def Zjo(v:Value)(ds:List Nat)(s:Nat)(w:World)(h:ZP w v ds)(hs:s<=31)(hl0:ds.length<=549755813888):
 Calls prog 181 #[v,.int .u64 (s:Int)] w λe w'=>∃v',e= .returned v'/\ZP w' v' (Zp (val ds/2^s))/\Below w.heap.size w w':=by
 obtain⟨A,l,c,rfl⟩:=h.shape;obtain⟨hl,q,r,hc⟩:=h.len;have n:=Vl hs;have o:(1:Int)<=2^s:=Wz s;have j:=YV l Qk;go_enter func181,ntmps181;go_wp2;clear j
 go_loopw [14] (λi wr=>∃(k:Nat) (O:List Nat),k<=l/\i= .int .i64 k/\l<=O.length/\O.length<=l/\YU wr w.heap.size O/\okD O/\Below w.heap.size w wr/\
  2^s* (vt O k:Int)+di ds 0%2^s=(vt ds k:Int)+(di ds k%2^s)* ((B32^k:Nat):Int)) (λi _=>l - (intOf i).toNat)
 case atStart=>exact⟨0,List.replicate l 0,Qk,rfl,by simp,by simp,YU.zeros w _,ZJ _,(JR _ _).alloc (JY _) _,by simp[Y3]⟩
 case round=>
  obtain⟨k,O,hk,rfl,hO,d,hB,ok,b,f⟩:=hrel;have HE:=JZ f;clear f;rcases JX k l with hkl|hkl
  ·obtain⟨b1,m,rfl,g,a⟩:=h.at_ Qk;have hx:=XZ b g a hkl;have x0:=Zr ds k;have x1:=Yl h.ok k;have y0:=Zr ds (k+1);have y1:=Yl h.ok (k+1);have ho:=hB.cell (k:=k) Qk;have hf:=hB.frozen k;rcases JX (k+1) l with hk2|hk2
   ·have hy:=XZ b g a hk2;have p:=Yad x0 x1 y0 y1;clear a;go_wp2;go_roundw
    case rel=>exact⟨k+1,O.set k ((di ds k+di ds (k+1)*4294967296)/2^s%4294967296).toNat,Qk,by go_num,by simpa using hO,by simpa using d,hB.setI k (Zny _),ZK ok k (Ykt _),b.setCell (JY _) _,Zlo Qk (Zny _) (Znz hs x0 x1 y0) HE.out⟩
    case measure=>exact Qn
   ·have hy:0=di ds (k+1):=(by rw[Yx,VU Qk];rfl);have HY:=JZ hy;clear a hy;go_wp2;go_roundw
    case rel=>exact⟨k+1,O.set k (di ds k/2^s%4294967296).toNat,Qk,by go_num,by simpa using hO,by simpa using d,hB.setI k (Zny _),ZK ok k (Ykt _),b.setCell (JY _) _,Zlo Qk (Zny _) (by have:=Znz hs x0 x1 y0;rw[<-HY.out]at this⊢;simpa using this) HE.out⟩
    case measure=>exact Qn
  ·obtain rfl:k=l:=Qk
   go_wp2_with fail;refine(Z7 _ O _ ?_).mono ?_
   ·have:=hB.dig ok (c:=k) d (by unfold maxLen;omega)
    rwa[show O.length=k from Qk]at this
   rintro e w1 ⟨v',rfl,hv,rfl⟩;go_wp2_with fail;go_ret;refine⟨_,rfl,?_,b⟩
   rwa[Yml Qk Qk HE.out]at hv
def Ygd(T:ByteArray):Bool:=(List.range 256).all λi=>decide (i<2^(T.get! i).toNat) && decide ((T.get! i).toNat<=8) && (i==0 || decide (2^(T.get! i).toNat<=2*i))
def Yku{T:ByteArray}(hs:T.size=256)(h:Ygd T=true){i:Nat}(hi:i<T.size)(h0:1<=i):i<2^(T[i]'hi).toNat/\(T[i]'hi).toNat<=8/\2^(T[i]'hi).toNat<=2*i:=by
 have e:T.get! i=T[i]'hi:=by
  show T.data[i]! =T.data[i];exact getElem!_pos T.data i hi
 unfold Ygd at h;rw[dA]at h;have:=h i (iT.2 Qk);rw[e]at this;simp only[jU,jh,fK,BP]at this;exact⟨this.1.1,this.1.2,by rcases this.2 with h|h <;> omega⟩
def Yae{k t:Nat}{x y:Int}(hk:0<=y)(hx:y=x/2^k)(h1:y.toNat<2^t)(h2:2^t<=2*y.toNat):x<2^(k+t)/\(2:Int)^(k+t)<=2*x:=by
 obtain⟨m,rfl⟩:=JT hk;rw[JP]at h1 h2;rw[Yo]at hx;rw[Yo,iG];have hp:=jg (n:=k) (show 0<2 by decide);generalize 2^k=p at *;generalize 2^t=q at *;have e:x=(p:Int)*m+x%p:=by rw[hx];exact(Int.mul_ediv_add_emod x p).symm
 have a:=kv x (show(p:Int)≠0 by omega);have b:=kJ x (show(0:Int)<p by omega);have a1:p* (m+1)<=p*q:=ku _ h1;have a2:p*q<=p* (2*m):=ku _ h2;rw[iY,BZ]at a1;rw[vw]at a2;have e2:((p*m:Nat):Int)=(p:Int)*m:=jF _ _;omega
def Zhd(b:UInt8):wrap64 (b.toNat:Int)=b.toNat:=IntWalk.wrap64_in _ ⟨Qk,by have:=b.toNat_lt;omega⟩
def Zxb(k:Int)(b:UInt8)(h:0<=k)(h2:k<=1000):wrap64 (k+(b.toNat:Int))=k+b.toNat:=IntWalk.wrap64_in _ ⟨Qk,by have:=b.toNat_lt;omega⟩
def Zrn(x:Int)(w:World)(e:Ending)(w':World):Prop:=∃n:Nat,e= .returned (.int .i64 (n:Int))/\w=w'/\n<=32/\x<2^n/\(2:Int)^n<=2*x
def Ymm{x:Int}{n:Nat}(h0:1<=x)(hn:n<=32)(ha:x<2^n)(hb:(2:Int)^n<=2*x):∃k:Nat,(32:Int) - n=k/\k<=31/\2147483648<=x*2^k/\x*2^k<=4294967295:=by
 have a:1<=n:=by
  rcases JV n with e|e
  ·subst e;simp at ha;omega
  ·exact e
 refine⟨32 - n,Qk,Qk,?_⟩;obtain⟨X,rfl⟩:=JT (show 0<=x by omega);rw[Yo]at *;have e:2^n*2^(32 - n)=4294967296:=by rw[<-iG,show n+(32 - n)=32 from Qk]
 have hp:=jg (n:=32 - n) (show 0<2 by decide);generalize 2^(32 - n)=q at *;generalize 2^n=p at *;have a1:(X+1)*q<=p*q:=JS _ Qk;have a2:p*q<=(2*X)*q:=JS _ Qk;rw[kV,vv]at a1;rw[kG]at a2;rw[<-jF];omega
def Zro{T:ByteArray}{w:World}(k:Nat){x y K:Int}{hi:y.toNat<T.size}(hK:K=(k:Int))(hk:k<=24)(hy:y=x/2^k)(hy0:1<=y)(hs:T.size=256)(hT:Ygd T=true):
 Zrn x w (.returned (.int .i64 (wrap64 (K+wrap64 ((T[y.toNat]'hi).toNat:Int))))) w:=by
 obtain⟨h1,h2,h3⟩:=Yku hs hT hi Qk;obtain⟨a,b⟩:=Yae Qk hy h1 h3;rw[Zhd,Zxb _ _ Qk Qk,hK];exact⟨k+(T[y.toNat]'hi).toNat,by simp,rfl,Qk,a,b⟩
def Yge{T:ByteArray}{w:World}{x:Int}{hi:x.toNat<T.size}(hy0:1<=x)(hs:T.size=256)(hT:Ygd T=true):
 Zrn x w (.returned (.int .i64 (wrap64 (wrap64 ((T[x.toNat]'hi).toNat:Int))))) w:=by
 obtain⟨h1,h2,h3⟩:=Yku hs hT hi Qk;obtain⟨a,b⟩:=Yae (k:=0) (x:=x) (y:=x) Qk (by simp) h1 h3;rw[ji]at a b;rw[Zhd,Zhd];exact⟨(T[x.toNat]'hi).toNat,rfl,rfl,Qk,a,b⟩
def Yaf(x:Int)(w:World)(h0:1<=x)(h1:x<=4294967295):
 Calls prog 128 #[.int .u32 x] w (Zrn x w):=by
 rcases jR x 256 with a|a
 ·go_enter func128,ntmps128;go_wp2_with fail;go_ret;refine Yge h0 ?_ ?_
  ·kernel_rfl
  ·decide+kernel
 ·rcases jR x 65536 with b|b
  ·go_enter func128,ntmps128;go_wp2_with fail;go_ret;refine Zro 8 (y:=x/256) rfl Qk rfl Qk ?_ ?_
   ·kernel_rfl
   ·decide+kernel
  ·rcases jR x 16777216 with c|c
   ·go_enter func128,ntmps128;go_wp2_with fail;go_ret;refine Zro 16 (y:=x/65536) rfl Qk rfl Qk ?_ ?_
    ·kernel_rfl
    ·decide+kernel
   ·go_enter func128,ntmps128;go_wp2_with fail;go_ret;refine Zro 24 (y:=x/65536/256) rfl Qk Qk Qk ?_ ?_
    ·kernel_rfl
    ·decide+kernel
def Zoa(x:Int)(w:World)(h0:1<=x)(h1:x<=4294967295):
 Calls prog 177 #[.int .u32 x] w λe w'=>∃s:Nat,e= .returned (.int .i64 (s:Int))/\w=w'/\s<=31/\2147483648<=x*2^s/\x*2^s<=4294967295:=by
 go_enter func177,ntmps177;go_wp2_with fail;refine(Yaf x _ h0 h1).mono ?_;rintro e w1 ⟨n,rfl,rfl,hn,ha,hb⟩;have HA:=JZ ha;have HB:=JZ hb;clear ha hb;go_wp2_with fail;go_ret;obtain⟨k,hk,a,h2,h3⟩:=Ymm h0 hn HA.out HB.out;exact⟨k,VW hk,rfl,Qk,h2,h3⟩
namespace Pl
def Zlp{X:List Nat}{n:Nat}(h:val X<B32^n){i:Nat}(hi:n<=i):dg X i=0:=by
 rcases JV (dg X i)with h0|h0
 ·exact h0
 ·exfalso;have h1:=Zcf X i;have h2:B32^i*1<=B32^i* (dg X i+B32*val (X.drop (i+1))):=ku _ Qk;have h3:B32^n<=B32^i:=jS B32_pos hi;omega
def Zeh{X:List Nat}{n:Nat}(h:∀i,n<=i->dg X i=0):vt X n=val X:=by
 have:∀k,vt X (n+k)=vt X n:=by
  intro k
  induction k with
  |zero=>rfl
  |succ k ih=>rw[<-ve,Y4,h (n+k) Qk,ih];simp
 have h2:=this X.length;rw[XU Qk]at h2;exact h2.symm
def Zrp{X:List Nat}{j n:Nat}(h:∀i,j+n<=i->dg X i=0):val X=vt X j+B32^j*vt (X.drop j) n:=by
 have e:vt (X.drop j) n=val (X.drop j):=Zeh (λi hi=>by rw[VV];exact h _ Qk);rw[e];rcases JX j X.length with hj|hj
 ·have hl:(X.take j).length=j:=by rw[kN];omega
  have:=val_append (X.take j) (X.drop j);rw[gT,hl]at this;exact this
 ·rw[kX hj,XU hj];simp[val]
def Yqb(ds:List Nat)(n:Nat):vt ds (n+1)=dg ds 0+B32*vt (ds.drop 1) n:=by
 cases ds with
 |nil=>simp[vt,val,dg]
 |cons d ds=>
  simp[vt,val,dg]
def Ygf{Y:Nat}{ys OV:List Nat}{m s:Nat}(hy:ys=Zp Y)(hl:ys.length=m+2)(hs:s<=31)(h0:2147483648<=dg ys (m+1)*2^s)(h1:dg ys (m+1)*2^s<=4294967295)(okV:okD OV)(hV:val OV=Y*2^s):
 vt OV (m+2)=Y*2^s/\2147483648<=dg OV (m+1):=by
 have j:okD ys:=hy▸Z8 Y;have hY:Y=vt ys (m+2):=by rw[XU Qk,hy,Zn]
 rw[Zrj]at hY;have o:=Zaw j (m+1);have hB:2^s*2^(32 - s)=B32:=by rw[<-iG,show s+(32 - s)=32 from Qk];rfl
 generalize ht:dg ys (m+1)=t at *;generalize hP:B32^(m+1)=P at *
 -- (t+1) 2^s<=B
 have k:(t+1)*2^s<=B32:=by
  have a:t*2^s<2^(32 - s)*2^s:=by rw[jQ (2^(32 - s)),hB];unfold B32;omega
  have b:=gK a;have c:(t+1)*2^s<=2^(32 - s)*2^s:=JS _ b
  rwa[jQ (2^(32 - s)),hB]at c
 have l:val OV<B32^(m+2):=by
  rw[hV,jf,hP];have a:(Y+1)*2^s<=((t+1)*P)*2^s:=JS _ (by rw[kV,vv];omega);have b:((t+1)*2^s)*P<=B32*P:=JS _ k;rw[kV,vv]at a;have c:(t+1)*P*2^s=(t+1)*2^s*P:=BO _ _ _;have d:=jg (n:=s) (show 0<2 by decide);rw[jQ P];omega
 have hz:∀i,m+2<=i->dg OV i=0:=λi hi=>Zlp l hi
 have e:=Zeh hz;refine⟨by rw[e,hV],?_⟩;rcases JX (dg OV (m+1)) 2147483648 with h|h
 ·exfalso;have a:=Zrj OV m;rw[e,hV,hP]at a;have b:=Zaw okV (m+1);rw[hP]at b;have c:(dg OV (m+1)+1)*P<=2147483648*P:=JS _ h;rw[kV,vv]at c;have d:2147483648*P<=(t*2^s)*P:=JS _ h0;have f:(t*P)*2^s<=Y*2^s:=JS _ Qk;have g:t*2^s*P=t*P*2^s:=BO _ _ _;omega
 ·exact h
def Zxc{X s l m:Nat}{OU OV:List Nat}(hX:X<B32^l)(hs:s<=31)(hm:m+2<=l)(hU:val OU=X*2^s)(hlen:OU.length<=l+1)(ht:2147483648<=dg OV (m+1)):
 vt (OU.drop (l - (m+2)+1)) (m+2)<vt OV (m+2):=by
 have hz:∀i,l - (m+2)+1+(m+2)<=i->dg OU i=0:=λi hi=>VU Qk
 have hc:=Zrp hz;have f:2^s<=2147483648:=jS (show 0<2 by decide) hs;rcases JX (vt (OU.drop (l - (m+2)+1)) (m+2)) (vt OV (m+2))with h|h
 ·exact h
 ·exfalso;have a:2147483648*B32^(m+1)<=vt OV (m+2):=by
   rw[Zrj];have:=JS (B32^(m+1)) ht;omega
  have b:B32^(l - (m+2)+1)* (2147483648*B32^(m+1))<=B32^(l - (m+2)+1)*vt (OU.drop (l - (m+2)+1)) (m+2):=ku _ (JW a h);have c:B32^(l - (m+2)+1)* (2147483648*B32^(m+1))=2147483648*B32^l:=by
   rw[vw,<-iG,show l - (m+2)+1+(m+1)=l from Qk]
  have d:(X+1)*2^s<=B32^l*2147483648:=gL hX f;rw[kV,vv]at d;have e:=jg (n:=s) (show 0<2 by decide);rw[jQ (B32^l)]at d;omega
def Yag{U V j m:Nat}{O O' Q:List Nat}(hj:j<Q.length)(hVpos:0<V)(hVlt:V<=B32^(m+2))(hz:∀i,j+1+(m+2)<=i->dg O i=0)
 (hsame:∀i,i<j\/j+m+3<=i->dg O' i=dg O i) (hrem:vt (O'.drop j) (m+3)=vt (O.drop j) (m+3)%V) (hU:U=V*val (Q.drop (j+1))*B32^(j+1)+val O):
 (∀i,j+(m+2)<=i->dg O' i=0)/\vt (O'.drop j) (m+2)<V/\U=V*val ((Q.set j (vt (O.drop j) (m+3)/V)).drop j)*B32^j+val O':=by
 have f:=iC (vt (O.drop j) (m+3)) hVpos;have d:∀i,j+(m+3)<=i->dg O' i=0:=λi hi=>by rw[hsame i (.inr Qk)];exact hz i Qk
 have c:dg O' (j+(m+2))=0:=by
  have a:=Y4 (O'.drop j) (m+2);rw[hrem]at a;rcases JV (dg (O'.drop j) (m+2))with h|h
  ·rwa[VV]at h
  ·exfalso;have:1*B32^(m+2)<=dg (O'.drop j) (m+2)*B32^(m+2):=JS _ h;omega
 have g:∀i,j+(m+2)<=i->dg O' i=0:=λi hi=>by
  rcases kH hi with e|e
  ·rw[<-e];exact c
  ·exact d i Qk
 have hv:vt (O'.drop j) (m+3)=vt (O'.drop j) (m+2):=by rw[Y4,VV,c];simp
 refine⟨g,by rw[<-hv,hrem];exact f,?_⟩;have e1:=Zrp (X:=O) (j:=j) (n:=m+3) (λi hi=>hz i Qk);have e2:=Zrp (X:=O') (j:=j) (n:=m+3) d;have e3:vt O' j=vt O j:=Yfn (λi hi=>hsame i (.inl hi));rw[hrem,e3]at e2;rw[hU,e1,e2,Zln (Q.set j _) j,UI hj,List.drop_set_of_lt Qk,jf];have e4:=vU (vt (O.drop j) (m+3)) V;generalize vt (O.drop j) (m+3)/V=q at *;generalize vt (O.drop j) (m+3)%V=R at *;generalize vt (O.drop j) (m+3)=W at *;generalize val (Q.drop (j+1))=A at *;generalize B32^j=P at *;generalize B32=b at *;rw[<-e4];have f1:V* (q+b*A)*P=V*q*P+V*A* (P*b):=by
  rw[iY,kV]
  congr 1
  rw[vw,jQ P b,jQ b,kG,kG]
 rw[f1,iY,jQ P (V*q)];omega
def Ygg{X Y s m:Nat}{O Q OV:List Nat}(hU:X*2^s=vt OV (m+2)*val Q+val O)(hV:vt OV (m+2)=Y*2^s)(hz:∀i,m+2<=i->dg O i=0)(hr:vt O (m+2)<vt OV (m+2)):val Q=X/Y/\vt O (m+2)/2^s=X%Y:=by
 rw[Zeh hz]at hr⊢;rw[hV]at hU hr;have hp:=jg (n:=s) (show 0<2 by decide);generalize 2^s=p at *;have hY:0<Y:=vI (λe=>by subst e;simp at hr)
 -- val O is a multiple of p
 have e1:Y*p*val Q=p* (Y*val Q):=by rw[jQ Y p,kG]
 have e2:val O=p* (X - Y*val Q):=by rw[Nat.mul_sub,<-e1,jQ p X];omega
 have e3:Y*val Q<=X:=by
  have:p* (Y*val Q)<=p*X:=by rw[<-e1,jQ p X];omega
  exact Nat.le_of_mul_le_mul_left this hp
 have e4:X - Y*val Q<Y:=by
  rw[e2,jQ Y p]at hr;exact Nat.lt_of_mul_lt_mul_left hr
 rw[e2,Nat.mul_div_cancel_left _ hp];have e5:X=Y*val Q+(X - Y*val Q):=Qk
 generalize X - Y*val Q=r at *;subst e5;rw[gZ hY,ik e4,Nat.mul_add_mod,ig e4];exact⟨Qk,rfl⟩
end Pl
end Go.Proofs.YtobadipflggkiaaGreat
