/- Lemmas of the claim; no condition. -/
import Derived.Test.YtgdcbjligbnpgaaGreatProg
import Derived.WalkKit
import Derived.WalkSpells
import Derived.WalkLawsBesides
import Derived.Lib.Hide
set_option linter.all false
set_option maxRecDepth 100000
set_option maxHeartbeats 40000000
namespace Go.Proofs.YtgdcbjligbnpgaaGreat
open Go.RowKit
namespace Pl
end Pl
open Pl
theorem pu1 {α : Type _} (l : List α) (i : Nat) (a : α) : l.toArray.setIfInBounds i a = (l.set i a).toArray := List.setIfInBounds_toArray l i a
theorem pu2 {α : Type _} {a : α} {xs : List α} {b : α} : (a :: xs).set 0 b = b :: xs := List.set_cons_zero
theorem pu3 {α : Type _} {a : α} {xs : List α} {n : Nat} {b : α} : (a :: xs).set (n + 1) b = a :: xs.set n b := List.set_cons_succ
theorem pu4 {α : Type _} {l : List α} {i : Nat} (h : i < l.toArray.size) : l.toArray[i] = l[i]'(by simpa using h) := List.getElem_toArray h
theorem pu5 {α : Type _} (a : α) (xs : List α) (h : 0 < (a :: xs).length) : (a :: xs)[0] = a := List.getElem_cons_zero a xs h
theorem pu6 {α : Type _} (a : α) (xs : List α) (i : Nat) (h : i + 1 < (a :: xs).length) : (a :: xs)[i + 1] = xs[i]'(by simpa using h) := List.getElem_cons_succ a xs i h
namespace Pl
def B32:Nat:=4294967296
theorem B32_pos:0 < B32:=by decide
def val:List Nat→Nat
 | []=>0
 | d::ds=>d+B32 * val ds
def okD (ds:List Nat):Prop:=∀d∈ds,d < B32
theorem okD_nil:okD []:=by intro d h;cases h
theorem okD_cons {d:Nat} {ds:List Nat}:okD (d::ds)↔d < B32∧okD ds:=by simp [okD]
theorem okD_take {a:List Nat} (h:okD a) (n:Nat):okD (a.take n):=fun d hd=>h d (List.mem_of_mem_take hd)
theorem okD_set {a:List Nat} (h:okD a) (i:Nat) {d:Nat} (hd:d < B32):okD (a.set i d):=fun x hx=>by
 rcases List.mem_or_eq_of_mem_set hx with h1 | h1
 ·exact h x h1
 ·exact h1▸hd
theorem okD_replicate (n:Nat):okD (List.replicate n 0):=fun d hd=>by
 have:=List.eq_of_mem_replicate hd;subst this;exact B32_pos
def dg (ds:List Nat) (i:Nat):Nat:=ds.getD i 0
theorem dg_lt {ds:List Nat} (h:okD ds) (i:Nat):dg ds i < B32:=by
 unfold dg
 rw [List.getD_eq_getElem?_getD]
 cases hi:ds[i]? with
 | none=>exact B32_pos
 | some d=>exact h d (List.mem_of_getElem? hi)
theorem dg_le {ds:List Nat} (h:okD ds) (i:Nat):dg ds i≤4294967295:=by have:=dg_lt h i;unfold B32 at this;omega
theorem getElem?_dg {ds:List Nat} {i:Nat} (h:i < ds.length):ds[i]? =some (dg ds i):=by
 simp [dg,List.getElem?_eq_getElem h]
theorem dg_ge {ds:List Nat} {i:Nat} (h:ds.length≤i):dg ds i=0:=by simp [dg,List.getElem?_eq_none h]
theorem dg_set_eq {ds:List Nat} {i d:Nat} (h:i < ds.length):dg (ds.set i d) i=d:=by simp [dg,h]
theorem dg_set_ne {ds:List Nat} {i j d:Nat} (h:i≠j):dg (ds.set i d) j=dg ds j:=by simp [dg,h]
theorem dg_take {ds:List Nat} {i n:Nat} (h:i < n):dg (ds.take n) i=dg ds i:=by simp [dg,h]
def di (ds:List Nat) (i:Nat):Int:=(dg ds i:Nat)
theorem di_eq (ds:List Nat) (i:Nat):di ds i=((dg ds i:Nat):Int):=rfl
theorem di_nonneg (ds:List Nat) (i:Nat):0≤di ds i:=by unfold di;omega
theorem di_le {ds:List Nat} (h:okD ds) (i:Nat):di ds i≤4294967295:=by have:=dg_le h i;unfold di;omega
theorem di_beq_true {ds:List Nat} {i:Nat} (h:dg ds i=0):(di ds i==0)=true:=by simp [di,h]
theorem di_beq_false {ds:List Nat} {i:Nat} (h:dg ds i≠0):(di ds i==0)=false:=by simp [di,h]
def vt (ds:List Nat) (i:Nat):Nat:=val (ds.take i)
theorem val_append (a b:List Nat):val (a++b)=val a+B32^a.length * val b:=by
 induction a with
 | nil=>simp [val]
 | cons d a ih=>
  simp only [List.cons_append,val,ih,List.length_cons,Nat.pow_succ]
  rw [Nat.mul_add,← Nat.mul_assoc,Nat.mul_comm B32 (B32^a.length),Nat.add_assoc]
theorem vt_zero (ds:List Nat):vt ds 0=0:=by simp [vt,val]
theorem vt_succ {ds:List Nat} {i:Nat} (h:i < ds.length):vt ds (i+1)=vt ds i+dg ds i * B32^i:=by
 unfold vt
 rw [List.take_succ_eq_append_getElem h,val_append,List.length_take,Nat.min_eq_left (Nat.le_of_lt h)]
 have:ds[i]=dg ds i:=by simp [dg,h]
 rw [this]
 simp [val,Nat.mul_comm]
theorem vt_ge {ds:List Nat} {i:Nat} (h:ds.length≤i):vt ds i=val ds:=by unfold vt;rw [List.take_of_length_le h]
theorem vt_len (ds:List Nat):vt ds ds.length=val ds:=vt_ge (Nat.le_refl _)
theorem vt_succ' (ds:List Nat) (i:Nat):vt ds (i+1)=vt ds i+dg ds i * B32^i:=by
 rcases Nat.lt_or_ge i ds.length with h | h
 ·exact vt_succ h
 ·rw [vt_ge h,vt_ge (by omega),dg_ge h];simp
theorem val_lt {ds:List Nat} (h:okD ds):val ds < B32^ds.length:=by
 induction ds with
 | nil=>simp [val]
 | cons d ds ih=>
  obtain ⟨h1,h2⟩:=okD_cons.1 h
  have:=ih h2
  simp only [val,List.length_cons,Nat.pow_succ]
  have h3:B32 * (val ds+1)≤B32 * B32^ds.length:=Nat.mul_le_mul_left _ this
  rw [Nat.mul_comm (B32^ds.length)]
  rw [Nat.mul_add] at h3
  omega
theorem vt_lt {ds:List Nat} (h:okD ds) (i:Nat):vt ds i < B32^i:=by
 have h1:=val_lt (okD_take h i)
 exact Nat.lt_of_lt_of_le h1 (Nat.pow_le_pow_right B32_pos (List.length_take_le _ _))
theorem vt_set_le {ds:List Nat} {i j d:Nat} (h:j≤i):vt (ds.set i d) j=vt ds j:=by
 unfold vt
 rw [List.take_set_of_le h]
theorem vt_set_succ {ds:List Nat} {i d:Nat} (h:i < ds.length):vt (ds.set i d) (i+1)=vt ds i+d * B32^i:=by
 rw [vt_succ (by simpa using h),vt_set_le (Nat.le_refl _),dg_set_eq h]
theorem val_replicate (n:Nat):val (List.replicate n 0)=0:=by
 induction n with
 | zero=>rfl
 | succ n ih=>simp [List.replicate_succ,val,ih]
theorem dg_replicate (n i:Nat):dg (List.replicate n 0) i=0:=by
 unfold dg
 rw [List.getD_eq_getElem?_getD,List.getElem?_replicate]
 split <;> rfl
def digs (n:Nat):List Nat:=if _h:n=0 then [] else (n % B32)::digs (n / B32)
 termination_by n
 decreasing_by exact Nat.div_lt_self (by omega) (by decide)
theorem digs_zero:digs 0=[]:=by rw [digs];simp
theorem digs_pos {n:Nat} (h:0 < n):digs n=(n % B32)::digs (n / B32):=by
 rw [digs,dif_neg (by omega)]
theorem val_digs (n:Nat):val (digs n)=n:=by
 induction n using Nat.strongRecOn with
 | ind n ih=>
  rcases Nat.eq_zero_or_pos n with h | h
  ·subst h;simp [digs_zero,val]
  ·rw [digs_pos h]
   simp only [val]
   rw [ih _ (Nat.div_lt_self h (by decide))]
   exact Nat.mod_add_div n B32
theorem okD_digs (n:Nat):okD (digs n):=by
 induction n using Nat.strongRecOn with
 | ind n ih=>
  rcases Nat.eq_zero_or_pos n with h | h
  ·subst h;simp [digs_zero,okD]
  ·rw [digs_pos h,okD_cons]
   exact ⟨Nat.mod_lt _ B32_pos,ih _ (Nat.div_lt_self h (by decide))⟩
theorem digs_lt {n k:Nat} (h:n < B32^k):(digs n).length≤k:=by
 induction k generalizing n with
 | zero=>
  have:n=0:=by simpa using h
  subst this;simp [digs_zero]
 | succ k ih=>
  rcases Nat.eq_zero_or_pos n with h0 | h0
  ·subst h0;simp [digs_zero]
  ·rw [digs_pos h0,List.length_cons]
   have:n / B32 < B32^k:=by
    rw [Nat.div_lt_iff_lt_mul B32_pos];rw [Nat.pow_succ] at h;exact h
   have:=ih this
   omega
theorem digs_lt_pow (n:Nat):n < B32^(digs n).length:=by
 have:=val_lt (okD_digs n);rwa [val_digs] at this
theorem digs_ge {n k:Nat} (h:k < (digs n).length):B32^k≤n:=by
 rcases Nat.lt_or_ge n (B32^k) with h1 | h1
 ·have:=digs_lt h1;omega
 ·exact h1
theorem digs_len_mono {m n:Nat} (h:m≤n):(digs m).length≤(digs n).length:=
 digs_lt (Nat.lt_of_le_of_lt h (digs_lt_pow n))
theorem digs_len_pos {n:Nat} (h:0 < n):0 < (digs n).length:=by
 rw [digs_pos h];simp
theorem digs_of_last {ds:List Nat} (ok:okD ds) (h:ds=[]∨dg ds (ds.length - 1)≠0):digs (val ds)=ds:=by
 induction ds with
 | nil=>simp [val,digs_zero]
 | cons d ds ih=>
  obtain ⟨h1,h2⟩:=okD_cons.1 ok
  have hl:dg (d::ds) ((d::ds).length - 1)≠0:=by
   rcases h with h | h
   ·cases h
   ·exact h
  have hpos:0 < val (d::ds):=by
   rcases Nat.eq_zero_or_pos (val (d::ds)) with h0 | h0
   ·exfalso
    have hall:∀(l:List Nat),val l=0→∀i,dg l i=0:=by
     intro l
     induction l with
     | nil=>intro _ i;simp [dg]
     | cons x l ih'=>
      intro hv i
      simp only [val] at hv
      have hx:x=0:=by omega
      have hm:B32 * val l=0:=by omega
      have hv':val l=0:=by
       rcases Nat.mul_eq_zero.1 hm with h | h
       ·exact absurd h (by decide)
       ·exact h
      cases i with
      | zero=>simpa [dg] using hx
      | succ i=>have:=ih' hv' i;simpa [dg] using this
    exact hl (hall _ h0 _)
   ·exact h0
  rw [digs_pos hpos]
  have e1:val (d::ds) % B32=d:=by
   simp only [val];rw [Nat.add_mul_mod_self_left];exact Nat.mod_eq_of_lt h1
  have e2:val (d::ds) / B32=val ds:=by
   simp only [val];rw [Nat.add_mul_div_left _ _ B32_pos,Nat.div_eq_of_lt h1];simp
  rw [e1,e2,ih h2]
  cases ds with
  | nil=>exact .inl rfl
  | cons x ds=>right;simpa [dg] using hl
theorem digs_take {ds:List Nat} (ok:okD ds) {n:Nat} (hn:n≤ds.length) (hz:∀i,n≤i→dg ds i=0) (hl:n=0∨dg ds (n - 1)≠0):digs (val ds)=ds.take n:=by
 have hv:val ds=val (ds.take n):=by
  rw [← vt_len ds]
  show vt ds ds.length=vt ds n
  clear hl
  have:∀k,vt ds (n+k)=vt ds n:=by
   intro k
   induction k with
   | zero=>rfl
   | succ k ih=>rw [← Nat.add_assoc,vt_succ',hz (n+k) (by omega),ih];simp
  have h:=this (ds.length - n)
  rwa [show n+(ds.length - n)=ds.length from by omega] at h
 rw [hv]
 refine digs_of_last (okD_take ok n) ?_
 rcases hl with h | h
 ·left;subst h;simp
 ·right
  have hlen:(ds.take n).length=n:=by rw [List.length_take];omega
  rw [hlen]
  rcases Nat.eq_zero_or_pos n with h0 | h0
  ·subst h0
   intro hh
   exact h (hz _ (by omega))
  ·rw [dg_take (by omega)];exact h
theorem digs_len_le {ds:List Nat} (ok:okD ds):(digs (val ds)).length≤ds.length:=digs_lt (val_lt ok)
theorem dg_digs_last {n:Nat} (h:0 < n):dg (digs n) ((digs n).length - 1)≠0:=by
 induction n using Nat.strongRecOn with
 | ind n ih=>
  rw [digs_pos h]
  rcases Nat.eq_zero_or_pos (n / B32) with h0 | h0
  ·rw [h0,digs_zero]
   have:n % B32=n:=Nat.mod_eq_of_lt (by
    rcases Nat.lt_or_ge n B32 with h1 | h1
    ·exact h1
    ·have:=Nat.div_pos h1 B32_pos;omega)
   simp [dg,this];omega
  ·have:=ih _ (Nat.div_lt_self h (by decide)) h0
   have hp:=digs_len_pos h0
   have e:((n % B32)::digs (n / B32)).length - 1=(digs (n / B32)).length - 1+1:=by simp;omega
   rw [e]
   simpa [dg] using this
theorem digs_one {n:Nat} (h0:0 < n) (h:n < B32):digs n=[n]:=by
 rw [digs_pos h0,Nat.div_eq_of_lt h,digs_zero,Nat.mod_eq_of_lt h]
theorem digs_two {n:Nat} (h:B32≤n) (h2:n < B32 * B32):digs n=[n % B32,n / B32]:=by
 have:=B32_pos
 have h1:0 < n / B32:=Nat.div_pos h B32_pos
 have h3:n / B32 < B32:=by rw [Nat.div_lt_iff_lt_mul B32_pos];exact h2
 rw [digs_pos (by omega),digs_one h1 h3]
theorem pow_cast_succ (k:Nat):((B32^(k+1):Nat):Int)=((B32^k:Nat):Int) * 4294967296:=by
 rw [Nat.pow_succ,Int.natCast_mul];rfl
theorem vt_cast_succ (ds:List Nat) (k:Nat):((vt ds (k+1):Nat):Int)=vt ds k+di ds k * ((B32^k:Nat):Int):=by
 rw [vt_succ',Int.natCast_add,Int.natCast_mul];rfl
theorem vt_cast_set {ds:List Nat} {k:Nat} {z:Int} (h:k < ds.length) (hz:0≤z):((vt (ds.set k z.toNat) (k+1):Nat):Int)=vt ds k+z * ((B32^k:Nat):Int):=by
 rw [vt_set_succ h,Int.natCast_add,Int.natCast_mul,Int.toNat_of_nonneg hz]
theorem ring_add (O x y z p r q a b:Int) (h:O+z * p=a+b) (e:z+x+y=r+4294967296 * q):O+r * p+q * (p * 4294967296)=a+x * p+(b+y * p):=by grind
theorem add_step {O xs ys:List Nat} {k:Nat} {z y:Int} (hk:k < O.length) (hz:0≤z) (hy:y=di ys k)
 (h:(vt O k:Int)+z * ((B32^k:Nat):Int)=vt xs k+vt ys k):
 (vt (O.set k ((z+di xs k+y) % 4294967296).toNat) (k+1):Int)+((z+di xs k+y) / 4294967296) * ((B32^(k+1):Nat):Int)=vt xs (k+1)+vt ys (k+1):=by
 subst hy
 rw [vt_cast_set hk (by omega),vt_cast_succ,vt_cast_succ,pow_cast_succ]
 exact ring_add _ _ _ _ _ _ _ _ _ h (by omega)
theorem ring_sub (O x y z p r q a b:Int) (h:O - z * p=a - b) (e:x - z - y=r - 4294967296 * q):O+r * p - q * (p * 4294967296)=a+x * p - (b+y * p):=by grind
theorem sub_step {O xs ys:List Nat} {k:Nat} {z y r q:Int} (hk:k < O.length) (hy:y=di ys k) (hr:0≤r) (hq:r - 4294967296 * q=di xs k - z - y)
 (h:(vt O k:Int) - z * ((B32^k:Nat):Int)=vt xs k - vt ys k):
 (vt (O.set k r.toNat) (k+1):Int) - q * ((B32^(k+1):Nat):Int)=vt xs (k+1) - vt ys (k+1):=by
 subst hy
 rw [vt_cast_set hk hr,vt_cast_succ,vt_cast_succ,pow_cast_succ]
 exact ring_sub _ _ _ _ _ _ _ _ _ h (by omega)
theorem sub_fin {O xs ys:List Nat} {k:Nat} {z:Int} (hO:O.length=k) (ok:okD O) (hz:0≤z) (hx:xs.length≤k) (hy:ys.length≤k) (hle:val ys≤val xs)
 (h:(vt O k:Int) - z * ((B32^k:Nat):Int)=vt xs k - vt ys k):val O=val xs - val ys:=by
 rw [vt_ge hx,vt_ge hy,vt_ge (by omega)] at h
 have hlt:=val_lt ok
 rw [hO] at hlt
 have hz0:z=0:=by
  rcases Int.lt_or_eq_of_le hz with h1 | h1
  ·exfalso
   have:((B32^k:Nat):Int) * 1≤((B32^k:Nat):Int) * z:=Int.mul_le_mul_of_nonneg_left (by omega) (by omega)
   rw [Int.mul_comm z] at h
   omega
  ·exact h1.symm
 subst hz0
 omega
theorem lt_of_len {a b:Nat} (h:(digs a).length < (digs b).length):a < b:=by
 have h1:=digs_lt_pow a
 have h2:=digs_ge h
 omega
theorem val_split (ds:List Nat) (i:Nat):val ds=vt ds i+B32^i * (dg ds i+B32 * val (ds.drop (i+1))):=by
 rcases Nat.lt_or_ge i ds.length with h | h
 ·have e:ds=ds.take i++(dg ds i::ds.drop (i+1)):=by
   have hd:ds[i]=dg ds i:=by simp [dg,h]
   rw [← hd,← List.drop_eq_getElem_cons h,List.take_append_drop]
  have hl:(ds.take i).length=i:=by rw [List.length_take];omega
  calc val ds=val (ds.take i++(dg ds i::ds.drop (i+1))):=by rw [← e]
   _=_:=by rw [val_append,hl];rfl
 ·rw [vt_ge h,dg_ge h,List.drop_eq_nil_of_le (by omega)];simp [val]
theorem drop_congr {a b:List Nat} {n:Nat} (hl:a.length=b.length) (h:∀i,n≤i→dg a i=dg b i):a.drop n=b.drop n:=by
 apply List.ext_getElem?
 intro i
 rw [List.getElem?_drop,List.getElem?_drop]
 rcases Nat.lt_or_ge (n+i) a.length with h1 | h1
 ·rw [getElem?_dg h1,getElem?_dg (by omega),h _ (by omega)]
 ·rw [List.getElem?_eq_none h1,List.getElem?_eq_none (by omega)]
theorem val_lt_of_top {a b:List Nat} (ha:okD a) (hl:a.length=b.length) {i:Nat} (h:∀j,i < j→dg a j=dg b j) (hi:dg a i < dg b i):val a < val b:=by
 rw [val_split a i,val_split b i,drop_congr hl (fun j hj=>h j (by omega))]
 have h1:=vt_lt ha i
 have h2:B32^i * (dg a i+B32 * val (b.drop (i+1))+1)≤B32^i * (dg b i+B32 * val (b.drop (i+1))):=Nat.mul_le_mul_left _ (by omega)
 rw [Nat.mul_add,Nat.mul_one] at h2
 omega
theorem val_eq_of_all {a b:List Nat} (hl:a.length=b.length) (h:∀j,dg a j=dg b j):a=b:=by
 have:=drop_congr (n:=0) hl (fun i _=>h i)
 simpa using this
theorem digs_inj {a b:Nat} (h:digs a=digs b):a=b:=by rw [← val_digs a,h,val_digs]
def cmpN (a b:Nat):Int:=if a < b then -1 else if a=b then 0 else 1
theorem cmpN_lt {a b:Nat} (h:a < b):cmpN a b= -1:=by simp [cmpN,h]
theorem cmpN_eq {a b:Nat} (h:a=b):cmpN a b=0:=by simp [cmpN,h]
theorem cmpN_gt {a b:Nat} (h:b < a):cmpN a b=1:=by
 unfold cmpN;rw [if_neg (by omega),if_neg (by omega)]
theorem cmpN_bd (a b:Nat): -1≤cmpN a b∧cmpN a b≤1:=by
 unfold cmpN;split
 ·decide
 ·split <;> decide
end Pl
def uc (d:Nat):Value:= .int .u32 (d:Int)
def DigM (w:World) (v:Value) (ds:List Nat):Prop:=
 ∃A c,v= .slice A ds.length c∧ds.length≤c∧c≤maxLen∧okD ds∧
  (0 < ds.length→∃b off cs fz,A=some ⟨b,off,none⟩∧w.heap[b]? =some (.cells cs 72 fz)∧∀k d,ds[k]? =some d→cs[off+k]? =some (uc d))
def Keep (w w':World):Prop:=∀(b:Nat) (cs:Array Value) (fz:Nat × Nat),w.heap[b]? =some (.cells cs 72 fz)→w'.heap[b]? =some (.cells cs 72 fz)
theorem Keep.refl (w:World):Keep w w:=fun _ _ _ h=>h
theorem Keep.trans {a b c:World} (h:Keep a b) (k:Keep b c):Keep a c:=fun x cs fz hx=>k x cs fz (h x cs fz hx)
theorem lt_heap {w:World} {b:Nat} {o:Obj} (h:w.heap[b]? =some o):b < w.heap.size:=(Array.getElem?_eq_some_iff.1 h).1
theorem Keep.of_below {w w':World} (h:Below w.heap.size w w'):Keep w w':=fun b _ _ hb=>(h.block b (lt_heap hb)).trans hb
theorem Keep.drew (w:World):Keep w w.drew:=fun _ _ _ h=>h
theorem Keep.alloc (w:World) (o:Obj):Keep w (w.alloc o):=Keep.of_below ((Below.refl _ _).alloc (Nat.le_refl _) o)
theorem Keep.setCell {w:World} {g:Nat} {cs:Array Value} {t:TypeId} {fz:Nat × Nat} (h:w.heap[g]? =some (.cells cs t fz)) (ht:t≠72) (i:Nat) (u:Value):Keep w (w.setCell ⟨g,i,none⟩ u):=by
 intro b cs' fz' hb
 have hne:b≠g:=by
  rintro rfl
  rw [h] at hb
  injection hb with hb
  injection hb with _ h2 _
  exact ht h2
 rw [heap_setCell_other w _ _ _ hne]
 exact hb
theorem DigM.keep {w w':World} {v:Value} {ds:List Nat} (h:DigM w v ds) (hk:Keep w w'):DigM w' v ds:=by
 obtain ⟨A,c,hv,h1,h2,h3,h4⟩:=h
 refine ⟨A,c,hv,h1,h2,h3,fun hp=>?_⟩
 obtain ⟨b,off,cs,fz,hA,hb,hc⟩:=h4 hp
 exact ⟨b,off,cs,fz,hA,hk b cs fz hb,hc⟩
theorem DigM.below {w w':World} {v:Value} {ds:List Nat} (h:DigM w v ds) (hb:Below w.heap.size w w'):DigM w' v ds:=h.keep (Keep.of_below hb)
theorem DigM.ok {w:World} {v:Value} {ds:List Nat} (h:DigM w v ds):okD ds:=by
 obtain ⟨_,_,_,_,_,h3,_⟩:=h;exact h3
theorem DigM.len {w:World} {A:Option Addr} {n c:Nat} {ds:List Nat} (h:DigM w (.slice A n c) ds):n≤ds.length∧ds.length≤n∧n≤c∧c≤9223372036854775807:=by
 obtain ⟨_,_,hv,h1,h2,_,_⟩:=h
 injection hv with _ e2 e3
 subst e2 e3
 unfold maxLen at h2
 exact ⟨Nat.le_refl _,Nat.le_refl _,h1,by omega⟩
theorem DigM.shape {w:World} {v:Value} {ds:List Nat} (h:DigM w v ds):∃A n c,v= .slice A n c:=by
 obtain ⟨A,c,hv,_⟩:=h;exact ⟨A,_,c,hv⟩
theorem DigM.at_ {w:World} {A:Option Addr} {n c:Nat} {ds:List Nat} (h:DigM w (.slice A n c) ds) (hn:0 < n):
 ∃b off,A=some ⟨b,off,none⟩∧b < w.heap.size∧∀k,k < n→w.cell? ⟨b,off+k,none⟩=some (.int .u32 (di ds k)):=by
 obtain ⟨hl,hl',_,_⟩:=h.len
 obtain ⟨A',c',hv,h1,h2,h3,h4⟩:=h
 injection hv with e1 e2 e3
 subst e1 e3
 obtain ⟨b,off,cs,fz,hA,hb,hc⟩:=h4 (by omega)
 refine ⟨b,off,hA,lt_heap hb,fun k hk=>?_⟩
 rw [cell_of_row w b (off+k) cs _ fz hb,hc k (dg ds k) (getElem?_dg (by omega))]
 rfl
theorem DigM.take {w:World} {A:Option Addr} {n c:Nat} {ds:List Nat} (h:DigM w (.slice A n c) ds) {k c':Nat} (hk:k≤n) (hc:k≤c') (hm:c'≤maxLen):DigM w (.slice A k c') (ds.take k):=by
 obtain ⟨hl,hl',_,_⟩:=h.len
 obtain ⟨A',c1,hv,h1,h2,h3,h4⟩:=h
 injection hv with e1 e2 e3
 subst e1 e3
 have hlen:(ds.take k).length=k:=by rw [List.length_take];omega
 refine ⟨A,c',by rw [hlen],by rw [hlen];exact hc,hm,okD_take h3 k,fun hp=>?_⟩
 rw [hlen] at hp
 obtain ⟨b,off,cs,fz,hA,hb,hcell⟩:=h4 (by omega)
 refine ⟨b,off,cs,fz,hA,hb,fun j d hj=>hcell j d ?_⟩
 rw [List.getElem?_take] at hj
 split at hj
 ·exact hj
 ·cases hj
theorem DigM.nil (w:World) (A:Option Addr) (c:Nat) (hm:c≤maxLen):DigM w (.slice A 0 c) []:=
 ⟨A,c,rfl,by simp,hm,okD_nil,fun h=>absurd h (by simp)⟩
def DigB (w:World) (g:Nat) (ds:List Nat):Prop:=w.heap[g]? =some (.cells (ds.map uc).toArray 72 (0,0))
theorem DigB.lt {w:World} {g:Nat} {ds:List Nat} (h:DigB w g ds):g < w.heap.size:=lt_heap h
theorem DigB.cell {w:World} {g:Nat} {ds:List Nat} (h:DigB w g ds) {k:Nat} (hk:k < ds.length):w.cell? ⟨g,k,none⟩=some (.int .u32 (di ds k)):=by
 rw [cell_of_row w g k _ _ _ h]
 simp [getElem?_dg hk,uc,di]
theorem DigB.frozen {w:World} {g:Nat} {ds:List Nat} (h:DigB w g ds) (k:Nat):w.frozen? ⟨g,k,none⟩=false:=frozen_of_row w g k _ _ h
theorem DigB.new (w:World) (ds:List Nat):DigB (w.alloc (.cells (ds.map uc).toArray 72)) w.heap.size ds:=heap_alloc_new w _
theorem DigB.set_ {w:World} {g:Nat} {ds:List Nat} (h:DigB w g ds) (k d:Nat):DigB (w.setCell ⟨g,k,none⟩ (.int .u32 (d:Int))) g (ds.set k d):=by
 unfold DigB at h ⊢
 rw [heap_setCell_same w g k _ _ _ h]
 simp [uc,List.map_set]
theorem DigB.setI {w:World} {g:Nat} {ds:List Nat} (h:DigB w g ds) (k:Nat) {z:Int} (hz:0≤z):DigB (w.setCell ⟨g,k,none⟩ (.int .u32 z)) g (ds.set k z.toNat):=by
 have:=h.set_ k z.toNat
 rwa [Int.toNat_of_nonneg hz] at this
theorem DigB.below {w w':World} {B g:Nat} {ds:List Nat} (h:DigB w g ds) (hb:Below B w w') (hg:g < B):DigB w' g ds:=(hb.block g hg).trans h
theorem DigB.dig {w:World} {g:Nat} {ds:List Nat} (h:DigB w g ds) (ok:okD ds) {c:Nat} (hc:ds.length≤c) (hm:c≤maxLen):DigM w (.slice (some ⟨g,0,none⟩) ds.length c) ds:=
 ⟨_,c,rfl,hc,hm,ok,fun _=>⟨g,0,_,_,rfl,h,fun k d hk=>by simp [hk,uc]⟩⟩
def zc (n:Nat):Array Value:=((List.replicate n 0).map uc).toArray
theorem DigB.zeros (w:World) (n:Nat):DigB (w.alloc (.cells (zc n) 72)) w.heap.size (List.replicate n 0):=DigB.new w _
theorem made_u32 (n:Nat):madeCells (Value.cells (.int .u32 0)) (n * 1)=zc n:=by
 simp [madeCells,Value.cells,uc,zc]
 apply Array.ext
 ·simp
 ·intro i h1 h2
  simp [Nat.mod_one]
theorem info_u32:(Tryz.prog.info? 72).map (fun i=>(i.zero,i.size,i.bytes))=some (some (.int .u32 0),1,4):=by kernel_rfl
theorem make_u32 (n:Nat) (hn:n≤1099511627776) (w:World):
 (Instr.makeSlice 55 (.int .i64 (n:Int)) (.int .i64 (n:Int))).run Tryz.prog w= .ok (.slice (some ⟨w.heap.size,0,none⟩) n n) (w.alloc (.cells (zc n) 72)):=by
 obtain ⟨i0,hi,hz0,hz1,hz2⟩:=info_parts info_u32
 have hb:(i0.bytes:Int) * (n:Int)≤281474976710656:=by rw [hz2];omega
 have hr:=run_make (P:=Tryz.prog) w 55 72 i0 _ Tryz.underlying55 hi hz0 .i64 .i64 n n (by omega) (by omega) hb (by omega)
 simp only [Int.toNat_natCast,hz1] at hr
 rw [hr,made_u32]
section
namespace Pl
structure Tk where
 fl:Int
 hd:Bool
structure Cl where
 dut:List (List Tk)
 cost:Int
structure Ct where
 rows:List Int
 dv:Int
structure Ms where
 fl:Int
 rows:List Int
 pen:Int
 cols:List Cl
 cuts:List Ct
def opD:List Tk→List Int
 | []=>[]
 | t::d=>(if t.hd=true then [] else [t.fl])++opD d
def opP:List (List Tk)→List Int
 | []=>[]
 | d::p=>opD d++opP p
def Cl.ops (c:Cl):List Int:=opP c.dut
theorem opD_append (a b:List Tk):opD (a++b)=opD a++opD b:=by
 induction a with
 | nil=>rfl
 | cons t a ih=>simp [opD,ih]
theorem opP_append (a b:List (List Tk)):opP (a++b)=opP a++opP b:=by
 induction a with
 | nil=>rfl
 | cons t a ih=>simp [opP,ih]
theorem opD_take {d:List Tk} {k:Nat} {t:Tk} (h:d[k]? =some t):opD (d.take (k+1))=opD (d.take k)++(if t.hd=true then [] else [t.fl]):=by
 rw [List.take_add_one,h,opD_append]
 simp [opD]
theorem opP_take {p:List (List Tk)} {k:Nat} {d:List Tk} (h:p[k]? =some d):opP (p.take (k+1))=opP (p.take k)++opD d:=by
 rw [List.take_add_one,h,opP_append]
 simp [opP]
def ascB (l:List Int):Bool:=decide (l.Pairwise (· < ·))
theorem asc_take_succ {l:List Int} {k:Nat} {x y:Int} (hx:l[k]? =some x) (hy:l[k+1]? =some y) (h:(l.take (k+1)).Pairwise (· < ·)):(l.take (k+1+1)).Pairwise (· < ·)↔x < y:=by
 rw [List.take_add_one (i:=k+1),hy]
 simp only [Option.toList_some,List.pairwise_append,List.pairwise_singleton,List.mem_singleton,forall_eq,true_and]
 constructor
 ·intro g
  refine g.2 x ?_
  rw [List.take_add_one,hx]
  simp
 ·intro g
  refine ⟨h,fun a ha=>?_⟩
  rw [List.take_add_one,hx] at ha h
  simp only [Option.toList_some,List.mem_append,List.mem_singleton] at ha
  simp only [Option.toList_some,List.pairwise_append,List.pairwise_singleton,List.mem_singleton,forall_eq,true_and] at h
  rcases ha with ha | ha
  ·have:=h.2 a ha;omega
  ·omega
theorem asc_le_one {l:List Int} {k:Nat} (hk:k≤1):(l.take k).Pairwise (· < ·):=by
 match l,k,hk with
 | [],_,_=>simp
 | x::l,0,_=>simp
 | x::l,1,_=>simp
theorem asc_get {l:List Int} (h:l.Pairwise (· < ·)) {i j:Nat} {x y:Int} (hij:i < j) (hx:l[i]? =some x) (hy:l[j]? =some y):x < y:=by
 obtain ⟨hi,rfl⟩:=List.getElem?_eq_some_iff.1 hx
 obtain ⟨hj,rfl⟩:=List.getElem?_eq_some_iff.1 hy
 exact List.pairwise_iff_getElem.1 h i j hi hj hij
def maskL (l:List Nat):Nat:=l.foldl (fun m r=>m ||| 2^r) 0
theorem maskL_snoc (l:List Nat) (r:Nat):maskL (l++[r])=maskL l ||| 2^r:=by simp [maskL]
theorem foldl_or_bit (l:List Nat) (m r:Nat):(l.foldl (fun m r=>m ||| 2^r) m).testBit r=(m.testBit r || decide (r∈l)):=by
 induction l generalizing m with
 | nil=>simp
 | cons x l ih=>
  rw [List.foldl_cons,ih,Nat.testBit_or,Nat.testBit_two_pow]
  by_cases h:x=r
  ·subst h;simp
  ·simp [h,Ne.symm h]
theorem maskL_bit (l:List Nat) (r:Nat):(maskL l).testBit r=decide (r∈l):=by
 unfold maskL
 rw [foldl_or_bit]
 simp
theorem maskL_lt {l:List Nat} {n:Nat} (h:∀r∈l,r < n):maskL l < 2^n:=by
 unfold maskL
 have:∀(l:List Nat) (m:Nat),(∀r∈l,r < n)→m < 2^n→l.foldl (fun m r=>m ||| 2^r) m < 2^n:=by
  intro l
  induction l with
  | nil=>intro m _ hm;exact hm
  | cons x l ih=>
   intro m hl hm
   rw [List.foldl_cons]
   exact ih _ (fun r hr=>hl r (List.mem_cons_of_mem _ hr)) (Nat.or_lt_two_pow hm (Nat.pow_lt_pow_right (by decide) (hl x (List.mem_cons_self ..))))
 exact this l 0 h (Nat.two_pow_pos n)
theorem and_zero_iff {a b:Nat}:a &&& b=0↔∀r,¬(a.testBit r=true∧b.testBit r=true):=by
 constructor
 ·intro h r ⟨h1,h2⟩
  have:=Nat.testBit_and a b r
  rw [h,h1,h2] at this
  simp at this
 ·intro h
  refine Nat.eq_of_testBit_eq fun r=>?_
  rw [Nat.testBit_and,Nat.zero_testBit]
  have:=h r
  cases ha:a.testBit r <;> cases hb:b.testBit r <;> simp_all
theorem mask_and_zero {a b:List Nat}:maskL a &&& maskL b=0↔∀r∈a,r ∉ b:=by
 rw [and_zero_iff]
 constructor
 ·intro h r ha hb
  exact h r ⟨by rw [maskL_bit];simpa using ha,by rw [maskL_bit];simpa using hb⟩
 ·intro h r ⟨h1,h2⟩
  rw [maskL_bit] at h1 h2
  exact h r (by simpa using h1) (by simpa using h2)
section
variable {α:Type} (lt:α→α→Bool)
def insB (x:α):List α→List α
 | []=>[x]
 | y::l=>if lt x y=true then x::y::l else y::insB x l
def sortB (l:List α):List α:=l.foldl (fun a x=>insB lt x a) []
theorem sortB_snoc (l:List α) (x:α):sortB lt (l++[x])=insB lt x (sortB lt l):=by simp [sortB]
theorem insB_perm (x:α) (l:List α):(insB lt x l).Perm (x::l):=by
 induction l with
 | nil=>exact List.Perm.refl _
 | cons y l ih=>
  unfold insB
  split
  ·exact List.Perm.refl _
  ·exact (List.Perm.cons y ih).trans (List.Perm.swap x y l)
theorem insB_mem {x y:α} {l:List α}:y∈insB lt x l↔y=x∨y∈l:=by rw [(insB_perm lt x l).mem_iff];simp
theorem sortB_perm (l:List α):(sortB lt l).Perm l:=by
 unfold sortB
 have:∀(l a:List α),(l.foldl (fun a x=>insB lt x a) a).Perm (a++l):=by
  intro l
  induction l with
  | nil=>intro a;simp
  | cons x l ih=>
   intro a
   rw [List.foldl_cons]
   refine (ih _).trans ?_
   refine ((insB_perm lt x a).append_right l).trans ?_
   exact List.perm_middle.symm
 simpa using this l []
theorem sortB_length (l:List α):(sortB lt l).length=l.length:=(sortB_perm lt l).length_eq
theorem sortB_mem {y:α} {l:List α}:y∈sortB lt l↔y∈l:=(sortB_perm lt l).mem_iff
variable {lt}
def Srt (lt:α→α→Bool) (l:List α):Prop:=l.Pairwise fun a b=>lt b a=false
theorem insB_srt (ir:∀x,lt x x=false) (tr:∀x y z,lt x y=true→lt y z=true→lt x z=true) {x:α} {l:List α} (h:Srt lt l):Srt lt (insB lt x l):=by
 induction l with
 | nil=>simp [insB,Srt]
 | cons y l ih=>
  unfold Srt at h
  rw [List.pairwise_cons] at h
  unfold insB
  split
  ·rename_i hc
   unfold Srt
   rw [List.pairwise_cons,List.pairwise_cons]
   refine ⟨fun z hz=>?_,h⟩
   rcases List.mem_cons.1 hz with rfl | hz
   ·cases hb:lt z x with
    | false=>rfl
    | true=>have:=tr _ _ _ hc hb;rw [ir] at this;cases this
   ·cases hb:lt z x with
    | false=>rfl
    | true=>have:=tr _ _ _ hb hc;rw [h.1 z hz] at this;cases this
  ·rename_i hc
   unfold Srt
   rw [List.pairwise_cons]
   refine ⟨fun z hz=>?_,ih h.2⟩
   rcases (insB_mem lt).1 hz with rfl | hz
   ·simpa using hc
   ·exact h.1 z hz
theorem sortB_srt (ir:∀x,lt x x=false) (tr:∀x y z,lt x y=true→lt y z=true→lt x z=true) (l:List α):Srt lt (sortB lt l):=by
 have:∀(l a:List α),Srt lt a→Srt lt (l.foldl (fun a x=>insB lt x a) a):=by
  intro l
  induction l with
  | nil=>intro a h;exact h
  | cons x l ih=>intro a h;exact ih _ (insB_srt ir tr h)
 exact this l [] (by simp [Srt])
theorem insB_stop (tr':∀x y z,lt x y=false→lt y z=false→lt x z=false) {x y:α} {a:List α} (h:Srt lt (a++[y])) (hxy:lt x y=false):insB lt x (a++[y])=a++[y,x]:=by
 induction a with
 | nil=>simp [insB,hxy]
 | cons z a ih=>
  unfold Srt at h
  rw [List.cons_append,List.pairwise_cons] at h
  have hz:lt x z=false:=tr' _ _ _ hxy (h.1 y (by simp))
  rw [List.cons_append,insB,if_neg (by simp [hz]),ih h.2]
  rfl
theorem insB_move {x y:α} {a b:List α} (ir:∀x,lt x x=false) (tr:∀x y z,lt x y=true→lt y z=true→lt x z=true) (tr':∀x y z,lt x y=false→lt y z=false→lt x z=false) (h:Srt lt (a++y::b)) (hxy:lt x y=true):insB lt x (a++y::b)=insB lt x a++y::b:=by
 induction a with
 | nil=>simp [insB,hxy]
 | cons z a ih=>
  unfold Srt at h
  rw [List.cons_append,List.pairwise_cons] at h
  rw [List.cons_append,insB,insB]
  by_cases hz:lt x z=true
  ·rw [if_pos hz,if_pos hz];rfl
  ·rw [if_neg hz,if_neg hz,ih h.2];rfl
end
def ltI (x y:Int):Bool:=decide (x < y)
def sortI (l:List Int):List Int:=sortB ltI l
theorem ltI_ir (x:Int):ltI x x=false:=by simp [ltI]
theorem ltI_tr (x y z:Int):ltI x y=true→ltI y z=true→ltI x z=true:=by simp [ltI];omega
theorem ltI_tr' (x y z:Int):ltI x y=false→ltI y z=false→ltI x z=false:=by simp [ltI];omega
theorem sortI_snoc (l:List Int) (x:Int):sortI (l++[x])=insB ltI x (sortI l):=sortB_snoc _ _ _
theorem sortI_asc {l:List Int} (h:l.Nodup):(sortI l).Pairwise (· < ·):=by
 have h1:Srt ltI (sortI l):=sortB_srt ltI_ir ltI_tr l
 have h2:(sortI l).Nodup:=(sortB_perm ltI l).nodup_iff.2 h
 unfold Srt at h1
 refine (h1.and h2).imp fun {a b} ⟨h3,h4⟩=>?_
 simp [ltI] at h3
 omega
theorem insI_asc {x:Int} {l:List Int} (h:l.Pairwise (· < ·)) (hx:x ∉ l):(insB ltI x l).Pairwise (· < ·):=by
 induction l with
 | nil=>simp [insB]
 | cons y l ih=>
  rw [List.pairwise_cons] at h
  unfold insB
  split
  ·rename_i hc
   simp [ltI] at hc
   rw [List.pairwise_cons,List.pairwise_cons]
   refine ⟨fun z hz=>?_,h⟩
   rcases List.mem_cons.1 hz with rfl | hz
   ·exact hc
   ·have:=h.1 z hz;omega
  ·rename_i hc
   simp [ltI] at hc
   rw [List.pairwise_cons]
   refine ⟨fun z hz=>?_,ih h.2 fun hm=>hx (List.mem_cons_of_mem _ hm)⟩
   rcases (insB_mem ltI).1 hz with rfl | hz
   ·have:z≠y:=fun e=>hx (by simp [e])
    omega
   ·exact h.1 z hz
theorem asc_ext {a b:List Int} (ha:a.Pairwise (· < ·)) (hb:b.Pairwise (· < ·)) (h:∀x,x∈a↔x∈b):a=b:=by
 induction a generalizing b with
 | nil=>
  cases b with
  | nil=>rfl
  | cons y b=>have:=(h y).2 (by simp);simp at this
 | cons x a ih=>
  cases b with
  | nil=>have:=(h x).1 (by simp);simp at this
  | cons y b=>
   rw [List.pairwise_cons] at ha hb
   have hxy:x=y:=by
    have h1:=(h x).1 (by simp)
    have h2:=(h y).2 (by simp)
    rcases List.mem_cons.1 h1 with e | e
    ·exact e
    ·rcases List.mem_cons.1 h2 with e' | e'
     ·exact e'.symm
     ·have:=ha.1 y e';have:=hb.1 x e;omega
   subst hxy
   congr 1
   refine ih ha.2 hb.2 fun z=>?_
   have hz:=h z
   simp only [List.mem_cons] at hz
   constructor
   ·intro hza
    rcases hz.1 (.inr hza) with e | e
    ·have:=ha.1 z hza;omega
    ·exact e
   ·intro hzb
    rcases hz.2 (.inr hzb) with e | e
    ·have:=hb.1 z hzb;omega
    ·exact e
end Pl
end
section
namespace Pl
structure Dc where
 idx:Nat
 mask:Nat
 rows:List Nat
 sur:Int
def InR (n:Nat) (s:List Int):Prop:=∀i∈s,0≤i∧i < n
instance (n:Nat) (s:List Int):Decidable (InR n s):=inferInstanceAs (Decidable (∀i∈s,0≤i∧i < n))
section
variable (L:List Dc)
def mkI (i:Int):Nat:=((L[i.toNat]?).map (·.mask)).getD 0
def suI (i:Int):Int:=((L[i.toNat]?).map (·.sur)).getD 0
def Dj (s:List Int):Prop:=s.Pairwise fun i j=>mkI L i &&& mkI L j=0
instance (s:List Int):Decidable (Dj L s):=inferInstanceAs (Decidable (s.Pairwise fun i j=>mkI L i &&& mkI L j=0))
def sumI (s:List Int):Int:=(s.map (suI L)).sum
def orI (s:List Int):Nat:=s.foldl (fun m i=>m ||| mkI L i) 0
structure Sel (s:List Int):Prop where
 rg:InR L.length s
 asc:s.Pairwise (· < ·)
 dj:Dj L s
def selErr (s:List Int):Int:=if InR L.length s then (if ascB s=true then (if Dj L s then 0 else 7) else 8) else 5
theorem Sel.err {s:List Int} (h:Sel L s):selErr L s=0:=by
 unfold selErr ascB
 rw [if_pos h.rg,if_pos (decide_eq_true h.asc),if_pos h.dj]
variable {L}
theorem mkI_of {i:Nat} {x:Dc} (h:L[i]? =some x):mkI L (i:Int)=x.mask:=by simp [mkI,h]
theorem suI_of {i:Nat} {x:Dc} (h:L[i]? =some x):suI L (i:Int)=x.sur:=by simp [suI,h]
theorem sumI_append (a b:List Int):sumI L (a++b)=sumI L a+sumI L b:=by simp [sumI]
theorem sumI_perm {a b:List Int} (h:a.Perm b):sumI L a=sumI L b:=by
 unfold sumI
 induction h with
 | nil=>rfl
 | cons x _ ih=>simp [ih]
 | swap x y l=>simp;omega
 | trans _ _ h1 h2=>exact h1.trans h2
theorem Dj.perm {a b:List Int} (h:Dj L a) (hp:a.Perm b):Dj L b:=by
 unfold Dj at h ⊢
 exact (hp.pairwise_iff (fun {x y} h=>by rw [Nat.and_comm];exact h)).1 h
theorem orI_bit (s:List Int) (r:Nat):(orI L s).testBit r=s.any fun i=>(mkI L i).testBit r:=by
 unfold orI
 have:∀(s:List Int) (m:Nat),(s.foldl (fun m i=>m ||| mkI L i) m).testBit r=(m.testBit r || s.any fun i=>(mkI L i).testBit r):=by
  intro s
  induction s with
  | nil=>intro m;simp
  | cons x s ih=>intro m;rw [List.foldl_cons,ih,Nat.testBit_or,List.any_cons,Bool.or_assoc]
 rw [this]
 simp
theorem orI_snoc (s:List Int) (i:Int):orI L (s++[i])=orI L s ||| mkI L i:=by simp [orI]
theorem and_orI {m:Nat} {s:List Int}:m &&& orI L s=0↔∀i∈s,m &&& mkI L i=0:=by
 rw [and_zero_iff]
 constructor
 ·intro h i hi
  rw [and_zero_iff]
  intro r ⟨h1,h2⟩
  exact h r ⟨h1,by rw [orI_bit,List.any_eq_true];exact ⟨i,hi,h2⟩⟩
 ·intro h r ⟨h1,h2⟩
  rw [orI_bit,List.any_eq_true] at h2
  obtain ⟨i,hi,h3⟩:=h2
  exact and_zero_iff.1 (h i hi) r ⟨h1,h3⟩
theorem orI_perm {a b:List Int} (h:a.Perm b):orI L a=orI L b:=by
 refine Nat.eq_of_testBit_eq fun r=>?_
 rw [orI_bit,orI_bit,Bool.eq_iff_iff,List.any_eq_true,List.any_eq_true]
 constructor
 ·rintro ⟨x,hx,hr⟩;exact ⟨x,h.mem_iff.1 hx,hr⟩
 ·rintro ⟨x,hx,hr⟩;exact ⟨x,h.mem_iff.2 hx,hr⟩
theorem Dj_snoc {s:List Int} {i:Int}:Dj L (s++[i])↔Dj L s∧mkI L i &&& orI L s=0:=by
 unfold Dj
 rw [List.pairwise_append,and_orI]
 simp only [List.pairwise_singleton,List.mem_singleton,forall_eq,true_and]
 constructor
 ·rintro ⟨h1,h2⟩;exact ⟨h1,fun j hj=>by rw [Nat.and_comm];exact h2 j hj⟩
 ·rintro ⟨h1,h2⟩;exact ⟨h1,fun j hj=>by rw [Nat.and_comm];exact h2 j hj⟩
end
def Erl (a b:List Int):Prop:=∃k,k∈a∧k ∉ b∧∀j,j < k→(j∈a↔j∈b)
theorem Erl.asymm {a b:List Int} (h:Erl a b) (h':Erl b a):False:=by
 obtain ⟨k,h1,h2,h3⟩:=h
 obtain ⟨j,g1,g2,g3⟩:=h'
 rcases Int.lt_trichotomy k j with e | e | e
 ·exact h2 ((g3 k e).2 h1)
 ·subst e;exact g2 h1
 ·exact g2 ((h3 j e).2 g1)
theorem Erl.trans {a b c:List Int} (h:Erl a b) (h':Erl b c):Erl a c:=by
 obtain ⟨k,h1,h2,h3⟩:=h
 obtain ⟨j,g1,g2,g3⟩:=h'
 rcases Int.lt_trichotomy k j with e | e | e
 ·exact ⟨k,h1,fun hc=>h2 ((g3 k e).2 hc),fun i hi=>(h3 i hi).trans (g3 i (by omega))⟩
 ·subst e;exact absurd g1 h2
 ·exact ⟨j,(h3 j e).2 g1,g2,fun i hi=>(h3 i (by omega)).trans (g3 i hi)⟩
def earB (a b:List Int):Nat→Nat→Bool
 | 0,_=>false
 | f+1,n=>if decide ((n:Int)∈a)=decide ((n:Int)∈b) then earB a b f (n+1) else decide ((n:Int)∈a)
theorem earB_iff {a b:List Int} {f n:Nat} (ha:∀i∈a,0≤i∧i < (n+f:Nat)) (hlow:∀j:Int,j < n→(j∈a↔j∈b)):earB a b f n=true↔Erl a b:=by
 induction f generalizing n with
 | zero=>
  simp only [earB,Bool.false_eq_true,false_iff]
  rintro ⟨k,h1,h2,_⟩
  have:=ha k h1
  exact h2 ((hlow k (by omega)).1 h1)
 | succ f ih=>
  rw [earB]
  split
  ·rename_i h
   have hd:((n:Int)∈a↔(n:Int)∈b):=by simpa using h
   refine ih (fun i hi=>by have:=ha i hi;omega) fun j hj=>?_
   rcases Int.lt_or_le j n with e | e
   ·exact hlow j e
   ·obtain rfl:j=n:=by omega
    exact hd
  ·rename_i h
   have hd:¬((n:Int)∈a↔(n:Int)∈b):=by simpa using h
   rw [decide_eq_true_iff]
   constructor
   ·intro h1
    exact ⟨n,h1,fun h2=>hd ⟨fun _=>h2,fun _=>h1⟩,hlow⟩
   ·rintro ⟨k,h1,h2,h3⟩
    rcases Int.lt_trichotomy k n with e | e | e
    ·exact absurd ((hlow k e).1 h1) h2
    ·subst e;exact h1
    ·exact absurd (h3 n e) hd
theorem Erl.total {a b:List Int} (ha:a.Pairwise (· < ·)) (hb:b.Pairwise (· < ·)) (ha0:∀i∈a,0≤i) (hb0:∀i∈b,0≤i):Erl a b∨a=b∨Erl b a:=by
 induction a generalizing b with
 | nil=>
  cases b with
  | nil=>exact .inr (.inl rfl)
  | cons y b=>
   rw [List.pairwise_cons] at hb
   refine .inr (.inr ⟨y,by simp,by simp,fun j hj=>?_⟩)
   simp only [List.mem_cons,List.not_mem_nil,iff_false]
   rintro (e | e)
   ·omega
   ·have:=hb.1 j e;omega
 | cons x a ih=>
  rw [List.pairwise_cons] at ha
  cases b with
  | nil=>
   refine .inl ⟨x,by simp,by simp,fun j hj=>?_⟩
   simp only [List.mem_cons,List.not_mem_nil,iff_false]
   rintro (e | e)
   ·omega
   ·have:=ha.1 j e;omega
  | cons y b=>
   rw [List.pairwise_cons] at hb
   have hx:∀j,j < x→j ∉ x::a:=fun j hj h=>by
    rcases List.mem_cons.1 h with e | e
    ·omega
    ·have:=ha.1 j e;omega
   have hy:∀j,j < y→j ∉ y::b:=fun j hj h=>by
    rcases List.mem_cons.1 h with e | e
    ·omega
    ·have:=hb.1 j e;omega
   rcases Int.lt_trichotomy x y with e | e | e
   ·exact .inl ⟨x,by simp,hy x e,fun j hj=>⟨fun h=>absurd h (hx j hj),fun h=>absurd h (hy j (by omega))⟩⟩
   ·subst e
    have keep:∀{c d:List Int},(∀z∈c,x < z)→(∀z∈d,x < z)→Erl c d→Erl (x::c) (x::d):=by
     rintro c d hc hd ⟨k,h1,h2,h3⟩
     have hk:=hc k h1
     refine ⟨k,by simp [h1],fun h=>?_,fun j hj=>?_⟩
     ·rcases List.mem_cons.1 h with e | e
      ·omega
      ·exact h2 e
     ·simp only [List.mem_cons]
      rw [h3 j hj]
    rcases ih ha.2 hb.2 (fun i hi=>ha0 i (by simp [hi])) (fun i hi=>hb0 i (by simp [hi])) with h | h | h
    ·exact .inl (keep ha.1 hb.1 h)
    ·exact .inr (.inl (by rw [h]))
    ·exact .inr (.inr (keep hb.1 ha.1 h))
   ·exact .inr (.inr ⟨y,by simp,hx y e,fun j hj=>⟨fun h=>absurd h (hy j hj),fun h=>absurd h (hx j (by omega))⟩⟩)
def Ble (L:List Dc) (a b:List Int):Prop:=sumI L a < sumI L b∨(sumI L a=sumI L b∧(a=b∨Erl a b))
theorem Ble.refl (L:List Dc) (a:List Int):Ble L a a:= .inr ⟨rfl,.inl rfl⟩
theorem Ble.trans {L:List Dc} {a b c:List Int} (h:Ble L a b) (h':Ble L b c):Ble L a c:=by
 rcases h with h | ⟨h,g⟩
 ·rcases h' with h' | ⟨h',_⟩
  ·exact .inl (by omega)
  ·exact .inl (by omega)
 ·rcases h' with h' | ⟨h',g'⟩
  ·exact .inl (by omega)
  ·refine .inr ⟨by omega,?_⟩
   rcases g with rfl | g
   ·exact g'
   ·rcases g' with rfl | g'
    ·exact .inr g
    ·exact .inr (g.trans g')
structure Best (L:List Dc) (kept s:List Int):Prop where
 sel:Sel L s
 sub:∀i∈kept,i∈s
 le:∀t,Sel L t→(∀i∈kept,i∈t)→Ble L s t
def frB (L:List Dc) (now:List Int) (j:Nat):Bool:=now.all fun i=>decide (mkI L i &&& mkI L (j:Int)=0)
def extP (L:List Dc) (base:Int):Nat→List Int→List Int→Int→List Int × Int
 | 0,now,best,low=>if base+sumI L now < low∨(base+sumI L now=low∧earB now best 1000 0=true) then (now,base+sumI L now) else (best,low)
 | k+1,now,best,low=>
  if frB L now (L.length - (k+1))=true then
   extP L base k now (extP L base k (insB ltI ((L.length - (k+1):Nat):Int) now) best low).1 (extP L base k (insB ltI ((L.length - (k+1):Nat):Int) now) best low).2
  else extP L base k now best low
theorem Sel.ins {L:List Dc} (hne:∀(i:Nat) (x:Dc),L[i]? =some x→x.mask≠0) {now:List Int} {j:Nat} (h:Sel L now) (hj:j < L.length) (hf:frB L now j=true):(j:Int) ∉ now∧Sel L (insB ltI (j:Int) now):=by
 have hf':∀i∈now,mkI L i &&& mkI L (j:Int)=0:=by
  unfold frB at hf
  rw [List.all_eq_true] at hf
  intro i hi;simpa using hf i hi
 have hn:(j:Int) ∉ now:=fun hm=>by
  have:=hf' _ hm
  rw [Nat.and_self,mkI_of (List.getElem?_eq_getElem hj)] at this
  exact hne j _ (List.getElem?_eq_getElem hj) this
 refine ⟨hn,⟨fun i hi=>?_,insI_asc h.asc hn,?_⟩⟩
 ·rcases (insB_mem ltI).1 hi with rfl | hi
  ·omega
  ·exact h.rg i hi
 ·refine Dj.perm ?_ (insB_perm ltI (j:Int) now).symm
  unfold Dj
  rw [List.pairwise_cons]
  exact ⟨fun i hi=>by rw [Nat.and_comm];exact hf' i hi,h.dj⟩
theorem pair_of {L:List Dc} {t:List Int} (h:t.Pairwise fun a b=>a < b∧mkI L a &&& mkI L b=0) {i j:Int} (hi:i∈t) (hj:j∈t) (hlt:i < j):mkI L i &&& mkI L j=0:=by
 obtain ⟨a,ha,rfl⟩:=List.getElem_of_mem hi
 obtain ⟨b,hb,rfl⟩:=List.getElem_of_mem hj
 have hp:=List.pairwise_iff_getElem.1 h
 rcases Nat.lt_trichotomy a b with e | e | e
 ·exact (hp a b ha hb e).2
 ·subst e;omega
 ·have:=(hp b a hb ha e).1;omega
def Ext (L:List Dc) (now:List Int) (j:Nat) (t:List Int):Prop:=Sel L t∧(∀i∈now,i∈t)∧∀i∈t,i < (j:Int)→i∈now
theorem ext_best {L:List Dc} (hne:∀(i:Nat) (x:Dc),L[i]? =some x→x.mask≠0) (hL:L.length≤1000) {base:Int} {k:Nat} {now best:List Int} {low:Int} (hk:k≤L.length) (hs:Sel L now) (hb:Sel L best) (hlow:low=base+sumI L best):
 ((extP L base k now best low).1=best∨Ext L now (L.length - k) (extP L base k now best low).1)∧Sel L (extP L base k now best low).1∧(extP L base k now best low).2=base+sumI L (extP L base k now best low).1∧
  Ble L (extP L base k now best low).1 best∧∀t,Ext L now (L.length - k) t→Ble L (extP L base k now best low).1 t:=by
 induction k generalizing now best low with
 | zero=>
  have hself:∀t,Ext L now (L.length - 0) t→t=now:=fun t ht=>asc_ext ht.1.asc hs.asc fun x=>⟨fun hx=>ht.2.2 x hx (by have:=ht.1.rg x hx;omega),ht.2.1 x⟩
  have hE:Ext L now (L.length - 0) now:=⟨hs,fun _ h=>h,fun _ h _=>h⟩
  have hiff:=earB_iff (a:=now) (b:=best) (f:=1000) (n:=0) (fun i hi=>by have:=hs.rg i hi;omega) (fun j hj=>⟨fun h=>by have:=hs.rg j h;omega,fun h=>by have:=hb.rg j h;omega⟩)
  unfold extP
  split
  ·rename_i hc
   refine ⟨.inr hE,hs,rfl,?_,fun t ht=>by rw [hself t ht];exact Ble.refl _ _⟩
   rcases hc with hc | ⟨hc,he⟩
   ·exact .inl (by simp only;omega)
   ·exact .inr ⟨by simp only;omega,.inr (hiff.1 he)⟩
  ·rename_i hc
   refine ⟨.inl rfl,hb,hlow,Ble.refl _ _,fun t ht=>?_⟩
   rw [hself t ht]
   rcases Int.lt_trichotomy (base+sumI L now) low with e | e | e
   ·exact absurd (.inl e) hc
   ·have hn:¬Erl now best:=fun h=>hc (.inr ⟨e,hiff.2 h⟩)
    refine .inr ⟨by simp only;omega,?_⟩
    rcases Erl.total hs.asc hb.asc (fun i hi=>(hs.rg i hi).1) (fun i hi=>(hb.rg i hi).1) with h | h | h
    ·exact absurd h hn
    ·exact .inl h.symm
    ·exact .inr h
   ·exact .inl (by simp only;omega)
 | succ k ih=>
  obtain ⟨j,hj⟩:∃j,L.length - (k+1)=j:=⟨_,rfl⟩
  have hjl:j < L.length:=by omega
  have hjk:L.length - k=j+1:=by omega
  unfold extP
  rw [hj]
  -- what agrees on the first j columns either lacks column j or has it
  have hsplit:∀t,Ext L now j t→Ext L now (j+1) t∨(frB L now j=true∧Ext L (insB ltI (j:Int) now) (j+1) t):=fun t ht=>by
   by_cases hjt:(j:Int)∈t
   ·by_cases hjn:(j:Int)∈now
    ·refine .inl ⟨ht.1,ht.2.1,fun i hi hlt=>?_⟩
     rcases Int.lt_or_le i j with e | e
     ·exact ht.2.2 i hi e
     ·obtain rfl:i=j:=by omega
      exact hjn
    ·refine .inr ⟨?_,ht.1,fun i hi=>?_,fun i hi hlt=>?_⟩
     ·unfold frB
      rw [List.all_eq_true]
      intro i hi
      rw [decide_eq_true_iff]
      have hne':i≠(j:Int):=fun e=>hjn (e▸hi)
      have:=ht.1.dj
      unfold Dj at this
      rcases Int.lt_or_gt_of_ne hne' with hlt | hlt
      ·have hp:=(ht.1.asc.and this)
       exact (pair_of hp (ht.2.1 i hi) hjt hlt)
      ·have hp:=(ht.1.asc.and this)
       rw [Nat.and_comm]
       exact (pair_of hp hjt (ht.2.1 i hi) hlt)
     ·rcases (insB_mem ltI).1 hi with rfl | hi
      ·exact hjt
      ·exact ht.2.1 i hi
     ·rw [insB_mem]
      rcases Int.lt_or_le i j with e | e
      ·exact .inr (ht.2.2 i hi e)
      ·exact .inl (by omega)
   ·refine .inl ⟨ht.1,ht.2.1,fun i hi hlt=>?_⟩
    rcases Int.lt_or_le i j with e | e
    ·exact ht.2.2 i hi e
    ·obtain rfl:i=j:=by omega
     exact absurd hi hjt
  have hup:∀t,Ext L now (j+1) t→Ext L now j t:=fun t ht=>⟨ht.1,ht.2.1,fun i hi hlt=>ht.2.2 i hi (by omega)⟩
  split
  ·rename_i hf
   obtain ⟨hn,hs'⟩:=hs.ins hne hjl hf
   have hup':∀t,Ext L (insB ltI (j:Int) now) (j+1) t→Ext L now j t:=fun t ht=>⟨ht.1,fun i hi=>ht.2.1 i ((insB_mem ltI).2 (.inr hi)),fun i hi hlt=>by
    rcases (insB_mem ltI).1 (ht.2.2 i hi (by omega)) with e | e
    ·omega
    ·exact e⟩
   obtain ⟨a1,a2,a3,a4,a5⟩:=ih (now:=insB ltI (j:Int) now) (best:=best) (low:=low) (by omega) hs' hb hlow
   generalize extP L base k (insB ltI (j:Int) now) best low=r1 at a1 a2 a3 a4 a5 ⊢
   obtain ⟨b1,b2,b3,b4,b5⟩:=ih (now:=now) (best:=r1.1) (low:=r1.2) (by omega) hs a2 a3
   rw [hjk] at a1 a5 b1 b5
   refine ⟨?_,b2,b3,b4.trans a4,fun t ht=>?_⟩
   ·rcases b1 with e | e
    ·rw [e]
     rcases a1 with e | e
     ·exact .inl e
     ·exact .inr (hup' _ e)
    ·exact .inr (hup _ e)
   ·rcases hsplit t ht with h | ⟨_,h⟩
    ·exact b5 t h
    ·exact b4.trans (a5 t h)
  ·rename_i hf
   obtain ⟨b1,b2,b3,b4,b5⟩:=ih (now:=now) (best:=best) (low:=low) (by omega) hs hb hlow
   rw [hjk] at b1 b5
   refine ⟨b1.imp id (hup _),b2,b3,b4,fun t ht=>?_⟩
   rcases hsplit t ht with h | ⟨h,_⟩
   ·exact b5 t h
   ·exact absurd h hf
theorem best_ext {L:List Dc} (hne:∀(i:Nat) (x:Dc),L[i]? =some x→x.mask≠0) (hL:L.length≤1000) {base:Int} {kept:List Int} (hs:Sel L kept):
 Best L kept (extP L base L.length kept kept (base+sumI L kept)).1∧(extP L base L.length kept kept (base+sumI L kept)).2=base+sumI L (extP L base L.length kept kept (base+sumI L kept)).1:=by
 obtain ⟨a1,a2,a3,a4,a5⟩:=ext_best hne hL (base:=base) (Nat.le_refl _) hs hs rfl
 refine ⟨⟨a2,?_,fun t ht hsub=>a5 t ⟨ht,hsub,fun i hi hlt=>?_⟩⟩,a3⟩
 ·rcases a1 with e | e
  ·rw [e];exact fun _ h=>h
  ·exact e.2.1
 ·have:=ht.rg i hi;omega
end Pl
end
namespace Pl
structure Sv where
 best:List Int
 cost:Int
 proper:Bool
 used:Nat
structure Sc where
 n:Nat
 kept:List Int
 steps:Nat
def minAt (a:List Int) (r:Nat) (z:Int):List Int:=a.set r (min (a.getD r 0) z)
def shareP (x:Dc):Int:=x.sur / (x.rows.length:Int)
def leastP (n:Nat):List Dc→List Int
 | []=>List.replicate n 0
 | x::l=>x.rows.foldl (fun a r=>minAt a r (shareP x)) (leastP n l)
def bndP (t:Nat):List Int→Nat→Int→Int
 | [],_,c=>c
 | s::l,r,c=>bndP t l (r+1) (if t.testBit r=true then c else c+s)
def hopB (b:Int) (st:Sv):Bool:=decide (st.cost < b) || (decide (b=st.cost) && st.proper)
def loopP (cf:Sc):List Dc→Nat→Int→List Int→Sv→Sv × Bool
 | [],_,c,ad,st=>(if c < st.cost∨(c=st.cost∧st.proper=false) then ⟨sortI (cf.kept++ad),c,true,st.used⟩ else st,true)
 | x::l,t,c,ad,st=>
  if hopB (bndP t (leastP cf.n (x::l)) 0 c) st=true then (st,true)
  else if x.mask &&& t=0 then
   if (if st.used=cf.steps then (st,false) else loopP cf l (t ||| x.mask) (c+x.sur) (ad++[(x.idx:Int)]) ⟨st.best,st.cost,st.proper,st.used+1⟩).2=true then
    loopP cf l t c ad (if st.used=cf.steps then (st,false) else loopP cf l (t ||| x.mask) (c+x.sur) (ad++[(x.idx:Int)]) ⟨st.best,st.cost,st.proper,st.used+1⟩).1
   else ((if st.used=cf.steps then (st,false) else loopP cf l (t ||| x.mask) (c+x.sur) (ad++[(x.idx:Int)]) ⟨st.best,st.cost,st.proper,st.used+1⟩).1,false)
  else loopP cf l t c ad st
def visP (cf:Sc) (l:List Dc) (t:Nat) (c:Int) (ad:List Int) (st:Sv):Sv × Bool:=if st.used=cf.steps then (st,false) else loopP cf l t c ad ⟨st.best,st.cost,st.proper,st.used+1⟩
theorem loopP_cons (cf:Sc) (x:Dc) (l:List Dc) (t:Nat) (c:Int) (ad:List Int) (st:Sv):loopP cf (x::l) t c ad st=
 if hopB (bndP t (leastP cf.n (x::l)) 0 c) st=true then (st,true)
 else if x.mask &&& t=0 then
  if (visP cf l (t ||| x.mask) (c+x.sur) (ad++[(x.idx:Int)]) st).2=true then loopP cf l t c ad (visP cf l (t ||| x.mask) (c+x.sur) (ad++[(x.idx:Int)]) st).1
  else ((visP cf l (t ||| x.mask) (c+x.sur) (ad++[(x.idx:Int)]) st).1,false)
 else loopP cf l t c ad st:=rfl
theorem minAt_length (a:List Int) (r:Nat) (z:Int):(minAt a r z).length=a.length:=by simp [minAt]
theorem minAt_le (a:List Int) (r q:Nat) (z:Int):(minAt a r z).getD q 0≤a.getD q 0:=by
 unfold minAt
 by_cases h:r=q
 ·subst h
  rcases Nat.lt_or_ge r a.length with e | e
  ·simp [List.getD,e];omega
  ·rw [List.set_eq_of_length_le e];exact Int.le_refl _
 ·simp [List.getD,List.getElem?_set_ne h]
theorem minAt_at {a:List Int} {r:Nat} (z:Int) (h:r < a.length):(minAt a r z).getD r 0≤z:=by
 unfold minAt
 simp [List.getD,h];omega
theorem foldMin (z:Int):∀(rows:List Nat) (a:List Int),(∀r∈rows,r < a.length)→
 (rows.foldl (fun a r=>minAt a r z) a).length=a.length∧(∀q,(rows.foldl (fun a r=>minAt a r z) a).getD q 0≤a.getD q 0)∧∀q∈rows,(rows.foldl (fun a r=>minAt a r z) a).getD q 0≤z:=by
 intro rows
 induction rows with
 | nil=>intro a _;exact ⟨rfl,fun q=>Int.le_refl _,fun q h=>by simp at h⟩
 | cons r rows ih=>
  intro a hr
  have hl:=minAt_length a r z
  obtain ⟨h1,h2,h3⟩:=ih (minAt a r z) (fun q hq=>by rw [hl];exact hr q (List.mem_cons_of_mem _ hq))
  rw [List.foldl_cons]
  refine ⟨h1.trans hl,fun q=>Int.le_trans (h2 q) (minAt_le a r q z),fun q hq=>?_⟩
  rcases List.mem_cons.1 hq with rfl | hq
  ·exact Int.le_trans (h2 q) (minAt_at z (hr q (List.mem_cons_self ..)))
  ·exact h3 q hq
structure DcOK (n:Nat) (x:Dc):Prop where
 msk:x.mask=maskL x.rows
 ne:x.rows≠[]
 nd:x.rows.Nodup
 rg:∀r∈x.rows,r < n
theorem DcOK.mask_ne {n:Nat} {x:Dc} (h:DcOK n x):x.mask≠0:=by
 intro h0
 obtain ⟨r,hr⟩:=List.exists_mem_of_ne_nil _ h.ne
 have:=maskL_bit x.rows r
 rw [← h.msk,h0] at this
 simp [hr] at this
theorem least_ok {n:Nat} {l:List Dc} (h:∀x∈l,DcOK n x):(leastP n l).length=n∧(∀q,(leastP n l).getD q 0≤0)∧∀x∈l,∀r∈x.rows,(leastP n l).getD r 0≤shareP x:=by
 induction l with
 | nil=>
  refine ⟨by simp [leastP],fun q=>?_,fun x h=>by simp at h⟩
  simp only [leastP,List.getD,List.getElem?_replicate]
  split <;> simp
 | cons x l ih=>
  obtain ⟨h1,h2,h3⟩:=ih fun y hy=>h y (List.mem_cons_of_mem _ hy)
  have hx:=h x (List.mem_cons_self ..)
  obtain ⟨g1,g2,g3⟩:=foldMin (shareP x) x.rows (leastP n l) (fun r hr=>by rw [h1];exact hx.rg r hr)
  unfold leastP
  refine ⟨g1.trans h1,fun q=>Int.le_trans (g2 q) (h2 q),fun y hy r hr=>?_⟩
  rcases List.mem_cons.1 hy with rfl | hy
  ·exact g3 r hr
  ·exact Int.le_trans (g2 r) (h3 y hy r hr)
theorem bndP_add (t:Nat) (l:List Int) (r:Nat) (c:Int):bndP t l r c=c+bndP t l r 0:=by
 induction l generalizing r c with
 | nil=>simp [bndP]
 | cons s l ih=>
  unfold bndP
  rw [ih (r+1) (if t.testBit r=true then c else c+s),ih (r+1) (if t.testBit r=true then 0 else 0+s)]
  split <;> omega
theorem bndP_le {t:Nat} {l:List Int} (h:∀q,l.getD q 0≤0) (r:Nat):bndP t l r 0≤0:=by
 induction l generalizing r with
 | nil=>simp [bndP]
 | cons s l ih=>
  rw [bndP,bndP_add]
  have h0:s≤0:=by have:=h 0;simpa using this
  have:=ih (fun q=>by have:=h (q+1);simpa using this) (r+1)
  split <;> omega
theorem bit_or_pow {t q r:Nat} (h:q≠r):(t ||| 2^q).testBit r=t.testBit r:=by
 rw [Nat.testBit_or,Nat.testBit_two_pow]
 simp [h]
theorem bndP_low {t q:Nat} {l:List Int} {r:Nat} {c:Int} (h:q < r):bndP (t ||| 2^q) l r c=bndP t l r c:=by
 induction l generalizing r c with
 | nil=>rfl
 | cons s l ih=>rw [bndP,bndP,ih (by omega),bit_or_pow (by omega)]
theorem bndP_bit {t:Nat} {l:List Int} {r k:Nat} (hk:k < l.length) (ht:t.testBit (r+k)=false):bndP t l r 0=bndP (t ||| 2^(r+k)) l r 0+l.getD k 0:=by
 induction l generalizing r k with
 | nil=>simp at hk
 | cons s l ih=>
  rw [bndP,bndP,bndP_add,bndP_add (t ||| 2^(r+k))]
  cases k with
  | zero=>
   simp only [Nat.add_zero] at ht ⊢
   rw [bndP_low (show r < r+1 by omega),if_neg (by simp [ht]),if_pos (by rw [Nat.testBit_or,Nat.testBit_two_pow];simp)]
   simp;omega
  | succ k=>
   rw [bit_or_pow (by omega)]
   have h1:=ih (r:=r+1) (k:=k) (by simpa using hk) (by rw [show r+1+k=r+(k+1) by omega];exact ht)
   rw [show r+1+k=r+(k+1) by omega] at h1
   rw [h1]
   simp
   split <;> omega
theorem bndP_rows {l:List Int}:∀(rows:List Nat) (t:Nat),rows.Nodup→(∀r∈rows,r < l.length∧t.testBit r=false)→
 bndP t l 0 0=bndP (rows.foldl (fun m r=>m ||| 2^r) t) l 0 0+(rows.map fun r=>l.getD r 0).sum:=by
 intro rows
 induction rows with
 | nil=>intro t _ _;simp
 | cons r rows ih=>
  intro t hn h
  rw [List.nodup_cons] at hn
  have hr:=h r (List.mem_cons_self ..)
  have h1:=bndP_bit (l:=l) (r:=0) hr.1 (by simpa using hr.2)
  rw [Nat.zero_add] at h1
  rw [h1,List.foldl_cons,ih (t ||| 2^r) hn.2 fun q hq=>?_,List.map_cons,List.sum_cons]
  ·omega
  ·have hq':=h q (List.mem_cons_of_mem _ hq)
   exact ⟨hq'.1,by rw [bit_or_pow (fun e=>hn.1 (by rw [e];exact hq))];exact hq'.2⟩
theorem fold_or {rows:List Nat} {t:Nat}:rows.foldl (fun m r=>m ||| 2^r) t=t ||| maskL rows:=by
 refine Nat.eq_of_testBit_eq fun r=>?_
 rw [foldl_or_bit,Nat.testBit_or,maskL_bit]
theorem sum_le_share {l:List Int} {z:Int}:∀(rows:List Nat),(∀r∈rows,l.getD r 0≤z)→(rows.map fun r=>l.getD r 0).sum≤z * rows.length:=by
 intro rows
 induction rows with
 | nil=>intro _;simp
 | cons r rows ih=>
  intro h
  have h1:=h r (List.mem_cons_self ..)
  have h2:=ih fun q hq=>h q (List.mem_cons_of_mem _ hq)
  rw [List.map_cons,List.sum_cons,List.length_cons,Int.natCast_add,Int.mul_add]
  simp only [Int.natCast_one,Int.mul_one]
  omega
theorem and_or_zero {a b c:Nat}:a &&& (b ||| c)=0↔a &&& b=0∧a &&& c=0:=by
 simp only [and_zero_iff,Nat.testBit_or,Bool.or_eq_true]
 constructor
 ·intro h;exact ⟨fun r hr=>h r ⟨hr.1,.inl hr.2⟩,fun r hr=>h r ⟨hr.1,.inr hr.2⟩⟩
 ·rintro ⟨h1,h2⟩ r ⟨g1,g2 | g2⟩
  ·exact h1 r ⟨g1,g2⟩
  ·exact h2 r ⟨g1,g2⟩
theorem bound_le {n:Nat} {l:List Dc} (h:∀x∈l,DcOK n x):∀(T:List Dc) (t:Nat),(∀x∈T,x∈l)→(T.Pairwise fun x y=>x.mask &&& y.mask=0)→(∀x∈T,x.mask &&& t=0)→
 bndP t (leastP n l) 0 0≤(T.map (·.sur)).sum:=by
 obtain ⟨h1,h2,h3⟩:=least_ok h
 intro T
 induction T with
 | nil=>intro t _ _ _;simpa using bndP_le h2 0
 | cons x T ih=>
  intro t hs hp ht
  rw [List.pairwise_cons] at hp
  have hx:=h x (hs x (List.mem_cons_self ..))
  have hxt:=ht x (List.mem_cons_self ..)
  have hb:=bndP_rows (l:=leastP n l) x.rows t hx.nd fun r hr=>⟨by rw [h1];exact hx.rg r hr,by
   cases hc:t.testBit r with
   | false=>rfl
   | true=>exact absurd ⟨by rw [hx.msk,maskL_bit];simpa using hr,hc⟩ (and_zero_iff.1 hxt r)⟩
  rw [fold_or,← hx.msk] at hb
  have hr:=ih (t ||| x.mask) (fun y hy=>hs y (List.mem_cons_of_mem _ hy)) hp.2 fun y hy=>and_or_zero.2 ⟨ht y (List.mem_cons_of_mem _ hy),by rw [Nat.and_comm];exact hp.1 y hy⟩
  have hle:=sum_le_share (l:=leastP n l) (z:=shareP x) x.rows fun r hr=>h3 x (hs x (List.mem_cons_self ..)) r hr
  have hd:shareP x * x.rows.length≤x.sur:=by
   unfold shareP
   refine Int.ediv_mul_le _ ?_
   have:=List.length_pos_iff.2 hx.ne
   omega
  rw [List.map_cons,List.sum_cons]
  omega
def Vis (kept:List Int) (l:List Dc) (t:Nat) (c:Int) (ad:List Int) (s:List Int) (z:Int):Prop:=
 ∃T:List Dc,T.Sublist l∧(T.Pairwise fun x y=>x.mask &&& y.mask=0)∧(∀x∈T,x.mask &&& t=0)∧s=sortI (kept++(ad++T.map fun x=>(x.idx:Int)))∧z=c+(T.map (·.sur)).sum
theorem Vis.nil_iff {kept:List Int} {t:Nat} {c:Int} {ad s:List Int} {z:Int}:Vis kept [] t c ad s z↔s=sortI (kept++ad)∧z=c:=by
 constructor
 ·rintro ⟨T,hT,_,_,rfl,rfl⟩
  have:=List.sublist_nil.1 hT
  subst this
  simp
 ·rintro ⟨rfl,rfl⟩
  exact ⟨[],List.Sublist.refl _,List.Pairwise.nil,fun x h=>by simp at h,by simp,by simp⟩
theorem Vis.skip_iff {kept:List Int} {x:Dc} {l:List Dc} {t:Nat} {c:Int} {ad s:List Int} {z:Int} (h:x.mask &&& t≠0):Vis kept (x::l) t c ad s z↔Vis kept l t c ad s z:=by
 constructor
 ·rintro ⟨T,hT,h1,h2,h3,h4⟩
  refine ⟨T,?_,h1,h2,h3,h4⟩
  cases hT with
  | cons _ hT=>exact hT
  | cons_cons _ hT=>exact absurd (h2 x (List.mem_cons_self ..)) h
 ·rintro ⟨T,hT,h1,h2,h3,h4⟩
  exact ⟨T,hT.cons _,h1,h2,h3,h4⟩
theorem Vis.cons_iff {kept:List Int} {x:Dc} {l:List Dc} {t:Nat} {c:Int} {ad s:List Int} {z:Int} (h:x.mask &&& t=0):
 Vis kept (x::l) t c ad s z↔Vis kept l (t ||| x.mask) (c+x.sur) (ad++[(x.idx:Int)]) s z∨Vis kept l t c ad s z:=by
 constructor
 ·rintro ⟨T,hT,h1,h2,h3,h4⟩
  cases hT with
  | cons _ hT=>exact .inr ⟨T,hT,h1,h2,h3,h4⟩
  | @cons_cons T' _ _ hT=>
   rw [List.pairwise_cons] at h1
   refine .inl ⟨T',hT,h1.2,fun y hy=>and_or_zero.2 ⟨h2 y (List.mem_cons_of_mem _ hy),by rw [Nat.and_comm];exact h1.1 y hy⟩,?_,?_⟩
   ·rw [h3];simp
   ·rw [h4];simp;omega
 ·rintro (⟨T,hT,h1,h2,h3,h4⟩ | ⟨T,hT,h1,h2,h3,h4⟩)
  ·refine ⟨x::T,hT.cons_cons _,List.pairwise_cons.2 ⟨fun y hy=>by rw [Nat.and_comm];exact (and_or_zero.1 (h2 y hy)).2,h1⟩,fun y hy=>?_,by rw [h3];simp,by rw [h4];simp;omega⟩
   rcases List.mem_cons.1 hy with rfl | hy
   ·exact h
   ·exact (and_or_zero.1 (h2 y hy)).1
  ·exact ⟨T,hT.cons _,h1,h2,h3,h4⟩
structure InvP (st:Sv) (D:List Int→Int→Prop):Prop where
 low:∀s z,D s z→st.cost≤z
 yes:st.proper=true→D st.best st.cost∧∀s,D s st.cost→st.best=s∨Erl st.best s
 no:st.proper=false→∀s z,D s z→st.cost < z
theorem InvP.congr {st:Sv} {D E:List Int→Int→Prop} (h:InvP st D) (he:∀s z,D s z↔E s z):InvP st E:=
 ⟨fun s z hd=>h.low s z ((he s z).2 hd),fun hp=>⟨(he _ _).1 (h.yes hp).1,fun s hd=>(h.yes hp).2 s ((he _ _).2 hd)⟩,fun hp s z hd=>h.no hp s z ((he s z).2 hd)⟩
theorem two_pow_ge (n:Nat):1≤2^n:=Nat.one_le_two_pow
theorem loop_inv (cf:Sc) {l:List Dc} (hl:∀x∈l,DcOK cf.n x) (hp:l.Pairwise fun x y=>x.idx < y.idx) {t:Nat} {c:Int} {ad:List Int} (hnk:∀x∈l,(x.idx:Int) ∉ cf.kept∧(x.idx:Int) ∉ ad) {st:Sv} {D:List Int→Int→Prop}
 (hu:st.used+2^l.length≤cf.steps+1) (ho:∀s z,D s z→∀s' z',Vis cf.kept l t c ad s' z'→Erl s s') (hi:InvP st D):
 (loopP cf l t c ad st).2=true∧InvP (loopP cf l t c ad st).1 (fun s z=>D s z∨Vis cf.kept l t c ad s z)∧(loopP cf l t c ad st).1.used+1≤st.used+2^l.length∧st.used≤(loopP cf l t c ad st).1.used:=by
 induction l generalizing t c ad st D with
 | nil=>
  unfold loopP
  have hs:∀s z,Vis cf.kept [] t c ad s z↔s=sortI (cf.kept++ad)∧z=c:=fun s z=>Vis.nil_iff
  refine ⟨rfl,?_,?_,?_⟩
  ·simp only
   split
   ·rename_i hc
    refine ⟨fun s z hd=>?_,fun _=>⟨.inr ((hs _ _).2 ⟨rfl,rfl⟩),fun s hd=>?_⟩,fun h=>by cases h⟩
    ·rcases hd with hd | hd
     ·have:=hi.low s z hd;simp only;omega
     ·have:=((hs s z).1 hd).2;simp only;omega
    ·rcases hd with hd | hd
     ·exfalso
      simp only at hd
      rcases hc with hc | ⟨hc,hf⟩
      ·have:=hi.low _ _ hd;omega
      ·have:=hi.no hf _ _ hd;omega
     ·exact .inl ((hs _ _).1 hd).1.symm
   ·rename_i hc
    refine ⟨fun s z hd=>?_,fun h=>⟨.inl (hi.yes h).1,fun s hd=>?_⟩,fun h s z hd=>?_⟩
    ·rcases hd with hd | hd
     ·exact hi.low s z hd
     ·have:=((hs s z).1 hd).2
      rcases Int.lt_or_le c st.cost with e | e
      ·exact absurd (.inl e) hc
      ·omega
    ·rcases hd with hd | hd
     ·exact (hi.yes h).2 s hd
     ·exact .inr (ho _ _ (hi.yes h).1 s _ hd)
    ·rcases hd with hd | hd
     ·exact hi.no h s z hd
     ·have:=((hs s z).1 hd).2
      rcases Int.lt_trichotomy c st.cost with e | e | e
      ·exact absurd (.inl e) hc
      ·exact absurd (.inr ⟨e,h⟩) hc
      ·omega
  ·simp only;split <;> simp
  ·simp only;split <;> simp
 | cons x l ih=>
  rw [List.pairwise_cons] at hp
  have hx:=hl x (List.mem_cons_self ..)
  have hl':∀y∈l,DcOK cf.n y:=fun y hy=>hl y (List.mem_cons_of_mem _ hy)
  have hnk':∀y∈l,(y.idx:Int) ∉ cf.kept∧(y.idx:Int) ∉ ad:=fun y hy=>hnk y (List.mem_cons_of_mem _ hy)
  have h2:2^(x::l).length=2^l.length+2^l.length:=by rw [List.length_cons,Nat.pow_succ];omega
  have h1:=two_pow_ge l.length
  rw [h2] at hu ⊢
  rw [loopP_cons]
  split
  ·
   rename_i hh
   have hb:∀s z,Vis cf.kept (x::l) t c ad s z→bndP t (leastP cf.n (x::l)) 0 c≤z:=by
    rintro s z ⟨T,hT,g1,g2,g3,rfl⟩
    rw [bndP_add]
    have:=bound_le hl T t (fun y hy=>hT.subset hy) g1 g2
    omega
   unfold hopB at hh
   generalize bndP t (leastP cf.n (x::l)) 0 c=b at hb hh
   simp only [Bool.or_eq_true,decide_eq_true_eq,Bool.and_eq_true] at hh
   refine ⟨rfl,⟨fun s z hd=>?_,fun h=>⟨.inl (hi.yes h).1,fun s hd=>?_⟩,fun h s z hd=>?_⟩,by simp only;omega,Nat.le_refl _⟩
   ·rcases hd with hd | hd
    ·exact hi.low s z hd
    ·have:=hb s z hd;simp only;omega
   ·rcases hd with hd | hd
    ·exact (hi.yes h).2 s hd
    ·exact .inr (ho _ _ (hi.yes h).1 s _ hd)
   ·rcases hd with hd | hd
    ·exact hi.no h s z hd
    ·have:=hb s z hd
     rcases hh with hh | ⟨hh,hp⟩
     ·simp only;omega
     ·rw [h] at hp;cases hp
  ·split
   ·
    rename_i hh hm
    have hne:st.used≠cf.steps:=by omega
    unfold visP
    rw [if_neg hne]
    have hV:=fun s z=>Vis.cons_iff (kept:=cf.kept) (l:=l) (c:=c) (ad:=ad) (s:=s) (z:=z) hm
    obtain ⟨a1,a2,a3,a4⟩:=ih (t:=t ||| x.mask) (c:=c+x.sur) (ad:=ad++[(x.idx:Int)]) (st:=⟨st.best,st.cost,st.proper,st.used+1⟩) (D:=D) hl' hp.2 (fun y hy=>⟨(hnk' y hy).1,fun hm'=>by
     rcases List.mem_append.1 hm' with e | e
     ·exact (hnk' y hy).2 e
     ·have:=hp.1 y hy;simp at e;omega⟩) (by simp only;omega) (fun s z hd s' z' hv=>ho s z hd s' z' ((hV s' z').2 (.inl hv))) ⟨hi.low,hi.yes,hi.no⟩
    generalize loopP cf l (t ||| x.mask) (c+x.sur) (ad++[(x.idx:Int)]) ⟨st.best,st.cost,st.proper,st.used+1⟩=r1 at a1 a2 a3 a4 ⊢
    simp only at a3 a4
    rw [if_pos a1]
    have hxk:=hnk x (List.mem_cons_self ..)
    obtain ⟨b1,b2,b3,b4⟩:=ih (t:=t) (c:=c) (ad:=ad) (st:=r1.1) (D:=fun s z=>D s z∨Vis cf.kept l (t ||| x.mask) (c+x.sur) (ad++[(x.idx:Int)]) s z) hl' hp.2 hnk' (by omega) (fun s z hd s' z' hv=>by
     rcases hd with hd | hd
     ·exact ho s z hd s' z' ((hV s' z').2 (.inr hv))
     ·obtain ⟨T,hT,_,_,rfl,_⟩:=hd
      obtain ⟨T',hT',_,_,rfl,_⟩:=hv
      have big:∀{T:List Dc},T.Sublist l→∀j:Int,j∈T.map (fun y=>(y.idx:Int))→(x.idx:Int) < j:=fun {T} hT j hj=>by
       obtain ⟨y,hy,rfl⟩:=List.mem_map.1 hj
       have:=hp.1 y (hT.subset hy)
       omega
      refine ⟨x.idx,(sortB_mem ltI).2 (by simp),fun hm'=>?_,fun j hj=>?_⟩
      ·have hm':=(sortB_mem ltI).1 hm'
       simp only [List.mem_append] at hm'
       rcases hm' with e | e | e
       ·exact hxk.1 e
       ·exact hxk.2 e
       ·have:=big hT' _ e;omega
      ·unfold sortI
       rw [sortB_mem,sortB_mem]
       simp only [List.mem_append,List.mem_singleton]
       constructor
       ·rintro (e | (e | e) | e)
        ·exact .inl e
        ·exact .inr (.inl e)
        ·omega
        ·have:=big hT _ e;omega
       ·rintro (e | e | e)
        ·exact .inl e
        ·exact .inr (.inl (.inl e))
        ·have:=big hT' _ e;omega) a2
    refine ⟨b1,b2.congr fun s z=>?_,by omega,by omega⟩
    rw [hV s z,or_assoc]
   ·rename_i hh hm
    have hV:=fun s z=>Vis.skip_iff (kept:=cf.kept) (l:=l) (c:=c) (ad:=ad) (s:=s) (z:=z) hm
    obtain ⟨a1,a2,a3,a4⟩:=ih (t:=t) (c:=c) (ad:=ad) (st:=st) (D:=D) hl' hp.2 hnk' (by omega) (fun s z hd s' z' hv=>ho s z hd s' z' ((hV s' z').2 hv)) hi
    exact ⟨a1,a2.congr fun s z=>by rw [hV s z],by omega,a4⟩
end Pl
namespace Pl
structure LsOK (n:Nat) (L:List Dc):Prop where
 idx:∀(i:Nat) (x:Dc),L[i]? =some x→x.idx=i
 ok:∀x∈L,DcOK n x
 len:L.length≤1000
theorem LsOK.ne {n:Nat} {L:List Dc} (h:LsOK n L):∀(i:Nat) (x:Dc),L[i]? =some x→x.mask≠0:=fun i x hx=>(h.ok x (List.mem_of_getElem? hx)).mask_ne
theorem LsOK.at_ {n:Nat} {L:List Dc} (h:LsOK n L) {x:Dc} (hx:x∈L):L[x.idx]? =some x:=by
 obtain ⟨i,hi,rfl⟩:=List.getElem_of_mem hx
 rw [h.idx i _ (List.getElem?_eq_getElem hi),List.getElem?_eq_getElem hi]
theorem LsOK.asc {n:Nat} {L:List Dc} (h:LsOK n L):L.Pairwise fun x y=>x.idx < y.idx:=by
 rw [List.pairwise_iff_getElem]
 intro i j hi hj hij
 rw [h.idx i _ (List.getElem?_eq_getElem hi),h.idx j _ (List.getElem?_eq_getElem hj)]
 exact hij
def plStep (t:Nat) (pl:Nat→Option Dc) (x:Dc):Nat→Option Dc:=
 if x.mask &&& t=0∧x.sur≤0 then
  match pl x.mask with
  | none=>fun m=>if m=x.mask then some x else pl m
  | some k=>if x.sur < k.sur then fun m=>if m=x.mask then some x else pl m else pl
 else pl
def placeP (L:List Dc) (t:Nat):Nat→Option Dc:=L.foldl (plStep t) fun _=>none
def prepP (L:List Dc) (t:Nat):List Dc:=L.filter fun x=>decide (((placeP L t) x.mask).map (·.idx)=some x.idx)
def Elig (t:Nat) (x:Dc):Prop:=x.mask &&& t=0∧x.sur≤0
theorem placeP_snoc (L:List Dc) (t:Nat) (x:Dc):placeP (L++[x]) t=plStep t (placeP L t) x:=by simp [placeP]
def PlOK (L:List Dc) (t:Nat) (pl:Nat→Option Dc):Prop:=
 (∀m y,pl m=some y→y∈L∧y.mask=m∧Elig t y∧∀x∈L,Elig t x→x.mask=m→y.sur < x.sur∨(y.sur=x.sur∧y.idx≤x.idx))∧∀x∈L,Elig t x→pl x.mask≠none
theorem plStep_ok {L:List Dc} {t:Nat} {pl:Nat→Option Dc} {x:Dc} (h:PlOK L t pl) (hx:∀y∈L,y.idx < x.idx):PlOK (L++[x]) t (plStep t pl x):=by
 obtain ⟨h1,h2⟩:=h
 unfold plStep
 split
 ·rename_i he
  have put:∀(_:∀y∈L,Elig t y→y.mask=x.mask→x.sur < y.sur),PlOK (L++[x]) t fun m=>if m=x.mask then some x else pl m:=fun hc=>by
   refine ⟨fun m y hy=>?_,fun y hy hE=>?_⟩
   ·by_cases hm:m=x.mask
    ·subst hm
     simp only [if_true] at hy
     injection hy with hy
     subst hy
     refine ⟨by simp,rfl,he,fun z hz hE hzm=>?_⟩
     rcases List.mem_append.1 hz with hz | hz
     ·exact .inl (hc z hz hE hzm)
     ·simp at hz;subst hz;exact .inr ⟨rfl,Nat.le_refl _⟩
    ·simp only [hm,if_false] at hy
     obtain ⟨g1,g2,g3,g4⟩:=h1 m y hy
     refine ⟨by simp [g1],g2,g3,fun z hz hE hzm=>?_⟩
     rcases List.mem_append.1 hz with hz | hz
     ·exact g4 z hz hE hzm
     ·simp at hz;subst hz;exact absurd hzm.symm hm
   ·by_cases hm:y.mask=x.mask
    ·simp [hm]
    ·rcases List.mem_append.1 hy with hy | hy
     ·simp only [hm,if_false];exact h2 y hy hE
     ·simp at hy;subst hy;exact absurd rfl hm
  split
  ·rename_i hn
   exact put fun y hy hE hm=>absurd hn (by rw [← hm];exact h2 y hy hE)
  ·rename_i k hk
   obtain ⟨k1,k2,k3,k4⟩:=h1 _ _ hk
   split
   ·rename_i hlt
    refine put fun y hy hE hm=>?_
    have:=k4 y hy hE hm
    omega
   ·rename_i hlt
    refine ⟨fun m y hy=>?_,fun y hy hE=>?_⟩
    ·obtain ⟨g1,g2,g3,g4⟩:=h1 m y hy
     refine ⟨by simp [g1],g2,g3,fun z hz hE hzm=>?_⟩
     rcases List.mem_append.1 hz with hz | hz
     ·exact g4 z hz hE hzm
     ·simp at hz
      subst hz
      subst hzm
      rw [hk] at hy
      injection hy with hy
      subst hy
      have:=hx k k1
      omega
    ·rcases List.mem_append.1 hy with hy | hy
     ·exact h2 y hy hE
     ·simp at hy;subst hy;rw [hk];simp
 ·rename_i he
  refine ⟨fun m y hy=>?_,fun y hy hE=>?_⟩
  ·obtain ⟨g1,g2,g3,g4⟩:=h1 m y hy
   refine ⟨by simp [g1],g2,g3,fun z hz hE hzm=>?_⟩
   rcases List.mem_append.1 hz with hz | hz
   ·exact g4 z hz hE hzm
   ·simp at hz;subst hz;exact absurd hE he
  ·rcases List.mem_append.1 hy with hy | hy
   ·exact h2 y hy hE
   ·simp at hy;subst hy;exact absurd hE he
theorem place_ok {t:Nat} {L:List Dc} (h:L.Pairwise fun x y=>x.idx < y.idx):PlOK L t (placeP L t):=by
 have key:∀(A B:List Dc),(A++B).Pairwise (fun x y=>x.idx < y.idx)→PlOK A t (placeP A t)→PlOK (A++B) t (placeP (A++B) t):=by
  intro A B
  induction B generalizing A with
  | nil=>intro _ h;simpa using h
  | cons x B ih=>
   intro hp h
   have e:A++x::B=(A++[x])++B:=by simp
   rw [e] at hp ⊢
   refine ih (A++[x]) hp ?_
   rw [placeP_snoc]
   refine plStep_ok h fun y hy=>?_
   have:=(List.pairwise_append.1 (List.pairwise_append.1 hp).1).2.2 y hy x (by simp)
   exact this
 have:=key [] L (by simpa using h) ⟨fun m y hy=>by simp [placeP] at hy,fun x hx=>by simp at hx⟩
 simpa using this
theorem prep_mem {n t:Nat} {L:List Dc} (hL:LsOK n L) {x:Dc}:x∈prepP L t↔x∈L∧Elig t x∧∀y∈L,Elig t y→y.mask=x.mask→x.sur < y.sur∨(x.sur=y.sur∧x.idx≤y.idx):=by
 obtain ⟨h1,h2⟩:=place_ok (t:=t) hL.asc
 unfold prepP
 rw [List.mem_filter,decide_eq_true_iff]
 constructor
 ·rintro ⟨hx,hp⟩
  cases hc:placeP L t x.mask with
  | none=>rw [hc] at hp;cases hp
  | some k=>
   rw [hc] at hp
   have hk:k.idx=x.idx:=by simpa using hp
   obtain ⟨g1,g2,g3,g4⟩:=h1 _ _ hc
   have e:k=x:=by
    have a:=hL.at_ g1
    have b:=hL.at_ hx
    rw [hk,b] at a
    injection a with a
    exact a.symm
   subst e
   exact ⟨hx,g3,g4⟩
 ·rintro ⟨hx,hE,hm⟩
  refine ⟨hx,?_⟩
  cases hc:placeP L t x.mask with
  | none=>exact absurd hc (h2 x hx hE)
  | some k=>
   obtain ⟨g1,g2,g3,g4⟩:=h1 _ _ hc
   have a:=g4 x hx hE rfl
   have b:=hm k g1 g3 g2
   have hk:k.idx=x.idx:=by omega
   simp [hk]
theorem prep_sub (L:List Dc) (t:Nat):(prepP L t).Sublist L:=List.filter_sublist
structure Now (L:List Dc) (base:Int) (kept ad:List Int) (t:Nat) (c:Int):Prop where
 nd:(kept++ad).Nodup
 rg:InR L.length (kept++ad)
 dj:Dj L (kept++ad)
 t_eq:t=orI L (kept++ad)
 c_eq:c=base+sumI L (kept++ad)
theorem Now.sel {L:List Dc} {base:Int} {kept ad:List Int} {t:Nat} {c:Int} (h:Now L base kept ad t c):Sel L (sortI (kept++ad))∧c=base+sumI L (sortI (kept++ad)):=
 ⟨⟨fun i hi=>h.rg i ((sortB_mem ltI).1 hi),sortI_asc h.nd,h.dj.perm (sortB_perm ltI _).symm⟩,by show c=base+sumI L (sortB ltI (kept++ad));rw [sumI_perm (L:=L) (sortB_perm ltI (kept++ad))];exact h.c_eq⟩
theorem Now.snoc {n:Nat} {L:List Dc} (hL:LsOK n L) {base:Int} {kept ad:List Int} {t:Nat} {c:Int} (h:Now L base kept ad t c) {x:Dc} (hx:x∈L) (hm:x.mask &&& t=0):Now L base kept (ad++[(x.idx:Int)]) (t ||| x.mask) (c+x.sur):=by
 have hat:=hL.at_ hx
 have e:kept++(ad++[(x.idx:Int)])=(kept++ad)++[(x.idx:Int)]:=by simp
 have hmk:=mkI_of hat
 have hm':=hm
 rw [h.t_eq,and_orI] at hm'
 have hnot:(x.idx:Int) ∉ kept++ad:=fun hi=>by
  have:=hm' _ hi
  rw [hmk,Nat.and_self] at this
  exact (hL.ok x hx).mask_ne this
 refine ⟨?_,?_,?_,?_,?_⟩
 ·rw [e,List.nodup_append]
  refine ⟨h.nd,by simp,fun a ha b hb=>?_⟩
  simp at hb;subst hb
  exact fun e=>hnot (e▸ha)
 ·rw [e]
  intro i hi
  rcases List.mem_append.1 hi with hi | hi
  ·exact h.rg i hi
  ·simp at hi;subst hi
   have:=(List.getElem?_eq_some_iff.1 hat).1
   omega
 ·rw [e,Dj_snoc,hmk,← h.t_eq]
  exact ⟨h.dj,hm⟩
 ·rw [e,orI_snoc,hmk,← h.t_eq]
 ·rw [e,sumI_append,h.c_eq]
  have:sumI L [(x.idx:Int)]=x.sur:=by simp [sumI,suI_of hat]
  omega
structure Kp (L:List Dc) (base:Int) (kept:List Int) (st:Sv):Prop where
 sel:Sel L st.best
 sub:∀i∈kept,i∈st.best
 cost:st.cost=base+sumI L st.best
theorem loop_keep {n:Nat} {L:List Dc} (hL:LsOK n L) (base:Int) (cf:Sc) {l:List Dc} (hl:∀x∈l,x∈L) {t:Nat} {c:Int} {ad:List Int} (hnow:Now L base cf.kept ad t c) {st:Sv} (hu:st.used≤cf.steps) (hk:Kp L base cf.kept st):
 Kp L base cf.kept (loopP cf l t c ad st).1∧(loopP cf l t c ad st).1.cost≤st.cost∧(loopP cf l t c ad st).1.used≤cf.steps:=by
 induction l generalizing t c ad st with
 | nil=>
  unfold loopP
  simp only
  split
  ·rename_i hc
   refine ⟨⟨hnow.sel.1,fun i hi=>(sortB_mem ltI).2 (by simp [hi]),hnow.sel.2⟩,?_,hu⟩
   simp only
   omega
  ·exact ⟨hk,Int.le_refl _,hu⟩
 | cons x l ih=>
  have hl':∀y∈l,y∈L:=fun y hy=>hl y (List.mem_cons_of_mem _ hy)
  rw [loopP_cons]
  split
  ·exact ⟨hk,Int.le_refl _,hu⟩
  ·split
   ·rename_i hm
    have hA:Kp L base cf.kept (visP cf l (t ||| x.mask) (c+x.sur) (ad++[(x.idx:Int)]) st).1∧(visP cf l (t ||| x.mask) (c+x.sur) (ad++[(x.idx:Int)]) st).1.cost≤st.cost∧(visP cf l (t ||| x.mask) (c+x.sur) (ad++[(x.idx:Int)]) st).1.used≤cf.steps:=by
     unfold visP
     split
     ·exact ⟨hk,Int.le_refl _,hu⟩
     ·exact ih hl' (hnow.snoc hL (hl x (List.mem_cons_self ..)) hm) (st:=⟨st.best,st.cost,st.proper,st.used+1⟩) (by simp only;omega) ⟨hk.sel,hk.sub,hk.cost⟩
    obtain ⟨a1,a2,a3⟩:=hA
    split
    ·obtain ⟨b1,b2,b3⟩:=ih hl' hnow (st:=(visP cf l (t ||| x.mask) (c+x.sur) (ad++[(x.idx:Int)]) st).1) a3 a1
     exact ⟨b1,Int.le_trans b2 a2,b3⟩
    ·exact ⟨a1,a2,a3⟩
   ·exact ih hl' hnow hu hk
theorem Sel.pair {L:List Dc} {t:List Int} (h:Sel L t) {i j:Int} (hi:i∈t) (hj:j∈t) (hne:i≠j):mkI L i &&& mkI L j=0:=by
 have hp:=h.asc.and h.dj
 rcases Int.lt_or_gt_of_ne hne with e | e
 ·exact pair_of hp hi hj e
 ·rw [Nat.and_comm];exact pair_of hp hj hi e
theorem Sel.drop {L:List Dc} {t:List Int} (h:Sel L t) (i:Int):Sel L (t.filter fun j=>decide (j≠i)):=
 ⟨fun j hj=>h.rg j ((List.mem_filter.1 hj).1),h.asc.filter _,List.Pairwise.filter _ h.dj⟩
theorem sum_drop {L:List Dc} {t:List Int} (h:t.Nodup) {i:Int} (hi:i∈t):sumI L t=sumI L (t.filter fun j=>decide (j≠i))+suI L i:=by
 induction t with
 | nil=>simp at hi
 | cons x t ih=>
  rw [List.nodup_cons] at h
  by_cases hx:x=i
  ·subst hx
   have:t.filter (fun j=>decide (j≠x))=t:=List.filter_eq_self.2 fun j hj=>by
    have:j≠x:=fun e=>h.1 (e▸hj)
    simpa using this
   rw [List.filter_cons_of_neg (by simp),this]
   simp [sumI];omega
  ·rw [List.filter_cons_of_pos (by simpa using hx)]
   have hit:i∈t:=by
    rcases List.mem_cons.1 hi with e | e
    ·exact absurd e.symm hx
    ·exact e
   have:=ih h.2 hit
   simp only [sumI,List.map_cons,List.sum_cons] at this ⊢
   omega
theorem Sel.nodup {L:List Dc} {t:List Int} (h:Sel L t):t.Nodup:=h.asc.imp fun {a b} hab=>by omega
theorem best_vis {n:Nat} {L:List Dc} (hL:LsOK n L) {base:Int} {kept b:List Int} (hk:Sel L kept) (hb:Best L kept b):Vis kept (prepP L (orI L kept)) (orI L kept) (base+sumI L kept) [] b (base+sumI L b):=by
 have hin:∀i∈b,i ∉ kept→∃x,x∈prepP L (orI L kept)∧(x.idx:Int)=i:=fun i hi hik=>by
  have hr:=hb.sel.rg i hi
  obtain ⟨k,rfl⟩:=Int.eq_ofNat_of_zero_le hr.1
  have hkl:k < L.length:=by omega
  obtain ⟨x,hx⟩:∃x,L[k]? =some x:=⟨_,List.getElem?_eq_getElem hkl⟩
  have hxL:=List.mem_of_getElem? hx
  have hxi:=hL.idx k x hx
  refine ⟨x,(prep_mem hL).2 ⟨hxL,⟨?_,?_⟩,fun y hy hE hym=>?_⟩,by rw [hxi]⟩
  ·rw [and_orI]
   intro j hj
   rw [← mkI_of hx]
   exact hb.sel.pair hi (hb.sub j hj) (fun e=>hik (e▸hj))
  ·
   rcases Int.lt_or_le 0 x.sur with e | e
   ·exfalso
    have h1:=hb.le _ (hb.sel.drop (k:Int)) fun j hj=>List.mem_filter.2 ⟨hb.sub j hj,by
     have:j≠(k:Int):=fun e=>hik (e▸hj)
     simpa using this⟩
    have h2:=sum_drop (L:=L) hb.sel.nodup hi
    rw [suI_of hx] at h2
    rcases h1 with h1 | ⟨h1,_⟩ <;> omega
   ·exact e
  ·
   refine Classical.byContradiction fun hc=>?_
   have hyat:=hL.at_ hy
   have hyl:=(List.getElem?_eq_some_iff.1 hyat).1
   have hne:(y.idx:Int)≠(k:Int):=fun e=>by
    have:y.idx=k:=by omega
    rw [this,hx] at hyat
    injection hyat with hyat
    subst hyat
    exact hc (.inr ⟨rfl,Nat.le_refl _⟩)
   have hyb:(y.idx:Int) ∉ b:=fun hm=>by
    have:=hb.sel.pair hm hi hne
    rw [mkI_of hyat,mkI_of hx,hym,Nat.and_self] at this
    exact (hL.ok x hxL).mask_ne this
   have hfr:frB L (b.filter fun j=>decide (j≠(k:Int))) y.idx=true:=by
    unfold frB
    rw [List.all_eq_true]
    intro j hj
    rw [List.mem_filter] at hj
    rw [decide_eq_true_iff,mkI_of hyat,hym,← mkI_of hx]
    exact hb.sel.pair hj.1 hi (by simpa using hj.2)
   obtain ⟨q1,q2⟩:=(hb.sel.drop (k:Int)).ins hL.ne hyl hfr
   have h1:=hb.le _ q2 fun j hj=>(insB_mem ltI).2 (.inr (List.mem_filter.2 ⟨hb.sub j hj,by
    have:j≠(k:Int):=fun e=>hik (e▸hj)
    simpa using this⟩))
   have h2:=sum_drop (L:=L) hb.sel.nodup hi
   have h3:=sumI_perm (L:=L) (insB_perm ltI (y.idx:Int) (b.filter fun j=>decide (j≠(k:Int))))
   have h4:sumI L ((y.idx:Int)::b.filter fun j=>decide (j≠(k:Int)))=y.sur+sumI L (b.filter fun j=>decide (j≠(k:Int))):=by simp [sumI,suI_of hyat]
   rw [suI_of hx] at h2
   rcases h1 with h1 | ⟨h1,h5⟩
   ·omega
   ·have hs:x.sur=y.sur:=by omega
    have hlt:y.idx < k:=by omega
    have hE':Erl (insB ltI (y.idx:Int) (b.filter fun j=>decide (j≠(k:Int)))) b:=by
     refine ⟨y.idx,(insB_mem ltI).2 (.inl rfl),hyb,fun j hj=>?_⟩
     rw [insB_mem,List.mem_filter]
     constructor
     ·rintro (e | e)
      ·omega
      ·exact e.1
     ·intro hjb
      refine .inr ⟨hjb,?_⟩
      have:j≠(k:Int):=by omega
      simpa using this
    rcases h5 with h5 | h5
    ·exact hyb (by rw [h5];exact (insB_mem ltI).2 (.inl rfl))
    ·exact h5.asymm hE'
 obtain ⟨T,hTd⟩:∃T,T=(prepP L (orI L kept)).filter fun x=>decide ((x.idx:Int)∈b):=⟨_,rfl⟩
 have hTm:∀x,x∈T↔x∈prepP L (orI L kept)∧(x.idx:Int)∈b:=fun x=>by rw [hTd,List.mem_filter,decide_eq_true_iff]
 have hTs:T.Sublist (prepP L (orI L kept)):=by rw [hTd];exact List.filter_sublist
 have hTL:T.Sublist L:=hTs.trans (prep_sub _ _)
 have hTa:T.Pairwise fun x y=>x.idx < y.idx:=hL.asc.sublist hTL
 have hdk:∀x∈T,(x.idx:Int) ∉ kept:=fun x hx hm=>by
  have h1:=((prep_mem hL).1 ((hTm x).1 hx).1).2.1.1
  have hxat:=hL.at_ (hTL.subset hx)
  have h2:=and_orI.1 h1 _ hm
  rw [mkI_of hxat,Nat.and_self] at h2
  exact (hL.ok x (hTL.subset hx)).mask_ne h2
 have hnd:(kept++T.map fun x=>(x.idx:Int)).Nodup:=by
  rw [List.nodup_append]
  refine ⟨hk.nodup,?_,fun a ha c hc=>?_⟩
  ·refine List.pairwise_map.2 (hTa.imp fun {a b} h=>?_)
   omega
  ·obtain ⟨x,hx,rfl⟩:=List.mem_map.1 hc
   exact fun e=>hdk x hx (e▸ha)
 have hbe:b=sortI (kept++T.map fun x=>(x.idx:Int)):=by
  refine asc_ext hb.sel.asc (sortI_asc hnd) fun i=>?_
  unfold sortI
  rw [sortB_mem,List.mem_append,List.mem_map]
  constructor
  ·intro hi
   by_cases hik:i∈kept
   ·exact .inl hik
   ·obtain ⟨x,hx,hxi⟩:=hin i hi hik
    exact .inr ⟨x,(hTm x).2 ⟨hx,by rw [hxi];exact hi⟩,hxi⟩
  ·rintro (h | ⟨x,hx,rfl⟩)
   ·exact hb.sub i h
   ·exact ((hTm x).1 hx).2
 refine ⟨T,hTs,?_,fun x hx=>((prep_mem hL).1 ((hTm x).1 hx).1).2.1.1,by simpa using hbe,?_⟩
 ·rw [List.pairwise_iff_getElem]
  intro i j hi hj hij
  have h1:=List.pairwise_iff_getElem.1 hTa i j hi hj hij
  have m1:=List.getElem_mem hi
  have m2:=List.getElem_mem hj
  rw [← mkI_of (hL.at_ (hTL.subset m1)),← mkI_of (hL.at_ (hTL.subset m2))]
  exact hb.sel.pair ((hTm _).1 m1).2 ((hTm _).1 m2).2 (by omega)
 ·have h1:sumI L b=sumI L (kept++T.map fun x=>(x.idx:Int)):=by
   conv=>lhs;rw [hbe]
   exact sumI_perm (sortB_perm ltI _)
  have h2:sumI L (T.map fun x=>(x.idx:Int))=(T.map (·.sur)).sum:=by
   unfold sumI
   rw [List.map_map]
   congr 1
   refine List.map_congr_left fun x hx=>?_
   exact suI_of (hL.at_ (hTL.subset hx))
  rw [h1,sumI_append,h2]
  omega
theorem search_best {n:Nat} {L:List Dc} (hL:LsOK n L) {base:Int} {kept chosen b:List Int} (hk:Sel L kept) (hc:Sel L chosen) (hs:∀i∈kept,i∈chosen) (hb:Best L kept b) {steps:Nat} (hst:2^L.length+1≤steps):
 (visP ⟨n,kept,steps⟩ (prepP L (orI L kept)) (orI L kept) (base+sumI L kept) [] ⟨chosen,base+sumI L chosen,false,0⟩).2=true∧
  (visP ⟨n,kept,steps⟩ (prepP L (orI L kept)) (orI L kept) (base+sumI L kept) [] ⟨chosen,base+sumI L chosen,false,0⟩).1.best=b:=by
 have hsub:=prep_sub L (orI L kept)
 have hmem:∀x∈prepP L (orI L kept),x∈L:=fun x hx=>hsub.subset hx
 have hle:2^(prepP L (orI L kept)).length≤2^L.length:=Nat.pow_le_pow_right (by decide) hsub.length_le
 have hp1:=two_pow_ge L.length
 unfold visP
 rw [if_neg (by simp only;omega)]
 obtain ⟨a1,a2,a3,a4⟩:=loop_inv ⟨n,kept,steps⟩ (l:=prepP L (orI L kept)) (t:=orI L kept) (c:=base+sumI L kept) (ad:=[]) (st:=⟨chosen,base+sumI L chosen,false,0+1⟩) (D:=fun _ _=>False)
  (fun x hx=>hL.ok x (hmem x hx)) (hL.asc.sublist hsub) (fun x hx=>⟨fun hm=>by
   have h1:=((prep_mem hL).1 hx).2.1.1
   have hxat:=hL.at_ (hmem x hx)
   have h2:=and_orI.1 h1 _ hm
   rw [mkI_of hxat,Nat.and_self] at h2
   exact (hL.ok x (hmem x hx)).mask_ne h2,by simp⟩) (by simp only;omega) (fun _ _ h=>h.elim) ⟨fun _ _ h=>h.elim,fun h=>by simp at h,fun _ _ _ h=>h.elim⟩
 refine ⟨a1,?_⟩
 have hnow:Now L base kept [] (orI L kept) (base+sumI L kept):=⟨by simpa using hk.nodup,by simpa using hk.rg,by simpa using hk.dj,by simp,by simp⟩
 obtain ⟨k1,k2,k3⟩:=loop_keep hL base ⟨n,kept,steps⟩ (l:=prepP L (orI L kept)) hmem hnow (st:=⟨chosen,base+sumI L chosen,false,0+1⟩) (by simp only;omega) ⟨hc,hs,rfl⟩
 generalize (loopP ⟨n,kept,steps⟩ (prepP L (orI L kept)) (orI L kept) (base+sumI L kept) [] ⟨chosen,base+sumI L chosen,false,0+1⟩).1=r at a2 k1 k2 ⊢
 have hv:=best_vis hL (base:=base) hk hb
 have hlow:=a2.low _ _ (.inr hv)
 have hle2:=hb.le _ k1.sel k1.sub
 have hcost:=k1.cost
 have hch:=hb.le _ hc hs
 simp only at k2
 cases hp:r.proper with
 | false=>
  exfalso
  have hr0:=a2.no hp _ _ (.inr hv)
  rcases hle2 with h | ⟨h,_⟩ <;> omega
 | true=>
  obtain ⟨y1,y2⟩:=a2.yes hp
  have hs0:sumI L b=sumI L r.best:=by rcases hle2 with h | ⟨h,_⟩ <;> omega
  have h3:=y2 b (.inr (by rw [hcost,← hs0];exact hv))
  rcases h3 with h3 | h3
  ·exact h3
  ·rcases hle2 with h | ⟨_,h | h⟩
   ·omega
   ·exact h.symm
   ·exact (h3.asymm h).elim
end Pl
namespace Pl
def posR (R:List Int) (f:Int):Nat:=(R.filter fun r=>decide (r < f)).length
theorem posR_of {R:List Int} {f:Int} {i:Nat} (hi:i≤R.length) (h1:∀(k:Nat) (x:Int),k < i→R[k]? =some x→x < f) (h2:∀(k:Nat) (x:Int),i≤k→R[k]? =some x→f≤x):posR R f=i:=by
 have e:R=R.take i++R.drop i:=(List.take_append_drop i R).symm
 have a:(R.take i).filter (fun r=>decide (r < f))=R.take i:=List.filter_eq_self.2 fun x hx=>by
  obtain ⟨k,hk⟩:=List.mem_iff_getElem?.1 hx
  rw [List.getElem?_take] at hk
  split at hk
  ·rename_i hki;simpa using h1 k x hki hk
  ·cases hk
 have b:(R.drop i).filter (fun r=>decide (r < f))=[]:=List.filter_eq_nil_iff.2 fun x hx=>by
  obtain ⟨k,hk⟩:=List.mem_iff_getElem?.1 hx
  rw [List.getElem?_drop] at hk
  have:=h2 (i+k) x (by omega) hk
  simp;omega
 unfold posR
 rw [e,List.filter_append,a,b,List.append_nil,List.length_take]
 omega
theorem posR_at {R:List Int} (h:R.Pairwise (· < ·)) {k:Nat} {f:Int} (hk:R[k]? =some f):posR R f=k:=by
 have hl:=(List.getElem?_eq_some_iff.1 hk).1
 refine posR_of (by omega) (fun j x hj hx=>asc_get h hj hx hk) fun j x hj hx=>?_
 rcases Nat.lt_or_ge k j with e | e
 ·have:=asc_get h e hk hx;omega
 ·obtain rfl:j=k:=by omega
  rw [hk] at hx;injection hx with hx;omega
theorem posR_get {R:List Int} (h:R.Pairwise (· < ·)) {f:Int} (hf:f∈R):R[posR R f]? =some f:=by
 obtain ⟨k,hk⟩:=List.mem_iff_getElem?.1 hf
 rw [posR_at h hk];exact hk
theorem posR_lt {R:List Int} (h:R.Pairwise (· < ·)) {f:Int} (hf:f∈R):posR R f < R.length:=(List.getElem?_eq_some_iff.1 (posR_get h hf)).1
theorem posR_inj {R:List Int} (h:R.Pairwise (· < ·)) {f g:Int} (hf:f∈R) (hg:g∈R) (e:posR R f=posR R g):f=g:=by
 have h1:=posR_get h hf
 rw [e,posR_get h hg] at h1
 injection h1 with h1
 exact h1.symm
structure MsOK (m:Ms):Prop where
 fl0:0≤m.fl
 fl1:m.fl≤200
 pen0:0≤m.pen
 pen1:m.pen≤30
 row0:1≤m.rows.length
 row1:m.rows.length≤6
 asc:m.rows.Pairwise (· < ·)
 rb:∀r∈m.rows,0≤r∧r < m.fl
 ncol:m.cols.length≤6
 cost:∀c∈m.cols,-5≤c.cost∧c.cost≤40
 ne:∀c∈m.cols,c.ops≠[]
 nd:∀c∈m.cols,c.ops.Nodup
 sub:∀c∈m.cols,∀f∈c.ops,f∈m.rows
 ncut:m.cuts.length≤2
 cut:∀x∈m.cuts,x.rows.Pairwise (· < ·)∧(∀r∈x.rows,r∈m.rows)∧2≤x.dv∧x.dv≤x.rows.length
theorem nodup_sub_len {α:Type} [BEq α] [LawfulBEq α] {a b:List α} (ha:a.Nodup) (h:∀x∈a,x∈b):a.length≤b.length:=by
 induction a generalizing b with
 | nil=>simp
 | cons x a ih=>
  rw [List.nodup_cons] at ha
  have hx:=h x (List.mem_cons_self ..)
  have:=ih (b:=b.erase x) ha.2 fun y hy=>by
   have hne:y≠x:=fun e=>ha.1 (e▸hy)
   exact (List.mem_erase_of_ne hne).2 (h y (List.mem_cons_of_mem _ hy))
  rw [List.length_erase_of_mem hx] at this
  have hp:=List.length_pos_of_mem hx
  simp only [List.length_cons]
  omega
theorem MsOK.opl {m:Ms} (h:MsOK m) {c:Cl} (hc:c∈m.cols):c.ops.length≤6:=Nat.le_trans (nodup_sub_len (h.nd c hc) (h.sub c hc)) h.row1
def dcol (m:Ms) (i:Nat) (c:Cl):Dc:=⟨i,maskL (c.ops.map (posR m.rows)),c.ops.map (posR m.rows),c.cost - m.pen * c.ops.length⟩
def dcs (m:Ms):List Dc:=m.cols.mapIdx (dcol m)
theorem dcs_at {m:Ms} {i:Nat} {c:Cl} (h:m.cols[i]? =some c):(dcs m)[i]? =some (dcol m i c):=by simp [dcs,h]
theorem dcs_len (m:Ms):(dcs m).length=m.cols.length:=by simp [dcs]
theorem dcs_get {m:Ms} {i:Nat} {x:Dc} (h:(dcs m)[i]? =some x):∃c,m.cols[i]? =some c∧x=dcol m i c:=by
 simp only [dcs,List.getElem?_mapIdx,Option.map_eq_some_iff] at h
 obtain ⟨c,h1,h2⟩:=h
 exact ⟨c,h1,h2.symm⟩
theorem nodup_map_of {α β:Type} {f:α→β} {l:List α} (h:l.Nodup) (hi:∀x∈l,∀y∈l,f x=f y→x=y):(l.map f).Nodup:=by
 induction l with
 | nil=>simp
 | cons x l ih=>
  rw [List.nodup_cons] at h
  rw [List.map_cons,List.nodup_cons]
  refine ⟨fun hm=>?_,ih h.2 fun a ha b hb=>hi a (List.mem_cons_of_mem _ ha) b (List.mem_cons_of_mem _ hb)⟩
  obtain ⟨y,hy,e⟩:=List.mem_map.1 hm
  have:=hi y (List.mem_cons_of_mem _ hy) x (List.mem_cons_self ..) e
  exact h.1 (this▸hy)
theorem dcol_ok {m:Ms} (h:MsOK m) {i:Nat} {c:Cl} (hc:c∈m.cols):DcOK m.rows.length (dcol m i c):=by
 refine ⟨rfl,fun e=>h.ne c hc (by simpa [dcol] using e),?_,fun r hr=>?_⟩
 ·exact nodup_map_of (h.nd c hc) fun x hx y hy e=>posR_inj h.asc (h.sub c hc x hx) (h.sub c hc y hy) e
 ·obtain ⟨f,hf,rfl⟩:=List.mem_map.1 hr
  exact posR_lt h.asc (h.sub c hc f hf)
theorem dcs_ok {m:Ms} (h:MsOK m):LsOK m.rows.length (dcs m):=by
 refine ⟨fun i x hx=>?_,fun x hx=>?_,by rw [dcs_len];have:=h.ncol;omega⟩
 ·obtain ⟨c,_,rfl⟩:=dcs_get hx;rfl
 ·obtain ⟨i,hi⟩:=List.mem_iff_getElem?.1 hx
  obtain ⟨c,hc,rfl⟩:=dcs_get hi
  exact dcol_ok h (List.mem_of_getElem? hc)
theorem mask_disj {m:Ms} (h:MsOK m) {i j:Nat} {c d:Cl} (hc:c∈m.cols) (hd:d∈m.cols):(dcol m i c).mask &&& (dcol m j d).mask=0↔∀f∈c.ops,f ∉ d.ops:=by
 show maskL _ &&& maskL _=0↔_
 rw [mask_and_zero]
 constructor
 ·intro g f hf hf'
  exact g (posR m.rows f) (List.mem_map.2 ⟨f,hf,rfl⟩) (List.mem_map.2 ⟨f,hf',rfl⟩)
 ·intro g r hr hr'
  obtain ⟨f,hf,rfl⟩:=List.mem_map.1 hr
  obtain ⟨f',hf',e⟩:=List.mem_map.1 hr'
  have:=posR_inj h.asc (h.sub d hd f' hf') (h.sub c hc f hf) e
  subst this
  exact g f' hf hf'
theorem mask_lt {m:Ms} (h:MsOK m) {i:Nat} {c:Cl} (hc:c∈m.cols):(dcol m i c).mask < 64:=by
 have:=maskL_lt (l:=(dcol m i c).rows) (n:=6) fun r hr=>Nat.lt_of_lt_of_le ((dcol_ok h (i:=i) hc).rg r hr) h.row1
 exact this
theorem sur_bd {m:Ms} (h:MsOK m) {i:Nat} {c:Cl} (hc:c∈m.cols): -185≤(dcol m i c).sur∧(dcol m i c).sur≤40:=by
 have h1:=h.cost c hc
 have h2:=h.opl hc
 have h3:=h.pen0
 have h4:=h.pen1
 have a:=Int.mul_nonneg h3 (show (0:Int)≤c.ops.length by omega)
 have b:=Int.mul_le_mul h4 (show (c.ops.length:Int)≤6 by omega) (by omega) (by omega)
 show -185≤c.cost - m.pen * c.ops.length∧c.cost - m.pen * c.ops.length≤40
 omega
end Pl
end Go.Proofs.YtgdcbjligbnpgaaGreat
