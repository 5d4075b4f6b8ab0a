/- Lemmas of the claim; no condition. -/
import Derived.Test.YtgbhebappffbdaaGreatProg
import Derived.WalkKit
import Derived.WalkSpells
import Derived.WalkLawsBesides
import Derived.Lib.Hide
import Derived.Deep.QuietTactic
import Derived.BigQuiet
import Derived.Laws.BitsAllLaws
import Derived.Deep.RegionHeld3
import Derived.Deep.DrawnRows
import Derived.Maps.AppendAt
import Derived.Lib.SliceRun
import Derived.Deep.DeepCutAuto
import Derived.Deep.CutBlock
import Derived.Deep.AppendLies
import Derived.Deep.LoopGhost
set_option linter.all false
set_option maxRecDepth 100000
set_option maxHeartbeats 40000000
namespace Go.Proofs.YtgbhebappffbdaaGreat
open Go.RowKit
namespace Pl
end Pl
open Pl
theorem pu1 {α : Type _} (l : List α) (i : Nat) (a : α) : l.toArray.setIfInBounds i a = (l.set i a).toArray := List.setIfInBounds_toArray l i a
theorem pu2 {α : Type _} {a : α} {xs : List α} {b : α} : (a :: xs).set 0 b = b :: xs := List.set_cons_zero
theorem pu3 {α : Type _} {a : α} {xs : List α} {n : Nat} {b : α} : (a :: xs).set (n + 1) b = a :: xs.set n b := List.set_cons_succ
theorem pu4 {α : Type _} {l : List α} {i : Nat} (h : i < l.toArray.size) : l.toArray[i] = l[i]'(by simpa using h) := List.getElem_toArray h
theorem pu5 {α : Type _} (a : α) (xs : List α) (h : 0 < (a :: xs).length) : (a :: xs)[0] = a := List.getElem_cons_zero a xs h
theorem pu6 {α : Type _} (a : α) (xs : List α) (i : Nat) (h : i + 1 < (a :: xs).length) : (a :: xs)[i + 1] = xs[i]'(by simpa using h) := List.getElem_cons_succ a xs i h
theorem pu : (∀ (a : Act) (i : Tmp) (v : Value), a.put (some i) v = { a with tmps := a.tmps.setIfInBounds i v }) ∧ (∀ (a : Act) (v : Value), a.put none v = a) ∧ (∀ (l : List Value) (i : Nat) (a : Value), l.toArray.setIfInBounds i a = (l.set i a).toArray) ∧ (∀ (a b : Value) (xs : List Value), (a :: xs).set 0 b = b :: xs) ∧ (∀ (a b : Value) (xs : List Value) (n : Nat), (a :: xs).set (n + 1) b = a :: xs.set n b) ∧ (∀ (l : List Value) (i : Nat) (h : i < l.toArray.size), l.toArray[i] = l[i]'(by simpa using h)) ∧ (∀ (a : Value) (xs : List Value) (h : 0 < (a :: xs).length), (a :: xs)[0] = a) ∧ ∀ (a : Value) (xs : List Value) (i : Nat) (h : i + 1 < (a :: xs).length), (a :: xs)[i + 1] = xs[i]'(by simpa using h) := ⟨fun _ _ _ => rfl, fun _ _ => rfl, fun _ _ _ => pu1 _ _ _, fun _ _ _ => pu2, fun _ _ _ _ => pu3, fun _ _ h => pu4 h, fun _ _ h => pu5 _ _ h, fun _ _ _ h => pu6 _ _ _ h⟩
theorem JZ {p : Prop} (h : p) : Hid p := Lib.hid h
theorem JY (n : Nat) : n ≤ n := Nat.le_refl n
theorem JX (a b : Nat) : a < b ∨ a ≥ b := Nat.lt_or_ge a b
theorem JW {n m k : Nat} (h : n ≤ m) (g : m ≤ k) : n ≤ k := Nat.le_trans h g
theorem JV (n : Nat) : n = 0 ∨ 0 < n := Nat.eq_zero_or_pos n
theorem JU {α : Type _} {l : List α} {i : Nat} (h : l.length ≤ i) : l[i]? = none := List.getElem?_eq_none h
theorem JT {a : Int} (h : 0 ≤ a) : ∃ n : Nat, a = n := Int.eq_ofNat_of_zero_le h
theorem JS {m n : Nat} (k : Nat) (h : m ≤ n) : m * k ≤ n * k := Nat.mul_le_mul_right k h
theorem JR (n : Nat) (w : World) : Below n w w := Below.refl n w
theorem JQ {α : Type _} {l : List α} {i : Nat} (h : i < l.length) : l[i]? = some l[i] := List.getElem?_eq_getElem h
theorem JP (n : Nat) : (n : Int).toNat = n := Int.toNat_natCast n
theorem JO {α : Type _} {l : List α} {i : Nat} {a : α} : l[i]? = some a ↔ ∃ h : i < l.length, l[i] = a := List.getElem?_eq_some_iff
namespace Pl
def B32:Nat:=4294967296
theorem B32_pos:0 < B32:=by decide
theorem B32_eq:B32=4294967296:=rfl
def val:List Nat→Nat
 | []=>0
 | d::ds=>d+B32 * val ds
def okD (ds:List Nat):Prop:=∀d∈ds,d < B32
theorem okD_nil:okD []:=by intro d h;cases h
theorem Zln {d:Nat} {ds:List Nat}:okD (d::ds)↔d < B32∧okD ds:=by simp [okD]
theorem Zlo {a:List Nat} (h:okD a) (n:Nat):okD (a.take n):=fun d hd=>h d (List.mem_of_mem_take hd)
theorem Zgn {a:List Nat} (h:okD a) (n:Nat):okD (a.drop n):=fun d hd=>h d (List.mem_of_mem_drop hd)
theorem ZT {a:List Nat} (h:okD a) (i:Nat) {d:Nat} (hd:d < B32):okD (a.set i d):=fun x hx=>by
 rcases List.mem_or_eq_of_mem_set hx with h1 | h1
 ·exact h x h1
 ·exact h1▸hd
theorem ZR (n:Nat):okD (List.replicate n 0):=fun d hd=>by
 have:=List.eq_of_mem_replicate hd;subst this;exact B32_pos
def dg (ds:List Nat) (i:Nat):Nat:=ds.getD i 0
theorem Zyr {ds:List Nat} (h:okD ds) (i:Nat):dg ds i < B32:=by
 unfold dg;rw [List.getD_eq_getElem?_getD]
 cases hi:ds[i]? with
 | none=>exact B32_pos
 | some d=>exact h d (List.mem_of_getElem? hi)
theorem Yns {ds:List Nat} (h:okD ds) (i:Nat):dg ds i≤4294967295:=by have:=Zyr h i;unfold B32 at this;omega
theorem Vn {ds:List Nat} {i:Nat} (h:i < ds.length):ds[i]? =some (dg ds i):=by
 simp [dg,JQ h]
theorem Vo {ds:List Nat} {i:Nat} (h:ds.length≤i):dg ds i=0:=by simp [dg,JU h]
theorem UM {ds:List Nat} {i d:Nat} (h:i < ds.length):dg (ds.set i d) i=d:=by simp [dg,h]
theorem Yt {ds:List Nat} {i j d:Nat} (h:i≠j):dg (ds.set i d) j=dg ds j:=by simp [dg,h]
theorem Yid {ds:List Nat} {i n:Nat} (h:i < n):dg (ds.take n) i=dg ds i:=by simp [dg,h]
theorem VS {ds:List Nat} {i n:Nat}:dg (ds.drop n) i=dg ds (n+i):=by simp [dg]
def di (ds:List Nat) (i:Nat):Int:=(dg ds i:Nat)
theorem YE (ds:List Nat) (i:Nat):di ds i=((dg ds i:Nat):Int):=rfl
theorem Zu (ds:List Nat) (i:Nat):0≤di ds i:=by unfold di;omega
theorem Yu {ds:List Nat} (h:okD ds) (i:Nat):di ds i≤4294967295:=by have:=Yns h i;unfold di;omega
theorem Zbp {ds:List Nat} {i:Nat} (h:dg ds i=0):(di ds i==0)=true:=by simp [di,h]
theorem UN {ds:List Nat} {i:Nat} (h:dg ds i≠0):(di ds i==0)=false:=by simp [di,h]
def vt (ds:List Nat) (i:Nat):Nat:=val (ds.take i)
theorem val_append (a b:List Nat):val (a++b)=val a+B32^a.length * val b:=by
 induction a with
 | nil=>simp [val]
 | cons d a ih=>
  simp only [List.cons_append,val,ih,List.length_cons,Nat.pow_succ];rw [Nat.mul_add,← Nat.mul_assoc,Nat.mul_comm B32 (B32^a.length),Nat.add_assoc]
theorem Xg (ds:List Nat):vt ds 0=0:=by simp [vt,val]
theorem Zys {ds:List Nat} {i:Nat} (h:i < ds.length):vt ds (i+1)=vt ds i+dg ds i * B32^i:=by
 unfold vt;rw [List.take_succ_eq_append_getElem h,val_append,List.length_take,Nat.min_eq_left (Nat.le_of_lt h)];have:ds[i]=dg ds i:=by simp [dg,h]
 rw [this];simp [val,Nat.mul_comm]
theorem X8 {ds:List Nat} {i:Nat} (h:ds.length≤i):vt ds i=val ds:=by unfold vt;rw [List.take_of_length_le h]
theorem Ygs (ds:List Nat):vt ds ds.length=val ds:=X8 (JY _)
theorem Xh (ds:List Nat) (i:Nat):vt ds (i+1)=vt ds i+dg ds i * B32^i:=by
 rcases JX i ds.length with h | h
 ·exact Zys h
 ·rw [X8 h,X8 (by omega),Vo h];simp
theorem Zhc {ds:List Nat} (h:okD ds):val ds < B32^ds.length:=by
 induction ds with
 | nil=>simp [val]
 | cons d ds ih=>
  obtain ⟨h1,h2⟩:=Zln.1 h;have:=ih h2;simp only [val,List.length_cons,Nat.pow_succ];have h3:B32 * (val ds+1)≤B32 * B32^ds.length:=Nat.mul_le_mul_left _ this;rw [Nat.mul_comm (B32^ds.length)];rw [Nat.mul_add] at h3;omega
theorem Zbe {ds:List Nat} (h:okD ds) (i:Nat):vt ds i < B32^i:=by
 have h1:=Zhc (Zlo h i);exact Nat.lt_of_lt_of_le h1 (Nat.pow_le_pow_right B32_pos (List.length_take_le _ _))
theorem Zno {ds:List Nat} {i j d:Nat} (h:j≤i):vt (ds.set i d) j=vt ds j:=by
 unfold vt;rw [List.take_set_of_le h]
theorem Zbq {ds:List Nat} {i d:Nat} (h:i < ds.length):vt (ds.set i d) (i+1)=vt ds i+d * B32^i:=by
 rw [Zys (by simpa using h),Zno (JY _),UM h]
theorem Ydh {a b:List Nat} {n:Nat} (h:∀i,i < n→dg a i=dg b i):vt a n=vt b n:=by
 induction n with
 | zero=>simp [Xg]
 | succ n ih=>rw [Xh,Xh,ih (fun i hi=>h i (by omega)),h n (by omega)]
theorem Wd (n:Nat):val (List.replicate n 0)=0:=by
 induction n with
 | zero=>rfl
 | succ n ih=>simp [List.replicate_succ,val,ih]
theorem VH (n i:Nat):dg (List.replicate n 0) i=0:=by
 unfold dg;rw [List.getD_eq_getElem?_getD,List.getElem?_replicate];split <;> rfl
def Zq (n:Nat):List Nat:=if _h:n=0 then [] else (n % B32)::Zq (n / B32)
 termination_by n
 decreasing_by exact Nat.div_lt_self (by omega) (by decide)
theorem digs_zero:Zq 0=[]:=by rw [Zq];simp
theorem WZ {n:Nat} (h:0 < n):Zq n=(n % B32)::Zq (n / B32):=by
 rw [Zq,dif_neg (by omega)]
theorem Zqz {n:Nat}:Zq n=[]↔n=0:=by
 rcases JV n with h | h
 ·subst h;simp [digs_zero]
 ·rw [WZ h];simp;omega
theorem Zm (n:Nat):val (Zq n)=n:=by
 induction n using Nat.strongRecOn with
 | ind n ih=>
  rcases JV n with h | h
  ·subst h;simp [digs_zero,val]
  ·rw [WZ h];simp only [val];rw [ih _ (Nat.div_lt_self h (by decide))];exact Nat.mod_add_div n B32
theorem Yj (n:Nat):okD (Zq n):=by
 induction n using Nat.strongRecOn with
 | ind n ih=>
  rcases JV n with h | h
  ·subst h;simp [digs_zero,okD]
  ·rw [WZ h,Zln];exact ⟨Nat.mod_lt _ B32_pos,ih _ (Nat.div_lt_self h (by decide))⟩
theorem Xw {n k:Nat} (h:n < B32^k):(Zq n).length≤k:=by
 induction k generalizing n with
 | zero=>
  have:n=0:=by simpa using h
  subst this;simp [digs_zero]
 | succ k ih=>
  rcases JV n with h0 | h0
  ·subst h0;simp [digs_zero]
  ·rw [WZ h0,List.length_cons];have:n / B32 < B32^k:=by
    rw [Nat.div_lt_iff_lt_mul B32_pos];rw [Nat.pow_succ] at h;exact h
   have:=ih this;omega
theorem Yz (n:Nat):n < B32^(Zq n).length:=by
 have:=Zhc (Yj n);rwa [Zm] at this
theorem Yie {n k:Nat} (h:k < (Zq n).length):B32^k≤n:=by
 rcases JX n (B32^k) with h1 | h1
 ·have:=Xw h1;omega
 ·exact h1
theorem Zy {m n:Nat} (h:m≤n):(Zq m).length≤(Zq n).length:=
 Xw (Nat.lt_of_le_of_lt h (Yz n))
theorem Xx {n:Nat} (h:0 < n):0 < (Zq n).length:=by
 rw [WZ h];simp
theorem Znp {ds:List Nat} (ok:okD ds) (h:ds=[]∨dg ds (ds.length - 1)≠0):Zq (val ds)=ds:=by
 induction ds with
 | nil=>simp [val,digs_zero]
 | cons d ds ih=>
  obtain ⟨h1,h2⟩:=Zln.1 ok;have hl:dg (d::ds) ((d::ds).length - 1)≠0:=by
   rcases h with h | h
   ·cases h
   ·exact h
  have a:0 < val (d::ds):=by
   rcases JV (val (d::ds)) with h0 | h0
   ·exfalso;have b:∀(l:List Nat),val l=0→∀i,dg l i=0:=by
     intro l
     induction l with
     | nil=>intro _ i;simp [dg]
     | cons x l ih'=>
      intro hv i;simp only [val] at hv;have hx:x=0:=(by omega);have hm:B32 * val l=0:=(by omega);have c:val l=0:=by
       rcases Nat.mul_eq_zero.1 hm with h | h
       ·exact absurd h (by decide)
       ·exact h
      cases i with
      | zero=>simpa [dg] using hx
      | succ i=>have:=ih' c i;simpa [dg] using this
    exact hl (b _ h0 _)
   ·exact h0
  rw [WZ a];have e1:val (d::ds) % B32=d:=by
   simp only [val];rw [Nat.add_mul_mod_self_left];exact Nat.mod_eq_of_lt h1
  have e2:val (d::ds) / B32=val ds:=by
   simp only [val];rw [Nat.add_mul_div_left _ _ B32_pos,Nat.div_eq_of_lt h1];simp
  rw [e1,e2,ih h2]
  cases ds with
  | nil=>exact .inl rfl
  | cons x ds=>right;simpa [dg] using hl
theorem Znq {ds:List Nat} (ok:okD ds) {n:Nat} (hn:n≤ds.length) (hz:∀i,n≤i→dg ds i=0) (hl:n=0∨dg ds (n - 1)≠0):Zq (val ds)=ds.take n:=by
 have hv:val ds=val (ds.take n):=by
  rw [← Ygs ds];show vt ds ds.length=vt ds n;clear hl;have:∀k,vt ds (n+k)=vt ds n:=by
   intro k
   induction k with
   | zero=>rfl
   | succ k ih=>rw [← Nat.add_assoc,Xh,hz (n+k) (by omega),ih];simp
  have h:=this (ds.length - n)
  rwa [show n+(ds.length - n)=ds.length from by omega] at h
 rw [hv];refine Znp (Zlo ok n) ?_;rcases hl with h | h
 ·left;subst h;simp
 ·right;have a:(ds.take n).length=n:=by rw [List.length_take];omega
  rw [a];rcases JV n with h0 | h0
  ·subst h0;intro hh;exact h (hz _ (by omega))
  ·rw [Yid (by omega)];exact h
theorem Vp {ds:List Nat} (ok:okD ds):(Zq (val ds)).length≤ds.length:=Xw (Zhc ok)
theorem UO {n:Nat} (h:0 < n):dg (Zq n) ((Zq n).length - 1)≠0:=by
 induction n using Nat.strongRecOn with
 | ind n ih=>
  rw [WZ h];rcases JV (n / B32) with h0 | h0
  ·rw [h0,digs_zero];have:n % B32=n:=Nat.mod_eq_of_lt (by
    rcases JX n B32 with h1 | h1
    ·exact h1
    ·have:=Nat.div_pos h1 B32_pos;omega)
   simp [dg,this];omega
  ·have:=ih _ (Nat.div_lt_self h (by decide)) h0;have hp:=Xx h0;have e:((n % B32)::Zq (n / B32)).length - 1=(Zq (n / B32)).length - 1+1:=(by simp;omega);rw [e];simpa [dg] using this
theorem Zgo {n:Nat} (h0:0 < n) (h:n < B32):Zq n=[n]:=by
 rw [WZ h0,Nat.div_eq_of_lt h,digs_zero,Nat.mod_eq_of_lt h]
theorem Ztj {n:Nat} (h:B32≤n) (h2:n < B32 * B32):Zq n=[n % B32,n / B32]:=by
 have:=B32_pos;have h1:0 < n / B32:=Nat.div_pos h B32_pos;have h3:n / B32 < B32:=by rw [Nat.div_lt_iff_lt_mul B32_pos];exact h2
 rw [WZ (by omega),Zgo h1 h3]
theorem YW (k:Nat):((B32^(k+1):Nat):Int)=((B32^k:Nat):Int) * 4294967296:=by
 rw [Nat.pow_succ,Int.natCast_mul];rfl
theorem Yd (ds:List Nat) (k:Nat):((vt ds (k+1):Nat):Int)=vt ds k+di ds k * ((B32^k:Nat):Int):=by
 rw [Xh,Int.natCast_add,Int.natCast_mul];rfl
theorem Xy {ds:List Nat} {k:Nat} {z:Int} (h:k < ds.length) (hz:0≤z):((vt (ds.set k z.toNat) (k+1):Nat):Int)=vt ds k+z * ((B32^k:Nat):Int):=by
 rw [Zbq h,Int.natCast_add,Int.natCast_mul,Int.toNat_of_nonneg hz]
theorem Ydi (O x y z p r q a b:Int) (h:O+z * p=a+b) (e:z+x+y=r+4294967296 * q):O+r * p+q * (p * 4294967296)=a+x * p+(b+y * p):=by grind
theorem Ug {O xs ys:List Nat} {k:Nat} {z y:Int} (hk:k < O.length) (hz:0≤z) (hy:y=di ys k)
 (h:(vt O k:Int)+z * ((B32^k:Nat):Int)=vt xs k+vt ys k):
 (vt (O.set k ((z+di xs k+y) % 4294967296).toNat) (k+1):Int)+((z+di xs k+y) / 4294967296) * ((B32^(k+1):Nat):Int)=vt xs (k+1)+vt ys (k+1):=by
 subst hy;rw [Xy hk (by omega),Yd,Yd,YW];exact Ydi _ _ _ _ _ _ _ _ _ h (by omega)
theorem Ydj (O x y z p r q a b:Int) (h:O - z * p=a - b) (e:x - z - y=r - 4294967296 * q):O+r * p - q * (p * 4294967296)=a+x * p - (b+y * p):=by grind
theorem Zcp {O xs ys:List Nat} {k:Nat} {z y r q:Int} (hk:k < O.length) (hy:y=di ys k) (hr:0≤r) (hq:r - 4294967296 * q=di xs k - z - y)
 (h:(vt O k:Int) - z * ((B32^k:Nat):Int)=vt xs k - vt ys k):
 (vt (O.set k r.toNat) (k+1):Int) - q * ((B32^(k+1):Nat):Int)=vt xs (k+1) - vt ys (k+1):=by
 subst hy;rw [Xy hk hr,Yd,Yd,YW];exact Ydj _ _ _ _ _ _ _ _ _ h (by omega)
theorem Zyt {O xs ys:List Nat} {k:Nat} {z:Int} (hO:O.length=k) (ok:okD O) (hz:0≤z) (hx:xs.length≤k) (hy:ys.length≤k) (hle:val ys≤val xs)
 (h:(vt O k:Int) - z * ((B32^k:Nat):Int)=vt xs k - vt ys k):val O=val xs - val ys:=by
 rw [X8 hx,X8 hy,X8 (by omega)] at h;have a:=Zhc ok;rw [hO] at a;have b:z=0:=by
  rcases Int.lt_or_eq_of_le hz with h1 | h1
  ·exfalso;have:((B32^k:Nat):Int) * 1≤((B32^k:Nat):Int) * z:=Int.mul_le_mul_of_nonneg_left (by omega) (by omega);rw [Int.mul_comm z] at h;omega
  ·exact h1.symm
 subst b;omega
theorem Zcq {a b:Nat} (h:(Zq a).length < (Zq b).length):a < b:=by
 have h1:=Yz a;have h2:=Yie h;omega
theorem Zcr (ds:List Nat) (i:Nat):val ds=vt ds i+B32^i * (dg ds i+B32 * val (ds.drop (i+1))):=by
 rcases JX i ds.length with h | h
 ·have e:ds=ds.take i++(dg ds i::ds.drop (i+1)):=by
   have hd:ds[i]=dg ds i:=(by simp [dg,h]);rw [← hd,← List.drop_eq_getElem_cons h,List.take_append_drop]
  have hl:(ds.take i).length=i:=by rw [List.length_take];omega
  calc val ds=val (ds.take i++(dg ds i::ds.drop (i+1))):=by rw [← e]
   _=_:=by rw [val_append,hl];rfl
 ·rw [X8 h,Vo h,List.drop_eq_nil_of_le (by omega)];simp [val]
theorem Zkc {a b:List Nat} {n:Nat} (hl:a.length=b.length) (h:∀i,n≤i→dg a i=dg b i):a.drop n=b.drop n:=by
 apply List.ext_getElem?;intro i;rw [List.getElem?_drop,List.getElem?_drop];rcases JX (n+i) a.length with h1 | h1
 ·rw [Vn h1,Vn (by omega),h _ (by omega)]
 ·rw [JU h1,JU (by omega)]
theorem Zcs {a b:List Nat} (ha:okD a) (hl:a.length=b.length) {i:Nat} (h:∀j,i < j→dg a j=dg b j) (hi:dg a i < dg b i):val a < val b:=by
 rw [Zcr a i,Zcr b i,Zkc hl (fun j hj=>h j (by omega))];have h1:=Zbe ha i;have h2:B32^i * (dg a i+B32 * val (b.drop (i+1))+1)≤B32^i * (dg b i+B32 * val (b.drop (i+1))):=Nat.mul_le_mul_left _ (by omega);rw [Nat.mul_add,Nat.mul_one] at h2;omega
theorem Zct {a b:List Nat} (hl:a.length=b.length) (h:∀j,dg a j=dg b j):a=b:=by
 have:=Zkc (n:=0) hl (fun i _=>h i);simpa using this
theorem Ydk {a b:Nat} (h:Zq a=Zq b):a=b:=by rw [← Zm a,h,Zm]
def cmpN (a b:Nat):Int:=if a < b then -1 else if a=b then 0 else 1
theorem UQ {a b:Nat} (h:a < b):cmpN a b= -1:=by simp [cmpN,h]
theorem Zra {a b:Nat} (h:a=b):cmpN a b=0:=by simp [cmpN,h]
theorem Zhd {a b:Nat} (h:b < a):cmpN a b=1:=by
 unfold cmpN;rw [if_neg (by omega),if_neg (by omega)]
theorem Zrb (a b:Nat): -1≤cmpN a b∧cmpN a b≤1:=by
 unfold cmpN;split
 ·decide
 ·split <;> decide
end Pl
def uc (d:Nat):Value:= .int .u32 (d:Int)
def Z6 (w:World) (v:Value) (ds:List Nat):Prop:=
 ∃A c,v= .slice A ds.length c∧ds.length≤c∧c≤maxLen∧okD ds∧
  (0 < ds.length→∃b off cs fz,A=some ⟨b,off,none⟩∧w.heap[b]? =some (.cells cs 148 fz)∧∀k d,ds[k]? =some d→cs[off+k]? =some (uc d))
def ZG (w w':World):Prop:=∀(b:Nat) (cs:Array Value) (fz:Nat × Nat),w.heap[b]? =some (.cells cs 148 fz)→w'.heap[b]? =some (.cells cs 148 fz)
theorem ZG.refl (w:World):ZG w w:=fun _ _ _ h=>h
theorem ZG.trans {a b c:World} (h:ZG a b) (k:ZG b c):ZG a c:=fun x cs fz hx=>k x cs fz (h x cs fz hx)
theorem YA {w:World} {b:Nat} {o:Obj} (h:w.heap[b]? =some o):b < w.heap.size:=(Array.getElem?_eq_some_iff.1 h).1
theorem ZG.of_below {w w':World} (h:Below w.heap.size w w'):ZG w w':=fun b _ _ hb=>(h.block b (YA hb)).trans hb
theorem ZG.drew (w:World):ZG w w.drew:=fun _ _ _ h=>h
theorem ZG.drewN (w:World) (n:Nat):ZG w (w.drewN n):=fun _ _ _ h=>h
theorem ZG.alloc (w:World) (o:Obj):ZG w (w.alloc o):=ZG.of_below ((JR _ _).alloc (JY _) o)
theorem ZG.setCell {w:World} {g:Nat} {cs:Array Value} {t:TypeId} {fz:Nat × Nat} (h:w.heap[g]? =some (.cells cs t fz)) (ht:t≠148) (i:Nat) (u:Value):ZG w (w.setCell ⟨g,i,none⟩ u):=by
 intro b c d hb;have a:b≠g:=by
  rintro rfl;rw [h] at hb;injection hb with hb;injection hb with _ h2 _;exact ht h2
 rw [heap_setCell_other w _ _ _ a];exact hb
theorem Z6.keep {w w':World} {v:Value} {ds:List Nat} (h:Z6 w v ds) (hk:ZG w w'):Z6 w' v ds:=by
 obtain ⟨A,c,hv,h1,h2,h3,h4⟩:=h;refine ⟨A,c,hv,h1,h2,h3,fun hp=>?_⟩;obtain ⟨b,a,cs,fz,hA,hb,hc⟩:=h4 hp;exact ⟨b,a,cs,fz,hA,hk b cs fz hb,hc⟩
theorem Z6.below {w w':World} {v:Value} {ds:List Nat} (h:Z6 w v ds) (hb:Below w.heap.size w w'):Z6 w' v ds:=h.keep (ZG.of_below hb)
theorem Z6.ok {w:World} {v:Value} {ds:List Nat} (h:Z6 w v ds):okD ds:=by
 obtain ⟨_,_,_,_,_,h3,_⟩:=h;exact h3
theorem Z6.len {w:World} {A:Option Addr} {n c:Nat} {ds:List Nat} (h:Z6 w (.slice A n c) ds):n≤ds.length∧ds.length≤n∧n≤c∧c≤9223372036854775807:=by
 obtain ⟨_,_,hv,h1,h2,_,_⟩:=h;injection hv with _ e2 e3;subst e2 e3;unfold maxLen at h2;exact ⟨JY _,JY _,h1,by omega⟩
theorem Z6.shape {w:World} {v:Value} {ds:List Nat} (h:Z6 w v ds):∃A n c,v= .slice A n c:=by
 obtain ⟨A,c,hv,_⟩:=h;exact ⟨A,_,c,hv⟩
theorem Z6.at_ {w:World} {A:Option Addr} {n c:Nat} {ds:List Nat} (h:Z6 w (.slice A n c) ds) (hn:0 < n):
 ∃b off,A=some ⟨b,off,none⟩∧b < w.heap.size∧∀k,k < n→w.cell? ⟨b,off+k,none⟩=some (.int .u32 (di ds k)):=by
 obtain ⟨hl,a,_,_⟩:=h.len;obtain ⟨A',c',hv,h1,h2,h3,h4⟩:=h;injection hv with e1 e2 e3;subst e1 e3;obtain ⟨b,off,cs,fz,hA,hb,hc⟩:=h4 (by omega);refine ⟨b,off,hA,YA hb,fun k hk=>?_⟩;rw [cell_of_row w b (off+k) cs _ fz hb,hc k (dg ds k) (Vn (by omega))];rfl
theorem Z6.take {w:World} {A:Option Addr} {n c:Nat} {ds:List Nat} (h:Z6 w (.slice A n c) ds) {k c':Nat} (hk:k≤n) (hc:k≤c') (hm:c'≤maxLen):Z6 w (.slice A k c') (ds.take k):=by
 obtain ⟨hl,g,_,_⟩:=h.len;obtain ⟨A',c1,hv,h1,h2,h3,h4⟩:=h;injection hv with e1 e2 e3;subst e1 e3;have a:(ds.take k).length=k:=by rw [List.length_take];omega
 refine ⟨A,c',by rw [a],by rw [a];exact hc,hm,Zlo h3 k,fun hp=>?_⟩;rw [a] at hp;obtain ⟨b,f,cs,fz,hA,hb,e⟩:=h4 (by omega);refine ⟨b,f,cs,fz,hA,hb,fun j d hj=>e j d ?_⟩;rw [List.getElem?_take] at hj;split at hj
 ·exact hj
 ·cases hj
theorem Z6.nil (w:World) (A:Option Addr) (c:Nat) (hm:c≤maxLen):Z6 w (.slice A 0 c) []:=
 ⟨A,c,rfl,by simp,hm,okD_nil,fun h=>absurd h (by simp)⟩
def Y6 (w:World) (g:Nat) (ds:List Nat):Prop:=w.heap[g]? =some (.cells (ds.map uc).toArray 148 (0,0))
theorem Y6.lt {w:World} {g:Nat} {ds:List Nat} (h:Y6 w g ds):g < w.heap.size:=YA h
theorem Y6.cell {w:World} {g:Nat} {ds:List Nat} (h:Y6 w g ds) {k:Nat} (hk:k < ds.length):w.cell? ⟨g,k,none⟩=some (.int .u32 (di ds k)):=by
 rw [cell_of_row w g k _ _ _ h];simp [Vn hk,uc,di]
theorem Y6.frozen {w:World} {g:Nat} {ds:List Nat} (h:Y6 w g ds) (k:Nat):w.frozen? ⟨g,k,none⟩=false:=frozen_of_row w g k _ _ h
theorem Y6.new (w:World) (ds:List Nat):Y6 (w.alloc (.cells (ds.map uc).toArray 148)) w.heap.size ds:=heap_alloc_new w _
theorem Y6.set_ {w:World} {g:Nat} {ds:List Nat} (h:Y6 w g ds) (k d:Nat):Y6 (w.setCell ⟨g,k,none⟩ (.int .u32 (d:Int))) g (ds.set k d):=by
 unfold Y6 at h ⊢;rw [heap_setCell_same w g k _ _ _ h];simp [uc,List.map_set]
theorem Y6.setI {w:World} {g:Nat} {ds:List Nat} (h:Y6 w g ds) (k:Nat) {z:Int} (hz:0≤z):Y6 (w.setCell ⟨g,k,none⟩ (.int .u32 z)) g (ds.set k z.toNat):=by
 have:=h.set_ k z.toNat
 rwa [Int.toNat_of_nonneg hz] at this
theorem Y6.below {w w':World} {B g:Nat} {ds:List Nat} (h:Y6 w g ds) (hb:Below B w w') (hg:g < B):Y6 w' g ds:=(hb.block g hg).trans h
theorem Y6.dig {w:World} {g:Nat} {ds:List Nat} (h:Y6 w g ds) (ok:okD ds) {c:Nat} (hc:ds.length≤c) (hm:c≤maxLen):Z6 w (.slice (some ⟨g,0,none⟩) ds.length c) ds:=
 ⟨_,c,rfl,hc,hm,ok,fun _=>⟨g,0,_,_,rfl,h,fun k d hk=>by simp [hk,uc]⟩⟩
def zc (n:Nat):Array Value:=((List.replicate n 0).map uc).toArray
theorem Y6.zeros (w:World) (n:Nat):Y6 (w.alloc (.cells (zc n) 148)) w.heap.size (List.replicate n 0):=Y6.new w _
theorem Ydl (n:Nat):madeCells (Value.cells (.int .u32 0)) (n * 1)=zc n:=by
 simp [madeCells,Value.cells,uc,zc];apply Array.ext
 ·simp
 ·intro i h1 h2;simp [Nat.mod_one]
theorem info_u32:(Tryz.prog.info? 148).map (fun i=>(i.zero,i.size,i.bytes))=some (some (.int .u32 0),1,4):=by kernel_rfl
theorem Y8 (n:Nat) (hn:n≤1099511627776) (w:World):
 (Instr.makeSlice 42 (.int .i64 (n:Int)) (.int .i64 (n:Int))).run Tryz.prog w= .ok (.slice (some ⟨w.heap.size,0,none⟩) n n) (w.alloc (.cells (zc n) 148)):=by
 obtain ⟨i0,hi,a,b,c⟩:=info_parts info_u32;have hb:(i0.bytes:Int) * (n:Int)≤281474976710656:=by rw [c];omega
 have hr:=run_make (P:=Tryz.prog) w 42 148 i0 _ Tryz.underlying42 hi a .i64 .i64 n n (by omega) (by omega) hb (by omega);simp only [JP,b] at hr;rw [hr,Ydl]
theorem Ztk {w:World} {A:Option Addr} {n c k:Nat} {ds:List Nat} (h:Z6 w (.slice A n c) ds) (hk:k≤n) (hz:∀i,k≤i→dg ds i=0) (hl:k=0∨dg ds (k - 1)≠0):
 Z6 w (.slice A k k) (Zq (val ds)):=by
 obtain ⟨h1,h2,h3,h4⟩:=h.len;rw [Znq h.ok (by omega) hz hl];exact h.take hk (JY _) (by unfold maxLen;omega)
theorem Yg (v:Value) (ds:List Nat) (w:World) (h:Z6 w v ds):
 Calls Tryz.prog 131 #[v] w fun e w'=>∃v',e= .returned v'∧Z6 w v' (Zq (val ds))∧w=w':=by
 obtain ⟨A,n,c,rfl⟩:=h.shape;obtain ⟨hl,f,g,hc⟩:=h.len;go_enter Tryz.func131,Tryz.ntmps131;go_wp2
 go_loop [3] (fun x=>∃k:Nat,k≤n∧x= .int .i64 k∧∀i,k≤i→dg ds i=0) (fun x=>(intOf x).toNat)
 case atStart=>exact ⟨n,JY _,rfl,fun i hi=>Vo (by omega)⟩
 case round=>
  obtain ⟨k,hk,rfl,hz⟩:=hrel;have HZ:=JZ hz;clear hz;rcases JV k with h0 | h0
  ·subst h0;go_wp2;go_ret;exact ⟨_,rfl,Ztk h hk HZ.out (.inl rfl),rfl⟩
  ·obtain ⟨j,rfl⟩:∃j,k=j+1:=⟨k - 1,by omega⟩;obtain ⟨b,l,rfl,_,a⟩:=h.at_ (by omega);have d:=a j (by omega);clear a;by_cases hd:dg ds j=0
   ·have hb:=Zbp hd;have HD:=JZ hd;clear hd;go_wp2
    go_round
    case rel=>exact ⟨j,by omega,by go_num,fun i hi=>by
     rcases Nat.eq_or_lt_of_le hi with e | e
     ·exact e▸HD.out
     ·exact HZ.out i e⟩
    case measure=>simp [intOf]
   ·have hb:=UN hd;have HD:=JZ hd;clear hd;go_wp2;go_ret;exact ⟨_,rfl,Ztk h hk HZ.out (.inr (by simpa using HD.out)),rfl⟩
theorem Yif (w:World) (z:Int) (hd:z < 4294967296) (h0:0 < z):Z6 (w.alloc (.cells #[.int .u32 z] 148)) (.slice (some ⟨w.heap.size,0,none⟩) 1 1) (Zq z.toNat):=by
 obtain ⟨d,rfl⟩:=JT (Int.le_of_lt h0);rw [JP,Zgo (by omega) (by unfold B32;omega)];have:=Y6.dig (Y6.new w [d]) (by simp [okD,B32];omega) (c:=1) (by simp) (by simp [maxLen]);simpa [uc] using this
theorem Yig (w:World) (z:Int) (h:4294967296≤z) (h2:z≤18446744073709551615):
 Z6 (w.alloc (.cells #[.int .u32 (z % 4294967296),.int .u32 (z / 4294967296)] 148)) (.slice (some ⟨w.heap.size,0,none⟩) 2 2) (Zq z.toNat):=by
 obtain ⟨n,rfl⟩:=JT (show 0≤z by omega);rw [JP,Ztj (by unfold B32;omega) (by unfold B32;omega)];have:=Y6.dig (Y6.new w [n % B32,n / B32]) (by simp [okD,B32];omega) (c:=2) (by simp) (by simp [maxLen]);simpa [uc,B32] using this
theorem Xd (z:Int) (w:World) (hz:0≤z) (hn:z≤18446744073709551615):
 Calls Tryz.prog 126 #[.int .u64 z] w fun e w'=>∃v',e= .returned v'∧Z6 w' v' (Zq z.toNat)∧Below w.heap.size w w':=by
 rcases Int.lt_or_eq_of_le hz with h0 | h0
 ·rcases Int.lt_or_le z 4294967296 with h1 | h1
  ·go_enter Tryz.func126,Tryz.ntmps126;go_wp2;go_ret;exact ⟨_,rfl,Yif w z h1 h0,(JR _ _).alloc (JY _) _⟩
  ·go_enter Tryz.func126,Tryz.ntmps126;go_wp2;go_ret;exact ⟨_,rfl,Yig w z h1 hn,(JR _ _).alloc (JY _) _⟩
 ·subst h0;go_enter Tryz.func126,Tryz.ntmps126;go_wp2;go_ret;exact ⟨_,rfl,by simp only [Int.toNat_zero,digs_zero];exact Z6.nil _ _ _ (by simp),JR _ _⟩
theorem below_drewN' (w:World) (n:Nat):Below w.heap.size w (w.drewN n):=⟨rfl,rfl,rfl,JY _,fun _ _=>rfl⟩
theorem u64_in (x:Int) (h0:0≤x) (h1:x≤18446744073709551615):IntKind.u64.wrap x=x:=by
 simp only [IntKind.wrap,IntKind.bits,IntKind.signed];simp;omega
theorem Zan {x y:Int} (x0:0≤x) (x1:x≤4294967295) (y0:0≤y) (y1:y≤4294967295):bits .or .u64 (y * 4294967296) x=y * 4294967296+x:=by
 obtain ⟨a,rfl⟩:=JT x0;obtain ⟨b,rfl⟩:=JT y0;have e:((b:Int) * 4294967296)=((b * 4294967296:Nat):Int):=by omega
 rw [e,u64_or_nat _ _ (by omega) (by omega)];have h:b * 4294967296 ||| a=b * 4294967296+a:=by
  have:=Nat.shiftLeft_add_eq_or_of_lt (i:=32) (b:=a) (by omega) b;rw [Nat.shiftLeft_eq,show (2:Nat)^32=4294967296 from rfl] at this;omega
 rw [h];omega
theorem Vi (v:Value) (n:Nat) (w:World) (h:Z6 w v (Zq n)) (hn:n < B32 * B32):
 Calls Tryz.prog 166 #[v] w fun e w'=>e= .returned (.int .u64 (n:Int))∧Below w.heap.size w w':=by
 obtain ⟨A,l,c,rfl⟩:=h.shape;obtain ⟨hl,d,k,hc⟩:=h.len;rcases JV n with h0 | h0
 ·subst h0;rw [digs_zero] at hl;obtain rfl:l=0:=by simpa using hl
  clear d;go_enter Tryz.func166,Tryz.ntmps166;go_wp2;go_ret;exact ⟨rfl,JR _ _⟩
 ·obtain ⟨b,m,rfl,_,a⟩:=h.at_ (by have:=Xx h0;omega);rcases JX n B32 with h1 | h1
  ·rw [Zgo h0 h1] at hl d a;obtain rfl:l=1:=by simp at hl d;omega
   have f:=a 0 (by omega);have e0:di [n] 0=(n:Int):=(by simp [di,dg]);rw [e0,Nat.add_zero] at f;have hh:(n:Int)≤4294967295:=(by unfold B32 at h1;omega);have j:0≤(n:Int):=(by omega);generalize (n:Int)=z at *;clear a h hn h1 hl d e0;go_enter Tryz.func166,Tryz.ntmps166;go_wp2;go_ret;exact ⟨rfl,JR _ _⟩
  ·rw [Ztj h1 hn] at hl d a;obtain rfl:l=2:=by simp at hl d;omega
   have f:=a 0 (by omega);have g:=a 1 (by omega);have e0:di [n % B32,n / B32] 0=((n % B32:Nat):Int):=(by simp [di,dg]);have e1:di [n % B32,n / B32] 1=((n / B32:Nat):Int):=(by simp [di,dg]);rw [e0,Nat.add_zero] at f;rw [e1] at g;obtain ⟨x,hx⟩:∃x:Int,x=((n % B32:Nat):Int):=⟨_,rfl⟩;obtain ⟨y,hy⟩:∃y:Int,y=((n / B32:Nat):Int):=⟨_,rfl⟩;rw [← hx] at f;rw [← hy] at g;have i:(n:Int)=y * 4294967296+x:=(by rw [hx,hy];unfold B32;omega);have x0:0≤x:=(by omega);have x1:x≤4294967295:=(by rw [hx];unfold B32;omega);have y0:0≤y:=(by omega);have y1:y≤4294967295:=(by rw [hy];unfold B32 at hn ⊢;omega);rw [i];clear a h hn h1 hl d e0 e1 hx hy i h0;have r1:IntKind.u64.wrap x=x:=u64_in x x0 (by omega);have r2:IntKind.u64.wrap y=y:=u64_in y y0 (by omega);have r3:IntKind.u64.wrap (y * 4294967296)=y * 4294967296:=u64_in _ (by omega) (by omega);have r4:=Zan x0 x1 y0 y1;go_enter Tryz.func166,Tryz.ntmps166;go_wp2
   go_quiet (fail)
   go_wp2;go_ret;exact ⟨rfl,below_drewN' _ _⟩
theorem VT {k:IntKind} {a b:Int} (h:a=b):Ending.returned (.int k a)= .returned (.int k b):=by rw [h]
theorem Zyu {a b l:Nat} {z:Int} (h1:(Zq a).length=l) (h2:(Zq b).length=l) (h3: -1≤z) (h4:z < 0) (h:∀i:Nat,z < i→dg (Zq a) i=dg (Zq b) i):0=cmpN a b:=by
 rw [Zra];exact Ydk (Zct (by omega) (fun j=>h j (by omega)))
theorem Ztl {a b l j:Nat} (h1:(Zq a).length=l) (h2:(Zq b).length=l) (h:∀i:Nat,(j:Int) < i→dg (Zq a) i=dg (Zq b) i) (g:dg (Zq a) j < dg (Zq b) j):cmpN a b= -1:=by
 refine UQ ?_;have:=Zcs (Yj a) (by omega) (fun i hi=>h i (by omega)) g
 rwa [Zm,Zm] at this
theorem Ztm {a b l j:Nat} (h1:(Zq a).length=l) (h2:(Zq b).length=l) (h:∀i:Nat,(j:Int) < i→dg (Zq a) i=dg (Zq b) i) (g:dg (Zq b) j < dg (Zq a) j):cmpN a b=1:=by
 refine Zhd ?_;have:=Zcs (Yj b) (by omega) (fun i hi=>(h i (by omega)).symm) g
 rwa [Zm,Zm] at this
theorem Yq (v1 v2:Value) (a b:Nat) (w:World) (h1:Z6 w v1 (Zq a)) (h2:Z6 w v2 (Zq b)):
 Calls Tryz.prog 135 #[v1,v2] w fun e w'=>e= .returned (.int .i64 (cmpN a b))∧Below w.heap.size w w':=by
 obtain ⟨A,l,c,rfl⟩:=h1.shape;obtain ⟨hl,p,r,hc⟩:=h1.len;obtain ⟨A2,l2,c2,rfl⟩:=h2.shape;obtain ⟨kl,s,t,kc⟩:=h2.len;rcases Nat.lt_trichotomy l l2 with hlt | heq | hgt
 ·have e:cmpN a b= -1:=UQ (Zcq (by omega));rw [e];go_enter Tryz.func135,Tryz.ntmps135;go_wp2;go_ret;exact ⟨rfl,JR _ _⟩
 ·subst heq;go_enter Tryz.func135,Tryz.ntmps135;go_wp2
  go_loopw [5] (fun x wr=>∃(z:Int) (q:Nat),-1≤z∧z < l∧x= .int .i64 z∧wr=w.drewN q∧∀i:Nat,z < i→dg (Zq a) i=dg (Zq b) i) (fun x _=>(intOf x+1).toNat)
  case atStart=>exact ⟨(l:Int) - 1,0,by omega,by omega,rfl,rfl,fun i hi=>by rw [Vo (by omega),Vo (by omega)]⟩
  case round=>
   obtain ⟨z,q,h,hk,rfl,rfl,hz⟩:=hrel;have HZ:=JZ hz;clear hz;rcases Int.lt_or_le z 0 with h0 | h0
   ·go_wp2;go_ret;exact ⟨VT (Zyu (l:=l) (by omega) (by omega) h h0 HZ.out),below_drewN' _ _⟩
   ·obtain ⟨j,rfl⟩:=JT h0;obtain ⟨b1,k,rfl,_,d⟩:=h1.at_ (by omega);obtain ⟨b2,m,rfl,_,f⟩:=h2.at_ (by omega);have n:=d j (by omega);have o:=f j (by omega);clear d f;rcases Nat.lt_trichotomy (dg (Zq a) j) (dg (Zq b) j) with g | g | g
    ·have t1:(di (Zq a) j !=di (Zq b) j)=true:=(by simp [di];omega);have t2:decide (di (Zq a) j < di (Zq b) j)=true:=(by simp [di];omega);have HG:=JZ g;clear g;go_wp2
     go_quiet (fail)
     go_wp2
     go_quiet (fail)
     go_wp2;go_ret;exact ⟨VT (Ztl (l:=l) (by omega) (by omega) HZ.out HG.out).symm,by simp only [World.drewN_drewN];exact below_drewN' _ _⟩
    ·have t1:(di (Zq a) j !=di (Zq b) j)=false:=(by simp [di];omega);have HG:=JZ g;clear g;go_wp2
     go_quiet (fail)
     go_wp2;go_roundw
     case rel=>exact ⟨(j:Int) - 1,q+nq,by omega,by omega,rfl,rfl,fun i hi=>by
      rcases Nat.eq_or_lt_of_le (show j≤i by omega) with e | e
      ·exact e▸HG.out
      ·exact HZ.out i (by omega)⟩
     case measure=>simp [intOf]
    ·have t1:(di (Zq a) j !=di (Zq b) j)=true:=(by simp [di];omega);have t2:decide (di (Zq a) j < di (Zq b) j)=false:=(by simp [di];omega);have HG:=JZ g;clear g;go_wp2
     go_quiet (fail)
     go_wp2
     go_quiet (fail)
     go_wp2;go_ret;exact ⟨VT (Ztm (l:=l) (by omega) (by omega) HZ.out HG.out).symm,by simp only [World.drewN_drewN];exact below_drewN' _ _⟩
 ·have e:cmpN a b=1:=Zhd (Zcq (by omega));rw [e];go_enter Tryz.func135,Tryz.ntmps135;go_wp2;go_ret;exact ⟨rfl,JR _ _⟩
theorem We {w wr:World} {B b off n:Nat} {ds:List Nat} (hb:Below B w wr) (hlt:b < B) (h:∀k,k < n→w.cell? ⟨b,off+k,none⟩=some (.int .u32 (di ds k))) {k:Nat} (hk:k < n):
 wr.cell? ⟨b,off+k,none⟩=some (.int .u32 (di ds k)):=(hb.cell (p:=⟨b,off+k,none⟩) hlt).trans (h k hk)
theorem Zyv {O xs ys:List Nat} {k:Nat} {z:Int} (_hkl:k ≥ k) (hO:k+1≤O.length) (hO':O.length≤k+1) (z0:0≤z) (hx:xs.length≤k) (hy:ys.length≤k)
 (h:(vt O k:Int)+z * ((B32^k:Nat):Int)=vt xs k+vt ys k):val (O.set k z.toNat)=val xs+val ys:=by
 have e:=Xy (ds:=O) (k:=k) (by omega) z0;rw [X8 (by simpa using hO'),h,X8 hx,X8 hy] at e;omega
theorem Zyw (v1 v2:Value) (xs ys:List Nat) (w:World) (h1:Z6 w v1 xs) (h2:Z6 w v2 ys) (hle:ys.length≤xs.length) (hs:xs.length≤549755813888):
 Calls Tryz.prog 151 #[v1,v2] w fun e w'=>∃v',e= .returned v'∧Z6 w' v' (Zq (val xs+val ys))∧Below w.heap.size w w':=by
 obtain ⟨A,l,c,rfl⟩:=h1.shape;obtain ⟨hl,r,s,hc⟩:=h1.len;obtain ⟨A2,l2,c2,rfl⟩:=h2.shape;obtain ⟨kl,t,u,kc⟩:=h2.len;have o:l2≤l:=by omega
 have g:=Y8 (l+1) (by omega)
 push_cast at g
 go_enter Tryz.func151,Tryz.ntmps151;go_wp2;clear g
 go_loopw [6,22] (fun cy i wr=>∃(k:Nat) (O:List Nat) (z:Int),k≤l∧i= .int .i64 k∧cy= .int .u64 z∧0≤z∧z≤1∧l+1≤O.length∧O.length≤l+1∧Y6 wr w.heap.size O∧okD O∧Below w.heap.size w wr∧
  (vt O k:Int)+z * ((B32^k:Nat):Int)=vt xs k+vt ys k) (fun _ i _=>l - (intOf i).toNat)
 case atStart=>exact ⟨0,List.replicate (l+1) 0,0,by omega,rfl,rfl,by omega,by omega,by simp,by simp,Y6.zeros w _,ZR _,(JR _ _).alloc (JY _) _,by simp [Xg]⟩
 case round=>
  obtain ⟨k,O,z,hk,rfl,rfl,z0,z1,hO,f,hB,ok,d,h⟩:=hrel;have HE:=JZ h;clear h;rcases JX k l with hkl | hkl
  ·obtain ⟨b1,p,rfl,m,a⟩:=h1.at_ (by omega);have hx:=We d m a hkl;have x0:=Zu xs k;have x1:=Yu h1.ok k;have ho:=hB.cell (k:=k) (by omega);have hf:=hB.frozen k;clear a;rcases JX k l2 with hk2 | hk2
   ·obtain ⟨b2,q,rfl,n,b⟩:=h2.at_ (by omega);have hy:=We d n b hk2;have y0:=Zu ys k;have y1:=Yu h2.ok k;clear b;go_wp2;go_roundw
    case rel=>exact ⟨k+1,O.set k ((z+di xs k+di ys k) % 4294967296).toNat,_,by omega,by go_num,rfl,by omega,by omega,by simpa using hO,by simpa using f,hB.setI k (by omega),ZT ok k (by unfold B32;omega),d.setCell (JY _) _,Ug (by omega) z0 rfl HE.out⟩
    case measure=>simp [intOf];omega
   ·have hy:0=di ys k:=(by rw [YE,Vo (by omega)];rfl);have HY:=JZ hy;clear hy;go_wp2;go_roundw
    case rel=>exact ⟨k+1,O.set k ((z+di xs k) % 4294967296).toNat,_,by omega,by go_num,rfl,by omega,by omega,by simpa using hO,by simpa using f,hB.setI k (by omega),ZT ok k (by unfold B32;omega),d.setCell (JY _) _,by have:=Ug (by omega) z0 HY.out HE.out;simpa using this⟩
    case measure=>simp [intOf];omega
  ·obtain rfl:k=l:=by omega
   have ho:=hB.cell (k:=k) (by omega);have hf:=hB.frozen k;have j:=hB.setI k z0;go_wp2_with fail;refine (Yg _ (O.set k z.toNat) _ ?_).mono ?_
   ·have:=j.dig (ZT ok k (by unfold B32;omega)) (c:=k+1) (by simpa using f) (by unfold maxLen;omega)
    rwa [show (O.set k z.toNat).length=k+1 from by simp;omega] at this
   rintro e w1 ⟨v',rfl,hv,rfl⟩;go_wp2_with fail;go_ret;refine ⟨_,rfl,?_,d.setCell (JY _) _⟩
   rwa [Zyv hkl hO f z0 (by omega) (by omega) HE.out] at hv
theorem Zyx (v1 v2:Value) (xs ys:List Nat) (w:World) (h1:Z6 w v1 xs) (h2:Z6 w v2 ys) (hle:ys.length < xs.length) (hs:xs.length≤549755813888):
 Calls Tryz.prog 151 #[v2,v1] w fun e w'=>∃v',e= .returned v'∧Z6 w' v' (Zq (val xs+val ys))∧Below w.heap.size w w':=by
 obtain ⟨A,l,c,rfl⟩:=h1.shape;obtain ⟨hl,r,s,hc⟩:=h1.len;obtain ⟨A2,l2,c2,rfl⟩:=h2.shape;obtain ⟨kl,t,u,kc⟩:=h2.len;have o:l2 < l:=by omega
 have g:=Y8 (l+1) (by omega)
 push_cast at g
 go_enter Tryz.func151,Tryz.ntmps151;go_wp2;clear g
 go_loopw [6,22] (fun cy i wr=>∃(k:Nat) (O:List Nat) (z:Int),k≤l∧i= .int .i64 k∧cy= .int .u64 z∧0≤z∧z≤1∧l+1≤O.length∧O.length≤l+1∧Y6 wr w.heap.size O∧okD O∧Below w.heap.size w wr∧
  (vt O k:Int)+z * ((B32^k:Nat):Int)=vt xs k+vt ys k) (fun _ i _=>l - (intOf i).toNat)
 case atStart=>exact ⟨0,List.replicate (l+1) 0,0,by omega,rfl,rfl,by omega,by omega,by simp,by simp,Y6.zeros w _,ZR _,(JR _ _).alloc (JY _) _,by simp [Xg]⟩
 case round=>
  obtain ⟨k,O,z,hk,rfl,rfl,z0,z1,hO,f,hB,ok,d,h⟩:=hrel;have HE:=JZ h;clear h;rcases JX k l with hkl | hkl
  ·obtain ⟨b1,p,rfl,m,a⟩:=h1.at_ (by omega);have hx:=We d m a hkl;have x0:=Zu xs k;have x1:=Yu h1.ok k;have ho:=hB.cell (k:=k) (by omega);have hf:=hB.frozen k;clear a;rcases JX k l2 with hk2 | hk2
   ·obtain ⟨b2,q,rfl,n,b⟩:=h2.at_ (by omega);have hy:=We d n b hk2;have y0:=Zu ys k;have y1:=Yu h2.ok k;clear b;go_wp2;go_roundw
    case rel=>exact ⟨k+1,O.set k ((z+di xs k+di ys k) % 4294967296).toNat,_,by omega,by go_num,rfl,by omega,by omega,by simpa using hO,by simpa using f,hB.setI k (by omega),ZT ok k (by unfold B32;omega),d.setCell (JY _) _,Ug (by omega) z0 rfl HE.out⟩
    case measure=>simp [intOf];omega
   ·have hy:0=di ys k:=(by rw [YE,Vo (by omega)];rfl);have HY:=JZ hy;clear hy;go_wp2;go_roundw
    case rel=>exact ⟨k+1,O.set k ((z+di xs k) % 4294967296).toNat,_,by omega,by go_num,rfl,by omega,by omega,by simpa using hO,by simpa using f,hB.setI k (by omega),ZT ok k (by unfold B32;omega),d.setCell (JY _) _,by have:=Ug (by omega) z0 HY.out HE.out;simpa using this⟩
    case measure=>simp [intOf];omega
  ·obtain rfl:k=l:=by omega
   have ho:=hB.cell (k:=k) (by omega);have hf:=hB.frozen k;have j:=hB.setI k z0;go_wp2_with fail;refine (Yg _ (O.set k z.toNat) _ ?_).mono ?_
   ·have:=j.dig (ZT ok k (by unfold B32;omega)) (c:=k+1) (by simpa using f) (by unfold maxLen;omega)
    rwa [show (O.set k z.toNat).length=k+1 from by simp;omega] at this
   rintro e w1 ⟨v',rfl,hv,rfl⟩;go_wp2_with fail;go_ret;refine ⟨_,rfl,?_,d.setCell (JY _) _⟩
   rwa [Zyv hkl hO f z0 (by omega) (by omega) HE.out] at hv
theorem Zeo (v1 v2:Value) (xs ys:List Nat) (w:World) (h1:Z6 w v1 xs) (h2:Z6 w v2 ys) (hx:xs.length≤549755813888) (hy:ys.length≤549755813888):
 Calls Tryz.prog 151 #[v1,v2] w fun e w'=>∃v',e= .returned v'∧Z6 w' v' (Zq (val xs+val ys))∧Below w.heap.size w w':=by
 rcases JX xs.length ys.length with h | h
 ·rw [Nat.add_comm];exact Zyx v2 v1 ys xs w h2 h1 h hy
 ·exact Zyw v1 v2 xs ys w h1 h2 h hx
theorem Zao (v1 v2:Value) (xs ys:List Nat) (w:World) (h1:Z6 w v1 xs) (h2:Z6 w v2 ys) (hle:val ys≤val xs) (hlen:ys.length≤xs.length) (hs:xs.length≤549755813888):
 Calls Tryz.prog 152 #[v1,v2] w fun e w'=>∃v',e= .returned v'∧Z6 w' v' (Zq (val xs - val ys))∧Below w.heap.size w w':=by
 have HL:=JZ hle;clear hle;obtain ⟨A,l,c,rfl⟩:=h1.shape;obtain ⟨hl,p,q,hc⟩:=h1.len;obtain ⟨A2,l2,c2,rfl⟩:=h2.shape;obtain ⟨kl,r,s,kc⟩:=h2.len;have h:=Y8 l (by omega);go_enter Tryz.func152,Tryz.ntmps152;go_wp2;clear h
 go_loopw [6,15] (fun cy i wr=>∃(k:Nat) (O:List Nat) (z:Int),k≤l∧i= .int .i64 k∧cy= .int .i64 z∧0≤z∧z≤1∧l≤O.length∧O.length≤l∧Y6 wr w.heap.size O∧okD O∧Below w.heap.size w wr∧
  (vt O k:Int) - z * ((B32^k:Nat):Int)=vt xs k - vt ys k) (fun _ i _=>l - (intOf i).toNat)
 case atStart=>exact ⟨0,List.replicate l 0,0,by omega,rfl,rfl,by omega,by omega,by simp,by simp,Y6.zeros w _,ZR _,(JR _ _).alloc (JY _) _,by simp [Xg]⟩
 case round=>
  obtain ⟨k,O,z,hk,rfl,rfl,z0,z1,hO,f,hB,ok,a,g⟩:=hrel;have HE:=JZ g;clear g;rcases JX k l with hkl | hkl
  ·obtain ⟨b1,n,rfl,j,b⟩:=h1.at_ (by omega);have hx:=We a j b hkl;have x0:=Zu xs k;have x1:=Yu h1.ok k;have ho:=hB.cell (k:=k) (by omega);have hf:=hB.frozen k;clear b;rcases JX k l2 with hk2 | hk2
   ·obtain ⟨b2,o,rfl,m,d⟩:=h2.at_ (by omega);have hy:=We a m d hk2;have y0:=Zu ys k;have y1:=Yu h2.ok k;clear d;go_wp2
    ·go_roundw
     case rel=>exact ⟨k+1,O.set k ((di xs k - z - di ys k) % 4294967296).toNat,1,by omega,by go_num,rfl,by omega,by omega,by simpa using hO,by simpa using f,hB.setI k (by omega),ZT ok k (by unfold B32;omega),a.setCell (JY _) _,Zcp (by omega) rfl (by omega) (by omega) HE.out⟩
     case measure=>simp [intOf];omega
    ·go_roundw
     case rel=>exact ⟨k+1,O.set k (di xs k - z - di ys k).toNat,0,by omega,by go_num,rfl,by omega,by omega,by simpa using hO,by simpa using f,hB.setI k (by omega),ZT ok k (by unfold B32;omega),a.setCell (JY _) _,Zcp (by omega) rfl (by omega) (by omega) HE.out⟩
     case measure=>simp [intOf];omega
   ·have hy:0=di ys k:=(by rw [YE,Vo (by omega)];rfl);have HY:=JZ hy;clear hy;go_wp2
    ·go_roundw
     case rel=>exact ⟨k+1,O.set k ((di xs k - z) % 4294967296).toNat,1,by omega,by go_num,rfl,by omega,by omega,by simpa using hO,by simpa using f,hB.setI k (by omega),ZT ok k (by unfold B32;omega),a.setCell (JY _) _,Zcp (by omega) HY.out (by omega) (by omega) HE.out⟩
     case measure=>simp [intOf];omega
    ·go_roundw
     case rel=>exact ⟨k+1,O.set k (di xs k - z).toNat,0,by omega,by go_num,rfl,by omega,by omega,by simpa using hO,by simpa using f,hB.setI k (by omega),ZT ok k (by unfold B32;omega),a.setCell (JY _) _,Zcp (by omega) HY.out (by omega) (by omega) HE.out⟩
     case measure=>simp [intOf];omega
  ·obtain rfl:k=l:=by omega
   go_wp2_with fail;refine (Yg _ O _ ?_).mono ?_
   ·have:=hB.dig ok (c:=k) f (by unfold maxLen;omega)
    rwa [show O.length=k from by omega] at this
   rintro e w1 ⟨v',rfl,hv,rfl⟩;go_wp2_with fail;go_ret;refine ⟨_,rfl,?_,a⟩
   rwa [Zyt (show O.length=k by omega) ok z0 (by omega) (by omega) HL.out HE.out] at hv
end Go.Proofs.YtgbhebappffbdaaGreat
namespace Go.Proofs.YtgbhebappffbdaaGreat
open Go.RowKit
open Pl
attribute [local go_sem ↓] Go.wp_at_zero Go.wp_at_succ
namespace Pl
theorem Ydm {V1 V2 o p b x d:Nat} (h:V1+o * p=V2+d * p):x+b * V1+o * (p * b)=x+b * V2+d * (p * b):=by
 have h1:b * (V1+o * p)=b * (V2+d * p):=by rw [h]
 rw [Nat.mul_add,Nat.mul_add] at h1;have e1:o * (p * b)=b * (o * p):=by rw [← Nat.mul_assoc,Nat.mul_comm]
 have e2:d * (p * b)=b * (d * p):=by rw [← Nat.mul_assoc,Nat.mul_comm]
 omega
theorem Zhe {ds:List Nat} {i:Nat} {z:Int} (h:i < ds.length) (hz:0≤z):((val (ds.set i z.toNat):Nat):Int)=val ds+(z - di ds i) * ((B32^i:Nat):Int):=by
 have e:∀(l:List Nat) (i d:Nat),i < l.length→val (l.set i d)+dg l i * B32^i=val l+d * B32^i:=by
  intro l
  induction l with
  | nil=>intro i d h;simp at h
  | cons x l ih=>
   intro i d h
   cases i with
   | zero=>simp [val,dg];omega
   | succ i=>
    have:=ih i d (by simpa using h);have e1:dg (x::l) (i+1)=dg l i:=(by simp [dg]);rw [List.set_cons_succ,e1];simp only [val,Nat.pow_succ];generalize B32^i=p at *;generalize B32=b at *;generalize val (l.set i d)=V1 at *;generalize val l=V2 at *;generalize dg l i=o at *;exact Ydm this
 have h1:=e ds i z.toNat h;have h2:((val (ds.set i z.toNat):Nat):Int)+di ds i * ((B32^i:Nat):Int)=val ds+z * ((B32^i:Nat):Int):=by
  have:=congrArg (fun n:Nat=>(n:Int)) h1;simp only [Int.natCast_add,Int.natCast_mul,Int.toNat_of_nonneg hz] at this;exact this
 rw [Int.sub_mul];omega
theorem Ydn (V V0 o r z q d f p pk pj yj:Int) (h:V+z * p=V0+d * pk * yj) (e:z+(d * f+o)=r+4294967296 * q) (hp:p=pk * pj):V+(r - o) * p+q * (p * 4294967296)=V0+d * pk * (yj+f * pj):=by
 subst hp;grind
theorem Ztn {O ys:List Nat} {k j:Nat} {z d r q V0:Int} (hk:k+j < O.length) (hr:0≤r) (e:z+(d * di ys j+di O (k+j))=r+4294967296 * q)
 (h:(val O:Int)+z * ((B32^(k+j):Nat):Int)=V0+d * ((B32^k:Nat):Int) * vt ys j):
 (val (O.set (k+j) r.toNat):Int)+q * ((B32^(k+(j+1)):Nat):Int)=V0+d * ((B32^k:Nat):Int) * vt ys (j+1):=by
 rw [Zhe hk hr,← Nat.add_assoc,YW,Yd];exact Ydn _ _ _ _ _ _ _ _ _ _ _ _ h e (by rw [Nat.pow_add,Int.natCast_mul])
theorem Zyy {O ys:List Nat} {k:Nat} {z d V0:Int} (hk:k+ys.length < O.length) (hz:0≤z) (h0:dg O (k+ys.length)=0)
 (h:(val O:Int)+z * ((B32^(k+ys.length):Nat):Int)=V0+d * ((B32^k:Nat):Int) * vt ys ys.length):
 (val (O.set (k+ys.length) z.toNat):Int)=V0+d * ((B32^k:Nat):Int) * val ys:=by
 rw [Zhe hk hz,YE,h0,← Ygs ys,← h];simp
theorem Zhf {xs ys:List Nat} {k:Nat} {V V':Int} (h:V=(vt xs k:Int) * val ys) (h':V'=V+di xs k * ((B32^k:Nat):Int) * val ys):V'=(vt xs (k+1):Int) * val ys:=by
 rw [h',h,Yd,Int.add_mul]
theorem Zlp (ds:List Nat) (j:Nat):val (ds.drop j)=dg ds j+B32 * val (ds.drop (j+1)):=by
 rcases JX j ds.length with h | h
 ·rw [List.drop_eq_getElem_cons h];have:ds[j]=dg ds j:=by simp [dg,h]
  rw [this];rfl
 ·rw [List.drop_eq_nil_of_le h,List.drop_eq_nil_of_le (by omega),Vo h];simp [val]
theorem Zyz (x V Q r d b q m:Nat) (h:V=d * Q+r) (e:r * b+x=d * q+m):x+b * V=d * (q+b * Q)+m:=by
 subst h;have e1:b * (d * Q+r)=d * (b * Q)+r * b:=by
  rw [Nat.mul_add,Nat.mul_left_comm,Nat.mul_comm b r]
 rw [e1,Nat.mul_add];omega
theorem Zza {ds Q:List Nat} {j r d:Nat} (hj:j < Q.length) (h:val (ds.drop (j+1))=d * val (Q.drop (j+1))+r):
 val (ds.drop j)=d * val ((Q.set j ((r * B32+dg ds j) / d)).drop j)+(r * B32+dg ds j) % d:=by
 rw [Zlp,Zlp (Q.set j _) j,UM hj,List.drop_set_of_lt (by omega)];exact Zyz _ _ _ _ _ _ _ _ h (Nat.div_add_mod _ _).symm
end Pl
theorem VZ {w w1:World} (h:Below w.drew.heap.size w.drew w1):Below w.heap.size w w1:=((JR _ w).drew).trans h
theorem Zvx (v1 v2:Value) (xs ys:List Nat) (w:World) (h1:Z6 w v1 xs) (h2:Z6 w v2 ys) (h0:xs.length=0∨ys.length=0):
 Calls Tryz.prog 136 #[v1,v2] w fun e w'=>∃v',e= .returned v'∧Z6 w' v' (Zq (val xs * val ys))∧Below w.heap.size w w':=by
 have e0:val xs * val ys=0:=by
  rcases h0 with h | h
  ·rw [List.length_eq_zero_iff.1 h];simp [val]
  ·rw [List.length_eq_zero_iff.1 h];simp [val]
 rw [e0,digs_zero];clear e0;obtain ⟨A,l,c,rfl⟩:=h1.shape;obtain ⟨hl,a,b,hc⟩:=h1.len;obtain ⟨A2,l2,c2,rfl⟩:=h2.shape;obtain ⟨kl,d,f,kc⟩:=h2.len;rcases JV l with g | g
 ·obtain rfl:l=0:=g;go_enter Tryz.func136,Tryz.ntmps136;go_wp2;go_ret;exact ⟨_,rfl,Z6.nil _ _ _ (by simp),JR _ _⟩
 ·obtain rfl:l2=0:=by omega
  have hb:((l:Int)==0)=false:=by simp;omega
  go_enter Tryz.func136,Tryz.ntmps136;go_wp2;go_ret;exact ⟨_,rfl,Z6.nil _ _ _ (by simp),JR _ _⟩
theorem Zvy (v1 v2:Value) (xs ys:List Nat) (w:World) (h1:Z6 w v1 xs) (h2:Z6 w v2 ys) (g1:xs.length=1) (g2:ys.length=1):
 Calls Tryz.prog 136 #[v1,v2] w fun e w'=>∃v',e= .returned v'∧Z6 w' v' (Zq (val xs * val ys))∧Below w.heap.size w w':=by
 obtain ⟨x,rfl⟩:=List.length_eq_one_iff.1 g1;obtain ⟨y,rfl⟩:=List.length_eq_one_iff.1 g2;obtain ⟨A,l,c,rfl⟩:=h1.shape;obtain ⟨hl,f,k,hc⟩:=h1.len;obtain ⟨A2,l2,c2,rfl⟩:=h2.shape;obtain ⟨kl,g,m,kc⟩:=h2.len;obtain rfl:l=1:=by simp at hl f;omega
 obtain rfl:l2=1:=by simp at kl g;omega
 obtain ⟨b1,h,rfl,n,a⟩:=h1.at_ (by omega);obtain ⟨b2,i,rfl,o,b⟩:=h2.at_ (by omega);have hx:=a 0 (by omega);have hy:=b 0 (by omega);rw [Nat.add_zero] at hx hy;have x0:=Zu [x] 0;have x1:=Yu h1.ok 0;have y0:=Zu [y] 0;have y1:=Yu h2.ok 0;have hv:val [x] * val [y]=(di [x] 0 * di [y] 0).toNat:=by
  have:di [x] 0 * di [y] 0=((x * y:Nat):Int):=by simp [di,dg]
  rw [this,JP];simp [val]
 rw [hv];clear a b hl f kl g h1 h2 hv;generalize di [x] 0=p at *;generalize di [y] 0=q at *;have p0:0≤p * q:=Int.mul_nonneg x0 y0;have p1:p * q≤4294967295 * 4294967295:=Int.mul_le_mul x1 y1 y0 (by omega);have r1:IntKind.u64.wrap p=p:=u64_in p x0 (by omega);have r2:IntKind.u64.wrap q=q:=u64_in q y0 (by omega);have r3:IntKind.u64.wrap (p * q)=p * q:=u64_in _ p0 (by omega);go_enter Tryz.func136,Tryz.ntmps136;go_wp2
 go_region_held3 (fun w'=>w'.cell? ⟨b1,h,none⟩=some (.int .u32 p)∧w'.cell? ⟨b2,i,none⟩=some (.int .u32 q)) (first | exact ⟨hx,hy⟩ | exact ⟨cell_later d hx,cell_later d hy⟩)
  (first | (go_at_call 126;refine (Xd (p * q) _ p0 (by omega)).mono ?_;rintro e w1 ⟨v',rfl,j,d⟩))
 go_wp2;go_ret;exact ⟨_,rfl,j,VZ d⟩
theorem Zzb {O xs ys:List Nat} {k:Nat} (hk:xs.length≤k) (h:(val O:Int)=(vt xs k:Int) * val ys):val O=val xs * val ys:=by
 rw [X8 hk,← Int.natCast_mul] at h;omega
theorem Zkd {O ys:List Nat} {k j:Nat} {z d V0:Int} (hj:ys.length=j) (hk:k+j < O.length) (hz:0≤z) (h0:dg O (k+j)=0)
 (h:(val O:Int)+z * ((B32^(k+j):Nat):Int)=V0+d * ((B32^k:Nat):Int) * vt ys j):(val (O.set (k+j) z.toNat):Int)=V0+d * ((B32^k:Nat):Int) * val ys:=by
 subst hj;exact Zyy hk hz h0 h
theorem Zvz (v1 v2:Value) (xs ys:List Nat) (w:World) (h1:Z6 w v1 xs) (h2:Z6 w v2 ys) (g1:0 < xs.length) (g2:0 < ys.length) (g:2 < xs.length+ys.length) (hs:xs.length+ys.length≤1099511627776):
 Calls Tryz.prog 136 #[v1,v2] w fun e w'=>∃v',e= .returned v'∧Z6 w' v' (Zq (val xs * val ys))∧Below w.heap.size w w':=by
 obtain ⟨A,l,c,rfl⟩:=h1.shape;obtain ⟨hl,K,L,hc⟩:=h1.len;obtain ⟨A2,l2,c2,rfl⟩:=h2.shape;obtain ⟨kl,M,N,kc⟩:=h2.len;obtain ⟨b1,I,rfl,F,a⟩:=h1.at_ (by omega);obtain ⟨b2,J,rfl,G,b⟩:=h2.at_ (by omega);have B:=h1.ok;have C:=h2.ok;have D:=JZ a;have E:=JZ b;clear a b h1 h2;have s:=Y8 (l+l2) (by omega)
 push_cast at s
 have t1:((l:Int)==0)=false:=by simp;omega
 have t2:((l2:Int)==0)=false:=by simp;omega
 have t:((l:Int)==1)=true∧((l2:Int)==1)=false∨((l:Int)==1)=false:=by
  by_cases h:l=1
  ·left;subst h;simp;omega
  ·right;simp;omega
 rcases t with ⟨t3,t4⟩ | t3;all_goals
  go_enter Tryz.func136,Tryz.ntmps136;go_wp2;clear s
  go_loopw [46] (fun i wr=>∃(k:Nat) (O:List Nat),k≤l∧i= .int .i64 k∧l+l2≤O.length∧O.length≤l+l2∧Y6 wr w.heap.size O∧okD O∧Below w.heap.size w wr∧
   (val O:Int)=(vt xs k:Int) * val ys∧(∀j,k+l2≤j→dg O j=0)) (fun i _=>l - (intOf i).toNat)
  case atStart=>exact ⟨0,List.replicate (l+l2) 0,by omega,rfl,by simp,by simp,Y6.zeros w _,ZR _,(JR _ _).alloc (JY _) _,by simp [Xg,Wd],fun j _=>VH _ _⟩
  case round=>
   obtain ⟨k,O,hk,rfl,hO,q,hB,ok,f,v,x⟩:=hrel;have HE:=JZ v;have HZ:=JZ x;clear v x;rcases JX k l with hkl | hkl
   ·have hx:=We f F D.out hkl;have x0:=Zu xs k;have x1:=Yu B k;by_cases hd:dg xs k=0
    ·have t5:=Zbp hd;have HD:=JZ hd;clear hd;go_wp2;go_roundw
     case rel=>exact ⟨k+1,O,by omega,by go_num,hO,q,hB,ok,f,Zhf HE.out (by rw [YE,HD.out];simp),fun j hj=>HZ.out j (by omega)⟩
     case measure=>simp [intOf];omega
    ·have t5:=UN hd;clear hd;obtain ⟨wo,H⟩:∃wo:World,wo=wr:=⟨_,rfl⟩;subst H;go_wp2
     go_loopw [8,68] (fun cy i wr=>∃(j:Nat) (O':List Nat) (z:Int),j≤l2∧i= .int .i64 j∧cy= .int .u64 z∧0≤z∧z≤4294967295∧l+l2≤O'.length∧O'.length≤l+l2∧Y6 wr w.heap.size O'∧okD O'∧Below w.heap.size w wr∧
      (val O':Int)+z * ((B32^(k+j):Nat):Int)=(val O:Int)+di xs k * ((B32^k:Nat):Int) * vt ys j∧(∀i,k+l2≤i→dg O' i=0)) (fun _ i _=>l2 - (intOf i).toNat)
     case atStart=>exact ⟨0,O,0,by omega,rfl,rfl,by omega,by omega,hO,q,hB,ok,f,by simp [Xg],HZ.out⟩
     case round=>
      clear hx f hB;obtain ⟨j,O',z,hj,rfl,rfl,z0,z1,hP,y,d,r,m,n,o⟩:=hrel;have u:=JZ n;have p:=JZ o;clear n o;rcases JX j l2 with hjl | hjl
      ·have hy:=We m G E.out hjl;have y0:=Zu ys j;have y1:=Yu C j;have p0:0≤di xs k * di ys j:=Int.mul_nonneg x0 y0;have p1:di xs k * di ys j≤4294967295 * 4294967295:=Int.mul_le_mul x1 y1 y0 (by omega);have ho:=d.cell (k:=k+j) (by omega);have hf:=d.frozen (k+j);have o0:=Zu O' (k+j);have o1:=Yu r (k+j);go_wp2;go_roundw
       case rel=>exact ⟨j+1,O'.set (k+j) ((z+(di xs k * di ys j+di O' (k+j))) % 4294967296).toNat,_,by omega,by go_num,rfl,by omega,by omega,by simpa using hP,by simpa using y,d.setI _ (by omega),ZT r _ (by unfold B32;omega),m.setCell (JY _) _,Ztn (by omega) (by omega) (by omega) u.out,fun i hi=>by rw [Yt (by omega)];exact p.out i hi⟩
       case measure=>simp [intOf];omega
      ·obtain rfl:j=l2:=by omega
       have ho:=d.cell (k:=k+j) (by omega);have hf:=d.frozen (k+j);go_wp2;go_roundw
       case rel=>exact ⟨k+1,O'.set (k+j) z.toNat,by omega,by go_num,by simpa using hP,by simpa using y,d.setI _ (by omega),ZT r _ (by unfold B32;omega),m.setCell (JY _) _,Zhf HE.out (Zkd (by omega) (by omega) z0 (p.out _ (JY _)) u.out),fun i hi=>by rw [Yt (by omega)];exact p.out i (by omega)⟩
       case measure=>simp [intOf];omega
   ·obtain rfl:k=l:=by omega
    go_wp2_with fail;refine (Yg _ O _ ?_).mono ?_
    ·have:=hB.dig ok (c:=k+l2) q (by unfold maxLen;omega)
     rwa [show O.length=k+l2 from by omega] at this
    rintro e w1 ⟨v',rfl,hv,rfl⟩;go_wp2_with fail;go_ret;refine ⟨_,rfl,?_,f⟩
    rwa [Zzb (by omega) HE.out] at hv
theorem Zwa (v1 v2:Value) (xs ys:List Nat) (w:World) (h1:Z6 w v1 xs) (h2:Z6 w v2 ys) (hs:xs.length+ys.length≤1099511627776):
 Calls Tryz.prog 136 #[v1,v2] w fun e w'=>∃v',e= .returned v'∧Z6 w' v' (Zq (val xs * val ys))∧Below w.heap.size w w':=by
 by_cases h:xs.length=0∨ys.length=0
 ·exact Zvx v1 v2 xs ys w h1 h2 h
 ·by_cases g:xs.length=1∧ys.length=1
  ·exact Zvy v1 v2 xs ys w h1 h2 g.1 g.2
  ·exact Zvz v1 v2 xs ys w h1 h2 (by omega) (by omega) (by omega) hs
section
namespace Pl
theorem Ydr {U V V' U' q v1 top P:Nat} (hV:V=v1 * P+V') (hU:U=top * P+U') (hU':U' < P) (hq:q * V≤U) (h1:0 < v1):q≤top / v1:=by
 rw [Nat.le_div_iff_mul_le h1];have a1:q * (v1 * P)≤q * V:=Nat.mul_le_mul_left _ (by omega);have a2:q * v1 * P < (top+1) * P:=by
  rw [Nat.mul_assoc,Nat.add_mul,Nat.one_mul];omega
 have:=Nat.lt_of_mul_lt_mul_right a2;omega
theorem Ylj {U V V' U' q G v12 top3 P:Nat} (hV:V=v12 * P+V') (hU:U=top3 * P+U') (hU':U' < P) (hq:q * V≤U) (h:top3 < G * v12):q < G:=by
 rcases JX q G with h1 | h1
 ·exact h1
 ·exfalso;have a1:G * (v12 * P)≤q * V:=Nat.mul_le_mul h1 (by omega);have a2:(top3+1) * P≤G * v12 * P:=JS _ h;rw [Nat.add_mul,Nat.one_mul] at a2;rw [← Nat.mul_assoc] at a1;omega
theorem Yii {U V V' U' G v12 top3 P b:Nat} (hV:V=v12 * P+V') (hU:U=top3 * P+U') (hV':V' < P) (h:G * v12≤top3) (hG:G≤b) (hb:b * P≤V):G * V≤U+V:=by
 have a1:G * V=G * v12 * P+G * V':=by rw [hV,Nat.mul_add,Nat.mul_assoc]
 have a2:G * v12 * P≤top3 * P:=JS _ h;have a3:G * V'≤b * P:=Nat.mul_le_mul hG (by omega);omega
theorem Zzc (O g f v p r q a b c bo y x:Int) (h:O - (c+bo) * p=a - g * b) (e1:c+g * f=y+4294967296 * v) (e2:x - bo - y=r - 4294967296 * q):O+r * p - (v+q) * (p * 4294967296)=a+x * p - g * (b+f * p):=by grind
theorem Zzd (X:List Nat) (m:Nat):vt X (m+3)=(dg X (m+2) * B32+dg X (m+1)) * B32^(m+1)+vt X (m+1):=by
 rw [Xh,Xh,Nat.pow_succ B32 (m+1),Nat.add_mul];generalize B32^(m+1)=p;generalize B32=b;have:dg X (m+2) * (p * b)=dg X (m+2) * b * p:=by rw [Nat.mul_assoc,Nat.mul_comm p b]
 omega
theorem Zrd (X:List Nat) (m:Nat):vt X (m+3)=((dg X (m+2) * B32+dg X (m+1)) * B32+dg X m) * B32^m+vt X m:=by
 rw [Zzd,Xh X m,Nat.pow_succ,Nat.add_mul _ (dg X m)];generalize dg X (m+2) * B32+dg X (m+1)=t;generalize B32^m=p;generalize B32=b;have:t * (p * b)=t * b * p:=by rw [Nat.mul_assoc,Nat.mul_comm p b]
 omega
theorem Zre (X:List Nat) (m:Nat):vt X (m+2)=dg X (m+1) * B32^(m+1)+vt X (m+1):=by rw [Xh,Nat.add_comm]
theorem Yij (X:List Nat) (m:Nat):vt X (m+2)=(dg X (m+1) * B32+dg X m) * B32^m+vt X m:=by
 rw [Zre,Xh X m,Nat.pow_succ,Nat.add_mul];generalize B32^m=p;generalize B32=b;have:dg X (m+1) * (p * b)=dg X (m+1) * b * p:=by rw [Nat.mul_assoc,Nat.mul_comm p b]
 omega
section
variable {U vs:List Nat} {m q:Nat} {G R:Int}
theorem Yik (okU:okD U) (hq:q * vt vs (m+2)≤vt U (m+3)) (h1:1≤di vs (m+1)):(q:Int)≤(di U (m+2) * 4294967296+di U (m+1)) / di vs (m+1):=by
 have h:=Ydr (Zre vs m) (Zzd U m) (Zbe okU _) hq (by rw [YE] at h1;omega);have e:(di U (m+2) * 4294967296+di U (m+1)) / di vs (m+1)=(((dg U (m+2) * B32+dg U (m+1)) / dg vs (m+1):Nat):Int):=by
  rw [Int.natCast_ediv,Int.natCast_add,Int.natCast_mul];rfl
 rw [e];omega
theorem Zze (okU:okD U) (hq:q * vt vs (m+2)≤vt U (m+3)) (hG:0≤G) (hR:0≤R) (e:G * di vs (m+1)+R=di U (m+2) * 4294967296+di U (m+1)) (t:R * 4294967296+di U m < G * di vs m):(q:Int)≤G - 1:=by
 obtain ⟨g,rfl⟩:=JT hG;obtain ⟨r,rfl⟩:=JT hR;have e':g * dg vs (m+1)+r=dg U (m+2) * B32+dg U (m+1):=by
  rw [YE,YE,YE] at e;rw [B32_eq];omega
 have t':r * B32+dg U m < g * dg vs m:=by
  rw [YE,YE] at t;rw [B32_eq];have:((g * dg vs m:Nat):Int)=(g:Int) * (dg vs m:Nat):=Int.natCast_mul _ _;omega
 have h:=Ylj (G:=g) (Yij vs m) (Zrd U m) (Zbe okU _) hq (by
  rw [← e',Nat.add_mul,Nat.mul_add];have:g * (dg vs (m+1) * B32)=g * dg vs (m+1) * B32:=(Nat.mul_assoc _ _ _).symm;omega)
 omega
theorem Zrf (okV:okD vs) (hG:0≤G) (hG1:G≤4294967295) (hR:0≤R) (h1:1≤di vs (m+1)) (e:G * di vs (m+1)+R=di U (m+2) * 4294967296+di U (m+1)) (t:G * di vs m≤R * 4294967296+di U m):
 G.toNat * vt vs (m+2)≤vt U (m+3)+vt vs (m+2):=by
 obtain ⟨g,rfl⟩:=JT hG;obtain ⟨r,rfl⟩:=JT hR;have e':g * dg vs (m+1)+r=dg U (m+2) * B32+dg U (m+1):=by
  rw [YE,YE,YE] at e;rw [B32_eq];omega
 have t':g * dg vs m≤r * B32+dg U m:=by
  rw [YE,YE] at t;rw [B32_eq];have:((g * dg vs m:Nat):Int)=(g:Int) * (dg vs m:Nat):=Int.natCast_mul _ _;omega
 rw [JP];refine Yii (b:=B32) (Yij vs m) (Zrd U m) (Zbe okV _) ?_ (by rw [B32_eq];omega) ?_
 ·rw [← e',Nat.add_mul,Nat.mul_add];have:g * (dg vs (m+1) * B32)=g * dg vs (m+1) * B32:=(Nat.mul_assoc _ _ _).symm;omega
 ·rw [Yij,Nat.mul_comm B32];have h2:B32^m * B32≤(dg vs (m+1) * B32+dg vs m) * B32^m:=by
   rw [Nat.mul_comm];refine JS _ ?_;have:1 * B32≤dg vs (m+1) * B32:=JS _ (by rw [YE] at h1;omega);omega
  omega
theorem Ylk (okV:okD vs) (h:vt U (m+3) < B32 * vt vs (m+2)):di U (m+2)≤di vs (m+1):=by
 rcases JX (dg vs (m+1)) (dg U (m+2)) with h1 | h1
 ·exfalso;rw [Xh U (m+2),Zre vs m] at h;have a1:=Zbe okV (m+1);have a2:(dg vs (m+1)+1) * B32^(m+2)≤dg U (m+2) * B32^(m+2):=JS _ h1;rw [Nat.pow_succ B32 (m+1)] at a2 h;generalize B32^(m+1)=p at *;generalize vt vs (m+1)=y at *;generalize dg vs (m+1)=d at *;have a3:(d+1) * (p * B32)=B32 * (d * p+p):=by rw [Nat.mul_comm p,← Nat.mul_assoc,Nat.mul_comm (d+1),Nat.mul_assoc,Nat.add_mul,Nat.one_mul]
  have a4:B32 * (d * p+y)≤B32 * (d * p+p):=Nat.mul_le_mul_left _ (by omega);omega
 ·rw [YE,YE];omega
end
theorem Znr {X U vs:List Nat} {k:Nat} {g c bo r q v y:Int} (hk:k < X.length) (hr:0≤r) (e1:c+g * di vs k=y+4294967296 * v) (e2:di U k - bo - y=r - 4294967296 * q)
 (h:(vt X k:Int) - (c+bo) * ((B32^k:Nat):Int)=vt U k - g * vt vs k):
 (vt (X.set k r.toNat) (k+1):Int) - (v+q) * ((B32^(k+1):Nat):Int)=vt U (k+1) - g * vt vs (k+1):=by
 rw [Xy hk hr,Yd,Yd,YW];exact Zzc _ _ _ _ _ _ _ _ _ _ _ _ _ h e1 e2
theorem Yds {U vs X:List Nat} {n q:Nat} {g c bo:Int} (okX:okD X) (okV:okD vs) (hV:0 < vt vs n) (hq:q=vt U (n+1) / vt vs n) (hg0:(q:Int)≤g) (hg1:g.toNat * vt vs n≤vt U (n+1)+vt vs n)
 (h:(vt X n:Int) - (c+bo) * ((B32^n:Nat):Int)=vt U n - g * vt vs n):
 (0≤di U n - bo - c→di U n - bo - c=0∧g=q∧vt X n=vt U (n+1) % vt vs n)∧
 (di U n - bo - c < 0→di U n - bo - c= -1∧g - 1=q∧vt X n+vt vs n=vt U (n+1) % vt vs n+B32^n):=by
 obtain ⟨G,rfl⟩:=JT (show 0≤g by omega);rw [JP] at hg1;have hX:=Zbe okX n;have f:=Zbe okV n;have hU:=Yd U n;have b:=Nat.div_add_mod (vt U (n+1)) (vt vs n);have i:=Nat.mod_lt (vt U (n+1)) hV;rw [← hq] at b;generalize vt U (n+1) % vt vs n=R at *;generalize vt U (n+1)=UU at *;generalize vt vs n=V at *;generalize vt X n=XX at *;generalize B32^n=P at *;generalize vt U n=U0 at *;have d:G=q∨G=q+1:=by
  have:G < q+2:=by
   have a:G * V < (q+2) * V:=by
    rw [Nat.add_mul];have:V * q=q * V:=Nat.mul_comm _ _;omega
   exact Nat.lt_of_mul_lt_mul_right a
  omega
 have j:(XX:Int)+(di U n - bo - c) * (P:Int)=UU - G * V:=by
  have:(di U n - bo - c) * (P:Int)=di U n * (P:Int) - (c+bo) * (P:Int):=by rw [Int.sub_sub,Int.sub_mul];rw [Int.add_comm bo c]
  omega
 generalize di U n - bo - c=t at *;have k:((q * V:Nat):Int)=(q:Int) * V:=Int.natCast_mul _ _;have e:V * q=q * V:=Nat.mul_comm _ _;rcases d with rfl | rfl
 ·have hR:(XX:Int)+t * P=R:=by omega
  refine ⟨fun h0=>?_,fun h0=>?_⟩
  ·have ht:t=0:=by
    rcases Int.lt_or_eq_of_le h0 with h1 | h1
    ·exfalso;have:1 * (P:Int)≤t * P:=Int.mul_le_mul_of_nonneg_right (by omega) (by omega);omega
    ·exact h1.symm
   subst ht;exact ⟨rfl,rfl,by omega⟩
  ·exfalso;have:t * (P:Int)≤(-1) * P:=Int.mul_le_mul_of_nonneg_right (by omega) (by omega);omega
 ·have hR:(XX:Int)+t * P=R - V:=by
   have:(((q+1:Nat):Int)) * V=(q:Int) * V+V:=by rw [Int.natCast_add,Int.add_mul];simp
   omega
  refine ⟨fun h0=>?_,fun h0=>?_⟩
  ·exfalso;have:0 * (P:Int)≤t * P:=Int.mul_le_mul_of_nonneg_right h0 (by omega);omega
  ·have ht:t= -1:=by
    rcases Int.lt_or_eq_of_le (show t≤ -1 by omega) with h1 | h1
    ·exfalso;have:t * (P:Int)≤(-2) * P:=Int.mul_le_mul_of_nonneg_right (by omega) (by omega);omega
    ·exact h1
   subst ht;exact ⟨rfl,by omega,by omega⟩
end Pl
end
namespace Pl
theorem Zlr {X:List Nat} {n:Nat} (h:val X < B32^n) {i:Nat} (hi:n≤i):dg X i=0:=by
 rcases JV (dg X i) with h0 | h0
 ·exact h0
 ·exfalso;have h1:=Zcr X i;have h2:B32^i * 1≤B32^i * (dg X i+B32 * val (X.drop (i+1))):=Nat.mul_le_mul_left _ (by omega);have h3:B32^n≤B32^i:=Nat.pow_le_pow_right B32_pos hi;omega
theorem Zep {X:List Nat} {n:Nat} (h:∀i,n≤i→dg X i=0):vt X n=val X:=by
 have:∀k,vt X (n+k)=vt X n:=by
  intro k
  induction k with
  | zero=>rfl
  | succ k ih=>rw [← Nat.add_assoc,Xh,h (n+k) (by omega),ih];simp
 have h2:=this X.length;rw [X8 (by omega)] at h2;exact h2.symm
theorem Zrk {X:List Nat} {j n:Nat} (h:∀i,j+n≤i→dg X i=0):val X=vt X j+B32^j * vt (X.drop j) n:=by
 have e:vt (X.drop j) n=val (X.drop j):=Zep (fun i hi=>by rw [VS];exact h _ (by omega));rw [e];rcases JX j X.length with hj | hj
 ·have hl:(X.take j).length=j:=by rw [List.length_take];omega
  have:=val_append (X.take j) (X.drop j);rw [List.take_append_drop,hl] at this;exact this
 ·rw [List.drop_eq_nil_of_le hj,X8 hj];simp [val]
theorem Yll (ds:List Nat) (n:Nat):vt ds (n+1)=dg ds 0+B32 * vt (ds.drop 1) n:=by
 cases ds with
 | nil=>simp [vt,val,dg]
 | cons d ds=>
  simp [vt,val,dg]
theorem Ydz {Y:Nat} {ys OV:List Nat} {m s:Nat} (hy:ys=Zq Y) (hl:ys.length=m+2) (hs:s≤31) (h0:2147483648≤dg ys (m+1) * 2^s) (h1:dg ys (m+1) * 2^s≤4294967295) (okV:okD OV) (hV:val OV=Y * 2^s):
 vt OV (m+2)=Y * 2^s∧2147483648≤dg OV (m+1):=by
 have j:okD ys:=hy▸Yj Y;have hY:Y=vt ys (m+2):=by rw [X8 (by omega),hy,Zm]
 rw [Zre] at hY;have o:=Zbe j (m+1);have hB:2^s * 2^(32 - s)=B32:=by rw [← Nat.pow_add,show s+(32 - s)=32 from by omega];rfl
 generalize ht:dg ys (m+1)=t at *;generalize hP:B32^(m+1)=P at *
 -- (t+1) 2^s≤B
 have k:(t+1) * 2^s≤B32:=by
  have a:t * 2^s < 2^(32 - s) * 2^s:=by rw [Nat.mul_comm (2^(32 - s)),hB];unfold B32;omega
  have b:=Nat.lt_of_mul_lt_mul_right a;have c:(t+1) * 2^s≤2^(32 - s) * 2^s:=JS _ b
  rwa [Nat.mul_comm (2^(32 - s)),hB] at c
 have l:val OV < B32^(m+2):=by
  rw [hV,Nat.pow_succ,hP];have a:(Y+1) * 2^s≤((t+1) * P) * 2^s:=JS _ (by rw [Nat.add_mul,Nat.one_mul];omega);have b:((t+1) * 2^s) * P≤B32 * P:=JS _ k;rw [Nat.add_mul,Nat.one_mul] at a;have c:(t+1) * P * 2^s=(t+1) * 2^s * P:=Nat.mul_right_comm _ _ _;have d:=Nat.pow_pos (n:=s) (show 0 < 2 by decide);rw [Nat.mul_comm P];omega
 have hz:∀i,m+2≤i→dg OV i=0:=fun i hi=>Zlr l hi
 have e:=Zep hz;refine ⟨by rw [e,hV],?_⟩;rcases JX (dg OV (m+1)) 2147483648 with h | h
 ·exfalso;have a:=Zre OV m;rw [e,hV,hP] at a;have b:=Zbe okV (m+1);rw [hP] at b;have c:(dg OV (m+1)+1) * P≤2147483648 * P:=JS _ h;rw [Nat.add_mul,Nat.one_mul] at c;have d:2147483648 * P≤(t * 2^s) * P:=JS _ h0;have f:(t * P) * 2^s≤Y * 2^s:=JS _ (by omega);have g:t * 2^s * P=t * P * 2^s:=Nat.mul_right_comm _ _ _;omega
 ·exact h
theorem Zwe {X s l m:Nat} {OU OV:List Nat} (hX:X < B32^l) (hs:s≤31) (hm:m+2≤l) (hU:val OU=X * 2^s) (hlen:OU.length≤l+1) (ht:2147483648≤dg OV (m+1)):
 vt (OU.drop (l - (m+2)+1)) (m+2) < vt OV (m+2):=by
 have hz:∀i,l - (m+2)+1+(m+2)≤i→dg OU i=0:=fun i hi=>Vo (by omega)
 have hc:=Zrk hz;have f:2^s≤2147483648:=Nat.pow_le_pow_right (show 0 < 2 by decide) hs;rcases JX (vt (OU.drop (l - (m+2)+1)) (m+2)) (vt OV (m+2)) with h | h
 ·exact h
 ·exfalso;have a:2147483648 * B32^(m+1)≤vt OV (m+2):=by
   rw [Zre];have:=JS (B32^(m+1)) ht;omega
  have b:B32^(l - (m+2)+1) * (2147483648 * B32^(m+1))≤B32^(l - (m+2)+1) * vt (OU.drop (l - (m+2)+1)) (m+2):=Nat.mul_le_mul_left _ (JW a h);have c:B32^(l - (m+2)+1) * (2147483648 * B32^(m+1))=2147483648 * B32^l:=by
   rw [Nat.mul_left_comm,← Nat.pow_add,show l - (m+2)+1+(m+1)=l from by omega]
  have d:(X+1) * 2^s≤B32^l * 2147483648:=Nat.mul_le_mul hX f;rw [Nat.add_mul,Nat.one_mul] at d;have e:=Nat.pow_pos (n:=s) (show 0 < 2 by decide);rw [Nat.mul_comm (B32^l)] at d;omega
theorem Zzi {U V j m:Nat} {O O' Q:List Nat} (hj:j < Q.length) (hVpos:0 < V) (hVlt:V≤B32^(m+2)) (hz:∀i,j+1+(m+2)≤i→dg O i=0)
 (hsame:∀i,i < j∨j+m+3≤i→dg O' i=dg O i) (hrem:vt (O'.drop j) (m+3)=vt (O.drop j) (m+3) % V) (hU:U=V * val (Q.drop (j+1)) * B32^(j+1)+val O):
 (∀i,j+(m+2)≤i→dg O' i=0)∧vt (O'.drop j) (m+2) < V∧U=V * val ((Q.set j (vt (O.drop j) (m+3) / V)).drop j) * B32^j+val O':=by
 have f:=Nat.mod_lt (vt (O.drop j) (m+3)) hVpos;have d:∀i,j+(m+3)≤i→dg O' i=0:=fun i hi=>by rw [hsame i (.inr (by omega))];exact hz i (by omega)
 have c:dg O' (j+(m+2))=0:=by
  have a:=Xh (O'.drop j) (m+2);rw [hrem] at a;rcases JV (dg (O'.drop j) (m+2)) with h | h
  ·rwa [VS] at h
  ·exfalso;have:1 * B32^(m+2)≤dg (O'.drop j) (m+2) * B32^(m+2):=JS _ h;omega
 have g:∀i,j+(m+2)≤i→dg O' i=0:=fun i hi=>by
  rcases Nat.eq_or_lt_of_le hi with e | e
  ·rw [← e];exact c
  ·exact d i (by omega)
 have hv:vt (O'.drop j) (m+3)=vt (O'.drop j) (m+2):=by rw [Xh,VS,c];simp
 refine ⟨g,by rw [← hv,hrem];exact f,?_⟩;have e1:=Zrk (X:=O) (j:=j) (n:=m+3) (fun i hi=>hz i (by omega));have e2:=Zrk (X:=O') (j:=j) (n:=m+3) d;have e3:vt O' j=vt O j:=Ydh (fun i hi=>hsame i (.inl hi));rw [hrem,e3] at e2;rw [hU,e1,e2,Zlp (Q.set j _) j,UM hj,List.drop_set_of_lt (by omega),Nat.pow_succ];have e4:=Nat.div_add_mod (vt (O.drop j) (m+3)) V;generalize vt (O.drop j) (m+3) / V=q at *;generalize vt (O.drop j) (m+3) % V=R at *;generalize vt (O.drop j) (m+3)=W at *;generalize val (Q.drop (j+1))=A at *;generalize B32^j=P at *;generalize B32=b at *;rw [← e4];have f1:V * (q+b * A) * P=V * q * P+V * A * (P * b):=by
  rw [Nat.mul_add,Nat.add_mul]
  congr 1
  rw [Nat.mul_left_comm,Nat.mul_comm P b,Nat.mul_comm b,Nat.mul_assoc,Nat.mul_assoc]
 rw [f1,Nat.mul_add,Nat.mul_comm P (V * q)];omega
theorem Yea {X Y s m:Nat} {O Q OV:List Nat} (hU:X * 2^s=vt OV (m+2) * val Q+val O) (hV:vt OV (m+2)=Y * 2^s) (hz:∀i,m+2≤i→dg O i=0) (hr:vt O (m+2) < vt OV (m+2)):val Q=X / Y∧vt O (m+2) / 2^s=X % Y:=by
 rw [Zep hz] at hr ⊢;rw [hV] at hU hr;have hp:=Nat.pow_pos (n:=s) (show 0 < 2 by decide);generalize 2^s=p at *;have hY:0 < Y:=Nat.pos_of_ne_zero (fun e=>by subst e;simp at hr)
 -- val O is a multiple of p
 have e1:Y * p * val Q=p * (Y * val Q):=by rw [Nat.mul_comm Y p,Nat.mul_assoc]
 have e2:val O=p * (X - Y * val Q):=by rw [Nat.mul_sub,← e1,Nat.mul_comm p X];omega
 have e3:Y * val Q≤X:=by
  have:p * (Y * val Q)≤p * X:=by rw [← e1,Nat.mul_comm p X];omega
  exact Nat.le_of_mul_le_mul_left this hp
 have e4:X - Y * val Q < Y:=by
  rw [e2,Nat.mul_comm Y p] at hr;exact Nat.lt_of_mul_lt_mul_left hr
 rw [e2,Nat.mul_div_cancel_left _ hp];have e5:X=Y * val Q+(X - Y * val Q):=by omega
 generalize X - Y * val Q=r at *;subst e5;rw [Nat.mul_add_div hY,Nat.div_eq_of_lt e4,Nat.mul_add_mod,Nat.mod_eq_of_lt e4];exact ⟨by omega,rfl⟩
end Pl
end Go.Proofs.YtgbhebappffbdaaGreat
namespace Go.Proofs.YtgbhebappffbdaaGreat
open Go.RowKit
open Pl
theorem YO (s:Nat):((2:Int)^s)=((2^s:Nat):Int):=by rw [Int.natCast_pow];rfl
theorem WM (s:Nat):(1:Int)≤2^s:=by rw [YO];have:=Nat.pow_pos (n:=s) (show 0 < 2 by decide);omega
theorem Vr {s:Nat} (h:s≤31):(2:Int)^s≤2147483648:=by
 rw [YO];have:=Nat.pow_le_pow_right (show 0 < 2 by decide) h;omega
theorem Ydt {z x:Int} {s:Nat} (z0:0≤z) (z1:z < 2^s) (x0:0≤x) (q0:0≤x * 2^s) (q1:x * 2^s≤18446744073709551615) (z2:z≤18446744073709551615):bits .or .u64 z (x * 2^s)=z+x * 2^s:=by
 obtain ⟨a,rfl⟩:=JT z0;obtain ⟨b,rfl⟩:=JT x0;rw [YO] at *;rw [← Int.natCast_mul] at *;rw [u64_or_nat _ _ (by omega) (by omega),Nat.or_comm,← Nat.shiftLeft_eq,← Nat.shiftLeft_add_eq_or_of_lt (by omega),Nat.shiftLeft_eq];omega
theorem Ydu (O x z p r q a P:Int) (h:O+z * p=a * P) (e:z+x * P=r+4294967296 * q):O+r * p+q * (p * 4294967296)=(a+x * p) * P:=by grind
theorem Ydv {O xs:List Nat} {k:Nat} {z P r q:Int} (hk:k < O.length) (hr:0≤r) (e:z+di xs k * P=r+4294967296 * q) (h:(vt O k:Int)+z * ((B32^k:Nat):Int)=vt xs k * P):
 (vt (O.set k r.toNat) (k+1):Int)+q * ((B32^(k+1):Nat):Int)=vt xs (k+1) * P:=by
 rw [Xy hk hr,Yd,YW];exact Ydu _ _ _ _ _ _ _ _ h e
theorem Yin {O xs:List Nat} {k s:Nat} {z:Int} (hx:xs.length≤k) (hO:k+1≤O.length) (hO':O.length≤k+1) (hz:0≤z) (h:(vt O k:Int)+z * ((B32^k:Nat):Int)=vt xs k * 2^s):val (O.set k z.toNat)=val xs * 2^s:=by
 have e:=Xy (ds:=O) (k:=k) (by omega) hz;rw [X8 (by simpa using hO'),h,X8 hx,YO,← Int.natCast_mul] at e;omega
theorem Zcv (v:Value) (ds:List Nat) (s:Nat) (w:World) (h:Z6 w v ds) (hs:s≤31) (hl0:ds.length≤549755813888):
 Calls Tryz.prog 173 #[v,.int .u64 (s:Int)] w fun e w'=>∃O:List Nat,e= .returned (.slice (some ⟨w.heap.size,0,none⟩) (ds.length+1) (ds.length+1))∧Y6 w' w.heap.size O∧O.length=ds.length+1∧okD O∧val O=val ds * 2^s∧Below w.heap.size w w':=by
 obtain ⟨A,l,c,rfl⟩:=h.shape;obtain ⟨hl,p,q,hc⟩:=h.len;have n:=Vr hs;have o:(1:Int)≤2^s:=WM s;have d:=Y8 (l+1) (by omega)
 push_cast at d
 go_enter Tryz.func173,Tryz.ntmps173;go_wp2;clear d
 go_loopw [6,15] (fun cy i wr=>∃(k:Nat) (O:List Nat) (z:Int),k≤l∧i= .int .i64 k∧cy= .int .u64 z∧0≤z∧z < 2^s∧l+1≤O.length∧O.length≤l+1∧Y6 wr w.heap.size O∧okD O∧Below w.heap.size w wr∧
  (vt O k:Int)+z * ((B32^k:Nat):Int)=vt ds k * 2^s) (fun _ i _=>l - (intOf i).toNat)
 case atStart=>exact ⟨0,List.replicate (l+1) 0,0,by omega,rfl,rfl,by omega,Int.pow_pos (by omega),by simp,by simp,Y6.zeros w _,ZR _,(JR _ _).alloc (JY _) _,by simp [Xg]⟩
 case round=>
  obtain ⟨k,O,z,hk,rfl,rfl,z0,z1,hO,g,hB,ok,b,f⟩:=hrel;have HE:=JZ f;clear f;rcases JX k l with hkl | hkl
  ·obtain ⟨b1,m,rfl,j,a⟩:=h.at_ (by omega);have hx:=We b j a hkl;have x0:=Zu ds k;have x1:=Yu h.ok k;have ho:=hB.cell (k:=k) (by omega);have hf:=hB.frozen k;clear a;have q0:0≤di ds k * 2^s:=Int.mul_nonneg x0 (by omega);have q1:di ds k * 2^s≤4294967295 * 2^s:=Int.mul_le_mul_of_nonneg_right x1 (by omega);have r1:IntKind.u64.wrap (di ds k * 2^s)=di ds k * 2^s:=u64_in _ q0 (by omega);have r2:bits .or .u64 z (di ds k * 2^s)=z+di ds k * 2^s:=Ydt z0 z1 x0 q0 (by omega) (by omega);go_wp2;go_roundw
   case rel=>exact ⟨k+1,O.set k ((z+di ds k * 2^s) % 4294967296).toNat,_,by omega,by go_num,rfl,by omega,by omega,by simpa using hO,by simpa using g,hB.setI k (by omega),ZT ok k (by unfold B32;omega),b.setCell (JY _) _,Ydv (by omega) (by omega) (by omega) HE.out⟩
   case measure=>simp [intOf];omega
  ·obtain rfl:k=l:=by omega
   have ho:=hB.cell (k:=k) (by omega);have hf:=hB.frozen k;have z2:z≤4294967295:=(by omega);go_wp2;go_ret;rw [show ds.length=k from by omega];exact ⟨O.set k z.toNat,rfl,hB.setI k z0,by simp;omega,ZT ok k (by unfold B32;omega),Yin (by omega) (by omega) (by omega) z0 HE.out,b.setCell (JY _) _⟩
theorem Zns (z:Int):0≤z % 4294967296:=Int.emod_nonneg _ (by decide)
theorem Ygv (z:Int):(z % 4294967296).toNat < B32:=by
 have:=Int.emod_lt_of_pos z (show (0:Int) < 4294967296 by decide);have:=Zns z;unfold B32;generalize z % 4294967296=y at *;omega
theorem Zzf {x y:Int} (x0:0≤x) (x1:x≤4294967295) (y0:0≤y) (y1:y≤4294967295):bits .or .u64 x (y * 4294967296)=x+y * 4294967296:=by
 obtain ⟨a,rfl⟩:=JT x0;obtain ⟨b,rfl⟩:=JT y0;have e:((b:Int) * 4294967296)=((b * 4294967296:Nat):Int):=by omega
 rw [e,u64_or_nat _ _ (by omega) (by omega),Nat.or_comm];have h:b * 4294967296 ||| a=b * 4294967296+a:=by
  have:=Nat.shiftLeft_add_eq_or_of_lt (i:=32) (b:=a) (by omega) b;rw [Nat.shiftLeft_eq,show (2:Nat)^32=4294967296 from rfl] at this;omega
 rw [h];omega
theorem Yio {x y P Q:Nat} (hP:0 < P) (hx:x < P * Q):P * ((x+y * (P * Q)) / P % (P * Q))=x - x % P+(y % P) * (P * Q):=by
 have hQ:0 < Q:=Nat.pos_of_ne_zero (fun e=>by subst e;simp at hx);have e1:(x+y * (P * Q)) / P=x / P+y * Q:=by
  rw [show y * (P * Q)=P * (y * Q) from by rw [Nat.mul_left_comm],Nat.add_mul_div_left _ _ hP]
 have e2:y * Q=(y % P) * Q+(P * Q) * (y / P):=by
  have:=Nat.div_add_mod y P
  calc y * Q=(P * (y / P)+y % P) * Q:=by rw [this]
   _=_:=by rw [Nat.add_mul,Nat.add_comm,Nat.mul_right_comm]
 have h1:x / P < Q:=by rw [Nat.div_lt_iff_lt_mul hP,Nat.mul_comm];exact hx
 have h2:y % P < P:=Nat.mod_lt _ hP;have h3:(y % P) * Q+Q≤P * Q:=by
  have:(y % P+1) * Q≤P * Q:=JS _ h2
  rwa [Nat.add_mul,Nat.one_mul] at this
 rw [e1,e2,← Nat.add_assoc,Nat.add_mul_mod_self_left,Nat.mod_eq_of_lt (by omega),Nat.mul_add];have h4:=Nat.div_add_mod x P;have h5:P * (y % P * Q)=y % P * (P * Q):=by rw [Nat.mul_left_comm]
 omega
theorem Znt {s:Nat} {x y:Int} (hs:s≤31) (x0:0≤x) (x1:x≤4294967295) (y0:0≤y):
 2^s * ((x+y * 4294967296) / 2^s % 4294967296)=x - x % 2^s+4294967296 * (y % 2^s):=by
 obtain ⟨a,rfl⟩:=JT x0;obtain ⟨b,rfl⟩:=JT y0;have hB:2^s * 2^(32 - s)=4294967296:=by rw [← Nat.pow_add,show s+(32 - s)=32 from by omega]
 have h:=Yio (x:=a) (y:=b) (P:=2^s) (Q:=2^(32 - s)) (Nat.pow_pos (by decide)) (by rw [hB];omega);rw [hB] at h;rw [YO];generalize 2^s=p at *;have hm:a % p≤a:=Nat.mod_le _ _;have e1:((a:Int)+(b:Int) * 4294967296) / (p:Int) % 4294967296=(((a+b * 4294967296) / p % 4294967296:Nat):Int):=by
  rw [Int.natCast_emod,Int.natCast_ediv,Int.natCast_add,Int.natCast_mul];rfl
 have e2:(a:Int) % (p:Int)=((a % p:Nat):Int):=by rw [Int.natCast_emod]
 have e3:(b:Int) % (p:Int)=((b % p:Nat):Int):=by rw [Int.natCast_emod]
 rw [e1,e2,e3,← Int.natCast_mul,h];omega
theorem Ydw (P O x r c a p xr yr:Int) (h:P * O+c=a+xr * p) (e:P * r=x - xr+4294967296 * yr):P * (O+r * p)+c=a+x * p+yr * (p * 4294967296):=by grind
theorem Zlq {O xs:List Nat} {k:Nat} {P r c xr yr:Int} (hk:k < O.length) (hr:0≤r) (e:P * r=di xs k - xr+4294967296 * yr) (h:P * (vt O k:Int)+c=(vt xs k:Int)+xr * ((B32^k:Nat):Int)):
 P * (vt (O.set k r.toNat) (k+1):Int)+c=(vt xs (k+1):Int)+yr * ((B32^(k+1):Nat):Int):=by
 rw [Xy hk hr,Yd,YW];exact Ydw _ _ _ _ _ _ _ _ _ h e
theorem Yip {O xs:List Nat} {k s:Nat} (hx:xs.length≤k) (hO:O.length≤k) (h:2^s * (vt O k:Int)+di xs 0 % 2^s=(vt xs k:Int)+(di xs k % 2^s) * ((B32^k:Nat):Int)):val O=val xs / 2^s:=by
 rw [X8 hx,X8 hO,YO,YE xs k,Vo hx] at h;have hp:=Nat.pow_pos (n:=s) (show 0 < 2 by decide);generalize 2^s=p at *;have e2:di xs 0 % (p:Int)=((dg xs 0 % p:Nat):Int):=by rw [Int.natCast_emod];rfl
 rw [e2,← Int.natCast_mul] at h;have a:=Nat.mod_lt (dg xs 0) hp;have h':val xs=p * val O+dg xs 0 % p:=by
  have:((0:Nat):Int) % (p:Int) * ((B32^k:Nat):Int)=0:=by simp
  omega
 rw [h',Nat.mul_add_div hp,Nat.div_eq_of_lt a];omega
theorem Zjq (v:Value) (ds:List Nat) (s:Nat) (w:World) (h:Z6 w v ds) (hs:s≤31) (hl0:ds.length≤549755813888):
 Calls Tryz.prog 175 #[v,.int .u64 (s:Int)] w fun e w'=>∃v',e= .returned v'∧Z6 w' v' (Zq (val ds / 2^s))∧Below w.heap.size w w':=by
 obtain ⟨A,l,c,rfl⟩:=h.shape;obtain ⟨hl,q,r,hc⟩:=h.len;have n:=Vr hs;have o:(1:Int)≤2^s:=WM s;have j:=Y8 l (by omega);go_enter Tryz.func175,Tryz.ntmps175;go_wp2;clear j
 go_loopw [14] (fun i wr=>∃(k:Nat) (O:List Nat),k≤l∧i= .int .i64 k∧l≤O.length∧O.length≤l∧Y6 wr w.heap.size O∧okD O∧Below w.heap.size w wr∧
  2^s * (vt O k:Int)+di ds 0 % 2^s=(vt ds k:Int)+(di ds k % 2^s) * ((B32^k:Nat):Int)) (fun i _=>l - (intOf i).toNat)
 case atStart=>exact ⟨0,List.replicate l 0,by omega,rfl,by simp,by simp,Y6.zeros w _,ZR _,(JR _ _).alloc (JY _) _,by simp [Xg]⟩
 case round=>
  obtain ⟨k,O,hk,rfl,hO,d,hB,ok,b,f⟩:=hrel;have HE:=JZ f;clear f;rcases JX k l with hkl | hkl
  ·obtain ⟨b1,m,rfl,g,a⟩:=h.at_ (by omega);have hx:=We b g a hkl;have x0:=Zu ds k;have x1:=Yu h.ok k;have y0:=Zu ds (k+1);have y1:=Yu h.ok (k+1);have ho:=hB.cell (k:=k) (by omega);have hf:=hB.frozen k;rcases JX (k+1) l with hk2 | hk2
   ·have hy:=We b g a hk2;have p:=Zzf x0 x1 y0 y1;clear a;go_wp2;go_roundw
    case rel=>exact ⟨k+1,O.set k ((di ds k+di ds (k+1) * 4294967296) / 2^s % 4294967296).toNat,by omega,by go_num,by simpa using hO,by simpa using d,hB.setI k (Zns _),ZT ok k (Ygv _),b.setCell (JY _) _,Zlq (by omega) (Zns _) (Znt hs x0 x1 y0) HE.out⟩
    case measure=>simp [intOf];omega
   ·have hy:0=di ds (k+1):=(by rw [YE,Vo (by omega)];rfl);have HY:=JZ hy;clear a hy;go_wp2;go_roundw
    case rel=>exact ⟨k+1,O.set k (di ds k / 2^s % 4294967296).toNat,by omega,by go_num,by simpa using hO,by simpa using d,hB.setI k (Zns _),ZT ok k (Ygv _),b.setCell (JY _) _,Zlq (by omega) (Zns _) (by have:=Znt hs x0 x1 y0;rw [← HY.out] at this ⊢;simpa using this) HE.out⟩
    case measure=>simp [intOf];omega
  ·obtain rfl:k=l:=by omega
   go_wp2_with fail;refine (Yg _ O _ ?_).mono ?_
   ·have:=hB.dig ok (c:=k) d (by unfold maxLen;omega)
    rwa [show O.length=k from by omega] at this
   rintro e w1 ⟨v',rfl,hv,rfl⟩;go_wp2_with fail;go_ret;refine ⟨_,rfl,?_,b⟩
   rwa [Yip (by omega) (by omega) HE.out] at hv
def Ydx (T:ByteArray):Bool:=(List.range 256).all fun i=>decide (i < 2^(T.get! i).toNat) && decide ((T.get! i).toNat≤8) && (i==0 || decide (2^(T.get! i).toNat≤2 * i))
theorem Ygw {T:ByteArray} (hs:T.size=256) (h:Ydx T=true) {i:Nat} (hi:i < T.size) (h0:1≤i):i < 2^(T[i]'hi).toNat∧(T[i]'hi).toNat≤8∧2^(T[i]'hi).toNat≤2 * i:=by
 have e:T.get! i=T[i]'hi:=by
  show T.data[i]! =T.data[i];exact getElem!_pos T.data i hi
 unfold Ydx at h;rw [List.all_eq_true] at h;have:=h i (List.mem_range.2 (by omega));rw [e] at this;simp only [Bool.and_eq_true,decide_eq_true_eq,Bool.or_eq_true,beq_iff_eq] at this;exact ⟨this.1.1,this.1.2,by rcases this.2 with h | h <;> omega⟩
theorem Zzg {k t:Nat} {x y:Int} (hk:0≤y) (hx:y=x / 2^k) (h1:y.toNat < 2^t) (h2:2^t≤2 * y.toNat):x < 2^(k+t)∧(2:Int)^(k+t)≤2 * x:=by
 obtain ⟨m,rfl⟩:=JT hk;rw [JP] at h1 h2;rw [YO] at hx;rw [YO,Nat.pow_add];have hp:=Nat.pow_pos (n:=k) (show 0 < 2 by decide);generalize 2^k=p at *;generalize 2^t=q at *;have e:x=(p:Int) * m+x % p:=by rw [hx];exact (Int.mul_ediv_add_emod x p).symm
 have a:=Int.emod_nonneg x (show (p:Int)≠0 by omega);have b:=Int.emod_lt_of_pos x (show (0:Int) < p by omega);have a1:p * (m+1)≤p * q:=Nat.mul_le_mul_left _ h1;have a2:p * q≤p * (2 * m):=Nat.mul_le_mul_left _ h2;rw [Nat.mul_add,Nat.mul_one] at a1;rw [Nat.mul_left_comm] at a2;have e2:((p * m:Nat):Int)=(p:Int) * m:=Int.natCast_mul _ _;omega
theorem Zhg (b:UInt8):wrap64 (b.toNat:Int)=b.toNat:=IntWalk.wrap64_in _ ⟨by omega,by have:=b.toNat_lt;omega⟩
theorem Zwd (k:Int) (b:UInt8) (h:0≤k) (h2:k≤1000):wrap64 (k+(b.toNat:Int))=k+b.toNat:=IntWalk.wrap64_in _ ⟨by omega,by have:=b.toNat_lt;omega⟩
def Zri (x:Int) (w:World) (e:Ending) (w':World):Prop:=∃n:Nat,e= .returned (.int .i64 (n:Int))∧w=w'∧n≤32∧x < 2^n∧(2:Int)^n≤2 * x
theorem Yiq {x:Int} {n:Nat} (h0:1≤x) (hn:n≤32) (ha:x < 2^n) (hb:(2:Int)^n≤2 * x):∃k:Nat,(32:Int) - n=k∧k≤31∧2147483648≤x * 2^k∧x * 2^k≤4294967295:=by
 have a:1≤n:=by
  rcases JV n with e | e
  ·subst e;simp at ha;omega
  ·exact e
 refine ⟨32 - n,by omega,by omega,?_⟩;obtain ⟨X,rfl⟩:=JT (show 0≤x by omega);rw [YO] at *;have e:2^n * 2^(32 - n)=4294967296:=by rw [← Nat.pow_add,show n+(32 - n)=32 from by omega]
 have hp:=Nat.pow_pos (n:=32 - n) (show 0 < 2 by decide);generalize 2^(32 - n)=q at *;generalize 2^n=p at *;have a1:(X+1) * q≤p * q:=JS _ (by omega);have a2:p * q≤(2 * X) * q:=JS _ (by omega);rw [Nat.add_mul,Nat.one_mul] at a1;rw [Nat.mul_assoc] at a2;rw [← Int.natCast_mul];omega
theorem Zrj {T:ByteArray} {w:World} (k:Nat) {x y K:Int} {hi:y.toNat < T.size} (hK:K=(k:Int)) (hk:k≤24) (hy:y=x / 2^k) (hy0:1≤y) (hs:T.size=256) (hT:Ydx T=true):
 Zri x w (.returned (.int .i64 (wrap64 (K+wrap64 ((T[y.toNat]'hi).toNat:Int))))) w:=by
 obtain ⟨h1,h2,h3⟩:=Ygw hs hT hi (by omega);obtain ⟨a,b⟩:=Zzg (by omega) hy h1 h3;rw [Zhg,Zwd _ _ (by omega) (by omega),hK];exact ⟨k+(T[y.toNat]'hi).toNat,by simp,rfl,by omega,a,b⟩
theorem Ydy {T:ByteArray} {w:World} {x:Int} {hi:x.toNat < T.size} (hy0:1≤x) (hs:T.size=256) (hT:Ydx T=true):
 Zri x w (.returned (.int .i64 (wrap64 (wrap64 ((T[x.toNat]'hi).toNat:Int))))) w:=by
 obtain ⟨h1,h2,h3⟩:=Ygw hs hT hi (by omega);obtain ⟨a,b⟩:=Zzg (k:=0) (x:=x) (y:=x) (by omega) (by simp) h1 h3;rw [Nat.zero_add] at a b;rw [Zhg,Zhg];exact ⟨(T[x.toNat]'hi).toNat,rfl,rfl,by omega,a,b⟩
theorem Zzh (x:Int) (w:World) (h0:1≤x) (h1:x≤4294967295):
 Calls Tryz.prog 176 #[.int .u32 x] w (Zri x w):=by
 rcases Int.lt_or_le x 256 with a | a
 ·go_enter Tryz.func176,Tryz.ntmps176;go_wp2_with fail;go_ret;refine Ydy h0 ?_ ?_
  ·kernel_rfl
  ·decide+kernel
 ·rcases Int.lt_or_le x 65536 with b | b
  ·go_enter Tryz.func176,Tryz.ntmps176;go_wp2_with fail;go_ret;refine Zrj 8 (y:=x / 256) rfl (by omega) rfl (by omega) ?_ ?_
   ·kernel_rfl
   ·decide+kernel
  ·rcases Int.lt_or_le x 16777216 with c | c
   ·go_enter Tryz.func176,Tryz.ntmps176;go_wp2_with fail;go_ret;refine Zrj 16 (y:=x / 65536) rfl (by omega) rfl (by omega) ?_ ?_
    ·kernel_rfl
    ·decide+kernel
   ·go_enter Tryz.func176,Tryz.ntmps176;go_wp2_with fail;go_ret;refine Zrj 24 (y:=x / 65536 / 256) rfl (by omega) (by omega) (by omega) ?_ ?_
    ·kernel_rfl
    ·decide+kernel
theorem Znu (x:Int) (w:World) (h0:1≤x) (h1:x≤4294967295):
 Calls Tryz.prog 171 #[.int .u32 x] w fun e w'=>∃s:Nat,e= .returned (.int .i64 (s:Int))∧w=w'∧s≤31∧2147483648≤x * 2^s∧x * 2^s≤4294967295:=by
 go_enter Tryz.func171,Tryz.ntmps171;go_wp2_with fail;refine (Zzh x _ h0 h1).mono ?_;rintro e w1 ⟨n,rfl,rfl,hn,ha,hb⟩;have HA:=JZ ha;have HB:=JZ hb;clear ha hb;go_wp2_with fail;go_ret;obtain ⟨k,hk,a,h2,h3⟩:=Yiq h0 hn HA.out HB.out;exact ⟨k,VT hk,rfl,by omega,h2,h3⟩
end Go.Proofs.YtgbhebappffbdaaGreat
namespace Go.Proofs.YtgbhebappffbdaaGreat
open Go.RowKit
open Pl
attribute [local go_sem ↓] Go.wp_at_zero Go.wp_at_succ
theorem VU {w:World} {base:Nat} {v:Value} {n:Nat} {ds:List Nat} (h:w.ownsRow base 148 1 v n (ds.map uc)) (ok:okD ds):Z6 w v ds:=by
 have hl:ds.length=n:=by simpa using h.1
 subst hl;rcases h.2 with ⟨rfl,h0⟩ | ⟨g,cap,cur,rfl,hb,hg,hnc,hcm,hcs,htake⟩
 ·exact ⟨none,0,by rw [h0],by omega,by simp,ok,fun hp=>by omega⟩
 ·refine ⟨_,cap,rfl,hnc,hcm,ok,fun _=>⟨g,0,cur,(0,0),rfl,hg,fun k d hk=>?_⟩⟩;have h1:(cur.toList.take (ds.length * 1))[k]? =some (uc d):=by rw [htake];simp [hk]
  rw [List.getElem?_take] at h1;split at h1
  ·simpa using h1
  ·cases h1
theorem Zap (ds:List Nat):∀u∈ds.map uc,u.oneCell'=true:=by
 intro u hu;obtain ⟨d,_,rfl⟩:=List.mem_map.1 hu;rfl
theorem Z6.news {w:World} {ad:Addr} {n c:Nat} {ds:List Nat} (h:Z6 w (.slice (some ad) n c) ds):∀j u,(ds.map uc)[j]? =some u→w.cell? (ad.add j)=some u:=by
 intro j u hu;rw [List.getElem?_map] at hu
 cases hd:ds[j]? with
 | none=>rw [hd] at hu;cases hu
 | some d=>
  rw [hd] at hu;injection hu with hu;subst hu;obtain ⟨A',c1,hv,h1,h2,h3,h4⟩:=h;injection hv with e1 e2 e3;have hj:j < ds.length:=(List.getElem?_eq_some_iff.1 hd).1;obtain ⟨b,a,cs,fz,hA,hb,e⟩:=h4 (by omega);rw [← e1] at hA;injection hA with hA;subst hA;have:(⟨b,a,none⟩:Addr).add j=⟨b,a+j,none⟩:=by unfold Addr.add;split <;> simp_all
  rw [this,cell_of_row w b (a+j) cs _ fz hb];exact e j d hd
theorem Zcu (v:Value) (ds:List Nat) (w:World) (h:Z6 w v ds) (hs:ds.length≤1099511627776):
 Calls Tryz.prog 130 #[v] w fun e w'=>∃v',e= .returned v'∧w'.ownsRow w.heap.size 148 1 v' ds.length (ds.map uc)∧Below w.heap.size w w':=by
 obtain ⟨A,n,c,rfl⟩:=h.shape;obtain ⟨hl,o,p,hc⟩:=h.len;have hn:ds.length=n:=by omega
 rw [hn];have HN:=JZ hn;clear hn;have d:=fun (W:World) (a:Option Addr)=>Go.Lib.run_eql_slice_nil (P:=Tryz.prog) W 42 148 a n c 0 0 Tryz.underlying42
 obtain ⟨i0,hi,j,l,m⟩:=info_parts info_u32
 cases A with
 | none=>
  have i:n=0:=by
   rcases JV n with h0 | h0
   ·exact h0
   ·obtain ⟨b,q,hA,_⟩:=h.at_ h0;cases hA
  subst i;obtain rfl:ds=[]:=List.length_eq_zero_iff.1 HN.out;have:=d w none;clear d;go_enter Tryz.func130,Tryz.ntmps130;go_wp2;go_ret;exact ⟨_,rfl,World.ownsRow_nil _ _ _ _,JR _ _⟩
 | some ad=>
  have:=d w (some ad);clear d;go_enter Tryz.func130,Tryz.ntmps130;go_wp2_with (at_builtin;refine wpList_append_own_at _ rfl (.tmp 5) (.tmp 6) _ rfl w.heap.size 148 i0 _ 1 4 Tryz.underlying42 hi j l m rfl (by decide) (.slice (some ⟨w.heap.size,0,none⟩) 0 0) 0 [] rfl ?c0 ad n c (ds.map uc) rfl ?c1 ?c2 (Zap ds) ?c3 ?c4 ?c5 ?_)
  case c0=>exact World.ownsRow_made w #[] 0 (JY _) (by simp) (by simp)
  case c1=>simp;omega
  case c2=>exact (h.below ((JR _ _).alloc (JY _) _)).news
  case c3=>unfold maxLen;omega
  case c4=>omega
  case c5=>simp
  ·intro v' w1 g f _ _;go_wp2;go_ret;refine ⟨_,rfl,by simpa using g,((JR _ _).alloc (JY _) _).grown f (by simp) (fun k hk=>?_)⟩;simp [Value.ownBlock] at hk;omega
theorem Ydo {w:World} {base g n cap:Nat} {ds:List Nat} (h:w.ownsRow base 148 1 (.slice (some ⟨g,0,none⟩) n cap) n (ds.map uc)) {k:Nat} (hk:k < n):w.cell? ⟨g,k,none⟩=some (.int .u32 (di ds k)):=by
 have hl:ds.length=n:=by simpa using h.1
 rw [h.cellAt k (by omega),List.getElem?_map,Vn (by omega)];rfl
theorem Yih {w:World} {base g n cap:Nat} {ds:List Nat} (h:w.ownsRow base 148 1 (.slice (some ⟨g,0,none⟩) n cap) n (ds.map uc)) (k:Nat) {z:Int} (hz:0≤z):
 (w.setCell ⟨g,k,none⟩ (.int .u32 z)).ownsRow base 148 1 (.slice (some ⟨g,0,none⟩) n cap) n ((ds.set k z.toNat).map uc):=by
 have:=(h.stored k (.int .u32 z)).1;have e:(ds.map uc).set k (.int .u32 z)=(ds.set k z.toNat).map uc:=by
  rw [List.map_set];simp [uc,Int.toNat_of_nonneg hz]
 rwa [e] at this
theorem Vq {w0 w:World} {g:Nat} (h:w0.grownBy w (some g)) (k:Nat) (u:Value):w0.grownBy (w.setCell ⟨g,k,none⟩ u) (some g):=
 ⟨h.os,h.tape,h.output,by simpa using h.size,fun i hi hne=>(heap_setCell_other w ⟨g,k,none⟩ i u (fun e=>hne (by simp [e]))).trans (h.block i hi hne)⟩
theorem Ydp {d r x:Int} {D R X:Nat} (hd:d=D) (hr:r=R) (hx:x=X):(r * 4294967296+x) / d=(((R * B32+X) / D:Nat):Int)∧(r * 4294967296+x) % d=(((R * B32+X) % D:Nat):Int):=by
 subst hd hr hx;have e:((R:Int) * 4294967296+X)=((R * B32+X:Nat):Int):=by rw [Int.natCast_add,Int.natCast_mul];rfl
 rw [e];exact ⟨by rw [Int.natCast_ediv],by rw [Int.natCast_emod]⟩
theorem Zwb {d r x:Int} (hd:1≤d) (hr0:0≤r) (hr:r < d) (hx0:0≤x) (hx:x≤4294967295):0≤(r * 4294967296+x) / d∧(r * 4294967296+x) / d≤4294967295:=by
 refine ⟨Int.ediv_nonneg (by omega) (by omega),?_⟩;have:(r * 4294967296+x) / d < 4294967296:=by
  rw [Int.ediv_lt_iff_lt_mul (by omega)];have:(r+1) * 4294967296≤d * 4294967296:=Int.mul_le_mul_of_nonneg_right (by omega) (by omega);omega
 omega
theorem Ydq {ds Q:List Nat} {d r:Int} (d0:1≤d) (r0:0≤r) (r1:r < d) (h:val (ds.drop (-1+1:Int).toNat)=d.toNat * val (Q.drop (-1+1:Int).toNat)+r.toNat):
 r=((val ds % d.toNat:Nat):Int)∧val Q=val ds / d.toNat:=by
 have h':val ds=d.toNat * val Q+r.toNat:=by simpa using h
 have a:r.toNat < d.toNat:=by omega
 rw [h'];rw [Nat.mul_add_mod,Nat.mod_eq_of_lt a,Nat.mul_add_div (by omega),Nat.div_eq_of_lt a];exact ⟨by omega,by omega⟩
theorem Zwc {ds Q:List Nat} {d r:Int} {j:Nat} (d0:1≤d) (r0:0≤r) (hj:j < Q.length) (hs:dg Q j=dg ds j) (h:val (ds.drop ((j:Int)+1).toNat)=d.toNat * val (Q.drop ((j:Int)+1).toNat)+r.toNat):
 True∧val (ds.drop ((j:Int) - 1+1).toNat)=d.toNat * val ((Q.set j ((r * 4294967296+di Q j) / d).toNat).drop ((j:Int) - 1+1).toNat)+((r * 4294967296+di Q j) % d).toNat:=by
 refine ⟨trivial,?_⟩;obtain ⟨e1,e2⟩:=Ydp (d:=d) (r:=r) (x:=di Q j) (D:=d.toNat) (R:=r.toNat) (X:=dg ds j) (by omega) (by omega) (by rw [YE,hs]);rw [e1,e2,JP,JP,show ((j:Int) - 1+1).toNat=j from by omega];rw [show ((j:Int)+1).toNat=j+1 from by omega] at h;exact Zza hj h
theorem Zrc (base g n cap:Nat) (ds:List Nat) (d:Int) (w:World) (h:w.ownsRow base 148 1 (.slice (some ⟨g,0,none⟩) n cap) n (ds.map uc)) (ok:okD ds) (hn:n≤1099511627776) (d0:1≤d) (d1:d≤4294967295):
 Calls Tryz.prog 167 #[.slice (some ⟨g,0,none⟩) n cap,.int .u32 d] w fun e w'=>∃Q:List Nat,e= .returned (.int .u32 ((val ds % d.toNat:Nat):Int))∧Q.length=ds.length∧okD Q∧val Q=val ds / d.toNat∧
  w'.ownsRow base 148 1 (.slice (some ⟨g,0,none⟩) n cap) n (Q.map uc)∧w.grownBy w' (some g):=by
 have hl:ds.length=n:=by simpa using h.1
 have HL:=JZ hl;clear hl;go_enter Tryz.func167,Tryz.ntmps167;go_wp2
 go_loopw [5,6] (fun x i wr=>∃(z r:Int) (Q:List Nat),-1≤z∧z < n∧i= .int .i64 z∧x= .int .u64 r∧0≤r∧r < d∧n≤Q.length∧Q.length≤n∧okD Q∧wr.ownsRow base 148 1 (.slice (some ⟨g,0,none⟩) n cap) n (Q.map uc)∧w.grownBy wr (some g)∧
  (∀i:Nat,i≤z→dg Q i=dg ds i)∧val (ds.drop (z+1).toNat)=d.toNat * val (Q.drop (z+1).toNat)+r.toNat) (fun _ i _=>(intOf i+1).toNat)
 case atStart=>exact ⟨(n:Int) - 1,0,ds,by omega,by omega,rfl,rfl,by omega,by omega,by rw [HL.out];exact JY _,by rw [HL.out];exact JY _,ok,h,World.grownBy.refl _ _,fun _ _=>rfl,by
  rw [List.drop_eq_nil_of_le (by rw [HL.out];omega)];simp [val]⟩
 case round=>
  obtain ⟨z,r,Q,s,hz,rfl,rfl,r0,r1,hQ,o,c,a,f,b,l⟩:=hrel;have HS:=JZ b;have HE:=JZ l;clear b l;rcases Int.lt_or_le z 0 with h0 | h0
  ·obtain rfl:z= -1:=by omega
   go_wp2;go_ret;obtain ⟨e1,e2⟩:=Ydq d0 r0 r1 HE.out;exact ⟨Q,VT e1,by rw [HL.out];omega,c,e2,a,f⟩
  ·obtain ⟨j,rfl⟩:=JT h0;have hc:=Ydo a (k:=j) (by omega);have hf:=a.frozenAt j;have x0:=Zu Q j;have x1:=Yu c j;have q:=Zan x0 x1 r0 (by omega);have m:=Zwb d0 r0 r1 x0 x1;obtain ⟨p,t⟩:=m;go_wp2;go_roundw
   case rel=>
    obtain ⟨e1,e2⟩:=Zwc (Q:=Q) d0 r0 (show j < Q.length by omega) (HS.out j (by omega)) HE.out;exact ⟨(j:Int) - 1,_,Q.set j ((r * 4294967296+di Q j) / d).toNat,by omega,by omega,rfl,rfl,Int.emod_nonneg _ (by omega),Int.emod_lt_of_pos _ (by omega),by simpa using hQ,by simpa using o,ZT c j (by unfold B32;omega),Yih a j p,Vq f _ _,
     fun i hi=>by rw [Yt (by omega)];exact HS.out i (by omega),e2⟩
   case measure=>simp [intOf]
theorem Zto {w wr:World} {g b:Nat} {n off:Nat} {ds:List Nat} (hg:w.grownBy wr (some g)) (hne:b≠g) (h:∀k,k < n→w.cell? ⟨b,off+k,none⟩=some (.int .u32 (di ds k))) {k:Nat} (hk:k < n):wr.cell? ⟨b,off+k,none⟩=some (.int .u32 (di ds k)):=
 hg.cell (h k hk) (by simp;exact hne)
def KnG (U vs:List Nat) (m:Nat) (w:World) (s7:Value) (wx:World):Prop:=
 ∃(G:Int) (k:Nat),s7= .int .u64 G∧0≤G∧G≤4294967295∧((vt U (m+3) / vt vs (m+2):Nat):Int)≤G∧G.toNat * vt vs (m+2)≤vt U (m+3)+vt vs (m+2)∧wx=w.drewN k
theorem Ynt {T v:Int} (hv:2147483648≤v) (hT:T≤v * 4294967296+4294967295):T / v≤4294967298:=by
 have:T / v < 4294967298+1:=by
  rw [Int.ediv_lt_iff_lt_mul (by omega)];omega
 omega
theorem Va {z:Int} (h0:0≤z) (h1:z≤18446744073709551615):bits .and .u64 z 4294967295=z % 4294967296:=by
 obtain ⟨n,rfl⟩:=JT h0;have e:=u64_and_nat n 4294967295 (by omega) (by decide);have e2:n &&& 4294967295=n % 4294967296:=Nat.and_two_pow_sub_one_eq_mod n 32;rw [e2] at e;rw [show ((4294967295:Int))=((4294967295:Nat):Int) from rfl,e];omega
theorem WH {X:List Nat} {o k d:Nat}:(X.set (o+k) d).drop o=(X.drop o).set k d:=by
 rw [List.drop_set,if_neg (by omega),Nat.add_sub_cancel_left]
theorem Zrg {vs:List Nat} {m:Nat} (_ok:okD vs) (h:2147483648≤di vs (m+1)):0 < vt vs (m+2):=by
 rw [Zre];have:0 < dg vs (m+1) * B32^(m+1):=Nat.mul_pos (by rw [YE] at h;omega) (Nat.pow_pos B32_pos);omega
theorem Yil {Y Y0 X vs:List Nat} {n R:Nat} {z:Int} (okY:okD Y) (okV:okD vs) (hV:0 < vt vs n) (z0:0≤z) (z1:z≤1) (h:(vt Y n:Int)+z * ((B32^n:Nat):Int)=vt Y0 n+vt vs n) (hY:vt Y0 n=vt X n) (hX:vt X n+vt vs n=R % vt vs n+B32^n):
 z=1∧vt Y n=R % vt vs n:=by
 have h1:=Zbe okY n;have h2:=Zbe okV n;have h3:=Nat.mod_lt R hV;have hz:z=0∨z=1:=by omega
 generalize R % vt vs n=r at *;generalize B32^n=p at *;rcases hz with rfl | rfl
 ·omega
 ·exact ⟨rfl,by omega⟩
theorem Yim {G R v T:Int} (h:G * v+R=T):(G - 1) * v+(R+v)=T:=by rw [Int.sub_mul];omega
theorem Ygt {U vs:List Nat} {m:Nat} (h:vt U (m+3) < B32 * vt vs (m+2)):((vt U (m+3) / vt vs (m+2):Nat):Int)≤4294967295:=by
 have:vt U (m+3) / vt vs (m+2) < B32:=by
  rw [Nat.div_lt_iff_lt_mul (Nat.pos_of_ne_zero (fun e=>by rw [e] at h;simp at h))];exact h
 unfold B32 at this;omega
theorem Ygu {G x:Int} (h:0≤G) (hx:0 < G * x):1≤G:=by
 rcases Int.lt_or_eq_of_le h with h1 | h1
 ·omega
 ·subst h1;simp at hx
theorem Ztp {U vs:List Nat} {m k:Nat} {w:World} {G R T:Int} (okV:okD vs) (hG:1≤G) (hv:1≤di vs (m+1)) (_R0:0≤R) (v00:0≤di vs m) (v01:di vs m≤4294967295) (u00:0≤di U m) (rb:4294967296≤R+di vs (m+1))
 (T1:T≤di vs (m+1) * 4294967296+4294967295) (hT:di U (m+2) * 4294967296+di U (m+1)=T) (hGR:G * di vs (m+1)+R=T) (hq:((vt U (m+3) / vt vs (m+2):Nat):Int)≤G - 1):KnG U vs m w (.int .u64 (G - 1)) (w.drewN k):=by
 have e:=Yim hGR;have a:G - 1 < 4294967296:=by
  have:(G - 1) * di vs (m+1) < 4294967296 * di vs (m+1):=by omega
  exact Int.lt_of_mul_lt_mul_right this (by omega)
 have ht:(G - 1) * di vs m≤4294967295 * 4294967295:=Int.mul_le_mul (by omega) v01 v00 (by omega);exact ⟨G - 1,k,rfl,by omega,by omega,hq,Zrf (R:=R+di vs (m+1)) okV (by omega) (by omega) (by omega) hv (by rw [hT];exact e) (by omega),rfl⟩
theorem Zrh (g o m cu b2 off2 cv:Nat) (O vs:List Nat) (w:World) (hO:Y6 w g O) (okO:okD O) (hlen:o+m+3≤O.length) (hcu:m+3≤cu) (hcu':cu≤9223372036854775807)
 (okV:okD vs) (hne:b2≠g) (hv:∀k,k < m+2→w.cell? ⟨b2,off2+k,none⟩=some (.int .u32 (di vs k)))
 (hm:m≤1099511627776) (hnorm:2147483648≤di vs (m+1)) (hlt:vt (O.drop o) (m+3) < B32 * vt vs (m+2)):
 Calls Tryz.prog 174 #[.slice (some ⟨g,o,none⟩) (m+3) cu,.slice (some ⟨b2,off2,none⟩) (m+2) cv] w fun e w'=>∃O':List Nat,
  e= .returned (.int .u32 ((vt (O.drop o) (m+3) / vt vs (m+2):Nat):Int))∧Y6 w' g O'∧O'.length=O.length∧okD O'∧(∀i,i < o∨o+m+3≤i→dg O' i=dg O i)∧vt (O'.drop o) (m+3)=vt (O.drop o) (m+3) % vt vs (m+2)∧w.grownBy w' (some g):=by
 obtain ⟨U,hU⟩:∃U,U=O.drop o:=⟨_,rfl⟩;rw [← hU] at hlt;rw [← hU];have HV:=JZ hv;have HT:=JZ hlt;clear hv hlt;have d:okD U:=hU▸Zgn okO o;have a6:w.cell? ⟨g,o+(m+2),none⟩=some (.int .u32 (di U (m+2))):=by rw [hO.cell (by omega),hU];simp [di,VS]
 have a7:w.cell? ⟨g,o+(m+1),none⟩=some (.int .u32 (di U (m+1))):=by rw [hO.cell (by omega),hU];simp [di,VS]
 have a8:w.cell? ⟨g,o+m,none⟩=some (.int .u32 (di U m)):=by rw [hO.cell (by omega),hU];simp [di,VS]
 have a9:=HV.out (m+1) (by omega);have aa:=HV.out m (by omega);have HU:=JZ hU;clear hU;have I:=Zu U (m+2);have ab:=Yu d (m+2);have J:=Zu U (m+1);have ac:=Yu d (m+1);have n:=Zu U m;have K:=Yu d m;have ad:=Zu vs (m+1);have am:=Yu okV (m+1);have f:=Zu vs m;have C:=Yu okV m;have L:=Ylk okV HT.out;have i1:IntKind.i64.wrap ((m:Int)+2 - 1)=(m:Int)+1:=by rw [IntWalk.i64_in _ (by omega)];omega
 have i2:((m:Int)+2).toNat=m+2:=by omega
 have i3:((m:Int)+1).toNat=m+1:=by omega
 have i4:(0:Int)≤(m:Int)+2:=by omega
 have i5:(0:Int)≤(m:Int)+1:=by omega
 have i6:(m:Int)+2 < (m:Int)+3:=by omega
 have i7:(m:Int)+1 < (m:Int)+3:=by omega
 have i8:(m:Int)+1 < (m:Int)+2:=by omega
 have r1:IntKind.u64.wrap (di U (m+2))=di U (m+2):=u64_in _ I (by omega);have r2:IntKind.u64.wrap (di U (m+1))=di U (m+1):=u64_in _ J (by omega);have r3:IntKind.u64.wrap (di U (m+2) * 4294967296)=di U (m+2) * 4294967296:=u64_in _ (by omega) (by omega);have r4:=Zan J ac I ab;go_enter Tryz.func174,Tryz.ntmps174;go_wp2
 go_quiet (fail)
 go_wp2;clear r1 r2 r3 r4 a6 a7;have q1:IntKind.u64.wrap (di vs (m+1))=di vs (m+1):=u64_in _ ad (by omega)
 go_quiet (fail)
 generalize hT:di U (m+2) * 4294967296+di U (m+1)=T at *;have T0:0≤T:=by omega
 have T1:T≤di vs (m+1) * 4294967296+4294967295:=by omega
 have l:=JZ hT;clear hT;have M:vt U (m+3) / vt vs (m+2) * vt vs (m+2)≤vt U (m+3):=Nat.div_mul_le_self _ _;have HQ:=JZ M;clear M
 go_upto_block 0 with (fail)
 go_cut [7] (fun s7 wx=>KnG U vs m w s7 wx)
 case first=>
  go_wp2_with fail
  go_loopw [7,8] (fun x y wr=>∃(G R:Int) (k:Nat),x= .int .u64 G∧y= .int .u64 R∧wr=w.drewN k∧0≤G∧G≤4294967298∧0≤R∧R≤4294967295∧G * di vs (m+1)+R=T∧((vt U (m+3) / vt vs (m+2):Nat):Int)≤G) (fun x _ _=>(intOf x).toNat)
  case atStart=>
   exact ⟨_,_,_,rfl,rfl,World.drewN_drewN _ _ _,Int.ediv_nonneg T0 (by omega),Ynt (by omega) T1,Int.emod_nonneg _ (by omega),by have:=Int.emod_lt_of_pos T (show 0 < di vs (m+1) by omega);omega,by rw [Int.mul_comm];exact Int.mul_ediv_add_emod _ _,by rw [← l.out];exact Yik d HQ.out (by omega)⟩
  case round=>
   obtain ⟨G,R,k,rfl,rfl,rfl,G0,G1,R0,R1,a3,q⟩:=hrel;have h:=JZ a3;have D:=JZ q;clear a3 q;have j1:IntKind.i64.wrap ((m:Int)+2 - 2)=(m:Int):=(by rw [IntWalk.i64_in _ (by omega)];omega);have j2:(0:Int)≤(m:Int):=(by omega);have j3:(m:Int) < (m:Int)+2:=(by omega);have j4:(m:Int) < (m:Int)+3:=(by omega);rcases Int.lt_or_le (R+di vs (m+1)) 4294967296 with rb | rb
   ·rcases Int.lt_or_le G 4294967296 with gb | gb
    ·have gd:decide (4294967296≤G)=false:=(by simp;omega);have p0:0≤G * di vs m:=Int.mul_nonneg G0 f;have p1:G * di vs m≤4294967295 * 4294967295:=Int.mul_le_mul (by omega) C f (by omega);have s1:IntKind.u64.wrap (di vs m)=di vs m:=u64_in _ f (by omega);have s2:IntKind.u64.wrap (G * di vs m)=G * di vs m:=u64_in _ p0 (by omega);have s3:IntKind.u64.wrap (R * 4294967296)=R * 4294967296:=u64_in _ (by omega) (by omega);have s4:IntKind.u64.wrap (di U m)=di U m:=u64_in _ n (by omega);have s5:=Zan n K R0 R1;rcases Int.lt_or_le (R * 4294967296+di U m) (G * di vs m) with tt | tt
     ·have td:decide (R * 4294967296+di U m < G * di vs m)=true:=(by simpa using tt);have g1:1≤G:=Ygu (x:=di vs m) G0 (by omega);go_wp2
      go_quiet (fail)
      go_wp2;go_roundw
      case rel=>exact ⟨G - 1,_,_,rfl,rfl,rfl,by omega,by omega,by omega,by omega,Yim h.out,Zze d HQ.out G0 R0 (by rw [l.out];exact h.out) tt⟩
      case measure=>simp [intOf];omega
     ·have td:decide (R * 4294967296+di U m < G * di vs m)=false:=(by simpa using tt);go_wp2
      go_quiet (fail)
      go_wp2
      go_meet
      exact ⟨G,_,rfl,G0,by omega,D.out,Zrf okV G0 (by omega) R0 (by omega) (by rw [l.out];exact h.out) tt,World.drewN_drewN _ _ _⟩
    ·have gd:decide (4294967296≤G)=true:=(by simpa using gb);go_wp2
     go_quiet (fail)
     go_wp2;go_roundw
     case rel=>exact ⟨G - 1,_,_,rfl,rfl,rfl,by omega,by omega,by omega,by omega,Yim h.out,by have:=Ygt HT.out;omega⟩
     case measure=>simp [intOf];omega
   ·rcases Int.lt_or_le G 4294967296 with gb | gb
    ·have gd:decide (4294967296≤G)=false:=(by simp;omega);have p0:0≤G * di vs m:=Int.mul_nonneg G0 f;have p1:G * di vs m≤4294967295 * 4294967295:=Int.mul_le_mul (by omega) C f (by omega);have s1:IntKind.u64.wrap (di vs m)=di vs m:=u64_in _ f (by omega);have s2:IntKind.u64.wrap (G * di vs m)=G * di vs m:=u64_in _ p0 (by omega);have s3:IntKind.u64.wrap (R * 4294967296)=R * 4294967296:=u64_in _ (by omega) (by omega);have s4:IntKind.u64.wrap (di U m)=di U m:=u64_in _ n (by omega);have s5:=Zan n K R0 R1;rcases Int.lt_or_le (R * 4294967296+di U m) (G * di vs m) with tt | tt
     ·have td:decide (R * 4294967296+di U m < G * di vs m)=true:=(by simpa using tt);have g1:1≤G:=Ygu (x:=di vs m) G0 (by omega);go_wp2
      go_quiet (fail)
      go_wp2
      go_meet
      exact Ztp okV (by omega) (by omega) R0 f C n rb T1 l.out h.out (Zze d HQ.out G0 R0 (by rw [l.out];exact h.out) tt)
     ·have td:decide (R * 4294967296+di U m < G * di vs m)=false:=(by simpa using tt);go_wp2
      go_quiet (fail)
      go_wp2
      go_meet
      exact ⟨G,_,rfl,G0,by omega,D.out,Zrf okV G0 (by omega) R0 (by omega) (by rw [l.out];exact h.out) tt,World.drewN_drewN _ _ _⟩
    ·have gd:decide (4294967296≤G)=true:=(by simpa using gb);go_wp2
     go_quiet (fail)
     go_wp2
     go_meet
     exact Ztp okV (by omega) (by omega) R0 f C n rb T1 l.out h.out (by have:=Ygt HT.out;omega)
 case rest=>
  obtain ⟨G,k0,rfl,G0,G1,q,a4,rfl⟩:=hcut;have D:=JZ q;have ae:=JZ a4;clear q a4 a8 a9 aa i1 i2 i3 i4 i5 i6 i7 i8 q1 L;go_wp2_with fail
  go_loopw [9,10,85] (fun cy bo i wr=>∃(k:Nat) (X:List Nat) (c b:Int),k≤m+2∧i= .int .i64 k∧cy= .int .u64 c∧bo= .int .i64 b∧0≤c∧c≤4294967295∧0≤b∧b≤1∧O.length≤X.length∧X.length≤O.length∧Y6 wr g X∧okD X∧w.grownBy wr (some g)∧
   (∀i,i < o→dg X i=dg O i)∧(∀i,o+k≤i→dg X i=dg O i)∧(vt (X.drop o) k:Int) - (c+b) * ((B32^k:Nat):Int)=vt U k - G * vt vs k) (fun _ _ i _=>m+2 - (intOf i).toNat)
  case atStart=>exact ⟨0,O,0,0,by omega,rfl,rfl,rfl,by omega,by omega,by omega,by omega,JY _,JY _,hO,okO,⟨rfl,rfl,rfl,JY _,fun _ _ _=>rfl⟩,fun _ _=>rfl,fun _ _=>rfl,by simp [Xg]⟩
  case round=>
   obtain ⟨k,X,c,b,hk,rfl,rfl,rfl,c0,c1,b0,b1,hX,a5,hB,r,a,H,s,t⟩:=hrel;have HE:=JZ t;have E:=JZ H;have p:=JZ s;clear t H s;rcases JX k (m+2) with hkl | hkl
   ·have hv:=Zto a hne HV.out hkl;have x0:=Zu vs k;have x1:=Yu okV k;have p0:0≤G * di vs k:=Int.mul_nonneg G0 x0;have p1:G * di vs k≤4294967295 * 4294967295:=Int.mul_le_mul G1 x1 x0 (by omega);have hu:wr.cell? ⟨g,o+k,none⟩=some (.int .u32 (di U k)):=(by rw [hB.cell (by omega),YE,p.out _ (JY _),HU.out,YE,VS]);have hf:=hB.frozen (o+k);have y0:=Zu U k;have y1:=Yu d k;have af:=Va (show 0≤c+G * di vs k by omega) (show c+G * di vs k≤18446744073709551615 by omega);go_wp2
    ·go_roundw
     case rel=>exact ⟨k+1,X.set (o+k) ((di U k - b - (c+G * di vs k)) % 4294967296).toNat,_,1,by omega,by go_num,rfl,rfl,by omega,by omega,by omega,by omega,by simpa using hX,by simpa using a5,hB.setI _ (by omega),ZT r _ (by unfold B32;omega),Vq a _ _,
      fun i hi=>by rw [Yt (by omega)];exact E.out i hi,fun i hi=>by rw [Yt (by omega)];exact p.out i (by omega),by
       rw [WH];exact Znr (y:=(c+G * di vs k) % 4294967296) (by rw [List.length_drop];omega) (by omega) (by omega) (by omega) HE.out⟩
     case measure=>simp [intOf];omega
    ·go_roundw
     case rel=>exact ⟨k+1,X.set (o+k) (di U k - b - (c+G * di vs k) % 4294967296).toNat,_,0,by omega,by go_num,rfl,rfl,by omega,by omega,by omega,by omega,by simpa using hX,by simpa using a5,hB.setI _ (by omega),ZT r _ (by unfold B32;omega),Vq a _ _,
      fun i hi=>by rw [Yt (by omega)];exact E.out i hi,fun i hi=>by rw [Yt (by omega)];exact p.out i (by omega),by
       rw [WH];exact Znr (y:=(c+G * di vs k) % 4294967296) (by rw [List.length_drop];omega) (by omega) (by omega) (by omega) HE.out⟩
     case measure=>simp [intOf];omega
   ·obtain rfl:k=m+2:=by omega
    have hu:wr.cell? ⟨g,o+(m+2),none⟩=some (.int .u32 (di U (m+2))):=(by rw [hB.cell (by omega),YE,p.out _ (JY _),HU.out,YE,VS]);have hf:=hB.frozen (o+(m+2));have y0:=Zu U (m+2);have y1:=Yu d (m+2);obtain ⟨u,v⟩:=Yds (Zgn r o) okV (Zrg okV hnorm) rfl D.out ae.out HE.out;rcases Int.lt_or_le (di U (m+2) - b - c) 0 with ht | ht
    ·obtain ⟨e1,e2,e3⟩:=v ht;clear u v;have E2:=JZ e2;have E3:=JZ e3;have E1:=JZ e1;have t1: -1≤di U (m+2) - b - c:=(by omega);have g1:1≤G:=(by have:=Int.natCast_nonneg (vt U (m+2+1) / vt vs (m+2));omega);clear e1 e2 e3;obtain ⟨Y0,j⟩:∃Y0,Y0=X.set (o+(m+2)) ((di U (m+2) - b - c) % 4294967296).toNat:=⟨_,rfl⟩;have N:Y6 (wr.setCell ⟨g,o+(m+2),none⟩ (.int .u32 ((di U (m+2) - b - c) % 4294967296))) g Y0:=(by rw [j];exact hB.setI _ (by omega));have P:okD Y0:=(by rw [j];exact ZT r _ (by unfold B32;omega));have S:w.grownBy (wr.setCell ⟨g,o+(m+2),none⟩ (.int .u32 ((di U (m+2) - b - c) % 4294967296))) (some g):=Vq a _ _;have lY:Y0.length=X.length:=(by rw [j];simp);have ag:O.length≤Y0.length:=(by omega);have ah:Y0.length≤O.length:=(by omega);clear lY;have V:∀i,i < o→dg Y0 i=dg O i:=fun i hi=>by rw [j,Yt (by omega)];exact E.out i hi
     have Z:∀i,o+m+3≤i→dg Y0 i=dg O i:=fun i hi=>by rw [j,Yt (by omega)];exact p.out i (by omega)
     have F:di Y0 (o+(m+2))=4294967295:=(by rw [j,YE,UM (by omega),E1.out];rfl);have a0:vt (Y0.drop o) (m+2)=vt (X.drop o) (m+2):=(by rw [j,WH,Zno (JY _)]);have ai:=JZ V;have aj:=JZ Z;have a1:=JZ F;have ak:=JZ a0;clear V Z F a0 j;go_wp2_with fail;clear hu hf a hB
     go_loopw [15,138] (fun cy i wr=>∃(k:Nat) (Y:List Nat) (z:Int),k≤m+2∧i= .int .i64 k∧cy= .int .u64 z∧0≤z∧z≤1∧O.length≤Y.length∧Y.length≤O.length∧Y6 wr g Y∧okD Y∧w.grownBy wr (some g)∧
      (∀i,i < o∨o+k≤i→dg Y i=dg Y0 i)∧(vt (Y.drop o) k:Int)+z * ((B32^k:Nat):Int)=vt (Y0.drop o) k+vt vs k) (fun _ i _=>m+2 - (intOf i).toNat)
     case atStart=>exact ⟨0,Y0,0,by omega,rfl,rfl,by omega,by omega,ag,ah,N,P,S,fun _ _=>rfl,by simp [Xg]⟩
     case round=>
      clear N S;obtain ⟨k,Y,z,an,rfl,rfl,z0,z1,hY,al,hB,A,a,B,t⟩:=hrel;have a2:=JZ t;have HS:=JZ B;clear t B;rcases JX k (m+2) with hkl' | hkl'
      ·have hv:=Zto a hne HV.out hkl';have x0:=Zu vs k;have x1:=Yu okV k;have hu:wr.cell? ⟨g,o+k,none⟩=some (.int .u32 (di (Y0.drop o) k)):=(by rw [hB.cell (by omega),YE,HS.out _ (.inr (JY _)),YE,VS]);have hf:=hB.frozen (o+k);have w0:=Zu (Y0.drop o) k;have w1:=Yu (Zgn P o) k;go_wp2;go_roundw
       case rel=>exact ⟨k+1,Y.set (o+k) ((z+(di (Y0.drop o) k+di vs k)) % 4294967296).toNat,_,by omega,by go_num,rfl,by omega,by omega,by simpa using hY,by simpa using al,hB.setI _ (by omega),ZT A _ (by unfold B32;omega),Vq a _ _,
        fun i hi=>by rw [Yt (by omega)];exact HS.out i (by omega),by
         rw [WH,← Int.add_assoc];exact Ug (by rw [List.length_drop];omega) z0 rfl a2.out⟩
       case measure=>simp [intOf];omega
      ·obtain rfl:k=m+2:=by omega
       have hu:wr.cell? ⟨g,o+(m+2),none⟩=some (.int .u32 4294967295):=(by rw [hB.cell (by omega),YE,HS.out _ (.inr (JY _)),← YE,a1.out]);have hf:=hB.frozen (o+(m+2));obtain ⟨f1,f2⟩:=Yil (Zgn A o) (okV) (Zrg okV hnorm) z0 z1 a2.out ak.out E3.out;subst f1;go_wp2;go_ret;refine ⟨Y.set (o+(m+2)) 0,VT E2.out,hB.set_ _ 0,by simp;omega,ZT A _ B32_pos,fun i hi=>?_,?_,Vq a _ _⟩
       ·rw [Yt (by omega),HS.out i (by omega)];rcases hi with hi | hi
        ·exact ai.out i hi
        ·exact aj.out i hi
       ·rw [WH,Zbq (by rw [List.length_drop];omega),f2];simp
    ·obtain ⟨e1,e2,e3⟩:=u ht;clear u v;have E2:=JZ e2;have E3:=JZ e3;have E1:=JZ e1;have t1:di U (m+2) - b - c≤0:=(by omega);clear e1 e2 e3;go_wp2;go_ret;refine ⟨X.set (o+(m+2)) (di U (m+2) - b - c).toNat,VT E2.out,hB.setI _ (by omega),by simp;omega,ZT r _ (by unfold B32;omega),fun i hi=>?_,?_,Vq a _ _⟩
     ·rw [Yt (by omega)];rcases hi with hi | hi
      ·exact E.out i hi
      ·exact p.out i (by omega)
     ·rw [WH,Zbq (by rw [List.length_drop];omega),E1.out];simpa using E3.out
theorem Y6.grown {w w':World} {g g':Nat} {ds:List Nat} (h:Y6 w g' ds) (hg:w.grownBy w' (some g)) (hne:g'≠g):Y6 w' g' ds:=
 (hg.block g' h.lt (by simp;exact hne)).trans h
theorem Y6.far {w:World} {g g':Nat} {ds:List Nat} (h:Y6 w g' ds) (hne:g'≠g) (k:Nat) (u:Value):Y6 (w.setCell ⟨g,k,none⟩ u) g' ds:=
 (heap_setCell_other w ⟨g,k,none⟩ g' u hne).trans h
theorem Y6.alloc {w:World} {g:Nat} {ds:List Nat} (h:Y6 w g ds) (o:Obj):Y6 (w.alloc o) g ds:=(Below.heap_alloc w o g h.lt).trans h
theorem below_grown {B:Nat} {w0 w w':World} {g:Nat} (h:Below B w0 w) (hg:w.grownBy w' (some g)) (hB:B≤g) (hs:B≤w.heap.size):Below B w0 w':=
 h.grown hg hs (fun k hk=>by simp at hk;omega)
theorem Yir {ds:List Nat} {i s:Nat} (h:2147483648≤di ds i * 2^s):2147483648≤dg ds i * 2^s:=by
 rw [YE,YO,← Int.natCast_mul] at h;omega
theorem Ztq {ds:List Nat} {i s:Nat} (h:di ds i * 2^s≤4294967295):dg ds i * 2^s≤4294967295:=by
 rw [YE,YO,← Int.natCast_mul] at h;omega
theorem Zzj {O OV:List Nat} {j m:Nat} (okO:okD O) (h:vt (O.drop ((j:Int)+1).toNat) (m+2) < vt OV (m+2)):vt (O.drop j) (m+3) < B32 * vt OV (m+2):=by
 rw [show ((j:Int)+1).toNat=j+1 from by omega] at h;rw [Yll,List.drop_drop,VS];have h1:=Zyr okO (j+0);have h2:B32 * (vt (O.drop (j+1)) (m+2)+1)≤B32 * vt OV (m+2):=Nat.mul_le_mul_left _ h;rw [Nat.mul_add,Nat.mul_one] at h2;omega
theorem Zrl (v1 v2:Value) (X Y l m:Nat) (w:World) (h1:Z6 w v1 (Zq X)) (h2:Z6 w v2 (Zq Y)) (hl1:(Zq X).length=l) (hl2:(Zq Y).length=m+2) (hlm:m+2≤l) (hs:l≤549755813888):
 Calls Tryz.prog 168 #[v1,v2] w fun e w'=>∃q r,e= .returned (.tuple #[q,r])∧Z6 w' q (Zq (X / Y))∧Z6 w' r (Zq (X % Y))∧Below w.heap.size w w':=by
 obtain ⟨A,n1,c,rfl⟩:=h1.shape;obtain ⟨kl,ar,b4,kc⟩:=h1.len;obtain ⟨A2,n2,c2,rfl⟩:=h2.shape;obtain ⟨jl,au,b5,jc⟩:=h2.len;obtain rfl:n1=l:=by omega
 obtain rfl:n2=m+2:=by omega
 obtain ⟨b2,b0,rfl,b6,b⟩:=h2.at_ (by omega);have hy:=b (m+1) (by omega);clear b;have y1:=Yu (Yj Y) (m+1);have G:0 < Y:=by
  rcases JV Y with e | e
  ·subst e;rw [digs_zero] at hl2;simp at hl2
  ·exact e
 have y0:1≤di (Zq Y) (m+1):=by
  have:=UO G;rw [hl2] at this;rw [YE];simp at this;omega
 have H:=JZ hl1;have I:=JZ hl2;clear hl1 hl2 kl ar jl au;go_enter Tryz.func168,Tryz.ntmps168;go_wp2_with fail;refine (Znu _ _ y0 y1).mono ?_;rintro e w1 ⟨s,rfl,rfl,a,a6,a7⟩;have af:=JZ a6;have ag:=JZ a7;clear a6 a7;go_wp2_with fail;refine (Zcv _ (Zq Y) s _ h2 a (by rw [I.out];omega)).mono ?_;rw [I.out];rintro e w1 ⟨OV,rfl,a8,lV,y,hV,n⟩;have LV:=JZ lV;have HV:=JZ hV;clear lV hV;go_wp2_with fail;refine (Zcv _ (Zq X) s _ (h1.below n) a (by rw [H.out];omega)).mono ?_;rw [H.out];rintro e w2 ⟨OU,rfl,a9,lU,av,hU,o⟩;have LU:=JZ lU;have HU:=JZ hU;clear lU hU;have L:=Y8 (n1 - (m+2)+1) (by omega);have d:((n1 - (m+2)+1:Nat):Int)=(n1:Int) - ((m:Int)+2)+1:=by omega
 rw [d] at L;clear d;have ah:=a8.lt;have ay:=a9.lt;have b1:=o.size;have az:=n.size;obtain ⟨a0,g⟩:=Ydz (ys:=Zq Y) rfl I.out a (Yir af.out) (Ztq ag.out) y (by rw [HV.out,Zm]);have f:0 < vt OV (m+2):=Zrg y (by rw [YE];omega);have B:vt OV (m+2)≤B32^(m+2):=Nat.le_of_lt (Zbe y _);have M:=Zwe (X:=X) (l:=n1) (m:=m) (OU:=OU) (OV:=OV) (by have:=Yz X;rwa [H.out] at this) a hlm (by rw [HU.out,Zm]) (by rw [LU.out];exact JY _) g;have ai:=JZ a0;have N:=JZ g;have P:=JZ f;have aj:=JZ B;have ak:=JZ M;clear a0 g f B M;have R:X * 2^s=val OU:=by rw [HU.out,Zm]
 have al:=JZ R;clear R;generalize ad:w.heap.size=gV at *;generalize ae:w1.heap.size=gU at *;have am:=JZ ad;have b3:=JZ ae;clear ad ae;go_wp2;clear L
 go_loopw [10] (fun i wr=>∃(z:Int) (O Q:List Nat),-1≤z∧z≤(n1:Int) - (m+2)∧i= .int .i64 z∧n1+1≤O.length∧O.length≤n1+1∧n1 - (m+2)+1≤Q.length∧Q.length≤n1 - (m+2)+1∧Y6 wr gU O∧Y6 wr gV OV∧Y6 wr w2.heap.size Q∧okD O∧okD Q∧Below gV w wr∧
  (∀i:Nat,z+1+(m+2)≤i→dg O i=0)∧vt (O.drop (z+1).toNat) (m+2) < vt OV (m+2)∧X * 2^s=vt OV (m+2) * val (Q.drop (z+1).toNat) * B32^(z+1).toNat+val O) (fun i _=>(intOf i+1).toNat)
 case atStart=>
  refine ⟨_,OU,List.replicate (n1 - (m+2)+1) 0,?_,?_,rfl,?_,?_,by simp,by simp,a9.alloc _,(a8.below o ah).alloc _,?_,av,ZR _,?_,?_,?_,?_⟩
  ·omega
  ·omega
  ·rw [LU.out];exact JY _
  ·rw [LU.out];exact JY _
  ·exact Y6.zeros w2 (n1 - (m+2)+1)
  ·have:=(n.trans (o.mono (by omega))).alloc (by omega) (.cells (zc (n1 - (m+2)+1)) 148);exact this
  ·exact fun i hi=>Vo (by rw [LU.out];omega)
  ·have e:((n1:Int) - ((m:Int)+2)+1).toNat=n1 - (m+2)+1:=(by omega);rw [e];exact ak.out
  ·rw [List.drop_eq_nil_of_le (by simp;omega),al.out];simp [val]
 case round=>
  obtain ⟨z,O,Q,b7,b8,rfl,hO,a1,hQ,a2,u,D,v,x,a3,a4,h,E,a5⟩:=hrel;have HZ:=JZ h;have HR:=JZ E;have HE:=JZ a5;clear h E a5;rcases Int.lt_or_le z 0 with h0 | h0
  ·obtain rfl:z= -1:=by omega
   have S:∀i,m+2≤i→dg O i=0:=fun i hi=>HZ.out i (by omega)
   obtain ⟨e1,e2⟩:=Yea (X:=X) (Y:=Y) (s:=s) (m:=m) (O:=O) (Q:=Q) (OV:=OV) (by have:=HE.out;simpa using this) ai.out S (by have:=HR.out;simpa using this);have E1:=JZ e1;have E2:=JZ e2;clear e1 e2 S;have an:Z6 wr (.slice (some ⟨w2.heap.size,0,none⟩) (n1 - (m+2)+1) (n1 - (m+2)+1)) Q:=by
    have:=v.dig a3 (c:=n1 - (m+2)+1) a2 (by unfold maxLen;omega)
    rwa [show Q.length=n1 - (m+2)+1 from by omega] at this
   have ao:Z6 wr (.slice (some ⟨gU,0,none⟩) (m+2) (n1+1)) (O.take (m+2)):=by
    have:=u.dig x (c:=n1+1) a1 (by unfold maxLen;omega);exact this.take (by omega) (by omega) (by unfold maxLen;omega)
   have k1:(0:Int)≤(m:Int)+2:=(by omega);have k2:(m:Int)+2≤(n1:Int)+1:=(by omega);have k3:((m:Int)+2).toNat=m+2:=(by omega);go_wp2_with fail
   go_region_held3 (fun _=>True) (exact trivial)
    (first | (go_at_call 131;refine (Yg _ Q _ (an.keep (ZG.drew _))).mono ?_;rintro e w5 ⟨v5,rfl,aw,rfl⟩) | (go_at_call 175;refine (Zjq _ (O.take (m+2)) s _ (ao.keep (ZG.drew _)) a (by rw [List.length_take];omega)).mono ?_;rintro e w6 ⟨v6,rfl,ax,F⟩))
   go_wp2;go_ret2;refine ⟨v5,v6,rfl,?_,?_,?_⟩
   ·have:=aw.below F;rwa [E1.out] at this
   ·have h6:Z6 w6 v6 (Zq (vt O (m+2) / 2^s)):=ax
    rwa [E2.out] at h6
   ·rw [am.out];exact a4.trans ((VZ F).mono (by have:=u.lt;omega))
  ·obtain ⟨j,rfl⟩:=JT h0;have hq:=v.cell (k:=j) (by omega);have T:=v.frozen j;go_wp2_with fail;rw [show j+(m+2)+1 - j=m+3 from by omega];refine (Zrh gU j m (n1+1 - j) gV 0 (m+2+1) O OV wr u x (by omega) (by omega) (by omega) y (by omega) ?_ (by omega) ?_ ?_).mono ?_
   ·intro k hk;rw [Nat.zero_add];exact D.cell (by rw [LV.out];omega)
   ·rw [YE];have:=N.out;omega
   ·exact Zzj x HR.out
   rintro e w5 ⟨O2,rfl,aa,ab,ac,p,t,K⟩;obtain ⟨f1,f2,f3⟩:=Zzi (U:=X * 2^s) (Q:=Q) (show j < Q.length by omega) P.out aj.out (fun i hi=>HZ.out i (by omega)) p t (by have:=HE.out;rwa [show ((j:Int)+1).toNat=j+1 from by omega] at this);have C:vt (O.drop j) (m+3) / vt OV (m+2) < B32:=by
    rw [Nat.div_lt_iff_lt_mul P.out];exact Zzj x HR.out
   have F1:=JZ f1;have F2:=JZ f2;have F3:=JZ f3;have V:=JZ ab;have ap:=D.grown K (by omega);have J:=v.grown K (by omega);have Z:=below_grown a4 K (by omega) (by have:=u.lt;omega);generalize vt (O.drop j) (m+3) / vt OV (m+2)=qd at *;have aq:=JZ C;clear f1 f2 f3 ab p t C hq T;have hq:=J.cell (k:=j) (by omega);have T:=J.frozen j;go_wp2;go_roundw
   case rel=>
    refine ⟨(j:Int) - 1,O2,Q.set j qd,?_,?_,rfl,?_,?_,?_,?_,aa.far (by omega) _ _,ap.far (by omega) _ _,J.set_ j qd,ac,ZT a3 _ aq.out,Z.setCell (by show gV≤w2.heap.size;omega) _,?_,?_,?_⟩
    ·omega
    ·omega
    ·rw [V.out];exact hO
    ·rw [V.out];exact a1
    ·simpa using hQ
    ·simpa using a2
    ·exact fun i hi=>F1.out i (by omega)
    ·rw [show ((j:Int) - 1+1).toNat=j from by omega];exact F2.out
    ·rw [show ((j:Int) - 1+1).toNat=j from by omega];exact F3.out
   case measure=>simp [intOf]
theorem Zcw {X:Nat} (h:(Zq X).length≤2):X < B32 * B32:=by
 have h1:=Yz X;have h2:B32^(Zq X).length≤B32^2:=Nat.pow_le_pow_right B32_pos h;rw [show B32^2=B32 * B32 from by rw [Nat.pow_succ,Nat.pow_one]] at h2;omega
theorem Zeq (v1 v2:Value) (X Y:Nat) (w:World) (h1:Z6 w v1 (Zq X)) (h2:Z6 w v2 (Zq Y)) (hY:0 < Y) (hs:(Zq X).length≤549755813888) (hs2:(Zq Y).length≤549755813888):
 Calls Tryz.prog 150 #[v1,v2] w fun e w'=>∃q r,e= .returned (.tuple #[q,r])∧Z6 w' q (Zq (X / Y))∧Z6 w' r (Zq (X % Y))∧Below w.heap.size w w':=by
 have hq:X < Y→X / Y=0∧X % Y=X:=fun h=>⟨Nat.div_eq_of_lt h,Nat.mod_eq_of_lt h⟩
 have HQ:=JZ hq;clear hq;obtain ⟨A,n1,c,rfl⟩:=h1.shape;obtain ⟨kl,O,P,kc⟩:=h1.len;obtain ⟨A2,n2,c2,rfl⟩:=h2.shape;obtain ⟨jl,R,S,jc⟩:=h2.len;have L:1≤n2:=by have:=Xx hY;omega
 go_enter Tryz.func150,Tryz.ntmps150;go_wp2_with fail;refine (Yq _ _ X Y _ h1 h2).mono ?_;rintro e w1 ⟨rfl,b⟩;have g1:=h1.below b;have g2:=h2.below b;rcases JX X Y with hlt | hge
 ·rw [UQ hlt];go_wp2_with fail;refine (Zcu _ (Zq X) _ g1 (by omega)).mono ?_;rintro e w2 ⟨v',rfl,d,a⟩;go_wp2;go_ret2;obtain ⟨e1,e2⟩:=HQ.out hlt;rw [e1,e2];exact ⟨_,_,rfl,by rw [digs_zero];exact Z6.nil _ _ _ (by simp),VU d (Yj X),b.trans (a.mono b.size)⟩
 ·have M:0≤cmpN X Y:=by
   rcases Nat.eq_or_lt_of_le hge with e | e
   ·rw [Zra e.symm];decide
   ·rw [Zhd e];decide
  generalize cmpN X Y=cc at *;have J:=Zy hge;rcases JX 2 n1 with hn | hn
  ·rcases JX 1 n2 with hm | hm
   ·have t1:((n2:Int)==1)=false:=(by simp;omega);go_wp2_with fail;refine (Zrl _ _ X Y n1 (n2 - 2) _ g1 g2 (by omega) (by omega) (by omega) (by omega)).mono ?_;rintro e w2 ⟨q,r,rfl,hq,hr,a⟩;go_wp2;go_ret2;exact ⟨_,_,rfl,hq,hr,b.trans (a.mono b.size)⟩
   ·obtain rfl:n2=1:=by omega
    obtain ⟨b2,K,rfl,T,i⟩:=g2.at_ (by omega);have hy:=i 0 (by omega);rw [Nat.add_zero] at hy;clear i;have t:Y < B32:=by
     have:=Yz Y;have e:(Zq Y).length=1:=by omega
     rwa [e,Nat.pow_one] at this
    have u:di (Zq Y) 0=(Y:Int):=(by rw [Zgo hY t];simp [di,dg]);have y1:=Yu (Yj Y) 0;have y0:1≤di (Zq Y) 0:=(by omega);have l:=JZ u;clear u t;go_wp2_with fail;refine (Zcu _ (Zq X) _ g1 (by omega)).mono ?_;rintro e w2 ⟨v',rfl,d,a⟩;have z:(Zq X).length=n1:=(by omega);rw [z] at d;obtain ⟨gg,cap,rfl,F,_⟩:=d.form (by omega);have N:=cell_later a hy;go_wp2_with fail;refine (Zrc _ _ _ _ (Zq X) _ _ d (Yj X) (by omega) y0 y1).mono ?_;rintro e w3 ⟨Q,rfl,lQ,G,vQ,p,y⟩;have g:Below w1.heap.size w1 w3:=below_grown a y F a.size;rw [Zm] at vQ;rw [Zm];have j:((X % (di (Zq Y) 0).toNat:Nat):Int)=((X % Y:Nat):Int):=(by rw [l.out,JP]);rw [j];have B:((X % Y:Nat):Int)≤4294967295:=(by have:=Nat.mod_lt X hY;have:=l.out;omega);have v:0≤((X % Y:Nat):Int):=(by omega);obtain ⟨rz,o⟩:∃rz:Int,rz=((X % Y:Nat):Int):=⟨_,rfl⟩;rw [← o] at B v ⊢;have C:=JZ o;have VQ:=JZ vQ;clear j o vQ lQ;have D:=VU p G;go_wp2_with fail;refine (Yg _ Q _ D).mono ?_;rintro e w4 ⟨v4,rfl,H,rfl⟩;go_wp2_with fail;refine (Xd rz _ v (by omega)).mono ?_;rintro e w5 ⟨v5,rfl,s,f⟩;go_wp2;go_ret2;refine ⟨_,_,rfl,?_,?_,b.trans ((g.trans (f.mono g.size)).mono b.size)⟩
    ·have:=H.below f
     rwa [VQ.out,l.out,JP] at this
    ·rwa [C.out,JP] at s
  ·have m:X < B32 * B32:=Zcw (by omega);have n:Y < B32 * B32:=Zcw (by omega);go_wp2_with fail;refine (Vi _ X _ g1 m).mono ?_;rintro e w2 ⟨rfl,a⟩;go_wp2_with fail;refine (Vi _ Y _ (g2.below a) n).mono ?_;rintro e w3 ⟨rfl,g⟩;have x1:(X:Int)≤18446744073709551615:=(by unfold B32 at m;omega);have y1:(Y:Int)≤18446744073709551615:=(by unfold B32 at n;omega);have x0:(0:Int)≤X:=(by omega);have y0:(1:Int)≤Y:=(by omega);have d0:(0:Int)≤(X:Int) / Y:=Int.ediv_nonneg x0 (by omega);have d1:(X:Int) / Y≤X:=Int.ediv_le_self _ x0;have m0:(0:Int)≤(X:Int) % Y:=Int.emod_nonneg _ (by omega);have m1:(X:Int) % Y < Y:=Int.emod_lt_of_pos _ (by omega);have ed:(X:Int) / Y=((X / Y:Nat):Int):=(by rw [Int.natCast_ediv]);have em:(X:Int) % Y=((X % Y:Nat):Int):=(by rw [Int.natCast_emod]);have ED:=JZ ed;have EM:=JZ em;clear ed em m n;generalize (X:Int)=zx at *;generalize (Y:Int)=zy at *;have q0:¬zy=0:=(by omega);have q1:IntKind.u64.wrap (zx.tdiv zy)=zx / zy:=IntWalk.u64_quo zx zy ⟨x0,x1,y0⟩;have q2:zx.tmod zy=zx % zy:=Int.tmod_eq_emod_of_nonneg x0;have q3:IntKind.u64.wrap (zx % zy)=zx % zy:=u64_in _ m0 (by omega);go_wp2_with fail
   go_region_held3 (fun _=>True) (exact trivial)
    (first | (go_at_call_of 126 (Value.int IntKind.u64 (zx / zy));refine (Xd (zx / zy) _ d0 (by omega)).mono ?_;rintro e w5 ⟨v5,rfl,s,f⟩) | (go_at_call 126;refine (Xd (zx % zy) _ m0 (by omega)).mono ?_;rintro e w6 ⟨v6,rfl,I,k⟩))
   go_wp2;go_ret2;refine ⟨v5,v6,rfl,?_,?_,?_⟩
   ·have:=s.below k
    rwa [ED.out,JP] at this
   ·rwa [EM.out,JP] at I
   ·have E:=(VZ f).trans (k.mono f.size);have x:=a.trans (g.mono a.size);exact b.trans ((x.trans (E.mono x.size)).mono b.size)
theorem Yeb {x y:Int} (hx:0≤x) (hy:0 < y):Nat.gcd y.toNat (x % y).toNat=Nat.gcd x.toNat y.toNat:=by
 obtain ⟨a,rfl⟩:=JT hx;obtain ⟨b,rfl⟩:=JT (Int.le_of_lt hy);rw [← Int.natCast_emod,JP,JP,JP,Nat.gcd_comm a b,Nat.gcd_rec b a,Nat.gcd_comm]
theorem Zhh (x y:Int) (w:World) (x0:0≤x) (x1:x≤18446744073709551615) (y0:0≤y) (y1:y≤18446744073709551615):
 Calls Tryz.prog 165 #[.int .u64 x,.int .u64 y] w fun e w'=>e= .returned (.int .u64 ((Nat.gcd x.toNat y.toNat:Nat):Int))∧Below w.heap.size w w':=by
 go_enter Tryz.func165,Tryz.ntmps165;go_wp2
 go_loopw [0,1] (fun s t wr=>∃(a b:Int) (q:Nat),s= .int .u64 a∧t= .int .u64 b∧0≤a∧a≤18446744073709551615∧0≤b∧b≤18446744073709551615∧wr=w.drewN q∧Nat.gcd a.toNat b.toNat=Nat.gcd x.toNat y.toNat) (fun _ t _=>(intOf t).toNat)
 case atStart=>exact ⟨x,y,0,rfl,rfl,x0,x1,y0,y1,rfl,rfl⟩
 case round=>
  obtain ⟨a,b,q,rfl,rfl,a0,a1,b0,b1,rfl,hg⟩:=hrel;have HG:=JZ hg;clear hg;rcases Int.lt_or_eq_of_le b0 with h | h
  ·have t1:(b !=0)=true:=(by simp;omega);have q0:¬b=0:=(by omega);have m0:0≤a % b:=Int.emod_nonneg _ (by omega);have m1:a % b < b:=Int.emod_lt_of_pos _ h;have q2:a.tmod b=a % b:=Int.tmod_eq_emod_of_nonneg a0;have q3:IntKind.u64.wrap (a % b)=a % b:=u64_in _ m0 (by omega);go_wp2
   go_quiet (fail)
   go_wp2;go_roundw
   case rel=>exact ⟨b,a % b,q+nq,rfl,rfl,b0,b1,m0,by omega,World.drewN_drewN _ _ _,by rw [Yeb a0 h];exact HG.out⟩
   case measure=>simp [intOf];omega
  ·subst h;go_wp2;go_ret;refine ⟨VT ?_,below_drewN' _ _⟩;rw [← HG.out];simp;omega
theorem Zzl (O p q b a c u v x y pw P Q pr qr r t:Int) (h:O+(p - q - b) * pw=u * a - v * c) (e1:p+u * x=pr+4294967296 * P) (e2:q+v * y=qr+4294967296 * Q) (e3:pr - qr - b=r - 4294967296 * t):
 O+r * pw+(P - Q - t) * (pw * 4294967296)=u * (a+x * pw) - v * (c+y * pw):=by grind
theorem WN {O xs ys:List Nat} {k:Nat} {p q b u v P Q pr qr r t:Int} (hk:k < O.length) (hr:0≤r) (e1:p+u * di xs k=pr+4294967296 * P) (e2:q+v * di ys k=qr+4294967296 * Q) (e3:pr - qr - b=r - 4294967296 * t)
 (h:(vt O k:Int)+(p - q - b) * ((B32^k:Nat):Int)=u * vt xs k - v * vt ys k):
 (vt (O.set k r.toNat) (k+1):Int)+(P - Q - t) * ((B32^(k+1):Nat):Int)=u * vt xs (k+1) - v * vt ys (k+1):=by
 rw [Xy hk hr,Yd,Yd,YW];exact Zzl _ _ _ _ _ _ _ _ _ _ _ _ _ _ _ _ _ h e1 e2 e3
theorem Ztr {O xs ys:List Nat} {n R:Nat} {p q b u v:Int} (okO:okD O) (hO:O.length=n) (hx:xs.length≤n) (hy:ys.length≤n) (hR:u * val xs - v * val ys=(R:Int)) (hlt:R < B32^n)
 (h:(vt O n:Int)+(p - q - b) * ((B32^n:Nat):Int)=u * vt xs n - v * vt ys n):val O=R:=by
 rw [X8 hx,X8 hy,X8 (by omega),hR] at h;have hv:=Zhc okO;rw [hO] at hv;generalize p - q - b=c at *;generalize B32^n=P at *;have hc:c=0:=by
  rcases Int.lt_trichotomy c 0 with g | g | g
  ·have:c * (P:Int)≤(-1) * P:=Int.mul_le_mul_of_nonneg_right (by omega) (by omega);omega
  ·exact g
  ·have:1 * (P:Int)≤c * P:=Int.mul_le_mul_of_nonneg_right (by omega) (by omega);omega
 subst hc;omega
theorem Zwf (v1 v2:Value) (xs ys:List Nat) (u v:Int) (R:Nat) (w:World) (h1:Z6 w v1 xs) (h2:Z6 w v2 ys) (hcmp:xs.length < ys.length) (u0:0≤u) (u1:u≤4294967295) (w0:0≤v) (w1:v≤4294967295) (hs:ys.length≤549755813888)
 (hR:u * val xs - v * val ys=(R:Int)) (hlt:R < B32^(ys.length)):
 Calls Tryz.prog 164 #[v1,.int .u64 u,v2,.int .u64 v] w fun e w'=>∃v',e= .returned v'∧Z6 w' v' (Zq R)∧Below w.heap.size w w':=by
 have HR:=JZ hR;have m:=JZ hlt;clear hR hlt;obtain ⟨A,l,c,rfl⟩:=h1.shape;obtain ⟨hl,B,C,hc⟩:=h1.len;obtain ⟨A2,l2,c2,rfl⟩:=h2.shape;obtain ⟨kl,D,E,kc⟩:=h2.len;have n:=Y8 l2 (by omega);have o:(l:Int) < l2:=by omega
 go_enter Tryz.func164,Tryz.ntmps164;go_wp2;clear n
 go_loopw [11,12,13,24] (fun ps qs bs i wr=>∃(k:Nat) (O:List Nat) (p q b:Int),k≤l2∧i= .int .i64 k∧ps= .int .u64 p∧qs= .int .u64 q∧bs= .int .i64 b∧0≤p∧p≤4294967295∧0≤q∧q≤4294967295∧0≤b∧b≤1∧l2≤O.length∧O.length≤l2∧Y6 wr w.heap.size O∧okD O∧Below w.heap.size w wr∧
  (vt O k:Int)+(p - q - b) * ((B32^k:Nat):Int)=u * vt xs k - v * vt ys k) (fun _ _ _ i _=>l2 - (intOf i).toNat)
 case atStart=>exact ⟨0,List.replicate l2 0,0,0,0,by omega,rfl,rfl,rfl,rfl,by omega,by omega,by omega,by omega,by omega,by omega,by simp,by simp,Y6.zeros w _,ZR _,(JR _ _).alloc (JY _) _,by simp [Xg]⟩
 case round=>
  obtain ⟨k,O,p,q,b,hk,rfl,rfl,rfl,rfl,p0,p1,q0,q1,b0,b1,hO,g,hB,ok,a,j⟩:=hrel;have HE:=JZ j;clear j;rcases JX k l2 with hkl | hkl
  ·have ho:=hB.cell (k:=k) (by omega);have hf:=hB.frozen k;have x0:=Zu xs k;have x1:=Yu h1.ok k;have y0:=Zu ys k;have y1:=Yu h2.ok k;have a0:0≤u * di xs k:=Int.mul_nonneg u0 x0;have a1:u * di xs k≤4294967295 * 4294967295:=Int.mul_le_mul u1 x1 x0 (by omega);have c0:0≤v * di ys k:=Int.mul_nonneg w0 y0;have c1:v * di ys k≤4294967295 * 4294967295:=Int.mul_le_mul w1 y1 y0 (by omega);obtain ⟨bY,y,rfl,t,d⟩:=h2.at_ (by omega);have hy:=We a t d hkl;clear d;rcases JX k l with hk2 | hk2
   ·skip
    obtain ⟨bx,z,rfl,x,f⟩:=h1.at_ (by omega);have hx:=We a x f hk2;clear f;have r:=Va (show 0≤p+u * di xs k by omega) (show p+u * di xs k≤18446744073709551615 by omega);have s:=Va (show 0≤q+v * di ys k by omega) (show q+v * di ys k≤18446744073709551615 by omega);go_wp2
    ·go_roundw
     case rel=>exact ⟨k+1,O.set k _,_,_,1,by omega,by go_num,rfl,rfl,rfl,by omega,by omega,by omega,by omega,by omega,by omega,by simpa using hO,by simpa using g,hB.setI k (by omega),ZT ok k (by unfold B32;omega),a.setCell (JY _) _,WN (pr:=(p+u * di xs k) % 4294967296) (qr:=(q+v * di ys k) % 4294967296) (by omega) (by omega) (by omega) (by omega) (by omega) HE.out⟩
     case measure=>simp [intOf];omega
    ·go_roundw
     case rel=>exact ⟨k+1,O.set k _,_,_,0,by omega,by go_num,rfl,rfl,rfl,by omega,by omega,by omega,by omega,by omega,by omega,by simpa using hO,by simpa using g,hB.setI k (by omega),ZT ok k (by unfold B32;omega),a.setCell (JY _) _,WN (pr:=(p+u * di xs k) % 4294967296) (qr:=(q+v * di ys k) % 4294967296) (by omega) (by omega) (by omega) (by omega) (by omega) HE.out⟩
     case measure=>simp [intOf];omega
   ·have h:di xs k=0:=(by rw [YE,Vo (by omega)];rfl);have HX:=JZ h;clear h;have r:=Va (show 0≤p by omega) (show p≤18446744073709551615 by omega);have s:=Va (show 0≤q+v * di ys k by omega) (show q+v * di ys k≤18446744073709551615 by omega);go_wp2
    ·go_roundw
     case rel=>exact ⟨k+1,O.set k _,_,_,1,by omega,by go_num,rfl,rfl,rfl,by omega,by omega,by omega,by omega,by omega,by omega,by simpa using hO,by simpa using g,hB.setI k (by omega),ZT ok k (by unfold B32;omega),a.setCell (JY _) _,WN (pr:=(p) % 4294967296) (qr:=(q+v * di ys k) % 4294967296) (by omega) (by omega) (by rw [HX.out];omega) (by omega) (by omega) HE.out⟩
     case measure=>simp [intOf];omega
    ·go_roundw
     case rel=>exact ⟨k+1,O.set k _,_,_,0,by omega,by go_num,rfl,rfl,rfl,by omega,by omega,by omega,by omega,by omega,by omega,by simpa using hO,by simpa using g,hB.setI k (by omega),ZT ok k (by unfold B32;omega),a.setCell (JY _) _,WN (pr:=(p) % 4294967296) (qr:=(q+v * di ys k) % 4294967296) (by omega) (by omega) (by rw [HX.out];omega) (by omega) (by omega) HE.out⟩
     case measure=>simp [intOf];omega
  ·obtain rfl:k=l2:=by omega
   go_wp2_with fail;refine (Yg _ O _ ?_).mono ?_
   ·have:=hB.dig ok (c:=k) g (by unfold maxLen;omega)
    rwa [show O.length=k from by omega] at this
   rintro e w1 ⟨v',rfl,hv,rfl⟩;go_wp2_with fail;go_ret;refine ⟨_,rfl,?_,a⟩
   rwa [Ztr ok (show O.length=k by omega) (by omega) (by omega) HR.out (by have:=m.out;rwa [show ys.length=k from by omega] at this) HE.out] at hv
theorem Zwg (v1 v2:Value) (xs ys:List Nat) (u v:Int) (R:Nat) (w:World) (h1:Z6 w v1 xs) (h2:Z6 w v2 ys) (hcmp:ys.length≤xs.length) (u0:0≤u) (u1:u≤4294967295) (w0:0≤v) (w1:v≤4294967295) (hs:xs.length≤549755813888)
 (hR:u * val xs - v * val ys=(R:Int)) (hlt:R < B32^(xs.length)):
 Calls Tryz.prog 164 #[v1,.int .u64 u,v2,.int .u64 v] w fun e w'=>∃v',e= .returned v'∧Z6 w' v' (Zq R)∧Below w.heap.size w w':=by
 have HR:=JZ hR;have m:=JZ hlt;clear hR hlt;obtain ⟨A,l,c,rfl⟩:=h1.shape;obtain ⟨hl,B,C,hc⟩:=h1.len;obtain ⟨A2,l2,c2,rfl⟩:=h2.shape;obtain ⟨kl,D,E,kc⟩:=h2.len;have n:=Y8 l (by omega);have o:¬(l:Int) < l2:=by omega
 go_enter Tryz.func164,Tryz.ntmps164;go_wp2;clear n
 go_loopw [11,12,13,24] (fun ps qs bs i wr=>∃(k:Nat) (O:List Nat) (p q b:Int),k≤l∧i= .int .i64 k∧ps= .int .u64 p∧qs= .int .u64 q∧bs= .int .i64 b∧0≤p∧p≤4294967295∧0≤q∧q≤4294967295∧0≤b∧b≤1∧l≤O.length∧O.length≤l∧Y6 wr w.heap.size O∧okD O∧Below w.heap.size w wr∧
  (vt O k:Int)+(p - q - b) * ((B32^k:Nat):Int)=u * vt xs k - v * vt ys k) (fun _ _ _ i _=>l - (intOf i).toNat)
 case atStart=>exact ⟨0,List.replicate l 0,0,0,0,by omega,rfl,rfl,rfl,rfl,by omega,by omega,by omega,by omega,by omega,by omega,by simp,by simp,Y6.zeros w _,ZR _,(JR _ _).alloc (JY _) _,by simp [Xg]⟩
 case round=>
  obtain ⟨k,O,p,q,b,hk,rfl,rfl,rfl,rfl,p0,p1,q0,q1,b0,b1,hO,g,hB,ok,a,j⟩:=hrel;have HE:=JZ j;clear j;rcases JX k l with hkl | hkl
  ·have ho:=hB.cell (k:=k) (by omega);have hf:=hB.frozen k;have x0:=Zu xs k;have x1:=Yu h1.ok k;have y0:=Zu ys k;have y1:=Yu h2.ok k;have a0:0≤u * di xs k:=Int.mul_nonneg u0 x0;have a1:u * di xs k≤4294967295 * 4294967295:=Int.mul_le_mul u1 x1 x0 (by omega);have c0:0≤v * di ys k:=Int.mul_nonneg w0 y0;have c1:v * di ys k≤4294967295 * 4294967295:=Int.mul_le_mul w1 y1 y0 (by omega);obtain ⟨bx,y,rfl,t,d⟩:=h1.at_ (by omega);have hx:=We a t d hkl;clear d;rcases JX k l2 with hk2 | hk2
   ·skip
    obtain ⟨bY,z,rfl,x,f⟩:=h2.at_ (by omega);have hy:=We a x f hk2;clear f;have r:=Va (show 0≤p+u * di xs k by omega) (show p+u * di xs k≤18446744073709551615 by omega);have s:=Va (show 0≤q+v * di ys k by omega) (show q+v * di ys k≤18446744073709551615 by omega);go_wp2
    ·go_roundw
     case rel=>exact ⟨k+1,O.set k _,_,_,1,by omega,by go_num,rfl,rfl,rfl,by omega,by omega,by omega,by omega,by omega,by omega,by simpa using hO,by simpa using g,hB.setI k (by omega),ZT ok k (by unfold B32;omega),a.setCell (JY _) _,WN (pr:=(p+u * di xs k) % 4294967296) (qr:=(q+v * di ys k) % 4294967296) (by omega) (by omega) (by omega) (by omega) (by omega) HE.out⟩
     case measure=>simp [intOf];omega
    ·go_roundw
     case rel=>exact ⟨k+1,O.set k _,_,_,0,by omega,by go_num,rfl,rfl,rfl,by omega,by omega,by omega,by omega,by omega,by omega,by simpa using hO,by simpa using g,hB.setI k (by omega),ZT ok k (by unfold B32;omega),a.setCell (JY _) _,WN (pr:=(p+u * di xs k) % 4294967296) (qr:=(q+v * di ys k) % 4294967296) (by omega) (by omega) (by omega) (by omega) (by omega) HE.out⟩
     case measure=>simp [intOf];omega
   ·have h:di ys k=0:=(by rw [YE,Vo (by omega)];rfl);have HY:=JZ h;clear h;have r:=Va (show 0≤p+u * di xs k by omega) (show p+u * di xs k≤18446744073709551615 by omega);have s:=Va (show 0≤q by omega) (show q≤18446744073709551615 by omega);go_wp2
    ·go_roundw
     case rel=>exact ⟨k+1,O.set k _,_,_,1,by omega,by go_num,rfl,rfl,rfl,by omega,by omega,by omega,by omega,by omega,by omega,by simpa using hO,by simpa using g,hB.setI k (by omega),ZT ok k (by unfold B32;omega),a.setCell (JY _) _,WN (pr:=(p+u * di xs k) % 4294967296) (qr:=(q) % 4294967296) (by omega) (by omega) (by omega) (by rw [HY.out];omega) (by omega) HE.out⟩
     case measure=>simp [intOf];omega
    ·go_roundw
     case rel=>exact ⟨k+1,O.set k _,_,_,0,by omega,by go_num,rfl,rfl,rfl,by omega,by omega,by omega,by omega,by omega,by omega,by simpa using hO,by simpa using g,hB.setI k (by omega),ZT ok k (by unfold B32;omega),a.setCell (JY _) _,WN (pr:=(p+u * di xs k) % 4294967296) (qr:=(q) % 4294967296) (by omega) (by omega) (by omega) (by rw [HY.out];omega) (by omega) HE.out⟩
     case measure=>simp [intOf];omega
  ·obtain rfl:k=l:=by omega
   go_wp2_with fail;refine (Yg _ O _ ?_).mono ?_
   ·have:=hB.dig ok (c:=k) g (by unfold maxLen;omega)
    rwa [show O.length=k from by omega] at this
   rintro e w1 ⟨v',rfl,hv,rfl⟩;go_wp2_with fail;go_ret;refine ⟨_,rfl,?_,a⟩
   rwa [Ztr ok (show O.length=k by omega) (by omega) (by omega) HR.out (by have:=m.out;rwa [show xs.length=k from by omega] at this) HE.out] at hv
end Go.Proofs.YtgbhebappffbdaaGreat
namespace Go.Proofs.YtgbhebappffbdaaGreat
open Go.RowKit
open Pl
attribute [local go_sem ↓] Go.wp_at_zero Go.wp_at_succ
section
def Bk (w:World) (g:Nat) (t:TypeId) (cs:List Value):Prop:=w.heap[g]? =some (.cells cs.toArray t (0,0))
section
variable {w w':World} {g:Nat} {t:TypeId} {cs:List Value}
theorem Bk.lt (h:Bk w g t cs):g < w.heap.size:=YA h
theorem Bk.cell (h:Bk w g t cs) (i:Nat):w.cell? ⟨g,i,none⟩=cs[i]? :=by rw [cell_of_row w g i _ t (0,0) h];simp
theorem Bk.cellAt (h:Bk w g t cs) (i:Nat) {v:Value} (hv:cs[i]? =some v):w.cell? ⟨g,i,none⟩=some v:=by rw [h.cell,hv]
theorem Bk.frozen (h:Bk w g t cs) (i:Nat):w.frozen? ⟨g,i,none⟩=false:=frozen_of_row w g i _ t h
theorem Bk.new (w:World) (t:TypeId) (cs:List Value):Bk (w.alloc (.cells cs.toArray t)) w.heap.size t cs:=heap_alloc_new w _
theorem Bk.alloc (h:Bk w g t cs) (o:Obj):Bk (w.alloc o) g t cs:=(Below.heap_alloc w o g h.lt).trans h
theorem Bk.drew (h:Bk w g t cs):Bk w.drew g t cs:=h
theorem Bk.drewN (h:Bk w g t cs) (n:Nat):Bk (w.drewN n) g t cs:=h
theorem Bk.set_ (h:Bk w g t cs) (i:Nat) (u:Value):Bk (w.setCell ⟨g,i,none⟩ u) g t (cs.set i u):=by
 unfold Bk at h ⊢;rw [heap_setCell_same w g i _ t u h];simp
theorem Bk.far (h:Bk w g t cs) {p:Addr} (hp:g≠p.block) (u:Value):Bk (w.setCell p u) g t cs:=(Below.heap_setCell w p u g hp).trans h
theorem Bk.below {B:Nat} (h:Bk w g t cs) (hb:Below B w w') (hg:g < B):Bk w' g t cs:=(hb.block g hg).trans h
theorem Bk.later (h:Bk w g t cs) (hb:Below w.heap.size w w'):Bk w' g t cs:=h.below hb h.lt
theorem Bk.grown {row:Option Nat} (h:Bk w g t cs) (hg:w.grownBy w' row) (hne:some g≠row):Bk w' g t cs:=(hg.block g h.lt hne).trans h
theorem Bk.ne_of {g':Nat} {t':TypeId} {cs':List Value} (h:Bk w g t cs) (h':Bk w g' t' cs') (hne:t≠t'):g≠g':=by
 rintro rfl;unfold Bk at h h';rw [h] at h';injection h' with h';injection h' with _ h2 _;exact hne h2
theorem Bk.keepD (h:Bk w g t cs) (ht:t≠148) (i:Nat) (u:Value):ZG w (w.setCell ⟨g,i,none⟩ u):=ZG.setCell h ht i u
end
theorem Zp {P:Program} {fn:Func} {R:Ending→World→Prop} {a:Act} {w:World} {p:Tmp} {ty:TypeId} {g:Nat} {t:TypeId} {cs:List Value} {fs:Array Field} (hres:fn.results=#[.cell p ty]) (hu:P.underlying ty=some (.struct fs)) (hi:(P.info? ty).map (·.size)=some cs.length)
 (hp:a.tmps.getD p undef= .pointer (some ⟨g,0,none⟩)) (hB:Bk w g t cs) (hd:a.defers=[]) (hR:R (.returned (.agg cs.toArray)) w):bodyPost P fn R .ret a w:=
 bodyPost_ret (results_cell_row hres a.tmps w g t cs.toArray (0,0) _ hp hB hu rfl (by simpa using hi)) hd hR
end
namespace Pl
structure RI where
 neg:Bool
 ds:List Nat
def RI.z (a:RI):Int:=if a.neg then -(val a.ds:Int) else (val a.ds:Int)
def canI (z:Int):RI:=⟨decide (z < 0),Zq z.natAbs⟩
def sm (neg:Bool) (n:Nat):Int:=if neg then -(n:Int) else (n:Int)
theorem RI.z_eq (a:RI):a.z=sm a.neg (val a.ds):=rfl
theorem Zrn (neg:Bool) (n:Nat) (h:n≠0):canI (sm neg n)=⟨neg,Zq n⟩:=by
 cases neg <;> simp [canI,sm] <;> omega
theorem canI_zero:canI 0=⟨false,[]⟩:=by simp [canI,digs_zero]
theorem Zes (neg:Bool):sm neg 0=0:=by cases neg <;> simp [sm]
theorem ZL (z:Int):(canI z).z=z:=by
 simp only [RI.z,canI,Zm];by_cases h:z < 0
 ·simp [h];omega
 ·simp [h];omega
theorem Z8 (a:RI):a.z.natAbs=val a.ds:=by
 unfold RI.z;split <;> simp
end Pl
def Yv (w:World) (v:Value) (a:RI):Prop:=∃s,v= .agg #[.bool a.neg,s]∧Z6 w s a.ds
theorem Yv.keep {w w':World} {v:Value} {a:RI} (h:Yv w v a) (hk:ZG w w'):Yv w' v a:=by
 obtain ⟨s,h1,h2⟩:=h;exact ⟨s,h1,h2.keep hk⟩
theorem Yv.below {w w':World} {v:Value} {a:RI} (h:Yv w v a) (hb:Below w.heap.size w w'):Yv w' v a:=h.keep (ZG.of_below hb)
theorem Yv.zero (w:World):Yv w (.agg #[.bool false,.slice none 0 0]) (canI 0):=by
 rw [canI_zero];exact ⟨_,rfl,Z6.nil _ _ _ (by simp)⟩
theorem Bk.two {w:World} {g:Nat} {t:TypeId} {a b:Value} (h:Bk w g t [a,b]):w.cell? ⟨g,0,none⟩=some a∧w.cell? ⟨g,1,none⟩=some b∧w.frozen? ⟨g,0,none⟩=false∧w.frozen? ⟨g,1,none⟩=false:=
 ⟨h.cellAt 0 rfl,h.cellAt 1 rfl,h.frozen 0,h.frozen 1⟩
theorem Bk.set2 {w:World} {g:Nat} {t:TypeId} {a b:Value} (h:Bk w g t [a,b]) (c d:Value):Bk ((w.setCell ⟨g,0,none⟩ c).setCell ⟨g,1,none⟩ d) g t [c,d]:=(h.set_ 0 c).set_ 1 d
theorem Bk.keep2 {w:World} {g:Nat} {t:TypeId} {a b:Value} (h:Bk w g t [a,b]) (ht:t≠148) (c d:Value):ZG w ((w.setCell ⟨g,0,none⟩ c).setCell ⟨g,1,none⟩ d):=
 (h.keepD ht _ _).trans ((h.set_ 0 c).keepD ht _ _)
theorem Yp {n g:Nat} {w w':World} (h:Below n w w') (hg:n≤g) (c d:Value):Below n w ((w'.setCell ⟨g,0,none⟩ c).setCell ⟨g,1,none⟩ d):=(h.setCell hg _).setCell hg _
theorem Zi (w:World) (o:Obj):Below w.heap.size w (w.alloc o):=(JR _ _).alloc (JY _) _
theorem Za {n:Nat} {w w1 w2:World} (h:Below n w w1) (h2:Below w1.heap.size w1 w2) (hn:n≤w1.heap.size):Below n w w2:=h.trans (h2.mono hn)
theorem Yv.shape {w:World} {v:Value} {a:RI} (h:Yv w v a):∃A n c,v= .agg #[.bool a.neg,.slice A n c]∧Z6 w (.slice A n c) a.ds:=by
 obtain ⟨s,rfl,h2⟩:=h;obtain ⟨A,n,c,rfl⟩:=h2.shape;exact ⟨A,n,c,rfl,h2⟩
theorem Y9 {w w2:World} {m g:Nat} {x y b s:Value} {a:RI} (hR:Bk w2 g 44 [x,y]) (d:Yv w2 (.agg #[b,s]) a) (hbe:Below m w w2) (hg:m≤g):
 ∃v',Ending.returned (.agg [b,s].toArray)= .returned v'∧Yv ((w2.setCell ⟨g,0,none⟩ b).setCell ⟨g,1,none⟩ s) v' a∧Below m w ((w2.setCell ⟨g,0,none⟩ b).setCell ⟨g,1,none⟩ s):=
 ⟨_,rfl,d.keep (hR.keep2 (by decide) _ _),Yp hbe hg _ _⟩
theorem Zlt (neg:Bool) (v:Value) (ds:List Nat) (w:World) (h:Z6 w v ds):
 Calls Tryz.prog 125 #[.bool neg,v] w fun e w'=>∃v',e= .returned v'∧Yv w' v' (canI (sm neg (val ds)))∧Below w.heap.size w w':=by
 have hR:=Bk.new w 44 [.bool false,.slice none 0 0];have a:=Zi w (.cells [.bool false,.slice none 0 0].toArray 44);have h':=h.below a;go_enter Tryz.func125,Tryz.ntmps125;go_wp2_with fail;generalize w.alloc _=W at *;refine (Yg _ ds _ h').mono ?_;rintro e w1 ⟨v1,rfl,h1,rfl⟩;obtain ⟨A,n,c,rfl⟩:=h1.shape;obtain ⟨kl,b,d,kc⟩:=h1.len;obtain ⟨c0,c1,f0,f1⟩:=hR.two;rcases JV n with h0 | h0
 ·subst h0;have hv:val ds=0:=by
   rcases JV (val ds) with e | e
   ·exact e
   ·have:=Xx e;omega
  have HV:=JZ hv;clear hv kl b;go_wp2;refine Zp Tryz.results125 Tryz.underlying44 (by kernel_rfl) rfl (hR.set2 _ _) rfl ?_;exact ⟨_,rfl,by rw [HV.out,Zes];exact Yv.zero _,Yp a (JY _) _ _⟩
 ·have hv:val ds≠0:=by
   intro e;rw [e,digs_zero] at kl;simp at kl;omega
  have HV:=JZ hv;clear hv kl b;go_wp2;refine Zp Tryz.results125 Tryz.underlying44 (by kernel_rfl) rfl (hR.set2 _ _) rfl ?_;refine ⟨_,rfl,?_,Yp a (JY _) _ _⟩;rw [Zrn _ _ HV.out];exact ⟨_,rfl,h1.keep (hR.keep2 (by decide) _ _)⟩
theorem Xi (z:Int) (w:World) (h0: -9223372036854775808≤z) (h1:z≤9223372036854775807):
 Calls Tryz.prog 74 #[.int .i64 z] w fun e w'=>∃v',e= .returned v'∧Yv w' v' (canI z)∧Below w.heap.size w w':=by
 have hR:=Bk.new w 44 [.bool false,.slice none 0 0];have d:=Zi w (.cells [.bool false,.slice none 0 0].toArray 44);rcases Int.lt_or_le z 0 with hn | hn
 ·have e1:IntKind.u64.wrap z=z+18446744073709551616:=by simp [IntKind.wrap,IntKind.bits,IntKind.signed];omega
  have e2:IntKind.u64.wrap (-(z+18446744073709551616))= -z:=by simp [IntKind.wrap,IntKind.bits,IntKind.signed];omega
  go_enter Tryz.func74,Tryz.ntmps74;go_wp2_with fail;generalize w.alloc _=W at *;refine (Xd (-z) _ (by omega) (by omega)).mono ?_;rintro e w1 ⟨v1,rfl,d1,b⟩;go_wp2_with fail;refine (Zlt true _ _ _ d1).mono ?_;have hz:sm true (val (Zq (-z).toNat))=z:=by rw [Zm];simp [sm];omega
  rw [hz];rintro e w2 ⟨v2,rfl,d2,f⟩;obtain ⟨A,n,c,rfl,_⟩:=d2.shape;have a:=(hR.later b).later f;obtain ⟨c0,c1,f0,f1⟩:=a.two;go_wp2;refine Zp Tryz.results74 Tryz.underlying44 (by kernel_rfl) rfl (a.set2 _ _) rfl ?_;exact Y9 a d2 (Za (Za d b d.size) f (JW d.size b.size)) (JY _)
 ·have e1:IntKind.u64.wrap z=z:=u64_in _ hn (by omega);go_enter Tryz.func74,Tryz.ntmps74;go_wp2_with fail;generalize w.alloc _=W at *;refine (Xd z _ (by omega) (by omega)).mono ?_;rintro e w1 ⟨v1,rfl,d1,b⟩;go_wp2_with fail;refine (Zlt false _ _ _ d1).mono ?_;have hz:sm false (val (Zq z.toNat))=z:=by rw [Zm];simp [sm];omega
  rw [hz];rintro e w2 ⟨v2,rfl,d2,f⟩;obtain ⟨A,n,c,rfl,_⟩:=d2.shape;have a:=(hR.later b).later f;obtain ⟨c0,c1,f0,f1⟩:=a.two;go_wp2;refine Zp Tryz.results74 Tryz.underlying44 (by kernel_rfl) rfl (a.set2 _ _) rfl ?_;exact Y9 a d2 (Za (Za d b d.size) f (JW d.size b.size)) (JY _)
namespace Pl
def sgn (z:Int):Int:=if z < 0 then -1 else if z=0 then 0 else 1
theorem UR {z:Int} (h:z < 0):sgn z= -1:=by simp [sgn,h]
theorem sgn_zero:sgn 0=0:=by simp [sgn]
theorem Ui {z:Int} (h:0 < z):sgn z=1:=by simp [sgn];omega
theorem Vb {n:Nat} (h:(Zq n).length=0):n=0:=by
 rcases JV n with e | e
 ·exact e
 ·have:=Xx e;omega
theorem UT {n:Nat} (h:0 < (Zq n).length):n≠0:=by
 intro e;rw [e,digs_zero] at h;simp at h
end Pl
theorem Zaq (v:Value) (a:RI) (w:World) (h:Yv w v a):
 Calls Tryz.prog 124 #[v] w fun e w'=>e= .returned (.int .i64 (sgn a.z))∧Below w.heap.size w w':=by
 obtain ⟨A,n,c,rfl,hd⟩:=h.shape;obtain ⟨d,ds⟩:=a;simp only at hd ⊢;have hR:=Bk.new w 44 [.bool d,.slice A n c];have b:=Zi w (.cells [.bool d,.slice A n c].toArray 44);go_enter Tryz.func124,Tryz.ntmps124;go_wp2_with fail;have g:=hd.below b;generalize w.alloc _=W at *;obtain ⟨c0,c1,f0,f1⟩:=hR.two;refine (Yg _ ds _ g).mono ?_;rintro e w1 ⟨v1,rfl,h1,rfl⟩;obtain ⟨A1,n1,k1,rfl⟩:=h1.shape;obtain ⟨kl,f,i,kc⟩:=h1.len;rcases JV n1 with h0 | h0
 ·subst h0;have hv:val ds=0:=Vb (by omega);have hz:sgn (RI.z ⟨d,ds⟩)=0:=by rw [RI.z_eq,hv,Zes,sgn_zero]
  have HZ:=JZ hz;clear hv hz kl f;go_wp2;go_ret;exact ⟨by rw [HZ.out];rfl,b⟩
 ·have hv:val ds≠0:=UT (by omega);clear kl f
  cases d
  ·have hz:sgn (RI.z ⟨false,ds⟩)=1:=(by rw [RI.z_eq];exact Ui (by simp [sm];omega));have HZ:=JZ hz;clear hv hz;go_wp2;go_ret;exact ⟨by rw [HZ.out];rfl,b⟩
  ·have hz:sgn (RI.z ⟨true,ds⟩)= -1:=(by rw [RI.z_eq];exact UR (by simp [sm];omega));have HZ:=JZ hz;clear hv hz;go_wp2;go_ret;exact ⟨by rw [HZ.out];rfl,b⟩
theorem size_alloc (w:World) (o:Obj):(w.alloc o).heap.size=w.heap.size+1:=by simp
theorem Ynp (w:World) (x y:Value):∃W,(w.alloc (.cells #[x,y] 44)).alloc (.cells #[.bool false,.slice none 0 0] 44)=W∧Bk W w.heap.size 44 [x,y]∧Bk W (w.heap.size+1) 44 [.bool false,.slice none 0 0]∧Below w.heap.size w W:=by
 refine ⟨_,rfl,(Bk.new w _ [x,y]).alloc _,?_,(Zi w _).alloc (by simp) _⟩;have:=Bk.new (w.alloc (.cells #[x,y] 44)) 44 [.bool false,.slice none 0 0]
 rwa [size_alloc] at this
theorem Ygz (w:World) (x y x' y':Value):∃W,((w.alloc (.cells #[x,y] 44)).alloc (.cells #[x',y'] 44)).alloc (.cells #[.bool false,.slice none 0 0] 44)=W∧Bk W w.heap.size 44 [x,y]∧Bk W (w.heap.size+1) 44 [x',y']∧Bk W (w.heap.size+1+1) 44 [.bool false,.slice none 0 0]∧Below w.heap.size w W:=by
 refine ⟨_,rfl,((Bk.new w _ [x,y]).alloc _).alloc _,?_,?_,((Zi w _).alloc (by simp) _).alloc (by simp;omega) _⟩
 ·have:=Bk.new (w.alloc (.cells #[x,y] 44)) 44 [x',y'];rw [size_alloc] at this;exact this.alloc _
 ·have:=Bk.new ((w.alloc (.cells #[x,y] 44)).alloc (.cells #[x',y'] 44)) 44 [.bool false,.slice none 0 0]
  rwa [size_alloc,size_alloc] at this
theorem Bk.pair {w:World} {g:Nat} {t:TypeId} {a b:Value} (h:Bk w g t [a,b]):w.cell? ⟨g,0,none⟩=some a∧w.cell? ⟨g,1,none⟩=some b:=⟨h.two.1,h.two.2.1⟩
theorem Bk.two_far {w:World} {g g':Nat} {t:TypeId} {a b:Value} (h:Bk w g t [a,b]) (hne:g≠g') (c d:Value):((w.setCell ⟨g',0,none⟩ c).setCell ⟨g',1,none⟩ d).cell? ⟨g,0,none⟩=some a∧((w.setCell ⟨g',0,none⟩ c).setCell ⟨g',1,none⟩ d).cell? ⟨g,1,none⟩=some b:=
 ((h.far (p:=⟨g',0,none⟩) hne c).far (p:=⟨g',1,none⟩) hne d).pair
theorem Zk {w w':World} {p:Addr} {v:Value} (hb:Below w.heap.size w w') (h:w.cell? p=some v):w'.cell? p=some v:=cell_later hb h
theorem Yha (neg:Bool) (n:Nat):sm (!neg) n= - sm neg n:=by cases neg <;> simp [sm]
theorem Yo (neg:Bool) (v:Value) (n:Nat) (w:World) (h:Z6 w v (Zq n)):
 Calls Tryz.prog 125 #[.bool neg,v] w fun e w'=>∃v',e= .returned v'∧Yv w' v' (canI (sm neg n))∧Below w.heap.size w w':=by
 have:=Zlt neg v (Zq n) w h
 rwa [Zm] at this
theorem V3 (v:Value) (a:RI) (w:World) (h:Yv w v a) (hs:(Zq (val a.ds)).length≤549755813888):
 Calls Tryz.prog 78 #[v] w fun e w'=>∃v',e= .returned v'∧Yv w' v' (canI (- a.z))∧Below w.heap.size w w':=by
 obtain ⟨A,n,c,rfl,hd⟩:=h.shape;obtain ⟨g,ds⟩:=a;simp only at hd hs ⊢;obtain ⟨W,hW,hX,hR,f⟩:=Ynp w (.bool g) (.slice A n c);have i:=hd.below f;go_enter Tryz.func78,Tryz.ntmps78;go_wp2_with fail;clear hW;obtain ⟨x0,x1,y0,y1⟩:=hX.two
 go_region_held3 (fun w'=>w'.cell? ⟨w.heap.size,0,none⟩=some (.bool g)∧w'.cell? ⟨w.heap.size,1,none⟩=some (.slice A n c))
  (first | exact ⟨x0,x1⟩ | exact (hX.drew.later b).pair | exact ((hX.drew.later b).later d).pair | exact ((hX.drew.later b).later d).two_far (by omega) _ _)
  (first
   | (go_at_call 131;refine (Yg _ ds _ (i.keep (ZG.drew _))).mono ?_;rintro e w1 ⟨v1,rfl,h1,rfl⟩)
   | (go_at_call 130;refine (Zcu _ _ _ h1 (by omega)).mono ?_;rintro e w2 ⟨v2,rfl,h2,b⟩)
   | (go_at_call 125;refine (Yo (!g) _ _ _ (VU h2 (Yj _))).mono ?_;rintro e w3 ⟨v3,rfl,h3,d⟩;obtain ⟨A3,n3,k3,rfl,_⟩:=h3.shape;obtain ⟨c0,c1,f0,f1⟩:=((hR.drew.later b).later d).two))
 go_wp2;refine Zp Tryz.results78 Tryz.underlying44 (by kernel_rfl) rfl (((hR.drew.later b).later d).set2 _ _) rfl ?_;rw [RI.z_eq,← Yha];exact Y9 ((hR.drew.later b).later d) h3 (Za (Za f.drew b f.size) d (JW f.size b.size)) (Nat.le_succ _)
namespace Pl
theorem Zhi (b:Bool) (X Y:Nat):sm b X+sm b Y=sm b (X+Y):=by cases b <;> simp [sm] <;> omega
theorem Zts {a b:Bool} (hab:(a==b)=false) {X Y:Nat} (h:Y≤X):sm a X+sm b Y=sm a (X - Y):=by cases a <;> cases b <;> simp [sm] at hab ⊢ <;> omega
theorem Ztt {a b:Bool} (hab:(a==b)=false) {X Y:Nat} (h:X≤Y):sm a X+sm b Y=sm b (Y - X):=by cases a <;> cases b <;> simp [sm] at hab ⊢ <;> omega
end Pl
theorem Zcx (a b:Bool) (v1 v2:Value) (X Y:Nat) (w:World) (h1:Z6 w v1 (Zq X)) (h2:Z6 w v2 (Zq Y)) (hs:(Zq X).length≤549755813888) (hs2:(Zq Y).length≤549755813888):
 Calls Tryz.prog 154 #[.bool a,v1,.bool b,v2] w fun e w'=>∃v',e= .returned v'∧Yv w' v' (canI (sm a X+sm b Y))∧Below w.heap.size w w':=by
 have hR:=Bk.new w 44 [.bool false,.slice none 0 0];have f:=Zi w (.cells [.bool false,.slice none 0 0].toArray 44);have d1:=h1.below f;have d2:=h2.below f;by_cases k:(a==b)=true
 ·obtain rfl:a=b:=by simpa using k
  go_enter Tryz.func154,Tryz.ntmps154;go_wp2_with fail;generalize w.alloc _=W at *;refine (Zeo _ _ (Zq X) (Zq Y) _ d1 d2 hs hs2).mono ?_;rw [Zm,Zm];rintro e w1 ⟨v1,rfl,e1,g⟩;go_wp2_with fail;refine (Yo a _ _ _ e1).mono ?_;rw [← Zhi];rintro e w2 ⟨v2,rfl,e2,i⟩;obtain ⟨A,n,c,rfl,_⟩:=e2.shape;have d:=(hR.later g).later i;obtain ⟨c0,c1,f0,f1⟩:=d.two;go_wp2;refine Zp Tryz.results154 Tryz.underlying44 (by kernel_rfl) rfl (d.set2 _ _) rfl ?_;exact Y9 d e2 (Za (Za f g f.size) i (JW f.size g.size)) (JY _)
 ·have j:(a==b)=false:=by simpa using k
  clear k;rcases JX X Y with hXY | hXY
  ·have hc:cmpN X Y= -1:=UQ hXY;go_enter Tryz.func154,Tryz.ntmps154;go_wp2_with fail;generalize w.alloc _=W at *;refine (Yq _ _ X Y _ d1 d2).mono ?_;rw [hc];rintro e w0 ⟨rfl,h⟩;go_wp2_with fail;refine (Zao _ _ (Zq Y) (Zq X) _ (d2.below h) (d1.below h) (by rw [Zm,Zm];omega) (Zy (Nat.le_of_lt hXY)) hs2).mono ?_;rw [Zm,Zm];rintro e w1 ⟨v1,rfl,e1,g⟩;go_wp2_with fail;refine (Yo b _ _ _ e1).mono ?_;rw [← Ztt j (Nat.le_of_lt hXY)];rintro e w2 ⟨v2,rfl,e2,i⟩;obtain ⟨A,n,c,rfl,_⟩:=e2.shape;have d:=((hR.later h).later g).later i;obtain ⟨c0,c1,f0,f1⟩:=d.two;go_wp2;refine Zp Tryz.results154 Tryz.underlying44 (by kernel_rfl) rfl (d.set2 _ _) rfl ?_;have b0:=Za f h f.size;have b1:=Za b0 g b0.size;exact Y9 d e2 (Za b1 i b1.size) (JY _)
  ·have hc:0≤cmpN X Y:=(by unfold cmpN;split;omega;split <;> omega);have l:=Zrb X Y;go_enter Tryz.func154,Tryz.ntmps154;go_wp2_with fail;generalize w.alloc _=W at *;refine (Yq _ _ X Y _ d1 d2).mono ?_;rintro e w0 ⟨rfl,h⟩;generalize cmpN X Y=cc at *;go_wp2_with fail;refine (Zao _ _ (Zq X) (Zq Y) _ (d1.below h) (d2.below h) (by rw [Zm,Zm];omega) (Zy hXY) hs).mono ?_;rw [Zm,Zm];rintro e w1 ⟨v1,rfl,e1,g⟩;go_wp2_with fail;refine (Yo a _ _ _ e1).mono ?_;rw [← Zts j hXY];rintro e w2 ⟨v2,rfl,e2,i⟩;obtain ⟨A,n,c,rfl,_⟩:=e2.shape;have d:=((hR.later h).later g).later i;obtain ⟨c0,c1,f0,f1⟩:=d.two;go_wp2;refine Zp Tryz.results154 Tryz.underlying44 (by kernel_rfl) rfl (d.set2 _ _) rfl ?_;have b0:=Za f h f.size;have b1:=Za b0 g b0.size;exact Y9 d e2 (Za b1 i b1.size) (JY _)
theorem Ztu (v1 v2:Value) (a b:RI) (w:World) (h1:Yv w v1 a) (h2:Yv w v2 b) (hs:(Zq (val a.ds)).length≤549755813888) (hs2:(Zq (val b.ds)).length≤549755813888):
 Calls Tryz.prog 137 #[v1,v2] w fun e w'=>∃v',e= .returned v'∧Yv w' v' (canI (a.z+b.z))∧Below w.heap.size w w':=by
 obtain ⟨A,n,c,rfl,hd⟩:=h1.shape;obtain ⟨A',n',c',rfl,l⟩:=h2.shape;obtain ⟨h,ds⟩:=a;obtain ⟨f,o⟩:=b;simp only at hd hs l hs2 ⊢;obtain ⟨W,hW,hX,i,hR,g⟩:=Ygz w (.bool h) (.slice A n c) (.bool f) (.slice A' n' c');have m:=hd.below g;have j:=l.below g;have k:True:=trivial;go_enter Tryz.func137,Tryz.ntmps137;go_wp2_with fail;clear hW
 go_region_held3 (fun w'=>(w'.cell? ⟨w.heap.size,0,none⟩=some (.bool h)∧w'.cell? ⟨w.heap.size,1,none⟩=some (.slice A n c))∧(w'.cell? ⟨w.heap.size+1,0,none⟩=some (.bool f)∧w'.cell? ⟨w.heap.size+1,1,none⟩=some (.slice A' n' c')))
  (first | exact ⟨hX.pair,i.pair⟩ | exact ⟨(hX.drew.later d).pair,(i.drew.later d).pair⟩ | exact ⟨(hX.drew.later d).two_far (by omega) _ _,(i.drew.later d).two_far (by omega) _ _⟩)
  (first
   | (go_at_call 131;have _t:=k;refine (Yg _ ds _ (m.keep (ZG.drew _))).mono ?_;clear k _t;rintro e w1 ⟨v1,rfl,e1,rfl⟩)
   | (go_at_call 131;refine (Yg _ o _ (j.keep (ZG.drew _))).mono ?_;rintro e w1 ⟨v2,rfl,e2,rfl⟩)
   | (go_at_call 154;refine (Zcx h f _ _ _ _ _ e1 e2 hs hs2).mono ?_;rintro e w3 ⟨v3,rfl,h3,d⟩;obtain ⟨A3,n3,k3,rfl,_⟩:=h3.shape;obtain ⟨c0,c1,f0,f1⟩:=(hR.drew.later d).two))
 go_wp2;refine Zp Tryz.results137 Tryz.underlying44 (by kernel_rfl) rfl ((hR.drew.later d).set2 _ _) rfl ?_;exact Y9 (hR.drew.later d) h3 (Za g.drew d g.size) (by omega)
theorem boxes (w:World) (x y x' y':Value):∃W,(w.alloc (.cells #[x,y] 44)).alloc (.cells #[x',y'] 44)=W∧Bk W w.heap.size 44 [x,y]∧Bk W (w.heap.size+1) 44 [x',y']∧Below w.heap.size w W:=by
 refine ⟨_,rfl,(Bk.new w _ [x,y]).alloc _,?_,(Zi w _).alloc (by simp) _⟩;have:=Bk.new (w.alloc (.cells #[x,y] 44)) 44 [x',y']
 rwa [size_alloc] at this
namespace Pl
theorem Zzo (X Y:Nat):sgn ((X:Int) - Y)=cmpN X Y:=by
 unfold sgn cmpN;rcases Nat.lt_trichotomy X Y with h | h | h
 ·rw [if_pos (by omega),if_pos h]
 ·subst h;simp
 ·rw [if_neg (by omega),if_neg (by omega),if_neg (by omega),if_neg (by omega)]
theorem Yit (X Y:Nat):sgn (sm true X - sm true Y)=cmpN Y X:=by rw [← Zzo];simp [sm];congr 1;omega
theorem Zlu (X Y:Nat):sgn (sm false X - sm false Y)=cmpN X Y:=by rw [← Zzo];simp [sm]
theorem Zzp (X Y:Nat) (h:X≠0):sgn (sm true X - sm false Y)= -1:=by apply UR;simp [sm];omega
theorem Zzq (X Y:Nat) (h:Y≠0):sgn (sm false X - sm true Y)=1:=by apply Ui;simp [sm];omega
theorem Ylg {n:Nat} (h:n=0) (b:Bool):sm b n=sm false n:=by subst h;simp [sm]
end Pl
theorem UV (v1 v2:Value) (a b:RI) (w:World) (h1:Yv w v1 a) (h2:Yv w v2 b):
 Calls Tryz.prog 92 #[v1,v2] w fun e w'=>e= .returned (.int .i64 (sgn (a.z - b.z)))∧Below w.heap.size w w':=by
 obtain ⟨A,n,c,rfl,hd⟩:=h1.shape;obtain ⟨A',n',c',rfl,C⟩:=h2.shape;obtain ⟨o,ds⟩:=a;obtain ⟨i,g⟩:=b;simp only at hd C ⊢;obtain ⟨W,hW,hX,j,k⟩:=boxes w (.bool o) (.slice A n c) (.bool i) (.slice A' n' c');have p:=hd.below k;have l:=C.below k;rw [RI.z_eq,RI.z_eq];simp only;have q:True:=trivial;go_enter Tryz.func92,Tryz.ntmps92;go_wp2_with fail;clear hW;obtain ⟨x0,x1,_,_⟩:=hX.two;obtain ⟨D,E,_,_⟩:=j.two
 go_region_held3 (fun w'=>(w'.cell? ⟨w.heap.size,0,none⟩=some (.bool o)∧w'.cell? ⟨w.heap.size,1,none⟩=some (.slice A n c))∧(w'.cell? ⟨w.heap.size+1,0,none⟩=some (.bool i)∧w'.cell? ⟨w.heap.size+1,1,none⟩=some (.slice A' n' c')))
  (exact ⟨hX.pair,j.pair⟩)
  (first
   | (go_at_call 131;have _t:=q;refine (Yg _ ds _ (p.keep (ZG.drew _))).mono ?_;clear q _t;rintro e w1 ⟨v1,rfl,e1,rfl⟩)
   | (go_at_call 131;refine (Yg _ g _ (l.keep (ZG.drew _))).mono ?_;rintro e w1 ⟨v2,rfl,e2,rfl⟩))
 have F:=hX.drew;have r:=j.drew;have d:=k.drew;clear hX j k p l x0 x1 D E;generalize W.drew=W2 at *;obtain ⟨x0,x1,_,_⟩:=F.two;obtain ⟨D,E,_,_⟩:=r.two;obtain ⟨A1,n1,c1,rfl⟩:=e1.shape;obtain ⟨kl,G,I,kc⟩:=e1.len;obtain ⟨A2,n2,c2,rfl⟩:=e2.shape;obtain ⟨jl,H,J,jc⟩:=e2.len;have s:n1=0→val ds=0:=fun h=>Vb (by omega)
 have t:0 < n1→val ds≠0:=fun h=>UT (by omega)
 have u:n2=0→val g=0:=fun h=>Vb (by omega)
 have v:0 < n2→val g≠0:=fun h=>UT (by omega)
 have x:=JZ s;have y:=JZ t;have m:=JZ u;have B:=JZ v;clear s t u v kl G jl H
 cases o
 ·cases i
  ·go_wp2_with fail;refine (Yq _ _ (val ds) (val g) _ e1 e2).mono ?_;rintro e w3 ⟨rfl,f⟩;go_wp2;go_ret;exact ⟨by rw [Zlu];rfl,Za d f d.size⟩
  ·rcases JV n2 with h0 | h0
   ·have ZY:=JZ (m.out h0);subst h0;go_wp2_with fail;refine (Yq _ _ (val ds) (val g) _ e1 e2).mono ?_;rintro e w3 ⟨rfl,f⟩;go_wp2;go_ret;exact ⟨by rw [Ylg ZY.out true,Zlu];rfl,Za d f d.size⟩
   ·go_wp2;go_ret;exact ⟨by rw [Zzq _ _ (B.out h0)];rfl,d⟩
 ·cases i
  ·rcases JV n1 with h0 | h0
   ·have ZX:=JZ (x.out h0);subst h0;go_wp2_with fail;refine (Yq _ _ (val ds) (val g) _ e1 e2).mono ?_;rintro e w3 ⟨rfl,f⟩;go_wp2;go_ret;exact ⟨by rw [Ylg ZX.out true,Zlu];rfl,Za d f d.size⟩
   ·go_wp2;go_ret;exact ⟨by rw [Zzp _ _ (y.out h0)];rfl,d⟩
  ·rcases JV n1 with h0 | h0
   ·have ZX:=JZ (x.out h0);subst h0;rcases JV n2 with h0 | h0
    ·have ZY:=JZ (m.out h0);subst h0;go_wp2_with fail;refine (Yq _ _ (val ds) (val g) _ e1 e2).mono ?_;rintro e w3 ⟨rfl,f⟩;go_wp2;go_ret;exact ⟨by rw [Ylg ZX.out true,Ylg ZY.out true,Zlu];rfl,Za d f d.size⟩
    ·go_wp2;go_ret;exact ⟨by rw [Ylg ZX.out true,Zzq _ _ (B.out h0)];rfl,d⟩
   ·rcases JV n2 with h1 | h1
    ·have ZY:=JZ (m.out h1);subst h1;go_wp2;go_ret;exact ⟨by rw [Ylg ZY.out true,Zzp _ _ (y.out h0)];rfl,d⟩
    ·go_wp2_with fail;refine (Yq _ _ (val g) (val ds) _ e2 e1).mono ?_;rintro e w3 ⟨rfl,f⟩;go_wp2;go_ret;exact ⟨by rw [Yit];rfl,Za d f d.size⟩
end Go.Proofs.YtgbhebappffbdaaGreat
