/- Lemmas of the claim; no condition. -/
import Derived.Test.YtncmobkhenfhpaaGreatProg
import Derived.WalkKit
import Derived.WalkSpells
import Derived.WalkLawsBesides
import Derived.Lib.Hide
import Derived.Deep.QuietTactic
import Derived.BigQuiet
import Derived.Laws.BitsAllLaws
set_option linter.all false
set_option maxRecDepth 100000
set_option maxHeartbeats 40000000
namespace Go.Proofs.YtncmobkhenfhpaaGreat
open Go.RowKit
namespace Pl
end Pl
open Pl
theorem pu1 {α : Type _} (l : List α) (i : Nat) (a : α) : l.toArray.setIfInBounds i a = (l.set i a).toArray := List.setIfInBounds_toArray l i a
theorem pu2 {α : Type _} {a : α} {xs : List α} {b : α} : (a :: xs).set 0 b = b :: xs := List.set_cons_zero
theorem pu3 {α : Type _} {a : α} {xs : List α} {n : Nat} {b : α} : (a :: xs).set (n + 1) b = a :: xs.set n b := List.set_cons_succ
theorem pu4 {α : Type _} {l : List α} {i : Nat} (h : i < l.toArray.size) : l.toArray[i] = l[i]'(by simpa using h) := List.getElem_toArray h
theorem pu5 {α : Type _} (a : α) (xs : List α) (h : 0 < (a :: xs).length) : (a :: xs)[0] = a := List.getElem_cons_zero a xs h
theorem pu6 {α : Type _} (a : α) (xs : List α) (i : Nat) (h : i + 1 < (a :: xs).length) : (a :: xs)[i + 1] = xs[i]'(by simpa using h) := List.getElem_cons_succ a xs i h
theorem JZ {p : Prop} (h : p) : Hid p := Lib.hid h
theorem JY (n : Nat) : n ≤ n := Nat.le_refl n
theorem JX (a b : Nat) : a < b ∨ a ≥ b := Nat.lt_or_ge a b
theorem JW {n m k : Nat} (h : n ≤ m) (g : m ≤ k) : n ≤ k := Nat.le_trans h g
theorem JV (n : Nat) : n = 0 ∨ 0 < n := Nat.eq_zero_or_pos n
theorem JU {α : Type _} {l : List α} {i : Nat} (h : l.length ≤ i) : l[i]? = none := List.getElem?_eq_none h
theorem JT {a : Int} (h : 0 ≤ a) : ∃ n : Nat, a = n := Int.eq_ofNat_of_zero_le h
theorem JS {m n : Nat} (k : Nat) (h : m ≤ n) : m * k ≤ n * k := Nat.mul_le_mul_right k h
theorem JR (n : Nat) (w : World) : Below n w w := Below.refl n w
theorem JQ {α : Type _} {l : List α} {i : Nat} (h : i < l.length) : l[i]? = some l[i] := List.getElem?_eq_getElem h
theorem JP (n : Nat) : (n : Int).toNat = n := Int.toNat_natCast n
theorem JO {α : Type _} {l : List α} {i : Nat} {a : α} : l[i]? = some a ↔ ∃ h : i < l.length, l[i] = a := List.getElem?_eq_some_iff
namespace Pl
def B32:Nat:=4294967296
theorem B32_pos:0 < B32:=by decide
theorem B32_eq:B32=4294967296:=rfl
def val:List Nat→Nat
 | []=>0
 | d::ds=>d+B32 * val ds
def okD (ds:List Nat):Prop:=∀d∈ds,d < B32
theorem okD_nil:okD []:=by intro d h;cases h
theorem Zhg {d:Nat} {ds:List Nat}:okD (d::ds)↔d < B32∧okD ds:=by simp [okD]
theorem Zhh {a:List Nat} (h:okD a) (n:Nat):okD (a.take n):=fun d hd=>h d (List.mem_of_mem_take hd)
theorem Zcz {a:List Nat} (h:okD a) (n:Nat):okD (a.drop n):=fun d hd=>h d (List.mem_of_mem_drop hd)
theorem ZN {a:List Nat} (h:okD a) (i:Nat) {d:Nat} (hd:d < B32):okD (a.set i d):=fun x hx=>by
 rcases List.mem_or_eq_of_mem_set hx with h1 | h1
 ·exact h x h1
 ·exact h1▸hd
theorem ZM (n:Nat):okD (List.replicate n 0):=fun d hd=>by
 have:=List.eq_of_mem_replicate hd;subst this;exact B32_pos
def dg (ds:List Nat) (i:Nat):Nat:=ds.getD i 0
theorem Ztb {ds:List Nat} (h:okD ds) (i:Nat):dg ds i < B32:=by
 unfold dg;rw [List.getD_eq_getElem?_getD]
 cases hi:ds[i]? with
 | none=>exact B32_pos
 | some d=>exact h d (List.mem_of_getElem? hi)
theorem Yfz {ds:List Nat} (h:okD ds) (i:Nat):dg ds i≤4294967295:=by have:=Ztb h i;unfold B32 at this;omega
theorem Wu {ds:List Nat} {i:Nat} (h:i < ds.length):ds[i]? =some (dg ds i):=by
 simp [dg,JQ h]
theorem Wv {ds:List Nat} {i:Nat} (h:ds.length≤i):dg ds i=0:=by simp [dg,JU h]
theorem VT {ds:List Nat} {i d:Nat} (h:i < ds.length):dg (ds.set i d) i=d:=by simp [dg,h]
theorem Yj {ds:List Nat} {i j d:Nat} (h:i≠j):dg (ds.set i d) j=dg ds j:=by simp [dg,h]
theorem Ybf {ds:List Nat} {i n:Nat} (h:i < n):dg (ds.take n) i=dg ds i:=by simp [dg,h]
theorem WY {ds:List Nat} {i n:Nat}:dg (ds.drop n) i=dg ds (n+i):=by simp [dg]
def di (ds:List Nat) (i:Nat):Int:=(dg ds i:Nat)
theorem Yq (ds:List Nat) (i:Nat):di ds i=((dg ds i:Nat):Int):=rfl
theorem Zr (ds:List Nat) (i:Nat):0≤di ds i:=by unfold di;omega
theorem Yk {ds:List Nat} (h:okD ds) (i:Nat):di ds i≤4294967295:=by have:=Yfz h i;unfold di;omega
theorem UM {ds:List Nat} {i:Nat} (h:dg ds i=0):(di ds i==0)=true:=by simp [di,h]
theorem VU {ds:List Nat} {i:Nat} (h:dg ds i≠0):(di ds i==0)=false:=by simp [di,h]
def vt (ds:List Nat) (i:Nat):Nat:=val (ds.take i)
theorem val_append (a b:List Nat):val (a++b)=val a+B32^a.length * val b:=by
 induction a with
 | nil=>simp [val]
 | cons d a ih=>
  simp only [List.cons_append,val,ih,List.length_cons,Nat.pow_succ];rw [Nat.mul_add,← Nat.mul_assoc,Nat.mul_comm B32 (B32^a.length),Nat.add_assoc]
theorem YN (ds:List Nat):vt ds 0=0:=by simp [vt,val]
theorem Ztc {ds:List Nat} {i:Nat} (h:i < ds.length):vt ds (i+1)=vt ds i+dg ds i * B32^i:=by
 unfold vt;rw [List.take_succ_eq_append_getElem h,val_append,List.length_take,Nat.min_eq_left (Nat.le_of_lt h)];have:ds[i]=dg ds i:=by simp [dg,h]
 rw [this];simp [val,Nat.mul_comm]
theorem Xy {ds:List Nat} {i:Nat} (h:ds.length≤i):vt ds i=val ds:=by unfold vt;rw [List.take_of_length_le h]
theorem Yac (ds:List Nat):vt ds ds.length=val ds:=Xy (JY _)
theorem YO (ds:List Nat) (i:Nat):vt ds (i+1)=vt ds i+dg ds i * B32^i:=by
 rcases JX i ds.length with h | h
 ·exact Ztc h
 ·rw [Xy h,Xy (by omega),Wv h];simp
theorem Zdk {ds:List Nat} (h:okD ds):val ds < B32^ds.length:=by
 induction ds with
 | nil=>simp [val]
 | cons d ds ih=>
  obtain ⟨h1,h2⟩:=Zhg.1 h;have:=ih h2;simp only [val,List.length_cons,Nat.pow_succ];have h3:B32 * (val ds+1)≤B32 * B32^ds.length:=Nat.mul_le_mul_left _ this;rw [Nat.mul_comm (B32^ds.length)];rw [Nat.mul_add] at h3;omega
theorem Uz {ds:List Nat} (h:okD ds) (i:Nat):vt ds i < B32^i:=by
 have h1:=Zdk (Zhh h i);exact Nat.lt_of_lt_of_le h1 (Nat.pow_le_pow_right B32_pos (List.length_take_le _ _))
theorem Zjk {ds:List Nat} {i j d:Nat} (h:j≤i):vt (ds.set i d) j=vt ds j:=by
 unfold vt;rw [List.take_set_of_le h]
theorem UN {ds:List Nat} {i d:Nat} (h:i < ds.length):vt (ds.set i d) (i+1)=vt ds i+d * B32^i:=by
 rw [Ztc (by simpa using h),Zjk (JY _),VT h]
theorem Zxg {a b:List Nat} {n:Nat} (h:∀i,i < n→dg a i=dg b i):vt a n=vt b n:=by
 induction n with
 | zero=>simp [YN]
 | succ n ih=>rw [YO,YO,ih (fun i hi=>h i (by omega)),h n (by omega)]
theorem XB (n:Nat):val (List.replicate n 0)=0:=by
 induction n with
 | zero=>rfl
 | succ n ih=>simp [List.replicate_succ,val,ih]
theorem WO (n i:Nat):dg (List.replicate n 0) i=0:=by
 unfold dg;rw [List.getD_eq_getElem?_getD,List.getElem?_replicate];split <;> rfl
def Zo (n:Nat):List Nat:=if _h:n=0 then [] else (n % B32)::Zo (n / B32)
 termination_by n
 decreasing_by exact Nat.div_lt_self (by omega) (by decide)
theorem digs_zero:Zo 0=[]:=by rw [Zo];simp
theorem Wd {n:Nat} (h:0 < n):Zo n=(n % B32)::Zo (n / B32):=by
 rw [Zo,dif_neg (by omega)]
theorem Zmi {n:Nat}:Zo n=[]↔n=0:=by
 rcases JV n with h | h
 ·subst h;simp [digs_zero]
 ·rw [Wd h];simp;omega
theorem Zl (n:Nat):val (Zo n)=n:=by
 induction n using Nat.strongRecOn with
 | ind n ih=>
  rcases JV n with h | h
  ·subst h;simp [digs_zero,val]
  ·rw [Wd h];simp only [val];rw [ih _ (Nat.div_lt_self h (by decide))];exact Nat.mod_add_div n B32
theorem Yb (n:Nat):okD (Zo n):=by
 induction n using Nat.strongRecOn with
 | ind n ih=>
  rcases JV n with h | h
  ·subst h;simp [digs_zero,okD]
  ·rw [Wd h,Zhg];exact ⟨Nat.mod_lt _ B32_pos,ih _ (Nat.div_lt_self h (by decide))⟩
theorem Y2 {n k:Nat} (h:n < B32^k):(Zo n).length≤k:=by
 induction k generalizing n with
 | zero=>
  have:n=0:=by simpa using h
  subst this;simp [digs_zero]
 | succ k ih=>
  rcases JV n with h0 | h0
  ·subst h0;simp [digs_zero]
  ·rw [Wd h0,List.length_cons];have:n / B32 < B32^k:=by
    rw [Nat.div_lt_iff_lt_mul B32_pos];rw [Nat.pow_succ] at h;exact h
   have:=ih this;omega
theorem Yn (n:Nat):n < B32^(Zo n).length:=by
 have:=Zdk (Yb n);rwa [Zl] at this
theorem Ybg {n k:Nat} (h:k < (Zo n).length):B32^k≤n:=by
 rcases JX n (B32^k) with h1 | h1
 ·have:=Y2 h1;omega
 ·exact h1
theorem Zv {m n:Nat} (h:m≤n):(Zo m).length≤(Zo n).length:=
 Y2 (Nat.lt_of_le_of_lt h (Yn n))
theorem Y3 {n:Nat} (h:0 < n):0 < (Zo n).length:=by
 rw [Wd h];simp
theorem Zjl {ds:List Nat} (ok:okD ds) (h:ds=[]∨dg ds (ds.length - 1)≠0):Zo (val ds)=ds:=by
 induction ds with
 | nil=>simp [val,digs_zero]
 | cons d ds ih=>
  obtain ⟨h1,h2⟩:=Zhg.1 ok;have hl:dg (d::ds) ((d::ds).length - 1)≠0:=by
   rcases h with h | h
   ·cases h
   ·exact h
  have a:0 < val (d::ds):=by
   rcases JV (val (d::ds)) with h0 | h0
   ·exfalso;have b:∀(l:List Nat),val l=0→∀i,dg l i=0:=by
     intro l
     induction l with
     | nil=>intro _ i;simp [dg]
     | cons x l ih'=>
      intro hv i;simp only [val] at hv;have hx:x=0:=(by omega);have hm:B32 * val l=0:=(by omega);have c:val l=0:=by
       rcases Nat.mul_eq_zero.1 hm with h | h
       ·exact absurd h (by decide)
       ·exact h
      cases i with
      | zero=>simpa [dg] using hx
      | succ i=>have:=ih' c i;simpa [dg] using this
    exact hl (b _ h0 _)
   ·exact h0
  rw [Wd a];have e1:val (d::ds) % B32=d:=by
   simp only [val];rw [Nat.add_mul_mod_self_left];exact Nat.mod_eq_of_lt h1
  have e2:val (d::ds) / B32=val ds:=by
   simp only [val];rw [Nat.add_mul_div_left _ _ B32_pos,Nat.div_eq_of_lt h1];simp
  rw [e1,e2,ih h2]
  cases ds with
  | nil=>exact .inl rfl
  | cons x ds=>right;simpa [dg] using hl
theorem Zjm {ds:List Nat} (ok:okD ds) {n:Nat} (hn:n≤ds.length) (hz:∀i,n≤i→dg ds i=0) (hl:n=0∨dg ds (n - 1)≠0):Zo (val ds)=ds.take n:=by
 have hv:val ds=val (ds.take n):=by
  rw [← Yac ds];show vt ds ds.length=vt ds n;clear hl;have:∀k,vt ds (n+k)=vt ds n:=by
   intro k
   induction k with
   | zero=>rfl
   | succ k ih=>rw [← Nat.add_assoc,YO,hz (n+k) (by omega),ih];simp
  have h:=this (ds.length - n)
  rwa [show n+(ds.length - n)=ds.length from by omega] at h
 rw [hv];refine Zjl (Zhh ok n) ?_;rcases hl with h | h
 ·left;subst h;simp
 ·right;have a:(ds.take n).length=n:=by rw [List.length_take];omega
  rw [a];rcases JV n with h0 | h0
  ·subst h0;intro hh;exact h (hz _ (by omega))
  ·rw [Ybf (by omega)];exact h
theorem Xr {ds:List Nat} (ok:okD ds):(Zo (val ds)).length≤ds.length:=Y2 (Zdk ok)
theorem VV {n:Nat} (h:0 < n):dg (Zo n) ((Zo n).length - 1)≠0:=by
 induction n using Nat.strongRecOn with
 | ind n ih=>
  rw [Wd h];rcases JV (n / B32) with h0 | h0
  ·rw [h0,digs_zero];have:n % B32=n:=Nat.mod_eq_of_lt (by
    rcases JX n B32 with h1 | h1
    ·exact h1
    ·have:=Nat.div_pos h1 B32_pos;omega)
   simp [dg,this];omega
  ·have:=ih _ (Nat.div_lt_self h (by decide)) h0;have hp:=Y3 h0;have e:((n % B32)::Zo (n / B32)).length - 1=(Zo (n / B32)).length - 1+1:=(by simp;omega);rw [e];simpa [dg] using this
theorem Zda {n:Nat} (h0:0 < n) (h:n < B32):Zo n=[n]:=by
 rw [Wd h0,Nat.div_eq_of_lt h,digs_zero,Nat.mod_eq_of_lt h]
theorem Zol {n:Nat} (h:B32≤n) (h2:n < B32 * B32):Zo n=[n % B32,n / B32]:=by
 have:=B32_pos;have h1:0 < n / B32:=Nat.div_pos h B32_pos;have h3:n / B32 < B32:=by rw [Nat.div_lt_iff_lt_mul B32_pos];exact h2
 rw [Wd (by omega),Zda h1 h3]
theorem Yz (k:Nat):((B32^(k+1):Nat):Int)=((B32^k:Nat):Int) * 4294967296:=by
 rw [Nat.pow_succ,Int.natCast_mul];rfl
theorem Z4 (ds:List Nat) (k:Nat):((vt ds (k+1):Nat):Int)=vt ds k+di ds k * ((B32^k:Nat):Int):=by
 rw [YO,Int.natCast_add,Int.natCast_mul];rfl
theorem Y4 {ds:List Nat} {k:Nat} {z:Int} (h:k < ds.length) (hz:0≤z):((vt (ds.set k z.toNat) (k+1):Nat):Int)=vt ds k+z * ((B32^k:Nat):Int):=by
 rw [UN h,Int.natCast_add,Int.natCast_mul,Int.toNat_of_nonneg hz]
theorem Zxh (O x y z p r q a b:Int) (h:O+z * p=a+b) (e:z+x+y=r+4294967296 * q):O+r * p+q * (p * 4294967296)=a+x * p+(b+y * p):=by grind
theorem Vn {O xs ys:List Nat} {k:Nat} {z y:Int} (hk:k < O.length) (hz:0≤z) (hy:y=di ys k)
 (h:(vt O k:Int)+z * ((B32^k:Nat):Int)=vt xs k+vt ys k):
 (vt (O.set k ((z+di xs k+y) % 4294967296).toNat) (k+1):Int)+((z+di xs k+y) / 4294967296) * ((B32^(k+1):Nat):Int)=vt xs (k+1)+vt ys (k+1):=by
 subst hy;rw [Y4 hk (by omega),Z4,Z4,Yz];exact Zxh _ _ _ _ _ _ _ _ _ h (by omega)
theorem Zxi (O x y z p r q a b:Int) (h:O - z * p=a - b) (e:x - z - y=r - 4294967296 * q):O+r * p - q * (p * 4294967296)=a+x * p - (b+y * p):=by grind
theorem U5 {O xs ys:List Nat} {k:Nat} {z y r q:Int} (hk:k < O.length) (hy:y=di ys k) (hr:0≤r) (hq:r - 4294967296 * q=di xs k - z - y)
 (h:(vt O k:Int) - z * ((B32^k:Nat):Int)=vt xs k - vt ys k):
 (vt (O.set k r.toNat) (k+1):Int) - q * ((B32^(k+1):Nat):Int)=vt xs (k+1) - vt ys (k+1):=by
 subst hy;rw [Y4 hk hr,Z4,Z4,Yz];exact Zxi _ _ _ _ _ _ _ _ _ h (by omega)
theorem Ztd {O xs ys:List Nat} {k:Nat} {z:Int} (hO:O.length=k) (ok:okD O) (hz:0≤z) (hx:xs.length≤k) (hy:ys.length≤k) (hle:val ys≤val xs)
 (h:(vt O k:Int) - z * ((B32^k:Nat):Int)=vt xs k - vt ys k):val O=val xs - val ys:=by
 rw [Xy hx,Xy hy,Xy (by omega)] at h;have a:=Zdk ok;rw [hO] at a;have b:z=0:=by
  rcases Int.lt_or_eq_of_le hz with h1 | h1
  ·exfalso;have:((B32^k:Nat):Int) * 1≤((B32^k:Nat):Int) * z:=Int.mul_le_mul_of_nonneg_left (by omega) (by omega);rw [Int.mul_comm z] at h;omega
  ·exact h1.symm
 subst b;omega
theorem U6 {a b:Nat} (h:(Zo a).length < (Zo b).length):a < b:=by
 have h1:=Yn a;have h2:=Ybg h;omega
theorem U7 (ds:List Nat) (i:Nat):val ds=vt ds i+B32^i * (dg ds i+B32 * val (ds.drop (i+1))):=by
 rcases JX i ds.length with h | h
 ·have e:ds=ds.take i++(dg ds i::ds.drop (i+1)):=by
   have hd:ds[i]=dg ds i:=(by simp [dg,h]);rw [← hd,← List.drop_eq_getElem_cons h,List.take_append_drop]
  have hl:(ds.take i).length=i:=by rw [List.length_take];omega
  calc val ds=val (ds.take i++(dg ds i::ds.drop (i+1))):=by rw [← e]
   _=_:=by rw [val_append,hl];rfl
 ·rw [Xy h,Wv h,List.drop_eq_nil_of_le (by omega)];simp [val]
theorem Zfx {a b:List Nat} {n:Nat} (hl:a.length=b.length) (h:∀i,n≤i→dg a i=dg b i):a.drop n=b.drop n:=by
 apply List.ext_getElem?;intro i;rw [List.getElem?_drop,List.getElem?_drop];rcases JX (n+i) a.length with h1 | h1
 ·rw [Wu h1,Wu (by omega),h _ (by omega)]
 ·rw [JU h1,JU (by omega)]
theorem U8 {a b:List Nat} (ha:okD a) (hl:a.length=b.length) {i:Nat} (h:∀j,i < j→dg a j=dg b j) (hi:dg a i < dg b i):val a < val b:=by
 rw [U7 a i,U7 b i,Zfx hl (fun j hj=>h j (by omega))];have h1:=Uz ha i;have h2:B32^i * (dg a i+B32 * val (b.drop (i+1))+1)≤B32^i * (dg b i+B32 * val (b.drop (i+1))):=Nat.mul_le_mul_left _ (by omega);rw [Nat.mul_add,Nat.mul_one] at h2;omega
theorem U9 {a b:List Nat} (hl:a.length=b.length) (h:∀j,dg a j=dg b j):a=b:=by
 have:=Zfx (n:=0) hl (fun i _=>h i);simpa using this
theorem Zxj {a b:Nat} (h:Zo a=Zo b):a=b:=by rw [← Zl a,h,Zl]
def cmpN (a b:Nat):Int:=if a < b then -1 else if a=b then 0 else 1
theorem VW {a b:Nat} (h:a < b):cmpN a b= -1:=by simp [cmpN,h]
theorem Zmj {a b:Nat} (h:a=b):cmpN a b=0:=by simp [cmpN,h]
theorem Zdl {a b:Nat} (h:b < a):cmpN a b=1:=by
 unfold cmpN;rw [if_neg (by omega),if_neg (by omega)]
theorem Zmk (a b:Nat): -1≤cmpN a b∧cmpN a b≤1:=by
 unfold cmpN;split
 ·decide
 ·split <;> decide
end Pl
def uc (d:Nat):Value:= .int .u32 (d:Int)
class Old where
 n:Nat
structure Zb [Old] (w:World):Prop where
 le:Old.n≤w.heap.size
theorem Zb.le1 [Old] {w:World} (h:Zb w):Old.n≤w.heap.size+1:=by have:=h.le;omega
theorem Zb.up [Old] {n:Nat} {w w':World} (hb:Below n w w') (h:Zb w):Zb w':=⟨JW h.le hb.size⟩
theorem Zb.set [Old] {w:World} (h:Zb w) (a:Addr) (u:Value):Zb (w.setCell a u):=⟨by simpa using h.le⟩
theorem Zb.dr [Old] {w:World} (h:Zb w):Zb w.drew:=⟨h.le⟩
theorem Zb.drN [Old] {w:World} {n:Nat} (h:Zb w):Zb (w.drewN n):=⟨h.le⟩
theorem Zb.mk_ [Old] {w:World} (h:Zb w) (o:Obj):Zb (w.alloc o):=⟨by have:=h.le;simp;omega⟩
def ZQ [Old] (w:World) (v:Value) (ds:List Nat):Prop:=
 ∃A c,v= .slice A ds.length c∧ds.length≤c∧c≤maxLen∧okD ds∧
  (0 < ds.length→∃b off cs t fz,A=some ⟨b,off,none⟩∧(t=123∨b < Old.n)∧w.heap[b]? =some (.cells cs t fz)∧∀k d,ds[k]? =some d→cs[off+k]? =some (uc d))
def ZG [Old] (w w':World):Prop:=∀(b:Nat) (cs:Array Value) (t:TypeId) (fz:Nat × Nat),(t=123∨b < Old.n)→w.heap[b]? =some (.cells cs t fz)→w'.heap[b]? =some (.cells cs t fz)
theorem ZG.refl [Old] (w:World):ZG w w:=fun _ _ _ _ _ h=>h
theorem ZG.trans [Old] {a b c:World} (h:ZG a b) (k:ZG b c):ZG a c:=fun x cs t fz ht hx=>k x cs t fz ht (h x cs t fz ht hx)
theorem Yo {w:World} {b:Nat} {o:Obj} (h:w.heap[b]? =some o):b < w.heap.size:=(Array.getElem?_eq_some_iff.1 h).1
theorem ZG.of_below [Old] {w w':World} (h:Below w.heap.size w w'):ZG w w':=fun b _ _ _ _ hb=>(h.block b (Yo hb)).trans hb
theorem ZG.drew [Old] (w:World):ZG w w.drew:=fun _ _ _ _ _ h=>h
theorem ZG.drewN [Old] (w:World) (n:Nat):ZG w (w.drewN n):=fun _ _ _ _ _ h=>h
theorem ZG.alloc [Old] (w:World) (o:Obj):ZG w (w.alloc o):=ZG.of_below ((JR _ _).alloc (JY _) o)
theorem ZG.setCell [Old] {w:World} {g:Nat} {cs:Array Value} {t:TypeId} {fz:Nat × Nat} (h:w.heap[g]? =some (.cells cs t fz)) (ht:t≠123) (i:Nat) (u:Value) (hg:Old.n≤g:=by first | assumption | exact Nat.zero_le _ | omega | ((first | with_reducible refine Zb.le ?_ | with_reducible refine Zb.le1 ?_ | with_reducible refine Zb.le2 ?_ | with_reducible refine Zb.le3 ?_);repeat (first | assumption | exact Zb.up (by assumption) hOl | exact Zb.up (Hid.out (by assumption)) hOl | with_reducible refine Zb.set ?_ _ _ | with_reducible refine Zb.mk_ ?_ _ | with_reducible refine Zb.dr ?_ | with_reducible refine Zb.drN ?_ | refine Zb.up (by assumption) ?_ | refine Zb.up (Hid.out (by assumption)) ?_))):ZG w (w.setCell ⟨g,i,none⟩ u):=by
 intro b d t' f c hb;have a:b≠g:=by
  rintro rfl;rw [h] at hb;injection hb with hb;injection hb with _ h2 _;rcases c with e | e
  ·exact ht (h2.trans e)
  ·omega
 rw [heap_setCell_other w _ _ _ a];exact hb
theorem ZQ.keep [Old] {w w':World} {v:Value} {ds:List Nat} (h:ZQ w v ds) (hk:ZG w w'):ZQ w' v ds:=by
 obtain ⟨A,c,hv,h1,h2,h3,h4⟩:=h;refine ⟨A,c,hv,h1,h2,h3,fun hp=>?_⟩;obtain ⟨b,a,cs,t,fz,hA,ht,hb,hc⟩:=h4 hp;exact ⟨b,a,cs,t,fz,hA,ht,hk b cs t fz ht hb,hc⟩
theorem ZQ.below [Old] {w w':World} {v:Value} {ds:List Nat} (h:ZQ w v ds) (hb:Below w.heap.size w w'):ZQ w' v ds:=h.keep (ZG.of_below hb)
theorem ZQ.ok [Old] {w:World} {v:Value} {ds:List Nat} (h:ZQ w v ds):okD ds:=by
 obtain ⟨_,_,_,_,_,h3,_⟩:=h;exact h3
theorem ZQ.len [Old] {w:World} {A:Option Addr} {n c:Nat} {ds:List Nat} (h:ZQ w (.slice A n c) ds):n≤ds.length∧ds.length≤n∧n≤c∧c≤9223372036854775807:=by
 obtain ⟨_,_,hv,h1,h2,_,_⟩:=h;injection hv with _ e2 e3;subst e2 e3;unfold maxLen at h2;exact ⟨JY _,JY _,h1,by omega⟩
theorem ZQ.shape [Old] {w:World} {v:Value} {ds:List Nat} (h:ZQ w v ds):∃A n c,v= .slice A n c:=by
 obtain ⟨A,c,hv,_⟩:=h;exact ⟨A,_,c,hv⟩
theorem ZQ.at_ [Old] {w:World} {A:Option Addr} {n c:Nat} {ds:List Nat} (h:ZQ w (.slice A n c) ds) (hn:0 < n):
 ∃b off,A=some ⟨b,off,none⟩∧b < w.heap.size∧∀k,k < n→w.cell? ⟨b,off+k,none⟩=some (.int .u32 (di ds k)):=by
 obtain ⟨hl,a,_,_⟩:=h.len;obtain ⟨A',c',hv,h1,h2,h3,h4⟩:=h;injection hv with e1 e2 e3;subst e1 e3;obtain ⟨b,off,cs,t,fz,hA,_,hb,hc⟩:=h4 (by omega);refine ⟨b,off,hA,Yo hb,fun k hk=>?_⟩;rw [cell_of_row w b (off+k) cs _ fz hb,hc k (dg ds k) (Wu (by omega))];rfl
theorem ZQ.take [Old] {w:World} {A:Option Addr} {n c:Nat} {ds:List Nat} (h:ZQ w (.slice A n c) ds) {k c':Nat} (hk:k≤n) (hc:k≤c') (hm:c'≤maxLen):ZQ w (.slice A k c') (ds.take k):=by
 obtain ⟨hl,g,_,_⟩:=h.len;obtain ⟨A',c1,hv,h1,h2,h3,h4⟩:=h;injection hv with e1 e2 e3;subst e1 e3;have a:(ds.take k).length=k:=by rw [List.length_take];omega
 refine ⟨A,c',by rw [a],by rw [a];exact hc,hm,Zhh h3 k,fun hp=>?_⟩;rw [a] at hp;obtain ⟨b,f,cs,t,fz,hA,ht,hb,e⟩:=h4 (by omega);refine ⟨b,f,cs,t,fz,hA,ht,hb,fun j d hj=>e j d ?_⟩;rw [List.getElem?_take] at hj;split at hj
 ·exact hj
 ·cases hj
theorem ZQ.nil [Old] (w:World) (A:Option Addr) (c:Nat) (hm:c≤maxLen):ZQ w (.slice A 0 c) []:=
 ⟨A,c,rfl,by simp,hm,okD_nil,fun h=>absurd h (by simp)⟩
def YD (w:World) (g:Nat) (ds:List Nat):Prop:=w.heap[g]? =some (.cells (ds.map uc).toArray 123 (0,0))
theorem YD.lt {w:World} {g:Nat} {ds:List Nat} (h:YD w g ds):g < w.heap.size:=Yo h
theorem YD.cell {w:World} {g:Nat} {ds:List Nat} (h:YD w g ds) {k:Nat} (hk:k < ds.length):w.cell? ⟨g,k,none⟩=some (.int .u32 (di ds k)):=by
 rw [cell_of_row w g k _ _ _ h];simp [Wu hk,uc,di]
theorem YD.frozen {w:World} {g:Nat} {ds:List Nat} (h:YD w g ds) (k:Nat):w.frozen? ⟨g,k,none⟩=false:=frozen_of_row w g k _ _ h
theorem YD.new (w:World) (ds:List Nat):YD (w.alloc (.cells (ds.map uc).toArray 123)) w.heap.size ds:=heap_alloc_new w _
theorem YD.set_ {w:World} {g:Nat} {ds:List Nat} (h:YD w g ds) (k d:Nat):YD (w.setCell ⟨g,k,none⟩ (.int .u32 (d:Int))) g (ds.set k d):=by
 unfold YD at h ⊢;rw [heap_setCell_same w g k _ _ _ h];simp [uc,List.map_set]
theorem YD.setI {w:World} {g:Nat} {ds:List Nat} (h:YD w g ds) (k:Nat) {z:Int} (hz:0≤z):YD (w.setCell ⟨g,k,none⟩ (.int .u32 z)) g (ds.set k z.toNat):=by
 have:=h.set_ k z.toNat
 rwa [Int.toNat_of_nonneg hz] at this
theorem YD.below {w w':World} {B g:Nat} {ds:List Nat} (h:YD w g ds) (hb:Below B w w') (hg:g < B):YD w' g ds:=(hb.block g hg).trans h
theorem YD.dig [Old] {w:World} {g:Nat} {ds:List Nat} (h:YD w g ds) (ok:okD ds) {c:Nat} (hc:ds.length≤c) (hm:c≤maxLen):ZQ w (.slice (some ⟨g,0,none⟩) ds.length c) ds:=
 ⟨_,c,rfl,hc,hm,ok,fun _=>⟨g,0,_,_,_,rfl,Or.inl rfl,h,fun k d hk=>by simp [hk,uc]⟩⟩
def zc (n:Nat):Array Value:=((List.replicate n 0).map uc).toArray
theorem YD.zeros (w:World) (n:Nat):YD (w.alloc (.cells (zc n) 123)) w.heap.size (List.replicate n 0):=YD.new w _
theorem Zxk (n:Nat):madeCells (Value.cells (.int .u32 0)) (n * 1)=zc n:=by
 simp [madeCells,Value.cells,uc,zc];apply Array.ext
 ·simp
 ·intro i h1 h2;simp [Nat.mod_one]
theorem info_u32:(Tryz.prog.info? 123).map (fun i=>(i.zero,i.size,i.bytes))=some (some (.int .u32 0),1,4):=by kernel_rfl
theorem YE (n:Nat) (hn:n≤1099511627776) (w:World):
 (Instr.makeSlice 44 (.int .i64 (n:Int)) (.int .i64 (n:Int))).run Tryz.prog w= .ok (.slice (some ⟨w.heap.size,0,none⟩) n n) (w.alloc (.cells (zc n) 123)):=by
 obtain ⟨i0,hi,a,b,c⟩:=info_parts info_u32;have hb:(i0.bytes:Int) * (n:Int)≤281474976710656:=by rw [c];omega
 have hr:=run_make (P:=Tryz.prog) w 44 123 i0 _ Tryz.underlying44 hi a .i64 .i64 n n (by omega) (by omega) hb (by omega);simp only [JP,b] at hr;rw [hr,Zxk]
theorem Zom [Old] {w:World} {A:Option Addr} {n c k:Nat} {ds:List Nat} (h:ZQ w (.slice A n c) ds) (hk:k≤n) (hz:∀i,k≤i→dg ds i=0) (hl:k=0∨dg ds (k - 1)≠0):
 ZQ w (.slice A k k) (Zo (val ds)):=by
 obtain ⟨h1,h2,h3,h4⟩:=h.len;rw [Zjm h.ok (by omega) hz hl];exact h.take hk (JY _) (by unfold maxLen;omega)
theorem Ya [Old] (v:Value) (ds:List Nat) (w:World) (h:ZQ w v ds) (hOl:Zb w:=by (repeat (first | assumption | exact Zb.up (by assumption) hOl | exact Zb.up (Hid.out (by assumption)) hOl | with_reducible refine Zb.set ?_ _ _ | with_reducible refine Zb.mk_ ?_ _ | with_reducible refine Zb.dr ?_ | with_reducible refine Zb.drN ?_ | refine Zb.up (by assumption) ?_ | refine Zb.up (Hid.out (by assumption)) ?_))):
 Calls Tryz.prog 143 #[v] w fun e w'=>∃v',e= .returned v'∧ZQ w v' (Zo (val ds))∧w=w':=by
 have d:=hOl.le;obtain ⟨A,n,c,rfl⟩:=h.shape;obtain ⟨hl,g,l,hc⟩:=h.len;go_enter Tryz.func143,Tryz.ntmps143;go_wp2
 go_loop [3] (fun x=>∃k:Nat,k≤n∧x= .int .i64 k∧∀i,k≤i→dg ds i=0) (fun x=>(intOf x).toNat)
 case atStart=>exact ⟨n,JY _,rfl,fun i hi=>Wv (by omega)⟩
 case round=>
  obtain ⟨k,hk,rfl,hz⟩:=hrel;have HZ:=JZ hz;clear hz;rcases JV k with h0 | h0
  ·subst h0;go_wp2;go_ret;exact ⟨_,rfl,Zom h hk HZ.out (.inl rfl),rfl⟩
  ·obtain ⟨j,rfl⟩:∃j,k=j+1:=⟨k - 1,by omega⟩;obtain ⟨b,m,rfl,_,a⟩:=h.at_ (by omega);have f:=a j (by omega);clear a;by_cases hd:dg ds j=0
   ·have hb:=UM hd;have HD:=JZ hd;clear hd;go_wp2
    go_round
    case rel=>exact ⟨j,by omega,by go_num,fun i hi=>by
     rcases Nat.eq_or_lt_of_le hi with e | e
     ·exact e▸HD.out
     ·exact HZ.out i e⟩
    case measure=>simp [intOf]
   ·have hb:=VU hd;have HD:=JZ hd;clear hd;go_wp2;go_ret;exact ⟨_,rfl,Zom h hk HZ.out (.inr (by simpa using HD.out)),rfl⟩
theorem Ybh [Old] (w:World) (z:Int) (hd:z < 4294967296) (h0:0 < z):ZQ (w.alloc (.cells #[.int .u32 z] 123)) (.slice (some ⟨w.heap.size,0,none⟩) 1 1) (Zo z.toNat):=by
 obtain ⟨d,rfl⟩:=JT (Int.le_of_lt h0);rw [JP,Zda (by omega) (by unfold B32;omega)];have:=YD.dig (YD.new w [d]) (by simp [okD,B32];omega) (c:=1) (by simp) (by simp [maxLen]);simpa [uc] using this
theorem Ybi [Old] (w:World) (z:Int) (h:4294967296≤z) (h2:z≤18446744073709551615):
 ZQ (w.alloc (.cells #[.int .u32 (z % 4294967296),.int .u32 (z / 4294967296)] 123)) (.slice (some ⟨w.heap.size,0,none⟩) 2 2) (Zo z.toNat):=by
 obtain ⟨n,rfl⟩:=JT (show 0≤z by omega);rw [JP,Zol (by unfold B32;omega) (by unfold B32;omega)];have:=YD.dig (YD.new w [n % B32,n / B32]) (by simp [okD,B32];omega) (c:=2) (by simp) (by simp [maxLen]);simpa [uc,B32] using this
theorem YL [Old] (z:Int) (w:World) (hz:0≤z) (hn:z≤18446744073709551615) (hOl:Zb w:=by (repeat (first | assumption | exact Zb.up (by assumption) hOl | exact Zb.up (Hid.out (by assumption)) hOl | with_reducible refine Zb.set ?_ _ _ | with_reducible refine Zb.mk_ ?_ _ | with_reducible refine Zb.dr ?_ | with_reducible refine Zb.drN ?_ | refine Zb.up (by assumption) ?_ | refine Zb.up (Hid.out (by assumption)) ?_))):
 Calls Tryz.prog 159 #[.int .u64 z] w fun e w'=>∃v',e= .returned v'∧ZQ w' v' (Zo z.toNat)∧Below w.heap.size w w':=by
 have a:=hOl.le;rcases Int.lt_or_eq_of_le hz with h0 | h0
 ·rcases Int.lt_or_le z 4294967296 with h1 | h1
  ·go_enter Tryz.func159,Tryz.ntmps159;go_wp2;go_ret;exact ⟨_,rfl,Ybh w z h1 h0,(JR _ _).alloc (JY _) _⟩
  ·go_enter Tryz.func159,Tryz.ntmps159;go_wp2;go_ret;exact ⟨_,rfl,Ybi w z h1 hn,(JR _ _).alloc (JY _) _⟩
 ·subst h0;go_enter Tryz.func159,Tryz.ntmps159;go_wp2;go_ret;exact ⟨_,rfl,by simp only [Int.toNat_zero,digs_zero];exact ZQ.nil _ _ _ (by simp),JR _ _⟩
theorem below_drewN' (w:World) (n:Nat):Below w.heap.size w (w.drewN n):=⟨rfl,rfl,rfl,JY _,fun _ _=>rfl⟩
theorem u64_in (x:Int) (h0:0≤x) (h1:x≤18446744073709551615):IntKind.u64.wrap x=x:=by
 simp only [IntKind.wrap,IntKind.bits,IntKind.signed];simp;omega
theorem Ui {x y:Int} (x0:0≤x) (x1:x≤4294967295) (y0:0≤y) (y1:y≤4294967295):bits .or .u64 (y * 4294967296) x=y * 4294967296+x:=by
 obtain ⟨a,rfl⟩:=JT x0;obtain ⟨b,rfl⟩:=JT y0;have e:((b:Int) * 4294967296)=((b * 4294967296:Nat):Int):=by omega
 rw [e,u64_or_nat _ _ (by omega) (by omega)];have h:b * 4294967296 ||| a=b * 4294967296+a:=by
  have:=Nat.shiftLeft_add_eq_or_of_lt (i:=32) (b:=a) (by omega) b;rw [Nat.shiftLeft_eq,show (2:Nat)^32=4294967296 from rfl] at this;omega
 rw [h];omega
theorem Wo [Old] (v:Value) (n:Nat) (w:World) (h:ZQ w v (Zo n)) (hn:n < B32 * B32) (hOl:Zb w:=by (repeat (first | assumption | exact Zb.up (by assumption) hOl | exact Zb.up (Hid.out (by assumption)) hOl | with_reducible refine Zb.set ?_ _ _ | with_reducible refine Zb.mk_ ?_ _ | with_reducible refine Zb.dr ?_ | with_reducible refine Zb.drN ?_ | refine Zb.up (by assumption) ?_ | refine Zb.up (Hid.out (by assumption)) ?_))):
 Calls Tryz.prog 171 #[v] w fun e w'=>e= .returned (.int .u64 (n:Int))∧Below w.heap.size w w':=by
 have j:=hOl.le;obtain ⟨A,l,c,rfl⟩:=h.shape;obtain ⟨hl,d,m,hc⟩:=h.len;rcases JV n with h0 | h0
 ·subst h0;rw [digs_zero] at hl;obtain rfl:l=0:=by simpa using hl
  clear d;go_enter Tryz.func171,Tryz.ntmps171;go_wp2;go_ret;exact ⟨rfl,JR _ _⟩
 ·obtain ⟨b,o,rfl,_,a⟩:=h.at_ (by have:=Y3 h0;omega);rcases JX n B32 with h1 | h1
  ·rw [Zda h0 h1] at hl d a;obtain rfl:l=1:=by simp at hl d;omega
   have f:=a 0 (by omega);have e0:di [n] 0=(n:Int):=(by simp [di,dg]);rw [e0,Nat.add_zero] at f;have hh:(n:Int)≤4294967295:=(by unfold B32 at h1;omega);have k:0≤(n:Int):=(by omega);generalize (n:Int)=z at *;clear a h hn h1 hl d e0;go_enter Tryz.func171,Tryz.ntmps171;go_wp2;go_ret;exact ⟨rfl,JR _ _⟩
  ·rw [Zol h1 hn] at hl d a;obtain rfl:l=2:=by simp at hl d;omega
   have f:=a 0 (by omega);have g:=a 1 (by omega);have e0:di [n % B32,n / B32] 0=((n % B32:Nat):Int):=(by simp [di,dg]);have e1:di [n % B32,n / B32] 1=((n / B32:Nat):Int):=(by simp [di,dg]);rw [e0,Nat.add_zero] at f;rw [e1] at g;obtain ⟨x,hx⟩:∃x:Int,x=((n % B32:Nat):Int):=⟨_,rfl⟩;obtain ⟨y,hy⟩:∃y:Int,y=((n / B32:Nat):Int):=⟨_,rfl⟩;rw [← hx] at f;rw [← hy] at g;have i:(n:Int)=y * 4294967296+x:=(by rw [hx,hy];unfold B32;omega);have x0:0≤x:=(by omega);have x1:x≤4294967295:=(by rw [hx];unfold B32;omega);have y0:0≤y:=(by omega);have y1:y≤4294967295:=(by rw [hy];unfold B32 at hn ⊢;omega);rw [i];clear a h hn h1 hl d e0 e1 hx hy i h0;have r1:IntKind.u64.wrap x=x:=u64_in x x0 (by omega);have r2:IntKind.u64.wrap y=y:=u64_in y y0 (by omega);have r3:IntKind.u64.wrap (y * 4294967296)=y * 4294967296:=u64_in _ (by omega) (by omega);have r4:=Ui x0 x1 y0 y1;go_enter Tryz.func171,Tryz.ntmps171;go_wp2
   go_quiet (fail)
   go_wp2;go_ret;exact ⟨rfl,below_drewN' _ _⟩
theorem WZ {k:IntKind} {a b:Int} (h:a=b):Ending.returned (.int k a)= .returned (.int k b):=by rw [h]
theorem Zte {a b l:Nat} {z:Int} (h1:(Zo a).length=l) (h2:(Zo b).length=l) (h3: -1≤z) (h4:z < 0) (h:∀i:Nat,z < i→dg (Zo a) i=dg (Zo b) i):0=cmpN a b:=by
 rw [Zmj];exact Zxj (U9 (by omega) (fun j=>h j (by omega)))
theorem Zon {a b l j:Nat} (h1:(Zo a).length=l) (h2:(Zo b).length=l) (h:∀i:Nat,(j:Int) < i→dg (Zo a) i=dg (Zo b) i) (g:dg (Zo a) j < dg (Zo b) j):cmpN a b= -1:=by
 refine VW ?_;have:=U8 (Yb a) (by omega) (fun i hi=>h i (by omega)) g
 rwa [Zl,Zl] at this
theorem Zoo {a b l j:Nat} (h1:(Zo a).length=l) (h2:(Zo b).length=l) (h:∀i:Nat,(j:Int) < i→dg (Zo a) i=dg (Zo b) i) (g:dg (Zo b) j < dg (Zo a) j):cmpN a b=1:=by
 refine Zdl ?_;have:=U8 (Yb b) (by omega) (fun i hi=>(h i (by omega)).symm) g
 rwa [Zl,Zl] at this
theorem Yh [Old] (v1 v2:Value) (a b:Nat) (w:World) (h1:ZQ w v1 (Zo a)) (h2:ZQ w v2 (Zo b)) (hOl:Zb w:=by (repeat (first | assumption | exact Zb.up (by assumption) hOl | exact Zb.up (Hid.out (by assumption)) hOl | with_reducible refine Zb.set ?_ _ _ | with_reducible refine Zb.mk_ ?_ _ | with_reducible refine Zb.dr ?_ | with_reducible refine Zb.drN ?_ | refine Zb.up (by assumption) ?_ | refine Zb.up (Hid.out (by assumption)) ?_))):
 Calls Tryz.prog 151 #[v1,v2] w fun e w'=>e= .returned (.int .i64 (cmpN a b))∧Below w.heap.size w w':=by
 have n:=hOl.le;obtain ⟨A,l,c,rfl⟩:=h1.shape;obtain ⟨hl,r,s,hc⟩:=h1.len;obtain ⟨A2,l2,c2,rfl⟩:=h2.shape;obtain ⟨kl,t,u,kc⟩:=h2.len;rcases Nat.lt_trichotomy l l2 with hlt | heq | hgt
 ·have e:cmpN a b= -1:=VW (U6 (by omega));rw [e];go_enter Tryz.func151,Tryz.ntmps151;go_wp2;go_ret;exact ⟨rfl,JR _ _⟩
 ·subst heq;go_enter Tryz.func151,Tryz.ntmps151;go_wp2
  go_loopw [5] (fun x wr=>∃(z:Int) (q:Nat),-1≤z∧z < l∧x= .int .i64 z∧wr=w.drewN q∧∀i:Nat,z < i→dg (Zo a) i=dg (Zo b) i) (fun x _=>(intOf x+1).toNat)
  case atStart=>exact ⟨(l:Int) - 1,0,by omega,by omega,rfl,rfl,fun i hi=>by rw [Wv (by omega),Wv (by omega)]⟩
  case round=>
   obtain ⟨z,q,h,hk,rfl,rfl,hz⟩:=hrel;have HZ:=JZ hz;clear hz;rcases Int.lt_or_le z 0 with h0 | h0
   ·go_wp2;go_ret;exact ⟨WZ (Zte (l:=l) (by omega) (by omega) h h0 HZ.out),below_drewN' _ _⟩
   ·obtain ⟨j,rfl⟩:=JT h0;obtain ⟨b1,k,rfl,_,d⟩:=h1.at_ (by omega);obtain ⟨b2,m,rfl,_,f⟩:=h2.at_ (by omega);have o:=d j (by omega);have p:=f j (by omega);clear d f;rcases Nat.lt_trichotomy (dg (Zo a) j) (dg (Zo b) j) with g | g | g
    ·have t1:(di (Zo a) j !=di (Zo b) j)=true:=(by simp [di];omega);have t2:decide (di (Zo a) j < di (Zo b) j)=true:=(by simp [di];omega);have HG:=JZ g;clear g;go_wp2
     go_quiet (fail)
     go_wp2
     go_quiet (fail)
     go_wp2;go_ret;exact ⟨WZ (Zon (l:=l) (by omega) (by omega) HZ.out HG.out).symm,by simp only [World.drewN_drewN];exact below_drewN' _ _⟩
    ·have t1:(di (Zo a) j !=di (Zo b) j)=false:=(by simp [di];omega);have HG:=JZ g;clear g;go_wp2
     go_quiet (fail)
     go_wp2;go_roundw
     case rel=>exact ⟨(j:Int) - 1,q+nq,by omega,by omega,rfl,rfl,fun i hi=>by
      rcases Nat.eq_or_lt_of_le (show j≤i by omega) with e | e
      ·exact e▸HG.out
      ·exact HZ.out i (by omega)⟩
     case measure=>simp [intOf]
    ·have t1:(di (Zo a) j !=di (Zo b) j)=true:=(by simp [di];omega);have t2:decide (di (Zo a) j < di (Zo b) j)=false:=(by simp [di];omega);have HG:=JZ g;clear g;go_wp2
     go_quiet (fail)
     go_wp2
     go_quiet (fail)
     go_wp2;go_ret;exact ⟨WZ (Zoo (l:=l) (by omega) (by omega) HZ.out HG.out).symm,by simp only [World.drewN_drewN];exact below_drewN' _ _⟩
 ·have e:cmpN a b=1:=Zdl (U6 (by omega));rw [e];go_enter Tryz.func151,Tryz.ntmps151;go_wp2;go_ret;exact ⟨rfl,JR _ _⟩
theorem XC {w wr:World} {B b off n:Nat} {ds:List Nat} (hb:Below B w wr) (hlt:b < B) (h:∀k,k < n→w.cell? ⟨b,off+k,none⟩=some (.int .u32 (di ds k))) {k:Nat} (hk:k < n):
 wr.cell? ⟨b,off+k,none⟩=some (.int .u32 (di ds k)):=(hb.cell (p:=⟨b,off+k,none⟩) hlt).trans (h k hk)
theorem Ztf {O xs ys:List Nat} {k:Nat} {z:Int} (_hkl:k ≥ k) (hO:k+1≤O.length) (hO':O.length≤k+1) (z0:0≤z) (hx:xs.length≤k) (hy:ys.length≤k)
 (h:(vt O k:Int)+z * ((B32^k:Nat):Int)=vt xs k+vt ys k):val (O.set k z.toNat)=val xs+val ys:=by
 have e:=Y4 (ds:=O) (k:=k) (by omega) z0;rw [Xy (by simpa using hO'),h,Xy hx,Xy hy] at e;omega
theorem Ztg [Old] (v1 v2:Value) (xs ys:List Nat) (w:World) (h1:ZQ w v1 xs) (h2:ZQ w v2 ys) (hle:ys.length≤xs.length) (hs:xs.length≤549755813888) (hOl:Zb w:=by (repeat (first | assumption | exact Zb.up (by assumption) hOl | exact Zb.up (Hid.out (by assumption)) hOl | with_reducible refine Zb.set ?_ _ _ | with_reducible refine Zb.mk_ ?_ _ | with_reducible refine Zb.dr ?_ | with_reducible refine Zb.drN ?_ | refine Zb.up (by assumption) ?_ | refine Zb.up (Hid.out (by assumption)) ?_))):
 Calls Tryz.prog 166 #[v1,v2] w fun e w'=>∃v',e= .returned v'∧ZQ w' v' (Zo (val xs+val ys))∧Below w.heap.size w w':=by
 have r:=hOl.le;obtain ⟨A,l,c,rfl⟩:=h1.shape;obtain ⟨hl,s,t,hc⟩:=h1.len;obtain ⟨A2,l2,c2,rfl⟩:=h2.shape;obtain ⟨kl,u,v,kc⟩:=h2.len;have o:l2≤l:=by omega
 have g:=YE (l+1) (by omega)
 push_cast at g
 go_enter Tryz.func166,Tryz.ntmps166;go_wp2;clear g
 go_loopw [6,22] (fun cy i wr=>∃(k:Nat) (O:List Nat) (z:Int),k≤l∧i= .int .i64 k∧cy= .int .u64 z∧0≤z∧z≤1∧l+1≤O.length∧O.length≤l+1∧YD wr w.heap.size O∧okD O∧Below w.heap.size w wr∧
  (vt O k:Int)+z * ((B32^k:Nat):Int)=vt xs k+vt ys k) (fun _ i _=>l - (intOf i).toNat)
 case atStart=>exact ⟨0,List.replicate (l+1) 0,0,by omega,rfl,rfl,by omega,by omega,by simp,by simp,YD.zeros w _,ZM _,(JR _ _).alloc (JY _) _,by simp [YN]⟩
 case round=>
  obtain ⟨k,O,z,hk,rfl,rfl,z0,z1,hO,f,hB,ok,d,h⟩:=hrel;have HE:=JZ h;clear h;rcases JX k l with hkl | hkl
  ·obtain ⟨b1,p,rfl,m,a⟩:=h1.at_ (by omega);have hx:=XC d m a hkl;have x0:=Zr xs k;have x1:=Yk h1.ok k;have ho:=hB.cell (k:=k) (by omega);have hf:=hB.frozen k;clear a;rcases JX k l2 with hk2 | hk2
   ·obtain ⟨b2,q,rfl,n,b⟩:=h2.at_ (by omega);have hy:=XC d n b hk2;have y0:=Zr ys k;have y1:=Yk h2.ok k;clear b;go_wp2;go_roundw
    case rel=>exact ⟨k+1,O.set k ((z+di xs k+di ys k) % 4294967296).toNat,_,by omega,by go_num,rfl,by omega,by omega,by simpa using hO,by simpa using f,hB.setI k (by omega),ZN ok k (by unfold B32;omega),d.setCell (JY _) _,Vn (by omega) z0 rfl HE.out⟩
    case measure=>simp [intOf];omega
   ·have hy:0=di ys k:=(by rw [Yq,Wv (by omega)];rfl);have HY:=JZ hy;clear hy;go_wp2;go_roundw
    case rel=>exact ⟨k+1,O.set k ((z+di xs k) % 4294967296).toNat,_,by omega,by go_num,rfl,by omega,by omega,by simpa using hO,by simpa using f,hB.setI k (by omega),ZN ok k (by unfold B32;omega),d.setCell (JY _) _,by have:=Vn (by omega) z0 HY.out HE.out;simpa using this⟩
    case measure=>simp [intOf];omega
  ·obtain rfl:k=l:=by omega
   have ho:=hB.cell (k:=k) (by omega);have hf:=hB.frozen k;have j:=hB.setI k z0;go_wp2_with fail;refine (Ya _ (O.set k z.toNat) _ ?_).mono ?_
   ·have:=j.dig (ZN ok k (by unfold B32;omega)) (c:=k+1) (by simpa using f) (by unfold maxLen;omega)
    rwa [show (O.set k z.toNat).length=k+1 from by simp;omega] at this
   rintro e w1 ⟨v',rfl,hv,rfl⟩;go_wp2_with fail;go_ret;refine ⟨_,rfl,?_,d.setCell (JY _) _⟩
   rwa [Ztf hkl hO f z0 (by omega) (by omega) HE.out] at hv
theorem Zth [Old] (v1 v2:Value) (xs ys:List Nat) (w:World) (h1:ZQ w v1 xs) (h2:ZQ w v2 ys) (hle:ys.length < xs.length) (hs:xs.length≤549755813888) (hOl:Zb w:=by (repeat (first | assumption | exact Zb.up (by assumption) hOl | exact Zb.up (Hid.out (by assumption)) hOl | with_reducible refine Zb.set ?_ _ _ | with_reducible refine Zb.mk_ ?_ _ | with_reducible refine Zb.dr ?_ | with_reducible refine Zb.drN ?_ | refine Zb.up (by assumption) ?_ | refine Zb.up (Hid.out (by assumption)) ?_))):
 Calls Tryz.prog 166 #[v2,v1] w fun e w'=>∃v',e= .returned v'∧ZQ w' v' (Zo (val xs+val ys))∧Below w.heap.size w w':=by
 have r:=hOl.le;obtain ⟨A,l,c,rfl⟩:=h1.shape;obtain ⟨hl,s,t,hc⟩:=h1.len;obtain ⟨A2,l2,c2,rfl⟩:=h2.shape;obtain ⟨kl,u,v,kc⟩:=h2.len;have o:l2 < l:=by omega
 have g:=YE (l+1) (by omega)
 push_cast at g
 go_enter Tryz.func166,Tryz.ntmps166;go_wp2;clear g
 go_loopw [6,22] (fun cy i wr=>∃(k:Nat) (O:List Nat) (z:Int),k≤l∧i= .int .i64 k∧cy= .int .u64 z∧0≤z∧z≤1∧l+1≤O.length∧O.length≤l+1∧YD wr w.heap.size O∧okD O∧Below w.heap.size w wr∧
  (vt O k:Int)+z * ((B32^k:Nat):Int)=vt xs k+vt ys k) (fun _ i _=>l - (intOf i).toNat)
 case atStart=>exact ⟨0,List.replicate (l+1) 0,0,by omega,rfl,rfl,by omega,by omega,by simp,by simp,YD.zeros w _,ZM _,(JR _ _).alloc (JY _) _,by simp [YN]⟩
 case round=>
  obtain ⟨k,O,z,hk,rfl,rfl,z0,z1,hO,f,hB,ok,d,h⟩:=hrel;have HE:=JZ h;clear h;rcases JX k l with hkl | hkl
  ·obtain ⟨b1,p,rfl,m,a⟩:=h1.at_ (by omega);have hx:=XC d m a hkl;have x0:=Zr xs k;have x1:=Yk h1.ok k;have ho:=hB.cell (k:=k) (by omega);have hf:=hB.frozen k;clear a;rcases JX k l2 with hk2 | hk2
   ·obtain ⟨b2,q,rfl,n,b⟩:=h2.at_ (by omega);have hy:=XC d n b hk2;have y0:=Zr ys k;have y1:=Yk h2.ok k;clear b;go_wp2;go_roundw
    case rel=>exact ⟨k+1,O.set k ((z+di xs k+di ys k) % 4294967296).toNat,_,by omega,by go_num,rfl,by omega,by omega,by simpa using hO,by simpa using f,hB.setI k (by omega),ZN ok k (by unfold B32;omega),d.setCell (JY _) _,Vn (by omega) z0 rfl HE.out⟩
    case measure=>simp [intOf];omega
   ·have hy:0=di ys k:=(by rw [Yq,Wv (by omega)];rfl);have HY:=JZ hy;clear hy;go_wp2;go_roundw
    case rel=>exact ⟨k+1,O.set k ((z+di xs k) % 4294967296).toNat,_,by omega,by go_num,rfl,by omega,by omega,by simpa using hO,by simpa using f,hB.setI k (by omega),ZN ok k (by unfold B32;omega),d.setCell (JY _) _,by have:=Vn (by omega) z0 HY.out HE.out;simpa using this⟩
    case measure=>simp [intOf];omega
  ·obtain rfl:k=l:=by omega
   have ho:=hB.cell (k:=k) (by omega);have hf:=hB.frozen k;have j:=hB.setI k z0;go_wp2_with fail;refine (Ya _ (O.set k z.toNat) _ ?_).mono ?_
   ·have:=j.dig (ZN ok k (by unfold B32;omega)) (c:=k+1) (by simpa using f) (by unfold maxLen;omega)
    rwa [show (O.set k z.toNat).length=k+1 from by simp;omega] at this
   rintro e w1 ⟨v',rfl,hv,rfl⟩;go_wp2_with fail;go_ret;refine ⟨_,rfl,?_,d.setCell (JY _) _⟩
   rwa [Ztf hkl hO f z0 (by omega) (by omega) HE.out] at hv
theorem Zbo [Old] (v1 v2:Value) (xs ys:List Nat) (w:World) (h1:ZQ w v1 xs) (h2:ZQ w v2 ys) (hx:xs.length≤549755813888) (hy:ys.length≤549755813888) (hOl:Zb w:=by (repeat (first | assumption | exact Zb.up (by assumption) hOl | exact Zb.up (Hid.out (by assumption)) hOl | with_reducible refine Zb.set ?_ _ _ | with_reducible refine Zb.mk_ ?_ _ | with_reducible refine Zb.dr ?_ | with_reducible refine Zb.drN ?_ | refine Zb.up (by assumption) ?_ | refine Zb.up (Hid.out (by assumption)) ?_))):
 Calls Tryz.prog 166 #[v1,v2] w fun e w'=>∃v',e= .returned v'∧ZQ w' v' (Zo (val xs+val ys))∧Below w.heap.size w w':=by
 have a:=hOl.le;rcases JX xs.length ys.length with h | h
 ·rw [Nat.add_comm];exact Zth v2 v1 ys xs w h2 h1 h hy
 ·exact Ztg v1 v2 xs ys w h1 h2 h hx
theorem Uj [Old] (v1 v2:Value) (xs ys:List Nat) (w:World) (h1:ZQ w v1 xs) (h2:ZQ w v2 ys) (hle:val ys≤val xs) (hlen:ys.length≤xs.length) (hs:xs.length≤549755813888) (hOl:Zb w:=by (repeat (first | assumption | exact Zb.up (by assumption) hOl | exact Zb.up (Hid.out (by assumption)) hOl | with_reducible refine Zb.set ?_ _ _ | with_reducible refine Zb.mk_ ?_ _ | with_reducible refine Zb.dr ?_ | with_reducible refine Zb.drN ?_ | refine Zb.up (by assumption) ?_ | refine Zb.up (Hid.out (by assumption)) ?_))):
 Calls Tryz.prog 167 #[v1,v2] w fun e w'=>∃v',e= .returned v'∧ZQ w' v' (Zo (val xs - val ys))∧Below w.heap.size w w':=by
 have p:=hOl.le;have HL:=JZ hle;clear hle;obtain ⟨A,l,c,rfl⟩:=h1.shape;obtain ⟨hl,q,r,hc⟩:=h1.len;obtain ⟨A2,l2,c2,rfl⟩:=h2.shape;obtain ⟨kl,s,t,kc⟩:=h2.len;have h:=YE l (by omega);go_enter Tryz.func167,Tryz.ntmps167;go_wp2;clear h
 go_loopw [6,15] (fun cy i wr=>∃(k:Nat) (O:List Nat) (z:Int),k≤l∧i= .int .i64 k∧cy= .int .i64 z∧0≤z∧z≤1∧l≤O.length∧O.length≤l∧YD wr w.heap.size O∧okD O∧Below w.heap.size w wr∧
  (vt O k:Int) - z * ((B32^k:Nat):Int)=vt xs k - vt ys k) (fun _ i _=>l - (intOf i).toNat)
 case atStart=>exact ⟨0,List.replicate l 0,0,by omega,rfl,rfl,by omega,by omega,by simp,by simp,YD.zeros w _,ZM _,(JR _ _).alloc (JY _) _,by simp [YN]⟩
 case round=>
  obtain ⟨k,O,z,hk,rfl,rfl,z0,z1,hO,f,hB,ok,a,g⟩:=hrel;have HE:=JZ g;clear g;rcases JX k l with hkl | hkl
  ·obtain ⟨b1,n,rfl,j,b⟩:=h1.at_ (by omega);have hx:=XC a j b hkl;have x0:=Zr xs k;have x1:=Yk h1.ok k;have ho:=hB.cell (k:=k) (by omega);have hf:=hB.frozen k;clear b;rcases JX k l2 with hk2 | hk2
   ·obtain ⟨b2,o,rfl,m,d⟩:=h2.at_ (by omega);have hy:=XC a m d hk2;have y0:=Zr ys k;have y1:=Yk h2.ok k;clear d;go_wp2
    ·go_roundw
     case rel=>exact ⟨k+1,O.set k ((di xs k - z - di ys k) % 4294967296).toNat,1,by omega,by go_num,rfl,by omega,by omega,by simpa using hO,by simpa using f,hB.setI k (by omega),ZN ok k (by unfold B32;omega),a.setCell (JY _) _,U5 (by omega) rfl (by omega) (by omega) HE.out⟩
     case measure=>simp [intOf];omega
    ·go_roundw
     case rel=>exact ⟨k+1,O.set k (di xs k - z - di ys k).toNat,0,by omega,by go_num,rfl,by omega,by omega,by simpa using hO,by simpa using f,hB.setI k (by omega),ZN ok k (by unfold B32;omega),a.setCell (JY _) _,U5 (by omega) rfl (by omega) (by omega) HE.out⟩
     case measure=>simp [intOf];omega
   ·have hy:0=di ys k:=(by rw [Yq,Wv (by omega)];rfl);have HY:=JZ hy;clear hy;go_wp2
    ·go_roundw
     case rel=>exact ⟨k+1,O.set k ((di xs k - z) % 4294967296).toNat,1,by omega,by go_num,rfl,by omega,by omega,by simpa using hO,by simpa using f,hB.setI k (by omega),ZN ok k (by unfold B32;omega),a.setCell (JY _) _,U5 (by omega) HY.out (by omega) (by omega) HE.out⟩
     case measure=>simp [intOf];omega
    ·go_roundw
     case rel=>exact ⟨k+1,O.set k (di xs k - z).toNat,0,by omega,by go_num,rfl,by omega,by omega,by simpa using hO,by simpa using f,hB.setI k (by omega),ZN ok k (by unfold B32;omega),a.setCell (JY _) _,U5 (by omega) HY.out (by omega) (by omega) HE.out⟩
     case measure=>simp [intOf];omega
  ·obtain rfl:k=l:=by omega
   go_wp2_with fail;refine (Ya _ O _ ?_).mono ?_
   ·have:=hB.dig ok (c:=k) f (by unfold maxLen;omega)
    rwa [show O.length=k from by omega] at this
   rintro e w1 ⟨v',rfl,hv,rfl⟩;go_wp2_with fail;go_ret;refine ⟨_,rfl,?_,a⟩
   rwa [Ztd (show O.length=k by omega) ok z0 (by omega) (by omega) HL.out HE.out] at hv
end Go.Proofs.YtncmobkhenfhpaaGreat
