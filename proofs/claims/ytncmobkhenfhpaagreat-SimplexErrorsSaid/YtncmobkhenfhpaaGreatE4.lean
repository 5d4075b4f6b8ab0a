/- Lemmas of the claim; no condition. -/
import Derived.Deep.RegionHeld3
import Derived.Deep.DrawnRows
import Derived.Maps.AppendAt
import Derived.Lib.SliceRun
import Derived.Deep.DeepCutAuto
import Derived.Deep.CutBlock
import Derived.Test.YtncmobkhenfhpaaGreatE1
set_option linter.all false
set_option maxRecDepth 100000
set_option maxHeartbeats 40000000
namespace Go.Proofs.YtncmobkhenfhpaaGreat
open Go.RowKit
open Pl
theorem Yw (s:Nat):((2:Int)^s)=((2^s:Nat):Int):=by rw [Int.natCast_pow];rfl
theorem XW (s:Nat):(1:Int)≤2^s:=by rw [Yw];have:=Nat.pow_pos (n:=s) (show 0 < 2 by decide);omega
theorem Wx {s:Nat} (h:s≤31):(2:Int)^s≤2147483648:=by
 rw [Yw];have:=Nat.pow_le_pow_right (show 0 < 2 by decide) h;omega
theorem Zxs {z x:Int} {s:Nat} (z0:0≤z) (z1:z < 2^s) (x0:0≤x) (q0:0≤x * 2^s) (q1:x * 2^s≤18446744073709551615) (z2:z≤18446744073709551615):bits .or .u64 z (x * 2^s)=z+x * 2^s:=by
 obtain ⟨a,rfl⟩:=JT z0;obtain ⟨b,rfl⟩:=JT x0;rw [Yw] at *;rw [← Int.natCast_mul] at *;rw [u64_or_nat _ _ (by omega) (by omega),Nat.or_comm,← Nat.shiftLeft_eq,← Nat.shiftLeft_add_eq_or_of_lt (by omega),Nat.shiftLeft_eq];omega
theorem Zxt (O x z p r q a P:Int) (h:O+z * p=a * P) (e:z+x * P=r+4294967296 * q):O+r * p+q * (p * 4294967296)=(a+x * p) * P:=by grind
theorem Zxu {O xs:List Nat} {k:Nat} {z P r q:Int} (hk:k < O.length) (hr:0≤r) (e:z+di xs k * P=r+4294967296 * q) (h:(vt O k:Int)+z * ((B32^k:Nat):Int)=vt xs k * P):
 (vt (O.set k r.toNat) (k+1):Int)+q * ((B32^(k+1):Nat):Int)=vt xs (k+1) * P:=by
 rw [Y4 hk hr,Z4,Yz];exact Zxt _ _ _ _ _ _ _ _ h e
theorem Ybp {O xs:List Nat} {k s:Nat} {z:Int} (hx:xs.length≤k) (hO:k+1≤O.length) (hO':O.length≤k+1) (hz:0≤z) (h:(vt O k:Int)+z * ((B32^k:Nat):Int)=vt xs k * 2^s):val (O.set k z.toNat)=val xs * 2^s:=by
 have e:=Y4 (ds:=O) (k:=k) (by omega) hz;rw [Xy (by simpa using hO'),h,Xy hx,Yw,← Int.natCast_mul] at e;omega
theorem Zab [Old] (v:Value) (ds:List Nat) (s:Nat) (w:World) (h:ZQ w v ds) (hs:s≤31) (hl0:ds.length≤549755813888) (hOl:Zb w:=by (repeat (first | assumption | exact Zb.up (by assumption) hOl | exact Zb.up (Hid.out (by assumption)) hOl | with_reducible refine Zb.set ?_ _ _ | with_reducible refine Zb.mk_ ?_ _ | with_reducible refine Zb.dr ?_ | with_reducible refine Zb.drN ?_ | refine Zb.up (by assumption) ?_ | refine Zb.up (Hid.out (by assumption)) ?_))):
 Calls Tryz.prog 176 #[v,.int .u64 (s:Int)] w fun e w'=>∃O:List Nat,e= .returned (.slice (some ⟨w.heap.size,0,none⟩) (ds.length+1) (ds.length+1))∧YD w' w.heap.size O∧O.length=ds.length+1∧okD O∧val O=val ds * 2^s∧Below w.heap.size w w':=by
 have n:=hOl.le;obtain ⟨A,l,c,rfl⟩:=h.shape;obtain ⟨hl,q,r,hc⟩:=h.len;have o:=Wx hs;have p:(1:Int)≤2^s:=XW s;have d:=YE (l+1) (by omega)
 push_cast at d
 go_enter Tryz.func176,Tryz.ntmps176;go_wp2;clear d
 go_loopw [6,15] (fun cy i wr=>∃(k:Nat) (O:List Nat) (z:Int),k≤l∧i= .int .i64 k∧cy= .int .u64 z∧0≤z∧z < 2^s∧l+1≤O.length∧O.length≤l+1∧YD wr w.heap.size O∧okD O∧Below w.heap.size w wr∧
  (vt O k:Int)+z * ((B32^k:Nat):Int)=vt ds k * 2^s) (fun _ i _=>l - (intOf i).toNat)
 case atStart=>exact ⟨0,List.replicate (l+1) 0,0,by omega,rfl,rfl,by omega,Int.pow_pos (by omega),by simp,by simp,YD.zeros w _,ZM _,(JR _ _).alloc (JY _) _,by simp [YN]⟩
 case round=>
  obtain ⟨k,O,z,hk,rfl,rfl,z0,z1,hO,g,hB,ok,b,f⟩:=hrel;have HE:=JZ f;clear f;rcases JX k l with hkl | hkl
  ·obtain ⟨b1,m,rfl,j,a⟩:=h.at_ (by omega);have hx:=XC b j a hkl;have x0:=Zr ds k;have x1:=Yk h.ok k;have ho:=hB.cell (k:=k) (by omega);have hf:=hB.frozen k;clear a;have q0:0≤di ds k * 2^s:=Int.mul_nonneg x0 (by omega);have q1:di ds k * 2^s≤4294967295 * 2^s:=Int.mul_le_mul_of_nonneg_right x1 (by omega);have r1:IntKind.u64.wrap (di ds k * 2^s)=di ds k * 2^s:=u64_in _ q0 (by omega);have r2:bits .or .u64 z (di ds k * 2^s)=z+di ds k * 2^s:=Zxs z0 z1 x0 q0 (by omega) (by omega);go_wp2;go_roundw
   case rel=>exact ⟨k+1,O.set k ((z+di ds k * 2^s) % 4294967296).toNat,_,by omega,by go_num,rfl,by omega,by omega,by simpa using hO,by simpa using g,hB.setI k (by omega),ZN ok k (by unfold B32;omega),b.setCell (JY _) _,Zxu (by omega) (by omega) (by omega) HE.out⟩
   case measure=>simp [intOf];omega
  ·obtain rfl:k=l:=by omega
   have ho:=hB.cell (k:=k) (by omega);have hf:=hB.frozen k;have z2:z≤4294967295:=(by omega);go_wp2;go_ret;rw [show ds.length=k from by omega];exact ⟨O.set k z.toNat,rfl,hB.setI k z0,by simp;omega,ZN ok k (by unfold B32;omega),Ybp (by omega) (by omega) (by omega) z0 HE.out,b.setCell (JY _) _⟩
theorem Zjo (z:Int):0≤z % 4294967296:=Int.emod_nonneg _ (by decide)
theorem Yaf (z:Int):(z % 4294967296).toNat < B32:=by
 have:=Int.emod_lt_of_pos z (show (0:Int) < 4294967296 by decide);have:=Zjo z;unfold B32;generalize z % 4294967296=y at *;omega
theorem Ztp {x y:Int} (x0:0≤x) (x1:x≤4294967295) (y0:0≤y) (y1:y≤4294967295):bits .or .u64 x (y * 4294967296)=x+y * 4294967296:=by
 obtain ⟨a,rfl⟩:=JT x0;obtain ⟨b,rfl⟩:=JT y0;have e:((b:Int) * 4294967296)=((b * 4294967296:Nat):Int):=by omega
 rw [e,u64_or_nat _ _ (by omega) (by omega),Nat.or_comm];have h:b * 4294967296 ||| a=b * 4294967296+a:=by
  have:=Nat.shiftLeft_add_eq_or_of_lt (i:=32) (b:=a) (by omega) b;rw [Nat.shiftLeft_eq,show (2:Nat)^32=4294967296 from rfl] at this;omega
 rw [h];omega
theorem Ybq {x y P Q:Nat} (hP:0 < P) (hx:x < P * Q):P * ((x+y * (P * Q)) / P % (P * Q))=x - x % P+(y % P) * (P * Q):=by
 have hQ:0 < Q:=Nat.pos_of_ne_zero (fun e=>by subst e;simp at hx);have e1:(x+y * (P * Q)) / P=x / P+y * Q:=by
  rw [show y * (P * Q)=P * (y * Q) from by rw [Nat.mul_left_comm],Nat.add_mul_div_left _ _ hP]
 have e2:y * Q=(y % P) * Q+(P * Q) * (y / P):=by
  have:=Nat.div_add_mod y P
  calc y * Q=(P * (y / P)+y % P) * Q:=by rw [this]
   _=_:=by rw [Nat.add_mul,Nat.add_comm,Nat.mul_right_comm]
 have h1:x / P < Q:=by rw [Nat.div_lt_iff_lt_mul hP,Nat.mul_comm];exact hx
 have h2:y % P < P:=Nat.mod_lt _ hP;have h3:(y % P) * Q+Q≤P * Q:=by
  have:(y % P+1) * Q≤P * Q:=JS _ h2
  rwa [Nat.add_mul,Nat.one_mul] at this
 rw [e1,e2,← Nat.add_assoc,Nat.add_mul_mod_self_left,Nat.mod_eq_of_lt (by omega),Nat.mul_add];have h4:=Nat.div_add_mod x P;have h5:P * (y % P * Q)=y % P * (P * Q):=by rw [Nat.mul_left_comm]
 omega
theorem Zjp {s:Nat} {x y:Int} (hs:s≤31) (x0:0≤x) (x1:x≤4294967295) (y0:0≤y):
 2^s * ((x+y * 4294967296) / 2^s % 4294967296)=x - x % 2^s+4294967296 * (y % 2^s):=by
 obtain ⟨a,rfl⟩:=JT x0;obtain ⟨b,rfl⟩:=JT y0;have hB:2^s * 2^(32 - s)=4294967296:=by rw [← Nat.pow_add,show s+(32 - s)=32 from by omega]
 have h:=Ybq (x:=a) (y:=b) (P:=2^s) (Q:=2^(32 - s)) (Nat.pow_pos (by decide)) (by rw [hB];omega);rw [hB] at h;rw [Yw];generalize 2^s=p at *;have hm:a % p≤a:=Nat.mod_le _ _;have e1:((a:Int)+(b:Int) * 4294967296) / (p:Int) % 4294967296=(((a+b * 4294967296) / p % 4294967296:Nat):Int):=by
  rw [Int.natCast_emod,Int.natCast_ediv,Int.natCast_add,Int.natCast_mul];rfl
 have e2:(a:Int) % (p:Int)=((a % p:Nat):Int):=by rw [Int.natCast_emod]
 have e3:(b:Int) % (p:Int)=((b % p:Nat):Int):=by rw [Int.natCast_emod]
 rw [e1,e2,e3,← Int.natCast_mul,h];omega
theorem Zxv (P O x r c a p xr yr:Int) (h:P * O+c=a+xr * p) (e:P * r=x - xr+4294967296 * yr):P * (O+r * p)+c=a+x * p+yr * (p * 4294967296):=by grind
theorem Zhj {O xs:List Nat} {k:Nat} {P r c xr yr:Int} (hk:k < O.length) (hr:0≤r) (e:P * r=di xs k - xr+4294967296 * yr) (h:P * (vt O k:Int)+c=(vt xs k:Int)+xr * ((B32^k:Nat):Int)):
 P * (vt (O.set k r.toNat) (k+1):Int)+c=(vt xs (k+1):Int)+yr * ((B32^(k+1):Nat):Int):=by
 rw [Y4 hk hr,Z4,Yz];exact Zxv _ _ _ _ _ _ _ _ _ h e
theorem Ybr {O xs:List Nat} {k s:Nat} (hx:xs.length≤k) (hO:O.length≤k) (h:2^s * (vt O k:Int)+di xs 0 % 2^s=(vt xs k:Int)+(di xs k % 2^s) * ((B32^k:Nat):Int)):val O=val xs / 2^s:=by
 rw [Xy hx,Xy hO,Yw,Yq xs k,Wv hx] at h;have hp:=Nat.pow_pos (n:=s) (show 0 < 2 by decide);generalize 2^s=p at *;have e2:di xs 0 % (p:Int)=((dg xs 0 % p:Nat):Int):=by rw [Int.natCast_emod];rfl
 rw [e2,← Int.natCast_mul] at h;have a:=Nat.mod_lt (dg xs 0) hp;have h':val xs=p * val O+dg xs 0 % p:=by
  have:((0:Nat):Int) % (p:Int) * ((B32^k:Nat):Int)=0:=by simp
  omega
 rw [h',Nat.mul_add_div hp,Nat.div_eq_of_lt a];omega
theorem Zfr [Old] (v:Value) (ds:List Nat) (s:Nat) (w:World) (h:ZQ w v ds) (hs:s≤31) (hl0:ds.length≤549755813888) (hOl:Zb w:=by (repeat (first | assumption | exact Zb.up (by assumption) hOl | exact Zb.up (Hid.out (by assumption)) hOl | with_reducible refine Zb.set ?_ _ _ | with_reducible refine Zb.mk_ ?_ _ | with_reducible refine Zb.dr ?_ | with_reducible refine Zb.drN ?_ | refine Zb.up (by assumption) ?_ | refine Zb.up (Hid.out (by assumption)) ?_))):
 Calls Tryz.prog 178 #[v,.int .u64 (s:Int)] w fun e w'=>∃v',e= .returned v'∧ZQ w' v' (Zo (val ds / 2^s))∧Below w.heap.size w w':=by
 have n:=hOl.le;obtain ⟨A,l,c,rfl⟩:=h.shape;obtain ⟨hl,r,t,hc⟩:=h.len;have o:=Wx hs;have p:(1:Int)≤2^s:=XW s;have j:=YE l (by omega);go_enter Tryz.func178,Tryz.ntmps178;go_wp2;clear j
 go_loopw [14] (fun i wr=>∃(k:Nat) (O:List Nat),k≤l∧i= .int .i64 k∧l≤O.length∧O.length≤l∧YD wr w.heap.size O∧okD O∧Below w.heap.size w wr∧
  2^s * (vt O k:Int)+di ds 0 % 2^s=(vt ds k:Int)+(di ds k % 2^s) * ((B32^k:Nat):Int)) (fun i _=>l - (intOf i).toNat)
 case atStart=>exact ⟨0,List.replicate l 0,by omega,rfl,by simp,by simp,YD.zeros w _,ZM _,(JR _ _).alloc (JY _) _,by simp [YN]⟩
 case round=>
  obtain ⟨k,O,hk,rfl,hO,d,hB,ok,b,f⟩:=hrel;have HE:=JZ f;clear f;rcases JX k l with hkl | hkl
  ·obtain ⟨b1,m,rfl,g,a⟩:=h.at_ (by omega);have hx:=XC b g a hkl;have x0:=Zr ds k;have x1:=Yk h.ok k;have y0:=Zr ds (k+1);have y1:=Yk h.ok (k+1);have ho:=hB.cell (k:=k) (by omega);have hf:=hB.frozen k;rcases JX (k+1) l with hk2 | hk2
   ·have hy:=XC b g a hk2;have q:=Ztp x0 x1 y0 y1;clear a;go_wp2;go_roundw
    case rel=>exact ⟨k+1,O.set k ((di ds k+di ds (k+1) * 4294967296) / 2^s % 4294967296).toNat,by omega,by go_num,by simpa using hO,by simpa using d,hB.setI k (Zjo _),ZN ok k (Yaf _),b.setCell (JY _) _,Zhj (by omega) (Zjo _) (Zjp hs x0 x1 y0) HE.out⟩
    case measure=>simp [intOf];omega
   ·have hy:0=di ds (k+1):=(by rw [Yq,Wv (by omega)];rfl);have HY:=JZ hy;clear a hy;go_wp2;go_roundw
    case rel=>exact ⟨k+1,O.set k (di ds k / 2^s % 4294967296).toNat,by omega,by go_num,by simpa using hO,by simpa using d,hB.setI k (Zjo _),ZN ok k (Yaf _),b.setCell (JY _) _,Zhj (by omega) (Zjo _) (by have:=Zjp hs x0 x1 y0;rw [← HY.out] at this ⊢;simpa using this) HE.out⟩
    case measure=>simp [intOf];omega
  ·obtain rfl:k=l:=by omega
   go_wp2_with fail;refine (Ya _ O _ ?_).mono ?_
   ·have:=hB.dig ok (c:=k) d (by unfold maxLen;omega)
    rwa [show O.length=k from by omega] at this
   rintro e w1 ⟨v',rfl,hv,rfl⟩;go_wp2_with fail;go_ret;refine ⟨_,rfl,?_,b⟩
   rwa [Ybr (by omega) (by omega) HE.out] at hv
def Zxw (T:ByteArray):Bool:=(List.range 256).all fun i=>decide (i < 2^(T.get! i).toNat) && decide ((T.get! i).toNat≤8) && (i==0 || decide (2^(T.get! i).toNat≤2 * i))
theorem Yag {T:ByteArray} (hs:T.size=256) (h:Zxw T=true) {i:Nat} (hi:i < T.size) (h0:1≤i):i < 2^(T[i]'hi).toNat∧(T[i]'hi).toNat≤8∧2^(T[i]'hi).toNat≤2 * i:=by
 have e:T.get! i=T[i]'hi:=by
  show T.data[i]! =T.data[i];exact getElem!_pos T.data i hi
 unfold Zxw at h;rw [List.all_eq_true] at h;have:=h i (List.mem_range.2 (by omega));rw [e] at this;simp only [Bool.and_eq_true,decide_eq_true_eq,Bool.or_eq_true,beq_iff_eq] at this;exact ⟨this.1.1,this.1.2,by rcases this.2 with h | h <;> omega⟩
theorem Ztq {k t:Nat} {x y:Int} (hk:0≤y) (hx:y=x / 2^k) (h1:y.toNat < 2^t) (h2:2^t≤2 * y.toNat):x < 2^(k+t)∧(2:Int)^(k+t)≤2 * x:=by
 obtain ⟨m,rfl⟩:=JT hk;rw [JP] at h1 h2;rw [Yw] at hx;rw [Yw,Nat.pow_add];have hp:=Nat.pow_pos (n:=k) (show 0 < 2 by decide);generalize 2^k=p at *;generalize 2^t=q at *;have e:x=(p:Int) * m+x % p:=by rw [hx];exact (Int.mul_ediv_add_emod x p).symm
 have a:=Int.emod_nonneg x (show (p:Int)≠0 by omega);have b:=Int.emod_lt_of_pos x (show (0:Int) < p by omega);have a1:p * (m+1)≤p * q:=Nat.mul_le_mul_left _ h1;have a2:p * q≤p * (2 * m):=Nat.mul_le_mul_left _ h2;rw [Nat.mul_add,Nat.mul_one] at a1;rw [Nat.mul_left_comm] at a2;have e2:((p * m:Nat):Int)=(p:Int) * m:=Int.natCast_mul _ _;omega
theorem Zdo (b:UInt8):wrap64 (b.toNat:Int)=b.toNat:=IntWalk.wrap64_in _ ⟨by omega,by have:=b.toNat_lt;omega⟩
theorem Zrb (k:Int) (b:UInt8) (h:0≤k) (h2:k≤1000):wrap64 (k+(b.toNat:Int))=k+b.toNat:=IntWalk.wrap64_in _ ⟨by omega,by have:=b.toNat_lt;omega⟩
def Zmr (x:Int) (w:World) (e:Ending) (w':World):Prop:=∃n:Nat,e= .returned (.int .i64 (n:Int))∧w=w'∧n≤32∧x < 2^n∧(2:Int)^n≤2 * x
theorem Ybs {x:Int} {n:Nat} (h0:1≤x) (hn:n≤32) (ha:x < 2^n) (hb:(2:Int)^n≤2 * x):∃k:Nat,(32:Int) - n=k∧k≤31∧2147483648≤x * 2^k∧x * 2^k≤4294967295:=by
 have a:1≤n:=by
  rcases JV n with e | e
  ·subst e;simp at ha;omega
  ·exact e
 refine ⟨32 - n,by omega,by omega,?_⟩;obtain ⟨X,rfl⟩:=JT (show 0≤x by omega);rw [Yw] at *;have e:2^n * 2^(32 - n)=4294967296:=by rw [← Nat.pow_add,show n+(32 - n)=32 from by omega]
 have hp:=Nat.pow_pos (n:=32 - n) (show 0 < 2 by decide);generalize 2^(32 - n)=q at *;generalize 2^n=p at *;have a1:(X+1) * q≤p * q:=JS _ (by omega);have a2:p * q≤(2 * X) * q:=JS _ (by omega);rw [Nat.add_mul,Nat.one_mul] at a1;rw [Nat.mul_assoc] at a2;rw [← Int.natCast_mul];omega
theorem Zms {T:ByteArray} {w:World} (k:Nat) {x y K:Int} {hi:y.toNat < T.size} (hK:K=(k:Int)) (hk:k≤24) (hy:y=x / 2^k) (hy0:1≤y) (hs:T.size=256) (hT:Zxw T=true):
 Zmr x w (.returned (.int .i64 (wrap64 (K+wrap64 ((T[y.toNat]'hi).toNat:Int))))) w:=by
 obtain ⟨h1,h2,h3⟩:=Yag hs hT hi (by omega);obtain ⟨a,b⟩:=Ztq (by omega) hy h1 h3;rw [Zdo,Zrb _ _ (by omega) (by omega),hK];exact ⟨k+(T[y.toNat]'hi).toNat,by simp,rfl,by omega,a,b⟩
theorem Zxx {T:ByteArray} {w:World} {x:Int} {hi:x.toNat < T.size} (hy0:1≤x) (hs:T.size=256) (hT:Zxw T=true):
 Zmr x w (.returned (.int .i64 (wrap64 (wrap64 ((T[x.toNat]'hi).toNat:Int))))) w:=by
 obtain ⟨h1,h2,h3⟩:=Yag hs hT hi (by omega);obtain ⟨a,b⟩:=Ztq (k:=0) (x:=x) (y:=x) (by omega) (by simp) h1 h3;rw [Nat.zero_add] at a b;rw [Zdo,Zdo];exact ⟨(T[x.toNat]'hi).toNat,rfl,rfl,by omega,a,b⟩
theorem Ztr [Old] (x:Int) (w:World) (h0:1≤x) (h1:x≤4294967295) (hOl:Zb w:=by (repeat (first | assumption | exact Zb.up (by assumption) hOl | exact Zb.up (Hid.out (by assumption)) hOl | with_reducible refine Zb.set ?_ _ _ | with_reducible refine Zb.mk_ ?_ _ | with_reducible refine Zb.dr ?_ | with_reducible refine Zb.drN ?_ | refine Zb.up (by assumption) ?_ | refine Zb.up (Hid.out (by assumption)) ?_))):
 Calls Tryz.prog 179 #[.int .u32 x] w (Zmr x w):=by
 have d:=hOl.le;rcases Int.lt_or_le x 256 with a | a
 ·go_enter Tryz.func179,Tryz.ntmps179;go_wp2_with fail;go_ret;refine Zxx h0 ?_ ?_
  ·kernel_rfl
  ·decide+kernel
 ·rcases Int.lt_or_le x 65536 with b | b
  ·go_enter Tryz.func179,Tryz.ntmps179;go_wp2_with fail;go_ret;refine Zms 8 (y:=x / 256) rfl (by omega) rfl (by omega) ?_ ?_
   ·kernel_rfl
   ·decide+kernel
  ·rcases Int.lt_or_le x 16777216 with c | c
   ·go_enter Tryz.func179,Tryz.ntmps179;go_wp2_with fail;go_ret;refine Zms 16 (y:=x / 65536) rfl (by omega) rfl (by omega) ?_ ?_
    ·kernel_rfl
    ·decide+kernel
   ·go_enter Tryz.func179,Tryz.ntmps179;go_wp2_with fail;go_ret;refine Zms 24 (y:=x / 65536 / 256) rfl (by omega) (by omega) (by omega) ?_ ?_
    ·kernel_rfl
    ·decide+kernel
theorem Zjq [Old] (x:Int) (w:World) (h0:1≤x) (h1:x≤4294967295) (hOl:Zb w:=by (repeat (first | assumption | exact Zb.up (by assumption) hOl | exact Zb.up (Hid.out (by assumption)) hOl | with_reducible refine Zb.set ?_ _ _ | with_reducible refine Zb.mk_ ?_ _ | with_reducible refine Zb.dr ?_ | with_reducible refine Zb.drN ?_ | refine Zb.up (by assumption) ?_ | refine Zb.up (Hid.out (by assumption)) ?_))):
 Calls Tryz.prog 174 #[.int .u32 x] w fun e w'=>∃s:Nat,e= .returned (.int .i64 (s:Int))∧w=w'∧s≤31∧2147483648≤x * 2^s∧x * 2^s≤4294967295:=by
 have b:=hOl.le;go_enter Tryz.func174,Tryz.ntmps174;go_wp2_with fail;refine (Ztr x _ h0 h1).mono ?_;rintro e w1 ⟨n,rfl,rfl,hn,ha,hb⟩;have HA:=JZ ha;have HB:=JZ hb;clear ha hb;go_wp2_with fail;go_ret;obtain ⟨k,hk,a,h2,h3⟩:=Ybs h0 hn HA.out HB.out;exact ⟨k,WZ hk,rfl,by omega,h2,h3⟩
end Go.Proofs.YtncmobkhenfhpaaGreat
