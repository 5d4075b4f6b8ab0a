/- Contracts that the claim is built on; no condition. -/
import Derived.Deep.RegionHeld3
import Derived.Deep.DrawnRows
import Derived.Maps.AppendAt
import Derived.Lib.SliceRun
import Derived.Deep.DeepCutAuto
import Derived.Deep.CutBlock
import Derived.Test.YtncmobkhenfhpaaGreatD1
set_option linter.unusedVariables false
set_option linter.unusedSimpArgs false
set_option maxRecDepth 100000
set_option maxHeartbeats 40000000
namespace Go.Proofs.YtncmobkhenfhpaaGreat
open Go.RowKit
open Pl
theorem Yr (s:Nat):((2:Int)^s)=((2^s:Nat):Int):=by rw [Int.natCast_pow];rfl
theorem XF (s:Nat):(1:Int)≤2^s:=by rw [Yr];have:=Nat.pow_pos (n:=s) (show 0 < 2 by decide);omega
theorem X8 {s:Nat} (h:s≤31):(2:Int)^s≤2147483648:=by
 rw [Yr];have:=Nat.pow_le_pow_right (show 0 < 2 by decide) h;omega
theorem Zux {z x:Int} {s:Nat} (z0:0≤z) (z1:z < 2^s) (x0:0≤x) (q0:0≤x * 2^s) (q1:x * 2^s≤18446744073709551615) (z2:z≤18446744073709551615):bits .or .u64 z (x * 2^s)=z+x * 2^s:=by
 obtain ⟨a,rfl⟩:=Int.eq_ofNat_of_zero_le z0;obtain ⟨b,rfl⟩:=Int.eq_ofNat_of_zero_le x0;rw [Yr] at *;rw [← Int.natCast_mul] at *;rw [u64_or_nat _ _ (by omega) (by omega),Nat.or_comm,← Nat.shiftLeft_eq,← Nat.shiftLeft_add_eq_or_of_lt (by omega),Nat.shiftLeft_eq];omega
theorem Zuy (O x z p r q a P:Int) (h:O+z * p=a * P) (e:z+x * P=r+4294967296 * q):O+r * p+q * (p * 4294967296)=(a+x * p) * P:=by grind
theorem Zuz {O xs:List Nat} {k:Nat} {z P r q:Int} (hk:k < O.length) (hr:0≤r) (e:z+di xs k * P=r+4294967296 * q) (h:(vt O k:Int)+z * ((B32^k:Nat):Int)=vt xs k * P):
 (vt (O.set k r.toNat) (k+1):Int)+q * ((B32^(k+1):Nat):Int)=vt xs (k+1) * P:=by
 rw [YP hk hr,ZR,Yu];exact Zuy _ _ _ _ _ _ _ _ h e
theorem Zyy {O xs:List Nat} {k s:Nat} {z:Int} (hx:xs.length≤k) (hO:k+1≤O.length) (hO':O.length≤k+1) (hz:0≤z) (h:(vt O k:Int)+z * ((B32^k:Nat):Int)=vt xs k * 2^s):val (O.set k z.toNat)=val xs * 2^s:=by
 have e:=YP (ds:=O) (k:=k) (by omega) hz;rw [Xv (by simpa using hO'),h,Xv hx,Yr,← Int.natCast_mul] at e;omega
theorem UH (v:Value) (ds:List Nat) (s:Nat) (w:World) (h:ZO w v ds) (hs:s≤31) (hl0:ds.length≤549755813888):
 Calls Tryz.prog 176 #[v,.int .u64 (s:Int)] w fun e w'=>∃O:List Nat,e= .returned (.slice (some ⟨w.heap.size,0,none⟩) (ds.length+1) (ds.length+1))∧Yy w' w.heap.size O∧O.length=ds.length+1∧okD O∧val O=val ds * 2^s∧Below w.heap.size w w':=by
 obtain ⟨A,l,c,rfl⟩:=h.shape;obtain ⟨hl,p,q,hc⟩:=h.len;have n:=X8 hs;have o:(1:Int)≤2^s:=XF s;have d:=YJ (l+1) (by omega)
 push_cast at d
 go_enter Tryz.func176,Tryz.ntmps176;go_wp2;clear d
 go_loopw [6,15] (fun cy i wr=>∃(k:Nat) (O:List Nat) (z:Int),k≤l∧i= .int .i64 k∧cy= .int .u64 z∧0≤z∧z < 2^s∧l+1≤O.length∧O.length≤l+1∧Yy wr w.heap.size O∧okD O∧Below w.heap.size w wr∧
  (vt O k:Int)+z * ((B32^k:Nat):Int)=vt ds k * 2^s) (fun _ i _=>l - (intOf i).toNat)
 case atStart=>exact ⟨0,List.replicate (l+1) 0,0,by omega,rfl,rfl,by omega,Int.pow_pos (by omega),by simp,by simp,Yy.zeros w _,ZM _,(Below.refl _ _).alloc (Nat.le_refl _) _,by simp [YM]⟩
 case round=>
  obtain ⟨k,O,z,hk,rfl,rfl,z0,z1,hO,g,hB,ok,b,f⟩:=hrel;have HE:=Lib.hid f;clear f;rcases Nat.lt_or_ge k l with hkl | hkl
  ·obtain ⟨b1,m,rfl,j,a⟩:=h.at_ (by omega);have hx:=Xh b j a hkl;have x0:=Zp ds k;have x1:=Yj h.ok k;have ho:=hB.cell (k:=k) (by omega);have hf:=hB.frozen k;clear a;have q0:0≤di ds k * 2^s:=Int.mul_nonneg x0 (by omega);have q1:di ds k * 2^s≤4294967295 * 2^s:=Int.mul_le_mul_of_nonneg_right x1 (by omega);have r1:IntKind.u64.wrap (di ds k * 2^s)=di ds k * 2^s:=u64_in _ q0 (by omega);have r2:bits .or .u64 z (di ds k * 2^s)=z+di ds k * 2^s:=Zux z0 z1 x0 q0 (by omega) (by omega);go_wp2;go_roundw
   case rel=>exact ⟨k+1,O.set k ((z+di ds k * 2^s) % 4294967296).toNat,_,by omega,by go_num,rfl,by omega,by omega,by simpa using hO,by simpa using g,hB.setI k (by omega),ZH ok k (by unfold B32;omega),b.setCell (Nat.le_refl _) _,Zuz (by omega) (by omega) (by omega) HE.out⟩
   case measure=>simp [intOf];omega
  ·obtain rfl:k=l:=by omega
   have ho:=hB.cell (k:=k) (by omega);have hf:=hB.frozen k;have z2:z≤4294967295:=(by omega);go_wp2;go_ret;rw [show ds.length=k from by omega];exact ⟨O.set k z.toNat,rfl,hB.setI k z0,by simp;omega,ZH ok k (by unfold B32;omega),Zyy (by omega) (by omega) (by omega) z0 HE.out,b.setCell (Nat.le_refl _) _⟩
theorem Zif (z:Int):0≤z % 4294967296:=Int.emod_nonneg _ (by decide)
theorem Zxo (z:Int):(z % 4294967296).toNat < B32:=by
 have:=Int.emod_lt_of_pos z (show (0:Int) < 4294967296 by decide);have:=Zif z;unfold B32;generalize z % 4294967296=y at *;omega
theorem Zqu {x y:Int} (x0:0≤x) (x1:x≤4294967295) (y0:0≤y) (y1:y≤4294967295):bits .or .u64 x (y * 4294967296)=x+y * 4294967296:=by
 obtain ⟨a,rfl⟩:=Int.eq_ofNat_of_zero_le x0;obtain ⟨b,rfl⟩:=Int.eq_ofNat_of_zero_le y0;have e:((b:Int) * 4294967296)=((b * 4294967296:Nat):Int):=by omega
 rw [e,u64_or_nat _ _ (by omega) (by omega),Nat.or_comm];have h:b * 4294967296 ||| a=b * 4294967296+a:=by
  have:=Nat.shiftLeft_add_eq_or_of_lt (i:=32) (b:=a) (by omega) b;rw [Nat.shiftLeft_eq,show (2:Nat)^32=4294967296 from rfl] at this;omega
 rw [h];omega
theorem Zyz {x y P Q:Nat} (hP:0 < P) (hx:x < P * Q):P * ((x+y * (P * Q)) / P % (P * Q))=x - x % P+(y % P) * (P * Q):=by
 have hQ:0 < Q:=Nat.pos_of_ne_zero (fun e=>by subst e;simp at hx);have e1:(x+y * (P * Q)) / P=x / P+y * Q:=by
  rw [show y * (P * Q)=P * (y * Q) from by rw [Nat.mul_left_comm],Nat.add_mul_div_left _ _ hP]
 have e2:y * Q=(y % P) * Q+(P * Q) * (y / P):=by
  have:=Nat.div_add_mod y P
  calc y * Q=(P * (y / P)+y % P) * Q:=by rw [this]
   _=_:=by rw [Nat.add_mul,Nat.add_comm,Nat.mul_right_comm]
 have h1:x / P < Q:=by rw [Nat.div_lt_iff_lt_mul hP,Nat.mul_comm];exact hx
 have h2:y % P < P:=Nat.mod_lt _ hP;have h3:(y % P) * Q+Q≤P * Q:=by
  have:(y % P+1) * Q≤P * Q:=Nat.mul_le_mul_right _ h2
  rwa [Nat.add_mul,Nat.one_mul] at this
 rw [e1,e2,← Nat.add_assoc,Nat.add_mul_mod_self_left,Nat.mod_eq_of_lt (by omega),Nat.mul_add];have h4:=Nat.div_add_mod x P;have h5:P * (y % P * Q)=y % P * (P * Q):=by rw [Nat.mul_left_comm]
 omega
theorem Zig {s:Nat} {x y:Int} (hs:s≤31) (x0:0≤x) (x1:x≤4294967295) (y0:0≤y):
 2^s * ((x+y * 4294967296) / 2^s % 4294967296)=x - x % 2^s+4294967296 * (y % 2^s):=by
 obtain ⟨a,rfl⟩:=Int.eq_ofNat_of_zero_le x0;obtain ⟨b,rfl⟩:=Int.eq_ofNat_of_zero_le y0;have hB:2^s * 2^(32 - s)=4294967296:=by rw [← Nat.pow_add,show s+(32 - s)=32 from by omega]
 have h:=Zyz (x:=a) (y:=b) (P:=2^s) (Q:=2^(32 - s)) (Nat.pow_pos (by decide)) (by rw [hB];omega);rw [hB] at h;rw [Yr];generalize 2^s=p at *;have hm:a % p≤a:=Nat.mod_le _ _;have e1:((a:Int)+(b:Int) * 4294967296) / (p:Int) % 4294967296=(((a+b * 4294967296) / p % 4294967296:Nat):Int):=by
  rw [Int.natCast_emod,Int.natCast_ediv,Int.natCast_add,Int.natCast_mul];rfl
 have e2:(a:Int) % (p:Int)=((a % p:Nat):Int):=by rw [Int.natCast_emod]
 have e3:(b:Int) % (p:Int)=((b % p:Nat):Int):=by rw [Int.natCast_emod]
 rw [e1,e2,e3,← Int.natCast_mul,h];omega
theorem Zva (P O x r c a p xr yr:Int) (h:P * O+c=a+xr * p) (e:P * r=x - xr+4294967296 * yr):P * (O+r * p)+c=a+x * p+yr * (p * 4294967296):=by grind
theorem Zgd {O xs:List Nat} {k:Nat} {P r c xr yr:Int} (hk:k < O.length) (hr:0≤r) (e:P * r=di xs k - xr+4294967296 * yr) (h:P * (vt O k:Int)+c=(vt xs k:Int)+xr * ((B32^k:Nat):Int)):
 P * (vt (O.set k r.toNat) (k+1):Int)+c=(vt xs (k+1):Int)+yr * ((B32^(k+1):Nat):Int):=by
 rw [YP hk hr,ZR,Yu];exact Zva _ _ _ _ _ _ _ _ _ h e
theorem Zza {O xs:List Nat} {k s:Nat} (hx:xs.length≤k) (hO:O.length≤k) (h:2^s * (vt O k:Int)+di xs 0 % 2^s=(vt xs k:Int)+(di xs k % 2^s) * ((B32^k:Nat):Int)):val O=val xs / 2^s:=by
 rw [Xv hx,Xv hO,Yr,Yh xs k,X6 hx] at h;have hp:=Nat.pow_pos (n:=s) (show 0 < 2 by decide);generalize 2^s=p at *;have e2:di xs 0 % (p:Int)=((dg xs 0 % p:Nat):Int):=by rw [Int.natCast_emod];rfl
 rw [e2,← Int.natCast_mul] at h;have a:=Nat.mod_lt (dg xs 0) hp;have h':val xs=p * val O+dg xs 0 % p:=by
  have:((0:Nat):Int) % (p:Int) * ((B32^k:Nat):Int)=0:=by simp
  omega
 rw [h',Nat.mul_add_div hp,Nat.div_eq_of_lt a];omega
theorem Zek (v:Value) (ds:List Nat) (s:Nat) (w:World) (h:ZO w v ds) (hs:s≤31) (hl0:ds.length≤549755813888):
 Calls Tryz.prog 178 #[v,.int .u64 (s:Int)] w fun e w'=>∃v',e= .returned v'∧ZO w' v' (Zl (val ds / 2^s))∧Below w.heap.size w w':=by
 obtain ⟨A,l,c,rfl⟩:=h.shape;obtain ⟨hl,q,r,hc⟩:=h.len;have n:=X8 hs;have o:(1:Int)≤2^s:=XF s;have j:=YJ l (by omega);go_enter Tryz.func178,Tryz.ntmps178;go_wp2;clear j
 go_loopw [14] (fun i wr=>∃(k:Nat) (O:List Nat),k≤l∧i= .int .i64 k∧l≤O.length∧O.length≤l∧Yy wr w.heap.size O∧okD O∧Below w.heap.size w wr∧
  2^s * (vt O k:Int)+di ds 0 % 2^s=(vt ds k:Int)+(di ds k % 2^s) * ((B32^k:Nat):Int)) (fun i _=>l - (intOf i).toNat)
 case atStart=>exact ⟨0,List.replicate l 0,by omega,rfl,by simp,by simp,Yy.zeros w _,ZM _,(Below.refl _ _).alloc (Nat.le_refl _) _,by simp [YM]⟩
 case round=>
  obtain ⟨k,O,hk,rfl,hO,d,hB,ok,b,f⟩:=hrel;have HE:=Lib.hid f;clear f;rcases Nat.lt_or_ge k l with hkl | hkl
  ·obtain ⟨b1,m,rfl,g,a⟩:=h.at_ (by omega);have hx:=Xh b g a hkl;have x0:=Zp ds k;have x1:=Yj h.ok k;have y0:=Zp ds (k+1);have y1:=Yj h.ok (k+1);have ho:=hB.cell (k:=k) (by omega);have hf:=hB.frozen k;rcases Nat.lt_or_ge (k+1) l with hk2 | hk2
   ·have hy:=Xh b g a hk2;have p:=Zqu x0 x1 y0 y1;clear a;go_wp2;go_roundw
    case rel=>exact ⟨k+1,O.set k ((di ds k+di ds (k+1) * 4294967296) / 2^s % 4294967296).toNat,by omega,by go_num,by simpa using hO,by simpa using d,hB.setI k (Zif _),ZH ok k (Zxo _),b.setCell (Nat.le_refl _) _,Zgd (by omega) (Zif _) (Zig hs x0 x1 y0) HE.out⟩
    case measure=>simp [intOf];omega
   ·have hy:0=di ds (k+1):=(by rw [Yh,X6 (by omega)];rfl);have HY:=Lib.hid hy;clear a hy;go_wp2;go_roundw
    case rel=>exact ⟨k+1,O.set k (di ds k / 2^s % 4294967296).toNat,by omega,by go_num,by simpa using hO,by simpa using d,hB.setI k (Zif _),ZH ok k (Zxo _),b.setCell (Nat.le_refl _) _,Zgd (by omega) (Zif _) (by have:=Zig hs x0 x1 y0;rw [← HY.out] at this ⊢;simpa using this) HE.out⟩
    case measure=>simp [intOf];omega
  ·obtain rfl:k=l:=by omega
   go_wp2_with fail;refine (ZZ _ O _ ?_).mono ?_
   ·have:=hB.dig ok (c:=k) d (by unfold maxLen;omega)
    rwa [show O.length=k from by omega] at this
   rintro e w1 ⟨v',rfl,hv,rfl⟩;go_wp2_with fail;go_ret;refine ⟨_,rfl,?_,b⟩
   rwa [Zza (by omega) (by omega) HE.out] at hv
def Zvb (T:ByteArray):Bool:=(List.range 256).all fun i=>decide (i < 2^(T.get! i).toNat) && decide ((T.get! i).toNat≤8) && (i==0 || decide (2^(T.get! i).toNat≤2 * i))
theorem Zxp {T:ByteArray} (hs:T.size=256) (h:Zvb T=true) {i:Nat} (hi:i < T.size) (h0:1≤i):i < 2^(T[i]'hi).toNat∧(T[i]'hi).toNat≤8∧2^(T[i]'hi).toNat≤2 * i:=by
 have e:T.get! i=T[i]'hi:=by
  show T.data[i]! =T.data[i];exact getElem!_pos T.data i hi
 unfold Zvb at h;rw [List.all_eq_true] at h;have:=h i (List.mem_range.2 (by omega));rw [e] at this;simp only [Bool.and_eq_true,decide_eq_true_eq,Bool.or_eq_true,beq_iff_eq] at this;exact ⟨this.1.1,this.1.2,by rcases this.2 with h | h <;> omega⟩
theorem Zqv {k t:Nat} {x y:Int} (hk:0≤y) (hx:y=x / 2^k) (h1:y.toNat < 2^t) (h2:2^t≤2 * y.toNat):x < 2^(k+t)∧(2:Int)^(k+t)≤2 * x:=by
 obtain ⟨m,rfl⟩:=Int.eq_ofNat_of_zero_le hk;rw [Int.toNat_natCast] at h1 h2;rw [Yr] at hx;rw [Yr,Nat.pow_add];have hp:=Nat.pow_pos (n:=k) (show 0 < 2 by decide);generalize 2^k=p at *;generalize 2^t=q at *;have e:x=(p:Int) * m+x % p:=by rw [hx];exact (Int.mul_ediv_add_emod x p).symm
 have a:=Int.emod_nonneg x (show (p:Int)≠0 by omega);have b:=Int.emod_lt_of_pos x (show (0:Int) < p by omega);have a1:p * (m+1)≤p * q:=Nat.mul_le_mul_left _ h1;have a2:p * q≤p * (2 * m):=Nat.mul_le_mul_left _ h2;rw [Nat.mul_add,Nat.mul_one] at a1;rw [Nat.mul_left_comm] at a2;have e2:((p * m:Nat):Int)=(p:Int) * m:=Int.natCast_mul _ _;omega
theorem Zch (b:UInt8):wrap64 (b.toNat:Int)=b.toNat:=IntWalk.wrap64_in _ ⟨by omega,by have:=b.toNat_lt;omega⟩
theorem Zoj (k:Int) (b:UInt8) (h:0≤k) (h2:k≤1000):wrap64 (k+(b.toNat:Int))=k+b.toNat:=IntWalk.wrap64_in _ ⟨by omega,by have:=b.toNat_lt;omega⟩
def Zkt (x:Int) (w:World) (e:Ending) (w':World):Prop:=∃n:Nat,e= .returned (.int .i64 (n:Int))∧w=w'∧n≤32∧x < 2^n∧(2:Int)^n≤2 * x
theorem Zzb {x:Int} {n:Nat} (h0:1≤x) (hn:n≤32) (ha:x < 2^n) (hb:(2:Int)^n≤2 * x):∃k:Nat,(32:Int) - n=k∧k≤31∧2147483648≤x * 2^k∧x * 2^k≤4294967295:=by
 have a:1≤n:=by
  rcases Nat.eq_zero_or_pos n with e | e
  ·subst e;simp at ha;omega
  ·exact e
 refine ⟨32 - n,by omega,by omega,?_⟩;obtain ⟨X,rfl⟩:=Int.eq_ofNat_of_zero_le (show 0≤x by omega);rw [Yr] at *;have e:2^n * 2^(32 - n)=4294967296:=by rw [← Nat.pow_add,show n+(32 - n)=32 from by omega]
 have hp:=Nat.pow_pos (n:=32 - n) (show 0 < 2 by decide);generalize 2^(32 - n)=q at *;generalize 2^n=p at *;have a1:(X+1) * q≤p * q:=Nat.mul_le_mul_right _ (by omega);have a2:p * q≤(2 * X) * q:=Nat.mul_le_mul_right _ (by omega);rw [Nat.add_mul,Nat.one_mul] at a1;rw [Nat.mul_assoc] at a2;rw [← Int.natCast_mul];omega
theorem Zku {T:ByteArray} {w:World} (k:Nat) {x y K:Int} {hi:y.toNat < T.size} (hK:K=(k:Int)) (hk:k≤24) (hy:y=x / 2^k) (hy0:1≤y) (hs:T.size=256) (hT:Zvb T=true):
 Zkt x w (.returned (.int .i64 (wrap64 (K+wrap64 ((T[y.toNat]'hi).toNat:Int))))) w:=by
 obtain ⟨h1,h2,h3⟩:=Zxp hs hT hi (by omega);obtain ⟨a,b⟩:=Zqv (by omega) hy h1 h3;rw [Zch,Zoj _ _ (by omega) (by omega),hK];exact ⟨k+(T[y.toNat]'hi).toNat,by simp,rfl,by omega,a,b⟩
theorem Zvc {T:ByteArray} {w:World} {x:Int} {hi:x.toNat < T.size} (hy0:1≤x) (hs:T.size=256) (hT:Zvb T=true):
 Zkt x w (.returned (.int .i64 (wrap64 (wrap64 ((T[x.toNat]'hi).toNat:Int))))) w:=by
 obtain ⟨h1,h2,h3⟩:=Zxp hs hT hi (by omega);obtain ⟨a,b⟩:=Zqv (k:=0) (x:=x) (y:=x) (by omega) (by simp) h1 h3;rw [Nat.zero_add] at a b;rw [Zch,Zch];exact ⟨(T[x.toNat]'hi).toNat,rfl,rfl,by omega,a,b⟩
theorem Zqw (x:Int) (w:World) (h0:1≤x) (h1:x≤4294967295):
 Calls Tryz.prog 179 #[.int .u32 x] w (Zkt x w):=by
 rcases Int.lt_or_le x 256 with a | a
 ·go_enter Tryz.func179,Tryz.ntmps179;go_wp2_with fail;go_ret;refine Zvc h0 ?_ ?_
  ·kernel_rfl
  ·decide+kernel
 ·rcases Int.lt_or_le x 65536 with b | b
  ·go_enter Tryz.func179,Tryz.ntmps179;go_wp2_with fail;go_ret;refine Zku 8 (y:=x / 256) rfl (by omega) rfl (by omega) ?_ ?_
   ·kernel_rfl
   ·decide+kernel
  ·rcases Int.lt_or_le x 16777216 with c | c
   ·go_enter Tryz.func179,Tryz.ntmps179;go_wp2_with fail;go_ret;refine Zku 16 (y:=x / 65536) rfl (by omega) rfl (by omega) ?_ ?_
    ·kernel_rfl
    ·decide+kernel
   ·go_enter Tryz.func179,Tryz.ntmps179;go_wp2_with fail;go_ret;refine Zku 24 (y:=x / 65536 / 256) rfl (by omega) (by omega) (by omega) ?_ ?_
    ·kernel_rfl
    ·decide+kernel
theorem Zih (x:Int) (w:World) (h0:1≤x) (h1:x≤4294967295):
 Calls Tryz.prog 174 #[.int .u32 x] w fun e w'=>∃s:Nat,e= .returned (.int .i64 (s:Int))∧w=w'∧s≤31∧2147483648≤x * 2^s∧x * 2^s≤4294967295:=by
 go_enter Tryz.func174,Tryz.ntmps174;go_wp2_with fail;refine (Zqw x _ h0 h1).mono ?_;rintro e w1 ⟨n,rfl,rfl,hn,ha,hb⟩;have HA:=Lib.hid ha;have HB:=Lib.hid hb;clear ha hb;go_wp2_with fail;go_ret;obtain ⟨k,hk,a,h2,h3⟩:=Zzb h0 hn HA.out HB.out;exact ⟨k,WE hk,rfl,by omega,h2,h3⟩
end Go.Proofs.YtncmobkhenfhpaaGreat
