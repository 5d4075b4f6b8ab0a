/- Lemmas of the claim; no condition. -/
import Derived.Test.YtncmobkhenfhpaaGreatE10
set_option linter.all false
set_option maxRecDepth 100000
set_option maxHeartbeats 40000000
namespace Go.Proofs.YtncmobkhenfhpaaGreat
open Go.RowKit
open Pl
attribute [local go_sem ↓] Go.wp_at_zero Go.wp_at_succ
namespace Pl
def bl (n:Nat):Nat:=if n=0 then 0 else n.log2+1
theorem bl_zero:bl 0=0:=rfl
theorem Zyd (n:Nat):n < 2^bl n:=by
 unfold bl;split
 ·subst_vars;decide
 ·rename_i h;exact (Nat.log2_lt h).1 (Nat.lt_succ_self _)
theorem Zrg {n:Nat} (h:n≠0):0 < bl n∧2^(bl n - 1)≤n:=by
 unfold bl;rw [if_neg h];exact ⟨by omega,by simpa using (Nat.le_log2 h).1 (JY _)⟩
theorem Zdt {n k:Nat} (h:n < 2^k) (h2:k=0∨2^(k - 1)≤n):bl n=k:=by
 rcases JV n with h0 | h0
 ·subst h0;rcases h2 with rfl | h2
  ·rfl
  ·have:=Nat.pow_pos (n:=k - 1) (show 0 < 2 by decide);omega
 ·have h1:n≠0:=by omega
  have hk:k≠0:=by rintro rfl;simp at h;omega
  rcases h2 with h2 | h2
  ·exact absurd h2 hk
  ·have a:=(Nat.log2_lt h1).2 h;have b:=(Nat.le_log2 h1).2 h2;unfold bl;rw [if_neg h1];omega
theorem Ybz {n:Nat} (h:n≠0):bl n=bl (n / 2)+1:=by
 have h1:=Zyd (n / 2);have e:2^(bl (n / 2)+1)=2 * 2^bl (n / 2):=by rw [Nat.pow_succ,Nat.mul_comm]
 apply Zdt
 ·omega
 ·right;rw [Nat.add_sub_cancel];rcases JV (n / 2) with h0 | h0
  ·rw [h0,bl_zero];omega
  ·obtain ⟨p,q⟩:=Zrg (n:=n / 2) (by omega);have e2:2^bl (n / 2)=2 * 2^(bl (n / 2) - 1):=by
    rw [show bl (n / 2)=(bl (n / 2) - 1)+1 by omega,Nat.pow_succ,Nat.mul_comm,Nat.add_sub_cancel]
   omega
theorem Zbt (k:Nat):B32^k=2^(32 * k):=by rw [Nat.pow_mul];rfl
theorem Yca {a r k:Nat} (ha:a≠0) (hr:r < 2^k):bl (r+a * 2^k)=k+bl a:=by
 apply Zdt
 ·rw [Nat.pow_add];have h:(a+1) * 2^k≤2^bl a * 2^k:=JS _ (Zyd a);rw [Nat.add_mul,Nat.one_mul] at h;rw [Nat.mul_comm (2^k)];omega
 ·right;obtain ⟨p,q⟩:=Zrg ha;rw [show k+bl a - 1=(bl a - 1)+k by omega,Nat.pow_add];have:=JS (2^k) q;omega
theorem Ycb {n l:Nat} (hl:(Zo n).length=l+1):bl n=32 * l+bl (dg (Zo n) l):=by
 have hv:n=vt (Zo n) (l+1):=by rw [Xy (by omega),Zl]
 have h0:dg (Zo n) l≠0:=by
  have hp:0 < n:=by
   rcases JV n with h | h
   ·subst h;rw [digs_zero] at hl;simp at hl
   ·exact h
  have:=VV hp
  rwa [hl,Nat.add_sub_cancel] at this
 have hr:=Uz (Yb n) l;rw [YO] at hv;rw [Zbt] at hv hr;have:=Yca h0 hr;rw [← hv] at this;exact this
theorem Zui {a b:Nat} (h:a≤b):bl a≤bl b:=by
 rcases JX (bl b) (bl a) with hlt | hge
 ·exfalso;have ha:a≠0:=by rintro rfl;simp [bl] at hlt
  obtain ⟨p,q⟩:=Zrg ha;have h1:=Zyd b;have h2:2^bl b≤2^(bl a - 1):=Nat.pow_le_pow_right (by decide) (by omega);omega
 ·exact hge
theorem Yao {n:Nat}:bl n≤32 * (Zo n).length:=by
 rcases JX (32 * (Zo n).length) (bl n) with h | h
 ·exfalso;have hn:n≠0:=by rintro rfl;simp [bl] at h
  obtain ⟨p,q⟩:=Zrg hn;have h1:=Yn n;rw [Zbt] at h1;have h2:2^(32 * (Zo n).length)≤2^(bl n - 1):=Nat.pow_le_pow_right (by decide) (by omega);omega
 ·exact h
theorem Zkb {a b:Nat} (h:bl a < bl b):a < b:=by
 rcases JX a b with g | g
 ·exact g
 ·have:=Zui g;omega
theorem Zye {a b:Nat} (h:bl b≤bl a) (hb:b≠0):a < b * 2^(bl a - bl b+1):=by
 obtain ⟨p,q⟩:=Zrg hb;have h1:=Zyd a;have h2:=JS (2^(bl a - bl b+1)) q;rw [← Nat.pow_add,show bl b - 1+(bl a - bl b+1)=bl a by omega] at h2;omega
theorem or_bit {a s:Nat} (h:2^(s+1)∣a):a ||| 2^s=a+2^s:=by
 obtain ⟨m,rfl⟩:=h;have:=Nat.shiftLeft_add_eq_or_of_lt (i:=s+1) (b:=2^s) (by rw [Nat.pow_succ];have:=Nat.pow_pos (n:=s) (show 0 < 2 by decide);omega) m;rw [Nat.shiftLeft_eq,Nat.mul_comm m] at this;exact this.symm
theorem Ycc {Q:List Nat} {i:Nat} (ok:okD Q) (h:2^(i+1)∣val Q):2^(i % 32+1)∣dg Q (i / 32):=by
 have hs:=U7 Q (i / 32);have hl:=Uz ok (i / 32);have hd:=Ztb ok (i / 32);rw [Zbt] at hs hl;have hi:i+1=32 * (i / 32)+(i % 32+1):=by omega
 rw [hi,Nat.pow_add] at h;have hB:2^(i % 32+1)∣B32:=⟨2^(32 - (i % 32+1)),by rw [← Nat.pow_add,show i % 32+1+(32 - (i % 32+1))=32 by omega];rfl⟩;generalize val (Q.drop (i / 32+1))=H at *;have h0:vt Q (i / 32)=0:=by
  have a:2^(32 * (i / 32))∣val Q:=Nat.dvd_trans (Nat.dvd_mul_right _ _) h;have b:2^(32 * (i / 32))∣vt Q (i / 32):=by
   rw [hs] at a;exact (Nat.dvd_add_left (Nat.dvd_mul_right _ _)).1 a
  exact Nat.eq_zero_of_dvd_of_lt b hl
 rw [h0,Nat.zero_add] at hs;rw [hs] at h;have h3:=Nat.dvd_of_mul_dvd_mul_left (Nat.pow_pos (by decide)) h;exact (Nat.dvd_add_left (Nat.dvd_trans hB (Nat.dvd_mul_right _ _))).1 h3
theorem Ycd {Q:List Nat} {i:Nat} (hi:i / 32 < Q.length):val (Q.set (i / 32) (dg Q (i / 32)+2^(i % 32)))=val Q+2^i:=by
 have h:=Zdm (ds:=Q) (i:=i / 32) (z:=((dg Q (i / 32)+2^(i % 32):Nat):Int)) hi (Int.natCast_nonneg _);rw [JP] at h;have e:2^i=2^(i % 32) * B32^(i / 32):=by
  rw [Zbt,← Nat.pow_add,show i % 32+32 * (i / 32)=i by omega]
 rw [e];have e2:((dg Q (i / 32)+2^(i % 32):Nat):Int) - di Q (i / 32)=((2^(i % 32):Nat):Int):=by unfold di;omega
 rw [e2,← Int.natCast_mul] at h;omega
theorem Zyf {d s:Nat} (hs:s < 32) (hd:d < B32) (h:2^(s+1)∣d):d+2^s < B32:=by
 obtain ⟨m,rfl⟩:=h;have hB:B32=2^(s+1) * 2^(32 - (s+1)):=by rw [← Nat.pow_add,show s+1+(32 - (s+1))=32 by omega];rfl
 rw [hB] at hd ⊢;have hm:=Nat.lt_of_mul_lt_mul_left hd;have h2:2^(s+1) * (m+1)≤2^(s+1) * 2^(32 - (s+1)):=Nat.mul_le_mul_left _ hm;have h3:2^s < 2^(s+1):=Nat.pow_lt_pow_right (by decide) (by omega);rw [Nat.mul_add] at h2;omega
theorem Zyg {X b Q R j:Nat} (hX:X=Q * b+R) (hR:R < b * 2^(j+1)) (hle:b * 2^j≤R) (hd:2^(j+1)∣Q):X=(Q+2^j) * b+(R - b * 2^j)∧R - b * 2^j < b * 2^j∧2^j∣Q+2^j:=by
 rw [Nat.pow_succ,← Nat.mul_assoc] at hR;refine ⟨?_,by omega,Nat.dvd_add (Nat.dvd_trans ⟨2,by rw [Nat.pow_succ]⟩ hd) (Nat.dvd_refl _)⟩;rw [Nat.add_mul,Nat.mul_comm (2^j) b];omega
theorem Zyh {Q j:Nat} (hd:2^(j+1)∣Q):2^j∣Q:=Nat.dvd_trans ⟨2,by rw [Nat.pow_succ]⟩ hd
theorem Zpa (b j:Nat):b * 2^(j+1) / 2=b * 2^j:=by rw [Nat.pow_succ,← Nat.mul_assoc,Nat.mul_div_cancel _ (by decide)]
theorem Yce {X b Q R:Nat} (hX:X=Q * b+R) (hR:R < b):Q=X / b∧R=X % b:=by
 have h:X / b=Q∧X % b=R:=by
  rw [hX,Nat.mul_comm,Nat.mul_add_div (by omega),Nat.div_eq_of_lt hR,Nat.mul_add_mod,Nat.mod_eq_of_lt hR];exact ⟨rfl,rfl⟩
 exact ⟨h.1.symm,h.2.symm⟩
theorem Zuj {S xs:List Nat} {k q s:Nat} {hi lo:Int} (hk:k+q+1 < S.length) (h0:dg S (k+q+1)=0) (hlo:0≤lo) (hhi:0≤hi) (e:di xs k * 2^s=lo+4294967296 * hi)
 (h:(val S:Int)=vt xs k * 2^(32 * q+s)):
 ((val ((S.set (k+q) (di S (k+q)+lo).toNat).set (k+q+1) hi.toNat):Nat):Int)=vt xs (k+1) * 2^(32 * q+s):=by
 have hd:=Zr S (k+q);rw [Zdm (by simpa using hk) hhi,Zdm (by omega) (by omega),Yq (S.set _ _),Yj (by omega),h0,Z4,Yz,h];have e1:((B32^(k+q):Nat):Int)=((B32^k:Nat):Int) * 2^(32 * q):=by
  rw [Nat.pow_add,Zbt q,Int.natCast_mul,Int.natCast_pow 2];rfl
 rw [e1,Int.pow_add];generalize ((B32^k:Nat):Int)=P at *;generalize (2:Int)^(32 * q)=T at *;generalize (2:Int)^s=U at *;generalize (vt xs k:Int)=V at *;generalize di S (k+q)=D at *;generalize di xs k=x at *;simp only [Int.natCast_zero,Int.sub_zero];grind
theorem Zyi {O xs:List Nat} {k:Nat} (hx:xs.length≤k) (hO:O.length≤k) (h:2 * (vt O k:Int)+di xs 0 % 2=(vt xs k:Int)+(di xs k % 2) * ((B32^k:Nat):Int)):val O=val xs / 2:=by
 rw [Xy hx,Xy hO,Yq xs k,Wv hx] at h;have e2:di xs 0 % 2=((dg xs 0 % 2:Nat):Int):=by rw [Int.natCast_emod];rfl
 rw [e2] at h;have:((0:Nat):Int) % 2 * ((B32^k:Nat):Int)=0:=by simp
 omega
end Pl
theorem Zdu [Old] (v:Value) (ds:List Nat) (w:World) (h:ZQ w v ds) (hs:(Zo (val ds)).length≤549755813888) (hOl:Zb w:=by (repeat (first | assumption | exact Zb.up (by assumption) hOl | exact Zb.up (Hid.out (by assumption)) hOl | with_reducible refine Zb.set ?_ _ _ | with_reducible refine Zb.mk_ ?_ _ | with_reducible refine Zb.dr ?_ | with_reducible refine Zb.drN ?_ | refine Zb.up (by assumption) ?_ | refine Zb.up (Hid.out (by assumption)) ?_))):
 Calls Tryz.prog 154 #[v] w fun e w'=>e= .returned (.int .i64 (bl (val ds):Int))∧w=w':=by
 have o:=hOl.le;generalize hX:val ds=X at *;have HX:=JZ hX;clear hX;go_enter Tryz.func154,Tryz.ntmps154;go_wp2_with fail;refine (YA _ ds _ h).mono ?_;rw [HX.out];rintro e w1 ⟨u1,rfl,g1,rfl⟩;clear h;obtain ⟨A,l,c,rfl⟩:=g1.shape;obtain ⟨hl,f,r,hc⟩:=g1.len;rcases JV l with h0 | h0
 ·have hv:X=0:=Wh (by omega);subst h0;have HV:=JZ hv;clear hv hl f hs;go_wp2;go_ret;exact ⟨by rw [HV.out,bl_zero];rfl,rfl⟩
 ·obtain ⟨j,rfl⟩:∃j,l=j+1:=⟨l - 1,by omega⟩;have d:bl X=32 * j+bl (dg (Zo X) j):=Ycb (by omega);obtain ⟨b,s,rfl,_,a⟩:=g1.at_ (by omega);have p:=a j (by omega);have x0:=Zr (Zo X) j;have x1:=Yk (Yb X) j;have HB:=JZ d;have q:(j:Int)≤549755813888:=by omega
  clear a d hl f hs;go_wp2
  go_loop [3,4] (fun n x=>∃(m:Nat) (y:Nat),n= .int .i64 (m:Int)∧x= .int .u32 (y:Int)∧y < 4294967296∧m+bl y=32 * j+bl (dg (Zo X) j)∧m≤32 * j+32) (fun _ x=>(intOf x).toNat)
  case atStart=>exact ⟨32 * j,dg (Zo X) j,by go_num,rfl,by unfold di at x1;omega,rfl,by omega⟩
  case round=>
   obtain ⟨m,y,rfl,rfl,hy,hm,t⟩:=hrel;have HM:=JZ hm;clear hm;rcases JV y with hy0 | hy0
   ·subst hy0;go_wp2;go_ret;exact ⟨WZ (by have:=HB.out;have:=HM.out;rw [bl_zero] at this;omega),rfl⟩
   ·have hh:=Ybz (n:=y) (by omega);have g:=Zrg (n:=dg (Zo X) j);have i:bl (dg (Zo X) j)≤32:=by
     have h1:bl (dg (Zo X) j)≤bl 4294967295:=Zui (by unfold di at x1;omega);have h2:bl 4294967295=32:=Zdt (by decide) (.inr (by decide));omega
    have k:m+1≤32 * j+32:=(by have:=HM.out;omega);have HH:=JZ hh;clear hh g i;go_wp2
    go_round
    case rel=>exact ⟨m+1,y / 2,by go_num,by go_num,by omega,by have:=HM.out;have:=HH.out;omega,k⟩
    case measure=>simp [intOf];omega
theorem Zyj {z y:Int} {s:Nat} (hs:s≤31) (z0:0≤z) (z1:z < 2^s) (y0:0≤y) (y1:y≤4294967295):bits .or .u32 z (y * 2^s % 4294967296)=z+y * 2^s % 4294967296∧z+y * 2^s % 4294967296≤4294967295:=by
 obtain ⟨a,rfl⟩:=JT z0;obtain ⟨b,rfl⟩:=JT y0;have hB:2^s * 2^(32 - s)=4294967296:=by rw [← Nat.pow_add,show s+(32 - s)=32 from by omega]
 have d:=Nat.pow_pos (n:=s) (show 0 < 2 by decide);have f:2^s≤2^31:=Nat.pow_le_pow_right (by decide) hs;rw [Yw] at *;have e:((b:Int) * ((2^s:Nat):Int)) % 4294967296=(((b % 2^(32 - s)) * 2^s:Nat):Int):=by
  have:(b * 2^s) % 4294967296=(b % 2^(32 - s)) * 2^s:=by rw [← hB,Nat.mul_comm (2^s),Nat.mul_mod_mul_right]
  rw [← this];omega
 rw [e];have c:=Nat.mod_lt b (Nat.pow_pos (n:=32 - s) (show 0 < 2 by decide));generalize b % 2^(32 - s)=m at *;have hm:(m+1) * 2^s≤4294967296:=by
  rw [← hB,Nat.mul_comm (2^s)];exact JS _ c
 rw [Nat.add_mul,Nat.one_mul] at hm;refine ⟨?_,by omega⟩;rw [u32_or_nat _ _ (by omega) (by omega),Nat.or_comm,← Nat.shiftLeft_eq,← Nat.shiftLeft_add_eq_or_of_lt (by omega),Nat.shiftLeft_eq];omega
theorem Zrh [Old] (v:Value) (ds:List Nat) (q s:Nat) (w:World) (h:ZQ w v ds) (hs:s≤31) (hl0:ds.length+q≤549755813888) (hOl:Zb w:=by (repeat (first | assumption | exact Zb.up (by assumption) hOl | exact Zb.up (Hid.out (by assumption)) hOl | with_reducible refine Zb.set ?_ _ _ | with_reducible refine Zb.mk_ ?_ _ | with_reducible refine Zb.dr ?_ | with_reducible refine Zb.drN ?_ | refine Zb.up (by assumption) ?_ | refine Zb.up (Hid.out (by assumption)) ?_))):
 Calls Tryz.prog 155 #[v,.int .i64 ((32 * q+s:Nat):Int)] w fun e w'=>∃k l,e= .returned (.slice (some ⟨w.heap.size,0,none⟩) k l)∧ZQ w' (.slice (some ⟨w.heap.size,0,none⟩) k l) (Zo (val ds * 2^(32 * q+s)))∧Below w.heap.size w w':=by
 have G:=hOl.le;obtain ⟨A,l,c,rfl⟩:=h.shape;obtain ⟨hl,C,Z,hc⟩:=h.len;have r:=Wx hs;have H:(1:Int)≤2^s:=XW s;have f:=YE (l+q+1) (by omega)
 push_cast at f
 have HX:Hid (ds.length≤l):=JZ (by omega);have I:(q:Int)≤549755813888:=by omega
 have J:(l:Int)+q≤549755813888:=by omega
 have t:=h.ok;generalize hN:((32 * q+s:Nat):Int)=N;have K:0≤N:=by omega
 have L:N≤17592186044447:=by omega
 have M:N / 32=(q:Int):=by omega
 have P:N % 32=(s:Int):=by omega
 clear hl C hl0 hN;go_enter Tryz.func155,Tryz.ntmps155;go_wp2;clear f
 go_loopw [6] (fun i wr=>∃(k:Nat) (O:List Nat),k≤l∧i= .int .i64 k∧l+q+1≤O.length∧O.length≤l+q+1∧YD wr w.heap.size O∧okD O∧Below w.heap.size w wr∧
  (val O:Int)=vt ds k * 2^(32 * q+s)∧di O (k+q) < 2^s∧∀j,k+q < j→dg O j=0) (fun i _=>l - (intOf i).toNat)
 case atStart=>exact ⟨0,List.replicate (l+q+1) 0,by omega,rfl,by simp,by simp,YD.zeros w _,ZM _,(JR _ _).alloc (JY _) _,by simp [YN,XB],by rw [Yq,WO];simp;omega,fun j _=>WO _ _⟩
 case round=>
  obtain ⟨k,O,hk,rfl,hO,m,hB,ok,d,n,o,hz⟩:=hrel;have HE:=JZ n;have HZ:=JZ hz;clear n hz;rcases JX k l with hkl | hkl
  ·obtain ⟨b1,F,rfl,D,b⟩:=h.at_ (by omega);have hx:=XC d D b hkl;have x0:=Zr ds k;have x1:=Yk t k;have z0:=Zr O (k+q);obtain ⟨p,E⟩:=Zyj hs z0 o x0 x1;have ho:=hB.cell (k:=k+q) (by omega);have hf:=hB.frozen (k+q);have m0:0≤di ds k * 2^s % 4294967296:=Int.emod_nonneg _ (by decide);have a:=hB.setI (k+q) (z:=di O (k+q)+di ds k * 2^s % 4294967296) (by omega);have u:=a.cell (k:=k+q+1) (by simp;omega);have x:=a.frozen (k+q+1);have R:(k:Int)+q < (l:Int)+q+1:=(by omega);have S:(k:Int)+q+1 < (l:Int)+q+1:=(by omega);have U:((k:Int)+q).toNat=k+q:=(by omega);have V:((k:Int)+q+1).toNat=k+q+1:=(by omega);have p0:0≤di ds k * 2^s:=Int.mul_nonneg x0 (by omega);have p1:di ds k * 2^s≤4294967295 * 2147483648:=Int.mul_le_mul x1 r (by omega) (by omega);have y:di ds k * 2^s / 4294967296 < 2^s:=by
    have:di ds k * 2^s < 4294967296 * 2^s:=Int.mul_lt_mul_of_pos_right (by omega) (by omega);exact Int.ediv_lt_of_lt_mul (by decide) (by rw [Int.mul_comm (2^s)];exact this)
   have g:∀T:Int,T=di ds k * 2^s→((val ((O.set (k+q) (di O (k+q)+T % 4294967296).toNat).set (k+q+1) (T / 4294967296).toNat):Nat):Int)=vt ds (k+1) * 2^(32 * q+s):=by
    rintro T rfl;exact Zuj (by omega) (HZ.out _ (by omega)) m0 (by omega) (by omega) HE.out
   obtain ⟨T,hT⟩:∃T,T=di ds k * 2^s:=⟨_,rfl⟩;have B:=JZ (g T hT);rw [← hT] at p E m0 a u x p0 p1 y;have X:=hT.symm;clear hT g;have Y:bits .or .u32 (di O (k+q)) (T % 4294967296)=di O (k+q)+T % 4294967296:=p;go_wp2;go_roundw
   case rel=>exact ⟨k+1,(O.set (k+q) (di O (k+q)+T % 4294967296).toNat).set (k+q+1) (T / 4294967296).toNat,by omega,by go_num,by simpa using hO,by simpa using m,a.setI _ (by omega),ZN (ZN ok _ (by unfold B32;omega)) _ (by unfold B32;omega),(d.setCell (JY _) _).setCell (JY _) _,B.out,by rw [show k+1+q=k+q+1 by omega,Yq,VT (by simp;omega)];omega,fun j hj=>by rw [Yj (by omega),Yj (by omega)];exact HZ.out j (by omega)⟩
   case measure=>simp [intOf];omega
  ·obtain rfl:k=l:=by omega
   go_wp2_with fail;refine (Zdc _ _ _ O _ ?_).mono ?_
   ·have:=hB.dig ok (c:=k+q+1) m (by unfold maxLen;omega)
    rwa [show O.length=k+q+1 from by omega] at this
   rintro e w1 ⟨k',rfl,hv,rfl⟩;go_wp2_with fail;go_ret;refine ⟨_,_,rfl,?_,d⟩;have:=HE.out;rw [Xy HX.out,Yw,← Int.natCast_mul] at this
   rwa [Int.natCast_inj.1 this] at hv
theorem cell_far {w:World} {b o g:Nat} {v:Value} (hne:b≠g) (h:w.cell? ⟨b,o,none⟩=some v) (k:Nat) (u:Value):(w.setCell ⟨g,k,none⟩ u).drew.cell? ⟨b,o,none⟩=some v:=
 (World.cell?_setCell_other w ⟨g,k,none⟩ ⟨b,o,none⟩ u (fun e=>hne (by injection e with e1;exact e1.symm))).trans h
theorem Ycf {x y:Int} (x0:0≤x) (x1:x≤4294967295) (y0:0≤y) (y1:y≤4294967295):bits .or .u32 (x / 2) (y * 2147483648 % 4294967296)=x / 2+2147483648 * (y % 2):=by
 have e:y * 2147483648 % 4294967296=((2147483648 * (y.toNat % 2):Nat):Int):=by omega
 have e1:x / 2=((x.toNat / 2:Nat):Int):=by omega
 rw [e,e1,u32_or_nat _ _ (by omega) (by omega)];have h:2147483648 * (y.toNat % 2) ||| (x.toNat / 2)=2147483648 * (y.toNat % 2)+x.toNat / 2:=by
  have:=Nat.shiftLeft_add_eq_or_of_lt (i:=31) (b:=x.toNat / 2) (by omega) (y.toNat % 2);rw [Nat.shiftLeft_eq,show (2:Nat)^31=2147483648 from rfl,Nat.mul_comm] at this;exact this.symm
 rw [Nat.or_comm,h];omega
theorem Zkc [Old] (v:Value) (ds:List Nat) (w:World) (h:ZQ w v ds) (hl0:ds.length≤549755813888) (hOl:Zb w:=by (repeat (first | assumption | exact Zb.up (by assumption) hOl | exact Zb.up (Hid.out (by assumption)) hOl | with_reducible refine Zb.set ?_ _ _ | with_reducible refine Zb.mk_ ?_ _ | with_reducible refine Zb.dr ?_ | with_reducible refine Zb.drN ?_ | refine Zb.up (by assumption) ?_ | refine Zb.up (Hid.out (by assumption)) ?_))):
 Calls Tryz.prog 156 #[v] w fun e w'=>∃k l,e= .returned (.slice (some ⟨w.heap.size,0,none⟩) k l)∧ZQ w' (.slice (some ⟨w.heap.size,0,none⟩) k l) (Zo (val ds / 2))∧Below w.heap.size w w':=by
 have r:=hOl.le;obtain ⟨A,l,c,rfl⟩:=h.shape;obtain ⟨hl,p,u,hc⟩:=h.len;have m:=YE l (by omega);have HX:Hid (ds.length≤l):=JZ (by omega);have s:(l:Int)≤549755813888:=by omega
 have g:=h.ok;clear hl p hl0;go_enter Tryz.func156,Tryz.ntmps156;go_wp2;clear m
 go_loopw [4] (fun i wr=>∃(k:Nat) (O:List Nat),k≤l∧i= .int .i64 k∧l≤O.length∧O.length≤l∧YD wr w.heap.size O∧okD O∧Below w.heap.size w wr∧
  2 * (vt O k:Int)+di ds 0 % 2=(vt ds k:Int)+(di ds k % 2) * ((B32^k:Nat):Int)) (fun i _=>l - (intOf i).toNat)
 case atStart=>exact ⟨0,List.replicate l 0,by omega,rfl,by simp,by simp,YD.zeros w _,ZM _,(JR _ _).alloc (JY _) _,by simp [YN]⟩
 case round=>
  obtain ⟨k,O,hk,rfl,hO,f,hB,ok,b,j⟩:=hrel;have HE:=JZ j;clear j;rcases JX k l with hkl | hkl
  ·obtain ⟨b1,d,rfl,q,a⟩:=h.at_ (by omega);have hx:=XC b q a hkl;have x0:=Zr ds k;have x1:=Yk g k;have y0:=Zr ds (k+1);have y1:=Yk g (k+1);have ho:=hB.cell (k:=k) (by omega);have hf:=hB.frozen k;clear a;have t:=Ycf x0 x1 y0 y1;have g1:IntKind.i64.wrap ((k:Int)+1)=((k+1:Nat):Int):=(by simp only [IntKind.wrap,IntKind.bits,IntKind.signed];simp;omega);have g2:IntKind.u64.wrap (di ds (k+1) * 2147483648)=di ds (k+1) * 2147483648:=u64_in _ (by omega) (by omega);have g3:IntKind.u32.wrap (di ds (k+1) * 2147483648)=di ds (k+1) * 2147483648 % 4294967296:=(by simp only [IntKind.wrap,IntKind.bits,IntKind.signed];simp);have hd:=XQ (.slice (some ⟨b1,d,none⟩) l c) ds (k+1) wr.drew ((h.below b).keep (ZG.drew _)) (by omega);have n:Hid (2 * (vt (O.set k (di ds k / 2+2147483648 * (di ds (k+1) % 2)).toNat) (k+1):Int)+di ds 0 % 2=(vt ds (k+1):Int)+(di ds (k+1) % 2) * ((B32^(k+1):Nat):Int)):=JZ (Zhj (by omega) (by omega) (by omega) HE.out);go_wp2;have o:b1≠w.heap.size:=by omega
   go_region_held3 (fun w'=>w'.cell? ⟨b1,d+k,none⟩=some (.int .u32 (di ds k)))
    (first | exact hx | exact cell_far o hx _ _)
    ((go_at_call 153;refine hd.mono ?_;rintro e w1 ⟨rfl,rfl⟩))
   go_wp2;go_roundw
   case rel=>exact ⟨k+1,O.set k (di ds k / 2+2147483648 * (di ds (k+1) % 2)).toNat,by omega,by go_num,by simpa using hO,by simpa using f,hB.setI k (by omega),ZN ok _ (by unfold B32;omega),(b.setCell (JY _) _).drew,n.out⟩
   case measure=>simp [intOf];omega
  ·obtain rfl:k=l:=by omega
   go_wp2_with fail;refine (Zdc _ _ _ O _ ?_).mono ?_
   ·have:=hB.dig ok (c:=k) f (by unfold maxLen;omega)
    rwa [show O.length=k from by omega] at this
   rintro e w1 ⟨k',rfl,hv,rfl⟩;go_wp2_with fail;go_ret;refine ⟨_,_,rfl,?_,b⟩
   rwa [Zyi HX.out f HE.out] at hv
end Go.Proofs.YtncmobkhenfhpaaGreat
