/- Contracts and plain facts that the claim is built on, joined out of smaller texts; no condition. -/
import Derived.Test.YtncmobkhenfhpaaGreatB2
set_option linter.unusedVariables false
set_option linter.unusedSimpArgs false
set_option maxRecDepth 100000
set_option maxHeartbeats 40000000
namespace Go.Proofs.YtncmobkhenfhpaaGreat
open Go.RowKit
open Pl
section
namespace Pl
theorem kn_start {U V V' U' q v1 top P:Nat} (hV:V=v1 * P+V') (hU:U=top * P+U') (hU':U' < P) (hq:q * V≤U) (h1:0 < v1):q≤top / v1:=by
 rw [Nat.le_div_iff_mul_le h1]
 have a1:q * (v1 * P)≤q * V:=Nat.mul_le_mul_left _ (by omega)
 have a2:q * v1 * P < (top+1) * P:=by
  rw [Nat.mul_assoc,Nat.add_mul,Nat.one_mul];omega
 have:=Nat.lt_of_mul_lt_mul_right a2
 omega
theorem kn_dec {U V V' U' q G v12 top3 P:Nat} (hV:V=v12 * P+V') (hU:U=top3 * P+U') (hU':U' < P) (hq:q * V≤U) (h:top3 < G * v12):q < G:=by
 rcases Nat.lt_or_ge q G with h1 | h1
 ·exact h1
 ·exfalso
  have a1:G * (v12 * P)≤q * V:=Nat.mul_le_mul h1 (by omega)
  have a2:(top3+1) * P≤G * v12 * P:=Nat.mul_le_mul_right _ h
  rw [Nat.add_mul,Nat.one_mul] at a2
  rw [← Nat.mul_assoc] at a1
  omega
theorem kn_exit {U V V' U' G v12 top3 P b:Nat} (hV:V=v12 * P+V') (hU:U=top3 * P+U') (hV':V' < P) (h:G * v12≤top3) (hG:G≤b) (hb:b * P≤V):G * V≤U+V:=by
 have a1:G * V=G * v12 * P+G * V':=by rw [hV,Nat.mul_add,Nat.mul_assoc]
 have a2:G * v12 * P≤top3 * P:=Nat.mul_le_mul_right _ h
 have a3:G * V'≤b * P:=Nat.mul_le_mul hG (by omega)
 omega
theorem ring_msub (O g f v p r q a b c bo y x:Int) (h:O - (c+bo) * p=a - g * b) (e1:c+g * f=y+4294967296 * v) (e2:x - bo - y=r - 4294967296 * q):O+r * p - (v+q) * (p * 4294967296)=a+x * p - g * (b+f * p):=by grind
theorem vt_top2 (X:List Nat) (m:Nat):vt X (m+3)=(dg X (m+2) * B32+dg X (m+1)) * B32^(m+1)+vt X (m+1):=by
 rw [vt_succ',vt_succ',Nat.pow_succ B32 (m+1),Nat.add_mul]
 generalize B32^(m+1)=p
 generalize B32=b
 have:dg X (m+2) * (p * b)=dg X (m+2) * b * p:=by rw [Nat.mul_assoc,Nat.mul_comm p b]
 omega
theorem vt_top3 (X:List Nat) (m:Nat):vt X (m+3)=((dg X (m+2) * B32+dg X (m+1)) * B32+dg X m) * B32^m+vt X m:=by
 rw [vt_top2,vt_succ' X m,Nat.pow_succ,Nat.add_mul _ (dg X m)]
 generalize dg X (m+2) * B32+dg X (m+1)=t
 generalize B32^m=p
 generalize B32=b
 have:t * (p * b)=t * b * p:=by rw [Nat.mul_assoc,Nat.mul_comm p b]
 omega
theorem vt_v1 (X:List Nat) (m:Nat):vt X (m+2)=dg X (m+1) * B32^(m+1)+vt X (m+1):=by rw [vt_succ',Nat.add_comm]
theorem vt_v2 (X:List Nat) (m:Nat):vt X (m+2)=(dg X (m+1) * B32+dg X m) * B32^m+vt X m:=by
 rw [vt_v1,vt_succ' X m,Nat.pow_succ,Nat.add_mul]
 generalize B32^m=p
 generalize B32=b
 have:dg X (m+1) * (p * b)=dg X (m+1) * b * p:=by rw [Nat.mul_assoc,Nat.mul_comm p b]
 omega
section
variable {U vs:List Nat} {m q:Nat} {G R:Int}
theorem kn_init (okU:okD U) (hq:q * vt vs (m+2)≤vt U (m+3)) (h1:1≤di vs (m+1)):(q:Int)≤(di U (m+2) * 4294967296+di U (m+1)) / di vs (m+1):=by
 have h:=kn_start (vt_v1 vs m) (vt_top2 U m) (vt_lt okU _) hq (by rw [di_eq] at h1;omega)
 have e:(di U (m+2) * 4294967296+di U (m+1)) / di vs (m+1)=(((dg U (m+2) * B32+dg U (m+1)) / dg vs (m+1):Nat):Int):=by
  rw [Int.natCast_ediv,Int.natCast_add,Int.natCast_mul];rfl
 rw [e]
 omega
theorem kn_down (okU:okD U) (hq:q * vt vs (m+2)≤vt U (m+3)) (hG:0≤G) (hR:0≤R) (e:G * di vs (m+1)+R=di U (m+2) * 4294967296+di U (m+1)) (t:R * 4294967296+di U m < G * di vs m):(q:Int)≤G - 1:=by
 obtain ⟨g,rfl⟩:=Int.eq_ofNat_of_zero_le hG
 obtain ⟨r,rfl⟩:=Int.eq_ofNat_of_zero_le hR
 have e':g * dg vs (m+1)+r=dg U (m+2) * B32+dg U (m+1):=by
  rw [di_eq,di_eq,di_eq] at e
  rw [B32_eq]
  omega
 have t':r * B32+dg U m < g * dg vs m:=by
  rw [di_eq,di_eq] at t
  rw [B32_eq]
  have:((g * dg vs m:Nat):Int)=(g:Int) * (dg vs m:Nat):=Int.natCast_mul _ _
  omega
 have h:=kn_dec (G:=g) (vt_v2 vs m) (vt_top3 U m) (vt_lt okU _) hq (by
  rw [← e',Nat.add_mul,Nat.mul_add]
  have:g * (dg vs (m+1) * B32)=g * dg vs (m+1) * B32:=(Nat.mul_assoc _ _ _).symm
  omega)
 omega
theorem kn_done (okV:okD vs) (hG:0≤G) (hG1:G≤4294967295) (hR:0≤R) (h1:1≤di vs (m+1)) (e:G * di vs (m+1)+R=di U (m+2) * 4294967296+di U (m+1)) (t:G * di vs m≤R * 4294967296+di U m):
 G.toNat * vt vs (m+2)≤vt U (m+3)+vt vs (m+2):=by
 obtain ⟨g,rfl⟩:=Int.eq_ofNat_of_zero_le hG
 obtain ⟨r,rfl⟩:=Int.eq_ofNat_of_zero_le hR
 have e':g * dg vs (m+1)+r=dg U (m+2) * B32+dg U (m+1):=by
  rw [di_eq,di_eq,di_eq] at e
  rw [B32_eq]
  omega
 have t':g * dg vs m≤r * B32+dg U m:=by
  rw [di_eq,di_eq] at t
  rw [B32_eq]
  have:((g * dg vs m:Nat):Int)=(g:Int) * (dg vs m:Nat):=Int.natCast_mul _ _
  omega
 rw [Int.toNat_natCast]
 refine kn_exit (b:=B32) (vt_v2 vs m) (vt_top3 U m) (vt_lt okV _) ?_ (by rw [B32_eq];omega) ?_
 ·rw [← e',Nat.add_mul,Nat.mul_add]
  have:g * (dg vs (m+1) * B32)=g * dg vs (m+1) * B32:=(Nat.mul_assoc _ _ _).symm
  omega
 ·rw [vt_v2,Nat.mul_comm B32]
  have h2:B32^m * B32≤(dg vs (m+1) * B32+dg vs m) * B32^m:=by
   rw [Nat.mul_comm]
   refine Nat.mul_le_mul_right _ ?_
   have:1 * B32≤dg vs (m+1) * B32:=Nat.mul_le_mul_right _ (by rw [di_eq] at h1;omega)
   omega
  omega
theorem kn_top (okV:okD vs) (h:vt U (m+3) < B32 * vt vs (m+2)):di U (m+2)≤di vs (m+1):=by
 rcases Nat.lt_or_ge (dg vs (m+1)) (dg U (m+2)) with h1 | h1
 ·exfalso
  rw [vt_succ' U (m+2),vt_v1 vs m] at h
  have a1:=vt_lt okV (m+1)
  have a2:(dg vs (m+1)+1) * B32^(m+2)≤dg U (m+2) * B32^(m+2):=Nat.mul_le_mul_right _ h1
  rw [Nat.pow_succ B32 (m+1)] at a2 h
  generalize B32^(m+1)=p at *
  generalize vt vs (m+1)=y at *
  generalize dg vs (m+1)=d at *
  have a3:(d+1) * (p * B32)=B32 * (d * p+p):=by rw [Nat.mul_comm p,← Nat.mul_assoc,Nat.mul_comm (d+1),Nat.mul_assoc,Nat.add_mul,Nat.one_mul]
  have a4:B32 * (d * p+y)≤B32 * (d * p+p):=Nat.mul_le_mul_left _ (by omega)
  omega
 ·rw [di_eq,di_eq];omega
end
theorem msub_step {X U vs:List Nat} {k:Nat} {g c bo r q v y:Int} (hk:k < X.length) (hr:0≤r) (e1:c+g * di vs k=y+4294967296 * v) (e2:di U k - bo - y=r - 4294967296 * q)
 (h:(vt X k:Int) - (c+bo) * ((B32^k:Nat):Int)=vt U k - g * vt vs k):
 (vt (X.set k r.toNat) (k+1):Int) - (v+q) * ((B32^(k+1):Nat):Int)=vt U (k+1) - g * vt vs (k+1):=by
 rw [vt_cast_set hk hr,vt_cast_succ,vt_cast_succ,pow_cast_succ]
 exact ring_msub _ _ _ _ _ _ _ _ _ _ _ _ _ h e1 e2
theorem msub_end {U vs X:List Nat} {n q:Nat} {g c bo:Int} (okX:okD X) (okV:okD vs) (hV:0 < vt vs n) (hq:q=vt U (n+1) / vt vs n) (hg0:(q:Int)≤g) (hg1:g.toNat * vt vs n≤vt U (n+1)+vt vs n)
 (h:(vt X n:Int) - (c+bo) * ((B32^n:Nat):Int)=vt U n - g * vt vs n):
 (0≤di U n - bo - c→di U n - bo - c=0∧g=q∧vt X n=vt U (n+1) % vt vs n)∧
 (di U n - bo - c < 0→di U n - bo - c= -1∧g - 1=q∧vt X n+vt vs n=vt U (n+1) % vt vs n+B32^n):=by
 obtain ⟨G,rfl⟩:=Int.eq_ofNat_of_zero_le (show 0≤g by omega)
 rw [Int.toNat_natCast] at hg1
 have hX:=vt_lt okX n
 have hVb:=vt_lt okV n
 have hU:=vt_cast_succ U n
 have hdm:=Nat.div_add_mod (vt U (n+1)) (vt vs n)
 have hml:=Nat.mod_lt (vt U (n+1)) hV
 rw [← hq] at hdm
 generalize vt U (n+1) % vt vs n=R at *
 generalize vt U (n+1)=UU at *
 generalize vt vs n=V at *
 generalize vt X n=XX at *
 generalize B32^n=P at *
 generalize vt U n=U0 at *
 have hGq:G=q∨G=q+1:=by
  have:G < q+2:=by
   have a:G * V < (q+2) * V:=by
    rw [Nat.add_mul]
    have:V * q=q * V:=Nat.mul_comm _ _
    omega
   exact Nat.lt_of_mul_lt_mul_right a
  omega
 have key:(XX:Int)+(di U n - bo - c) * (P:Int)=UU - G * V:=by
  have:(di U n - bo - c) * (P:Int)=di U n * (P:Int) - (c+bo) * (P:Int):=by rw [Int.sub_sub,Int.sub_mul];rw [Int.add_comm bo c]
  omega
 generalize di U n - bo - c=t at *
 have hqV:((q * V:Nat):Int)=(q:Int) * V:=Int.natCast_mul _ _
 have hcomm:V * q=q * V:=Nat.mul_comm _ _
 rcases hGq with rfl | rfl
 ·have hR:(XX:Int)+t * P=R:=by omega
  refine ⟨fun h0=>?_,fun h0=>?_⟩
  ·have ht:t=0:=by
    rcases Int.lt_or_eq_of_le h0 with h1 | h1
    ·exfalso
     have:1 * (P:Int)≤t * P:=Int.mul_le_mul_of_nonneg_right (by omega) (by omega)
     omega
    ·exact h1.symm
   subst ht
   exact ⟨rfl,rfl,by omega⟩
  ·exfalso
   have:t * (P:Int)≤(-1) * P:=Int.mul_le_mul_of_nonneg_right (by omega) (by omega)
   omega
 ·have hR:(XX:Int)+t * P=R - V:=by
   have:(((q+1:Nat):Int)) * V=(q:Int) * V+V:=by rw [Int.natCast_add,Int.add_mul];simp
   omega
  refine ⟨fun h0=>?_,fun h0=>?_⟩
  ·exfalso
   have:0 * (P:Int)≤t * P:=Int.mul_le_mul_of_nonneg_right h0 (by omega)
   omega
  ·have ht:t= -1:=by
    rcases Int.lt_or_eq_of_le (show t≤ -1 by omega) with h1 | h1
    ·exfalso
     have:t * (P:Int)≤(-2) * P:=Int.mul_le_mul_of_nonneg_right (by omega) (by omega)
     omega
    ·exact h1
   subst ht
   exact ⟨rfl,by omega,by omega⟩
end Pl
end
namespace Pl
theorem dg_zero_of_lt {X:List Nat} {n:Nat} (h:val X < B32^n) {i:Nat} (hi:n≤i):dg X i=0:=by
 rcases Nat.eq_zero_or_pos (dg X i) with h0 | h0
 ·exact h0
 ·exfalso
  have h1:=val_split X i
  have h2:B32^i * 1≤B32^i * (dg X i+B32 * val (X.drop (i+1))):=Nat.mul_le_mul_left _ (by omega)
  have h3:B32^n≤B32^i:=Nat.pow_le_pow_right B32_pos hi
  omega
theorem vt_of_zero {X:List Nat} {n:Nat} (h:∀i,n≤i→dg X i=0):vt X n=val X:=by
 have:∀k,vt X (n+k)=vt X n:=by
  intro k
  induction k with
  | zero=>rfl
  | succ k ih=>rw [← Nat.add_assoc,vt_succ',h (n+k) (by omega),ih];simp
 have h2:=this X.length
 rw [vt_ge (by omega)] at h2
 exact h2.symm
theorem val_cut {X:List Nat} {j n:Nat} (h:∀i,j+n≤i→dg X i=0):val X=vt X j+B32^j * vt (X.drop j) n:=by
 have e:vt (X.drop j) n=val (X.drop j):=vt_of_zero (fun i hi=>by rw [dg_drop];exact h _ (by omega))
 rw [e]
 rcases Nat.lt_or_ge j X.length with hj | hj
 ·have hl:(X.take j).length=j:=by rw [List.length_take];omega
  have:=val_append (X.take j) (X.drop j)
  rw [List.take_append_drop,hl] at this
  exact this
 ·rw [List.drop_eq_nil_of_le hj,vt_ge hj];simp [val]
theorem vt_low (ds:List Nat) (n:Nat):vt ds (n+1)=dg ds 0+B32 * vt (ds.drop 1) n:=by
 cases ds with
 | nil=>simp [vt,val,dg]
 | cons d ds=>
  simp [vt,val,dg]
theorem norm_top {Y:Nat} {ys OV:List Nat} {m s:Nat} (hy:ys=digs Y) (hl:ys.length=m+2) (hs:s≤31) (h0:2147483648≤dg ys (m+1) * 2^s) (h1:dg ys (m+1) * 2^s≤4294967295) (okV:okD OV) (hV:val OV=Y * 2^s):
 vt OV (m+2)=Y * 2^s∧2147483648≤dg OV (m+1):=by
 have okY:okD ys:=hy▸okD_digs Y
 have hY:Y=vt ys (m+2):=by rw [vt_ge (by omega),hy,val_digs]
 rw [vt_v1] at hY
 have hlow:=vt_lt okY (m+1)
 have hB:2^s * 2^(32 - s)=B32:=by rw [← Nat.pow_add,show s+(32 - s)=32 from by omega];rfl
 generalize ht:dg ys (m+1)=t at *
 generalize hP:B32^(m+1)=P at *
 -- (t+1) 2^s≤B
 have hts:(t+1) * 2^s≤B32:=by
  have a:t * 2^s < 2^(32 - s) * 2^s:=by rw [Nat.mul_comm (2^(32 - s)),hB];unfold B32;omega
  have b:=Nat.lt_of_mul_lt_mul_right a
  have c:(t+1) * 2^s≤2^(32 - s) * 2^s:=Nat.mul_le_mul_right _ b
  rwa [Nat.mul_comm (2^(32 - s)),hB] at c
 have hlt:val OV < B32^(m+2):=by
  rw [hV,Nat.pow_succ,hP]
  have a:(Y+1) * 2^s≤((t+1) * P) * 2^s:=Nat.mul_le_mul_right _ (by rw [Nat.add_mul,Nat.one_mul];omega)
  have b:((t+1) * 2^s) * P≤B32 * P:=Nat.mul_le_mul_right _ hts
  rw [Nat.add_mul,Nat.one_mul] at a
  have c:(t+1) * P * 2^s=(t+1) * 2^s * P:=Nat.mul_right_comm _ _ _
  have d:=Nat.pow_pos (n:=s) (show 0 < 2 by decide)
  rw [Nat.mul_comm P]
  omega
 have hz:∀i,m+2≤i→dg OV i=0:=fun i hi=>dg_zero_of_lt hlt hi
 have e:=vt_of_zero hz
 refine ⟨by rw [e,hV],?_⟩
 rcases Nat.lt_or_ge (dg OV (m+1)) 2147483648 with h | h
 ·exfalso
  have a:=vt_v1 OV m
  rw [e,hV,hP] at a
  have b:=vt_lt okV (m+1)
  rw [hP] at b
  have c:(dg OV (m+1)+1) * P≤2147483648 * P:=Nat.mul_le_mul_right _ h
  rw [Nat.add_mul,Nat.one_mul] at c
  have d:2147483648 * P≤(t * 2^s) * P:=Nat.mul_le_mul_right _ h0
  have f:(t * P) * 2^s≤Y * 2^s:=Nat.mul_le_mul_right _ (by omega)
  have g:t * 2^s * P=t * P * 2^s:=Nat.mul_right_comm _ _ _
  omega
 ·exact h
theorem long_start {X s l m:Nat} {OU OV:List Nat} (hX:X < B32^l) (hs:s≤31) (hm:m+2≤l) (hU:val OU=X * 2^s) (hlen:OU.length≤l+1) (ht:2147483648≤dg OV (m+1)):
 vt (OU.drop (l - (m+2)+1)) (m+2) < vt OV (m+2):=by
 have hz:∀i,l - (m+2)+1+(m+2)≤i→dg OU i=0:=fun i hi=>dg_ge (by omega)
 have hc:=val_cut hz
 have h2s:2^s≤2147483648:=Nat.pow_le_pow_right (show 0 < 2 by decide) hs
 rcases Nat.lt_or_ge (vt (OU.drop (l - (m+2)+1)) (m+2)) (vt OV (m+2)) with h | h
 ·exact h
 ·exfalso
  have a:2147483648 * B32^(m+1)≤vt OV (m+2):=by
   rw [vt_v1]
   have:=Nat.mul_le_mul_right (B32^(m+1)) ht
   omega
  have b:B32^(l - (m+2)+1) * (2147483648 * B32^(m+1))≤B32^(l - (m+2)+1) * vt (OU.drop (l - (m+2)+1)) (m+2):=Nat.mul_le_mul_left _ (Nat.le_trans a h)
  have c:B32^(l - (m+2)+1) * (2147483648 * B32^(m+1))=2147483648 * B32^l:=by
   rw [Nat.mul_left_comm,← Nat.pow_add,show l - (m+2)+1+(m+1)=l from by omega]
  have d:(X+1) * 2^s≤B32^l * 2147483648:=Nat.mul_le_mul hX h2s
  rw [Nat.add_mul,Nat.one_mul] at d
  have e:=Nat.pow_pos (n:=s) (show 0 < 2 by decide)
  rw [Nat.mul_comm (B32^l)] at d
  omega
theorem long_step {U V j m:Nat} {O O' Q:List Nat} (hj:j < Q.length) (hVpos:0 < V) (hVlt:V≤B32^(m+2)) (hz:∀i,j+1+(m+2)≤i→dg O i=0)
 (hsame:∀i,i < j∨j+m+3≤i→dg O' i=dg O i) (hrem:vt (O'.drop j) (m+3)=vt (O.drop j) (m+3) % V) (hU:U=V * val (Q.drop (j+1)) * B32^(j+1)+val O):
 (∀i,j+(m+2)≤i→dg O' i=0)∧vt (O'.drop j) (m+2) < V∧U=V * val ((Q.set j (vt (O.drop j) (m+3) / V)).drop j) * B32^j+val O':=by
 have hlt:=Nat.mod_lt (vt (O.drop j) (m+3)) hVpos
 have hz':∀i,j+(m+3)≤i→dg O' i=0:=fun i hi=>by rw [hsame i (.inr (by omega))];exact hz i (by omega)
 have htop:dg O' (j+(m+2))=0:=by
  have a:=vt_succ' (O'.drop j) (m+2)
  rw [hrem] at a
  rcases Nat.eq_zero_or_pos (dg (O'.drop j) (m+2)) with h | h
  ·rwa [dg_drop] at h
  ·exfalso
   have:1 * B32^(m+2)≤dg (O'.drop j) (m+2) * B32^(m+2):=Nat.mul_le_mul_right _ h
   omega
 have hz2:∀i,j+(m+2)≤i→dg O' i=0:=fun i hi=>by
  rcases Nat.eq_or_lt_of_le hi with e | e
  ·rw [← e];exact htop
  ·exact hz' i (by omega)
 have hv:vt (O'.drop j) (m+3)=vt (O'.drop j) (m+2):=by rw [vt_succ',dg_drop,htop];simp
 refine ⟨hz2,by rw [← hv,hrem];exact hlt,?_⟩
 have e1:=val_cut (X:=O) (j:=j) (n:=m+3) (fun i hi=>hz i (by omega))
 have e2:=val_cut (X:=O') (j:=j) (n:=m+3) hz'
 have e3:vt O' j=vt O j:=vt_congr (fun i hi=>hsame i (.inl hi))
 rw [hrem,e3] at e2
 rw [hU,e1,e2,val_drop (Q.set j _) j,dg_set_eq hj,List.drop_set_of_lt (by omega),Nat.pow_succ]
 have e4:=Nat.div_add_mod (vt (O.drop j) (m+3)) V
 generalize vt (O.drop j) (m+3) / V=q at *
 generalize vt (O.drop j) (m+3) % V=R at *
 generalize vt (O.drop j) (m+3)=W at *
 generalize val (Q.drop (j+1))=A at *
 generalize B32^j=P at *
 generalize B32=b at *
 rw [← e4]
 have f1:V * (q+b * A) * P=V * q * P+V * A * (P * b):=by
  rw [Nat.mul_add,Nat.add_mul]
  congr 1
  rw [Nat.mul_left_comm,Nat.mul_comm P b,Nat.mul_comm b,Nat.mul_assoc,Nat.mul_assoc]
 rw [f1,Nat.mul_add,Nat.mul_comm P (V * q)]
 omega
theorem long_end {X Y s m:Nat} {O Q OV:List Nat} (hU:X * 2^s=vt OV (m+2) * val Q+val O) (hV:vt OV (m+2)=Y * 2^s) (hz:∀i,m+2≤i→dg O i=0) (hr:vt O (m+2) < vt OV (m+2)):val Q=X / Y∧vt O (m+2) / 2^s=X % Y:=by
 rw [vt_of_zero hz] at hr ⊢
 rw [hV] at hU hr
 have hp:=Nat.pow_pos (n:=s) (show 0 < 2 by decide)
 generalize 2^s=p at *
 have hY:0 < Y:=Nat.pos_of_ne_zero (fun e=>by subst e;simp at hr)
 -- val O is a multiple of p
 have e1:Y * p * val Q=p * (Y * val Q):=by rw [Nat.mul_comm Y p,Nat.mul_assoc]
 have e2:val O=p * (X - Y * val Q):=by rw [Nat.mul_sub,← e1,Nat.mul_comm p X];omega
 have e3:Y * val Q≤X:=by
  have:p * (Y * val Q)≤p * X:=by rw [← e1,Nat.mul_comm p X];omega
  exact Nat.le_of_mul_le_mul_left this hp
 have e4:X - Y * val Q < Y:=by
  rw [e2,Nat.mul_comm Y p] at hr
  exact Nat.lt_of_mul_lt_mul_left hr
 rw [e2,Nat.mul_div_cancel_left _ hp]
 have e5:X=Y * val Q+(X - Y * val Q):=by omega
 generalize X - Y * val Q=r at *
 subst e5
 rw [Nat.mul_add_div hY,Nat.div_eq_of_lt e4,Nat.mul_add_mod,Nat.mod_eq_of_lt e4]
 exact ⟨by omega,rfl⟩
end Pl
end Go.Proofs.YtncmobkhenfhpaaGreat
