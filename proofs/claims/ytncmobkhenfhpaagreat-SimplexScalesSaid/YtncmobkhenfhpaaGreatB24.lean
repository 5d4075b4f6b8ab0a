/- Contracts and plain facts that the claim is built on, joined out of smaller texts; no condition. -/
import Derived.OpenShut
import Derived.Test.YtncmobkhenfhpaaGreatB19
import Derived.Test.YtncmobkhenfhpaaGreatB25
set_option linter.unusedVariables false
set_option linter.unusedSimpArgs false
set_option maxRecDepth 100000
set_option maxHeartbeats 40000000
namespace Go.Proofs.YtncmobkhenfhpaaGreat
open Go.RowKit
open Pl
attribute [local go_sem ↓] Go.wp_at_zero Go.wp_at_succ
def SumsAt (base:Nat) (m K:Nat) (f:Nat→Rat) (wr:World) (v:Value):Prop:=
 ∃fs,FrsO base wr v fs∧fs.length=m∧(∀i,i < m→qAt fs i=f i)∧RsL K fs
theorem SumsAt.below {base m K:Nat} {f:Nat→Rat} {w w':World} {v:Value} (h:SumsAt base m K f w v) (hb:Below w.heap.size w w'):SumsAt base m K f w' v:=by
 obtain ⟨fs,h1,h2,h3,h4⟩:=h
 exact ⟨fs,h1.below hb,h2,h3,h4⟩
theorem SumsAt.at_ {base m K:Nat} {f:Nat→Rat} {w:World} {g n c:Nat} (h:SumsAt base m K f w (.slice (some ⟨g,0,none⟩) n c)) {k:Nat} (hk:k < m):
 ∃a A n c A' n' c',(w.cell? ⟨g,k * 4,none⟩=some (.bool (RF.num a).neg)∧w.cell? ⟨g,k * 4+1,none⟩=some (.slice A n c)∧w.cell? ⟨g,k * 4+2,none⟩=some (.bool (RF.den a).neg)∧w.cell? ⟨g,k * 4+3,none⟩=some (.slice A' n' c'))∧(w.frozen? ⟨g,k * 4,none⟩=false∧w.frozen? ⟨g,k * 4+1,none⟩=false∧w.frozen? ⟨g,k * 4+2,none⟩=false∧w.frozen? ⟨g,k * 4+3,none⟩=false)∧FracM w (.agg #[.bool a.num.neg,.slice A n c,.bool a.den.neg,.slice A' n' c']) a∧a.q=f k∧a.Rs K:=by
 obtain ⟨fs,h1,h2,h3,h4⟩:=h
 obtain ⟨a,ha⟩:=get_some (fs:=fs) (i:=k) (by omega)
 obtain ⟨x,y,z,u,hc,hf,hm⟩:=h1.at_ ha
 obtain ⟨A1,n1,k1,A2,n2,k2,hv,d1,d2⟩:=id hm
 simp at hv
 obtain ⟨rfl,rfl,rfl,rfl⟩:=hv
 exact ⟨a,A1,n1,k1,A2,n2,k2,hc,hf,hm,by rw [← h3 k hk,qAt_some ha],h4 k a ha⟩
theorem SumsAt.set_ {base m K:Nat} {f f':Nat→Rat} {w:World} {g n c:Nat} (h:SumsAt base m K f w (.slice (some ⟨g,0,none⟩) n c)) {k:Nat} (hk:k < m) {x y z u:Value} {q:Rat} (hm:FracM w (.agg #[x,y,z,u]) (canF q)) (hq:Sz K q) (h1:f' k=q) (h2:∀i,i < m→i≠k→f' i=f i):
 ∀W,W=((((w.setCell ⟨g,k * 4,none⟩ x).setCell ⟨g,k * 4+1,none⟩ y).setCell ⟨g,k * 4+2,none⟩ z).setCell ⟨g,k * 4+3,none⟩ u)→SumsAt base m K f' W (.slice (some ⟨g,0,none⟩) n c)∧KeepBut 48 w W:=by
 rintro W rfl
 obtain ⟨fs,g1,g2,g3,g4⟩:=h
 obtain ⟨hO,hkp⟩:=g1.set_ (k:=k) (by omega) hm
 refine ⟨⟨_,hO,by simpa using g2,fun i hi=>?_,fun i e he=>?_⟩,hkp⟩
 ·by_cases hik:i=k
  ·subst hik
   rw [qAt_some (List.getElem?_set_self (by omega)),canF_q,h1]
  ·rw [h2 i hi hik,← g3 i hi]
   unfold qAt
   rw [List.getElem?_set_ne (by omega)]
 ·by_cases hik:i=k
  ·subst hik
   rw [List.getElem?_set_self (by omega)] at he
   injection he with he
   rw [← he]
   exact hq.rs
  ·rw [List.getElem?_set_ne (by omega)] at he
   exact g4 i e he
theorem i64_and3 (n:Int):bits .and .i64 n 3=n % 4:=by
 have hc:(BitVec.ofInt 64 3).toNat=2^2 - 1:=by decide
 have key:(BitVec.ofInt 64 n &&& BitVec.ofInt 64 3).toNat=(n % ((2^64:Nat):Int)).toNat % 2^2:=by
  rw [BitVec.toNat_and,BitVec.toNat_ofInt,hc,Nat.and_two_pow_sub_one_eq_mod]
 show IntKind.i64.wrap ((BitVec.ofInt 64 n &&& BitVec.ofInt 64 3).toNat:Nat)=n % 4
 rw [key,IntKind.wrap_i64]
 omega
theorem i64_and7 (n:Int):bits .and .i64 n 7=n % 8:=by
 have hc:(BitVec.ofInt 64 7).toNat=2^3 - 1:=by decide
 have key:(BitVec.ofInt 64 n &&& BitVec.ofInt 64 7).toNat=(n % ((2^64:Nat):Int)).toNat % 2^3:=by
  rw [BitVec.toNat_and,BitVec.toNat_ofInt,hc,Nat.and_two_pow_sub_one_eq_mod]
 show IntKind.i64.wrap ((BitVec.ofInt 64 n &&& BitVec.ofInt 64 7).toNat:Nat)=n % 8
 rw [key,IntKind.wrap_i64]
 omega
theorem i64_and15 (n:Int):bits .and .i64 n 15=n % 16:=by
 have hc:(BitVec.ofInt 64 15).toNat=2^4 - 1:=by decide
 have key:(BitVec.ofInt 64 n &&& BitVec.ofInt 64 15).toNat=(n % ((2^64:Nat):Int)).toNat % 2^4:=by
  rw [BitVec.toNat_and,BitVec.toNat_ofInt,hc,Nat.and_two_pow_sub_one_eq_mod]
 show IntKind.i64.wrap ((BitVec.ofInt 64 n &&& BitVec.ofInt 64 15).toNat:Nat)=n % 16
 rw [key,IntKind.wrap_i64]
 omega
theorem i64_and63 (n:Int):bits .and .i64 n 63=n % 64:=by
 have hc:(BitVec.ofInt 64 63).toNat=2^6 - 1:=by decide
 have key:(BitVec.ofInt 64 n &&& BitVec.ofInt 64 63).toNat=(n % ((2^64:Nat):Int)).toNat % 2^6:=by
  rw [BitVec.toNat_and,BitVec.toNat_ofInt,hc,Nat.and_two_pow_sub_one_eq_mod]
 show IntKind.i64.wrap ((BitVec.ofInt 64 n &&& BitVec.ofInt 64 63).toNat:Nat)=n % 64
 rw [key,IntKind.wrap_i64]
 omega
theorem i64_and65535 (n:Int):bits .and .i64 n 65535=n % 65536:=by
 have hc:(BitVec.ofInt 64 65535).toNat=2^16 - 1:=by decide
 have key:(BitVec.ofInt 64 n &&& BitVec.ofInt 64 65535).toNat=(n % ((2^64:Nat):Int)).toNat % 2^16:=by
  rw [BitVec.toNat_and,BitVec.toNat_ofInt,hc,Nat.and_two_pow_sub_one_eq_mod]
 show IntKind.i64.wrap ((BitVec.ofInt 64 n &&& BitVec.ofInt 64 65535).toNat:Nat)=n % 65536
 rw [key,IntKind.wrap_i64]
 omega
def IntsM (w:World) (v:Value) (zs:List Int):Prop:=
 ∃a cap,v= .slice a zs.length cap∧zs.length≤cap∧cap≤maxLen∧(0 < zs.length→∃b off,a=some ⟨b,off,none⟩∧∀i,i < zs.length→w.cell? ⟨b,off+i,none⟩=some (.int .i64 (zs.getD i 0)))∧∀z∈zs,-9223372036854775808≤z∧z≤9223372036854775807
theorem IntsM.below {w w':World} {v:Value} {zs:List Int} (h:IntsM w v zs) (hb:Below w.heap.size w w'):IntsM w' v zs:=by
 obtain ⟨a,cap,h1,h2,h3,h4,h5⟩:=h
 refine ⟨a,cap,h1,h2,h3,fun hp=>?_,h5⟩
 obtain ⟨b,off,g1,g2⟩:=h4 hp
 exact ⟨b,off,g1,fun i hi=>cell_keep hb (g2 i hi)⟩
theorem IntsM.shape {w:World} {v:Value} {zs:List Int} (h:IntsM w v zs):∃a cap,v= .slice a zs.length cap∧zs.length≤cap∧cap≤9223372036854775807:=by
 obtain ⟨a,cap,h1,h2,h3,h4,h5⟩:=h
 unfold maxLen at h3
 exact ⟨a,cap,h1,h2,by omega⟩
theorem IntsM.at_ {w:World} {a:Option Addr} {n cap:Nat} {zs:List Int} (h:IntsM w (.slice a n cap) zs) {i:Nat} (hi:i < n):
 ∃b off z,a=some ⟨b,off,none⟩∧w.cell? ⟨b,off+i,none⟩=some (.int .i64 z)∧zs[i]? =some z∧ -9223372036854775808≤z∧z≤9223372036854775807:=by
 obtain ⟨a',cap',h1,h2,h3,h4,h5⟩:=h
 injection h1 with e1 e2 e3
 subst e1
 obtain ⟨b,off,g1,g2⟩:=h4 (by omega)
 have hg:zs[i]? =some (zs.getD i 0):=by simp [List.getD,List.getElem?_eq_getElem (show i < zs.length by omega)]
 have hm:=h5 _ (List.mem_of_getElem? hg)
 exact ⟨b,off,_,g1,g2 i (by omega),hg,hm⟩
theorem at_any (v:Value) (zs:List Int) (i:Nat) (w:World) (h:IntsM w v zs) (hi:i≤1099511627776):
 Calls Tryz.prog 51 #[v,.int .i64 (i:Int)] w fun e w'=>∃z:Int,e= .returned (.int .i64 z)∧0≤z∧z≤65535+i∧Below w.heap.size w w':=by
 obtain ⟨a,cap,rfl,hc1,hc2⟩:=h.shape
 generalize hn:zs.length=n at *
 clear hn
 have hm:=i64_and65535
 rcases Nat.eq_zero_or_pos n with h0 | h0
 ·subst h0
  go_enter Tryz.func51,Tryz.ntmps51
  go_wp2
  go_ret
  exact ⟨_,rfl,by omega,by omega,Below.refl _ _⟩
 ·have hlt:i % n < n:=Nat.mod_lt _ h0
  obtain ⟨b,off,z,rfl,hcell,_,hz1,hz2⟩:=h.at_ hlt
  have hne:((n:Int)==0)=false:=by simp;omega
  have hq:i / n≤i:=Nat.div_le_self _ _
  have hn0:¬n=0:=by omega
  have hr1:(i:Int) % n < n:=by omega
  have hr2:0≤(i:Int) % n:=by omega
  have hq1:(i:Int) / n≤i:=Int.ediv_le_self _ (by omega)
  have hq2:0≤(i:Int) / n:=Int.ediv_nonneg (by omega) (by omega)
  go_enter Tryz.func51,Tryz.ntmps51
  go_wp2_with fail
  have C1:=stab hcell
  refine region_seq 14 [0,1,2,3,4,5,6,7,8,9,10,11,12,13] (by kernel_rfl) (by kernel_rfl) ?_
  repeat (first | (refine seq_takeP (v:=?_) rfl rfl rfl ?_ ?_;rotate_left;(· (intro _ hSw;go_simp;(try go_bits);(try with_reducible rfl)));(try simp only [Act.put,List.setIfInBounds_toArray,List.set_cons_zero,List.set_cons_succ,List.getElem_toArray,List.getElem_cons_zero,List.getElem_cons_succ])) | (refine seq_take (v:=?_) rfl rfl rfl ?_ ?_;rotate_left;(· (intro _ hSw;go_simp;(try go_bits);(try with_reducible rfl)));(try simp only [Act.put,List.setIfInBounds_toArray,List.set_cons_zero,List.set_cons_succ,List.getElem_toArray,List.getElem_cons_zero,List.getElem_cons_succ])) | (refine seq_skip rfl rfl rfl ?_;(try simp only [Act.put,List.setIfInBounds_toArray,List.set_cons_zero,List.set_cons_succ,List.getElem_toArray,List.getElem_cons_zero,List.getElem_cons_succ])))
  refine seq_done ?_
  clear C1
  go_wp2
  go_ret
  exact ⟨_,rfl,by omega,by omega,below_drew' _⟩
namespace Pl
theorem Sz_int {z:Int} (h: -4294967296 < z) (h2:z < 4294967296):Sz 1 (z:Rat):=by
 unfold Sz
 exact ⟨digs_lt (by rw [Rat.num_intCast];unfold B32;omega),digs_lt (by rw [Rat.den_intCast];decide)⟩
end Pl
theorem frac_own (n:Int) (w:World):
 Calls Tryz.prog 53 #[.int .i64 n] w fun e w'=>∃v' q,e= .returned v'∧FracO w.heap.size w' v' (canF q)∧Sz 2 q∧Below w.heap.size w w':=by
 obtain ⟨W,hW,hR,hbe⟩:=boxF1 w (.bool false) (.slice none 0 0) (.bool false) (.slice none 0 0)
 have m1:=i64_and15
 have m2:=i64_and3
 have r1:0≤n % 16:=by omega
 have r2:n % 16≤15:=by omega
 go_enter Tryz.func53,Tryz.ntmps53
 go_wp2_with fail
 clear hW
 refine (rint_own (n % 16 - 5) _ (by omega) (by omega)).mono ?_
 rintro _ w1 ⟨v1,rfl,e1,hb1⟩
 have r3:0≤n / 16 % 4:=by omega
 have r4:n / 16 % 4≤3:=by omega
 go_wp2_with fail
 refine (rint_own (1+n / 16 % 4) _ (by omega) (by omega)).mono ?_
 rintro _ w2 ⟨v2,rfl,e2,hb2⟩
 have hb12:=below_then hb1 hb2 hb1.size
 have s1:Sz 1 (((n % 16 - 5:Int)):Rat):=Sz_int (by omega) (by omega)
 have s2:Sz 1 (((1+n / 16 % 4:Int)):Rat):=Sz_int (by omega) (by omega)
 go_wp2_with fail
 refine (rdivF_own _ _ _ _ _ (e1.frac.below hb2) e2.frac (s1.sh (by decide)) (s2.sh (by decide))).mono ?_
 rw [canF_q,canF_q]
 rintro _ w3 ⟨v3,rfl,e3,hb3⟩
 have SQ:=Lib.hid (Sz_div s1 s2)
 clear s1 s2
 generalize (((n % 16 - 5:Int)):Rat) / (((1+n / 16 % 4:Int)):Rat)=q at *
 have hb13:=below_then hb12 hb3 hb12.size
 have hR3:=hR.later hb13
 have hbe3:=below_then hbe hb13 hbe.size
 have hE3:=e3.mono (show w.heap.size≤w2.heap.size from by have:=hbe.size;have:=hb12.size;omega)
 obtain ⟨B,l,d,B',l',d',rfl,_,_⟩:=id e3.frac
 obtain ⟨c0,c1,c2,c3⟩:=hR3.four
 obtain ⟨f0,f1,f2,f3⟩:=hR3.fourF
 clear e1 e2 e3 hR hb1 hb2 hb3 hb12
 generalize hQ:canF q=Q at *
 have HQ:=Lib.hid hQ
 clear hQ
 go_wp2
 refine ret_cell Tryz.results53 Tryz.underlying48 (by kernel_rfl) rfl (hR3.set4 _ _ _ _) rfl ?_
 obtain ⟨v',q1,q2,q3⟩:=fin_fracO hR3 hE3 hbe3 (Nat.le_refl _)
 exact ⟨v',q,q1,by rw [HQ.out];exact q2,SQ.out,q3⟩
end Go.Proofs.YtncmobkhenfhpaaGreat
