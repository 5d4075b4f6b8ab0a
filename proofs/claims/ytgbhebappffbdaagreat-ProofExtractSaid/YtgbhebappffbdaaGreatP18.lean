/- Lemmas of the claim; no condition. -/
import Derived.OpenShut
import Derived.Test.YtgbhebappffbdaaGreatP17
set_option linter.all false
set_option maxRecDepth 100000
set_option maxHeartbeats 40000000
namespace Go.Proofs.YtgbhebappffbdaaGreat
open Go.RowKit
open Pl
attribute [local go_sem ↓] Go.wp_at_zero Go.wp_at_succ
theorem Znw (v1 v2:Value) (a b:RI) (w:World) (h1:Yg w v1 a) (h2:Yg w v2 b) (hs:a.ds.length+b.ds.length≤549755813888):
 Calls Tryz.prog 64 #[v1,v2] w fun e w'=>∃v',e= .returned v'∧Yg w' v' (canI (a.z * b.z))∧Below w.heap.size w w':=by
 obtain ⟨A,n,c,rfl,hd⟩:=h1.shape;obtain ⟨A',n',c',rfl,i⟩:=h2.shape;obtain ⟨W,hW,hX,hY,hR,g⟩:=Ybi w (.bool a.neg) (.slice A n c) (.bool b.neg) (.slice A' n' c');have d1:=hd.below g;have d2:=i.below g;have h:(Zl (val a.ds * val b.ds)).length≤549755813888:=by
  have q1:=Ui hd.ok;have q2:=Ui i.ok;exact JW (XT _ _) (by omega)
 go_enter Tryz.func64,Tryz.ntmps64;go_wp2_with fail;clear hW;have j:w.heap.size≠w.heap.size+1+1:=by omega
 have k:w.heap.size+1≠w.heap.size+1+1:=by omega
 go_region_held3 (fun w'=>(w'.cell? ⟨w.heap.size,0,none⟩=some (.bool a.neg)∧w'.cell? ⟨w.heap.size,1,none⟩=some (.slice A n c))∧(w'.cell? ⟨w.heap.size+1,0,none⟩=some (.bool b.neg)∧w'.cell? ⟨w.heap.size+1,1,none⟩=some (.slice A' n' c')))
  (first | with_reducible exact ⟨hX.drew.pair,hY.drew.pair⟩ | with_reducible exact ⟨(hX.drew.later d).pair,(hY.drew.later d).pair⟩ | with_reducible exact ⟨((hX.drew.later d).later f).pair,((hY.drew.later d).later f).pair⟩ | with_reducible exact ⟨((hX.drew.later d).later f).two_far j _ _,((hY.drew.later d).later f).two_far k _ _⟩)
  (first
   | (go_at_call 118;refine (Zex _ _ a.ds b.ds _ (d1.keep (ZF.drew _)) (d2.keep (ZF.drew _)) (by omega)).mono ?_;rintro e w1 ⟨v1,rfl,e1,d⟩)
   | (go_at_call 113;refine (Zce (a.neg !=b.neg) _ _ _ e1 h).mono ?_;rintro e w2 ⟨v2,rfl,e2,f⟩;obtain ⟨A3,n3,k3,rfl,_⟩:=e2.shape;obtain ⟨c0,c1,f0,f1⟩:=((hR.drew.later d).later f).two))
 go_wp2;refine Zn Tryz.results64 Tryz.underlying44 (by kernel_rfl) rfl (((hR.drew.later d).later f).set2 _ _) rfl ?_;rw [RI.z_eq,RI.z_eq,← Zzt];exact YW ((hR.drew.later d).later f) e2 (Za (Za g.drew d g.size) f (JW g.size d.size)) (by omega)
theorem Ztn (v1 v2:Value) (a b:RF) (w:World) (h1:Zt w v1 a) (h2:Zt w v2 b) (hs:a.Sh) (hs2:b.Sh):
 Calls Tryz.prog 67 #[v1,v2] w fun e w'=>∃v',e= .returned v'∧Wi w.heap.size w' v' (canF (a.q / b.q))∧Below w.heap.size w w':=by
 obtain ⟨A,n,c,A',n',c',rfl,_,_⟩:=id h1;obtain ⟨B,m,d,B',m',d',rfl,_,_⟩:=id h2;obtain ⟨W,hW,hX,hY,hR,p⟩:=Ztf w (.bool a.num.neg) (.slice A n c) (.bool a.den.neg) (.slice A' n' c') (.bool b.num.neg) (.slice B m d) (.bool b.den.neg) (.slice B' m' d');have i1:=h1.below p;have i2:=h2.below p;have J:w.heap.size≠w.heap.size+1:=by omega
 have y:w.heap.size+1+1≠w.heap.size:=by omega
 have D:w.heap.size+1+1≠w.heap.size+1:=by omega
 have o:True:=trivial;obtain ⟨p1,p2,p3,p4⟩:=hX.four;obtain ⟨q1,q2,q3,q4⟩:=hY.four;go_enter Tryz.func67,Tryz.ntmps67;go_wp2_with fail;clear hW
 go_upto_region 1 with (fail)
 go_cut [] (fun wx=>∃(A A' B B':Option Addr) (n c n' c' m d m' d':Nat),Ygf a.q b.q w wx A A' B B' n c n' c' m d m' d')
 case first=>
  go_region_with (first
   | (go_at_call 61;have _t:=o;refine (Zfo _ a _ (i1.keep (ZF.drew _)) hs).mono ?_;clear o _t;rintro e w6 ⟨v6,rfl,e6,j⟩;obtain ⟨A6,n6,k6,M,N,O,rfl,_,_⟩:=id e6.1;obtain ⟨V,X,Y,Z⟩:=(hY.drew.later j).four)
   | (go_at_call 61;refine (Zfo _ b _ ((i2.keep (ZF.drew _)).below j) hs2).mono ?_;rintro e w7 ⟨v7,rfl,e7,k⟩;obtain ⟨A7,n7,k7,R,S,T,rfl,_,_⟩:=id e7.1;obtain ⟨c0,c1,c2,c3⟩:=((hX.drew.later j).later k).four;obtain ⟨r0,r1,r2,r3⟩:=((hX.drew.later j).later k).fourF;obtain ⟨a0,a7,a8,a9⟩:=((hY.drew.later j).later k).four;obtain ⟨aa,ab,ac,ad⟩:=((hY.drew.later j).later k).fourF))
  all_goals
   go_wp2_with fail
   go_meet
   have b1:=Za p.drew j p.size;obtain ⟨a1,a2,a3,a4,a5,a6⟩:=Ybv ((hX.drew.later j).later k) ((hY.drew.later j).later k) ((hR.drew.later j).later k) J y D (e6.below k).1 e7.1 (Za b1 k b1.size) (by omega) (by omega) _ rfl;exact ⟨A6,M,A7,R,n6,k6,N,O,n7,k7,S,T,a1,a2,a3,a4,a5,a6⟩
 case rest=>
  obtain ⟨A,A',B,B',n,c,n',c',m,d,m',d',bX,bY,bR,fX,fY,be⟩:=hcut;clear p1 p2 p3 p4 q1 q2 q3 q4 hX hY hR p i1 i2 h1 h2 o;have r:=hs.sz;have s:=hs2.sz;obtain ⟨l1,l2⟩:=szI r;obtain ⟨l3,l4⟩:=szI s;have E:=zN a.q;have F:=zD a.q;have G:=zN b.q;have H:=zD b.q;generalize canF a.q=P at *;generalize canF b.q=Q at *;have t:=JZ E;have u:=JZ F;have v:=JZ G;have x:=JZ H;clear E F G H;obtain ⟨iN,iD⟩:=fX.num;obtain ⟨jN,jD⟩:=fY.num;have o:True:=trivial;have U:True:=trivial;have K:(Zl (val (canI (P.num.z * Q.den.z)).ds)).length≤137438953472:=(szV (by rw [t.out,x.out,Int.natAbs_mul];exact JW (XT _ _) (JW (Nat.add_le_add r.1 s.2) (by decide))));have L:(Zl (val (canI (P.den.z * Q.num.z)).ds)).length≤137438953472:=(szV (by rw [u.out,v.out,Int.natAbs_mul];exact JW (XT _ _) (JW (Nat.add_le_add r.2 s.1) (by decide))));have HV:Hid (Rat.divInt (P.num.z * Q.den.z) (P.den.z * Q.num.z)=a.q / b.q):=JZ (by rw [t.out,u.out,v.out,x.out];exact Zzx _ _);clear r s hs hs2 t u v x;go_wp2_with fail
  go_region_held3 (fun w'=>(w'.cell? ⟨w.heap.size,0,none⟩=some (.bool P.num.neg)∧w'.cell? ⟨w.heap.size,1,none⟩=some (.slice A n c)∧w'.cell? ⟨w.heap.size,2,none⟩=some (.bool P.den.neg)∧w'.cell? ⟨w.heap.size,3,none⟩=some (.slice A' n' c'))∧(w'.cell? ⟨w.heap.size+1,0,none⟩=some (.bool Q.num.neg)∧w'.cell? ⟨w.heap.size+1,1,none⟩=some (.slice B m d)∧w'.cell? ⟨w.heap.size+1,2,none⟩=some (.bool Q.den.neg)∧w'.cell? ⟨w.heap.size+1,3,none⟩=some (.slice B' m' d')))
   (first | with_reducible exact ⟨bX.drew.four,bY.drew.four⟩ | with_reducible exact ⟨(bX.drew.later g).four,(bY.drew.later g).four⟩ | with_reducible exact ⟨((bX.drew.later g).later i).four,((bY.drew.later g).later i).four⟩ | with_reducible exact ⟨(((bX.drew.later g).later i).later h).four,(((bY.drew.later g).later i).later h).four⟩ | with_reducible exact ⟨((((bX.drew.later g).later i).later h).far4 (Ne.symm y) _ _ _ _).four,((((bY.drew.later g).later i).later h).far4 (Ne.symm D) _ _ _ _).four⟩)
   (first
    | (go_at_call 64;have _t:=o;refine (Znw _ _ P.num Q.den _ (iN.keep (ZF.drew _)) (jD.keep (ZF.drew _)) (by omega)).mono ?_;clear o _t;rintro e w8 ⟨v8,rfl,e8,g⟩)
    | (go_at_call 64;refine (Znw _ _ P.den Q.num _ ((iD.keep (ZF.drew _)).below g) ((jN.keep (ZF.drew _)).below g) (by omega)).mono ?_;rintro e w9 ⟨v9,rfl,e9,i⟩)
    | (go_at_call 62;refine (Zgs _ _ (canI (P.num.z * Q.den.z)) (canI (P.den.z * Q.num.z)) _ (e8.below i) e9 K L).mono ?_;rw [ZI,ZI,HV.out];rintro e ae ⟨af,rfl,I,h⟩;obtain ⟨C,l,f,C',l',f',rfl,_,_⟩:=id I.1;obtain ⟨c0,c1,c2,c3⟩:=(((bR.drew.later g).later i).later h).four;obtain ⟨f0,f1,f2,f3⟩:=(((bR.drew.later g).later i).later h).fourF))
  go_wp2;refine Zn Tryz.results67 Tryz.underlying46 (by kernel_rfl) rfl ((((bR.drew.later g).later i).later h).set4 _ _ _ _) rfl ?_;have b0:=be.drew;have b1:=Za b0 g b0.size;have b2:=Za b1 i b1.size;have b3:=Za b2 h b2.size;exact WO (((bR.drew.later g).later i).later h) (I.mono b2.size) b3 (by omega)
theorem Wi.frac {base:Nat} {w:World} {v:Value} {f:RF} (h:Wi base w v f):Zt w v f:=h.1
def Zma (a b:RF):Bool:=UV a.num b.num && UV a.den b.den
theorem Ybw {a b:RF} (h:UV a.num b.num=true):Zma a b=UV a.den b.den:=by simp [Zma,h]
theorem Ybx {a b:RF} (h:UV a.num b.num=false):Zma a b=false:=by simp [Zma,h]
theorem Zqa (a:RF):Zma a a=true:=by simp [Zma,UV]
theorem Zto (v1 v2:Value) (a b:RF) (w:World) (h1:Zt w v1 a) (h2:Zt w v2 b):
 Calls Tryz.prog 47 #[v1,v2] w fun e w'=>e= .returned (.bool (Zma a b))∧Below w.heap.size w w':=by
 obtain ⟨A,n,c,A',n',c',rfl,_,_⟩:=id h1;obtain ⟨B,m,d,B',m',d',rfl,_,_⟩:=id h2;obtain ⟨W,hW,h,hX,hY,g⟩:=Zis w (.bool a.num.neg) (.slice A n c) (.bool a.den.neg) (.slice A' n' c') (.bool b.num.neg) (.slice B m d) (.bool b.den.neg) (.slice B' m' d');obtain ⟨i1,i2⟩:=(h1.below g).num;obtain ⟨j1,j2⟩:=(h2.below g).num;obtain ⟨p1,p2,p3,p4⟩:=hX.four;obtain ⟨q1,q2,q3,q4⟩:=hY.four;clear h;go_enter Tryz.func47,Tryz.ntmps47;go_wp2_with fail;clear hW;refine (Zcx _ _ a.num b.num _ i1 j1).mono ?_;rintro e w1 ⟨rfl,f⟩;have b1:=Za g f g.size
 cases hc:UV a.num b.num
 ·have HC:=JZ hc;clear hc;go_wp2;go_ret;exact ⟨ZE (Ybx HC.out),b1⟩
 ·have HC:=JZ hc;clear hc;obtain ⟨j,k,l,o⟩:=(hX.later f).four;obtain ⟨p,q,r,s⟩:=(hY.later f).four;go_wp2_with fail;refine (Zcx _ _ a.den b.den _ (i2.below f) (j2.below f)).mono ?_;rintro e w2 ⟨rfl,i⟩;go_wp2;go_ret;exact ⟨ZE (Ybw HC.out),Za b1 i b1.size⟩
theorem Zyf (n:Int):bits .and .i64 n 3=n % 4:=by
 have hc:(BitVec.ofInt 64 3).toNat=2^2 - 1:=by decide
 have a:(BitVec.ofInt 64 n &&& BitVec.ofInt 64 3).toNat=(n % ((2^64:Nat):Int)).toNat % 2^2:=by
  rw [BitVec.toNat_and,BitVec.toNat_ofInt,hc,Nat.and_two_pow_sub_one_eq_mod]
 show IntKind.i64.wrap ((BitVec.ofInt 64 n &&& BitVec.ofInt 64 3).toNat:Nat)=n % 4;rw [a,IntKind.wrap_i64];omega
theorem Zuf (n:Int):bits .and .i64 n 15=n % 16:=by
 have hc:(BitVec.ofInt 64 15).toNat=2^4 - 1:=by decide
 have a:(BitVec.ofInt 64 n &&& BitVec.ofInt 64 15).toNat=(n % ((2^64:Nat):Int)).toNat % 2^4:=by
  rw [BitVec.toNat_and,BitVec.toNat_ofInt,hc,Nat.and_two_pow_sub_one_eq_mod]
 show IntKind.i64.wrap ((BitVec.ofInt 64 n &&& BitVec.ofInt 64 15).toNat:Nat)=n % 16;rw [a,IntKind.wrap_i64];omega
theorem Zjv (n:Int):bits .and .i64 n 65535=n % 65536:=by
 have hc:(BitVec.ofInt 64 65535).toNat=2^16 - 1:=by decide
 have a:(BitVec.ofInt 64 n &&& BitVec.ofInt 64 65535).toNat=(n % ((2^64:Nat):Int)).toNat % 2^16:=by
  rw [BitVec.toNat_and,BitVec.toNat_ofInt,hc,Nat.and_two_pow_sub_one_eq_mod]
 show IntKind.i64.wrap ((BitVec.ofInt 64 n &&& BitVec.ofInt 64 65535).toNat:Nat)=n % 65536;rw [a,IntKind.wrap_i64];omega
def XE (w:World) (v:Value) (zs:List Int):Prop:=
 ∃a cap,v= .slice a zs.length cap∧zs.length≤cap∧cap≤maxLen∧(0 < zs.length→∃b off,a=some ⟨b,off,none⟩∧∀i,i < zs.length→w.cell? ⟨b,off+i,none⟩=some (.int .i64 (zs.getD i 0)))∧∀z∈zs,-9223372036854775808≤z∧z≤9223372036854775807
theorem XE.below {w w':World} {v:Value} {zs:List Int} (h:XE w v zs) (hb:Below w.heap.size w w'):XE w' v zs:=by
 obtain ⟨a,cap,h1,h2,h3,h4,h5⟩:=h;refine ⟨a,cap,h1,h2,h3,fun hp=>?_,h5⟩;obtain ⟨b,c,g1,g2⟩:=h4 hp;exact ⟨b,c,g1,fun i hi=>Zf hb (g2 i hi)⟩
theorem XE.shape {w:World} {v:Value} {zs:List Int} (h:XE w v zs):∃a cap,v= .slice a zs.length cap∧zs.length≤cap∧cap≤9223372036854775807:=by
 obtain ⟨a,cap,h1,h2,h3,h4,h5⟩:=h;unfold maxLen at h3;exact ⟨a,cap,h1,h2,by omega⟩
theorem XE.at_ {w:World} {a:Option Addr} {n cap:Nat} {zs:List Int} (h:XE w (.slice a n cap) zs) {i:Nat} (hi:i < n):
 ∃b off z,a=some ⟨b,off,none⟩∧w.cell? ⟨b,off+i,none⟩=some (.int .i64 z)∧zs[i]? =some z∧ -9223372036854775808≤z∧z≤9223372036854775807:=by
 obtain ⟨a',c,h1,h2,h3,h4,h5⟩:=h;injection h1 with e1 e2 e3;subst e1;obtain ⟨b,off,g1,g2⟩:=h4 (by omega);have hg:zs[i]? =some (zs.getD i 0):=by simp [List.getD,JQ (show i < zs.length by omega)]
 have hm:=h5 _ (List.mem_of_getElem? hg);exact ⟨b,off,_,g1,g2 i (by omega),hg,hm⟩
theorem Zjw (v:Value) (zs:List Int) (i:Nat) (w:World) (h:XE w v zs) (hi:i≤1099511627776):
 Calls Tryz.prog 28 #[v,.int .i64 (i:Int)] w fun e w'=>∃z:Int,e= .returned (.int .i64 z)∧0≤z∧z≤65535+i∧Below w.heap.size w w':=by
 obtain ⟨a,cap,rfl,p,q⟩:=h.shape;generalize hn:zs.length=n at *;clear hn;have hm:=Zjv;rcases JV n with h0 | h0
 ·subst h0;go_enter Tryz.func28,Tryz.ntmps28;go_wp2;go_ret;exact ⟨_,rfl,by omega,by omega,JR _ _⟩
 ·have d:i % n < n:=Nat.mod_lt _ h0;obtain ⟨b,r,z,rfl,c,_,s,t⟩:=h.at_ d;have g:((n:Int)==0)=false:=by simp;omega
  have hq:i / n≤i:=Nat.div_le_self _ _;have j:¬n=0:=by omega
  have k:(i:Int) % n < n:=by omega
  have l:0≤(i:Int) % n:=by omega
  have m:(i:Int) / n≤i:=Int.ediv_le_self _ (by omega);have o:0≤(i:Int) / n:=Int.ediv_nonneg (by omega) (by omega);go_enter Tryz.func28,Tryz.ntmps28;go_wp2_with fail;have C1:=Zp c;refine Zq 14 [0,1,2,3,4,5,6,7,8,9,10,11,12,13] (by kernel_rfl) (by kernel_rfl) ?_;repeat (first | (refine Zc (v:=?_) rfl rfl rfl ?_ ?_;rotate_left;(· (intro _ f;go_simp;(try go_bits);(try with_reducible rfl)));(try simp only [Act.put,List.setIfInBounds_toArray,List.set_cons_zero,List.set_cons_succ,List.getElem_toArray,List.getElem_cons_zero,List.getElem_cons_succ])) | (refine Zg (v:=?_) rfl rfl rfl ?_ ?_;rotate_left;(· (intro _ f;go_simp;(try go_bits);(try with_reducible rfl)));(try simp only [Act.put,List.setIfInBounds_toArray,List.set_cons_zero,List.set_cons_succ,List.getElem_toArray,List.getElem_cons_zero,List.getElem_cons_succ])) | (refine Zh rfl rfl rfl ?_;(try simp only [Act.put,List.setIfInBounds_toArray,List.set_cons_zero,List.set_cons_succ,List.getElem_toArray,List.getElem_cons_zero,List.getElem_cons_succ])))
  refine Zz ?_;clear C1;go_wp2;go_ret;exact ⟨_,rfl,by omega,by omega,Zj _⟩
namespace Pl
theorem Zjx {z:Int} (h: -4294967296 < z) (h2:z < 4294967296):Sz 1 (z:Rat):=by
 unfold Sz;exact ⟨YT (by rw [Rat.num_intCast];unfold B32;omega),YT (by rw [Rat.den_intCast];decide)⟩
end Pl
theorem Zyg (n:Int) (w:World):
 Calls Tryz.prog 30 #[.int .i64 n] w fun e w'=>∃v' q,e= .returned v'∧Wi w.heap.size w' v' (canF q)∧Sz 2 q∧Below w.heap.size w w':=by
 obtain ⟨W,hW,hR,f⟩:=YN w (.bool false) (.slice none 0 0) (.bool false) (.slice none 0 0);have m1:=Zuf;have m2:=Zyf;have r1:0≤n % 16:=by omega
 have r2:n % 16≤15:=by omega
 go_enter Tryz.func30,Tryz.ntmps30;go_wp2_with fail;clear hW;refine (Y4 (n % 16 - 5) _ (by omega) (by omega)).mono ?_;rintro _ w1 ⟨v1,rfl,e1,g⟩;have r3:0≤n / 16 % 4:=by omega
 have r4:n / 16 % 4≤3:=by omega
 go_wp2_with fail;refine (Y4 (1+n / 16 % 4) _ (by omega) (by omega)).mono ?_;rintro _ w2 ⟨v2,rfl,e2,h⟩;have a:=Za g h g.size;have s1:Sz 1 (((n % 16 - 5:Int)):Rat):=Zjx (by omega) (by omega);have s2:Sz 1 (((1+n / 16 % 4:Int)):Rat):=Zjx (by omega) (by omega);go_wp2_with fail;refine (Ztn _ _ _ _ _ (e1.frac.below h) e2.frac (s1.sh (by decide)) (s2.sh (by decide))).mono ?_;rw [Zu,Zu];rintro _ w3 ⟨v3,rfl,e3,j⟩;have SQ:=JZ (Zje s1 s2);clear s1 s2;generalize (((n % 16 - 5:Int)):Rat) / (((1+n / 16 % 4:Int)):Rat)=q at *;have c:=Za a j a.size;have b:=hR.later c;have i:=Za f c f.size;have k:=e3.mono (show w.heap.size≤w2.heap.size from by have:=f.size;have:=a.size;omega);obtain ⟨B,l,d,B',l',d',rfl,_,_⟩:=id e3.frac;obtain ⟨c0,c1,c2,c3⟩:=b.four;obtain ⟨f0,f1,f2,f3⟩:=b.fourF;clear e1 e2 e3 hR g h j a;generalize hQ:canF q=Q at *;have HQ:=JZ hQ;clear hQ;go_wp2;refine Zn Tryz.results30 Tryz.underlying46 (by kernel_rfl) rfl (b.set4 _ _ _ _) rfl ?_;obtain ⟨v',q1,q2,q3⟩:=WO b k i (JY _);exact ⟨v',q,q1,by rw [HQ.out];exact q2,SQ.out,q3⟩
end Go.Proofs.YtgbhebappffbdaaGreat
