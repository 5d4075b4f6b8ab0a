/- Contracts and plain facts that the claim is built on, joined out of smaller texts; no condition. -/
import Derived.Test.YtncmobkhenfhpaaGreatB27
set_option linter.unusedVariables false
set_option linter.unusedSimpArgs false
set_option maxRecDepth 100000
set_option maxHeartbeats 40000000
namespace Go.Proofs.YtncmobkhenfhpaaGreat
open Go.RowKit
open Pl
attribute [local go_sem ↓] Go.wp_at_zero Go.wp_at_succ
namespace Pl
theorem qs_sub {n d m k:Int} (hd:0 < d) (hk:0 < k):qs (Rat.divInt n d - Rat.divInt m k)=sgn (n * k - m * d):=by
 rw [Rat.divInt_sub_divInt _ _ (by omega) (by omega),qs_divInt,sgn_pos (Int.mul_pos hd hk),Int.mul_one]
theorem okq_cmp {n d m k:Int} {p q:Rat} (h:okq n d p) (g:okq m k q):((-9223372036854775807≤n * k∧n * k≤9223372036854775807)∧(-9223372036854775807≤m * d∧m * d≤9223372036854775807))∧qs (p - q)=sgn (n * k - m * d):=by
 obtain ⟨⟨a1,a2⟩,a3,a4,rfl⟩:=h
 obtain ⟨⟨b1,b2⟩,b3,b4,rfl⟩:=g
 exact ⟨⟨okq_mul.prod_bd (by omega) (by omega) (by omega) (by omega),okq_mul.prod_bd (by omega) (by omega) (by omega) (by omega)⟩,qs_sub a3 b3⟩
end Pl
theorem compareF_any (v1 v2:Value) (a b:RF) (w:World) (h1:FracM w v1 a) (h2:FracM w v2 b) (hs:a.Sm) (hs2:b.Sm):
 Calls Tryz.prog 120 #[v1,v2] w fun e w'=>e= .returned (.int .i64 (qs (a.q - b.q)))∧Below w.heap.size w w':=by
 obtain ⟨A,n,c,A',n',c',rfl,hd,hd'⟩:=id h1
 obtain ⟨B,m,d,B',m',d',rfl,ke,ke'⟩:=id h2
 obtain ⟨W,hW,hsz,hX,hY,hbe⟩:=boxF2 w (.bool a.num.neg) (.slice A n c) (.bool a.den.neg) (.slice A' n' c') (.bool b.num.neg) (.slice B m d) (.bool b.den.neg) (.slice B' m' d')
 have e1:=h1.below hbe
 have e2:=h2.below hbe
 obtain ⟨p1,p2,p3,p4⟩:=hX.four
 obtain ⟨r1,r2,r3,r4⟩:=hY.four
 clear h1 h2 hd hd' ke ke'
 go_enter Tryz.func120,Tryz.ntmps120
 go_wp2_with fail
 clear hW
 refine (small_any _ _ a b _ e1 e2).mono ?_
 rintro e w1 ⟨x,y,z,u,ok,rfl,hq,hb1⟩
 have HQ:=Lib.hid hq
 have hX1:=hX.later hb1
 have hY1:=hY.later hb1
 have hbe1:=below_then hbe hb1 hbe.size
 have e11:=e1.below hb1
 have e21:=e2.below hb1
 clear hq hX hY hbe e1 e2 hb1 p1 p2 p3 p4 r1 r2 r3 r4
 obtain ⟨W2,hW2,bW,bV,bn⟩:=words2 w1 x y z u
 have hX2:=hX1.later bn
 have hY2:=hY1.later bn
 have hbe2:=below_then hbe1 bn hbe1.size
 have e12:=e11.below bn
 have e22:=e21.below bn
 clear hX1 hY1 hbe1 e11 e21 bn
 cases ok
 ·obtain ⟨p1,p2,p3,p4⟩:=hX2.four
  clear HQ
  go_wp2_with fail
  clear hW2
  refine (parts_any _ a _ e12 hs).mono ?_
  rintro e w3 ⟨v1,v2,N,D,rfl,iN,iD,hD,hq1,sN,sD,hb3⟩
  have HD:=Lib.hid hD
  have HQ1:=Lib.hid hq1
  obtain ⟨A3,n3,k3,rfl,_⟩:=iN.shape
  obtain ⟨A4,n4,k4,rfl,_⟩:=iD.shape
  obtain ⟨W3,hW3,bN,bD,bn⟩:=boxes w3 (.bool N.neg) (.slice A3 n3 k3) (.bool D.neg) (.slice A4 n4 k4)
  have hb33:=below_then hb3 bn hb3.size
  have hY3:=hY2.later hb33
  have hbe3:=below_then hbe2 hb33 hbe2.size
  have e23:=e22.below hb33
  have iN3:=iN.below bn
  have iD3:=iD.below bn
  clear hD hq1 hX2 hY2 hbe2 e12 e22 hb3 hb33 bn iN iD p1 p2 p3 p4 bW bV hs
  obtain ⟨r1,r2,r3,r4⟩:=hY3.four
  go_wp2_with fail
  clear hW3
  refine (parts_any _ b _ e23 hs2).mono ?_
  rintro e w5 ⟨v1,v2,N',D',rfl,jN,jD,hD',hq2,sN',sD',hb5⟩
  have HD':=Lib.hid hD'
  have HQ2:=Lib.hid hq2
  obtain ⟨A5,n5,k5,rfl,_⟩:=jN.shape
  obtain ⟨A6,n6,k6,rfl,_⟩:=jD.shape
  obtain ⟨W5,hW5,bN',bD',bn⟩:=boxes w5 (.bool N'.neg) (.slice A5 n5 k5) (.bool D'.neg) (.slice A6 n6 k6)
  have hb55:=below_then hb5 bn hb5.size
  have bN5:=bN.later hb55
  have bD5:=bD.later hb55
  have hbe5:=below_then hbe3 hb55 hbe3.size
  have iN5:=iN3.below hb55
  have iD5:=iD3.below hb55
  have jN5:=jN.below bn
  have jD5:=jD.below bn
  clear hD' hq2 hY3 hbe3 e23 hb5 hb55 bn jN jD r1 r2 r3 r4 bN bD iN3 iD3 hs2
  obtain ⟨x0,x1,_,_⟩:=bN5.two
  obtain ⟨y0,y1,_,_⟩:=bD5.two
  obtain ⟨x0',x1',_,_⟩:=bN'.two
  obtain ⟨y0',y1',_,_⟩:=bD'.two
  have tok:True:=trivial
  go_wp2_with fail
  clear hW5
  go_region_held3 (fun w'=>(w'.cell? ⟨w3.heap.size,0,none⟩=some (.bool N.neg)∧w'.cell? ⟨w3.heap.size,1,none⟩=some (.slice A3 n3 k3))∧(w'.cell? ⟨w3.heap.size+1,0,none⟩=some (.bool D.neg)∧w'.cell? ⟨w3.heap.size+1,1,none⟩=some (.slice A4 n4 k4))∧(w'.cell? ⟨w5.heap.size,0,none⟩=some (.bool N'.neg)∧w'.cell? ⟨w5.heap.size,1,none⟩=some (.slice A5 n5 k5))∧(w'.cell? ⟨w5.heap.size+1,0,none⟩=some (.bool D'.neg)∧w'.cell? ⟨w5.heap.size+1,1,none⟩=some (.slice A6 n6 k6)))
   (first | with_reducible exact ⟨bN5.pair,bD5.pair,bN'.pair,bD'.pair⟩ | with_reducible exact ⟨bN5.drew.pair,bD5.drew.pair,bN'.drew.pair,bD'.drew.pair⟩ | with_reducible exact ⟨(bN5.drew.later hb6).pair,(bD5.drew.later hb6).pair,(bN'.drew.later hb6).pair,(bD'.drew.later hb6).pair⟩ | with_reducible exact ⟨((bN5.drew.later hb6).later hb7).pair,((bD5.drew.later hb6).later hb7).pair,((bN'.drew.later hb6).later hb7).pair,((bD'.drew.later hb6).later hb7).pair⟩ | with_reducible exact ⟨(((bN5.drew.later hb6).later hb7).later hb8).pair,(((bD5.drew.later hb6).later hb7).later hb8).pair,(((bN'.drew.later hb6).later hb7).later hb8).pair,(((bD'.drew.later hb6).later hb7).later hb8).pair⟩)
   (first
    | (go_at_call 128;have _t:=tok;refine (mulI_any _ _ N D' _ (iN5.keep (Keep.drew _)) (jD5.keep (Keep.drew _)) (RI.Sm.two sN sD')).mono ?_;clear tok _t;rintro e w6 ⟨v6,rfl,e6,hb6⟩)
    | (go_at_call 128;refine (mulI_any _ _ N' D _ ((jN5.keep (Keep.drew _)).below hb6) ((iD5.keep (Keep.drew _)).below hb6) (RI.Sm.two sN' sD)).mono ?_;rintro e w7 ⟨v7,rfl,e7,hb7⟩)
    | (go_at_call 129;refine (compareI_any _ _ (canI (N.z * D'.z)) (canI (N'.z * D.z)) _ (e6.below hb7) e7).mono ?_;rintro e w8 ⟨rfl,hb8⟩))
  go_wp2
  go_ret
  have bb0:=below_then hbe5.drew hb6 hbe5.size
  have bb1:=below_then bb0 hb7 bb0.size
  refine ⟨?_,below_then bb1 hb8 bb1.size⟩
  rw [← HQ1.out,← HQ2.out,qs_sub HD.out HD'.out,canI_z,canI_z]
  rfl
 ·obtain ⟨⟨⟨b1,b2⟩,⟨b3,b4⟩⟩,hval⟩:=okq_cmp (HQ.out rfl).1 (HQ.out rfl).2
  have HV:=Lib.hid hval
  obtain ⟨q0,q1,_,_⟩:=bW.two
  obtain ⟨s0,s1,_,_⟩:=bV.two
  clear hval HQ
  have t1:IntKind.i64.wrap (x * u)=x * u:=by simp only [IntKind.wrap,IntKind.bits,IntKind.signed];simp;omega
  have t2:IntKind.i64.wrap (z * y)=z * y:=by simp only [IntKind.wrap,IntKind.bits,IntKind.signed];simp;omega
  rcases Int.lt_trichotomy (x * u) (z * y) with hlt | heq | hgt
  ·go_wp2
   clear hW2
   go_quiet (fail)
   go_wp2
   go_ret
   exact ⟨by rw [HV.out,sgn_neg (by omega)];rfl,below_then hbe2 (below_drewN' _ _) hbe2.size⟩
  ·have t3:decide (x * u < z * y)=false:=by simp;omega
   have t4:decide (z * y < x * u)=false:=by simp;omega
   have HEQ:=Lib.hid heq
   clear heq
   go_wp2
   clear hW2
   go_quiet (fail)
   go_wp2
   go_ret
   exact ⟨by rw [HV.out,HEQ.out,Int.sub_self,sgn_zero];rfl,below_then hbe2 (below_drewN' _ _) hbe2.size⟩
  ·have t3:decide (x * u < z * y)=false:=by simp;omega
   go_wp2
   clear hW2
   go_quiet (fail)
   go_wp2
   go_ret
   exact ⟨by rw [HV.out,sgn_pos (by omega)];rfl,below_then hbe2 (below_drewN' _ _) hbe2.size⟩
theorem info_rowT:(Tryz.prog.info? 23).map (fun i=>(i.zero,i.size,i.bytes))=some (some (.slice none 0 0),1,24):=by kernel_rfl
def ColsO (base:Nat) (w:World) (v:Value) (m n:Nat) (M:Mx):Prop:=∃vs:Nat→Value,w.ownsRow base 23 1 v m ((List.range m).map vs)∧∀k,k < m→FrsM w (vs k) (canL n (M k))
theorem ColsO.cols {base:Nat} {w:World} {v:Value} {m n:Nat} {M:Mx} (h:ColsO base w v m n M):ColsM w v m n M:=by
 obtain ⟨vs,h1,h2⟩:=h
 exact ⟨vs,RowM.of_own h1,h2⟩
theorem ColsO.nil (base:Nat) (w:World) (n:Nat) (M:Mx):ColsO base w (.slice none 0 0) 0 n M:=⟨fun _=> .slice none 0 0,World.ownsRow_nil _ _ _ _,fun k hk=>absurd hk (by omega)⟩
theorem ColsO.below {base:Nat} {w w':World} {v:Value} {m n:Nat} {M:Mx} (h:ColsO base w v m n M) (hb:Below w.heap.size w w'):ColsO base w' v m n M:=by
 obtain ⟨vs,h1,h2⟩:=h
 exact ⟨vs,own_below h1 hb,fun k hk=>(h2 k hk).below hb⟩
namespace Pl
structure LSt where
 phase:Int
 basis:List Int
 pivots:Int
def LSt.In (p:LPd) (s:LSt):Prop:=∀(i:Nat) (z:Int),s.basis[i]? =some z→ -(p.right.length:Int)≤z∧z < p.cols.length
def LSt.at_ (s:LSt) (i:Nat):Int:=s.basis.getD i 0
def LSt.mat (p:LPd) (s:LSt):Mx:=fun i=>p.col (s.at_ i)
theorem LSt.at_eq {s:LSt} {i:Nat} {z:Int} (h:s.basis[i]? =some z):s.at_ i=z:=by simp [LSt.at_,List.getD,h]
end Pl
def StM (w:World) (v:Value) (s:LSt):Prop:=∃A n c,v= .agg #[.int .i64 s.phase,.slice A n c,.int .i64 s.pivots]∧IntsM w (.slice A n c) s.basis
theorem StM.below {w w':World} {v:Value} {s:LSt} (h:StM w v s) (hb:Below w.heap.size w w'):StM w' v s:=by
 obtain ⟨A,n,c,h1,h2⟩:=h
 exact ⟨A,n,c,h1,h2.below hb⟩
theorem box_st (w:World) (x y z:Value):∃W,w.alloc (.cells #[x,y,z] 29)=W∧Bk W w.heap.size 29 [x,y,z]∧Below w.heap.size w W:=⟨_,rfl,Bk.new w _ [x,y,z],below_new w _⟩
theorem IntsM.len {w:World} {A:Option Addr} {n c:Nat} {zs:List Int} (h:IntsM w (.slice A n c) zs):n=zs.length∧n≤c∧c≤9223372036854775807:=by
 obtain ⟨a,cap,h1,h2,h3⟩:=h.shape
 injection h1 with e1 e2 e3
 subst e2 e3
 exact ⟨rfl,h2,h3⟩
theorem IntO.own_lt {base:Nat} {w:World} {b s:Value} {a:RI} (h:IntO base w (.agg #[b,s]) a):∀g,s.ownBlock=some g→g < w.heap.size:=by
 obtain ⟨t,e,o,_⟩:=h
 simp at e
 obtain ⟨_,rfl⟩:=e
 intro g hg
 rcases o.2 with ⟨rfl,_⟩ | ⟨g',cap,cur,rfl,_,hgg,_⟩
 ·simp [Value.ownBlock] at hg
 ·simp [Value.ownBlock] at hg
  subst hg
  exact lt_heap hgg
theorem IntO.own_ge {base:Nat} {w:World} {b s:Value} {a:RI} (h:IntO base w (.agg #[b,s]) a):∀g,s.ownBlock=some g→base≤g:=by
 obtain ⟨t,e,o,_⟩:=h
 simp at e
 obtain ⟨_,rfl⟩:=e
 intro g hg
 exact (o.lt g hg).1
theorem IntO.row {base:Nat} {w:World} {b s:Value} {a:RI} (h:IntO base w (.agg #[b,s]) a):w.ownsRow base 123 1 s a.ds.length (a.ds.map uc)∧okD a.ds:=by
 obtain ⟨t,e,o,ok⟩:=h
 simp at e
 obtain ⟨_,rfl⟩:=e
 exact ⟨o,ok⟩
theorem own_others {base:Nat} {w w':World} {g:Option Nat} {t:TypeId} {s n:Nat} {v:Value} {xs:List Value} (h:w.ownsRow base t s v n xs) (ho:Others g w w') (hne:∀b,v.ownBlock=some b→some b≠g):w'.ownsRow base t s v n xs:=by
 refine ⟨h.1,?_⟩
 rcases h.2 with hn | ⟨g',cap,cur,rfl,hb',hgg,rest⟩
 ·exact .inl hn
 ·exact .inr ⟨g',cap,cur,rfl,hb',(ho.2 g' (lt_heap hgg) (hne g' (by simp [Value.ownBlock]))).trans hgg,rest⟩
theorem own_lt' {base:Nat} {w:World} {t:TypeId} {s n:Nat} {v:Value} {xs:List Value} (h:w.ownsRow base t s v n xs):∀g,v.ownBlock=some g→g < w.heap.size:=by
 intro g hg
 rcases h.2 with ⟨rfl,_⟩ | ⟨g',cap,cur,rfl,_,hgg,_⟩
 ·simp [Value.ownBlock] at hg
 ·simp [Value.ownBlock] at hg
  subst hg
  exact lt_heap hgg
end Go.Proofs.YtncmobkhenfhpaaGreat
