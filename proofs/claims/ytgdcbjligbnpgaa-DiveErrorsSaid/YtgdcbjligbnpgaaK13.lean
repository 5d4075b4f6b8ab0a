/- Lemmas of the claim; no condition. -/
import Derived.Test.YtgdcbjligbnpgaaK12
set_option linter.all false
set_option maxRecDepth 100000
set_option maxHeartbeats 40000000
namespace Go.Proofs.Ytgdcbjligbnpgaa
open Go.RowKit
open Pl
attribute [local go_sem ↓] Go.wp_at_zero Go.wp_at_succ
def IlR (w:World) (x:List Int) (u:List Value):Prop:=∃A n c,u=[.slice A n c]∧IntsT w (.slice A n c) x
def IlsM:World→Value→List (List Int)→Prop:=RdM IlR 22 1
theorem IlsM.blx {w w':World} {g:Nat} {t:TypeId} {v:Value} {l:List (List Int)} {cs:List Value} (h:IlsM w v l) (hx:BlX w.heap.size g w w') (hg:Bk w g t cs) (h1:t≠22) (h2:t≠3):IlsM w' v l:=by
 obtain ⟨us,r1,r2⟩:=h
 refine ⟨us,r1.blx hx (hg.not_type h1),fun k x hk=>?_⟩
 obtain ⟨u,⟨A,n,c,g1,g2⟩,g3⟩:=r2 k x hk
 exact ⟨u,⟨A,n,c,g1,g2.blx hx hg h2⟩,g3⟩
theorem IlsM.elem {w wr:World} {A:Option Addr} {n c:Nat} {l:List (List Int)} (h:IlsM w (.slice A n c) l) (hb:Below w.heap.size w wr) {k:Nat} {x:List Int} (hx:l[k]? =some x):
 ∃b off A1 n1 c1,A=some ⟨b,off,none⟩∧b < w.heap.size∧wr.cell? ⟨b,off+k,none⟩=some (.slice A1 n1 c1)∧IntsT wr (.slice A1 n1 c1) x:=by
 obtain ⟨b,off,u,hA,hlt,⟨A1,n1,c1,rfl,hD⟩,hl,hc⟩:=RdM.elem h hx
 exact ⟨b,off,A1,n1,c1,hA,hlt,by have:=cell_keep hb (hc 0 _ rfl);simpa using this,hD.below hb⟩
theorem DcsM.blx {w w':World} {g:Nat} {t:TypeId} {v:Value} {l:List Dc} {cs:List Value} (h:DcsM w v l) (hx:BlX w.heap.size g w w') (hg:Bk w g t cs) (h1:t≠59) (h2:t≠3):DcsM w' v l:=by
 obtain ⟨us,r1,r2⟩:=h
 refine ⟨us,r1.blx hx (hg.not_type h1),fun k x hk=>?_⟩
 obtain ⟨u,⟨A,n,c,g1,g2⟩,g3⟩:=r2 k x hk
 exact ⟨u,⟨A,n,c,g1,g2.blx hx hg h2⟩,g3⟩
theorem Bk.nine {w:World} {g:Nat} {t:TypeId} {a b c d e f i j k:Value} (h:Bk w g t [a,b,c,d,e,f,i,j,k]):
 w.cell? ⟨g,0,none⟩=some a∧w.cell? ⟨g,1,none⟩=some b∧w.cell? ⟨g,2,none⟩=some c∧w.cell? ⟨g,3,none⟩=some d∧w.cell? ⟨g,4,none⟩=some e∧w.cell? ⟨g,5,none⟩=some f∧w.cell? ⟨g,6,none⟩=some i∧w.cell? ⟨g,7,none⟩=some j∧w.cell? ⟨g,8,none⟩=some k:=
 ⟨h.cellAt 0 rfl,h.cellAt 1 rfl,h.cellAt 2 rfl,h.cellAt 3 rfl,h.cellAt 4 rfl,h.cellAt 5 rfl,h.cellAt 6 rfl,h.cellAt 7 rfl,h.cellAt 8 rfl⟩
theorem floorDiv_any (x:Int) (n:Nat) (w:World) (h0:1≤n) (h1:n≤1000) (hx0: -1000000≤x) (hx1:x≤1000000):
 Calls Try.prog 28 #[.int .i64 x,.int .i64 (n:Int)] w fun e w'=>e= .returned (.int .i64 (x / (n:Int)))∧w'=w:=by
 have hn0:((n:Int)==0)=false:=by simp;omega
 have hn1:¬n=0:=by omega
 have hq:Hid (x / (n:Int)=x.tdiv n - (if x.tmod n < 0 then 1 else 0)):=Lib.hid (by
  have a:=Int.mul_tdiv_add_tmod x n
  have b:=Int.tmod_lt_of_pos x (show (0:Int) < n by omega)
  have c: -(n:Int) < x.tmod n:=by
   rcases Int.le_total 0 x with h | h
   ·have:=Int.tmod_nonneg (n:Int) h;omega
   ·have:=Int.tmod_lt_of_pos (-x) (show (0:Int) < n by omega)
    rw [Int.neg_tmod] at this
    omega
  generalize x.tdiv n=q at *
  generalize x.tmod n=r at *
  split
  ·rename_i hr
   have e:x=(r+n)+(n:Int) * (q - 1):=by rw [Int.mul_sub];omega
   rw [e,Int.add_mul_ediv_left _ _ (by omega),Int.ediv_eq_zero_of_lt (by omega) (by omega)]
   omega
  ·have e:x=r+(n:Int) * q:=by omega
   rw [e,Int.add_mul_ediv_left _ _ (by omega),Int.ediv_eq_zero_of_lt (by omega) (by omega)]
   omega)
 have b1: -1000000≤x.tdiv n∧x.tdiv n≤1000000:=by
  have h1:=Int.natAbs_tdiv_le_natAbs x (n:Int)
  omega
 obtain ⟨b2,b3⟩:=b1
 generalize hqg:x / (n:Int)=Q at *
 clear hqg
 go_enter Try.func28,Try.ntmps28
 by_cases hr:x.tmod n < 0
 ·have hQ:Hid (Q=x.tdiv n - 1):=Lib.hid (by rw [hq.out,if_pos hr])
  go_wp2
  go_ret
  exact ⟨by rw [hQ.out];rfl,rfl⟩
 ·have hQ:Hid (Q=x.tdiv n):=Lib.hid (by rw [hq.out,if_neg hr];omega)
  go_wp2
  go_ret
  exact ⟨by rw [hQ.out];rfl,rfl⟩
theorem and_pow {t p:Nat} (ht:t < 64) (hp:p < 6):bits .and .u32 (t:Int) (2^p % 4294967296)=((t &&& 2^p:Nat):Int):=by
 have h1:2^p < 2^6:=Nat.pow_lt_pow_right (by decide) hp
 have h2:((2:Int)^p % 4294967296)=((2^p:Nat):Int):=by
  rw [pow_cast]
  generalize 2^p=q at *
  omega
 rw [h2]
 exact u32_and (by omega) (by omega)
theorem Pl.and_pow_zero {t p:Nat}:t &&& 2^p=0↔t.testBit p=false:=by
 rw [and_zero_iff]
 constructor
 ·intro h
  cases hc:t.testBit p with
  | false=>rfl
  | true=>exact absurd ⟨hc,by simp [Nat.testBit_two_pow]⟩ (h p)
 ·intro h r ⟨h1,h2⟩
  rw [Nat.testBit_two_pow] at h2
  have:p=r:=by simpa using h2
  subst this
  rw [h] at h1;cases h1
theorem Pl.bndP_drop {t:Nat} {l:List Int} {r:Nat} {s c:Int} (h:l[r]? =some s):bndP t (l.drop r) r c=bndP t (l.drop (r+1)) (r+1) (if t.testBit r=true then c else c+s):=by
 obtain ⟨hi,rfl⟩:=List.getElem?_eq_some_iff.1 h
 rw [List.drop_eq_getElem_cons hi,bndP]
theorem hopeless_any (g:Nat) (v0 v1 v3 v4 v7 v8:Value) (A:Option Addr) (n0 c0:Nat) (lls:List (List Int)) (row:List Int) (i t:Nat) (c:Int) (st:Sv) (w:World) (hB:Bk w g 57 [v0,v1,.slice A n0 c0,v3,v4,.int .i64 st.cost,.bool st.proper,v7,v8]) (hL:IlsM w (.slice A n0 c0) lls) (hr:lls[i]? =some row) (ht:t < 64) (hc0: -100000≤c) (hc1:c≤100000) (hrow:∀s∈row,-1000≤s∧s≤1000) (hrl:row.length≤6):
 Calls Try.prog 29 #[.pointer (some ⟨g,0,none⟩),.int .i64 (i:Int),.int .u32 (t:Int),.int .i64 c] w fun e w'=>e= .returned (.bool (hopB (bndP t row 0 c) st))∧Below w.heap.size w w':=by
 obtain ⟨x0,x1,x2,x3,x4,x5,x6,x7,x8⟩:=hB.nine
 obtain ⟨hln,_,_⟩:=RdM.len hL
 have hil:=(List.getElem?_eq_some_iff.1 hr).1
 have hin:i < n0:=by omega
 have hiz:(i:Int) < n0:=by omega
 obtain ⟨b,off,A1,n1,c1,hA,_,y0,hI⟩:=hL.elem (Below.refl _ _) hr
 subst hA
 have HI:=Lib.hid hI.ints
 obtain ⟨r1,r2,r3⟩:=HI.out.lenC
 have HRN:=Lib.hid r1
 have HROW:=Lib.hid hrow
 have hn6:n1≤6:=by omega
 clear hL hln hr hil hI r1 hrow hrl
 generalize hcost:st.cost=cost at *
 generalize hprop:st.proper=prop at *
 have HST:=Lib.hid (And.intro hcost hprop)
 clear hcost hprop
 go_enter Try.func29,Try.ntmps29
 go_wp2
 go_loopw [3,19] (fun s3 x wr=>∃(r:Nat) (z:Int),r≤n1∧x= .int .i64 r∧s3= .int .i64 z∧ -100000 - 1000 * (r:Int)≤z∧z≤100000+1000 * (r:Int)∧wr=w∧Hid (bndP t (row.drop r) r z=bndP t row 0 c)) (fun _ x _=>n1 - (intOf x).toNat)
 case atStart=>exact ⟨0,c,by omega,rfl,rfl,by omega,by omega,rfl,Lib.hid (by simp)⟩
 case round=>
  obtain ⟨r,z,hr,rfl,rfl,hz0,hz1,rfl,HZ⟩:=hrel
  rcases Nat.lt_or_ge r n1 with hrl | hrl
  ·have hrz:(r:Int) < n1:=by omega
   obtain ⟨b4,o4,s,hA4,hcell,hs,_,_⟩:=HI.out.elem (Below.refl _ _) hrl
   subst hA4
   obtain ⟨s0,s1⟩:=HROW.out s (List.mem_of_getElem? hs)
   have HD:=Lib.hid (bndP_drop (t:=t) (c:=z) hs)
   have hand:=and_pow (t:=t) (p:=r) ht (by omega)
   have hr6:r < 6:=by omega
   clear hs
   cases hb:t.testBit r with
   | true=>
    have hz':(((t &&& 2^r:Nat):Int)==0)=false:=by
     have:t &&& 2^r≠0:=fun e=>by rw [and_pow_zero] at e;rw [hb] at e;cases e
     simp;omega
    have HE:Hid (bndP t (row.drop (r+1)) (r+1) z=bndP t row 0 c):=Lib.hid (by have:=HD.out;rw [hb,if_pos rfl] at this;rw [← this];exact HZ.out)
    go_wp2
    go_roundw
    case rel=>exact ⟨r+1,z,by omega,by go_num,by trivial,by omega,by omega,by trivial,HE⟩
    case measure=>simp [intOf];omega
   | false=>
    have hz':(((t &&& 2^r:Nat):Int)==0)=true:=by
     have:t &&& 2^r=0:=and_pow_zero.2 hb
     simp;omega
    have HE:Hid (bndP t (row.drop (r+1)) (r+1) (z+s)=bndP t row 0 c):=Lib.hid (by have:=HD.out;rw [hb,if_neg (by simp)] at this;rw [← this];exact HZ.out)
    go_wp2
    go_roundw
    case rel=>exact ⟨r+1,z+s,by omega,by go_num,by trivial,by omega,by omega,by trivial,HE⟩
    case measure=>simp [intOf];omega
  ·obtain rfl:n1=r:=by omega
   have HE:Hid (bndP t row 0 c=z):=Lib.hid (by rw [← HZ.out,HRN.out,List.drop_length];rfl)
   have HG:Hid (hopB (bndP t row 0 c) st=(decide (cost < z) || (decide (z=cost) && prop))):=Lib.hid (by rw [HE.out];unfold hopB;rw [HST.out.1,HST.out.2])
   rcases Int.lt_trichotomy z cost with h | h | h
   ·have h1:¬cost < z:=by omega
    have h2:¬z=cost:=by omega
    have h3:(z==cost)=false:=by simpa using h2
    have HF:Hid (hopB (bndP t row 0 c) st=false):=Lib.hid (by rw [HG.out];simp [h1,h2])
    go_wp2
    go_ret
    exact ⟨ret_bool (by rw [HF.out]),Below.refl _ _⟩
   ·have h1:¬cost < z:=by omega
    have h3:(z==cost)=true:=by simpa using h
    have HF:Hid (hopB (bndP t row 0 c) st=prop):=Lib.hid (by rw [HG.out];simp [h])
    clear h
    cases prop
    ·go_wp2
     go_ret
     exact ⟨ret_bool (by rw [HF.out]),Below.refl _ _⟩
    ·go_wp2
     go_ret
     exact ⟨ret_bool (by rw [HF.out]),Below.refl _ _⟩
   ·have HF:Hid (hopB (bndP t row 0 c) st=true):=Lib.hid (by rw [HG.out];simp [h])
    go_wp2
    go_ret
    exact ⟨ret_bool (by rw [HF.out]),Below.refl _ _⟩
section
namespace Pl
def leastLL (n:Nat) (l:List Dc):List (List Int):=(List.range (l.length+1)).map fun k=>leastP n (l.drop k)
theorem leastLL_at {n:Nat} {l:List Dc} {k:Nat} (h:k≤l.length):(leastLL n l)[k]? =some (leastP n (l.drop k)):=by
 simp [leastLL,List.getElem?_map,List.getElem?_range,show k < l.length+1 by omega]
theorem foldMin_lo {z L:Int} (hz:L≤z):∀(rows:List Nat) (a:List Int),(∀s∈a,L≤s)→L≤0→∀s∈rows.foldl (fun a r=>minAt a r z) a,L≤s:=by
 intro rows
 induction rows with
 | nil=>intro a h _ s hs;exact h s hs
 | cons r rows ih=>
  intro a h h0 s hs
  rw [List.foldl_cons] at hs
  refine ih _ (fun q hq=>?_) h0 s hs
  unfold minAt at hq
  rcases List.mem_or_eq_of_mem_set hq with e | e
  ·exact h q e
  ·have:L≤a.getD r 0:=by
    rcases Nat.lt_or_ge r a.length with g | g
    ·rw [List.getD_eq_getElem?_getD,List.getElem?_eq_getElem g];exact h _ (List.getElem_mem g)
    ·rw [List.getD_eq_getElem?_getD,List.getElem?_eq_none g];exact h0
   omega
theorem foldMin_hi {z:Int}:∀(rows:List Nat) (a:List Int),(∀s∈a,s≤0)→∀s∈rows.foldl (fun a r=>minAt a r z) a,s≤0:=by
 intro rows
 induction rows with
 | nil=>intro a h s hs;exact h s hs
 | cons r rows ih=>
  intro a h s hs
  rw [List.foldl_cons] at hs
  refine ih _ (fun q hq=>?_) s hs
  unfold minAt at hq
  rcases List.mem_or_eq_of_mem_set hq with e | e
  ·exact h q e
  ·have:a.getD r 0≤0:=by
    rcases Nat.lt_or_ge r a.length with g | g
    ·rw [List.getD_eq_getElem?_getD,List.getElem?_eq_getElem g];exact h _ (List.getElem_mem g)
    ·rw [List.getD_eq_getElem?_getD,List.getElem?_eq_none g];exact Int.le_refl _
   omega
theorem share_lo {x:Dc} (h: -200≤x.sur): -1000≤shareP x:=by
 unfold shareP
 rcases Nat.eq_zero_or_pos x.rows.length with e | e
 ·rw [e];simp
 ·refine (Int.le_ediv_iff_mul_le (by omega)).2 ?_
  have:(1:Int)≤x.rows.length:=by omega
  generalize (x.rows.length:Int)=n at *
  omega
theorem least_bd {n:Nat} {l:List Dc} (h:∀x∈l,-200≤x.sur):∀s∈leastP n l,-1000≤s∧s≤1000:=by
 have key:(∀s∈leastP n l,-1000≤s)∧∀s∈leastP n l,s≤0:=by
  induction l with
  | nil=>
   unfold leastP
   exact ⟨fun s hs=>by have:=(List.mem_replicate.1 hs).2;omega,fun s hs=>by have:=(List.mem_replicate.1 hs).2;omega⟩
  | cons x l ih=>
   obtain ⟨a,b⟩:=ih fun y hy=>h y (List.mem_cons_of_mem _ hy)
   unfold leastP
   exact ⟨foldMin_lo (share_lo (h x (List.mem_cons_self ..))) _ _ a (by decide),foldMin_hi _ _ b⟩
 exact fun s hs=>⟨key.1 s hs,by have:=key.2 s hs;omega⟩
theorem leastP_len {n:Nat} (l:List Dc):(leastP n l).length=n:=by
 induction l with
 | nil=>simp [leastP]
 | cons x l ih=>
  unfold leastP
  have:∀(rows:List Nat) (a:List Int),(rows.foldl (fun a r=>minAt a r (shareP x)) a).length=a.length:=by
   intro rows
   induction rows with
   | nil=>intro a;rfl
   | cons r rows ih2=>intro a;rw [List.foldl_cons,ih2,minAt_length]
  rw [this,ih]
structure SrOK (cf:Sc) (l:List Dc):Prop where
 bd:∀x∈l,x.mask < 64∧x.idx < 1000∧ -200≤x.sur∧x.sur≤200
 len:l.length≤6
 kl:cf.kept.length≤6
 n6:cf.n≤6
 st:cf.steps≤1048576
end Pl
theorem IntsO.pop {base:Nat} {w:World} {A:Option Addr} {n c:Nat} {zs:List Int} {z:Int} (h:IntsO base w (.slice A n c) (zs++[z])):∃g m,A=some ⟨g,0,none⟩∧n=m+1∧m+1≤c∧c≤9223372036854775807∧IntsO base w (.slice (some ⟨g,0,none⟩) m c) zs:=by
 have hn:=h.len
 rw [List.length_append] at hn
 simp only [List.length_cons,List.length_nil] at hn
 obtain ⟨⟨h1,h2⟩,h3⟩:=h
 rcases h2 with ⟨e,hz⟩ | ⟨g,cap,cur,e,hb,hg,hnc,hcm,hcs,htake⟩
 ·simp at hz
 ·injection e with e1 e2 e3
  subst e1 e2 e3
  have hc2:c≤9223372036854775807:=Nat.le_trans hcm (by unfold maxLen;omega)
  refine ⟨g,zs.length,rfl,by omega,by omega,hc2,⟨by simp,.inr ⟨g,_,cur,rfl,hb,hg,by omega,hcm,hcs,?_⟩⟩,fun y hy=>h3 y (List.mem_append_left _ hy)⟩
  have:=congrArg (List.take (zs.length * 1)) htake
  rw [List.take_take] at this
  simp only [List.map_append,List.map_cons,List.map_nil,List.length_append,List.length_cons,List.length_nil] at this
  rw [Nat.min_eq_left (by omega)] at this
  rw [this]
  simp
structure SrCs (W0:World) (g:Nat) (cf:Sc) (l:List Dc) (Ak:Option Addr) (nk ck:Nat) (Ac:Option Addr) (nc cc:Nat) (Al:Option Addr) (nl cl:Nat):Prop where
 kept:IntsT W0 (.slice Ak nk ck) cf.kept
 cols:DcsM W0 (.slice Ac nc cc) l
 least:IlsM W0 (.slice Al nl cl) (leastLL cf.n l)
 blk:∃cs,Bk W0 g 57 cs
 ok:SrOK cf l
def SrAt (W0:World) (g:Nat) (cf:Sc) (Ak:Option Addr) (nk ck:Nat) (Ac:Option Addr) (nc cc:Nat) (Al:Option Addr) (nl cl:Nat) (ad:List Int) (st:Sv) (w:World):Prop:=
 ∃Aa na ca Ab nb cb,Bk w g 57 [.slice Ak nk ck,.slice Ac nc cc,.slice Al nl cl,.slice Aa na ca,.slice Ab nb cb,.int .i64 st.cost,.bool st.proper,.int .i64 (cf.steps:Int),.int .i64 (st.used:Int)]∧IntsO W0.heap.size w (.slice Aa na ca) ad∧IntsO 0 w (.slice Ab nb cb) st.best∧(∀b,(Value.slice Ab nb cb).ownBlock=some b→some b≠(Value.slice Aa na ca).ownBlock)∧BlX W0.heap.size g W0 w
section
variable {W0 w w':World} {g:Nat} {cf:Sc} {l:List Dc} {Ak:Option Addr} {nk ck:Nat} {Ac:Option Addr} {nc cc:Nat} {Al:Option Addr} {nl cl:Nat} {ad:List Int} {st:Sv}
theorem SrCs.keptAt (h:SrCs W0 g cf l Ak nk ck Ac nc cc Al nl cl) (hx:BlX W0.heap.size g W0 w):IntsT w (.slice Ak nk ck) cf.kept:=by
 obtain ⟨cs,hb⟩:=h.blk
 exact h.kept.blx hx hb (by decide)
theorem SrCs.colsAt (h:SrCs W0 g cf l Ak nk ck Ac nc cc Al nl cl) (hx:BlX W0.heap.size g W0 w):DcsM w (.slice Ac nc cc) l:=by
 obtain ⟨cs,hb⟩:=h.blk
 exact h.cols.blx hx hb (by decide) (by decide)
theorem SrCs.leastAt (h:SrCs W0 g cf l Ak nk ck Ac nc cc Al nl cl) (hx:BlX W0.heap.size g W0 w):IlsM w (.slice Al nl cl) (leastLL cf.n l):=by
 obtain ⟨cs,hb⟩:=h.blk
 exact h.least.blx hx hb (by decide) (by decide)
theorem SrAt.later (h:SrAt W0 g cf Ak nk ck Ac nc cc Al nl cl ad st w) (hb:Below w.heap.size w w'):SrAt W0 g cf Ak nk ck Ac nc cc Al nl cl ad st w':=by
 obtain ⟨Aa,na,ca,Ab,nb,cb,h1,h2,h3,h4,h5⟩:=h
 exact ⟨Aa,na,ca,Ab,nb,cb,h1.later hb,h2.below hb,h3.below hb,h4,h5.then hb h5.size⟩
end
end
namespace Pl
theorem loop_used {cf:Sc}:∀(l:List Dc) {t:Nat} {c:Int} {ad:List Int} {st:Sv},st.used≤cf.steps→(loopP cf l t c ad st).1.used≤cf.steps:=by
 intro l
 induction l with
 | nil=>
  intro t c ad st h
  unfold loopP
  simp only
  split <;> exact h
 | cons x l ih=>
  intro t c ad st h
  have hv:∀{t:Nat} {c:Int} {ad:List Int} {st:Sv},st.used≤cf.steps→(visP cf l t c ad st).1.used≤cf.steps:=by
   intro t c ad st h
   unfold visP
   split
   ·exact h
   ·rename_i hne
    exact ih (by simp only;omega)
  rw [loopP_cons]
  split
  ·exact h
  ·split
   ·split
    ·exact ih (hv h)
    ·exact hv h
   ·exact ih h
theorem vis_used {cf:Sc} {l:List Dc} {t:Nat} {c:Int} {ad:List Int} {st:Sv} (h:st.used≤cf.steps):(visP cf l t c ad st).1.used≤cf.steps:=by
 unfold visP
 split
 ·exact h
 ·rename_i hne
  exact loop_used l (by simp only;omega)
end Pl
def VisPost (W0:World) (g:Nat) (cf:Sc) (Ak:Option Addr) (nk ck:Nat) (Ac:Option Addr) (nc cc:Nat) (Al:Option Addr) (nl cl:Nat) (ad:List Int) (r:Sv × Bool) (e:Ending) (w':World):Prop:=
 e= .returned (.bool r.2)∧SrAt W0 g cf Ak nk ck Ac nc cc Al nl cl ad r.1 w'
theorem visit_own (W0:World) (g:Nat) (cf:Sc) (l:List Dc) (Ak:Option Addr) (nk ck:Nat) (Ac:Option Addr) (nc cc:Nat) (Al:Option Addr) (nl cl:Nat) (hcs:SrCs W0 g cf l Ak nk ck Ac nc cc Al nl cl):
 ∀(d i:Nat),i≤l.length→l.length - i < d→∀(t:Nat) (c:Int) (ad:List Int) (st:Sv) (w:World),SrAt W0 g cf Ak nk ck Ac nc cc Al nl cl ad st w→t < 64→ -10000 - 200 * (i:Int)≤c→c≤10000+200 * (i:Int)→ad.length≤i→st.used≤cf.steps→
 Calls Try.prog 18 #[.pointer (some ⟨g,0,none⟩),.int .i64 (i:Int),.int .u32 (t:Int),.int .i64 c] w (VisPost W0 g cf Ak nk ck Ac nc cc Al nl cl ad (visP cf (l.drop i) t c ad st)):=by
 have HCS:=Lib.hid hcs
 have hnl:nc=l.length:=(RdM.len hcs.cols).1
 have HNC:=Lib.hid hnl
 have hn6:nc≤6:=by have:=hcs.ok.len;omega
 have hst6:cf.steps≤1048576:=hcs.ok.st
 clear hcs hnl
 intro d
 induction d with
 | zero=>intro i hi hd;omega
 | succ d ih=>
  intro i hi hd t c ad st w hs ht hc0 hc1 had hus
  have HIH:=Lib.hid ih
  have HI:=Lib.hid hi
  have hin:i≤nc:=by rw [HNC.out];exact hi
  obtain ⟨Aa,na,ca,Ab,nb,cb,hB,hA,hBe,hsep,hX⟩:=hs
  have HM:=Lib.hid (And.intro hA (And.intro hBe (And.intro hsep hX)))
  clear ih hi hA hBe hsep hX
  obtain ⟨x0,x1,x2,x3,x4,x5,x6,x7,x8⟩:=hB.nine
  by_cases hu:st.used=cf.steps
  ·have HV:Hid (visP cf (l.drop i) t c ad st=(st,false)):=Lib.hid (by unfold visP;rw [if_pos hu])
   have hu':((st.used:Int)==(cf.steps:Int))=true:=by rw [hu];simp
   have HS:Hid (SrAt W0 g cf Ak nk ck Ac nc cc Al nl cl ad st w):=Lib.hid ⟨Aa,na,ca,Ab,nb,cb,hB,HM.out.1,HM.out.2.1,HM.out.2.2.1,HM.out.2.2.2⟩
   clear hu
   go_enter Try.func18,Try.ntmps18
   go_upto_region 1 with (fail)
   have C0:=stab x7
   have C1:=stab x8
   have hS0:=below_drew' w
   clear x0 x1 x2 x3 x4 x5 x6 x7 x8
   refine region_seq 9 [0,1,2,3,4,5,6,7,8] (by kernel_rfl) (by kernel_rfl) ?_
   repeat ((first | (refine seq_takeP (v:=?_) rfl rfl rfl ?_ ?_;rotate_left;(· (intro _ hSw;go_simp;(try go_bits);(try with_reducible rfl)))) | (refine seq_take (v:=?_) rfl rfl rfl ?_ ?_;rotate_left;(· (intro _ hSw;go_simp;(try go_bits);(try with_reducible rfl)))) | refine seq_skip rfl rfl rfl ?_);(try simp only [Act.put,pu1,pu2,pu3,pu4,pu5,pu6]))
   refine seq_done ?_
   have HS2:=Lib.hid (HS.out.later hS0)
   clear C0 C1
   go_wp2
   go_ret
   exact ⟨ret_bool (by rw [HV.out]),by rw [HV.out];exact HS2.out⟩
  ·have hu1:st.used+1≤cf.steps:=by omega
   have HV:Hid (visP cf (l.drop i) t c ad st=loopP cf (l.drop i) t c ad ⟨st.best,st.cost,st.proper,st.used+1⟩):=Lib.hid (by unfold visP;rw [if_neg hu])
   have hu':((st.used:Int)==(cf.steps:Int))=false:=by simp;omega
   clear hu
   go_enter Try.func18,Try.ntmps18
   go_upto_region 1 with (fail)
   have C0:=stab x7
   have C1:=stab x8
   have hS0:=below_drew' w
   clear x0 x1 x2 x3 x4 x5 x6 x7 x8
   refine region_seq 9 [0,1,2,3,4,5,6,7,8] (by kernel_rfl) (by kernel_rfl) ?_
   repeat ((first | (refine seq_takeP (v:=?_) rfl rfl rfl ?_ ?_;rotate_left;(· (intro _ hSw;go_simp;(try go_bits);(try with_reducible rfl)))) | (refine seq_take (v:=?_) rfl rfl rfl ?_ ?_;rotate_left;(· (intro _ hSw;go_simp;(try go_bits);(try with_reducible rfl)))) | refine seq_skip rfl rfl rfl ?_);(try simp only [Act.put,pu1,pu2,pu3,pu4,pu5,pu6]))
   refine seq_done ?_
   clear C0 C1
   have hB1:=hB.later hS0
   have HM1:=Lib.hid (And.intro (HM.out.1.below hS0) (And.intro (HM.out.2.1.below hS0) (And.intro HM.out.2.2.1 (HM.out.2.2.2.then hS0 HM.out.2.2.2.size))))
   clear hB hS0 HM
   generalize w.drew=w1 at *
   obtain ⟨x0,x1,x2,x3,x4,x5,x6,x7,x8⟩:=hB1.nine
   have f8:=hB1.frozen 8
   have kk:=KeepBut.setCell hB1 8 (.int .i64 ((st.used:Int)+1))
   have hB2:=hB1.set_ 8 (.int .i64 ((st.used:Int)+1))
   simp only [List.set_cons_succ,List.set_cons_zero] at hB2
   have HS2:Hid (SrAt W0 g cf Ak nk ck Ac nc cc Al nl cl ad ⟨st.best,st.cost,st.proper,st.used+1⟩ (w1.setCell ⟨g,8,none⟩ (.int .i64 ((st.used:Int)+1)))):=Lib.hid ⟨Aa,na,ca,Ab,nb,cb,by simpa using hB2,HM1.out.1.but kk (by decide),HM1.out.2.1.but kk (by decide),HM1.out.2.2.1,HM1.out.2.2.2.setCell 8 _⟩
   clear kk hB2 HM1
   go_upto_region 4 with (fail)
   clear x0 x1 x2 x3 x4 x5 x6 x7 x8 f8 hB1
   generalize w1.setCell ⟨g,8,none⟩ (.int .i64 ((st.used:Int)+1))=w2 at *
   generalize hst0:(⟨st.best,st.cost,st.proper,st.used+1⟩:Sv)=st0 at *
   have hus0:st0.used≤cf.steps:=by rw [← hst0];exact hu1
   clear hst0 hu1 hu' hus
   go_wp2
   go_loopw [9] (fun x wr=>∃(j:Nat) (sj:Sv),i≤j∧j≤nc∧x= .int .i64 j∧sj.used≤cf.steps∧Hid (loopP cf (l.drop i) t c ad st0=loopP cf (l.drop j) t c ad sj∧SrAt W0 g cf Ak nk ck Ac nc cc Al nl cl ad sj wr)) (fun x _=>nc - (intOf x).toNat)
   case atStart=>exact ⟨i,st0,by omega,hin,rfl,hus0,Lib.hid ⟨rfl,HS2.out⟩⟩
   case round=>
    clear HS2 hus0
    obtain ⟨j,sj,hij,hjn,rfl,husj,HJ⟩:=hrel
    obtain ⟨Ea,ma,ea,Eb,mb,eb,hB,hA,hBe,hsep,hX⟩:=HJ.out.2
    have HM:=Lib.hid (And.intro hA (And.intro hBe (And.intro hsep hX)))
    clear hA hBe hsep hX
    obtain ⟨x0,x1,x2,x3,x4,x5,x6,x7,x8⟩:=hB.nine
    rcases Nat.lt_or_ge j nc with hjl | hjl
    ·have hjz:(j:Int) < nc:=by omega
     obtain ⟨x,hx⟩:∃x,l[j]? =some x:=⟨l[j]'(by rw [← HNC.out];exact hjl),List.getElem?_eq_getElem _⟩
     have HX:=Lib.hid hx
     have HSTEP:Hid (l.drop j=x::l.drop (j+1)):=Lib.hid (drop_at hx)
     have HBD:=Lib.hid (HCS.out.ok.bd x (List.mem_of_getElem? hx))
     clear hx
     go_wp2_with fail
     refine (hopeless_any g _ _ _ _ _ _ Al nl cl (leastLL cf.n l) (leastP cf.n (l.drop j)) j t c sj _ hB (HCS.out.leastAt HM.out.2.2.2) (leastLL_at (by rw [← HNC.out];exact hjn)) ht (by omega) (by omega) (least_bd fun y hy=>(HCS.out.ok.bd y (List.mem_of_mem_drop hy)).2.2.1) (by rw [leastP_len];exact HCS.out.ok.n6)).mono ?_
     rintro _ w3 ⟨rfl,hb3⟩
     have HS3:Hid (SrAt W0 g cf Ak nk ck Ac nc cc Al nl cl ad sj w3):=Lib.hid (HJ.out.2.later hb3)
     have HE3:=Lib.hid HJ.out.1
     clear hB HM x0 x1 x2 x3 x4 x5 x6 x7 x8 hb3 HJ
     cases hop:hopB (bndP t (leastP cf.n (l.drop j)) 0 c) sj with
     | true=>
      have HR:Hid (loopP cf (l.drop i) t c ad st0=(sj,true)):=Lib.hid (by rw [HE3.out,HSTEP.out,loopP_cons,← HSTEP.out,if_pos hop])
      clear hop
      go_wp2
      go_ret
      exact ⟨ret_bool (by rw [HV.out,HR.out]),by rw [HV.out,HR.out];exact HS3.out⟩
     | false=>
      have HLP:Hid (loopP cf (l.drop j) t c ad sj=if x.mask &&& t=0 then if (visP cf (l.drop (j+1)) (t ||| x.mask) (c+x.sur) (ad++[(x.idx:Int)]) sj).2=true then loopP cf (l.drop (j+1)) t c ad (visP cf (l.drop (j+1)) (t ||| x.mask) (c+x.sur) (ad++[(x.idx:Int)]) sj).1 else ((visP cf (l.drop (j+1)) (t ||| x.mask) (c+x.sur) (ad++[(x.idx:Int)]) sj).1,false) else loopP cf (l.drop (j+1)) t c ad sj):=Lib.hid (by
       have h1:=hop
       rw [HSTEP.out] at h1 ⊢
       rw [loopP_cons,if_neg (by rw [h1];simp)])
      clear hop
      obtain ⟨Ea,ma,ea,Eb,mb,eb,hB,hA,hBe,hsep,hX⟩:=HS3.out
      obtain ⟨x0,x1,x2,x3,x4,x5,x6,x7,x8⟩:=hB.nine
      obtain ⟨b,off,A1,n1,c1,hAc,_,⟨p0,p1,p2,p3⟩,hI⟩:=(HCS.out.colsAt hX).elem (Below.refl _ _) HX.out
      subst hAc
      obtain ⟨hxm,hxi,hxs0,hxs1⟩:=HBD.out
      have hand:=u32_and (a:=x.mask) (b:=t) (by omega) (by omega)
      have hor:=u32_or (a:=t) (b:=x.mask) (by omega) (by omega)
      have hlt:t ||| x.mask < 64:=Nat.or_lt_two_pow (n:=6) ht hxm
      go_upto_if 54 with (fail)
      have hX0:=Bk.new w3 59 [.int .i64 (x.idx:Int),.int .u32 (x.mask:Int),.slice A1 n1 c1,.int .i64 x.sur]
      have hbw:=below_new w3 (.cells #[.int .i64 (x.idx:Int),.int .u32 (x.mask:Int),.slice A1 n1 c1,.int .i64 x.sur] 59)
      have e:(#[.int .i64 (x.idx:Int),.int .u32 (x.mask:Int),.slice A1 n1 c1,.int .i64 x.sur]:Array Value)=[.int .i64 (x.idx:Int),.int .u32 (x.mask:Int),.slice A1 n1 c1,.int .i64 x.sur].toArray:=rfl
      rw [← e] at hX0
      clear e
      generalize w3.alloc (.cells #[.int .i64 (x.idx:Int),.int .u32 (x.mask:Int),.slice A1 n1 c1,.int .i64 x.sur] 59)=W at *
      have HSW:Hid (SrAt W0 g cf Ak nk ck (some ⟨b,off,none⟩) nc cc Al nl cl ad sj W):=Lib.hid (HS3.out.later hbw)
      clear x0 x1 x2 x3 x4 x5 x6 x7 x8 p0 p1 p2 p3 hI hB hA hBe hsep hX HS3 hbw
      generalize w3.heap.size=gx at *
      by_cases hz:x.mask &&& t=0
      ·have hz':(((x.mask &&& t:Nat):Int) !=0)=false:=by rw [hz];rfl
       have HL2:=Lib.hid (by have:=HLP.out;rw [if_pos hz] at this;exact this)
       clear hz HLP
       go_upto_region 11 with (fail)
       obtain ⟨Ea,ma,ea,Eb,mb,eb,hB,hA,hBe,hsep,hX⟩:=HSW.out
       obtain ⟨x0,x1,x2,x3,x4,x5,x6,x7,x8⟩:=hB.nine
       have q0:=hX0.cellAt 0 rfl
       have C0:=stab x3
       have C1:=stab q0
       have hS0:=below_drew' W
       have hWW:W0.heap.size≤W.heap.size:=hX.size
       clear x0 x1 x2 x3 x4 x5 x6 x7 x8 q0
       refine region_seq 8 [0,1,2,3,4,5,6,7,8,9,10,11] (by kernel_rfl) (by kernel_rfl) ?_
       repeat ((first | (refine seq_takeP (v:=?_) rfl rfl rfl ?_ ?_;rotate_left;(· (intro _ hSw;go_simp;(try go_bits);(try with_reducible rfl)))) | (refine seq_take (v:=?_) rfl rfl rfl ?_ ?_;rotate_left;(· (intro _ hSw;go_simp;(try go_bits);(try with_reducible rfl)))) | refine seq_skip rfl rfl rfl ?_);(try simp only [Act.put,pu1,pu2,pu3,pu4,pu5,pu6]))
       refine seq_step rfl rfl (fun KR hKR=>?_)
       go_simp
       refine hKR.out _ _ (Or.inr (below_then hS0 (below_new _ _) hS0.size)) ?_
       clear hKR KR
       (try simp only [Act.put,pu1,pu2,pu3,pu4,pu5,pu6])
       obtain ⟨v11,w11,hrun,hro,hrk,hrb,hot,hor2⟩:=run_append_int 22 W.drew W0.heap.size (.slice Ea ma ea) ad (x.idx:Int) (hA.below hS0) (by omega) (by omega) (by omega) (by have:=hS0.size;omega)
       obtain ⟨A11,n11,c11,rfl⟩:=hro.sliceN
       refine seq_step rfl rfl (fun KR hKR=>?_)
       refine op_append_run _ _ rfl rfl rfl rfl hrun ?_
       refine hKR.out _ _ (Or.inl (by decide)) ?_
       clear hKR KR
       (try simp only [Act.put,pu1,pu2,pu3,pu4,pu5,pu6])
       have hB11:=hrk.bk (hB.later hS0) (by decide)
       obtain ⟨x0,x1,x2,x3,x4,x5,x6,x7,x8⟩:=hB11.nine
       have f3:=hB11.frozen 3
       refine seq_step rfl rfl (fun KR hKR=>?_)
       go_simp
       refine hKR.out _ _ (Or.inl (by decide)) ?_
       clear hKR KR
       (try simp only [Act.put,pu1,pu2,pu3,pu4,pu5,pu6])
       refine seq_step rfl rfl (fun KR hKR=>?_)
       go_simp
       refine hKR.out _ _ (Or.inl (by decide)) ?_
       clear hKR KR
       (try simp only [Act.put,pu1,pu2,pu3,pu4,pu5,pu6])
       refine seq_step rfl rfl (fun KR hKR=>?_)
       go_simp
       refine hKR.out _ _ (Or.inl (by decide)) ?_
       clear hKR KR
       (try simp only [Act.put,pu1,pu2,pu3,pu4,pu5,pu6])
       refine seq_done ?_
       have kk:=KeepBut.setCell hB11 3 (.slice A11 n11 c11)
       have hB12:=hB11.set_ 3 (.slice A11 n11 c11)
       simp only [List.set_cons_succ,List.set_cons_zero] at hB12
       have hX12:=kk.bk (hrk.bk (hX0.later hS0) (by decide)) (by decide)
       have HS12:Hid (SrAt W0 g cf Ak nk ck (some ⟨b,off,none⟩) nc cc Al nl cl (ad++[(x.idx:Int)]) sj (w11.setCell ⟨g,3,none⟩ (.slice A11 n11 c11))):=Lib.hid ⟨_,_,_,_,_,_,hB12,hro.but kk (by decide),((hBe.below hS0).others hot hsep).but kk (by decide),fun q hq e=>by
        rcases hor2 with h | h
        ·exact hsep q hq (by rw [e,h])
        ·have h1:=h q e.symm
         have h2:=(hBe.ownB q hq).2
         have h3:=hS0.size
         omega,((hX.then hS0 hX.size).trans (BlX.of_below hrb)).setCell 3 _⟩
       clear kk hB11 hB12 hrun hro hrk hrb hot hor2 hB hA hBe hsep hX hX0 hS0 C0 C1 x0 x1 x2 x3 x4 x5 x6 x7 x8 f3 HSW
       generalize w11.setCell ⟨g,3,none⟩ (.slice A11 n11 c11)=w12 at *
       have p1:=hX12.cellAt 1 rfl
       have p3:=hX12.cellAt 3 rfl
       go_wp2_with fail
       clear p1 p3 hX12 hand hor
       refine (HIH.out (j+1) (by have:=HNC.out;omega) (by have:=HNC.out;omega) (t ||| x.mask) (c+x.sur) (ad++[(x.idx:Int)]) sj _ HS12.out hlt (by push_cast;omega) (by push_cast;omega) (by simp;omega) husj).mono ?_
       rintro _ w13 ⟨rfl,hs13⟩
       have HUS:Hid ((visP cf (l.drop (j+1)) (t ||| x.mask) (c+x.sur) (ad++[(x.idx:Int)]) sj).1.used≤cf.steps):=Lib.hid (vis_used husj)
       generalize hvr:visP cf (l.drop (j+1)) (t ||| x.mask) (c+x.sur) (ad++[(x.idx:Int)]) sj=r at *
       have HVR:=Lib.hid hvr
       have HS13:=Lib.hid hs13
       clear hvr hs13 HS12
       obtain ⟨sr,rb⟩:=r
       go_upto_region 13 with (fail)
       obtain ⟨Ea,ma,ea,Eb,mb,eb,hB,hA,hBe,hsep,hX⟩:=HS13.out
       obtain ⟨ga,m1,rfl,rfl,hm1,hm2,hA1⟩:=hA.pop
       obtain ⟨x0,x1,x2,x3,x4,x5,x6,x7,x8⟩:=hB.nine
       have C0:=stab x3
       have hS0:=below_drew' w13
       have f3:=hB.frozen 3
       have m1a:(0:Int)≤(m1:Int):=by omega
       have m1b:(m1:Int)≤ea:=by omega
       clear x0 x1 x2 x3 x4 x5 x6 x7 x8
       refine region_seq 14 [0,1,2,3,4,5,6,7,8,9,10,11,12,13,14] (by kernel_rfl) (by kernel_rfl) ?_
       repeat ((first | (refine seq_takeP (v:=?_) rfl rfl rfl ?_ ?_;rotate_left;(· (intro _ hSw;go_simp;(try go_bits);(try with_reducible rfl)))) | (refine seq_take (v:=?_) rfl rfl rfl ?_ ?_;rotate_left;(· (intro _ hSw;go_simp;(try go_bits);(try with_reducible rfl)))) | refine seq_skip rfl rfl rfl ?_);(try simp only [Act.put,pu1,pu2,pu3,pu4,pu5,pu6]))
       refine seq_step rfl rfl (fun KR hKR=>?_)
       go_simp
       refine hKR.out _ _ (Or.inl (by decide)) ?_
       clear hKR KR
       (try simp only [Act.put,pu1,pu2,pu3,pu4,pu5,pu6])
       refine seq_done ?_
       have kk:=KeepBut.setCell hB 3 (.slice (some ⟨ga,0,none⟩) m1 ea)
       have hB15:=hB.set_ 3 (.slice (some ⟨ga,0,none⟩) m1 ea)
       simp only [List.set_cons_succ,List.set_cons_zero] at hB15
       have HS14:Hid (SrAt W0 g cf Ak nk ck (some ⟨b,off,none⟩) nc cc Al nl cl ad sr (w13.setCell ⟨g,3,none⟩ (.slice (some ⟨ga,0,none⟩) m1 ea))):=Lib.hid ⟨_,_,_,_,_,_,hB15,hA1.but kk (by decide),hBe.but kk (by decide),fun q hq e=>hsep q hq (by rw [e];rfl),hX.setCell 3 _⟩
       have HS15:=Lib.hid (HS14.out.later (below_drew' _))
       clear kk hB15 hB hA hBe hsep hX hA1 hS0 C0 f3 HS13 HS14
       generalize (w13.setCell ⟨g,3,none⟩ (.slice (some ⟨ga,0,none⟩) m1 ea)).drew=w15 at *
       cases rb with
       | true=>
        have HR:Hid (loopP cf (l.drop i) t c ad st0=loopP cf (l.drop (j+1)) t c ad sr):=Lib.hid (by rw [HE3.out,HL2.out];simp)
        have hus2:sr.used≤cf.steps:=HUS.out
        go_wp2
        go_roundw
        case rel=>exact ⟨j+1,sr,by omega,by omega,by go_num,hus2,Lib.hid ⟨HR.out,HS15.out⟩⟩
        case measure=>simp [intOf];omega
       | false=>
        have HR:Hid (loopP cf (l.drop i) t c ad st0=(sr,false)):=Lib.hid (by rw [HE3.out,HL2.out];simp)
        go_wp2
        go_ret
        exact ⟨ret_bool (by rw [HV.out,HR.out]),by rw [HV.out,HR.out];exact HS15.out⟩
      ·have hz':(((x.mask &&& t:Nat):Int) !=0)=true:=by simpa using hz
       have HL2:Hid (loopP cf (l.drop i) t c ad st0=loopP cf (l.drop (j+1)) t c ad sj):=Lib.hid (by rw [HE3.out,HLP.out,if_neg hz])
       clear hz
       go_wp2
       go_roundw
       case rel=>exact ⟨j+1,sj,by omega,by omega,by go_num,husj,Lib.hid ⟨HL2.out,HSW.out⟩⟩
       case measure=>simp [intOf];omega
    ·obtain rfl:nc=j:=by omega
     have HE3:Hid (loopP cf (l.drop i) t c ad st0=(if c < sj.cost∨(c=sj.cost∧sj.proper=false) then ⟨sortI (cf.kept++ad),c,true,sj.used⟩ else sj,true)):=Lib.hid (by
      rw [HJ.out.1,HNC.out,List.drop_length];rfl)
     have HS3:=Lib.hid HJ.out.2
     by_cases hbt:c < sj.cost∨(c=sj.cost∧sj.proper=false)
     ·have HR:Hid (loopP cf (l.drop i) t c ad st0=(⟨sortI (cf.kept++ad),c,true,sj.used⟩,true)):=Lib.hid (by rw [HE3.out,if_pos hbt])
      have hcc:c < sj.cost∨(¬c < sj.cost∧(c==sj.cost)=true∧sj.proper=false):=by
       rcases hbt with h | ⟨h,h2⟩
       ·exact .inl h
       ·exact .inr ⟨by omega,by simpa using h,h2⟩
      clear hbt HE3 HJ
      have HKA:=Lib.hid (HCS.out.keptAt HM.out.2.2.2).ints
      have HKL:=Lib.hid HCS.out.ok.kl
      rcases hcc with h1 | ⟨h1,h2,h3⟩
      all_goals (
       go_upto_region 17 with (fail)
       clear h1
       try clear h2 h3
       have C0:=stab x0
       have C3:=stab x3
       have hS0:=below_drew' wr
       clear x0 x1 x2 x3 x4 x5 x6 x7 x8
       refine region_seq 10 [0,1,2,3,4,6,7,8,9,5,10,11,12,13] (by kernel_rfl) (by kernel_rfl) ?_
       repeat ((first | (refine seq_takeP (v:=?_) rfl rfl rfl ?_ ?_;rotate_left;(· (intro _ hSw;go_simp;(try go_bits);(try with_reducible rfl)))) | (refine seq_take (v:=?_) rfl rfl rfl ?_ ?_;rotate_left;(· (intro _ hSw;go_simp;(try go_bits);(try with_reducible rfl)))) | refine seq_skip rfl rfl rfl ?_);(try simp only [Act.put,pu1,pu2,pu3,pu4,pu5,pu6]))
       refine seq_step rfl rfl (fun KR hKR=>?_)
       go_simp
       with_reducible refine (clone_own _ cf.kept _ (HKA.out.below hS0) (by have:=HKL.out;omega)).mono ?_
       rintro _ w4 ⟨v4,rfl,e4,hb4⟩
       have hS4:=below_then hS0 hb4 hS0.size
       refine hKR.out _ _ (Or.inr hS4) ?_
       clear hKR KR
       (try simp only [Act.put,pu1,pu2,pu3,pu4,pu5,pu6])
       have hA4:=HM.out.1.below hS4
       have hWr:=HM.out.2.2.2.size
       have hs04:=hS0.size
       obtain ⟨v5,w5,hrun,hro,hrk,hrb,hot,hor2⟩:=run_append_intsL 22 w4 W0.heap.size v4 _ cf.kept ad (e4.monoB (by omega)) hA4.ints (by have:=HKL.out;omega) (by have:=hS4.size;omega)
       obtain ⟨A5,n5,c5,rfl⟩:=hro.sliceN
       refine seq_step rfl rfl (fun KR hKR=>?_)
       refine op_append_run _ _ rfl rfl rfl rfl hrun ?_
       refine hKR.out _ _ (Or.inl (by decide)) ?_
       clear hKR KR
       (try simp only [Act.put,pu1,pu2,pu3,pu4,pu5,pu6])
       have hB5:=hrk.bk (hB.later hS4) (by decide)
       obtain ⟨x0,x1,x2,x3,x4,x5,x6,x7,x8⟩:=hB5.nine
       have f4:=hB5.frozen 4
       refine seq_step rfl rfl (fun KR hKR=>?_)
       go_simp
       refine hKR.out _ _ (Or.inl (by decide)) ?_
       clear hKR KR
       (try simp only [Act.put,pu1,pu2,pu3,pu4,pu5,pu6])
       refine seq_step rfl rfl (fun KR hKR=>?_)
       go_simp
       refine hKR.out _ _ (Or.inl (by decide)) ?_
       clear hKR KR
       (try simp only [Act.put,pu1,pu2,pu3,pu4,pu5,pu6])
       refine seq_step rfl rfl (fun KR hKR=>?_)
       go_simp
       refine hKR.out _ _ (Or.inl (by decide)) ?_
       clear hKR KR
       (try simp only [Act.put,pu1,pu2,pu3,pu4,pu5,pu6])
       refine seq_done ?_
       have h4A:∀q,(Value.slice Ea ma ea).ownBlock=some q→some q≠v4.ownBlock:=fun q hq e=>by
        have h1:=(e4.ownB q e.symm).1
        have h2:=(HM.out.1.ownB q hq).2
        omega
       have hA5:=hA4.others hot h4A
       have h5A:∀q,(Value.slice A5 n5 c5).ownBlock=some q→some q≠(Value.slice Ea ma ea).ownBlock:=fun q hq e=>by
        rcases hor2 with h | h
        ·exact h4A q e.symm (by rw [← h,hq])
        ·have h1:=h q hq
         have h2:=(hA4.ownB q e.symm).2
         omega
       have kk:=KeepBut.setCell hB5 4 (.slice A5 n5 c5)
       have hB6:=hB5.set_ 4 (.slice A5 n5 c5)
       simp only [List.set_cons_succ,List.set_cons_zero] at hB6
       have HA6:=Lib.hid (hA5.but kk (by decide))
       have HB6:=Lib.hid (hro.but kk (by decide))
       have HX6:=Lib.hid (((HM.out.2.2.2.then hS4 hWr).trans (BlX.of_below hrb)).setCell 4 (.slice A5 n5 c5))
       have HS6:=Lib.hid h5A
       clear kk hB5 hA5 hro hrk hrb hrun hot hor2 h4A h5A hA4 e4 hb4 hS4 hS0 C0 C3 x0 x1 x2 x3 x4 x5 x6 x7 x8 f4 hB hs04
       generalize w5.setCell ⟨g,4,none⟩ (.slice A5 n5 c5)=w6 at *
       obtain ⟨x0,x1,x2,x3,x4,x5,x6,x7,x8⟩:=hB6.nine
       go_wp2_with fail
       refine (sortI_own W0.heap.size _ (cf.kept++ad) _ HB6.out (by have:=HKL.out;simp;omega)).mono ?_
       rintro _ w7 ⟨rfl,hs7⟩
       have hB7:=hs7.2.1.bk hB6 (by decide)
       have HA7:=Lib.hid (HA6.out.others hs7.2.2.1 fun q hq e=>HS6.out q e.symm hq.symm)
       have HB7:=Lib.hid hs7.1
       have HX7:=Lib.hid (HX6.out.trans (BlX.of_below hs7.2.2.2))
       clear x0 x1 x2 x3 x4 x5 x6 x7 x8 hs7 hB6
       obtain ⟨x0,x1,x2,x3,x4,x5,x6,x7,x8⟩:=hB7.nine
       have f5:=hB7.frozen 5
       have f6:=hB7.frozen 6
       have k1:=KeepBut.setCell hB7 5 (.int .i64 c)
       have k2:=KeepBut.setCell (hB7.set_ 5 (.int .i64 c)) 6 (.bool true)
       have kk:=k1.trans k2
       have hB8:=(hB7.set_ 5 (.int .i64 c)).set_ 6 (.bool true)
       simp only [List.set_cons_succ,List.set_cons_zero] at hB8
       have HF:Hid (SrAt W0 g cf Ak nk ck Ac nc cc Al nl cl ad ⟨sortI (cf.kept++ad),c,true,sj.used⟩ ((w7.setCell ⟨g,5,none⟩ (.int .i64 c)).setCell ⟨g,6,none⟩ (.bool true))):=Lib.hid ⟨_,_,_,_,_,_,hB8,HA7.out.but kk (by decide),(HB7.out.but kk (by decide)).monoB (Nat.zero_le _),HS6.out,(HX7.out.setCell 5 _).setCell 6 _⟩
       clear k1 k2 kk hB8 hB7
       go_wp2
       go_ret
       exact ⟨ret_bool (by rw [HV.out,HR.out]),by rw [HV.out,HR.out];exact HF.out⟩)
     ·have HR:Hid (loopP cf (l.drop i) t c ad st0=(sj,true)):=Lib.hid (by rw [HE3.out,if_neg hbt])
      have h1:¬c < sj.cost:=fun h=>hbt (.inl h)
      rcases Int.lt_trichotomy c sj.cost with h | h | h
      ·exact absurd h h1
      ·have h2:sj.proper=true:=by
        cases hp:sj.proper with
        | true=>rfl
        | false=>exact absurd (.inr ⟨h,hp⟩) hbt
       have h3:(c==sj.cost)=true:=by simpa using h
       clear hbt h HE3 HJ HM hB
       rw [h2] at x6
       clear h2
       go_wp2
       go_ret
       exact ⟨ret_bool (by rw [HV.out,HR.out]),by rw [HV.out,HR.out];exact HS3.out⟩
      ·have h3:(c==sj.cost)=false:=by simp;omega
       clear hbt HE3 HJ HM hB
       go_wp2
       go_ret
       exact ⟨ret_bool (by rw [HV.out,HR.out]),by rw [HV.out,HR.out];exact HS3.out⟩
end Go.Proofs.Ytgdcbjligbnpgaa
