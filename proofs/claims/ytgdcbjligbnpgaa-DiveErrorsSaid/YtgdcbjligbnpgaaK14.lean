/- Lemmas of the claim; no condition. -/
import Derived.Maps.OwnSet
import Derived.Test.YtgdcbjligbnpgaaK13
set_option linter.all false
set_option maxRecDepth 100000
set_option maxHeartbeats 40000000
namespace Go.Proofs.Ytgdcbjligbnpgaa
open Go.RowKit
open Pl
attribute [local go_sem ↓] Go.wp_at_zero Go.wp_at_succ
section
open Go.RowKit Pl Go.Maps
def PlAt (w:World) (b n:Nat) (pl:Nat→Option Dc):Prop:=
 ∃D:DataW Unit,w.ownsMap Try.prog 50 (plainElem Try.prog 3) b n D∧Go.Maps.IsMap D∧∀m:Nat,m < 64→match pl m with | none=>∀z,D.atKey (.int .u32 (m:Int)) z=z | some x=>∀z,D.atKey (.int .u32 (m:Int)) z= .lit (.int .i64 (x.idx:Int))
theorem PlAt.made (w:World):PlAt (w.alloc (.map #[] 0)) w.heap.size 0 (fun _=>none):=
 ⟨.map [],World.ownsMap_made w _ _ _,Go.Maps.isMap_empty,fun m _ z=>by simp [DataW.atKey]⟩
theorem key32_ok (m:Nat) (h:m < 64):keyOf Try.prog 50 (.int .u32 (m:Int))=some (.int .u32 (m:Int)):=keyOf_int_mk Try.underlying50 (by
 have e1:IntKind.u32.min=0:=by decide
 have e2:IntKind.u32.max=4294967295:=by decide
 simp [Lit.wf,e1,e2];omega)
theorem wf_i64 {z:Int} (h0: -9223372036854775808≤z) (h1:z≤9223372036854775807):(Lit.int .i64 z).wf=true:=by
 have e1:IntKind.i64.min= -9223372036854775808:=by decide
 have e2:IntKind.i64.max=9223372036854775807:=by decide
 simp [Lit.wf,e1,e2];omega
def Pl.plIdx (o:Option Dc):Int:=match o with | none=>0 | some x=>(x.idx:Int)
theorem PlAt.look {w:World} {b n:Nat} {pl:Nat→Option Dc} (h:PlAt w b n pl) (m:Nat) (hm:m < 64):
 (Instr.lookup 84 (.map (some b)) (.int .u32 (m:Int)) true).run Try.prog w= .ok (.tuple #[.int .i64 (plIdx (pl m)),.bool (pl m).isSome]) w:=by
 obtain ⟨D,ho,hM,hd⟩:=h
 obtain ⟨v,ps,hr,hv⟩:=ho.look_ok (int_keyed Try.underlying50) Try.underlying84 (z:= .int .i64 0) (by kernel_rfl) (plainElem_int Try.underlying3 (by decide)) (key32_ok m hm)
 have h2:=hd m hm
 obtain ⟨a,rfl,hc,_⟩:=plainElem_int_inv Try.underlying3 hv
 simp only [Prod.mk.injEq] at hc
 rw [hr]
 cases hp:pl m with
 | none=>
  rw [hp] at h2
  simp only at h2
  rw [Maps.has_false_of_atKey h2]
  have:=hc.1
  rw [h2] at this
  simp only [DataW.lit.injEq,Lit.int.injEq,true_and] at this
  rw [← this]
  rfl
 | some x=>
  rw [hp] at h2
  simp only at h2
  rw [Maps.has_true_of_atKey h2]
  have:=hc.1
  rw [h2] at this
  simp only [DataW.lit.injEq,Lit.int.injEq,true_and] at this
  rw [← this]
  rfl
theorem PlAt.put {w:World} {b n:Nat} {pl:Nat→Option Dc} (h:PlAt w b n pl) (hn:n < 1000) (x:Dc) (hm:x.mask < 64) (hi:x.idx < 1000):
 ∃w',(Instr.mapUpdate 84 (.map (some b)) (.int .u32 (x.mask:Int)) (.int .i64 (x.idx:Int))).run Try.prog w= .ok () w'∧PlAt w' b (n+1) (fun m=>if m=x.mask then some x else pl m)∧w.grownBy w' (some b):=by
 obtain ⟨D,ho,hM,hd⟩:=h
 obtain ⟨w',hr,ho',hg⟩:=ho.update (int_keyed Try.underlying50) Try.underlying84 (by unfold maxLen;omega) (key32_ok x.mask hm) (plainElem_int Try.underlying3 (wf_i64 (z:=(x.idx:Int)) (by omega) (by omega)))
 refine ⟨w',hr,⟨_,ho',hM.put _ _,fun m hm2=>?_⟩,hg⟩
 by_cases e:m=x.mask
 ·subst e
  simp only [if_pos rfl]
  intro z
  rw [Go.Maps.atKey_put_same hM (by trivial)]
 ·simp only [if_neg e]
  have h2:=hd m hm2
  have hne:(Lit.int .u32 (m:Int))≠Lit.int .u32 (x.mask:Int):=by intro g;injection g with _ g;exact e (by omega)
  cases hp:pl m with
  | none=>
   rw [hp] at h2
   intro z
   rw [Go.Maps.atKey_put_other hne]
   exact h2 z
  | some y=>
   rw [hp] at h2
   intro z
   rw [Go.Maps.atKey_put_other hne]
   exact h2 z
theorem PlAt.below {w w':World} {b n B:Nat} {pl:Nat→Option Dc} (h:PlAt w b n pl) (hb:Below B w w') (hlt:b < B):PlAt w' b n pl:=by
 obtain ⟨D,ho,hm,hd⟩:=h
 obtain ⟨es,clock,h1,h2⟩:=ho
 exact ⟨D,⟨es,clock,(hb.block b hlt).trans h1,h2⟩,hm,hd⟩
theorem PlAt.lt {w:World} {b n:Nat} {pl:Nat→Option Dc} (h:PlAt w b n pl):b < w.heap.size:=by
 obtain ⟨D,⟨es,clock,h1,_⟩,_⟩:=h
 exact lt_heap h1
theorem PlAt.blx {w w':World} {b n B g:Nat} {pl:Nat→Option Dc} (h:PlAt w b n pl) (hb:BlX B g w w') (hlt:b < B) (hne:b≠g):PlAt w' b n pl:=by
 obtain ⟨D,ho,hm,hd⟩:=h
 obtain ⟨es,clock,h1,h2⟩:=ho
 exact ⟨D,⟨es,clock,(hb.block b hlt hne).trans h1,h2⟩,hm,hd⟩
theorem Pl.placeP_succ {L:List Dc} {t k:Nat} {x:Dc} (h:L[k]? =some x):placeP (L.take (k+1)) t=plStep t (placeP (L.take k) t) x:=by
 rw [List.take_add_one,h]
 exact placeP_snoc _ _ _
def Pl.prB (L:List Dc) (t:Nat) (x:Dc):Bool:=decide (((placeP L t) x.mask).map (·.idx)=some x.idx)
theorem info_ints:(Try.prog.info? 22).map (fun i=>(i.zero,i.size,i.bytes))=some (some (.slice none 0 0),1,24):=by kernel_rfl
def znil (n:Nat):Array Value:=madeCells (Value.cells (.slice none 0 0)) (n * 1)
theorem znil_eq (n:Nat):znil n=(List.replicate n (Value.slice none 0 0)).toArray:=by
 unfold znil madeCells
 simp [Value.cells,Nat.mod_one]
 exact Array.ext (by simp) (by simp)
theorem make_ils (n:Int) (h0:0≤n) (hn:n≤1099511627776) (w:World):
 (Instr.makeSlice 35 (.int .i64 n) (.int .i64 n)).run Try.prog w= .ok (.slice (some ⟨w.heap.size,0,none⟩) n.toNat n.toNat) (w.alloc (.cells (znil n.toNat) 22)):=by
 obtain ⟨k,rfl⟩:=Int.eq_ofNat_of_zero_le h0
 obtain ⟨i0,hi,hz0,hz1,hz2⟩:=info_parts info_ints
 have hb:(i0.bytes:Int) * (k:Int)≤281474976710656:=by rw [hz2];omega
 have hr:=run_make (P:=Try.prog) w 35 22 i0 _ Try.underlying35 hi hz0 .i64 .i64 k k (by omega) (by omega) hb (by omega)
 simp only [Int.toNat_natCast,hz1] at hr
 exact hr
def LsAt (gl q n:Nat) (R:List Dc) (p:Nat) (w:World):Prop:=∃cs,Bk w gl 22 cs∧cs.length=q∧∀k,p≤k→k < q→∃A m c,cs[k]? =some (.slice A m c)∧IntsT w (.slice A m c) (leastP n (R.drop k))
theorem LsAt.ils {gl q n:Nat} {R:List Dc} {w:World} (h:LsAt gl q n R 0 w) (hq:q=R.length+1) (hq7:q≤7):IlsM w (.slice (some ⟨gl,0,none⟩) q q) (leastLL n R):=by
 obtain ⟨cs,h1,h2,h3⟩:=h
 have hl:(leastLL n R).length=q:=by simp [leastLL,hq]
 refine ⟨cs,⟨some ⟨gl,0,none⟩,q,by rw [hl],by rw [h2,hl];omega,by rw [hl];exact Nat.le_refl _,by unfold maxLen;omega,fun _=>⟨gl,0,_,_,rfl,h1,fun j u hj=>by simpa using hj⟩⟩,fun k x hk=>?_⟩
 have hkq:k < q:=by rw [← hl];exact (List.getElem?_eq_some_iff.1 hk).1
 rw [leastLL_at (by omega)] at hk
 injection hk with hk
 subst hk
 obtain ⟨A,m,c,g1,g2⟩:=h3 k (Nat.zero_le _) hkq
 refine ⟨[.slice A m c],⟨A,m,c,rfl,g2⟩,rfl,fun j y hj=>?_⟩
 have hj1:j < 1:=by have:=(List.getElem?_eq_some_iff.1 hj).1;simpa using this
 obtain rfl:j=0:=by omega
 simp only [List.getElem?_cons_zero,Option.some.injEq] at hj
 subst hj
 simpa using g1
theorem DcsM.elemOld {w w':World} {g:Nat} {t:TypeId} {A:Option Addr} {n c:Nat} {l:List Dc} {cs:List Value} (h:DcsM w (.slice A n c) l) (hx:BlX w.heap.size g w w') (hg:Bk w g t cs) (h1:t≠59) {k:Nat} {x:Dc} (hk:l[k]? =some x):
 ∃b off A1 n1 c1,A=some ⟨b,off,none⟩∧(w'.cell? ⟨b,off+k * 4,none⟩=some (.int .i64 (x.idx:Int))∧w'.cell? ⟨b,off+k * 4+1,none⟩=some (.int .u32 (x.mask:Int))∧w'.cell? ⟨b,off+k * 4+2,none⟩=some (.slice A1 n1 c1)∧w'.cell? ⟨b,off+k * 4+3,none⟩=some (.int .i64 x.sur))∧IntsT w (.slice A1 n1 c1) (iL x.rows):=by
 obtain ⟨us,r1,r2⟩:=h
 have h':RdM (fun _=>DcR w) 59 4 w' (.slice A n c) l:=⟨us,r1.blx hx (hg.not_type h1),r2⟩
 obtain ⟨b,off,u,hA,hlt,⟨A1,n1,c1,rfl,hD⟩,hl,hc⟩:=RdM.elem h' hk
 exact ⟨b,off,A1,n1,c1,hA,⟨hc 0 _ rfl,hc 1 _ rfl,hc 2 _ rfl,hc 3 _ rfl⟩,hD⟩
def PrepPost (g n t:Nat) (L:List Dc) (v0 v3 v4 v5 v6 v7 v8:Value) (w:World) (e:Ending) (w':World):Prop:=
 e= .returned (.tuple #[])∧∃Ac nc cc Al nl cl,Bk w' g 57 [v0,.slice Ac nc cc,.slice Al nl cl,v3,v4,v5,v6,v7,v8]∧DcsM w' (.slice Ac nc cc) (prepP L t)∧IlsM w' (.slice Al nl cl) (leastLL n (prepP L t))∧BlX w.heap.size g w w'
theorem prepare_own (g n t:Nat) (vC:Value) (L:List Dc) (v0 v3 v4 v5 v6 v7 v8:Value) (w:World) (hB:Bk w g 57 [v0,.slice none 0 0,.slice none 0 0,v3,v4,v5,v6,v7,v8]) (hC:DcsM w vC L) (hL:LsOK n L) (hbd:∀x∈L,x.mask < 64∧x.idx < 1000∧ -200≤x.sur∧x.sur≤200) (hl:L.length≤6) (hn:n≤6) (ht:t < 64):
 Calls Try.prog 17 #[.pointer (some ⟨g,0,none⟩),vC,.int .u32 (t:Int),.int .i64 (n:Int)] w (PrepPost g n t L v0 v3 v4 v5 v6 v7 v8 w):=by
 obtain ⟨A,c,rfl,hl2,hl3⟩:=RdM.shape hC
 obtain ⟨N,hN⟩:∃N,N=L.length:=⟨_,rfl⟩
 rw [← hN] at hC hl2 hl ⊢
 have HN:=Lib.hid hN
 have HC:=Lib.hid hC
 have HLS:=Lib.hid hL
 have HBD:=Lib.hid hbd
 have hgw:g < w.heap.size:=hB.lt
 have hmm:=@run_makeMap Try.prog
 have hpl:=PlAt.made w
 have hbm:=below_new w (.map #[] 0)
 clear hC hN hL hbd
 go_enter Try.func17,Try.ntmps17
 go_wp2
 clear hmm
 generalize w.alloc (.map #[] 0)=W1 at *
 go_loopw [25] (fun x wr=>∃k:Nat,k≤N∧x= .int .i64 k∧Below w.heap.size w wr∧PlAt wr w.heap.size k (placeP (L.take k) t)) (fun x _=>N - (intOf x).toNat)
 case atStart=>exact ⟨0,by omega,rfl,hbm,by simpa [placeP] using hpl⟩
 case round=>
  clear hbm hpl
  obtain ⟨k,hk,rfl,hb,hpl⟩:=hrel
  rcases Nat.lt_or_ge k N with hkl | hkl
  ·have hkz:(k:Int) < N:=by omega
   obtain ⟨x,hx⟩:∃x,L[k]? =some x:=⟨L[k]'(by rw [← HN.out];exact hkl),List.getElem?_eq_getElem _⟩
   obtain ⟨bx,ox,A1,n1,c1,hA1,_,⟨p0,p1,p2,p3⟩,hI⟩:=HC.out.elem hb hx
   subst hA1
   have HX:=Lib.hid hx
   obtain ⟨hm64,hi1000,hs0,hs1⟩:=HBD.out x (List.mem_of_getElem? hx)
   have hand:=u32_and (a:=x.mask) (b:=t) (by omega) (by omega)
   have HPS:=Lib.hid (placeP_succ (t:=t) hx)
   clear hx hI
   have hand':Hid (True):=Lib.hid trivial
   clear hand'
   by_cases hel:x.mask &&& t=0∧x.sur≤0
   ·obtain ⟨hz,hsu⟩:=hel
    have hz':(((x.mask &&& t:Nat):Int) !=0)=false:=by rw [hz];rfl
    have hsu':¬0 < x.sur:=by omega
    go_upto_region 5 with (fail)
    have hX0:=Bk.new wr 59 [.int .i64 (x.idx:Int),.int .u32 (x.mask:Int),.slice A1 n1 c1,.int .i64 x.sur]
    have hbw:=below_new wr (.cells #[.int .i64 (x.idx:Int),.int .u32 (x.mask:Int),.slice A1 n1 c1,.int .i64 x.sur] 59)
    have e:(#[.int .i64 (x.idx:Int),.int .u32 (x.mask:Int),.slice A1 n1 c1,.int .i64 x.sur]:Array Value)=[.int .i64 (x.idx:Int),.int .u32 (x.mask:Int),.slice A1 n1 c1,.int .i64 x.sur].toArray:=rfl
    rw [← e] at hX0
    clear e
    generalize wr.alloc (.cells #[.int .i64 (x.idx:Int),.int .u32 (x.mask:Int),.slice A1 n1 c1,.int .i64 x.sur] 59)=W at *
    have hpl2:=hpl.below hbw hpl.lt
    have hb2:=below_then hb hbw hb.size
    have hlk:=hpl2.look x.mask hm64
    have q1:=hX0.cellAt 1 rfl
    have q0:=hX0.cellAt 0 rfl
    have q3:=hX0.cellAt 3 rfl
    have HPL:=Lib.hid hpl2
    have HPO:=Lib.hid (place_ok (t:=t) (HLS.out.asc.sublist (List.take_sublist k L)))
    have hgr:w.heap.size < wr.heap.size:=hpl.lt
    clear hb hpl hbw p0 p1 p2 p3 hpl2
    generalize wr.heap.size=gx at *
    have upd:placeP (L.take (k+1)) t=(fun m=>if m=x.mask then some x else placeP (L.take k) t m)→∀w7:World,Below W.heap.size W w7→∃w',(Instr.mapUpdate 84 (.map (some w.heap.size)) (.int .u32 (x.mask:Int)) (.int .i64 (x.idx:Int))).run Try.prog w7= .ok () w'∧PlAt w' w.heap.size (k+1) (placeP (L.take (k+1)) t)∧Below w.heap.size w w':=fun e w7 h7=>by
     obtain ⟨w',h1,h2,h3⟩:=(HPL.out.below h7 HPL.out.lt).put (by omega) x hm64 hi1000
     exact ⟨w',h1,by rw [e];exact h2,(below_then hb2 h7 hb2.size).grown h3 (by have:=hb2.size;have:=h7.size;omega) (fun q hq=>by injection hq with hq;omega)⟩
    have UPD:=Lib.hid upd
    clear upd
    cases hpm:placeP (L.take k) t x.mask with
    | none=>
     rw [hpm] at hlk
     have HS:Hid (placeP (L.take (k+1)) t=fun m=>if m=x.mask then some x else placeP (L.take k) t m):=Lib.hid (by rw [HPS.out];unfold plStep;rw [if_pos ⟨hz,hsu⟩,hpm])
     simp only [plIdx,Option.isSome_none] at hlk
     clear hpm
     go_upto_region 6 with (fail)
     have hS0:=below_drew' W
     refine region_seq 12 [0,1,2,3,4,5,6,7,8,9,10,11] (by kernel_rfl) (by kernel_rfl) ?_
     repeat ((first | (refine seq_takeP (v:=?_) rfl rfl rfl ?_ ?_;rotate_left;(· (intro _ hSw;go_simp;(try go_bits);(try with_reducible rfl)))) | (refine seq_take (v:=?_) rfl rfl rfl ?_ ?_;rotate_left;(· (intro _ hSw;go_simp;(try go_bits);(try with_reducible rfl)))) | refine seq_skip rfl rfl rfl ?_ | refine seq_skipc rfl rfl rfl (by assumption) ?_);(try simp only [Act.put,pu1,pu2,pu3,pu4,pu5,pu6]))
     refine seq_done ?_
     obtain ⟨w7,hup,hp7,hb7⟩:=UPD.out HS.out W.drew hS0
     have Q1:=cell_keep hS0 q1
     have Q0:=cell_keep hS0 q0
     clear hlk q0 q1 q3 UPD HPL hb2 hX0
     generalize W.drew=W' at *
     go_wp2
     go_roundw
     case rel=>exact ⟨k+1,by omega,by go_num,hb7,hp7⟩
     case measure=>simp [intOf];omega
    | some y=>
     rw [hpm] at hlk
     simp only [plIdx,Option.isSome_some] at hlk
     obtain ⟨hyL,hym,_⟩:=HPO.out.1 x.mask y hpm
     have hyat:=HLS.out.at_ (List.mem_of_mem_take hyL)
     have hyl:y.idx < N:=by rw [HN.out];exact (List.getElem?_eq_some_iff.1 hyat).1
     have hyz:(y.idx:Int) < N:=by omega
     obtain ⟨by',oy,A2,n2,c2,hA2,_,⟨_,_,_,r3⟩,_⟩:=HC.out.elem (hb2) hyat
     injection hA2 with hA2
     injection hA2 with e1 e2 _
     subst e1 e2
     clear hyL hym hyat
     by_cases hcmp:x.sur < y.sur
     ·have HS:Hid (placeP (L.take (k+1)) t=fun m=>if m=x.mask then some x else placeP (L.take k) t m):=Lib.hid (by rw [HPS.out];unfold plStep;rw [if_pos ⟨hz,hsu⟩,hpm];simp only;rw [if_pos hcmp])
      have hd:decide (x.sur < y.sur)=true:=by simpa using hcmp
      clear hpm hcmp
      go_upto_region 6 with (fail)
      have C0:=stab r3
      have C1:=stab q3
      have hS0:=below_drew' W
      refine region_seq 12 [0,1,2,3,4,5,6,7,8,9,10,11] (by kernel_rfl) (by kernel_rfl) ?_
      repeat ((first | (refine seq_takeP (v:=?_) rfl rfl rfl ?_ ?_;rotate_left;(· (intro _ hSw;go_simp;(try go_bits);(try with_reducible rfl)))) | (refine seq_take (v:=?_) rfl rfl rfl ?_ ?_;rotate_left;(· (intro _ hSw;go_simp;(try go_bits);(try with_reducible rfl)))) | refine seq_skip rfl rfl rfl ?_ | refine seq_skipc rfl rfl rfl (by assumption) ?_);(try simp only [Act.put,pu1,pu2,pu3,pu4,pu5,pu6]))
      refine seq_done ?_
      obtain ⟨w7,hup,hp7,hb7⟩:=UPD.out HS.out W.drew hS0
      have Q1:=cell_keep hS0 q1
      have Q0:=cell_keep hS0 q0
      clear hlk q0 q1 q3 UPD HPL hb2 hX0 C0 C1 r3
      generalize W.drew=W' at *
      go_wp2
      go_roundw
      case rel=>exact ⟨k+1,by omega,by go_num,hb7,hp7⟩
      case measure=>simp [intOf];omega
     ·have HS:Hid (placeP (L.take (k+1)) t=placeP (L.take k) t):=Lib.hid (by rw [HPS.out];unfold plStep;rw [if_pos ⟨hz,hsu⟩,hpm];simp only;rw [if_neg hcmp])
      have hd:decide (x.sur < y.sur)=false:=by simpa using hcmp
      clear hpm hcmp
      go_upto_region 6 with (fail)
      have C0:=stab r3
      have C1:=stab q3
      have hS0:=below_drew' W
      refine region_seq 12 [0,1,2,3,4,5,6,7,8,9,10,11] (by kernel_rfl) (by kernel_rfl) ?_
      repeat ((first | (refine seq_takeP (v:=?_) rfl rfl rfl ?_ ?_;rotate_left;(· (intro _ hSw;go_simp;(try go_bits);(try with_reducible rfl)))) | (refine seq_take (v:=?_) rfl rfl rfl ?_ ?_;rotate_left;(· (intro _ hSw;go_simp;(try go_bits);(try with_reducible rfl)))) | refine seq_skip rfl rfl rfl ?_ | refine seq_skipc rfl rfl rfl (by assumption) ?_);(try simp only [Act.put,pu1,pu2,pu3,pu4,pu5,pu6]))
      refine seq_done ?_
      have HP7:Hid (PlAt W.drew w.heap.size (k+1) (placeP (L.take (k+1)) t)):=Lib.hid (by rw [HS.out];obtain ⟨D,h1,h2⟩:=HPL.out.below hS0 HPL.out.lt;exact ⟨D,h1.mono (by omega),h2⟩)
      have hb7:=below_then hb2 hS0 hb2.size
      clear hlk q0 q1 q3 UPD HPL hb2 hX0 C0 C1 r3
      generalize W.drew=W' at *
      go_wp2
      go_roundw
      case rel=>exact ⟨k+1,by omega,by go_num,hb7,HP7.out⟩
      case measure=>simp [intOf];omega
   ·have HS:Hid (placeP (L.take (k+1)) t=placeP (L.take k) t):=Lib.hid (by rw [HPS.out];unfold plStep;rw [if_neg hel])
    have hbw:=below_new wr (.cells #[.int .i64 (x.idx:Int),.int .u32 (x.mask:Int),.slice A1 n1 c1,.int .i64 x.sur] 59)
    have HP7:Hid (PlAt (wr.alloc (.cells #[.int .i64 (x.idx:Int),.int .u32 (x.mask:Int),.slice A1 n1 c1,.int .i64 x.sur] 59)) w.heap.size (k+1) (placeP (L.take (k+1)) t)):=Lib.hid (by rw [HS.out];obtain ⟨D,h1,h2⟩:=hpl.below hbw hpl.lt;exact ⟨D,h1.mono (by omega),h2⟩)
    have hb7:=below_then hb hbw hb.size
    clear hpl hbw hb
    by_cases hz:x.mask &&& t=0
    ·have hz':(((x.mask &&& t:Nat):Int) !=0)=false:=by rw [hz];rfl
     have hsu':0 < x.sur:=by
      rcases Int.lt_or_le 0 x.sur with h | h
      ·exact h
      ·exact absurd ⟨hz,h⟩ hel
     clear hel hz
     go_wp2
     go_roundw
     case rel=>exact ⟨k+1,by omega,by go_num,hb7,HP7.out⟩
     case measure=>simp [intOf];omega
    ·have hz':(((x.mask &&& t:Nat):Int) !=0)=true:=by simpa using hz
     clear hel hz
     go_wp2
     go_roundw
     case rel=>exact ⟨k+1,by omega,by go_num,hb7,HP7.out⟩
     case measure=>simp [intOf];omega
  ·obtain rfl:N=k:=by omega
   have HP2:Hid (PlAt wr w.heap.size N (placeP L t)):=Lib.hid (by rw [take_all HN.out] at hpl;exact hpl)
   have hB2:=hB.later hb
   have HC2:=Lib.hid (HC.out.below hb)
   have HB0:Hid (BlX w.heap.size g w wr):=Lib.hid (BlX.of_below hb)
   have hwr:w.heap.size < wr.heap.size:=hpl.lt
   have HGM:=Lib.hid (Nat.ne_of_gt hgw)
   have hgwr:g < wr.heap.size:=by omega
   clear hpl hb hB HC
   go_wp2
   generalize wr=W2 at *
   go_loopw [66] (fun x wr=>∃(k:Nat) (Ac:Option Addr) (nc cc:Nat),k≤N∧x= .int .i64 k∧BlX W2.heap.size g W2 wr∧Bk wr g 57 [v0,.slice Ac nc cc,.slice none 0 0,v3,v4,v5,v6,v7,v8]∧Hid (DcsO W2.heap.size wr (.slice Ac nc cc) ((L.take k).filter (prB L t)))) (fun x _=>N - (intOf x).toNat)
   case atStart=>exact ⟨0,none,0,0,by omega,rfl,BlX.refl _ _ _,hB2,Lib.hid (by rw [List.take_zero];exact RdO.nil _ _ _ _)⟩
   case round=>
    obtain ⟨k,Ac,nc,cc,hk,rfl,hX,hB3,HO⟩:=hrel
    rcases Nat.lt_or_ge k N with hkl | hkl
    ·have hkz:(k:Int) < N:=by omega
     obtain ⟨x,hx⟩:∃x,L[k]? =some x:=⟨L[k]'(by rw [← HN.out];exact hkl),List.getElem?_eq_getElem _⟩
     obtain ⟨bx,ox,A1,n1,c1,hA1,_,⟨p0,p1,p2,p3⟩,hI⟩:=(HC2.out.blx hX hB2 (by decide) (by decide)).elem (Below.refl _ _) hx
     subst hA1
     obtain ⟨hm64,hi1000,hs0,hs1⟩:=HBD.out x (List.mem_of_getElem? hx)
     have HFT:=Lib.hid (filter_take (p:=prB L t) hx)
     clear hx
     go_upto_region 12 with (fail)
     have hX0:=Bk.new wr 59 [.int .i64 (x.idx:Int),.int .u32 (x.mask:Int),.slice A1 n1 c1,.int .i64 x.sur]
     have hbw:=below_new wr (.cells #[.int .i64 (x.idx:Int),.int .u32 (x.mask:Int),.slice A1 n1 c1,.int .i64 x.sur] 59)
     have e:(#[.int .i64 (x.idx:Int),.int .u32 (x.mask:Int),.slice A1 n1 c1,.int .i64 x.sur]:Array Value)=[.int .i64 (x.idx:Int),.int .u32 (x.mask:Int),.slice A1 n1 c1,.int .i64 x.sur].toArray:=rfl
     rw [← e] at hX0
     clear e
     generalize wr.alloc (.cells #[.int .i64 (x.idx:Int),.int .u32 (x.mask:Int),.slice A1 n1 c1,.int .i64 x.sur] 59)=W at *
     have hX4:=hX.then hbw hX.size
     have hB4:=hB3.later hbw
     have HO4:Hid (DcsO W2.heap.size W (.slice Ac nc cc) ((L.take k).filter (prB L t))):=Lib.hid (HO.out.below hbw)
     have HI4:=Lib.hid (hI.below hbw)
     have hlk:=(HP2.out.blx hX4 hwr HGM.out).look x.mask hm64
     have hgx:wr.heap.size < W.heap.size:=hX0.lt
     have hwx:W2.heap.size≤wr.heap.size:=hX.size
     clear hX hB3 HO hI hbw p0 p1 p2 p3
     generalize wr.heap.size=gx at *
     obtain ⟨q0,q1,q2,q3⟩:=hX0.four
     have hcase:(prB L t x=true∧(plIdx (placeP L t x.mask)=(x.idx:Int))∧(placeP L t x.mask).isSome=true)∨(prB L t x=false∧((placeP L t x.mask).isSome=false∨((placeP L t x.mask).isSome=true∧(plIdx (placeP L t x.mask)==(x.idx:Int))=false))):=by
      unfold prB
      cases placeP L t x.mask with
      | none=>exact .inr ⟨by simp,.inl rfl⟩
      | some y=>
       by_cases e:y.idx=x.idx
       ·exact .inl ⟨by simp [e],by simp [plIdx,e],rfl⟩
       ·exact .inr ⟨by simp [e],.inr ⟨rfl,by simp [plIdx];omega⟩⟩
     generalize plIdx (placeP L t x.mask)=pi at *
     generalize (placeP L t x.mask).isSome=ps at *
     rcases hcase with ⟨hp,rfl,rfl⟩ | ⟨hp,hcase⟩
     ·have HE:Hid ((L.take (k+1)).filter (prB L t)=(L.take k).filter (prB L t)++[x]):=Lib.hid (by rw [HFT.out,hp];rfl)
      clear hp
      go_upto_region 14 with (fail)
      obtain ⟨x0,x1,x2,x3,x4,x5,x6,x7,x8⟩:=hB4.nine
      have C0:=stab x1
      have D0:=stab q0
      have D1:=stab q1
      have D2:=stab q2
      have D3:=stab q3
      have hS0:=below_drew' W
      have hlen:((L.take k).filter (prB L t)).length+1≤1099511627776:=by
       have h1:=List.length_filter_le (prB L t) (L.take k)
       have h2:=List.length_take_le k L
       omega
      clear x0 x1 x2 x3 x4 x5 x6 x7 x8 q0 q1 q2 q3
      refine region_seq 7 [0,1,2,3,4,5,6,7,8,9,10] (by kernel_rfl) (by kernel_rfl) ?_
      repeat ((first | (refine seq_takeP (v:=?_) rfl rfl rfl ?_ ?_;rotate_left;(· (intro _ hSw;go_simp;(try go_bits);(try with_reducible rfl)))) | (refine seq_take (v:=?_) rfl rfl rfl ?_ ?_;rotate_left;(· (intro _ hSw;go_simp;(try go_bits);(try with_reducible rfl)))) | refine seq_skip rfl rfl rfl ?_);(try simp only [Act.put,pu1,pu2,pu3,pu4,pu5,pu6]))
      refine seq_step rfl rfl (fun KR hKR=>?_)
      go_simp
      refine hKR.out _ _ (Or.inr (below_then hS0 (below_new _ _) hS0.size)) ?_
      clear hKR KR
      (try simp only [Act.put,pu1,pu2,pu3,pu4,pu5,pu6])
      obtain ⟨v11,w11,hrun,hro,hrk,hrb,hot,hor2⟩:=run_append_dcol 48 W.drew W2.heap.size (.slice Ac nc cc) _ x A1 n1 c1 (HO4.out.below hS0) (HI4.out.below hS0) hlen (by have:=hS0.size;omega)
      obtain ⟨A11,n11,c11,rfl⟩:=RdO.sliceN hro
      refine seq_step rfl rfl (fun KR hKR=>?_)
      refine op_append_run _ _ rfl rfl rfl rfl hrun ?_
      refine hKR.out _ _ (Or.inl (by decide)) ?_
      clear hKR KR
      (try simp only [Act.put,pu1,pu2,pu3,pu4,pu5,pu6])
      have hB11:=hrk.bk (hB4.later hS0) (by decide)
      obtain ⟨x0,x1,x2,x3,x4,x5,x6,x7,x8⟩:=hB11.nine
      have f1:=hB11.frozen 1
      refine seq_step rfl rfl (fun KR hKR=>?_)
      go_simp
      refine hKR.out _ _ (Or.inl (by decide)) ?_
      clear hKR KR
      (try simp only [Act.put,pu1,pu2,pu3,pu4,pu5,pu6])
      refine seq_step rfl rfl (fun KR hKR=>?_)
      go_simp
      refine hKR.out _ _ (Or.inl (by decide)) ?_
      clear hKR KR
      (try simp only [Act.put,pu1,pu2,pu3,pu4,pu5,pu6])
      refine seq_step rfl rfl (fun KR hKR=>?_)
      go_simp
      refine hKR.out _ _ (Or.inl (by decide)) ?_
      clear hKR KR
      (try simp only [Act.put,pu1,pu2,pu3,pu4,pu5,pu6])
      refine seq_done ?_
      have kk:=KeepBut.setCell hB11 1 (.slice A11 n11 c11)
      have hB12:=hB11.set_ 1 (.slice A11 n11 c11)
      simp only [List.set_cons_succ,List.set_cons_zero] at hB12
      have HO12:Hid (DcsO W2.heap.size (w11.setCell ⟨g,1,none⟩ (.slice A11 n11 c11)) (.slice A11 n11 c11) ((L.take k).filter (prB L t)++[x])):=Lib.hid (RdO.keep hro kk (by decide) fun _ _ h=>h.but kk (by decide))
      have hX12:=((hX4.then hS0 hX4.size).trans (BlX.of_below hrb)).setCell 1 (.slice A11 n11 c11)
      clear kk hB11 hrun hro hrk hrb hot hor2 hB4 hX4 HO4 hS0 C0 D0 D1 D2 D3 x0 x1 x2 x3 x4 x5 x6 x7 x8 f1 hlk hX0
      generalize w11.setCell ⟨g,1,none⟩ (.slice A11 n11 c11)=w12 at *
      go_wp2
      go_roundw
      case rel=>exact ⟨k+1,_,_,_,by omega,by go_num,hX12,hB12,by rw [HE.out];exact HO12⟩
      case measure=>simp [intOf];omega
     ·have HE:Hid ((L.take (k+1)).filter (prB L t)=(L.take k).filter (prB L t)):=Lib.hid (by rw [HFT.out,hp];simp)
      clear hp
      rcases hcase with rfl | ⟨rfl,hne⟩
      ·go_wp2
       go_roundw
       case rel=>exact ⟨k+1,Ac,nc,cc,by omega,by go_num,hX4,hB4,by rw [HE.out];exact HO4⟩
       case measure=>simp [intOf];omega
      ·go_wp2
       go_roundw
       case rel=>exact ⟨k+1,Ac,nc,cc,by omega,by go_num,hX4,hB4,by rw [HE.out];exact HO4⟩
       case measure=>simp [intOf];omega
    ·obtain rfl:N=k:=by omega
     have HO3:Hid (DcsM wr (.slice Ac nc cc) (prepP L t)):=Lib.hid (by have:=HO.out;rw [take_all HN.out] at this;exact RdO.rd this)
     have hX3:=HB0.out.trans (hX.mono (Nat.le_of_lt hwr |> fun h=>Nat.le_of_lt hwr))
     have hnc:=(RdM.len HO3.out).1
     have hp6:nc≤6:=by
      have h1:(prepP L t).length≤L.length:=List.length_filter_le _ _
      have h2:=HN.out
      omega
     have HNC:=Lib.hid hnc
     have HPB:Hid (∀x∈prepP L t,x.mask < 64∧x.idx < 1000∧ -200≤x.sur∧x.sur≤200):=Lib.hid (fun x hx=>HBD.out x (List.mem_filter.1 hx).1)
     have HPO:Hid (∀x∈prepP L t,DcOK n x):=Lib.hid (fun x hx=>HLS.out.ok x (List.mem_filter.1 hx).1)
     clear hX hnc HO HP2 HC2 hB2 HB0 hwr HGM
     generalize hR:prepP L t=R at *
     have HR:=Lib.hid hR
     clear hR
     generalize wr=W3 at *
     have hms:=make_ils ((nc:Int)+1) (by omega) (by omega) W3
     obtain ⟨q,hq⟩:∃q,q=nc+1:=⟨_,rfl⟩
     have e1:((nc:Int)+1).toNat=q:=by omega
     rw [e1] at hms
     clear e1
     have HQ:=Lib.hid hq
     have m2:(nc:Int) < q:=by omega
     have hq7:q≤7:=by omega
     clear hq
     have f2:=hB3.frozen 2
     have hg3:g < W3.heap.size:=hB3.lt
     obtain ⟨x0,x1,x2,x3,x4,x5,x6,x7,x8⟩:=hB3.nine
     go_upto_region 17 with (fail)
     have kk:=KeepBut.setCell hB3 2 (.slice (some ⟨W3.heap.size,0,none⟩) q q)
     have hB4:=hB3.set_ 2 (.slice (some ⟨W3.heap.size,0,none⟩) q q)
     simp only [List.set_cons_succ,List.set_cons_zero] at hB4
     have hbm:=below_new (W3.setCell ⟨g,2,none⟩ (.slice (some ⟨W3.heap.size,0,none⟩) q q)) (.cells (znil q) 22)
     have hGL5:=Bk.new (W3.setCell ⟨g,2,none⟩ (.slice (some ⟨W3.heap.size,0,none⟩) q q)) 22 (List.replicate q (.slice none 0 0))
     rw [← znil_eq] at hGL5
     have hsz:(W3.setCell ⟨g,2,none⟩ (.slice (some ⟨W3.heap.size,0,none⟩) q q)).heap.size=W3.heap.size:=by simp
     rw [hsz] at hGL5
     have hB5:=hB4.later hbm
     have hX4:=hX3.setCell 2 (.slice (some ⟨W3.heap.size,0,none⟩) q q)
     have hX5:=hX4.then hbm hX4.size
     have HO4:Hid (DcsM (W3.setCell ⟨g,2,none⟩ (.slice (some ⟨W3.heap.size,0,none⟩) q q)) (.slice Ac nc cc) R):=Lib.hid (RdM.keep HO3.out kk (by decide) fun _ _ h=>h.but kk (by decide))
     have HO5:=Lib.hid (HO4.out.below hbm)
     have hgl5:W3.heap.size < ((W3.setCell ⟨g,2,none⟩ (.slice (some ⟨W3.heap.size,0,none⟩) q q)).alloc (.cells (znil q) 22)).heap.size:=by simp
     have hgw3:w.heap.size≤W3.heap.size:=hX3.size
     clear kk hbm hB4 hms x0 x1 x2 x3 x4 x5 x6 x7 x8 f2 hB3 hX3 HO3 hX4 HO4 hsz
     generalize (W3.setCell ⟨g,2,none⟩ (.slice (some ⟨W3.heap.size,0,none⟩) q q)).alloc (.cells (znil q) 22)=W5 at *
     generalize W3.heap.size=gl at *
     obtain ⟨x0,x1,x2,x3,x4,x5,x6,x7,x8⟩:=hB5.nine
     have C1:=stab x1
     have C2:=stab x2
     have hS0:=below_drew' W5
     have hmi:=make_ints n (by omega) W5.drew
     have m1:(0:Int)≤(nc:Int):=by omega
     clear x0 x1 x2 x3 x4 x5 x6 x7 x8
     have hbm:=below_then (below_new W5 (.cells (zic n) 3)) (below_drew' (W5.alloc (.cells (zic n) 3))) (below_new W5 (.cells (zic n) 3)).size
     have hGL6:=hGL5.later hbm
     have f1:=hGL6.frozen nc
     have g1:=hGL6.cellAt nc (v:= .slice none 0 0) (by rw [List.getElem?_replicate,if_pos (by omega)])
     refine region_seq 12 [0,1,2,3,4,5,6,7,8,9,10,11,12] (by kernel_rfl) (by kernel_rfl) ?_
     repeat ((first | (refine seq_takeP (v:=?_) rfl rfl rfl ?_ ?_;rotate_left;(· (intro _ hSw;go_simp;(try go_bits);(try with_reducible rfl)))) | (refine seq_take (v:=?_) rfl rfl rfl ?_ ?_;rotate_left;(· (intro _ hSw;go_simp;(try go_bits);(try with_reducible rfl)))) | refine seq_skip rfl rfl rfl ?_);(try simp only [Act.put,pu1,pu2,pu3,pu4,pu5,pu6]))
     refine seq_step rfl rfl (fun KR hKR=>?_)
     go_simp
     refine hKR.out _ _ (Or.inr hbm) ?_
     clear hKR KR
     (try simp only [Act.put,pu1,pu2,pu3,pu4,pu5,pu6])
     repeat ((first | (refine seq_takeP (v:=?_) rfl rfl rfl ?_ ?_;rotate_left;(· (intro _ hSw;go_simp;(try go_bits);(try with_reducible rfl)))) | (refine seq_take (v:=?_) rfl rfl rfl ?_ ?_;rotate_left;(· (intro _ hSw;go_simp;(try go_bits);(try with_reducible rfl)))) | refine seq_skip rfl rfl rfl ?_);(try simp only [Act.put,pu1,pu2,pu3,pu4,pu5,pu6]))
     refine seq_step rfl rfl (fun KR hKR=>?_)
     go_simp
     refine hKR.out _ _ (Or.inl (by decide)) ?_
     clear hKR KR
     (try simp only [Act.put,pu1,pu2,pu3,pu4,pu5,pu6])
     refine seq_done ?_
     clear f1 g1 hGL6 hbm C1 C2 hmi hS0
     have kk:=KeepBut.setCell hGL5 nc (.slice (some ⟨W5.heap.size,0,none⟩) n n)
     have hsz:(W5.setCell ⟨gl,nc,none⟩ (.slice (some ⟨W5.heap.size,0,none⟩) n n)).heap.size=W5.heap.size:=by simp
     have hbm:=below_then (below_new (W5.setCell ⟨gl,nc,none⟩ (.slice (some ⟨W5.heap.size,0,none⟩) n n)) (.cells (zic n) 3)) (below_drew' _) (below_new (W5.setCell ⟨gl,nc,none⟩ (.slice (some ⟨W5.heap.size,0,none⟩) n n)) (.cells (zic n) 3)).size
     have HZ0:=(IntsO.zeros (W5.setCell ⟨gl,nc,none⟩ (.slice (some ⟨W5.heap.size,0,none⟩) n n)) n (by unfold maxLen;omega)).typed.below (below_drew' _)
     rw [hsz] at HZ0
     have hB6:=(kk.bk hB5 (by decide)).later hbm
     have hGL6:=(hGL5.set_ nc (.slice (some ⟨W5.heap.size,0,none⟩) n n)).later hbm
     have HO6:Hid (DcsM (W5.setCell ⟨gl,nc,none⟩ (.slice (some ⟨W5.heap.size,0,none⟩) n n)) (.slice Ac nc cc) R):=Lib.hid (RdM.keep HO5.out kk (by decide) fun _ _ h=>h.but kk (by decide))
     have HO7:=Lib.hid (HO6.out.below hbm)
     have hX6:BlX w.heap.size g w (W5.setCell ⟨gl,nc,none⟩ (.slice (some ⟨W5.heap.size,0,none⟩) n n)):=hX5.trans (BlX.of_below ((Below.refl _ _).setCell (p:=⟨gl,nc,none⟩) hgw3 _))
     have hX7:=hX6.then hbm hX6.size
     have HLS7:Hid (LsAt gl q n R nc (((W5.setCell ⟨gl,nc,none⟩ (.slice (some ⟨W5.heap.size,0,none⟩) n n)).alloc (.cells (zic n) 3)).drew)):=Lib.hid ⟨_,hGL6,by simp,fun k h1 h2=>by
      obtain rfl:k=nc:=by have:=HQ.out;omega
      refine ⟨_,_,_,List.getElem?_set_self (by simp;omega),?_⟩
      have e:leastP n (R.drop k)=List.replicate n 0:=by rw [List.drop_eq_nil_of_le (by have:=HNC.out;omega)];rfl
      rw [e];exact HZ0⟩
     clear kk hbm HZ0 hGL6 HO6 hX6 hGL5 hB5 HO5 hX5 hsz
     generalize ((W5.setCell ⟨gl,nc,none⟩ (.slice (some ⟨W5.heap.size,0,none⟩) n n)).alloc (.cells (zic n) 3)).drew=W6 at *
     have hgl6:g≠gl:=by omega
     obtain ⟨x0,x1,x2,x3,x4,x5,x6,x7,x8⟩:=hB6.nine
     go_wp2
     clear x0 x1 x2 x3 x4 x5 x6 x7 x8
     obtain ⟨cs6,hGW,_,_⟩:=id HLS7.out
     have hW6:=hGW.lt
     have HGW:=Lib.hid hGW
     clear hGW
     go_loopw [17] (fun s17 wr=>∃(p:Nat) (z:Int),p≤nc∧z+1=p∧s17= .int .i64 z∧BlX W6.heap.size gl W6 wr∧Hid (LsAt gl q n R p wr)) (fun s17 _=>(intOf s17+1).toNat)
     case atStart=>exact ⟨nc,_,Nat.le_refl _,by omega,rfl,BlX.refl _ _ _,HLS7⟩
     case round=>
      clear HLS7
      obtain ⟨p,z,hp,hz,rfl,hX,HLS⟩:=hrel
      have hBr:=hX.bk hB6 hB6.lt hgl6
      obtain ⟨x0,x1,x2,x3,x4,x5,x6,x7,x8⟩:=hBr.nine
      have HCF:Hid (DcsM wr (.slice Ac nc cc) R):=Lib.hid (HO7.out.blx hX HGW.out (by decide) (by decide))
      rcases Nat.eq_zero_or_pos p with hp0 | hp0
      ·obtain rfl:z= -1:=by omega
       have HF:Hid (IlsM wr (.slice (some ⟨gl,0,none⟩) q q) (leastLL n R)):=Lib.hid (LsAt.ils (by have:=HLS.out;rw [hp0] at this;exact this) (by rw [← HNC.out];exact HQ.out) hq7)
       have hXF:=hX7.trans (BlX.of_below (hX.below (by have:=hX7.size;omega) (by omega)))
       clear hp0 hz
       go_wp2
       go_end0
       exact ⟨rfl,Ac,nc,cc,_,_,_,hBr,by rw [HR.out];exact HCF.out,by rw [HR.out];exact HF.out,hXF⟩
      ·obtain ⟨i,rfl⟩:∃i,p=i+1:=⟨p - 1,by omega⟩
       obtain rfl:z=(i:Int):=by omega
       obtain ⟨cs,hGL,hcl,hrows⟩:=HLS.out
       obtain ⟨Ar,mr,cr,hcr,hIr⟩:=hrows (i+1) (Nat.le_refl _) (by have:=HQ.out;omega)
       obtain ⟨vi,hvi⟩:∃v,cs[i]? =some v:=⟨_,List.getElem?_eq_getElem (by have:=HQ.out;omega)⟩
       have g1:=hGL.cellAt (i+1) hcr
       have g0:=hGL.cellAt i hvi
       have i0:(0:Int)≤(i:Int):=by omega
       have i1:(i:Int) < q:=by have:=HQ.out;omega
       have i2:(i:Int)+1 < q:=by have:=HQ.out;omega
       have i3:(0:Int)≤(i:Int)+1:=by omega
       have i4:(i:Int) < nc:=by omega
       have HGL:=Lib.hid (And.intro hcl hrows)
       have HIR:=Lib.hid hIr.ints
       have C1:=stab g1
       have C2:=stab x2
       have hS0:=below_drew' wr
       clear hz hcr hvi hcl hrows hIr
       go_upto_region 21 with (fail)
       clear x0 x1 x2 x3 x4 x5 x6 x7 x8 g1
       refine region_seq 15 [0,1,2,3,4,5,6,7,8,9,10,11,12,13,14,15] (by kernel_rfl) (by kernel_rfl) ?_
       repeat ((first | (refine seq_takeP (v:=?_) rfl rfl rfl ?_ ?_;rotate_left;(· (intro _ hSw;go_simp;(try go_bits);(try with_reducible rfl)))) | (refine seq_take (v:=?_) rfl rfl rfl ?_ ?_;rotate_left;(· (intro _ hSw;go_simp;(try go_bits);(try with_reducible rfl)))) | refine seq_skip rfl rfl rfl ?_);(try simp only [Act.put,pu1,pu2,pu3,pu4,pu5,pu6]))
       refine seq_step rfl rfl (fun KR hKR=>?_)
       go_simp
       with_reducible refine (clone_own _ (leastP n (R.drop (i+1))) _ (HIR.out.below hS0) (by rw [leastP_len];omega)).mono ?_
       rintro _ w4 ⟨v4,rfl,e4,hb4⟩
       obtain ⟨A4,n4,c4,rfl⟩:=e4.sliceN
       have hS4:=below_then hS0 hb4 hS0.size
       refine hKR.out _ _ (Or.inr hS4) ?_
       clear hKR KR
       (try simp only [Act.put,pu1,pu2,pu3,pu4,pu5,pu6])
       have hGL4:=hGL.later hS4
       have f1:=hGL4.frozen i
       have g2:=cell_keep hS4 g0
       repeat ((first | (refine seq_takeP (v:=?_) rfl rfl rfl ?_ ?_;rotate_left;(· (intro _ hSw;go_simp;(try go_bits);(try with_reducible rfl)))) | (refine seq_take (v:=?_) rfl rfl rfl ?_ ?_;rotate_left;(· (intro _ hSw;go_simp;(try go_bits);(try with_reducible rfl)))) | refine seq_skip rfl rfl rfl ?_);(try simp only [Act.put,pu1,pu2,pu3,pu4,pu5,pu6]))
       refine seq_step rfl rfl (fun KR hKR=>?_)
       go_simp
       refine hKR.out _ _ (Or.inl (by decide)) ?_
       clear hKR KR
       (try simp only [Act.put,pu1,pu2,pu3,pu4,pu5,pu6])
       refine seq_done ?_
       have hsb:wr.heap.size≤wr.drew.heap.size:=hS0.size
       have hsb4:wr.drew.heap.size≤w4.heap.size:=hb4.size
       have kk:=KeepBut.setCell hGL4 i (.slice A4 n4 c4)
       have hB5:=kk.bk (hBr.later hS4) (by decide)
       have hGL5:=hGL4.set_ i (.slice A4 n4 c4)
       have he5:=e4.but kk (by decide)
       have hX5:=(hX.then hS4 hX.size).setCell i (.slice A4 n4 c4)
       have hY5:BlX wr.heap.size gl wr (w4.setCell ⟨gl,i,none⟩ (.slice A4 n4 c4)):=(BlX.of_below hS4).setCell i (.slice A4 n4 c4)
       have hsz5:wr.drew.heap.size≤(w4.setCell ⟨gl,i,none⟩ (.slice A4 n4 c4)).heap.size:=by simpa using hsb4
       have HGR:=Lib.hid hGL
       have HBI:Hid (W6.heap.size≤wr.drew.heap.size):=Lib.hid (Nat.le_trans hX.size hsb)
       clear kk hBr hGL4 f1 g2 e4 hb4 hS4 hS0 C1 C2 hsb4 hX hGL g0
       generalize w4.setCell ⟨gl,i,none⟩ (.slice A4 n4 c4)=w5 at *
       generalize wr.drew.heap.size=bI at *
       have HE5:=Lib.hid he5
       clear he5
       obtain ⟨x,hx⟩:∃x,R[i]? =some x:=⟨R[i]'(by rw [← HNC.out];omega),List.getElem?_eq_getElem _⟩
       obtain ⟨bx,ox,A1,n1,c1,hA1,⟨p0,p1,p2,p3⟩,hI⟩:=HCF.out.elemOld hY5 HGR.out (by decide) hx
       subst hA1
       have HIR2:=Lib.hid hI
       have hn1:=hI.ints.lenE
       have HXM:=Lib.hid (List.mem_of_getElem? hx)
       have HDR:Hid (R.drop i=x::R.drop (i+1)):=Lib.hid (drop_at hx)
       have HOKX:=Lib.hid (HPO.out x HXM.out)
       obtain ⟨_,_,hs0,hs1⟩:=HPB.out x HXM.out
       have hnn:n1=x.rows.length:=by rw [hn1];simp [iL]
       have hn1p:1≤n1:=by have:=List.length_pos_iff.2 HOKX.out.ne;omega
       have hn16:n1≤6:=by
        have h1:=nodup_sub_len (b:=List.range n) HOKX.out.nd (fun r hr=>List.mem_range.2 (HOKX.out.rg r hr))
        rw [List.length_range] at h1
        omega
       have HNN:=Lib.hid hnn
       have HSH:Hid (x.sur / (n1:Int)=shareP x):=Lib.hid (by unfold shareP;rw [hnn])
       obtain ⟨x0,x1,x2,x3,x4,x5,x6,x7,x8⟩:=hB5.nine
       clear hx hI hn1 hnn HXM
       go_wp2_with fail
       have hX0:=Bk.new w5 59 [.int .i64 (x.idx:Int),.int .u32 (x.mask:Int),.slice A1 n1 c1,.int .i64 x.sur]
       have hbw:=below_new w5 (.cells #[.int .i64 (x.idx:Int),.int .u32 (x.mask:Int),.slice A1 n1 c1,.int .i64 x.sur] 59)
       have e:(#[.int .i64 (x.idx:Int),.int .u32 (x.mask:Int),.slice A1 n1 c1,.int .i64 x.sur]:Array Value)=[.int .i64 (x.idx:Int),.int .u32 (x.mask:Int),.slice A1 n1 c1,.int .i64 x.sur].toArray:=rfl
       rw [← e] at hX0
       clear e
       generalize w5.alloc (.cells #[.int .i64 (x.idx:Int),.int .u32 (x.mask:Int),.slice A1 n1 c1,.int .i64 x.sur] 59)=W7 at *
       refine (floorDiv_any x.sur n1 _ hn1p (by omega) (by omega) (by omega)).mono ?_
       rintro _ W8 ⟨rfl,rfl⟩
       have hB7:=hB5.later hbw
       have hGL7:=hGL5.later hbw
       have hX7b:=hX5.then hbw hX5.size
       have hY7:=hY5.then hbw hY5.size
       have HE7:=Lib.hid (HE5.out.below hbw)
       have hsz7:bI≤W8.heap.size:=Nat.le_trans hsz5 hbw.size
       clear x0 x1 x2 x3 x4 x5 x6 x7 x8 p0 p1 p2 p3 hB5 hGL5 hX5 hY5 HE5 hbw
       generalize x.sur / (n1:Int)=sh at *
       have q2:=hX0.cellAt 2 rfl
       go_wp2
       clear q2
       have hsl: -1000≤sh∧sh≤1000:=by
        have h1:=share_lo hs0
        have h2:=HSH.out
        have h3:shareP x≤1000:=by
         have e:shareP x=x.sur / (x.rows.length:Int):=rfl
         rw [e,← HNN.out]
         refine Int.le_trans (Int.ediv_le_ediv (by omega) hs1) ?_
         exact Int.le_trans (Int.ediv_le_self _ (by omega)) (by omega)
        omega
       obtain ⟨sl0,sl1⟩:=hsl
       have hL0:=least_bd (n:=n) (l:=R.drop (i+1)) fun y hy=>(HPB.out y (List.mem_of_mem_drop hy)).2.2.1
       have HL0:=Lib.hid hL0
       clear hL0
       generalize wr=wo at *
       go_loopw [158] (fun s158 wx=>∃j:Nat,j≤n1∧s158= .int .i64 j∧KeepBut 3 W8 wx∧Below bI W8 wx∧Hid (IntsO bI wx (.slice A4 n4 c4) ((x.rows.take j).foldl (fun a r=>minAt a r (shareP x)) (leastP n (R.drop (i+1)))))) (fun s158 _=>n1 - (intOf s158).toNat)
       case atStart=>exact ⟨0,by omega,rfl,KeepBut.refl _ _,Below.refl _ _,Lib.hid (by simpa using HE7.out)⟩
       case round=>
        clear HE7
        obtain ⟨j,hj,rfl,hkw,hbI,HE⟩:=hrel
        have hYx:BlX wo.heap.size gl wo wr:=hY7.trans (BlX.of_below (hbI.mono hsb))
        have hBx:=hkw.bk hB7 (by decide)
        have hGLx:=hkw.bk hGL7 (by decide)
        have hXx:=hkw.bk hX0 (by decide)
        have HIx:=Lib.hid (HIR2.out.blx hYx HGR.out (by decide))
        rcases Nat.lt_or_ge j n1 with hjl | hjl
        ·have hjz:(j:Int) < n1:=by omega
         obtain ⟨r,hr⟩:∃r,x.rows[j]? =some r:=⟨x.rows[j]'(by rw [← HNN.out];exact hjl),List.getElem?_eq_getElem _⟩
         have hri:(iL x.rows)[j]? =some (r:Int):=by unfold iL;rw [List.getElem?_map,hr];rfl
         obtain ⟨b4,o4,rz,hA4,hcell,hrz,_,_⟩:=HIx.out.ints.elem (Below.refl _ _) hjl
         subst hA4
         rw [hri] at hrz
         injection hrz with hrz
         subst hrz
         have hrn:=HOKX.out.rg r (List.mem_of_getElem? hr)
         have HRT:Hid ((x.rows.take (j+1)).foldl (fun a r=>minAt a r (shareP x)) (leastP n (R.drop (i+1)))=minAt ((x.rows.take j).foldl (fun a r=>minAt a r (shareP x)) (leastP n (R.drop (i+1)))) r (shareP x)):=Lib.hid (by rw [List.take_add_one,hr,List.foldl_append];rfl)
         have HLN:Hid (((x.rows.take j).foldl (fun a r=>minAt a r (shareP x)) (leastP n (R.drop (i+1)))).length=n):=Lib.hid (by
          have:∀(rows:List Nat) (a:List Int),(rows.foldl (fun a r=>minAt a r (shareP x)) a).length=a.length:=by
           intro rows
           induction rows with
           | nil=>intro a;rfl
           | cons r rows ih2=>intro a;rw [List.foldl_cons,ih2,minAt_length]
          rw [this,leastP_len])
         generalize (x.rows.take j).foldl (fun a r=>minAt a r (shareP x)) (leastP n (R.drop (i+1)))=ZL at *
         obtain ⟨gb,c4',hvs,hgb,_,_,_⟩:=HE.out.shape (by rw [HLN.out];omega)
         have hn4:n4=n:=by rw [HE.out.len];exact HLN.out
         injection hvs with hvs hx1 hx2
         subst hvs
         clear hx1 hx2
         have HEI:=HE.out
         obtain ⟨zc,hzc⟩:∃z,ZL[r]? =some z:=⟨ZL[r]'(by rw [HLN.out];exact hrn),List.getElem?_eq_getElem _⟩
         obtain ⟨y1,y2,y3,y4⟩:=HEI.at_ hzc
         have hri2:(r:Int) < n4:=by rw [hn4];omega
         have g1:=hGLx.cellAt i (List.getElem?_set_self (by have:=HGL.out.1;omega))
         obtain ⟨x0,x1,x2,x3,x4,x5,x6,x7,x8⟩:=hBx.nine
         have hmn:Hid (ZL.getD r 0=zc):=Lib.hid (by rw [List.getD_eq_getElem?_getD,hzc];rfl)
         clear hr hri hzc hn4
         go_upto_region 27 with (fail)
         have C0:=stab x2
         have C1:=stab g1
         have C2:=stab y1
         have hS0:=below_drew' wr
         clear x0 x1 x2 x3 x4 x5 x6 x7 x8
         refine region_seq 21 [0,1,2,3,4,5,6,7,8,9,10,11,12,13,14,15,16,17,18,19,20,21] (by kernel_rfl) (by kernel_rfl) ?_
         repeat ((first | (refine seq_takeP (v:=?_) rfl rfl rfl ?_ ?_;rotate_left;(· (intro _ hSw;go_simp;(try go_bits);(try with_reducible rfl)))) | (refine seq_take (v:=?_) rfl rfl rfl ?_ ?_;rotate_left;(· (intro _ hSw;go_simp;(try go_bits);(try with_reducible rfl)))) | refine seq_skip rfl rfl rfl ?_);(try simp only [Act.put,pu1,pu2,pu3,pu4,pu5,pu6]))
         refine seq_step rfl rfl (fun KR hKR=>?_)
         go_simp
         refine hKR.out _ _ (Or.inr hS0) ?_
         clear hKR KR
         (try simp only [Act.put,pu1,pu2,pu3,pu4,pu5,pu6])
         repeat ((first | (refine seq_takeP (v:=?_) rfl rfl rfl ?_ ?_;rotate_left;(· (intro _ hSw;go_simp;(try go_bits);(try with_reducible rfl)))) | (refine seq_take (v:=?_) rfl rfl rfl ?_ ?_;rotate_left;(· (intro _ hSw;go_simp;(try go_bits);(try with_reducible rfl)))) | refine seq_skip rfl rfl rfl ?_);(try simp only [Act.put,pu1,pu2,pu3,pu4,pu5,pu6]))
         refine seq_step rfl rfl (fun KR hKR=>?_)
         go_simp
         refine hKR.out _ _ (Or.inl (by decide)) ?_
         clear hKR KR
         (try simp only [Act.put,pu1,pu2,pu3,pu4,pu5,pu6])
         refine seq_done ?_
         obtain ⟨z1,z2⟩:=HEI.set_ (k:=r) (by rw [HLN.out];exact hrn) (z:=if sh < zc then sh else zc) (by split <;> omega) (by split <;> omega)
         have hk9:=(hkw.trans z2).then ((below_drew' (wr.setCell ⟨gb,r,none⟩ (.int .i64 (if sh < zc then sh else zc)))).mono (by have:=hbI.size;simp;omega))
         have hb9:=(hbI.setCell (p:=⟨gb,r,none⟩) hgb (.int .i64 (if sh < zc then sh else zc))).trans ((below_drew' (wr.setCell ⟨gb,r,none⟩ (.int .i64 (if sh < zc then sh else zc)))).mono (by have:=hbI.size;simp;omega))
         have HE9:Hid (IntsO bI (wr.setCell ⟨gb,r,none⟩ (.int .i64 (if sh < zc then sh else zc))).drew (.slice (some ⟨gb,0,none⟩) n4 c4) (minAt ZL r (shareP x))):=Lib.hid (by
          have e:minAt ZL r (shareP x)=ZL.set r (if sh < zc then sh else zc):=by
           have e2:min zc sh=if sh < zc then sh else zc:=by split <;> omega
           unfold minAt;rw [hmn.out,← HSH.out,e2]
          rw [e];exact z1.below (below_drew' _))
         clear z1 z2 y1 y2 y3 y4 g1 hgb HEI hS0 C0 C1 C2 hBx hGLx hXx hYx hkw hbI hcell
         generalize (wr.setCell ⟨gb,r,none⟩ (.int .i64 (if sh < zc then sh else zc))).drew=w9 at *
         go_wp2
         go_roundw
         case rel=>exact ⟨j+1,by omega,by go_num,hk9,hb9,by rw [HRT.out];exact HE9⟩
         case measure=>simp [intOf];omega
        ·obtain rfl:n1=j:=by omega
         have HEF:Hid (IntsO bI wr (.slice A4 n4 c4) (leastP n (R.drop i))):=Lib.hid (by
          have h1:=HE.out
          rw [take_all HNN.out] at h1
          rw [HDR.out];exact h1)
         have HLF:Hid (LsAt gl q n R i wr):=Lib.hid ⟨_,hGLx,by simpa using HGL.out.1,fun k k1 k2=>by
          rcases Nat.lt_or_ge i k with h | h
          ·obtain ⟨B,m,c',g1,g2⟩:=HGL.out.2 k (by omega) k2
           exact ⟨B,m,c',by rw [List.getElem?_set_ne (by omega)];exact g1,g2.blx hYx HGR.out (by decide)⟩
          ·obtain rfl:i=k:=by omega
           exact ⟨A4,n4,c4,List.getElem?_set_self (by have:=HGL.out.1;omega),HEF.out.typed⟩⟩
         have hXf:=hX7b.trans (BlX.of_below (hbI.mono (by have:=hX7b.size;have:=HBI.out;omega)))
         clear hBx hGLx hXx hYx hkw hbI
         go_wp2
         go_roundw
         case rel=>exact ⟨i,(i:Int) - 1,by omega,by omega,by go_num,hXf,HLF⟩
         case measure=>simp [intOf]
end
namespace Pl
def freeP (R F:List Int):Nat:=F.foldl (fun m r=>m ||| 2^posR R r) 0
theorem freeP_succ {R F:List Int} {k:Nat} {r:Int} (h:F[k]? =some r):freeP R (F.take (k+1))=freeP R (F.take k) ||| 2^posR R r:=by
 unfold freeP
 rw [List.take_add_one,h,List.foldl_append]
 rfl
def freeB (L:List Dc) (f:Nat) (i:Int):Bool:=decide (mkI L i &&& f=0)
def keptP (L:List Dc) (f:Nat) (s:List Int):List Int:=s.filter (freeB L f)
def impP (m:Ms) (s F:List Int) (steps:Nat):Sv × Bool:=
 visP ⟨m.rows.length,keptP (dcs m) (freeP m.rows F) s,steps⟩ (prepP (dcs m) (orI (dcs m) (keptP (dcs m) (freeP m.rows F) s))) (orI (dcs m) (keptP (dcs m) (freeP m.rows F) s)) (m.base+sumI (dcs m) (keptP (dcs m) (freeP m.rows F) s)) [] ⟨s,costV m s,false,0⟩
end Pl
theorem results_tmp4 {fn:Func} {t u v x:Tmp} (h:fn.results=#[.tmp t,.tmp u,.tmp v,.tmp x]) (tmps:Array Value) (P:Program) (w:World):
 (results fn tmps).run P w= .ok (.tuple #[tmps.getD t undef,tmps.getD u undef,tmps.getD v undef,tmps.getD x undef]) w:=by
 simp [results,h]
theorem IntsO.blx {base:Nat} {w w':World} {g:Nat} {t:TypeId} {v:Value} {zs:List Int} {cs:List Value} (h:IntsO base w v zs) (hx:BlX w.heap.size g w w') (hg:Bk w g t cs) (ht:t≠3):IntsO base w' v zs:=by
 refine ⟨⟨h.1.1,?_⟩,h.2⟩
 rcases h.1.2 with hn | ⟨b,cap,cur,rfl,hb',hgg,rest⟩
 ·exact .inl hn
 ·exact .inr ⟨b,cap,cur,rfl,hb',(hx.block b (lt_heap hgg) (fun e=>hg.not_type ht _ _ (e▸hgg))).trans hgg,rest⟩
theorem Pl.dcs_bd2 {m:Ms} (ok:MsOK m):∀x∈dcs m,x.mask < 64∧x.idx < 1000∧ -200≤x.sur∧x.sur≤200:=fun x hx=>by
 have h1:=dcs_bd ok hx
 obtain ⟨i,hi⟩:=List.mem_iff_getElem?.1 hx
 obtain ⟨c,hc,rfl⟩:=dcs_get hi
 have h2:=sur_bd ok (i:=i) (List.mem_of_getElem? hc)
 exact ⟨h1.1,h1.2.1,by omega,by omega⟩
def ImpPost (m:Ms) (s F:List Int) (steps:Nat) (w:World) (e:Ending) (w':World):Prop:=
 ∃v',e= .returned (.tuple #[v',.bool (impP m s F steps).2,.int .i64 ((impP m s F steps).1.used:Int),.int .i64 0])∧IntsM w' v' (impP m s F steps).1.best∧Below w.heap.size w w'
theorem improve_own (v1 v2 v3:Value) (m:Ms) (s F:List Int) (steps:Nat) (w:World) (h:MsM w v1 m) (ok:MsOK m) (h2:IntsM w v2 s) (hs:Sel (dcs m) s) (h3:IntsM w v3 F) (hF:F.Sublist m.rows) (hst:steps≤1048576):
 Calls Try.prog 6 #[v1,v2,v3,.int .i64 (steps:Int)] w (ImpPost m s F steps w):=by
 obtain ⟨A,n,c,A',n',c',A'',n'',c'',rfl,hR,hC,hT⟩:=id h
 obtain ⟨r1,r2,r3⟩:=hR.ints.lenC
 obtain ⟨s1,s2,s3⟩:=RdM.len hC
 obtain ⟨As,cs,rfl,hs2,hs3⟩:=h2.shape
 obtain ⟨Af,cf,rfl,hf2,hf3⟩:=h3.shape
 obtain ⟨q,hq⟩:∃q,q=s.length:=⟨_,rfl⟩
 obtain ⟨nf,hnf⟩:∃q,q=F.length:=⟨_,rfl⟩
 rw [← hq] at h2 hs2 ⊢
 rw [← hnf] at h3 hf2 ⊢
 obtain ⟨W,hW,hX,hbe⟩:=box_ms w (.int .i64 m.fl) (.slice A n c) (.int .i64 m.pen) (.slice A' n' c') (.slice A'' n'' c'')
 have HM:=Lib.hid (h.below hbe)
 have HOK:=Lib.hid ok
 have HS:=Lib.hid (h2.below hbe)
 have HS0:=Lib.hid h2
 have HFS:=Lib.hid (h3.below hbe)
 have HR:=Lib.hid (hR.ints.below hbe)
 have HSEL:=Lib.hid hs
 have HFR:=Lib.hid hF
 have HRN:=Lib.hid r1
 have HCN:=Lib.hid s1
 have HQN:=Lib.hid hq
 have HFN:=Lib.hid hnf
 have hn6:n≤6:=by have:=ok.row1;omega
 have hn6':n'≤6:=by have:=ok.ncol;omega
 have hnf6:nf≤6:=by have:=hF.length_le;have:=ok.row1;omega
 have hq6:q≤6:=by have:=asc_len hs.rg hs.asc;rw [dcs_len] at this;omega
 have p0:=ok.pen0
 have p1:=ok.pen1
 clear h hR hC hT ok h2 h3 hs hF r1 s1 hq hnf
 generalize m.fl=Fl at *
 generalize hP:m.pen=P at *
 have HP:=Lib.hid hP
 clear hP
 obtain ⟨x0,x1,x2,x3,x4⟩:=hX.five
 go_enter Try.func6,Try.ntmps6
 go_wp2_with fail
 clear hW x0 x1 x2 x3 x4
 refine (validateMaster_ok _ m _ HM.out HOK.out).mono ?_
 rintro _ w1 ⟨rfl,hb1⟩
 have hX1:=hX.later hb1
 have hbe1:=below_then hbe hb1 hbe.size
 have HM1:=Lib.hid (HM.out.below hb1)
 have HI1:=Lib.hid (And.intro (HS.out.below hb1) (And.intro (HFS.out.below hb1) (HR.out.below hb1)))
 obtain ⟨x0,x1,x2,x3,x4⟩:=hX1.five
 clear hX hbe hb1 HM HS HFS HR
 go_wp2_with fail
 refine (columns_own _ m _ HM1.out HOK.out).mono ?_
 rintro _ w2 ⟨vc,rfl,hDO,hb2⟩
 obtain ⟨Ac,cc,rfl⟩:=RdO.slice hDO
 rw [dcs_len,← HCN.out] at hDO ⊢
 have HDC:Hid (DcsM w2 (.slice Ac n' cc) (dcs m)):=Lib.hid (RdO.rd hDO)
 have hX2:=hX1.later hb2
 have hbe2:=below_then hbe1 hb2 hbe1.size
 have HM2:=Lib.hid (HM1.out.below hb2)
 have HI2:=Lib.hid (And.intro (HI1.out.1.below hb2) (And.intro (HI1.out.2.1.below hb2) (HI1.out.2.2.below hb2)))
 clear x0 x1 x2 x3 x4 hX1 hbe1 hb2 HM1 hDO HI1
 obtain ⟨x0,x1,x2,x3,x4⟩:=hX2.five
 go_wp2_with fail
 refine (selection_any _ _ _ m s _ HM2.out HOK.out HDC.out HI2.out.1).mono ?_
 rintro _ w3 ⟨zz,MM,rfl,hzz,hb3⟩
 have he0:selErr (dcs m) s=0:=HSEL.out.err
 rw [he0]
 have HZ:=Lib.hid hzz
 have hX3:=hX2.later hb3
 have hbe3:=below_then hbe2 hb3 hbe2.size
 have HDC3:=Lib.hid (HDC.out.below hb3)
 have HI3:=Lib.hid (And.intro (HI2.out.1.below hb3) (And.intro (HI2.out.2.1.below hb3) (HI2.out.2.2.below hb3)))
 clear x0 x1 x2 x3 x4 hX2 hbe2 hb3 HM2 HDC HI2 he0 hzz
 go_wp2
 generalize w3=W3 at *
 go_loopw [16,46] (fun s16 x wr=>∃k M:Nat,k≤nf∧x= .int .i64 k∧s16= .int .u32 (M:Int)∧M < 64∧Below W3.heap.size W3 wr∧Hid (freeP m.rows (F.take k)=M)) (fun _ x _=>nf - (intOf x).toNat)
 case atStart=>exact ⟨0,0,by omega,rfl,rfl,by decide,Below.refl _ _,Lib.hid (by simp [freeP])⟩
 case round=>
  obtain ⟨k,M,hk,rfl,rfl,hM,hb,HFM⟩:=hrel
  have hX4:=hX3.later hb
  obtain ⟨x0,x1,x2,x3,x4⟩:=hX4.five
  rcases Nat.lt_or_ge k nf with hkl | hkl
  ·have hkz:(k:Int) < nf:=by omega
   obtain ⟨b4,o4,f,hA4,hcell,hf,fb0,fb1⟩:=HI3.out.2.1.elem hb hkl
   subst hA4
   have HF1:=Lib.hid hf
   have hfR:f∈m.rows:=HFR.out.subset (List.mem_of_getElem? hf)
   have HFI:=Lib.hid hfR
   clear hf hfR
   go_wp2_with fail
   refine (bsearch_any _ m.rows f _ (HI3.out.2.2.below hb) HOK.out.asc (by have:=HOK.out.row1;omega)).mono ?_
   rw [decide_eq_true HFI.out]
   rintro _ w5 ⟨rfl,hb5⟩
   have hpl:posR m.rows f < 6:=by have h1:=posR_lt HOK.out.asc HFI.out;have h2:=HOK.out.row1;omega
   have HFS:=Lib.hid (freeP_succ (R:=m.rows) HF1.out)
   have hb6:=below_then hb hb5 hb.size
   have hcell5:=cell_keep hb5 hcell
   generalize posR m.rows f=pp at *
   obtain ⟨hor,hlt⟩:=or_pow hM hpl
   have HN:Hid (freeP m.rows (F.take (k+1))=M ||| 2^pp):=Lib.hid (by rw [HFS.out,HFM.out])
   clear hX4 x0 x1 x2 x3 x4 hcell
   rcases Nat.eq_zero_or_pos k with hk0 | hk0
   ·subst hk0
    clear hb hb5
    go_wp2
    go_roundw
    case rel=>exact ⟨1,_,by omega,by go_num,rfl,hlt,hb6,HN⟩
    case measure=>simp [intOf];omega
   ·have hkp:(0:Int) < k:=by omega
    have hk1:(0:Int)≤(k:Int) - 1:=by omega
    have hk2:(k:Int) - 1 < nf:=by omega
    have hk3:((k:Int) - 1).toNat=k - 1:=by omega
    obtain ⟨_,_,fp,hA5,hcp,hfp,_,_⟩:=HI3.out.2.1.elem hb6 (show k - 1 < nf by omega)
    injection hA5 with hA5
    injection hA5 with e1 e2 _
    subst e1 e2
    have hle:¬f≤fp:=by
     have:=asc_get (HOK.out.asc.sublist HFR.out) (show k - 1 < k by omega) hfp HF1.out
     omega
    clear hb hb5 hfp
    go_wp2
    go_roundw
    case rel=>exact ⟨k+1,_,by omega,by go_num,rfl,hlt,hb6,HN⟩
    case measure=>simp [intOf];omega
  ·obtain rfl:nf=k:=by omega
   have HF0:Hid (freeP m.rows F=M):=Lib.hid (by have:=HFM.out;rw [take_all HFN.out] at this;exact this)
   have hst0:¬(steps:Int) < 0:=by omega
   generalize M=MM0 at *
   go_wp2_with fail
   refine (clone_own _ s _ (HI3.out.1.below hb) (by have:=HQN.out;omega)).mono ?_
   rintro _ w5 ⟨v5,rfl,e5,hb5⟩
   obtain ⟨A5,n5,c5,rfl⟩:=e5.sliceN
   have hb6:=below_then hb hb5 hb.size
   have hX6:=hX3.later hb6
   have HDC6:Hid (DcsM w5 (.slice Ac n' cc) (dcs m)):=Lib.hid (HDC3.out.below hb6)
   have HI6:=Lib.hid (HI3.out.1.below hb6)
   have HE6:=Lib.hid (e5.monoB (Nat.zero_le _))
   have hbe6:=below_then hbe3 hb6 hbe3.size
   have hw5:w.heap.size < w5.heap.size:=hX6.lt
   clear x0 x1 x2 x3 x4 hX4 hX3 hbe3 hb hb5 hb6 HDC3 HI3 e5
   obtain ⟨x0,x1,x2,x3,x4⟩:=hX6.five
   have hG:=Bk.new w5 57 [.slice none 0 0,.slice none 0 0,.slice none 0 0,.slice none 0 0,.slice A5 n5 c5,.int .i64 zz,.bool false,.int .i64 (steps:Int),.int .i64 0]
   have hbw:=below_new w5 (.cells #[.slice none 0 0,.slice none 0 0,.slice none 0 0,.slice none 0 0,.slice A5 n5 c5,.int .i64 zz,.bool false,.int .i64 (steps:Int),.int .i64 0] 57)
   have e:(#[.slice none 0 0,.slice none 0 0,.slice none 0 0,.slice none 0 0,.slice A5 n5 c5,.int .i64 zz,.bool false,.int .i64 (steps:Int),.int .i64 0]:Array Value)=[.slice none 0 0,.slice none 0 0,.slice none 0 0,.slice none 0 0,.slice A5 n5 c5,.int .i64 zz,.bool false,.int .i64 (steps:Int),.int .i64 0].toArray:=rfl
   rw [← e] at hG
   clear e
   have hbase:0≤P * n∧P * n≤180:=by
    have a:=Int.mul_nonneg p0 (show (0:Int)≤n by omega)
    have b:=Int.mul_le_mul p1 (show (n:Int)≤6 by omega) (by omega) (by omega)
    omega
   obtain ⟨bs0,bs1⟩:=hbase
   have HBS:Hid (P * n=m.base):=Lib.hid (by unfold Ms.base;rw [HP.out,HRN.out])
   go_wp2
   clear x0 x1 x2 x3 x4
   have HX7:=Lib.hid (hX6.later hbw)
   have hDC7:DcsM (w5.alloc (.cells #[.slice none 0 0,.slice none 0 0,.slice none 0 0,.slice none 0 0,.slice A5 n5 c5,.int .i64 zz,.bool false,.int .i64 (steps:Int),.int .i64 0] 57)) (.slice Ac n' cc) (dcs m):=HDC6.out.below hbw
   have HDC7:=Lib.hid hDC7
   have HI7:=Lib.hid (HI6.out.below hbw)
   have HE7:=Lib.hid (HE6.out.below hbw)
   have hbe7:=below_then hbe6 hbw hbe6.size
   clear hDC7 hX6 HDC6 HI6 HE6 hbe6 hbw
   generalize w5.alloc (.cells #[.slice none 0 0,.slice none 0 0,.slice none 0 0,.slice none 0 0,.slice A5 n5 c5,.int .i64 zz,.bool false,.int .i64 (steps:Int),.int .i64 0] 57)=W7 at *
   generalize w5.heap.size=g at *
   have HGG:=Lib.hid hG
   have hgl:=hG.lt
   generalize P * (n:Int)=BB at *
   go_loopw [22,23,93] (fun s22 s23 x wr=>∃(k M:Nat) (Z:Int) (Ak:Option Addr) (nk ck:Nat),k≤q∧x= .int .i64 k∧s22= .int .u32 (M:Int)∧s23= .int .i64 Z∧M < 64∧BB - 200 * (k:Int)≤Z∧Z≤BB+200 * (k:Int)∧BlX W7.heap.size g W7 wr∧Bk wr g 57 [.slice Ak nk ck,.slice none 0 0,.slice none 0 0,.slice none 0 0,.slice A5 n5 c5,.int .i64 zz,.bool false,.int .i64 (steps:Int),.int .i64 0]∧Hid (IntsO W7.heap.size wr (.slice Ak nk ck) (keptP (dcs m) MM0 (s.take k))∧M=orI (dcs m) (keptP (dcs m) MM0 (s.take k))∧Z=BB+sumI (dcs m) (keptP (dcs m) MM0 (s.take k)))) (fun _ _ x _=>q - (intOf x).toNat)
   case atStart=>exact ⟨0,0,BB,none,0,0,by omega,rfl,rfl,rfl,by decide,by omega,by omega,BlX.refl _ _ _,hG,Lib.hid ⟨IntsO.nil _ _,by simp [keptP,orI],by simp [keptP,sumI]⟩⟩
   case round=>
    clear hG
    obtain ⟨k,M,Z,Ak,nk,ck,hk,rfl,rfl,rfl,hM,hZ0,hZ1,hX,hB,HV⟩:=hrel
    rcases Nat.lt_or_ge k q with hkl | hkl
    ·have hkz:(k:Int) < q:=by omega
     have hbx:=hbe7.trans (hX.below hbe7.size (Nat.le_of_lt hw5))
     obtain ⟨b3,o3,y,hA3,hcell,hy,yb0,yb1⟩:=HS0.out.elem hbx hkl
     subst hA3
     obtain ⟨cl,hcl⟩:=col_in HSEL.out.rg (List.mem_of_getElem? hy)
     obtain ⟨i0,i1⟩:=HSEL.out.rg y (List.mem_of_getElem? hy)
     rw [dcs_len,← HCN.out] at i1
     obtain ⟨j,rfl⟩:=Int.eq_ofNat_of_zero_le i0
     simp only [Int.toNat_natCast] at hcl
     have hxa:=dcs_at hcl
     have HXA:=Lib.hid hxa
     have hjn:(j:Int) < n':=i1
     obtain ⟨bx,ox,A1,n1,c1,hA1,⟨e0,e1,e2,e3⟩,hI⟩:=HDC7.out.elemOld hX HGG.out (by decide) hxa
     subst hA1
     have hm64:=mask_lt HOK.out (i:=j) (List.mem_of_getElem? hcl)
     obtain ⟨su0,su1⟩:=sur_bd HOK.out (i:=j) (List.mem_of_getElem? hcl)
     have HY:=Lib.hid hy
     have HMI:Hid (mkI (dcs m) (j:Int)=(dcol m j cl).mask∧suI (dcs m) (j:Int)=(dcol m j cl).sur):=Lib.hid ⟨mkI_of hxa,suI_of hxa⟩
     have hidx:(dcol m j cl).idx=j:=rfl
     generalize dcol m j cl=x at *
     have HKT:Hid (keptP (dcs m) MM0 (s.take (k+1))=keptP (dcs m) MM0 (s.take k)++(if freeB (dcs m) MM0 (j:Int)=true then [(j:Int)] else [])):=Lib.hid (filter_take HY.out)
     have hand:=u32_and (a:=x.mask) (b:=MM0) (by omega) (by omega)
     have hor:=u32_or (a:=M) (b:=x.mask) (by omega) (by omega)
     have hlt:M ||| x.mask < 64:=Nat.or_lt_two_pow (n:=6) hM hm64
     have hkl2:(keptP (dcs m) MM0 (s.take k)).length≤6:=by
      have h1:=List.length_filter_le (freeB (dcs m) MM0) (s.take k)
      have h2:=List.length_take_le k s
      unfold keptP;omega
     clear hy hcl hxa hI hidx
     by_cases hz:x.mask &&& MM0=0
     ·have hz':(((x.mask &&& MM0:Nat):Int)==0)=true:=by rw [hz];rfl
      have HE:Hid (keptP (dcs m) MM0 (s.take (k+1))=keptP (dcs m) MM0 (s.take k)++[(j:Int)]):=Lib.hid (by rw [HKT.out];unfold freeB;rw [HMI.out.1,hz];simp)
      have HO:=Lib.hid HV.out.1
      have hlen:(keptP (dcs m) MM0 (s.take k)).length+1≤1099511627776:=by omega
      have hbs:W7.heap.size≤wr.heap.size:=hX.size
      obtain ⟨x0,x1,x2,x3,x4,x5,x6,x7,x8⟩:=hB.nine
      clear hz
      go_wp2_with (at_builtin;refine wpList_append_int rfl (.tmp 106) (.tmp 108) rfl wr W7.heap.size (.slice Ak nk ck) _ rfl HO.out (j:Int) rfl (by omega) (by omega) hlen hbs ?_)
      intro v8 w8 hown8 hk8 hb8 _ _
      obtain ⟨A8,n8,c8,rfl⟩:=hown8.sliceN
      clear x0 x1 x2 x3 x4 x5 x6 x7 x8
      have hB8:=hk8.bk hB (by decide)
      obtain ⟨x0,x1,x2,x3,x4,x5,x6,x7,x8⟩:=hB8.nine
      have f0:=hB8.frozen 0
      have kk:=KeepBut.setCell hB8 0 (.slice A8 n8 c8)
      have hB9:=hB8.set_ 0 (.slice A8 n8 c8)
      simp only [List.set_cons_succ,List.set_cons_zero] at hB9
      have hO9:=hown8.but kk (by decide)
      have hX9:=(hX.trans (BlX.of_below hb8)).setCell 0 (.slice A8 n8 c8)
      clear kk hown8 hk8 hb8 hB8 hB hX
      go_upto_region 27 with (fail)
      clear x0 x1 x2 x3 x4 x5 x6 x7 x8 f0 e0 e1 e2 e3 hcell hbx hand
      generalize w8.setCell ⟨g,0,none⟩ (.slice A8 n8 c8)=w9 at *
      obtain ⟨bx',ox',A1',n1',c1',hA1',⟨e0,e1,e2,e3⟩,_⟩:=HDC7.out.elemOld hX9 HGG.out (by decide) HXA.out
      injection hA1' with hA1'
      injection hA1' with q1 q2 _
      subst q1 q2
      have hsz1:BB - 200 * ((k+1:Nat):Int)≤Z+x.sur:=by omega
      have hsz2:Z+x.sur≤BB+200 * ((k+1:Nat):Int):=by omega
      have HN:Hid (IntsO W7.heap.size w9 (.slice A8 n8 c8) (keptP (dcs m) MM0 (s.take (k+1)))∧M ||| x.mask=orI (dcs m) (keptP (dcs m) MM0 (s.take (k+1)))∧Z+x.sur=BB+sumI (dcs m) (keptP (dcs m) MM0 (s.take (k+1)))):=Lib.hid (by
       rw [HE.out]
       refine ⟨hO9,?_,?_⟩
       ·rw [orI_snoc,HMI.out.1,← HV.out.2.1]
       ·rw [sumI_append,← Int.add_assoc,← HV.out.2.2]
        have:sumI (dcs m) [(j:Int)]=x.sur:=by simp [sumI,HMI.out.2]
        rw [this])
      clear hO9 HV
      go_wp2
      go_roundw
      case rel=>exact ⟨k+1,_,_,A8,n8,c8,by omega,by go_num,rfl,rfl,hlt,hsz1,hsz2,hX9,hB9,HN⟩
      case measure=>simp [intOf];omega
     ·have hz':(((x.mask &&& MM0:Nat):Int)==0)=false:=by simpa using hz
      have HE:Hid (keptP (dcs m) MM0 (s.take (k+1))=keptP (dcs m) MM0 (s.take k)):=Lib.hid (by rw [HKT.out];unfold freeB;rw [HMI.out.1];simp [hz])
      clear hz
      go_wp2
      go_roundw
      case rel=>exact ⟨k+1,M,Z,Ak,nk,ck,by omega,by go_num,rfl,rfl,hM,by omega,by omega,hX,hB,by rw [HE.out];exact HV⟩
      case measure=>simp [intOf];omega
    ·obtain rfl:q=k:=by omega
     have HV1:Hid (IntsO W7.heap.size wr (.slice Ak nk ck) (keptP (dcs m) MM0 s)∧M=orI (dcs m) (keptP (dcs m) MM0 s)∧Z=BB+sumI (dcs m) (keptP (dcs m) MM0 s)):=Lib.hid (by have:=HV.out;rw [take_all HQN.out] at this;exact this)
     have hXr:=hX.bk HX7.out (by omega) (Nat.ne_of_lt hw5)
     have hDr:DcsM wr (.slice Ac n' cc) (dcs m):=HDC7.out.blx hX HGG.out (by decide) (by decide)
     have HDR:=Lib.hid hDr
     have HER:=Lib.hid (HE7.out.blx hX HGG.out (by decide))
     have hber:=hbe7.trans (hX.below hbe7.size (Nat.le_of_lt hw5))
     have HKL:Hid ((keptP (dcs m) MM0 s).length≤6):=Lib.hid (by
      have h1:=List.length_filter_le (freeB (dcs m) MM0) s
      have:=HQN.out
      unfold keptP;omega)
     have HIMP:Hid (impP m s F steps=visP ⟨m.rows.length,keptP (dcs m) MM0 s,steps⟩ (prepP (dcs m) M) M Z [] ⟨s,zz,false,0⟩):=Lib.hid (by
      unfold impP
      rw [HF0.out,← HV1.out.2.1,HZ.out,HV1.out.2.2,HBS.out])
     have HPB:Hid (∀x∈prepP (dcs m) M,x.mask < 64∧x.idx < 1000∧ -200≤x.sur∧x.sur≤200):=Lib.hid (fun x hx=>dcs_bd2 HOK.out x (List.mem_filter.1 hx).1)
     have HPL:Hid ((prepP (dcs m) M).length≤6):=Lib.hid (by
      have h1:(prepP (dcs m) M).length≤(dcs m).length:=List.length_filter_le _ _
      rw [dcs_len] at h1
      have:=HCN.out
      omega)
     obtain ⟨x0,x1,x2,x3,x4⟩:=hXr.five
     clear hX HV hDr
     go_wp2_with fail
     refine (prepare_own g n M _ (dcs m) _ _ _ _ _ _ _ _ hB HDR.out (by rw [HRN.out];exact dcs_ok HOK.out) (dcs_bd2 HOK.out) (by rw [dcs_len];have:=HCN.out;omega) hn6 hM).mono ?_
     rintro _ w9 ⟨rfl,Ac',nc',cc',Al,nl,cl',hB9,hC9,hL9,hX9⟩
     clear x0 x1 x2 x3 x4
     have HCS:Hid (SrCs w9 g ⟨m.rows.length,keptP (dcs m) MM0 s,steps⟩ (prepP (dcs m) M) Ak nk ck Ac' nc' cc' Al nl cl'):=Lib.hid ⟨HV1.out.1.typed.blx hX9 hB (by decide),hC9,by rw [← HRN.out];exact hL9,⟨_,hB9⟩,⟨HPB.out,HPL.out,HKL.out,HOK.out.row1,hst⟩⟩
     have HSR:Hid (SrAt w9 g ⟨m.rows.length,keptP (dcs m) MM0 s,steps⟩ Ak nk ck Ac' nc' cc' Al nl cl' [] ⟨s,zz,false,0⟩ w9):=Lib.hid ⟨none,0,0,A5,n5,c5,by simpa using hB9,IntsO.nil _ _,HER.out.blx hX9 hB (by decide),by simp [Value.ownBlock],BlX.refl _ _ _⟩
     have hber9:=hber.trans (hX9.below hber.size (Nat.le_of_lt hw5))
     clear hB9 hC9 hL9 hX9 hB hber
     go_wp2_with fail
     refine (visit_own w9 g ⟨m.rows.length,keptP (dcs m) MM0 s,steps⟩ (prepP (dcs m) M) Ak nk ck Ac' nc' cc' Al nl cl' HCS.out ((prepP (dcs m) M).length+1) 0 (Nat.zero_le _) (by omega) M Z [] ⟨s,zz,false,0⟩ w9 HSR.out hM (by omega) (by omega) (by simp) (Nat.zero_le _)).mono ?_
     rw [List.drop_zero,← HIMP.out]
     rintro _ w10 ⟨rfl,hs10⟩
     go_upto_region 32 with (fail)
     obtain ⟨Ea,ma,ea,Eb,mb,eb,hB,hA,hBe,hsep,hX⟩:=hs10
     obtain ⟨x0,x1,x2,x3,x4,x5,x6,x7,x8⟩:=hB.nine
     have C0:=stab x4
     have C1:=stab x8
     have hS0:=below_drew' w10
     clear x0 x1 x2 x3 x4 x5 x6 x7 x8
     refine region_seq 9 [0,1,2,3,4,5,6,7,8] (by kernel_rfl) (by kernel_rfl) ?_
     repeat ((first | (refine seq_takeP (v:=?_) rfl rfl rfl ?_ ?_;rotate_left;(· (intro _ hSw;go_simp;(try go_bits);(try with_reducible rfl)))) | (refine seq_take (v:=?_) rfl rfl rfl ?_ ?_;rotate_left;(· (intro _ hSw;go_simp;(try go_bits);(try with_reducible rfl)))) | refine seq_skip rfl rfl rfl ?_);(try simp only [Act.put,pu1,pu2,pu3,pu4,pu5,pu6]))
     refine seq_done ?_
     have hbf:=(hber9.trans (hX.below hber9.size (Nat.le_of_lt hw5))).trans (hS0.mono (by have:=hber9.size;have:=hX.size;omega))
     have HEF:Hid (IntsM w10.drew (.slice Eb mb eb) (impP m s F steps).1.best):=Lib.hid (hBe.below hS0).ints
     clear C0 C1
     go_wp2
     (try simp only [Exit.inBlock,Exit.then]);refine bodyPost_ret (results_tmp4 rfl _ _ _) rfl ?_
     exact ⟨_,rfl,HEF.out,hbf⟩
def BadPost (E:Int) (w:World) (e:Ending) (w':World):Prop:=e= .returned (.tuple #[.slice none 0 0,.bool false,.int .i64 0,.int .i64 E])∧Below w.heap.size w w'
theorem improve_rows (F P:Int) (A A' A'':Option Addr) (c n' c' n'' c'':Nat) (v2 v3:Value) (steps:Int) (w:World) (f0:0≤F) (f1:F≤200) (p0:0≤P) (p1:P≤30):
 Calls Try.prog 6 #[.agg #[.int .i64 F,.slice A 0 c,.int .i64 P,.slice A' n' c',.slice A'' n'' c''],v2,v3,.int .i64 steps] w (BadPost 10 w):=by
 obtain ⟨W,hW,hX,hbe⟩:=box_ms w (.int .i64 F) (.slice A 0 c) (.int .i64 P) (.slice A' n' c') (.slice A'' n'' c'')
 obtain ⟨x0,x1,x2,x3,x4⟩:=hX.five
 go_enter Try.func6,Try.ntmps6
 go_wp2_with fail
 refine (validateMaster_norows F P A A' A'' c n' c' n'' c'' _ f0 f1 p0 p1).mono ?_
 rintro _ w1 ⟨rfl,hb1⟩
 have hbe1:=below_then hbe hb1 hbe.size
 go_wp2
 (try simp only [Exit.inBlock,Exit.then]);refine bodyPost_ret (results_tmp4 rfl _ _ _) rfl ?_
 exact ⟨rfl,hbe1⟩
theorem improve_sel (v1 v2 v3:Value) (m:Ms) (s F:List Int) (steps:Int) (w:World) (h:MsM w v1 m) (ok:MsOK m) (h2:IntsM w v2 s) (hs:selErr (dcs m) s≠0) (h3:IntsM w v3 F):
 Calls Try.prog 6 #[v1,v2,v3,.int .i64 steps] w (BadPost (selErr (dcs m) s) w):=by
 obtain ⟨A,n,c,A',n',c',A'',n'',c'',rfl,hR,hC,hT⟩:=id h
 obtain ⟨r1,r2,r3⟩:=hR.ints.lenC
 obtain ⟨s1,s2,s3⟩:=RdM.len hC
 obtain ⟨As,cs,rfl,hs2,hs3⟩:=h2.shape
 obtain ⟨Af,cf,rfl,hf2,hf3⟩:=h3.shape
 obtain ⟨q,hq⟩:∃q,q=s.length:=⟨_,rfl⟩
 obtain ⟨nf,hnf⟩:∃q,q=F.length:=⟨_,rfl⟩
 rw [← hq] at h2 hs2 ⊢
 rw [← hnf] at h3 hf2 ⊢
 obtain ⟨W,hW,hX,hbe⟩:=box_ms w (.int .i64 m.fl) (.slice A n c) (.int .i64 m.pen) (.slice A' n' c') (.slice A'' n'' c'')
 have HM:=Lib.hid (h.below hbe)
 have HOK:=Lib.hid ok
 have HS:=Lib.hid (h2.below hbe)
 have HS0:=Lib.hid h2
 have HFS:=Lib.hid (h3.below hbe)
 have HR:=Lib.hid (hR.ints.below hbe)
 have HSEL:=Lib.hid hs
 have HRN:=Lib.hid r1
 have HCN:=Lib.hid s1
 have HQN:=Lib.hid hq
 have HFN:=Lib.hid hnf
 have hn6:n≤6:=by have:=ok.row1;omega
 have hn6':n'≤6:=by have:=ok.ncol;omega
 have p0:=ok.pen0
 have p1:=ok.pen1
 clear h hR hC hT ok h2 h3 hs r1 s1 hq hnf
 generalize m.fl=Fl at *
 generalize hP:m.pen=P at *
 have HP:=Lib.hid hP
 clear hP
 obtain ⟨x0,x1,x2,x3,x4⟩:=hX.five
 go_enter Try.func6,Try.ntmps6
 go_wp2_with fail
 clear hW x0 x1 x2 x3 x4
 refine (validateMaster_ok _ m _ HM.out HOK.out).mono ?_
 rintro _ w1 ⟨rfl,hb1⟩
 have hX1:=hX.later hb1
 have hbe1:=below_then hbe hb1 hbe.size
 have HM1:=Lib.hid (HM.out.below hb1)
 have HI1:=Lib.hid (And.intro (HS.out.below hb1) (And.intro (HFS.out.below hb1) (HR.out.below hb1)))
 obtain ⟨x0,x1,x2,x3,x4⟩:=hX1.five
 clear hX hbe hb1 HM HS HFS HR
 go_wp2_with fail
 refine (columns_own _ m _ HM1.out HOK.out).mono ?_
 rintro _ w2 ⟨vc,rfl,hDO,hb2⟩
 obtain ⟨Ac,cc,rfl⟩:=RdO.slice hDO
 rw [dcs_len,← HCN.out] at hDO ⊢
 have HDC:Hid (DcsM w2 (.slice Ac n' cc) (dcs m)):=Lib.hid (RdO.rd hDO)
 have hX2:=hX1.later hb2
 have hbe2:=below_then hbe1 hb2 hbe1.size
 have HM2:=Lib.hid (HM1.out.below hb2)
 have HI2:=Lib.hid (And.intro (HI1.out.1.below hb2) (And.intro (HI1.out.2.1.below hb2) (HI1.out.2.2.below hb2)))
 clear x0 x1 x2 x3 x4 hX1 hbe1 hb2 HM1 hDO HI1
 obtain ⟨x0,x1,x2,x3,x4⟩:=hX2.five
 go_wp2_with fail
 refine (selection_any _ _ _ m s _ HM2.out HOK.out HDC.out HI2.out.1).mono ?_
 rintro _ w3 ⟨zz,MM,rfl,hzz,hb3⟩
 have hbe3:=below_then hbe2 hb3 hbe2.size
 have HZ:=Lib.hid hzz
 have b1:(selErr (dcs m) s !=0)=true:=by simpa using HSEL.out
 generalize selErr (dcs m) s=E at *
 clear x0 x1 x2 x3 x4 hX2 hbe2 hb3 HM2 HDC HI2 hzz
 go_wp2
 (try simp only [Exit.inBlock,Exit.then]);refine bodyPost_ret (results_tmp4 rfl _ _ _) rfl ?_
 exact ⟨rfl,hbe3⟩
theorem improve_free (v1 v2 v3:Value) (m:Ms) (s F:List Int) (steps:Int) (w:World) (h:MsM w v1 m) (ok:MsOK m) (h2:IntsM w v2 s) (hs:Sel (dcs m) s) (h3:IntsM w v3 F) (hn:F.length≤6) (hF:F.Pairwise (· < ·)→(∀f∈F,f∈m.rows)→steps < 0):
 Calls Try.prog 6 #[v1,v2,v3,.int .i64 steps] w (BadPost 5 w):=by
 obtain ⟨A,n,c,A',n',c',A'',n'',c'',rfl,hR,hC,hT⟩:=id h
 obtain ⟨r1,r2,r3⟩:=hR.ints.lenC
 obtain ⟨s1,s2,s3⟩:=RdM.len hC
 obtain ⟨As,cs,rfl,hs2,hs3⟩:=h2.shape
 obtain ⟨Af,cf,rfl,hf2,hf3⟩:=h3.shape
 obtain ⟨q,hq⟩:∃q,q=s.length:=⟨_,rfl⟩
 obtain ⟨nf,hnf⟩:∃q,q=F.length:=⟨_,rfl⟩
 rw [← hq] at h2 hs2 ⊢
 rw [← hnf] at h3 hf2 ⊢
 obtain ⟨W,hW,hX,hbe⟩:=box_ms w (.int .i64 m.fl) (.slice A n c) (.int .i64 m.pen) (.slice A' n' c') (.slice A'' n'' c'')
 have HM:=Lib.hid (h.below hbe)
 have HOK:=Lib.hid ok
 have HS:=Lib.hid (h2.below hbe)
 have HS0:=Lib.hid h2
 have HFS:=Lib.hid (h3.below hbe)
 have HR:=Lib.hid (hR.ints.below hbe)
 have HSEL:=Lib.hid hs
 have HFR:=Lib.hid hF
 have HRN:=Lib.hid r1
 have HCN:=Lib.hid s1
 have HQN:=Lib.hid hq
 have HFN:=Lib.hid hnf
 have hn6:n≤6:=by have:=ok.row1;omega
 have hn6':n'≤6:=by have:=ok.ncol;omega
 have hnf6:nf≤6:=by omega
 have hq6:q≤6:=by have:=asc_len hs.rg hs.asc;rw [dcs_len] at this;omega
 have p0:=ok.pen0
 have p1:=ok.pen1
 clear h hR hC hT ok h2 h3 hs hF hn r1 s1 hq hnf
 generalize m.fl=Fl at *
 generalize hP:m.pen=P at *
 have HP:=Lib.hid hP
 clear hP
 obtain ⟨x0,x1,x2,x3,x4⟩:=hX.five
 go_enter Try.func6,Try.ntmps6
 go_wp2_with fail
 clear hW x0 x1 x2 x3 x4
 refine (validateMaster_ok _ m _ HM.out HOK.out).mono ?_
 rintro _ w1 ⟨rfl,hb1⟩
 have hX1:=hX.later hb1
 have hbe1:=below_then hbe hb1 hbe.size
 have HM1:=Lib.hid (HM.out.below hb1)
 have HI1:=Lib.hid (And.intro (HS.out.below hb1) (And.intro (HFS.out.below hb1) (HR.out.below hb1)))
 obtain ⟨x0,x1,x2,x3,x4⟩:=hX1.five
 clear hX hbe hb1 HM HS HFS HR
 go_wp2_with fail
 refine (columns_own _ m _ HM1.out HOK.out).mono ?_
 rintro _ w2 ⟨vc,rfl,hDO,hb2⟩
 obtain ⟨Ac,cc,rfl⟩:=RdO.slice hDO
 rw [dcs_len,← HCN.out] at hDO ⊢
 have HDC:Hid (DcsM w2 (.slice Ac n' cc) (dcs m)):=Lib.hid (RdO.rd hDO)
 have hX2:=hX1.later hb2
 have hbe2:=below_then hbe1 hb2 hbe1.size
 have HM2:=Lib.hid (HM1.out.below hb2)
 have HI2:=Lib.hid (And.intro (HI1.out.1.below hb2) (And.intro (HI1.out.2.1.below hb2) (HI1.out.2.2.below hb2)))
 clear x0 x1 x2 x3 x4 hX1 hbe1 hb2 HM1 hDO HI1
 obtain ⟨x0,x1,x2,x3,x4⟩:=hX2.five
 go_wp2_with fail
 refine (selection_any _ _ _ m s _ HM2.out HOK.out HDC.out HI2.out.1).mono ?_
 rintro _ w3 ⟨zz,MM,rfl,hzz,hb3⟩
 have he0:selErr (dcs m) s=0:=HSEL.out.err
 rw [he0]
 have HZ:=Lib.hid hzz
 have hX3:=hX2.later hb3
 have hbe3:=below_then hbe2 hb3 hbe2.size
 have HDC3:=Lib.hid (HDC.out.below hb3)
 have HI3:=Lib.hid (And.intro (HI2.out.1.below hb3) (And.intro (HI2.out.2.1.below hb3) (HI2.out.2.2.below hb3)))
 clear x0 x1 x2 x3 x4 hX2 hbe2 hb3 HM2 HDC HI2 he0 hzz
 go_wp2
 generalize w3=W3 at *
 go_loopw [16,46] (fun s16 x wr=>∃k M:Nat,k≤nf∧x= .int .i64 k∧s16= .int .u32 (M:Int)∧M < 64∧Below W3.heap.size W3 wr∧Hid ((F.take k).Pairwise (· < ·)∧∀f∈F.take k,f∈m.rows)) (fun _ x _=>nf - (intOf x).toNat)
 case atStart=>exact ⟨0,0,by omega,rfl,rfl,by decide,Below.refl _ _,Lib.hid (by simp)⟩
 case round=>
  obtain ⟨k,M,hk,rfl,rfl,hM,hb,HFM⟩:=hrel
  have hX4:=hX3.later hb
  have hbr:=below_then hbe3 hb hbe3.size
  obtain ⟨x0,x1,x2,x3,x4⟩:=hX4.five
  rcases Nat.lt_or_ge k nf with hkl | hkl
  ·have hkz:(k:Int) < nf:=by omega
   obtain ⟨b4,o4,f,hA4,hcell,hf,fb0,fb1⟩:=HI3.out.2.1.elem hb hkl
   subst hA4
   have HF1:=Lib.hid hf
   clear hf
   go_wp2_with fail
   refine (bsearch_any _ m.rows f _ (HI3.out.2.2.below hb) HOK.out.asc (by have:=HOK.out.row1;omega)).mono ?_
   rintro _ w5 ⟨rfl,hb5⟩
   have hb6:=below_then hb hb5 hb.size
   have hbr5:=below_then hbr hb5 hbr.size
   have hcell5:=cell_keep hb5 hcell
   by_cases hfR:f∈m.rows
   ·have hpl:posR m.rows f < 6:=by have h1:=posR_lt HOK.out.asc hfR;have h2:=HOK.out.row1;omega
    rw [decide_eq_true hfR]
    have HFI:=Lib.hid hfR
    clear hfR
    generalize posR m.rows f=pp at *
    obtain ⟨hor,hlt⟩:=or_pow hM hpl
    clear hX4 x0 x1 x2 x3 x4 hcell
    rcases Nat.eq_zero_or_pos k with hk0 | hk0
    ·subst hk0
     have HN:Hid ((F.take 1).Pairwise (· < ·)∧∀f∈F.take 1,f∈m.rows):=Lib.hid ⟨asc_le_one (Nat.le_refl _),fun g hg=>by
      rcases (mem_take_succ HF1.out).1 hg with e | e
      ·simp at e
      ·subst e;exact HFI.out⟩
     clear hb hb5
     go_wp2
     go_roundw
     case rel=>exact ⟨1,_,by omega,by go_num,rfl,hlt,hb6,HN⟩
     case measure=>simp [intOf];omega
    ·have hkp:(0:Int) < k:=by omega
     have hk1:(0:Int)≤(k:Int) - 1:=by omega
     have hk2:(k:Int) - 1 < nf:=by omega
     have hk3:((k:Int) - 1).toNat=k - 1:=by omega
     obtain ⟨_,_,fp,hA5,hcp,hfp,_,_⟩:=HI3.out.2.1.elem hb6 (show k - 1 < nf by omega)
     injection hA5 with hA5
     injection hA5 with e1 e2 _
     subst e1 e2
     have HAS:Hid (fp < f→((F.take (k+1)).Pairwise (· < ·)∧∀f∈F.take (k+1),f∈m.rows)):=Lib.hid (fun hlt=>by
      obtain ⟨k',rfl⟩:∃k',k=k'+1:=⟨k - 1,by omega⟩
      refine ⟨(asc_take_succ hfp HF1.out HFM.out.1).2 hlt,fun g hg=>?_⟩
      rcases (mem_take_succ HF1.out).1 hg with e | e
      ·exact HFM.out.2 g e
      ·subst e;exact HFI.out)
     clear hb hb5 hfp
     by_cases hle:f≤fp
     ·go_wp2
      (try simp only [Exit.inBlock,Exit.then]);refine bodyPost_ret (results_tmp4 rfl _ _ _) rfl ?_
      exact ⟨rfl,hbr5⟩
     ·have HN:=Lib.hid (HAS.out (by omega))
      go_wp2
      go_roundw
      case rel=>exact ⟨k+1,_,by omega,by go_num,rfl,hlt,hb6,HN⟩
      case measure=>simp [intOf];omega
   ·rw [decide_eq_false hfR]
    clear hfR hb hb5
    generalize posR m.rows f=pp at *
    go_wp2
    (try simp only [Exit.inBlock,Exit.then]);refine bodyPost_ret (results_tmp4 rfl _ _ _) rfl ?_
    exact ⟨rfl,hbr5⟩
  ·obtain rfl:nf=k:=by omega
   have hst0:steps < 0:=by
    have h1:=HFM.out
    rw [take_all HFN.out] at h1
    exact HFR.out h1.1 h1.2
   clear hb
   go_wp2
   (try simp only [Exit.inBlock,Exit.then]);refine bodyPost_ret (results_tmp4 rfl _ _ _) rfl ?_
   exact ⟨rfl,hbr⟩
end Go.Proofs.Ytgdcbjligbnpgaa
