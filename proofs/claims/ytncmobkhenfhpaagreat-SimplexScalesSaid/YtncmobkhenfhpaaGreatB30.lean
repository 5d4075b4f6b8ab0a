/- Contracts and plain facts that the claim is built on, joined out of smaller texts; no condition. -/
import Derived.Test.YtncmobkhenfhpaaGreatB28
set_option linter.unusedVariables false
set_option linter.unusedSimpArgs false
set_option maxRecDepth 100000
set_option maxHeartbeats 40000000
namespace Go.Proofs.YtncmobkhenfhpaaGreat
open Go.RowKit
open Pl
attribute [local go_sem ↓] Go.wp_at_zero Go.wp_at_succ
theorem VecsO.at_ {base:Nat} {w:World} {g n c:Nat} {cols:List (List En)} (h:VecsO base w (.slice (some ⟨g,0,none⟩) n c) cols) {k:Nat} {es:List En} (he:cols[k]? =some es):
 ∃u,w.cell? ⟨g,k,none⟩=some u∧w.frozen? ⟨g,k,none⟩=false∧VecM w u es:=by
 obtain ⟨cs,h1,h2⟩:=h
 have hn:n=cols.length:=(RowM.of_own h1).len
 subst hn
 obtain ⟨u,c0,hm⟩:=h2 k es he
 exact ⟨u,(row_cell h1 c0).1,(row_cell h1 c0).2,hm⟩
theorem VecsO.set_ {base:Nat} {w:World} {g n c:Nat} {cols:List (List En)} (h:VecsO base w (.slice (some ⟨g,0,none⟩) n c) cols) {k:Nat} (hk:k < cols.length) {u:Value} {es:List En} (hu:VecM w u es):
 VecsO base (w.setCell ⟨g,k,none⟩ u) (.slice (some ⟨g,0,none⟩) n c) (cols.set k es)∧KeepBut 72 w (w.setCell ⟨g,k,none⟩ u):=by
 obtain ⟨cs,h1,h2⟩:=h
 have hn:n=cols.length:=(RowM.of_own h1).len
 subst hn
 have hl:cs.length=cols.length * 1:=h1.1
 have o1:=row_set h1 k u (by omega)
 obtain ⟨_,b0,_⟩:=row_block h1
 have kp:=KeepBut.setCell b0 k u
 refine ⟨⟨cs.set k u,by rw [List.length_set];exact o1,fun j d hd=>?_⟩,kp⟩
 rw [List.getElem?_set] at hd
 by_cases c:k=j
 ·subst c
  rw [if_pos rfl,if_pos hk] at hd
  injection hd with hd
  subst hd
  exact ⟨u,List.getElem?_set_self (by omega),hu.but kp (by decide) (by decide)⟩
 ·rw [if_neg c] at hd
  obtain ⟨u',hc,hm⟩:=h2 j d hd
  exact ⟨u',by rw [List.getElem?_set_ne c];exact hc,hm.but kp (by decide) (by decide)⟩
def zvc (n:Nat):Array Value:=madeCells (Value.cells (.slice none 0 0)) (n * 1)
theorem zvc_at {n k:Nat} (hk:k < n):(zvc n)[k]? =some (.slice none 0 0):=by
 have hlt:k < n * 1:=by omega
 unfold zvc madeCells
 simp [hk,Value.cells,Nat.mod_one]
theorem VecsO.zeros (w:World) (n:Nat) (hn:n≤maxLen):VecsO w.heap.size (w.alloc (.cells (zvc n) 72)) (.slice (some ⟨w.heap.size,0,none⟩) n n) (List.replicate n []):=by
 have hsz:(zvc n).size=n * 1:=size_madeCells _ _
 refine ⟨(zvc n).toList,⟨by simp [hsz],.inr ⟨w.heap.size,n,zvc n,by simp,Nat.le_refl _,heap_alloc_new w _,by simp,hn,hsz,?_⟩⟩,fun k f hf=>?_⟩
 ·rw [List.take_of_length_le (by simp [hsz])]
 ·rw [List.getElem?_replicate] at hf
  split at hf
  ·rename_i hk
   injection hf with hf
   subst hf
   exact ⟨_,by have:=zvc_at hk;simpa using this,(VecO.nil 0 _).vec⟩
  ·cases hf
theorem make_vecs (n:Nat) (hn:n≤1099511627776) (w:World):
 (Instr.makeSlice 24 (.int .i64 (n:Int)) (.int .i64 (n:Int))).run Tryz.prog w= .ok (.slice (some ⟨w.heap.size,0,none⟩) n n) (w.alloc (.cells (zvc n) 72)):=by
 obtain ⟨i0,hi,hz0,hz1,hz2⟩:=info_parts info_vector
 have hb:(i0.bytes:Int) * (n:Int)≤281474976710656:=by rw [hz2];omega
 have hr:=run_make (P:=Tryz.prog) w 24 72 i0 _ Tryz.underlying24 hi hz0 .i64 .i64 n n (by omega) (by omega) hb (by omega)
 simp only [Int.toNat_natCast,hz1] at hr
 exact hr
namespace Pl
def natL (n:Nat) (R:Nat→Nat):List Int:=(List.range n).map fun i=>(R i:Int)
theorem natL_length (n:Nat) (R:Nat→Nat):(natL n R).length=n:=by simp [natL]
theorem natL_get {n i:Nat} {R:Nat→Nat} (h:i < n):(natL n R)[i]? =some (R i:Int):=by simp [natL,h]
def vcL (n:Nat) (L:Mx):List (List En):=(List.range n).map fun t=>spV (L t) n
theorem vcL_length (n:Nat) (L:Mx):(vcL n L).length=n:=by simp [vcL]
theorem vcL_get {n i:Nat} {L:Mx} (h:i < n):(vcL n L)[i]? =some (spV (L i) n):=by simp [vcL,h]
theorem spV_skips {f:Nat→Rat} {m:Nat}:∀{d:Nat},(∀s,m≤s→s < m+d→f s=0)→spV f (m+d)=spV f m
 | 0,_=>rfl
 | d+1,h=>by rw [← Nat.add_assoc,spV_skip (h _ (by omega) (by omega))];exact spV_skips fun s h1 h2=>h s h1 (by omega)
theorem spV_last {f:Nat→Rat} {n k:Nat} (hk:k < n) (h:f k≠0) (h0:∀s,k < s→s < n→f s=0):(spV f n)[(spV f n).length - 1]? =some ⟨(k:Int),canF (f k)⟩:=by
 have e:spV f n=spV f k++[⟨(k:Int),canF (f k)⟩]:=by
  rw [← spV_next h]
  have:=spV_skips (f:=f) (m:=k+1) (d:=n - (k+1)) fun s h1 h2=>h0 s (by omega) (by omega)
  rwa [show k+1+(n - (k+1))=n by omega] at this
 rw [e];simp
end Pl
theorem IntsM.cap {w:World} {A:Option Addr} {n c:Nat} {zs:List Int} (h:IntsM w (.slice A n c) zs):n≤c∧c≤9223372036854775807:=by
 obtain ⟨_,_,e,h1,h2⟩:=h.shape
 injection e with _ e1 e2
 omega
theorem VecsM.cap {w:World} {A:Option Addr} {n c:Nat} {cols:List (List En)} (h:VecsM w (.slice A n c) cols):n≤c∧c≤9223372036854775807:=by
 obtain ⟨_,_,e,h1,h2⟩:=h.shape
 injection e with _ e1 e2
 omega
def FacM (w:World) (g off n:Nat) (R C:Nat→Nat) (L U:Mx):Prop:=
 ∃A0 c0 A1 c1 A2 c2 A3 c3,(w.cell? ⟨g,off,none⟩=some (.slice A0 n c0)∧w.cell? ⟨g,off+1,none⟩=some (.slice A1 n c1)∧w.cell? ⟨g,off+2,none⟩=some (.slice A2 n c2)∧w.cell? ⟨g,off+3,none⟩=some (.slice A3 n c3))∧
  IntsM w (.slice A0 n c0) (natL n R)∧IntsM w (.slice A1 n c1) (natL n C)∧VecsM w (.slice A2 n c2) (vcL n L)∧VecsM w (.slice A3 n c3) (vcL n U)
theorem FacM.below {w w':World} {g off n:Nat} {R C:Nat→Nat} {L U:Mx} (h:FacM w g off n R C L U) (hb:Below w.heap.size w w'):FacM w' g off n R C L U:=by
 obtain ⟨A0,c0,A1,c1,A2,c2,A3,c3,⟨k0,k1,k2,k3⟩,i0,i1,i2,i3⟩:=h
 exact ⟨A0,c0,A1,c1,A2,c2,A3,c3,⟨cell_keep hb k0,cell_keep hb k1,cell_keep hb k2,cell_keep hb k3⟩,i0.below hb,i1.below hb,i2.below hb,i3.below hb⟩
theorem IntsM.nat {w wr:World} {a:Option Addr} {n cap:Nat} {R:Nat→Nat} (h:IntsM w (.slice a n cap) (natL n R)) (hb:Below w.heap.size w wr) {i:Nat} (hi:i < n):
 ∃b o,a=some ⟨b,o,none⟩∧wr.cell? ⟨b,o+i,none⟩=some (.int .i64 (R i:Int)):=by
 obtain ⟨b,o,z,e,hc,hz,_,_⟩:=h.at_ hi
 rw [natL_get hi] at hz
 injection hz with hz
 subst hz
 exact ⟨b,o,e,cell_keep hb hc⟩
theorem VecsM.vc {w wr:World} {a:Option Addr} {n cap:Nat} {L:Mx} (h:VecsM w (.slice a n cap) (vcL n L)) (hb:Below w.heap.size w wr) {i:Nat} (hi:i < n):
 ∃b o A1 c1,a=some ⟨b,o,none⟩∧wr.cell? ⟨b,o+i,none⟩=some (.slice A1 (spV (L i) n).length c1)∧VecM wr (.slice A1 (spV (L i) n).length c1) (spV (L i) n):=by
 obtain ⟨b,o,A1,c1,e,_,hc,hv⟩:=h.elem hb (vcL_get hi)
 exact ⟨b,o,A1,c1,e,hc,hv⟩
theorem SubAt.congr {base:Nat} {v:Value} {n:Nat} {g g':Nat→Rat} {w w':World} (h:SubAt base v n g w w') (e:∀i,i < n→g i=g' i):SubAt base v n g' w w':=by
 unfold SubAt at *
 rw [← canL_congr e];exact h
namespace Pl
theorem sub_sizes {n k J:Nat} {f g:Nat→Rat} {G:Nat→Rat} (hg:∀i,i < n→Sz J (g i)) (hG:∀i,i < n→Sz J (G i)) (e:∀i,i < n→(if i < n∧i≠k then g i - f i * g k else g i)=G i):
 ∀t i,t≤(spV f n).length→i < n→Sz J (subQ (spV f n) (k:Int) (g k) g t i):=fun t i ht hi=>by
 rcases subQ_mid f k (g k) g i n t ht with h | ⟨h1,h2,h3⟩
 ·rw [h];exact hg i hi
 ·have:=e i hi
  rw [if_pos ⟨h1,h2⟩] at this
  rw [h3,this];exact hG i hi
theorem sub_all {n k:Nat} {f g:Nat→Rat} {G:Nat→Rat} (e:∀i,i < n→(if i < n∧i≠k then g i - f i * g k else g i)=G i):
 ∀i,i < n→subQ (spV f n) (k:Int) (g k) g (spV f n).length i=G i:=fun i hi=>by
 rw [subQ_spV];exact e i hi
end Pl
theorem facSolve_own (gp off:Nat) (vc:Value) (n E J:Nat) (A:Mx) (R C:Nat→Nat) (L U:Mx) (b:Nat→Rat) (w:World) (hF:FacM w gp off n R C L U) (h2:FrsM w vc (canL n b)) (S:FacS n E A R C L U) (hb:∀i,i < n→Sz J (b i)) (hJ:J≤30 * E) (hX:∀i,i < n→Sz E (solQ n R C L U b i)):
 Calls Tryz.prog 144 #[.pointer (some ⟨gp,off,none⟩),vc] w fun o w'=>∃v',o= .returned v'∧FrsO w.heap.size w' v' (canL n (solQ n R C L U b))∧Below w.heap.size w w':=by
 obtain ⟨A0,c0,A1,c1,A2,c2,A3,c3,⟨k0,k1,k2,k3⟩,i0,i1,i2,i3⟩:=hF
 obtain ⟨Ac,cc,rfl,hcc1,hcc2⟩:=h2.shape
 rw [canL_length] at h2 hcc1 ⊢
 obtain ⟨hA01,hA02⟩:=i0.cap
 obtain ⟨hA11,hA12⟩:=i1.cap
 obtain ⟨hA21,hA22⟩:=i2.cap
 obtain ⟨hA31,hA32⟩:=i3.cap
 have K0:=Lib.hid k0
 have K1:=Lib.hid k1
 have K2:=Lib.hid k2
 have K3:=Lib.hid k3
 have I0:=Lib.hid i0
 have I1:=Lib.hid i1
 have I2:=Lib.hid i2
 have I3:=Lib.hid i3
 have H2:=Lib.hid h2
 have HS:=Lib.hid S
 have hn7:=S.n7
 have he1:=S.e1
 have he2:=S.e2
 obtain ⟨z0,hz0⟩:∃z0,z0=fun p=>b (R p):=⟨_,rfl⟩
 obtain ⟨FW,hFW⟩:∃FW,FW=fwdN L z0:=⟨_,rfl⟩
 obtain ⟨BW,hBW⟩:∃BW,BW=bwdN n U (FW n):=⟨_,rfl⟩
 have HF0:Hid (FW 0=z0):=Lib.hid (by rw [hFW];rfl)
 have HB0:Hid (BW 0=FW n):=Lib.hid (by rw [hBW];rfl)
 have HFN:Hid (∀j,j < n→∀i,i < n→(if i < n∧i≠j then FW j i - L j i * FW j j else FW j i)=FW (j+1) i):=Lib.hid fun j hj i hi=>by rw [hFW];exact fwd_sub S.fac.l0 hj hi
 have HBN:Hid (∀j k,k+1+j=n→∀i,i < n→(if i < n∧i≠k then divAt (BW j) k (U k k) i - U k i * divAt (BW j) k (U k k) k else divAt (BW j) k (U k k) i)=BW (j+1) i):=Lib.hid fun j k hk i hi=>by rw [hBW];exact bwd_sub S.fac.u0 hk hi
 have HFB:Hid (∀j i,j≤n→i < n→Sz (256 * E) (FW j i)):=Lib.hid fun j i hj hi=>by rw [hFW,hz0];exact (S.fB hb hX j i hj hi).mono (by omega)
 have HBB:Hid (∀j i,j≤n→i < n→Sz (59 * E) (BW j i)):=Lib.hid fun j i hj hi=>by rw [hBW,hFW,hz0];exact S.bB hX j i hj hi
 have HBX:Hid (∀j k,k+1+j=n→BW (j+1) k=BW n k):=Lib.hid fun j k hk=>by rw [hBW];exact (bwdN_at (show k < n by omega) (by omega) (by omega)).trans (bwdN_at (show k < n by omega) (by omega) (Nat.le_refl n)).symm
 have HXX:Hid (canL n (solQ n R C L U b)=lastL n n C (BW n)):=Lib.hid (by rw [lastL_all S.fac.ci,hBW,hFW,hz0];rfl)
 have HZ0:Hid (∀p,b (R p)=z0 p):=Lib.hid fun p=>by rw [hz0]
 rw [HXX.out]
 have HLB:Hid (∀t,t < n→∀(k:Nat) (e:En),(spV (L t) n)[k]? =some e→e.f.Rs (2 * E)):=Lib.hid fun t ht=>spV_rs fun i hi=>S.lB t i ht hi
 have HUB:Hid (∀t,t < n→∀(k:Nat) (e:En),(spV (U t) n)[k]? =some e→e.f.Rs (2 * E)):=Lib.hid fun t ht=>spV_rs fun i hi=>S.uB t i ht hi
 have HUD:Hid (∀k,k < n→Sz (2 * E) (U k k)∧U k k≠0∧(spV (U k) n)[(spV (U k) n).length - 1]? =some ⟨(k:Int),canF (U k k)⟩):=Lib.hid fun k hk=>⟨S.uB k k hk hk,S.fac.u1 k hk,spV_last hk (S.fac.u1 k hk) fun s h1 h2=>S.fac.u0 k s hk h2 h1⟩
 have hmk:=make_frac n (by omega)
 have hO0:=FrsO.zeros w n (by unfold maxLen;omega)
 have hb0:=below_new w (.cells (zfc n) 48)
 rw [← firstL_zero (w:=z0)] at hO0
 have y0:=cell_keep hb0 k0
 have y0':=k0
 clear i0 i1 i2 i3 h2 S hz0 hFW hBW hb hX HXX k0 k1 k2 k3
 go_enter Tryz.func144,Tryz.ntmps144
 go_wp2
 have hsz:=hb0.size
 clear y0 y0'
 generalize w.alloc (.cells (zfc n) 48)=W at *
 go_loopw [24] (fun i wr=>∃k:Nat,k≤n∧i= .int .i64 k∧FrsO w.heap.size wr (.slice (some ⟨w.heap.size,0,none⟩) n n) (firstL n k z0)∧Below w.heap.size w wr) (fun i _=>n - (intOf i).toNat)
 case atStart=>exact ⟨0,by omega,rfl,hO0,hb0⟩
 case round=>
  clear hO0 hb0 hsz
  obtain ⟨k,hk,rfl,hO,hbe⟩:=hrel
  rcases Nat.lt_or_ge k n with hkl | hkl
  ·obtain ⟨b0,o0,rfl,x0⟩:=I0.out.nat hbe hkl
   have hrk:R k < n:=HS.out.fac.ri.1 k hkl
   obtain ⟨bc,oc,A4,n4,c4,A5,n5,c5,rfl,_,⟨u0,u1,u2,u3⟩,hm⟩:=H2.out.elem hbe (canL_get hrk)
   rw [HZ0.out] at u0 u2 hm
   have HNX:=Lib.hid (firstL_next (w:=z0) hkl)
   have hget:(firstL n k z0)[k]? =some zeroF:=by unfold firstL;rw [rfL_get hkl,if_neg (by omega)]
   obtain ⟨_,_,_,_,⟨t0,t1,t2,t3⟩,⟨f0,f1,f2,f3⟩,_⟩:=hO.at_ hget
   obtain ⟨hO4,hk4⟩:=hO.set_ (k:=k) (by rw [firstL_length];exact hkl) hm
   rw [HNX.out] at hO4
   have hbe4:=below_set4' hbe (Nat.le_refl _) (k * 4) (k * 4+1) (k * 4+2) (k * 4+3)
   have hkI:(k:Int) < n:=by omega
   generalize R k=rk at *
   have hrI:(rk:Int) < n:=by omega
   clear hO hbe hget hm HNX
   go_wp2
   go_roundw
   case rel=>exact ⟨k+1,by omega,by go_num,hO4,hbe4 _ _ _ _⟩
   case measure=>simp [intOf];omega
  ·obtain rfl:n=k:=by omega
   rw [firstL_all,← HF0.out] at hO
   go_wp2
   go_loopw [38] (fun i wr=>∃j:Nat,j≤n∧i= .int .i64 j∧FrsO w.heap.size wr (.slice (some ⟨w.heap.size,0,none⟩) n n) (canL n (FW j))∧Below w.heap.size w wr) (fun i _=>n - (intOf i).toNat)
   case atStart=>exact ⟨0,by omega,rfl,hO,hbe⟩
   case round=>
    clear hO hbe
    obtain ⟨j,hj,rfl,hO,hbe⟩:=hrel
    rcases Nat.lt_or_ge j n with hjl | hjl
    ·obtain ⟨b2,o2,A4,c4,rfl,x0,hL⟩:=I2.out.vc hbe hjl
     have y2:=cell_keep hbe K2.out
     have HSZ:=Lib.hid (sub_sizes (J:=256 * E) (fun i hi=>HFB.out j i (by omega) hi) (fun i hi=>HFB.out (j+1) i (by omega) hi) (HFN.out j hjl))
     have HAL:=Lib.hid (sub_all (HFN.out j hjl))
     have HR:=Lib.hid (HLB.out j hjl)
     have HIN:=Lib.hid (spV_inR (L j) n)
     have hjI:(j:Int) < n:=by omega
     go_wp2_with fail
     refine (subtract_own _ _ n (FW j) (spV (L j) n) j (2 * E) (256 * E) w.heap.size _ hO hL hjl HIN.out HR.out HSZ.out (by omega) (by omega) (by omega)).mono ?_
     rintro _ w1 ⟨rfl,hs⟩
     obtain ⟨hO1,_,hot,hbe1⟩:=hs.congr HAL.out
     have hbe2:=hbe.trans hbe1
     clear hO hbe hL x0 y2 hs hbe1 hot
     go_wp2
     go_roundw
     case rel=>exact ⟨j+1,by omega,by go_num,hO1,hbe2⟩
     case measure=>simp [intOf];omega
    ·obtain rfl:n=j:=by omega
     rw [← HB0.out] at hO
     have hOx:=FrsO.zeros wr n (by unfold maxLen;omega)
     have hbx:=below_new wr (.cells (zfc n) 48)
     rw [← lastL_zero (X:=BW n) HS.out.fac.ci] at hOx
     have hO1:=hO.below hbx
     have hgx:0 < n→w.heap.size < wr.heap.size:=fun hp=>by
      obtain ⟨g,_,e,_,h,_⟩:=hO.shape (by rw [canL_length];exact hp)
      injection e with e
      injection e with e
      injection e with e
      omega
     have hbex:=below_then hbe hbx hbe.size
     have hws:=hbe.size
     clear hO hbe
     go_wp2
     generalize wr.heap.size=gx at *
     generalize wr.alloc (.cells (zfc n) 48)=W2 at *
     go_loopw [11] (fun i wx=>∃(j:Nat) (kz:Int),j≤n∧kz=(n:Int) - 1 - j∧i= .int .i64 kz∧FrsO w.heap.size wx (.slice (some ⟨w.heap.size,0,none⟩) n n) (canL n (BW j))∧FrsO gx wx (.slice (some ⟨gx,0,none⟩) n n) (lastL n j C (BW n))∧Below w.heap.size w wx) (fun i _=>(intOf i+1).toNat)
     case atStart=>exact ⟨0,(n:Int) - 1,by omega,by omega,rfl,hO1,hOx,hbex⟩
     case round=>
      clear hO1 hOx hbex hbx
      obtain ⟨j,kz,hj,hkz,rfl,hO,hx,hbe⟩:=hrel
      rcases Int.lt_or_le kz 0 with hneg | hpos
      ·obtain rfl:n=j:=by omega
       go_wp2
       go_ret
       exact ⟨_,rfl,hx.monoB hws,hbe⟩
      ·obtain ⟨k,rfl⟩:=Int.eq_ofNat_of_zero_le hpos
       have hkj:k+1+j=n:=by omega
       have hkl:k < n:=by omega
       have hne:=hgx (by omega)
       obtain ⟨b3,o3,A4,c4,rfl,x0,hUk⟩:=I3.out.vc hbe hkl
       have y3:=cell_keep hbe K3.out
       obtain ⟨szu,hu0',hlast⟩:=HUD.out k hkl
       have HLAST:=Lib.hid hlast
       obtain ⟨D,hD⟩:∃D,D=divAt (BW j) k (U k k):=⟨_,rfl⟩
       have HST:Hid ((canL n (BW j)).set k (canF (BW j k / U k k))=canL n D):=Lib.hid (by rw [canL_set hkl,hD];rfl)
       have hBD:=HBN.out j k hkj
       rw [← hD] at hBD
       have hDB:∀i,i < n→Sz (61 * E) (D i):=fun i hi=>by
        rw [hD]
        unfold divAt
        split
        ·exact (Sz_div (HBB.out j k (by omega) hkl) szu).mono (by omega)
        ·exact (HBB.out j i (by omega) hi).mono (by omega)
       have HSZ:=Lib.hid (sub_sizes (J:=61 * E) hDB (fun i hi=>(HBB.out (j+1) i (by omega) hi).mono (by omega)) hBD)
       have HAL:=Lib.hid (sub_all hBD)
       have HR:=Lib.hid (HUB.out k hkl)
       have HIN:=Lib.hid (spV_inR (U k) n)
       have hsz:(canF (BW j k)).Sm:=(HBB.out j k (by omega) hkl).rs.sm (by omega)
       have hsu:(canF (U k k)).Sm:=szu.rs.sm (by omega)
       have hu0:(canF (U k k)).q≠0:=by rw [canF_q];exact hu0'
       have hgk:(canL n (BW j))[k]? =some (canF (BW j k)):=canL_get hkl
       have HNX:Hid ((lastL n j C (BW n)).set (C k) (canF (BW (j+1) k))=lastL n (j+1) C (BW n)):=Lib.hid (by rw [HBX.out j k hkj];exact lastL_next HS.out.fac.ci hkj)
       have hck:C k < n:=HS.out.fac.ci.1 k hkl
       have hkI:(k:Int) < n:=by omega
       have HKZ:=Lib.hid hkz
       have HKJ:=Lib.hid hkj
       clear hkz hkj
       obtain ⟨bz,oz,A5,n5,c5,A6,n6,c6,hA,_,⟨t0,t1,t2,t3⟩,hmz⟩:=hO.frs.elem (Below.refl _ _) hgk
       injection hA with hA
       injection hA with hA1 hA2
       subst hA1;subst hA2
       simp only [Nat.zero_add] at t0 t1 t2 t3
       generalize BW j k=zk at *
       generalize U k k=uk at *
       clear hBD hDB hD hlast szu hu0' hpos
       go_upto_region 17 with (fail)
       have C0:=stab t0
       have C1:=stab t1
       have C2:=stab t2
       have C3:=stab t3
       have D0:=stab x0
       have D1:=stab y3
       have hS0:=below_drew' wr
       clear t0 t1 t2 t3 x0 y3
       refine region_seq 19 [0,1,2,3,4,5,6,7,8,9,10,11,12,13,14,15,16,17,18,19] (by kernel_rfl) (by kernel_rfl) ?_
       repeat ((first | (refine seq_takeP (v:=?_) rfl rfl rfl ?_ ?_;rotate_left;(· (intro _ hSw;go_simp;(try go_bits);(try with_reducible rfl)))) | (refine seq_take (v:=?_) rfl rfl rfl ?_ ?_;rotate_left;(· (intro _ hSw;go_simp;(try go_bits);(try with_reducible rfl)))) | refine seq_skip rfl rfl rfl ?_);(try simp only [Act.put,pu1,pu2,pu3,pu4,pu5,pu6]))
       refine seq_step rfl rfl (fun KR hKR=>?_)
       go_simp
       with_reducible refine (diagonal_any _ _ ⟨(k:Int),canF uk⟩ _ (hUk.below hS0) HLAST.out).mono ?_
       rintro _ w6 ⟨v6,rfl,e6,hb6⟩
       have hS6:=below_then hS0 hb6 hS0.size
       refine hKR.out _ _ (Or.inr hS6) ?_
       clear hKR KR
       (try simp only [Act.put,pu1,pu2,pu3,pu4,pu5,pu6])
       repeat ((first | (refine seq_takeP (v:=?_) rfl rfl rfl ?_ ?_;rotate_left;(· (intro _ hSw;go_simp;(try go_bits);(try with_reducible rfl)))) | (refine seq_take (v:=?_) rfl rfl rfl ?_ ?_;rotate_left;(· (intro _ hSw;go_simp;(try go_bits);(try with_reducible rfl)))) | refine seq_skip rfl rfl rfl ?_);(try simp only [Act.put,pu1,pu2,pu3,pu4,pu5,pu6]))
       refine seq_step rfl rfl (fun KR hKR=>?_)
       go_simp
       with_reducible refine (divF_any _ _ (canF zk) (canF uk) _ (hmz.below hS6) e6 hsz hsu hu0).mono ?_
       rw [canF_q,canF_q]
       rintro _ w7 ⟨v7,rfl,e7,hb7⟩
       have hS7:=below_then hS6 hb7 hS6.size
       obtain ⟨B9,l9,k9,B9',l9',k9',rfl,_,_⟩:=id e7
       have hO7:=hO.below hS7
       obtain ⟨_,_,_,_,⟨c0,c1,c2,c3⟩,⟨f0,f1,f2,f3⟩,_⟩:=hO7.at_ hgk
       refine hKR.out _ _ (Or.inr hS7) ?_
       clear hKR KR
       (try simp only [Act.put,pu1,pu2,pu3,pu4,pu5,pu6])
       repeat ((first | (refine seq_takeP (v:=?_) rfl rfl rfl ?_ ?_;rotate_left;(· (intro _ hSw;go_simp;(try go_bits);(try with_reducible rfl)))) | (refine seq_take (v:=?_) rfl rfl rfl ?_ ?_;rotate_left;(· (intro _ hSw;go_simp;(try go_bits);(try with_reducible rfl)))) | refine seq_skip rfl rfl rfl ?_);(try simp only [Act.put,pu1,pu2,pu3,pu4,pu5,pu6]))
       refine seq_step rfl rfl (fun KR hKR=>?_)
       go_simp
       refine hKR.out _ _ (Or.inl (by decide)) ?_
       clear hKR KR
       (try simp only [Act.put,pu1,pu2,pu3,pu4,pu5,pu6])
       refine seq_done ?_
       clear C0 C1 C2 C3 D0 D1
       obtain ⟨hO8,hk8⟩:=hO7.set_ (k:=k) (by rw [canL_length];exact hkl) e7
       rw [HST.out] at hO8
       have hx8:=(hx.below hS7).others others_set4 (hk8.keep (by decide)) (fun b hb e=>by simp [Value.ownBlock] at hb;injection e with e;omega)
       have hbe8:=below_set4' (below_then hbe hS7 hbe.size) (Nat.le_refl _) (k * 4) (k * 4+1) (k * 4+2) (k * 4+3) (.bool (canF (zk / uk)).num.neg) (.slice B9 l9 k9) (.bool (canF (zk / uk)).den.neg) (.slice B9' l9' k9')
       clear hO hO7 hx hbe hS0 hS6 hS7 e6 e7 hb6 hb7 c0 c1 c2 c3 f0 f1 f2 f3 hmz hk8 hUk hgk hsz hsu hu0 HST HLAST
       generalize ((((w7.setCell ⟨w.heap.size,k * 4,none⟩ (.bool (canF (zk / uk)).num.neg)).setCell ⟨w.heap.size,k * 4+1,none⟩ (.slice B9 l9 k9)).setCell ⟨w.heap.size,k * 4+2,none⟩ (.bool (canF (zk / uk)).den.neg)).setCell ⟨w.heap.size,k * 4+3,none⟩ (.slice B9' l9' k9'))=W8 at *
       obtain ⟨b4,o4,A7,c7,hA,x0,hUk⟩:=I3.out.vc hbe8 hkl
       injection hA with hA
       injection hA with hA1 hA2
       subst hA1;subst hA2
       have y3:=cell_keep hbe8 K3.out
       go_wp2_with fail
       refine (subtract_own _ _ n D (spV (U k) n) k (2 * E) (61 * E) w.heap.size _ hO8 hUk hkl HIN.out HR.out HSZ.out (by omega) (by omega) (by omega)).mono ?_
       rintro _ w9 ⟨rfl,hs⟩
       obtain ⟨hO9,hkb9,hot9,hbe9⟩:=hs.congr HAL.out
       have hx9:=hx8.others hot9 (hkb9.keep (by decide)) (fun b hb e=>by simp [Value.ownBlock] at hb e;omega)
       have hbe10:=hbe8.trans hbe9
       clear hO8 hUk hs x0 y3 hx8 hbe8 hkb9 hot9 hbe9
       obtain ⟨b1,o1,rfl,x1⟩:=I1.out.nat hbe10 hkl
       have y1:=cell_keep hbe10 K1.out
       obtain ⟨bz,oz,A8,n8,c8,A9,n9,c9,hA,_,⟨t0,t1,t2,t3⟩,hmz⟩:=hO9.frs.elem (Below.refl _ _) (canL_get hkl)
       injection hA with hA
       injection hA with hA1 hA2
       subst hA1;subst hA2
       simp only [Nat.zero_add] at t0 t1 t2 t3
       obtain ⟨rf,hrf⟩:=get_some (fs:=lastL n j C (BW n)) (i:=C k) (by rw [lastL_length];exact hck)
       obtain ⟨hx10,hk10⟩:=hx9.set_ (k:=C k) (by rw [lastL_length];exact hck) hmz
       rw [HNX.out] at hx10
       have hO10:=hO9.others (g:=some gx) others_set4 (hk10.keep (by decide)) (fun b hb e=>by simp [Value.ownBlock] at hb;injection e with e;omega)
       have hbe11:=below_set4' hbe10 (show w.heap.size≤gx by omega) (C k * 4) (C k * 4+1) (C k * 4+2) (C k * 4+3)
       obtain ⟨_,_,_,_,⟨c0,c1,c2,c3⟩,⟨f0,f1,f2,f3⟩,_⟩:=hx9.at_ hrf
       generalize C k=ck at *
       have hckI:(ck:Int) < n:=by omega
       generalize BW (j+1) k=zk1 at *
       clear hrf hx9 hO9 hbe10 hmz hk10
       go_upto_region 19 with (fail)
       have C0:=stab t0
       have C1:=stab t1
       have C2:=stab t2
       have C3:=stab t3
       have D0:=stab x1
       have D1:=stab y1
       have hS0:=below_drew' w9
       clear t0 t1 t2 t3 x1 y1
       refine region_seq 13 [0,1,2,3,4,5,6,7,8,9,10,11,12,13] (by kernel_rfl) (by kernel_rfl) ?_
       repeat ((first | (refine seq_takeP (v:=?_) rfl rfl rfl ?_ ?_;rotate_left;(· (intro _ hSw;go_simp;(try go_bits);(try with_reducible rfl)))) | (refine seq_take (v:=?_) rfl rfl rfl ?_ ?_;rotate_left;(· (intro _ hSw;go_simp;(try go_bits);(try with_reducible rfl)))) | refine seq_skip rfl rfl rfl ?_);(try simp only [Act.put,pu1,pu2,pu3,pu4,pu5,pu6]))
       refine seq_step rfl rfl (fun KR hKR=>?_)
       go_simp
       refine hKR.out _ _ (Or.inl (by decide)) ?_
       clear hKR KR
       (try simp only [Act.put,pu1,pu2,pu3,pu4,pu5,pu6])
       refine seq_done ?_
       clear C0 C1 C2 C3 D0 D1
       go_wp2
       go_roundw
       case rel=>exact ⟨j+1,(k:Int) - 1,by have:=HKJ.out;omega,by have:=HKJ.out;omega,rfl,hO10,hx10,(hbe11 _ _ _ _).drew⟩
       case measure=>simp [intOf] <;> omega
end Go.Proofs.YtncmobkhenfhpaaGreat
