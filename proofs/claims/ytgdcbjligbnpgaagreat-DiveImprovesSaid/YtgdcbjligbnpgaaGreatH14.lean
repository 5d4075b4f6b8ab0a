/- Lemmas of the claim; no condition. -/
import Derived.Test.YtgdcbjligbnpgaaGreatH13
set_option linter.all false
set_option maxRecDepth 100000
set_option maxHeartbeats 40000000
namespace Go.Proofs.YtgdcbjligbnpgaaGreat
open Go.RowKit
open Pl
attribute [local go_sem ↓] Go.wp_at_zero Go.wp_at_succ
namespace Pl
theorem qs_neg {q:Rat}:qs q < 0↔q < 0:=by
 have h:qs q < 0↔q.num < 0:=by unfold qs sgn;split <;> rename_i h <;> (try split) <;> omega
 rw [h,← Rat.not_le,← Rat.num_nonneg];omega
theorem qs_pos {q:Rat}:0 < qs q↔0 < q:=by
 have h:0 < qs q↔0 < q.num:=by unfold qs sgn;split <;> rename_i h <;> (try split) <;> omega
 have h2:q.num=0↔q=0:=Rat.num_eq_zero
 have h3:0≤q.num↔0≤q:=Rat.num_nonneg
 rw [h]
 constructor
 ·intro g
  have:q≠0:=fun e=>by have:=h2.2 e;omega
  have:=h3.1 (by omega)
  grind
 ·intro g
  have h4:q.num≠0:=fun e=>by have:=h2.1 e;grind
  have:=h3.2 (by grind)
  omega
end Pl
namespace Pl
theorem Sz_int {z:Int} (h: -4294967296 < z) (h2:z < 4294967296):Sz 1 (z:Rat):=by
 unfold Sz
 exact ⟨digs_lt (by rw [Rat.num_intCast];unfold B32;omega),digs_lt (by rw [Rat.den_intCast];decide)⟩
end Pl
namespace Pl
structure SelI (m:Ms) (i:Nat) (s cov:List Int):Prop where
 rg:∀k∈s,0≤k∧k < i
 asc:s.Pairwise (· < ·)
 dj:Dj (dcs m) s
 cv:∀k∈s,∀c,m.cols[k.toNat]? =some c→∀f∈c.ops,f∈cov
theorem SelI.nil (m:Ms):SelI m 0 [] []:=⟨by simp,by simp,by simp [Dj],by simp⟩
theorem SelI.skip {m:Ms} {i:Nat} {s cov:List Int} (h:SelI m i s cov):SelI m (i+1) s cov:=⟨fun k hk=>by have:=h.rg k hk;omega,h.asc,h.dj,h.cv⟩
theorem SelI.take {m:Ms} (ok:MsOK m) {i:Nat} {s cov:List Int} (h:SelI m i s cov) {c:Cl} (hc:m.cols[i]? =some c) (hn:∀f∈c.ops,f ∉ cov):SelI m (i+1) (s++[(i:Int)]) (cov++c.ops):=by
 refine ⟨fun k hk=>?_,?_,?_,fun k hk d hd f hf=>?_⟩
 ·rcases List.mem_append.1 hk with hk | hk
  ·have:=h.rg k hk;omega
  ·simp at hk;omega
 ·rw [List.pairwise_append]
  refine ⟨h.asc,by simp,fun a ha b hb=>?_⟩
  simp at hb;subst hb
  exact (h.rg a ha).2
 ·rw [Dj_snoc,and_orI]
  refine ⟨h.dj,fun k hk=>?_⟩
  obtain ⟨k0,k1⟩:=h.rg k hk
  obtain ⟨j,rfl⟩:=Int.eq_ofNat_of_zero_le k0
  have hil:=(List.getElem?_eq_some_iff.1 hc).1
  have hj:m.cols[j]? =some m.cols[j]:=List.getElem?_eq_getElem (by omega)
  rw [mkI_of (dcs_at hc),mkI_of (dcs_at hj),mask_disj ok (List.mem_of_getElem? hc) (List.mem_of_getElem? hj)]
  exact fun f hf hf'=>hn f hf (h.cv _ hk _ (by simpa using hj) f hf')
 ·rcases List.mem_append.1 hk with hk | hk
  ·exact List.mem_append_left _ (h.cv k hk d hd f hf)
  ·simp at hk;subst hk
   simp only [Int.toNat_natCast] at hd
   rw [hc] at hd;injection hd with hd;subst hd
   exact List.mem_append_right _ hf
theorem SelI.sel {m:Ms} {s cov:List Int} (h:SelI m m.cols.length s cov):Sel (dcs m) s:=⟨fun k hk=>by rw [dcs_len];exact h.rg k hk,h.asc,h.dj⟩
end Pl
def LselPost (m:Ms) (w:World) (e:Ending) (w':World):Prop:=∃v' s,e= .returned v'∧IntsO w.heap.size w' v' s∧Sel (dcs m) s∧Below w.heap.size w w'
theorem lawSel_own (v1:Value) (m:Ms) (N:Int) (w:World) (h:MsM w v1 m) (ok:MsOK m):
 Calls Tryz.prog 10 #[v1,.int .i64 N] w (LselPost m w):=by
 obtain ⟨A,n,c,A',n',c',A'',n'',c'',rfl,hR,hC,hT⟩:=id h
 obtain ⟨s1,s2,s3⟩:=RdM.len hC
 obtain ⟨W,hW,hX,hbe⟩:=box_ms w (.int .i64 m.fl) (.slice A n c) (.int .i64 m.pen) (.slice A' n' c') (.slice A'' n'' c'')
 have HC:=Lib.hid hC
 have HOK:=Lib.hid ok
 have HCN:=Lib.hid s1
 have hn6':n'≤6:=by have:=ok.ncol;omega
 clear h hR hC hT ok s1
 generalize m.fl=F at *
 generalize m.pen=P at *
 have hO0:=IntsO.nil w.heap.size W
 go_enter Tryz.func10,Tryz.ntmps10
 go_wp2
 clear hW
 go_loopw [5,6,7] (fun s5 s6 x wr=>∃(i:Nat) (s cov:List Int),i≤n'∧x= .int .i64 i∧Below w.heap.size w wr∧Bk wr w.heap.size 26 [.int .i64 F,.slice A n c,.int .i64 P,.slice A' n' c',.slice A'' n'' c'']∧s.length≤i∧cov.length≤6 * i∧Hid (IntsO w.heap.size wr s5 s∧IntsO w.heap.size wr s6 cov∧(∀b,s6.ownBlock=some b→some b≠s5.ownBlock)∧SelI m i s cov)) (fun _ _ x _=>n' - (intOf x).toNat)
 case atStart=>exact ⟨0,[],[],by omega,rfl,hbe,hX,by simp,by simp,Lib.hid ⟨hO0,hO0,by simp [Value.ownBlock],SelI.nil m⟩⟩
 case round=>
  clear hbe hX hO0
  obtain ⟨i,s,cov,hi,rfl,hb,hB,hsl,hcl',HV⟩:=hrel
  obtain ⟨x0,x1,x2,x3,x4⟩:=hB.five
  rcases Nat.lt_or_ge i n' with hil | hil
  ·obtain ⟨cl,hcl⟩:∃cl,m.cols[i]? =some cl:=⟨_,List.getElem?_eq_getElem (by have:=HCN.out;omega)⟩
   have hiz:(i:Int) < n':=by omega
   obtain ⟨bc,oc,sb,A1,n1',c1,hA,_,e0,e1,e2,hD⟩:=HC.out.elem hb hcl
   subst hA
   have HCL:=Lib.hid hcl
   have HOL:=Lib.hid (HOK.out.opl (List.mem_of_getElem? hcl))
   clear hcl
   go_wp2_with fail
   refine (operated27_own sb A1 n1' c1 cl.dut _ hD (by have:=HOL.out;unfold Cl.ops at this;omega)).mono ?_
   rintro _ w4 ⟨v4,rfl,e4,hb4⟩
   have HE:Hid (IntsO wr.heap.size w4 v4 cl.ops):=Lib.hid e4
   have hB4:=hB.later hb4
   have hb5:=below_then hb hb4 hb.size
   have hwr:=hb.size
   have HV4:Hid (IntsO w.heap.size w4 u5 s∧IntsO w.heap.size w4 u6 cov∧(∀b,u6.ownBlock=some b→some b≠u5.ownBlock)∧(∀b,v4.ownBlock=some b→some b≠u5.ownBlock∧some b≠u6.ownBlock)∧SelI m i s cov):=Lib.hid ⟨HV.out.1.below hb4,HV.out.2.1.below hb4,HV.out.2.2.1,fun b hvb=>by
    have h1:=(e4.ownB b hvb).1
    exact ⟨fun e=>by have h2:=(HV.out.1.ownB b e.symm).2;omega,fun e=>by have h2:=(HV.out.2.1.ownB b e.symm).2;omega⟩,HV.out.2.2.2⟩
   obtain ⟨A3,t,c3,rfl⟩:=e4.sliceN
   have HT:=Lib.hid e4.len
   have ht6:t≤6:=by have:=HOL.out;have:=HT.out;unfold Cl.ops at *;omega
   clear e4 hb4 hD e0 e1 e2 x0 x1 x2 x3 x4 hB HV hb
   go_wp2
   generalize w4=wo at *
   go_loopw [9,10] (fun s9 x wq=>∃(j:Nat) (bb:Bool),j≤t∧x= .int .i64 j∧s9= .bool bb∧Below wo.heap.size wo wq∧Hid (bb=true→∀f∈cl.ops.take j,f ∉ cov)) (fun _ x _=>t - (intOf x).toNat)
   case atStart=>exact ⟨0,_,by omega,rfl,rfl,Below.refl _ _,Lib.hid (fun _=>by simp)⟩
   case round=>
    obtain ⟨j,bb,hj,rfl,rfl,hbq,HJ⟩:=hrel
    rcases Nat.lt_or_ge j t with hjl | hjl
    ·have hjz:(j:Int) < t:=by omega
     obtain ⟨b4,o4,f,hA4,hcell,hf,fb0,fb1⟩:=HE.out.ints.elem hbq hjl
     subst hA4
     have HF:=Lib.hid hf
     clear hf
     cases bb
     ·go_wp2
      go_roundw
      case rel=>exact ⟨j+1,false,by omega,by go_num,rfl,hbq,Lib.hid (fun h=>by cases h)⟩
      case measure=>simp [intOf];omega
     ·go_wp2_with fail
      refine (has_any _ cov f _ (HV4.out.2.1.below hbq).ints).mono ?_
      rintro _ w6 ⟨rfl,hb6⟩
      have hbq6:=below_then hbq hb6 hbq.size
      clear hbq hb6 hcell
      generalize hd:decide (f∈cov)=d at *
      have HD:=Lib.hid hd
      clear hd
      go_wp2
      go_roundw
      case rel=>exact ⟨j+1,!d,by omega,by go_num,rfl,hbq6,Lib.hid (fun hd g hg=>by
       rcases (mem_take_succ HF.out).1 hg with e | e
       ·exact HJ.out trivial g e
       ·subst e
        have h1:=HD.out
        cases d
        ·exact of_decide_eq_false h1
        ·cases hd)⟩
      case measure=>simp [intOf];omega
    ·obtain rfl:t=j:=by omega
     have hB6:=hB4.later hbq
     have hb6:=below_then hb5 hbq hb5.size
     have HV6:Hid (IntsO w.heap.size wr u5 s∧IntsO w.heap.size wr u6 cov∧SelI m i s cov):=Lib.hid ⟨HV4.out.1.below hbq,HV4.out.2.1.below hbq,HV4.out.2.2.2.2⟩
     have HE6:Hid (IntsO 0 wr (.slice A3 t c3) cl.ops):=Lib.hid ((HE.out.below hbq).monoB (Nat.zero_le _))
     cases bb
     ·clear hb5 hB4 hbq
      go_wp2
      go_roundw
      case rel=>exact ⟨i+1,s,cov,by omega,by go_num,hb6,hB6,by omega,by omega,Lib.hid ⟨HV6.out.1,HV6.out.2.1,HV4.out.2.2.1,HV6.out.2.2.skip⟩⟩
      case measure=>simp [intOf];omega
     ·have hlen:s.length+1≤1099511627776:=by omega
      have hbs:=hb6.size
      have HJ2:Hid (∀f∈cl.ops,f ∉ cov):=Lib.hid (fun f hf=>HJ.out rfl f (by rw [show cl.ops.take t=cl.ops from take_all HT.out];exact hf))
      have HO6:=Lib.hid HV6.out.1
      clear hb5 hB4 hbq HJ
      go_wp2_with (at_builtin;refine wpList_append_int rfl (.tmp 48) (.tmp 50) rfl wr w.heap.size u5 s rfl HO6.out (i:Int) rfl (by omega) (by omega) hlen hbs ?_)
      intro v7 w7 hown7 hk7 hb7 hot7 hor7
      have HC7:=HV6.out.2.1.others hot7 HV4.out.2.2.1
      have HE7:=HE6.out.others hot7 fun b hb=>(HV4.out.2.2.2.1 b hb).1
      obtain ⟨v8,w8,hrun,hown8,hk8,hb8,hot8,hor8⟩:=run_append_intsL 22 w7 w.heap.size u6 _ cov cl.ops HC7 HE7.ints (by have:=HOL.out;omega) (Nat.le_trans hbs hb7.size)
      have hq6:∀b,u6.ownBlock=some b→b < wr.heap.size:=fun b hb=>(HV6.out.2.1.ownB b hb).2
      have hq5:∀b,u5.ownBlock=some b→b < wr.heap.size:=fun b hb=>(HV6.out.1.ownB b hb).2
      have hq7:∀b,v7.ownBlock=some b→b < w7.heap.size:=fun b hb=>(hown7.ownB b hb).2
      have hsz7:=hb7.size
      have h76:∀b,v7.ownBlock=some b→some b≠u6.ownBlock:=fun b hb e=>by
       rcases hor7 with h | h
       ·exact HV4.out.2.2.1 b e.symm (by rw [← hb,h])
       ·have h1:=h b hb
        have h2:=hq6 b e.symm
        omega
      have hS8:=hown7.others hot8 h76
      have hsep:∀b,v8.ownBlock=some b→some b≠v7.ownBlock:=fun b hb e=>by
       rcases hor8 with h | h
       ·exact h76 b e.symm (by rw [← hb,h])
       ·have h1:=h b hb
        have h2:=hq7 b e.symm
        omega
      have hB8:=hk8.bk (hk7.bk hB6 (by decide)) (by decide)
      have hb9:=(hb6.trans hb7).trans hb8
      have HN:Hid (IntsO w.heap.size w8 v7 (s++[(i:Int)])∧IntsO w.heap.size w8 v8 (cov++cl.ops)∧(∀b,v8.ownBlock=some b→some b≠v7.ownBlock)∧SelI m (i+1) (s++[(i:Int)]) (cov++cl.ops)):=Lib.hid ⟨hS8,hown8,hsep,HV6.out.2.2.take HOK.out HCL.out HJ2.out⟩
      clear hown7 hk7 hb7 hot7 hor7 HC7 HE7 hown8 hk8 hb8 hot8 hor8 hB6 hb6 hS8 hsep h76 hq6 hq5 hq7
      go_wp2_with (at_builtin;refine wpList_append_run hrun rfl rfl rfl rfl rfl ?_)
      go_wp2
      go_roundw
      case rel=>exact ⟨i+1,_,_,by omega,by go_num,hb9,hB8,by simp;omega,by have:=HOL.out;simp;omega,HN⟩
      case measure=>simp [intOf];omega
  ·obtain rfl:n'=i:=by omega
   have HF:Hid (Sel (dcs m) s):=Lib.hid (by have:=HV.out.2.2.2;rw [HCN.out] at this;exact this.sel)
   go_wp2
   go_ret
   exact ⟨_,s,rfl,HV.out.1,HF.out,hb⟩
def LrowPost (m:Ms) (w:World) (e:Ending) (w':World):Prop:=∃v' s,e= .returned v'∧IntsO w.heap.size w' v' s∧s.Sublist m.rows∧Below w.heap.size w w'
theorem lawRows_own (v1:Value) (m:Ms) (N:Int) (w:World) (h:MsM w v1 m) (ok:MsOK m):
 Calls Tryz.prog 17 #[v1,.int .i64 N] w (LrowPost m w):=by
 obtain ⟨A,n,c,A',n',c',A'',n'',c'',rfl,hR,hC,hT⟩:=id h
 obtain ⟨r1,r2,r3⟩:=hR.ints.lenC
 obtain ⟨W,hW,hX,hbe⟩:=box_ms w (.int .i64 m.fl) (.slice A n c) (.int .i64 m.pen) (.slice A' n' c') (.slice A'' n'' c'')
 have HR:=Lib.hid hR.ints
 have HRN:=Lib.hid r1
 have hn6:n≤6:=by have:=ok.row1;omega
 clear h hR hC hT ok r1
 generalize m.fl=F at *
 generalize m.pen=P at *
 have hO0:=IntsO.nil w.heap.size W
 go_enter Tryz.func17,Tryz.ntmps17
 go_wp2
 clear hW
 go_loopw [5,6] (fun s5 x wr=>∃(i:Nat) (s:List Int),i≤n∧x= .int .i64 i∧Below w.heap.size w wr∧Bk wr w.heap.size 26 [.int .i64 F,.slice A n c,.int .i64 P,.slice A' n' c',.slice A'' n'' c'']∧s.length≤i∧Hid (IntsO w.heap.size wr s5 s∧s.Sublist (m.rows.take i))) (fun _ x _=>n - (intOf x).toNat)
 case atStart=>exact ⟨0,[],by omega,rfl,hbe,hX,by simp,Lib.hid ⟨hO0,by simp⟩⟩
 case round=>
  clear hbe hX hO0
  obtain ⟨i,s,hi,rfl,hb,hB,hsl,HV⟩:=hrel
  obtain ⟨x0,x1,x2,x3,x4⟩:=hB.five
  rcases Nat.lt_or_ge i n with hil | hil
  ·have hiz:(i:Int) < n:=by omega
   obtain ⟨b4,o4,f,hA4,hcell,hf,fb0,fb1⟩:=HR.out.elem hb hil
   subst hA4
   have HF:=Lib.hid (take_snoc_sub hf)
   have hlen:s.length+1≤1099511627776:=by omega
   have hbs:=hb.size
   have HO:=Lib.hid HV.out.1
   clear hf
   go_upto_if 19 with (fail)
   generalize (bits .and .i64 (N / 2^i) 1==1)=bb at *
   cases bb
   ·go_wp2
    go_roundw
    case rel=>exact ⟨i+1,s,by omega,by go_num,hb,hB,by omega,Lib.hid ⟨HV.out.1,HF.out.1 HV.out.2⟩⟩
    case measure=>simp [intOf];omega
   ·go_wp2_with (at_builtin;refine wpList_append_int rfl (.tmp 20) (.tmp 26) rfl wr w.heap.size u5 s rfl HO.out f rfl fb0 fb1 hlen hbs ?_)
    intro v7 w7 hown7 hk7 hb7 hot7 hor7
    have hB7:=hk7.bk hB (by decide)
    have hb8:=hb.trans hb7
    have HN:=Lib.hid (And.intro hown7 (HF.out.2 HV.out.2))
    clear hown7 hk7 hb7 hot7 hor7 hB hb hcell x0 x1 x2 x3 x4
    go_wp2
    go_roundw
    case rel=>exact ⟨i+1,_,by omega,by go_num,hb8,hB7,by simp;omega,HN⟩
    case measure=>simp [intOf];omega
  ·obtain rfl:n=i:=by omega
   have HF:Hid (s.Sublist m.rows):=Lib.hid (by have:=HV.out.2;rw [take_all HRN.out] at this;exact this)
   go_wp2
   go_ret
   exact ⟨_,s,rfl,HV.out.1,HF.out,hb⟩
def SortedD (base:Nat) (w:World) (v:Value) (l:List Dc) (w':World):Prop:=DcsO base w' v l∧KeepBut 79 w w'∧Others v.ownBlock w w'∧Below base w w'
theorem SortedD.after {base:Nat} {w w1 w2:World} {v:Value} {l:List Dc} (h:SortedD base w v l w1) (hS:Below w1.heap.size w1 w2) (hb:base≤w.heap.size):SortedD base w v l w2:=
 ⟨h.1.below hS,h.2.1.then (hS.mono h.2.2.1.1),⟨Nat.le_trans h.2.2.1.1 hS.size,fun b hb hne=>(hS.block b (Nat.lt_of_lt_of_le hb h.2.2.1.1)).trans (h.2.2.1.2 b hb hne)⟩,h.2.2.2.trans (hS.mono (Nat.le_trans hb h.2.2.1.1))⟩
def putD (w:World) (g k:Nat) (x:Dc) (A:Option Addr) (n c:Nat):World:=(((w.setCell ⟨g,k * 4,none⟩ (.int .i64 (x.idx:Int))).setCell ⟨g,k * 4+1,none⟩ (.int .u32 (x.mask:Int))).setCell ⟨g,k * 4+2,none⟩ (.slice A n c)).setCell ⟨g,k * 4+3,none⟩ (.int .i64 x.sur)
theorem SortedD.put {base:Nat} {w w1:World} {g n c:Nat} {l:List Dc} (h:SortedD base w (.slice (some ⟨g,0,none⟩) n c) l w1) (hb:base≤g) {j:Nat} {x:Dc} (hj:j < l.length) {A:Option Addr} {n1 c1:Nat} (hx:IntsT w1 (.slice A n1 c1) (iL x.rows)):
 SortedD base w (.slice (some ⟨g,0,none⟩) n c) (l.set j x) (putD w1 g j x A n1 c1)∧KeepBut 79 w1 (putD w1 g j x A n1 c1):=by
 obtain ⟨h1,h2,h3,h4⟩:=h
 obtain ⟨a1,a2⟩:=h1.set_ hj hx
 exact ⟨⟨a1,h2.trans a2,(((h3.trans Others.of_set).trans Others.of_set).trans Others.of_set).trans Others.of_set,(((h4.setCell (p:=⟨g,j * 4,none⟩) hb _).setCell (p:=⟨g,j * 4+1,none⟩) hb _).setCell (p:=⟨g,j * 4+2,none⟩) hb _).setCell (p:=⟨g,j * 4+3,none⟩) hb _⟩,a2⟩
def CmpD (G:Nat) (cb:Array Value) (lt:Dc→Dc→Bool) (l:List Dc) (w:World):Prop:=
 ∀W,KeepBut 79 w W→w.heap.size≤W.heap.size→∀x∈l,∀y∈l,∀A n c A' n' c',Calls Tryz.prog G (#[.agg #[.int .i64 (x.idx:Int),.int .u32 (x.mask:Int),.slice A n c,.int .i64 x.sur],.agg #[.int .i64 (y.idx:Int),.int .u32 (y.mask:Int),.slice A' n' c',.int .i64 y.sur]]++cb) W fun e W'=>∃z:Int,e= .returned (.int .i64 z)∧decide (z < 0)=lt x y∧Below W.heap.size W W'
theorem Pl.sortB_take {α:Type} (lt:α→α→Bool) (l:List α):∀(i:Nat) (x:α),l[i]? =some x→sortB lt (l.take (i+1))=insB lt x (sortB lt (l.take i)):=fun i x hx=>by
 rw [List.take_add_one,hx];exact sortB_snoc lt _ _
theorem DcsO.shape {base:Nat} {w:World} {v:Value} {l:List Dc} (h:DcsO base w v l) (hp:0 < l.length):∃g c,v= .slice (some ⟨g,0,none⟩) l.length c∧base≤g∧g < w.heap.size∧l.length≤c∧c≤9223372036854775807:=by
 obtain ⟨cs,h1,_⟩:=h
 rcases h1.2 with ⟨rfl,e⟩ | ⟨g,cap,cur,rfl,hb,hg,hnc,hcm,hcs,htake⟩
 ·omega
 ·exact ⟨g,cap,rfl,hb,lt_heap hg,hnc,Nat.le_trans hcm (by unfold maxLen;omega)⟩
theorem CmpD.at_ {G:Nat} {cb:Array Value} {lt:Dc→Dc→Bool} {l:List Dc} {w:World} (h:CmpD G cb lt l w) {base:Nat} {v:Value} {l':List Dc} {W:World} (hs:SortedD base w v l' W) {x y:Dc} (hx:x∈l) (hy:y∈l) (A:Option Addr) (n c:Nat) (A':Option Addr) (n' c':Nat):
 Calls Tryz.prog G (#[.agg #[.int .i64 (x.idx:Int),.int .u32 (x.mask:Int),.slice A n c,.int .i64 x.sur],.agg #[.int .i64 (y.idx:Int),.int .u32 (y.mask:Int),.slice A' n' c',.int .i64 y.sur]]++cb) W fun e W'=>∃z:Int,e= .returned (.int .i64 z)∧decide (z < 0)=lt x y∧Below W.heap.size W W':=
 h W hs.2.1 hs.2.2.1.1 x hx y hy A n c A' n' c'
theorem insertionD_own (base:Nat) (v:Value) (l:List Dc) (w:World) (h:DcsO base w v l) (hl:l.length≤12) (n:Int) (hn:n=l.length) (G:Nat) (cb:Array Value) (lt:Dc→Dc→Bool)
 (eg:∀args w,(callFunc G args).run Tryz.prog w= .ok (.enter G args) w) (hc:CmpD G cb lt l w)
 (ir:∀x,lt x x=false) (tr:∀x y z,lt x y=true→lt y z=true→lt x z=true) (tr':∀x y z,lt x y=false→lt y z=false→lt x z=false):
 Calls Tryz.prog 83 #[v,.int .i64 0,.int .i64 n,.func (.func G) #[] cb] w fun e w'=>e= .returned (.tuple #[])∧SortedD base w v (sortB lt l) w':=by
 obtain ⟨m,hm⟩:∃m,m=l.length:=⟨_,rfl⟩
 rw [← hm] at hl hn
 subst hn
 have HM:=Lib.hid hm
 have HSRT:=fun i=>Lib.hid (sortB_srt ir tr (l.take i))
 have HCM:=Lib.hid hc
 have HSN:=Lib.hid (sortB_take lt l)
 clear hc
 rcases Nat.lt_or_ge 1 m with hm1 | hm1
 ·obtain ⟨g,c,rfl,hbg,hgw,hc1,hc2⟩:=DcsO.shape h (by omega)
  rw [← hm] at h hc1 ⊢
  have HBG:=Lib.hid hbg
  have hbw:base≤w.heap.size:=by omega
  have HI:=Lib.hid h
  have HEG:=Lib.hid eg
  clear h hm hc1 hc2 hgw
  go_enter Tryz.func83,Tryz.ntmps83
  go_wp2
  go_loopw [8,9] (fun s6 s7 wr=>∃i:Nat,1≤i∧i≤m∧s6= .int .i64 i∧SortedD base w (.slice (some ⟨g,0,none⟩) m c) (sortB lt (l.take i)++l.drop i) wr) (fun s6 _ _=>m - (intOf s6).toNat)
  case atStart=>exact ⟨1,by omega,by omega,rfl,by
   have e:sortB lt (l.take 1)++l.drop 1=l:=by
    cases l with
    | nil=>rfl
    | cons x l=>simp [sortB,insB]
   rw [e];exact ⟨HI.out,KeepBut.refl _ _,⟨Nat.le_refl _,fun _ _ _=>rfl⟩,Below.refl _ _⟩⟩
  case round=>
   obtain ⟨i,hi1,hi,rfl,HS⟩:=hrel
   rcases Nat.lt_or_ge i m with hil | hil
   ·obtain ⟨x,hx⟩:∃x,l[i]? =some x:=⟨l[i]'(by rw [← HM.out];exact hil),List.getElem?_eq_getElem _⟩
    have HX:=Lib.hid hx
    clear hx
    have HSH:=Lib.hid HS
    clear HS
    go_wp2
    go_loopw [9] (fun s7 wx=>∃(j:Nat) (a b:List Dc),j≤i∧s7= .int .i64 j∧Hid (a.length=j∧sortB lt (l.take i)=a++b∧insB lt x (sortB lt (l.take i))=insB lt x a++b)∧Hid (SortedD base w (.slice (some ⟨g,0,none⟩) m c) (a++x::(b++l.drop (i+1))) wx)) (fun s7 _=>(intOf s7).toNat)
    case atStart=>exact ⟨i,sortB lt (l.take i),[],by omega,rfl,Lib.hid ⟨by rw [sortB_length,List.length_take,← HM.out];omega,by simp,by simp⟩,Lib.hid (by
     have:=HSH.out
     rw [drop_at HX.out] at this
     simpa using this)⟩
    case round=>
     obtain ⟨j,a,b,hj,rfl,HA,HW⟩:=hrel
     have HOUT:Hid ((j=0∨∃a' y,a=a'++[y]∧lt x y=false)→a++x::(b++l.drop (i+1))=sortB lt (l.take (i+1))++l.drop (i+1)):=Lib.hid (fun hs=>by
      obtain ⟨h1,h2,h3⟩:=HA.out
      rw [HSN.out i x HX.out,h3]
      rcases hs with hs | ⟨a',y,rfl,hyx⟩
      ·have:a=[]:=List.eq_nil_of_length_eq_zero (by omega)
       subst this
       simp [insB]
      ·have hsr:=(HSRT i).out
       rw [h2] at hsr
       rw [insB_stop tr' (List.Pairwise.sublist (List.sublist_append_left _ _) hsr) hyx]
       simp)
     rcases Nat.eq_zero_or_pos j with hj0 | hj0
     ·subst hj0
      go_upto_region 4 with (fail)
      have hS0:=below_drew' wr
      refine region_seq 17 [0,1,2,3,4,5,6,7,8,9,10,11,12,13,14,15,16] (by kernel_rfl) (by kernel_rfl) ?_
      repeat ((first | (refine seq_takeP (v:=?_) rfl rfl rfl ?_ ?_;rotate_left;(· (intro _ hSw;go_simp;(try go_bits);(try with_reducible rfl)))) | (refine seq_take (v:=?_) rfl rfl rfl ?_ ?_;rotate_left;(· (intro _ hSw;go_simp;(try go_bits);(try with_reducible rfl)))) | refine seq_skip rfl rfl rfl ?_ | refine seq_skipc rfl rfl rfl (by assumption) ?_);(try simp only [Act.put,pu1,pu2,pu3,pu4,pu5,pu6]))
      refine seq_done ?_
      have HE:=Lib.hid (HOUT.out (.inl rfl))
      clear HOUT
      go_wp2
      go_roundw
      case rel=>exact ⟨i+1,by omega,by omega,by go_num,by
       have:=HW.out
       rw [HE.out] at this
       exact this.after hS0 hbw⟩
      case measure=>simp [intOf];omega
     ·obtain ⟨p,rfl⟩:∃p,j=p+1:=⟨j - 1,by omega⟩
      obtain ⟨a',y,rfl,hp⟩:∃a' y,a=a'++[y]∧a'.length=p:=by
       have h1:=HA.out.1
       have hne:a≠[]:=fun e=>by subst e;simp at h1
       refine ⟨a.dropLast,a.getLast hne,(List.dropLast_concat_getLast hne).symm,by simp;omega⟩
      have HP:=Lib.hid hp
      have hL:(a'++[y]++x::(b++l.drop (i+1)))=a'++y::x::(b++l.drop (i+1)):=by simp
      have HWo:=HW.out
      rw [hL] at HWo
      obtain ⟨Ax,nx,cx',⟨cx0,cx1,cx2,cx3⟩,_,hIx,_⟩:=HWo.1.at4 (k:=p+1) (x:=x) (by rw [← hp];simp)
      obtain ⟨Ay,ny,cy',⟨cy0,cy1,cy2,cy3⟩,_,hIy,_⟩:=HWo.1.at4 (k:=p) (x:=y) (by rw [← hp];simp)
      have HMX:Hid (x∈l∧y∈l):=Lib.hid ⟨List.mem_of_getElem? HX.out,by
       have h2:=HA.out.2.1
       have:y∈sortB lt (l.take i):=by rw [h2];simp
       exact List.mem_of_mem_take ((sortB_mem lt).1 this)⟩
      have HIX:=Lib.hid hIx
      have HIY:=Lib.hid hIy
      have HWO:=Lib.hid HWo
      clear hp hL HWo hIx hIy
      have p0:(0:Int)≤(p:Int)+1:=by omega
      have p1:(p:Int)+1 < m:=by omega
      have p2:(p:Int) < m:=by omega
      have p3:(0:Int) < (p:Int)+1:=by omega
      cases hxy:lt x y with
      | true=>
       have HN:Hid (a'.length=p∧sortB lt (l.take i)=a'++(y::b)∧insB lt x (sortB lt (l.take i))=insB lt x a'++(y::b)):=Lib.hid (by
        obtain ⟨_,h2,h3⟩:=HA.out
        refine ⟨HP.out,by simpa using h2,?_⟩
        have hsr:=(HSRT i).out
        rw [h2] at hsr
        rw [h3,insB_move ir tr tr' (List.Pairwise.sublist (List.sublist_append_left _ _) hsr) hxy]
        simp)
       have C0:=stab cx0
       have C1:=stab cx1
       have C2:=stab cx2
       have C3:=stab cx3
       have D0:=stab cy0
       have D1:=stab cy1
       have D2:=stab cy2
       have D3:=stab cy3
       have hS0:=below_drew' wr
       go_upto_region 4 with (fail)
       clear cx0 cx1 cx2 cx3 cy0 cy1 cy2 cy3
       refine region_seq 17 [0,1,2,3,4,5,6,7,8,9,10,11,12,13,14,15,16] (by kernel_rfl) (by kernel_rfl) ?_
       repeat ((first | (refine seq_takeP (v:=?_) rfl rfl rfl ?_ ?_;rotate_left;(· (intro _ hSw;go_simp;(try go_bits);(try with_reducible rfl)))) | (refine seq_take (v:=?_) rfl rfl rfl ?_ ?_;rotate_left;(· (intro _ hSw;go_simp;(try go_bits);(try with_reducible rfl)))) | refine seq_skip rfl rfl rfl ?_ | refine seq_skipc rfl rfl rfl (by assumption) ?_);(try simp only [Act.put,pu1,pu2,pu3,pu4,pu5,pu6]))
       refine seq_step rfl rfl (fun KR hKR=>?_)
       go_simp
       with_reducible refine (HCM.out.at_ (HWO.out.after hS0 hbw) HMX.out.1 HMX.out.2 _ _ _ _ _ _).mono ?_
       rintro _ w4 ⟨z,rfl,hz,hb4⟩
       rw [hxy] at hz
       have hS4:=below_then hS0 hb4 hS0.size
       refine hKR.out _ _ (Or.inr hS4) ?_
       clear hKR KR
       (try simp only [Act.put,pu1,pu2,pu3,pu4,pu5,pu6])
       repeat ((first | (refine seq_takeP (v:=?_) rfl rfl rfl ?_ ?_;rotate_left;(· (intro _ hSw;go_simp;(try go_bits);(try with_reducible rfl)))) | (refine seq_take (v:=?_) rfl rfl rfl ?_ ?_;rotate_left;(· (intro _ hSw;go_simp;(try go_bits);(try with_reducible rfl)))) | refine seq_skip rfl rfl rfl ?_ | refine seq_skipc rfl rfl rfl (by assumption) ?_);(try simp only [Act.put,pu1,pu2,pu3,pu4,pu5,pu6]))
       refine seq_done ?_
       clear C0 C1 C2 C3 D0 D1 D2 D3 HOUT
       go_upto_region 6 with (fail)
       have HS1:=Lib.hid (HWO.out.after hS4 hbw)
       clear hS0 hb4 hS4
       obtain ⟨Ax,nx,cx',⟨cx0,cx1,cx2,cx3⟩,⟨fx0,fx1,fx2,fx3⟩,hIx,_⟩:=HS1.out.1.at4 (k:=p+1) (x:=x) (by rw [← HP.out];simp)
       obtain ⟨Ay,ny,cy',⟨cy0,cy1,cy2,cy3⟩,⟨fy0,fy1,fy2,fy3⟩,hIy,_⟩:=HS1.out.1.at4 (k:=p) (x:=y) (by rw [← HP.out];simp)
       have C0:=stab cx0
       have C1:=stab cx1
       have C2:=stab cx2
       have C3:=stab cx3
       have D0:=stab cy0
       have D1:=stab cy1
       have D2:=stab cy2
       have D3:=stab cy3
       have hS1:=below_drew' w4
       refine region_seq 15 [0,1,2,3,4,5,6,7,8,9,10,11,12,13,14,15,16,17] (by kernel_rfl) (by kernel_rfl) ?_
       repeat ((first | (refine seq_takeP (v:=?_) rfl rfl rfl ?_ ?_;rotate_left;(· (intro _ hSw;go_simp;(try go_bits);(try with_reducible rfl)))) | (refine seq_take (v:=?_) rfl rfl rfl ?_ ?_;rotate_left;(· (intro _ hSw;go_simp;(try go_bits);(try with_reducible rfl)))) | refine seq_skip rfl rfl rfl ?_);(try simp only [Act.put,pu1,pu2,pu3,pu4,pu5,pu6]))
       refine seq_step rfl rfl (fun KR hKR=>?_)
       go_simp
       refine hKR.out _ _ (Or.inl (by decide)) ?_
       clear hKR KR
       (try simp only [Act.put,pu1,pu2,pu3,pu4,pu5,pu6])
       refine seq_step rfl rfl (fun KR hKR=>?_)
       go_simp
       refine hKR.out _ _ (Or.inl (by decide)) ?_
       clear hKR KR
       (try simp only [Act.put,pu1,pu2,pu3,pu4,pu5,pu6])
       refine seq_step rfl rfl (fun KR hKR=>?_)
       go_simp
       refine hKR.out _ _ (Or.inl (by decide)) ?_
       clear hKR KR
       (try simp only [Act.put,pu1,pu2,pu3,pu4,pu5,pu6])
       refine seq_done ?_
       obtain ⟨hq1,kk1⟩:=HS1.out.put HBG.out (j:=p+1) (x:=y) (by rw [← HP.out];simp) hIy
       obtain ⟨hq2,_⟩:=hq1.put HBG.out (j:=p) (x:=x) (by rw [← HP.out];simp) (hIx.but kk1 (by decide))
       rw [mid_swap HP.out] at hq2
       have HW2:=Lib.hid (hq2.after (below_drew' _) hbw)
       clear hq1 hq2 kk1
       unfold putD at HW2
       generalize ((((((((w4.setCell ⟨g,(p+1) * 4,none⟩ (.int .i64 (y.idx:Int))).setCell ⟨g,(p+1) * 4+1,none⟩ (.int .u32 (y.mask:Int))).setCell ⟨g,(p+1) * 4+2,none⟩ (.slice Ay ny cy')).setCell ⟨g,(p+1) * 4+3,none⟩ (.int .i64 y.sur)).setCell ⟨g,p * 4,none⟩ (.int .i64 (x.idx:Int))).setCell ⟨g,p * 4+1,none⟩ (.int .u32 (x.mask:Int))).setCell ⟨g,p * 4+2,none⟩ (.slice Ax nx cx')).setCell ⟨g,p * 4+3,none⟩ (.int .i64 x.sur)).drew=W2 at *
       clear C0 C1 C2 C3 D0 D1 D2 D3 hS1 cx0 cx1 cx2 cx3 cy0 cy1 cy2 cy3 fx0 fx1 fx2 fx3 fy0 fy1 fy2 fy3 hIx hIy
       go_wp2
       go_roundw
       case rel=>exact ⟨p,a',y::b,by omega,by go_num,HN,HW2⟩
       case measure=>simp [intOf]
      | false=>
       have HE:=Lib.hid (HOUT.out (.inr ⟨a',y,rfl,hxy⟩))
       clear HOUT
       have C0:=stab cx0
       have C1:=stab cx1
       have C2:=stab cx2
       have C3:=stab cx3
       have D0:=stab cy0
       have D1:=stab cy1
       have D2:=stab cy2
       have D3:=stab cy3
       have hS0:=below_drew' wr
       go_upto_region 4 with (fail)
       clear cx0 cx1 cx2 cx3 cy0 cy1 cy2 cy3
       refine region_seq 17 [0,1,2,3,4,5,6,7,8,9,10,11,12,13,14,15,16] (by kernel_rfl) (by kernel_rfl) ?_
       repeat ((first | (refine seq_takeP (v:=?_) rfl rfl rfl ?_ ?_;rotate_left;(· (intro _ hSw;go_simp;(try go_bits);(try with_reducible rfl)))) | (refine seq_take (v:=?_) rfl rfl rfl ?_ ?_;rotate_left;(· (intro _ hSw;go_simp;(try go_bits);(try with_reducible rfl)))) | refine seq_skip rfl rfl rfl ?_ | refine seq_skipc rfl rfl rfl (by assumption) ?_);(try simp only [Act.put,pu1,pu2,pu3,pu4,pu5,pu6]))
       refine seq_step rfl rfl (fun KR hKR=>?_)
       go_simp
       with_reducible refine (HCM.out.at_ (HWO.out.after hS0 hbw) HMX.out.1 HMX.out.2 _ _ _ _ _ _).mono ?_
       rintro _ w4 ⟨z,rfl,hz,hb4⟩
       rw [hxy] at hz
       have hS4:=below_then hS0 hb4 hS0.size
       refine hKR.out _ _ (Or.inr hS4) ?_
       clear hKR KR
       (try simp only [Act.put,pu1,pu2,pu3,pu4,pu5,pu6])
       repeat ((first | (refine seq_takeP (v:=?_) rfl rfl rfl ?_ ?_;rotate_left;(· (intro _ hSw;go_simp;(try go_bits);(try with_reducible rfl)))) | (refine seq_take (v:=?_) rfl rfl rfl ?_ ?_;rotate_left;(· (intro _ hSw;go_simp;(try go_bits);(try with_reducible rfl)))) | refine seq_skip rfl rfl rfl ?_ | refine seq_skipc rfl rfl rfl (by assumption) ?_);(try simp only [Act.put,pu1,pu2,pu3,pu4,pu5,pu6]))
       refine seq_done ?_
       clear C0 C1 C2 C3 D0 D1 D2 D3
       go_wp2
       go_roundw
       case rel=>exact ⟨i+1,by omega,by omega,by go_num,by
        have:=HW.out
        rw [HE.out] at this
        exact this.after hS4 hbw⟩
       case measure=>simp [intOf];omega
   ·obtain rfl:i=m:=by omega
    go_wp2
    go_end0
    exact ⟨rfl,by
     have e:sortB lt (l.take i)++l.drop i=sortB lt l:=by rw [HM.out];simp
     rw [e] at HS;exact HS⟩
 ·have HI:=Lib.hid h
  have HV:Hid (∃A c',v= .slice A m c'):=Lib.hid (by
   obtain ⟨A,c',rfl⟩:=RdO.slice h
   exact ⟨A,c',by rw [hm]⟩)
  have HE:Hid (sortB lt l=l):=Lib.hid (by
   match l,hm with
   | [],_=>rfl
   | [x],_=>rfl
   | x::y::zs,hm=>simp at hm;omega)
  clear h hm
  go_enter Tryz.func83,Tryz.ntmps83
  go_wp2
  go_loopw [8] (fun s6 wr=>s6= .int .i64 1∧wr=w) (fun s6 _=>0)
  case atStart=>exact ⟨rfl,rfl⟩
  case round=>
   obtain ⟨rfl,rfl⟩:=hrel
   go_wp2
   go_end0
   exact ⟨rfl,by rw [HE.out];exact ⟨HI.out,KeepBut.refl _ _,⟨Nat.le_refl _,fun _ _ _=>rfl⟩,Below.refl _ _⟩⟩
theorem stableD_own (base:Nat) (v:Value) (l:List Dc) (w:World) (h:DcsO base w v l) (hl:l.length≤12) (n:Int) (hn:n=l.length) (G:Nat) (cb:Array Value) (lt:Dc→Dc→Bool)
 (eg:∀args w,(callFunc G args).run Tryz.prog w= .ok (.enter G args) w) (hc:CmpD G cb lt l w)
 (ir:∀x,lt x x=false) (tr:∀x y z,lt x y=true→lt y z=true→lt x z=true) (tr':∀x y z,lt x y=false→lt y z=false→lt x z=false):
 Calls Tryz.prog 61 #[v,.int .i64 n,.func (.func G) #[] cb] w fun e w'=>e= .returned (.tuple #[])∧SortedD base w v (sortB lt l) w':=by
 have h00:0≤n:=by omega
 have h12:n≤12:=by omega
 have hn1:¬(20:Int)≤n:=by omega
 have hn2:¬(20:Int) < n:=by omega
 have HI:=Lib.hid h
 have HN:=Lib.hid hn
 have HC:=Lib.hid hc
 have HEG:=Lib.hid eg
 obtain ⟨A,n',c',rfl⟩:=RdO.sliceN h
 clear h hn hc
 go_enter Tryz.func61,Tryz.ntmps61
 go_wp2
 refine wp_loop_rounds 1 ?_
 rw [rounds_succ]
 go_wp2_with fail
 refine (insertionD_own base _ l _ HI.out (by have:=HN.out;omega) n HN.out G cb lt eg HC.out ir tr tr').mono ?_
 rintro _ w1 ⟨rfl,hs⟩
 go_wp2
 refine wp_loop_rounds 1 ?_
 rw [rounds_succ]
 go_wp2
 go_end0
 exact ⟨rfl,hs⟩
theorem sortD_own (base:Nat) (v:Value) (l:List Dc) (w:World) (h:DcsO base w v l) (hl:l.length≤12) (G:Nat) (cb:Array Value) (lt:Dc→Dc→Bool)
 (eg:∀args w,(callFunc G args).run Tryz.prog w= .ok (.enter G args) w) (hc:CmpD G cb lt l w)
 (ir:∀x,lt x x=false) (tr:∀x y z,lt x y=true→lt y z=true→lt x z=true) (tr':∀x y z,lt x y=false→lt y z=false→lt x z=false):
 Calls Tryz.prog 35 #[v,.func (.func G) #[] cb] w fun e w'=>e= .returned (.tuple #[])∧SortedD base w v (sortB lt l) w':=by
 obtain ⟨A,n,c,rfl⟩:=RdO.sliceN h
 obtain ⟨hn,_,_⟩:=RdM.len (RdO.rd h)
 have HI:=Lib.hid h
 have HN:=Lib.hid hn
 have HC:=Lib.hid hc
 have h12:n≤12:=by omega
 clear h hn hc
 go_enter Tryz.func35,Tryz.ntmps35
 go_wp2_with fail
 refine (stableD_own base _ l _ HI.out hl (n:Int) (by rw [HN.out]) G cb lt eg HC.out ir tr tr').mono ?_
 rintro _ w1 ⟨rfl,hs⟩
 go_wp2
 go_end0
 exact ⟨rfl,hs⟩
def Pl.VOK (f:RF):Prop:=∃q,f=canF q∧Sz 2 q
theorem Pl.VOK.sm {f:RF} (h:VOK f):f.Sm:=by
 obtain ⟨q,rfl,h2⟩:=h
 exact (h2.sh (by decide)).sm
theorem Bk.keepF {w:World} {g:Nat} {a b c d:Value} (h:Bk w g 59 [a,b,c,d]) (x y z u:Value):KeepBut 59 w ((((w.setCell ⟨g,0,none⟩ x).setCell ⟨g,1,none⟩ y).setCell ⟨g,2,none⟩ z).setCell ⟨g,3,none⟩ u):=
 (((KeepBut.setCell h 0 x).trans (KeepBut.setCell (h.set_ 0 x) 1 y)).trans (KeepBut.setCell ((h.set_ 0 x).set_ 1 y) 2 z)).trans (KeepBut.setCell (((h.set_ 0 x).set_ 1 y).set_ 2 z) 3 u)
def ValPost (n:Nat) (w:World) (e:Ending) (w':World):Prop:=∃v' fs,e= .returned v'∧FrsO w.heap.size w' v' fs∧fs.length=n∧(∀f∈fs,VOK f)∧Below w.heap.size w w'
theorem values_own (v:Value) (zs:List Int) (n:Int) (w:World) (h:IntsM w v zs) (hn0:0≤n) (hn:n≤1000):
 Calls Tryz.prog 13 #[v,.int .i64 n] w (ValPost n.toNat w):=by
 obtain ⟨N,rfl⟩:=Int.eq_ofNat_of_zero_le hn0
 obtain ⟨A,c,rfl,hc1,hc2⟩:=h.shape
 have hN:N≤1000:=by omega
 have HI:=Lib.hid h
 have m1:=i64_and1
 have hO0:=FrsO.nil w.heap.size w
 generalize zs.length=n at *
 clear h hn0 hn
 go_enter Tryz.func13,Tryz.ntmps13
 go_wp2
 go_loopw [5,6] (fun s5 x wr=>∃(k:Nat) (fs:List RF),k≤N∧x= .int .i64 k∧Below w.heap.size w wr∧fs.length=k∧Hid (FrsO w.heap.size wr s5 fs∧∀f∈fs,VOK f)) (fun _ x _=>N - (intOf x).toNat)
 case atStart=>exact ⟨0,[],by omega,rfl,Below.refl _ _,rfl,Lib.hid ⟨hO0,by simp⟩⟩
 case round=>
  clear hO0
  obtain ⟨k,fs,hk,rfl,hb,hfl,HF⟩:=hrel
  have HFL:=Lib.hid hfl
  clear hfl
  rcases Nat.lt_or_ge k N with hkl | hkl
  ·have hkz:(k:Int) < N:=by omega
   go_wp2_with fail
   refine (at_any _ zs k _ (HI.out.below hb) (by omega)).mono ?_
   rintro _ w1 ⟨z,rfl,z0,z1,hb1⟩
   have hb2:=below_then hb hb1 hb.size
   have HF2:=Lib.hid (And.intro (HF.out.1.below hb1) HF.out.2)
   clear hb hb1 HF
   have r1:0≤z % 4:=by omega
   have r2:z % 4≤3:=by omega
   have r3:0≤z / 4 % 2:=by omega
   have r4:z / 4 % 2≤1:=by omega
   go_wp2_with fail
   refine (rint_own (z % 4) _ (by omega) (by omega)).mono ?_
   rintro _ w3 ⟨v3,rfl,e3,hb3⟩
   go_wp2_with fail
   refine (rint_own (2+z / 4 % 2) _ (by omega) (by omega)).mono ?_
   rintro _ w4 ⟨v4,rfl,e4,hb4⟩
   have s1:Sz 1 (((z % 4:Int)):Rat):=Sz_int (by omega) (by omega)
   have s2:Sz 1 (((2+z / 4 % 2:Int)):Rat):=Sz_int (by omega) (by omega)
   go_wp2_with fail
   refine (rdivF_own _ _ _ _ _ (e3.frac.below hb4) e4.frac (s1.sh (by decide)) (s2.sh (by decide))).mono ?_
   rw [canF_q,canF_q]
   rintro _ w5 ⟨v5,rfl,e5,hb5⟩
   have HV5:Hid (FracM w5 v5 (canF (((z % 4:Int):Rat) / ((2+z / 4 % 2:Int):Rat)))∧VOK (canF (((z % 4:Int):Rat) / ((2+z / 4 % 2:Int):Rat)))):=Lib.hid ⟨e5.frac,_,rfl,Sz_div s1 s2⟩
   have hS5:=below_then (below_then hb3 hb4 hb3.size) hb5 (by have:=hb3.size;have:=hb4.size;omega)
   have hb6:=below_then hb2 hS5 hb2.size
   have HF6:=Lib.hid (And.intro (HF2.out.1.below hS5) HF2.out.2)
   clear s1 s2 e3 e4 e5 hb3 hb4 hb5 HF2 hb2 hS5
   generalize canF (((z % 4:Int):Rat) / ((2+z / 4 % 2:Int):Rat))=f5 at *
   obtain ⟨B,l,d,B',l',d',hv5,_,_⟩:=id HV5.out.1
   subst hv5
   go_upto_if 28 with (fail)
   have hB0:=Bk.new w5 59 [.bool f5.num.neg,.slice B l d,.bool f5.den.neg,.slice B' l' d']
   have hS0:=below_new w5 (.cells #[.bool f5.num.neg,.slice B l d,.bool f5.den.neg,.slice B' l' d'] 59)
   have e:(#[.bool f5.num.neg,.slice B l d,.bool f5.den.neg,.slice B' l' d']:Array Value)=[.bool f5.num.neg,.slice B l d,.bool f5.den.neg,.slice B' l' d'].toArray:=rfl
   rw [← e] at hB0
   clear e
   generalize w5.alloc (.cells #[.bool f5.num.neg,.slice B l d,.bool f5.den.neg,.slice B' l' d'] 59)=W5 at *
   have HV6:Hid (FracM W5 (.agg #[.bool f5.num.neg,.slice B l d,.bool f5.den.neg,.slice B' l' d']) f5∧VOK f5):=Lib.hid ⟨HV5.out.1.below hS0,HV5.out.2⟩
   clear HV5
   go_cut [7] (fun s7 wx=>∃(f:RF) (C:Option Addr) (a1 a2:Nat) (C':Option Addr) (a3 a4:Nat),Below w5.heap.size w5 wx∧Bk wx w5.heap.size 59 [.bool f.num.neg,.slice C a1 a2,.bool f.den.neg,.slice C' a3 a4]∧Hid (FracM wx (.agg #[.bool f.num.neg,.slice C a1 a2,.bool f.den.neg,.slice C' a3 a4]) f∧VOK f))
   case first=>
    by_cases h29:z % 29=28
    ·have h29':(z % 29==28)=true:=by simpa using h29
     clear h29
     go_wp2_with fail
     refine (rint_own (-1) _ (by omega) (by omega)).mono ?_
     rintro _ w6 ⟨v6,rfl,e6,hb16⟩
     go_wp2_with fail
     refine (rint_own 3 _ (by omega) (by omega)).mono ?_
     rintro _ w7 ⟨v7,rfl,e7,hb17⟩
     have s1:Sz 1 (((-1:Int)):Rat):=Sz_int (by omega) (by omega)
     have s2:Sz 1 (((3:Int)):Rat):=Sz_int (by omega) (by omega)
     go_wp2_with fail
     refine (rdivF_own _ _ _ _ _ (e6.frac.below hb17) e7.frac (s1.sh (by decide)) (s2.sh (by decide))).mono ?_
     rw [canF_q,canF_q]
     rintro _ w8 ⟨v8,rfl,e8,hb18⟩
     have HV8:Hid (FracM w8 v8 (canF (((-1:Int):Rat) / ((3:Int):Rat)))∧VOK (canF (((-1:Int):Rat) / ((3:Int):Rat)))):=Lib.hid ⟨e8.frac,_,rfl,Sz_div s1 s2⟩
     have hS8:=below_then (below_then hb16 hb17 hb16.size) hb18 (by have:=hb16.size;have:=hb17.size;omega)
     have hB8:=hB0.later hS8
     have hS9:=below_then hS0 hS8 hS0.size
     clear s1 s2 e6 e7 e8 hb16 hb17 hb18 hB0 hS0 hS8 HV6
     generalize canF (((-1:Int):Rat) / ((3:Int):Rat))=f8 at *
     obtain ⟨C,a1,a2,C',a3,a4,hv8,_,_⟩:=id HV8.out.1
     subst hv8
     obtain ⟨c0,c1,c2,c3⟩:=hB8.four
     obtain ⟨q0,q1,q2,q3⟩:=hB8.fourF
     have kk:=hB8.keepF (.bool f8.num.neg) (.slice C a1 a2) (.bool f8.den.neg) (.slice C' a3 a4)
     have hB9:=hB8.set4 (.bool f8.num.neg) (.slice C a1 a2) (.bool f8.den.neg) (.slice C' a3 a4)
     have HV9:=Lib.hid (And.intro (HV8.out.1.keep (kk.keep (by decide))) HV8.out.2)
     have hS10:=below_set4 hS9 (Nat.le_refl _) (.bool f8.num.neg) (.slice C a1 a2) (.bool f8.den.neg) (.slice C' a3 a4)
     clear kk HV8
     go_wp2
     go_meet
     exact ⟨f8,C,a1,a2,C',a3,a4,hS10,hB9,HV9⟩
    ·have h29':(z % 29==28)=false:=by simpa using h29
     clear h29
     go_wp2
     go_meet
     exact ⟨f5,B,l,d,B',l',d',hS0,hB0,HV6⟩
   case rest=>
    clear hS0 hB0 HV6
    obtain ⟨f,C,a1,a2,C',a3,a4,hS,hB,HV⟩:=hcut
    have hb7:=below_then hb6 hS hb6.size
    have HO:=Lib.hid (HF6.out.1.below hS)
    have HFM:=Lib.hid HV.out.1
    obtain ⟨c0,c1,c2,c3⟩:=hB.four
    have hlen:fs.length+1≤1099511627776:=by have:=HFL.out;omega
    have hbs:=hb7.size
    clear hb6 hS
    go_wp2_with (at_builtin;refine wpList_append_frac rfl (.tmp 32) (.tmp 34) rfl wc w.heap.size u5 fs rfl HO.out _ _ C C' a1 a2 a3 a4 f HFM.out rfl hlen hbs ?_)
    intro v9 w9 hown9 hk9 hb9
    have hb10:=hb7.trans hb9
    have HN:Hid (FrsO w.heap.size w9 v9 (fs++[f])∧∀g∈fs++[f],VOK g):=Lib.hid ⟨hown9,fun g hg=>by
     rcases List.mem_append.1 hg with hg | hg
     ·exact HF6.out.2 g hg
     ·simp at hg;subst hg;exact HV.out.2⟩
    clear hown9 hk9 hb9 hB c0 c1 c2 c3 HO HFM
    go_wp2
    go_roundw
    case rel=>exact ⟨k+1,_,by omega,by go_num,hb10,by simp;exact HFL.out,HN⟩
    case measure=>simp [intOf];omega
  ·obtain rfl:N=k:=by omega
   have HX:=Lib.hid (And.intro HF.out.1 (And.intro HFL.out HF.out.2))
   go_wp2
   go_ret
   exact ⟨_,fs,rfl,HX.out.1,HX.out.2.1,HX.out.2.2,hb⟩
theorem isNaN_any (x:Int) (w:World):Calls Tryz.prog 66 #[.int .i64 x] w fun e w'=>e= .returned (.bool false)∧w'=w:=by
 go_enter Tryz.func66,Tryz.ntmps66
 go_wp2
 go_ret
 exact ⟨rfl,rfl⟩
def Pl.cmpI (x y:Int):Int:=if x < y then -1 else if y < x then 1 else 0
theorem cmpInt_any (x y:Int) (w:World):Calls Tryz.prog 39 #[.int .i64 x,.int .i64 y] w fun e w'=>e= .returned (.int .i64 (cmpI x y))∧w'=w:=by
 go_enter Tryz.func39,Tryz.ntmps39
 go_wp2_with fail
 refine (isNaN_any x _).mono ?_
 rintro _ _ ⟨rfl,rfl⟩
 go_wp2_with fail
 refine (isNaN_any y _).mono ?_
 rintro _ _ ⟨rfl,rfl⟩
 rcases Int.lt_trichotomy x y with h | h | h
 ·have e:Hid (cmpI x y= -1):=Lib.hid (by unfold cmpI;rw [if_pos h])
  go_wp2
  go_ret
  exact ⟨by rw [e.out];rfl,rfl⟩
 ·subst h
  have e:Hid (cmpI x x=0):=Lib.hid (by unfold cmpI;simp)
  go_wp2
  go_ret
  exact ⟨by rw [e.out];rfl,rfl⟩
 ·have e:Hid (cmpI x y=1):=Lib.hid (by unfold cmpI;rw [if_neg (by omega),if_pos h])
  have h':¬x < y:=by omega
  go_wp2
  go_ret
  exact ⟨by rw [e.out];rfl,rfl⟩
theorem box_dc2 (w:World) (a b c d a' b' c' d':Value):∃W,(w.alloc (.cells #[a,b,c,d] 79)).alloc (.cells #[a',b',c',d'] 79)=W∧(w.alloc (.cells #[a,b,c,d] 79)).heap.size=w.heap.size+1∧Bk W w.heap.size 79 [a,b,c,d]∧Bk W (w.heap.size+1) 79 [a',b',c',d']∧Below w.heap.size w W:=by
 have h1:=Bk.new w 79 [a,b,c,d]
 have h2:=Bk.new (w.alloc (.cells [a,b,c,d].toArray 79)) 79 [a',b',c',d']
 have b1:=below_new w (.cells [a,b,c,d].toArray 79)
 have b2:=below_new (w.alloc (.cells [a,b,c,d].toArray 79)) (.cells [a',b',c',d'].toArray 79)
 have hs:(w.alloc (.cells [a,b,c,d].toArray 79)).heap.size=w.heap.size+1:=by simp
 refine ⟨_,rfl,hs,h1.later b2,?_,below_then b1 b2 b1.size⟩
 rw [hs] at h2
 exact h2
theorem cmpLow_any (x y:Dc) (A:Option Addr) (n c:Nat) (A':Option Addr) (n' c':Nat) (w:World):
 Calls Tryz.prog 38 #[.agg #[.int .i64 (x.idx:Int),.int .u32 (x.mask:Int),.slice A n c,.int .i64 x.sur],.agg #[.int .i64 (y.idx:Int),.int .u32 (y.mask:Int),.slice A' n' c',.int .i64 y.sur]] w fun e w'=>e= .returned (.int .i64 (cmpI x.sur y.sur))∧Below w.heap.size w w':=by
 obtain ⟨W,hW,hsz,hX,hY,hbe⟩:=box_dc2 w (.int .i64 (x.idx:Int)) (.int .u32 (x.mask:Int)) (.slice A n c) (.int .i64 x.sur) (.int .i64 (y.idx:Int)) (.int .u32 (y.mask:Int)) (.slice A' n' c') (.int .i64 y.sur)
 obtain ⟨p1,p2,p3,p4⟩:=hX.four
 obtain ⟨r1,r2,r3,r4⟩:=hY.four
 go_enter Tryz.func38,Tryz.ntmps38
 go_wp2_with fail
 refine (cmpInt_any x.sur y.sur _).mono ?_
 rintro _ _ ⟨rfl,rfl⟩
 go_wp2
 go_ret
 exact ⟨rfl,hbe⟩
def ValB (w:World) (g:Nat) (fs:List RF):Prop:=∃B m d,Bk w g 35 [.slice B m d]∧FrsM w (.slice B m d) fs
theorem FrC.but {w w':World} {e:TypeId} {cs:List Value} {fs:List RF} (h:FrC w cs fs) (hk:KeepBut e w w') (h1:72≠e):FrC w' cs fs:=h.keep (hk.keep h1)
theorem ValB.but {w w':World} {e:TypeId} {g:Nat} {fs:List RF} (h:ValB w g fs) (hk:KeepBut e w w') (h1:35≠e) (h2:59≠e) (h3:72≠e):ValB w' g fs:=by
 obtain ⟨B,m,d,g1,cs,g2,g3⟩:=h
 exact ⟨B,m,d,hk.bk g1 h1,cs,hk.row g2 h2,g3.but hk h3⟩
theorem ValB.below {w w':World} {g:Nat} {fs:List RF} (h:ValB w g fs) (hb:Below w.heap.size w w'):ValB w' g fs:=by
 obtain ⟨B,m,d,g1,g2⟩:=h
 exact ⟨B,m,d,g1.later hb,g2.below hb⟩
theorem cmpHigh_any (x y:Dc) (A:Option Addr) (n c:Nat) (A':Option Addr) (n' c':Nat) (g:Nat) (fs:List RF) (w:World) (h:ValB w g fs) (hv:∀f∈fs,VOK f) (hx:x.idx < fs.length) (hy:y.idx < fs.length):
 Calls Tryz.prog 36 #[.agg #[.int .i64 (x.idx:Int),.int .u32 (x.mask:Int),.slice A n c,.int .i64 x.sur],.agg #[.int .i64 (y.idx:Int),.int .u32 (y.mask:Int),.slice A' n' c',.int .i64 y.sur],.pointer (some ⟨g,0,none⟩)] w fun e w'=>e= .returned (.int .i64 (qs (qAt fs y.idx - qAt fs x.idx)))∧Below w.heap.size w w':=by
 obtain ⟨W,hW,hsz,hX,hY,hbe⟩:=box_dc2 w (.int .i64 (x.idx:Int)) (.int .u32 (x.mask:Int)) (.slice A n c) (.int .i64 x.sur) (.int .i64 (y.idx:Int)) (.int .u32 (y.mask:Int)) (.slice A' n' c') (.int .i64 y.sur)
 obtain ⟨B,m,d,hB,hF⟩:=h.below hbe
 obtain ⟨fx,hfx⟩:∃f,fs[x.idx]? =some f:=⟨_,List.getElem?_eq_getElem hx⟩
 obtain ⟨fy,hfy⟩:∃f,fs[y.idx]? =some f:=⟨_,List.getElem?_eq_getElem hy⟩
 have HV:Hid (qAt fs x.idx=fx.q∧qAt fs y.idx=fy.q∧fx.Sm∧fy.Sm):=Lib.hid ⟨by unfold qAt;rw [hfx],by unfold qAt;rw [hfy],(hv fx (List.mem_of_getElem? hfx)).sm,(hv fy (List.mem_of_getElem? hfy)).sm⟩
 have hm:m=fs.length:=by
  obtain ⟨A',c',e,_⟩:=hF.shape
  injection e
 rw [← hm] at hx hy
 have hxz:(x.idx:Int) < m:=by omega
 have hyz:(y.idx:Int) < m:=by omega
 clear hm
 have HF:=Lib.hid hF
 obtain ⟨b,off,A1,n1,c1,A2,n2,c2,hA,_,⟨x0,x1,x2,x3⟩,ex⟩:=hF.elem (Below.refl _ _) hfx
 obtain ⟨b',off',A3,n3,c3,A4,n4,c4,hA',_,⟨y0,y1,y2,y3⟩,ey⟩:=hF.elem (Below.refl _ _) hfy
 subst hA
 injection hA' with hA'
 injection hA' with q1 q2 _
 subst q1 q2
 have HEX:=Lib.hid ex
 have HEY:=Lib.hid ey
 obtain ⟨p1,p2,p3,p4⟩:=hX.four
 obtain ⟨r1,r2,r3,r4⟩:=hY.four
 have b0:=hB.cellAt 0 rfl
 clear hF hfx hfy h hv ex ey
 go_enter Tryz.func36,Tryz.ntmps36
 go_upto_region 1 with (fail)
 have C0:=stab x0
 have C1:=stab x1
 have C2:=stab x2
 have C3:=stab x3
 have D0:=stab y0
 have D1:=stab y1
 have D2:=stab y2
 have D3:=stab y3
 have E0:=stab p1
 have E1:=stab r1
 have E2:=stab b0
 have hS0:=below_drew' W
 clear x0 x1 x2 x3 y0 y1 y2 y3 p1 p2 p3 p4 r1 r2 r3 r4 b0
 refine region_seq 12 [0,1,2,3,4,5,6,7,8,9,10,11] (by kernel_rfl) (by kernel_rfl) ?_
 repeat ((first | (refine seq_takeP (v:=?_) rfl rfl rfl ?_ ?_;rotate_left;(· (intro _ hSw;go_simp;(try go_bits);(try with_reducible rfl)))) | (refine seq_take (v:=?_) rfl rfl rfl ?_ ?_;rotate_left;(· (intro _ hSw;go_simp;(try go_bits);(try with_reducible rfl)))) | refine seq_skip rfl rfl rfl ?_);(try simp only [Act.put,pu1,pu2,pu3,pu4,pu5,pu6]))
 refine seq_step rfl rfl (fun KR hKR=>?_)
 go_simp
 with_reducible refine (compareF_any _ _ fy fx _ (HEY.out.below hS0) (HEX.out.below hS0) HV.out.2.2.2 HV.out.2.2.1).mono ?_
 rintro _ w4 ⟨rfl,hb4⟩
 have hS4:=below_then hS0 hb4 hS0.size
 refine hKR.out _ _ (Or.inr hS4) ?_
 clear hKR KR
 (try simp only [Act.put,pu1,pu2,pu3,pu4,pu5,pu6])
 repeat ((first | (refine seq_takeP (v:=?_) rfl rfl rfl ?_ ?_;rotate_left;(· (intro _ hSw;go_simp;(try go_bits);(try with_reducible rfl)))) | (refine seq_take (v:=?_) rfl rfl rfl ?_ ?_;rotate_left;(· (intro _ hSw;go_simp;(try go_bits);(try with_reducible rfl)))) | refine seq_skip rfl rfl rfl ?_);(try simp only [Act.put,pu1,pu2,pu3,pu4,pu5,pu6]))
 refine seq_done ?_
 have hb5:=below_then hbe hS4 hbe.size
 have HQ:Hid (qs (fy.q - fx.q)=qs (qAt fs y.idx - qAt fs x.idx)):=Lib.hid (by rw [HV.out.1,HV.out.2.1])
 clear C0 C1 C2 C3 D0 D1 D2 D3 E0 E1 E2
 go_wp2
 go_ret
 exact ⟨by rw [← HQ.out];rfl,hb5⟩
namespace Pl
def fillS (a:Nat × List Int) (x:Dc):Nat × List Int:=if x.mask &&& a.1=0 then (a.1 ||| x.mask,a.2++[(x.idx:Int)]) else a
def fillP (l:List Dc) (a:Nat × List Int):Nat × List Int:=l.foldl fillS a
theorem fillP_succ {l:List Dc} {k:Nat} {x:Dc} (h:l[k]? =some x) (a:Nat × List Int):fillP (l.take (k+1)) a=fillS (fillP (l.take k) a) x:=by
 unfold fillP
 rw [List.take_add_one,h]
 simp
end Pl
structure Kp2 (w w':World):Prop where
 block:∀(b:Nat) (cs:Array Value) (t:TypeId) (fz:Nat × Nat),t≠72→t≠22→w.heap[b]? =some (.cells cs t fz)→w'.heap[b]? =some (.cells cs t fz)
 size:w.heap.size≤w'.heap.size
theorem Kp2.refl (w:World):Kp2 w w:=⟨fun _ _ _ _ _ _ h=>h,Nat.le_refl _⟩
theorem Kp2.later {w a b:World} (h:Kp2 w a) (hb:Below a.heap.size a b):Kp2 w b:=⟨fun i cs t fz h1 h2 h3=>by
 have h4:=h.block i cs t fz h1 h2 h3
 exact (hb.block i (lt_heap h4)).trans h4,Nat.le_trans h.size hb.size⟩
theorem Kp2.old {w a b:World} (h:Kp2 w a) (hb:Below w.heap.size a b):Kp2 w b:=⟨fun i cs t fz h1 h2 h3=>by
 have h4:=h.block i cs t fz h1 h2 h3
 exact (hb.block i (lt_heap h3)).trans h4,Nat.le_trans h.size hb.size⟩
theorem Kp2.but {w a b:World} {e:TypeId} (h:Kp2 w a) (hk:KeepBut e a b) (hs:a.heap.size≤b.heap.size) (he:e=72∨e=22):Kp2 w b:=⟨fun i cs t fz h1 h2 h3=>hk i cs t fz (by rcases he with rfl | rfl;exact h1;exact h2) (h.block i cs t fz h1 h2 h3),Nat.le_trans h.size hs⟩
theorem Kp2.row {w w':World} (h:Kp2 w w') {t:TypeId} {s n:Nat} {v:Value} {xs:List Value} (hr:RowM w t s v n xs) (h1:t≠72) (h2:t≠22):RowM w' t s v n xs:=by
 obtain ⟨A,c,g1,g2,g3,g4,g5⟩:=hr
 refine ⟨A,c,g1,g2,g3,g4,fun hp=>?_⟩
 obtain ⟨b,off,cs,fz,hA,hc,hx⟩:=g5 hp
 exact ⟨b,off,cs,fz,hA,h.block b cs t fz h1 h2 hc,hx⟩
theorem Kp2.dcs {w w':World} (h:Kp2 w w') {v:Value} {l:List Dc} (hr:DcsM w v l):DcsM w' v l:=by
 obtain ⟨cs,h1,h2⟩:=hr
 refine ⟨cs,h.row h1 (by decide) (by decide),fun k x hx=>?_⟩
 obtain ⟨u,⟨A,n,c,g1,g2,g3⟩,g4,g5⟩:=h2 k x hx
 exact ⟨u,⟨A,n,c,g1,h.row g2 (by decide) (by decide),g3⟩,g4,g5⟩
def FillAt (w0:World) (gu gs:Nat) (a:Nat × List Int) (w:World):Prop:=∃A n c,Bk w gu 72 [.int .u32 (a.1:Int)]∧Bk w gs 22 [.slice A n c]∧IntsO w0.heap.size w (.slice A n c) a.2∧Kp2 w0 w
theorem FillAt.later {w0 w w':World} {gu gs:Nat} {a:Nat × List Int} (h:FillAt w0 gu gs a w) (hb:Below w.heap.size w w'):FillAt w0 gu gs a w':=by
 obtain ⟨A,n,c,h1,h2,h3,h4⟩:=h
 exact ⟨A,n,c,h1.later hb,h2.later hb,h3.below hb,h4.later hb⟩
theorem fill_own (v:Value) (l:List Dc) (w0 w:World) (gu gs B:Nat) (a:Nat × List Int) (h:DcsM w0 v l) (hl:l.length≤100) (hm:∀x∈l,x.mask < 64∧x.idx < 1000) (ha:a.1 < 64) (ha2:a.2.length≤100) (hf:FillAt w0 gu gs a w) (hgu:B≤gu) (hgs:B≤gs) (hB:B≤w0.heap.size) (hug:gu≠gs):
 Calls Tryz.prog 33 #[v,.pointer (some ⟨gu,0,none⟩),.pointer (some ⟨gs,0,none⟩)] w fun e w'=>e= .returned (.tuple #[])∧FillAt w0 gu gs (fillP l a) w'∧Below B w w':=by
 obtain ⟨Al,cl,rfl,hl2,hl3⟩:=RdM.shape h
 obtain ⟨n,hn⟩:∃n,n=l.length:=⟨_,rfl⟩
 rw [← hn] at h hl2 hl ⊢
 have HN:=Lib.hid hn
 have HD:=Lib.hid h
 have HM:=Lib.hid hm
 have HF:=Lib.hid hf
 clear h hn hm hf
 go_enter Tryz.func33,Tryz.ntmps33
 go_wp2
 go_loopw [8] (fun x wr=>∃(k:Nat) (M:Nat) (ys:List Int),k≤n∧x= .int .i64 k∧M < 64∧ys.length≤100+k∧Hid (fillP (l.take k) a=(M,ys)∧FillAt w0 gu gs (M,ys) wr)∧Below B w wr) (fun x _=>n - (intOf x).toNat)
 case atStart=>exact ⟨0,a.1,a.2,by omega,rfl,ha,by omega,Lib.hid ⟨by simp [fillP],HF.out⟩,Below.refl _ _⟩
 case round=>
  obtain ⟨k,M,ys,hk,rfl,hM,hys,HP,hb⟩:=hrel
  rcases Nat.lt_or_ge k n with hkl | hkl
  ·obtain ⟨x,hx⟩:∃x,l[k]? =some x:=⟨l[k]'(by rw [← HN.out];exact hkl),List.getElem?_eq_getElem _⟩
   have HX:=Lib.hid hx
   have hkz:(k:Int) < n:=by omega
   obtain ⟨As,ns,cs,hU,hS,hO,hK⟩:=HP.out.2
   obtain ⟨b,off,A1,n1,c1,hA,_,⟨x0,x1,x2,x3⟩,hI⟩:=(hK.dcs HD.out).elem (Below.refl _ _) hx
   subst hA
   obtain ⟨hxm,hxi⟩:=HM.out x (List.mem_of_getElem? hx)
   have hand:=u32_and (show x.mask < 4294967296 by omega) (show M < 4294967296 by omega)
   have hor:=u32_or (show M < 4294967296 by omega) (show x.mask < 4294967296 by omega)
   have hlt:M ||| x.mask < 64:=Nat.or_lt_two_pow (n:=6) hM hxm
   clear hx
   have hgu2:gu < wr.heap.size:=hU.lt
   have hgs2:gs < wr.heap.size:=hS.lt
   have hU0:=hU.cellAt 0 rfl
   have hS0:=hS.cellAt 0 rfl
   have fU:=hU.frozen 0
   have fS:=hS.frozen 0
   go_upto_if 16 with (fail)
   have hX0:=Bk.new wr 79 [.int .i64 (x.idx:Int),.int .u32 (x.mask:Int),.slice A1 n1 c1,.int .i64 x.sur]
   have hbw:=below_new wr (.cells #[.int .i64 (x.idx:Int),.int .u32 (x.mask:Int),.slice A1 n1 c1,.int .i64 x.sur] 79)
   have e:(#[.int .i64 (x.idx:Int),.int .u32 (x.mask:Int),.slice A1 n1 c1,.int .i64 x.sur]:Array Value)=[.int .i64 (x.idx:Int),.int .u32 (x.mask:Int),.slice A1 n1 c1,.int .i64 x.sur].toArray:=rfl
   rw [← e] at hX0
   clear e
   generalize wr.alloc (.cells #[.int .i64 (x.idx:Int),.int .u32 (x.mask:Int),.slice A1 n1 c1,.int .i64 x.sur] 79)=W at *
   have HA:=Lib.hid (HP.out.2.later hbw)
   have hb2:Below B w W:=hb.trans (hbw.mono (by have:=hb.size;have:=hU.lt;omega))
   have hWB:B≤W.heap.size:=by have:=hbw.size;omega
   have hW0:w0.heap.size≤W.heap.size:=Nat.le_trans hK.size hbw.size
   have HST:=Lib.hid (fillP_succ HX.out a)
   have hU1:=hU.later hbw
   have hS1:=hS.later hbw
   have hO1:=hO.below hbw
   have hK1:=hK.later hbw
   clear hU0 hS0 fU fS x0 x1 x2 x3 hI hb hU hS hO hK hbw
   have hU0:=hU1.cellAt 0 rfl
   have hS0:=hS1.cellAt 0 rfl
   have fU:=hU1.frozen 0
   have fS:=hS1.frozen 0
   have hX1:=hX0.cellAt 1 rfl
   have hX2:=hX0.cellAt 0 rfl
   by_cases hz:x.mask &&& M=0
   ·have hz':(((x.mask &&& M:Nat):Int)==0)=true:=by rw [hz];rfl
    have HE:Hid (fillP (l.take (k+1)) a=(M ||| x.mask,ys++[(x.idx:Int)])):=Lib.hid (by rw [HST.out,HP.out.1];unfold fillS;rw [if_pos hz])
    have kk:=KeepBut.setCell hU1 0 (.int .u32 ((M ||| x.mask:Nat):Int))
    have hU2:=hU1.set_ 0 (.int .u32 ((M ||| x.mask:Nat):Int))
    have hS2:=kk.bk hS1 (by decide)
    have hO2:=hO1.but kk (by decide)
    have hK2:=hK1.but kk (by simp) (.inl rfl)
    have hb3:=hb2.setCell (p:=⟨gu,0,none⟩) hgu (.int .u32 ((M ||| x.mask:Nat):Int))
    have hX3:=kk.bk hX0 (by decide)
    have hbs:w0.heap.size≤(W.setCell ⟨gu,0,none⟩ (.int .u32 ((M ||| x.mask:Nat):Int))).heap.size:=by simpa using hW0
    simp only [List.set_cons_zero] at hU2
    clear hz kk
    go_upto_region 5 with (fail)
    clear hU1 hS1 hO1 hK1 hU0 hS0 fU fS hX1 hX2 hb2 hX0 hand hor
    generalize W.setCell ⟨gu,0,none⟩ (.int .u32 ((M ||| x.mask:Nat):Int))=W2 at *
    have hS0:=hS2.cellAt 0 rfl
    have hX2:=hX3.cellAt 0 rfl
    have hlen:ys.length+1≤1099511627776:=by omega
    have HO:=Lib.hid hO2
    clear hO2
    go_wp2_with (at_builtin;refine wpList_append_int rfl (.tmp 21) (.tmp 24) rfl W2 w0.heap.size (.slice As ns cs) ys rfl HO.out (x.idx:Int) rfl (by omega) (by omega) hlen hbs ?_)
    intro v7 w7 hown7 hk7 hb7 _ _
    obtain ⟨A7,n7,c7,rfl⟩:=hown7.sliceN
    clear hS0 hX2
    have hS7:=hk7.bk hS2 (by decide)
    have hS0:=hS7.cellAt 0 rfl
    have fS:=hS7.frozen 0
    have kk:=KeepBut.setCell hS7 0 (.slice A7 n7 c7)
    have hS8:=hS7.set_ 0 (.slice A7 n7 c7)
    have hU8:=kk.bk0 (hk7.bk hU2 (by decide)) hug
    have hO8:=hown7.but kk (by decide)
    have hK8:=(hK2.old hb7).but kk (by simp) (.inr rfl)
    have hb8:=(hb3.trans (hb7.mono hB)).setCell (p:=⟨gs,0,none⟩) hgs (.slice A7 n7 c7)
    simp only [List.set_cons_zero] at hS8
    have HN8:Hid (FillAt w0 gu gs (M ||| x.mask,ys++[(x.idx:Int)]) (w7.setCell ⟨gs,0,none⟩ (.slice A7 n7 c7))):=Lib.hid ⟨A7,n7,c7,hU8,hS8,hO8,hK8⟩
    clear hown7 hk7 hb7 hS7 kk hS8 hU8 hO8 hK8 hU2 hS2 hK2 hb3 hX3
    go_wp2
    go_roundw
    case rel=>exact ⟨k+1,_,_,by omega,by go_num,hlt,by simp;omega,Lib.hid ⟨HE.out,HN8.out⟩,hb8⟩
    case measure=>simp [intOf];omega
   ·have hz':(((x.mask &&& M:Nat):Int)==0)=false:=by simpa using hz
    have HE:Hid (fillP (l.take (k+1)) a=(M,ys)):=Lib.hid (by rw [HST.out,HP.out.1];unfold fillS;rw [if_neg hz])
    clear hz
    go_wp2
    go_roundw
    case rel=>exact ⟨k+1,M,ys,by omega,by go_num,hM,by omega,Lib.hid ⟨HE.out,HA.out⟩,hb2⟩
    case measure=>simp [intOf];omega
  ·obtain rfl:n=k:=by omega
   have HE:Hid (fillP l a=(M,ys)):=Lib.hid (by have:=HP.out.1;rw [take_all HN.out] at this;exact this)
   go_wp2
   go_end0
   exact ⟨rfl,by rw [HE.out];exact HP.out.2,hb⟩
namespace Pl
def hiB (fs:List RF) (x:Dc):Bool:=decide (0 < qs (qAt fs x.idx))
def loB (x:Dc):Bool:=decide (x.sur < 0)
def ltH (fs:List RF) (x y:Dc):Bool:=decide (qAt fs y.idx < qAt fs x.idx)
def ltL (x y:Dc):Bool:=decide (x.sur < y.sur)
def greedyL (m:Ms) (fs:List RF):List Int:=(fillP (sortB ltL ((dcs m).filter loB)) (fillP (sortB (ltH fs) ((dcs m).filter (hiB fs))) (0,[]))).2
def greedyP (m:Ms) (fs:List RF):List Int:=sortI (greedyL m fs)
theorem ltH_ir (fs:List RF) (x:Dc):ltH fs x x=false:=by simp [ltH,Rat.lt_irrefl]
theorem ltH_tr (fs:List RF) (x y z:Dc) (h:ltH fs x y=true) (g:ltH fs y z=true):ltH fs x z=true:=by
 simp only [ltH,decide_eq_true_eq] at *
 grind
theorem ltH_tr' (fs:List RF) (x y z:Dc) (h:ltH fs x y=false) (g:ltH fs y z=false):ltH fs x z=false:=by
 simp only [ltH,decide_eq_false_iff_not] at *
 grind
theorem ltL_ir (x:Dc):ltL x x=false:=by simp [ltL]
theorem ltL_tr (x y z:Dc) (h:ltL x y=true) (g:ltL y z=true):ltL x z=true:=by
 simp only [ltL,decide_eq_true_eq] at *
 omega
theorem ltL_tr' (x y z:Dc) (h:ltL x y=false) (g:ltL y z=false):ltL x z=false:=by
 simp only [ltL,decide_eq_false_iff_not] at *
 omega
theorem fillP_len (l:List Dc) (a:Nat × List Int):(fillP l a).2.length≤a.2.length+l.length:=by
 unfold fillP
 induction l generalizing a with
 | nil=>simp
 | cons x l ih=>
  rw [List.foldl_cons,List.length_cons]
  refine Nat.le_trans (ih _) ?_
  unfold fillS
  split <;> simp <;> omega
theorem fillP_lt {l:List Dc} (hl:∀x∈l,x.mask < 64) {a:Nat × List Int} (ha:a.1 < 64):(fillP l a).1 < 64:=by
 unfold fillP
 induction l generalizing a with
 | nil=>exact ha
 | cons x l ih=>
  rw [List.foldl_cons]
  refine ih (fun y hy=>hl y (List.mem_cons_of_mem _ hy)) ?_
  unfold fillS
  split
  ·exact Nat.or_lt_two_pow (n:=6) ha (hl x (List.mem_cons_self ..))
  ·exact ha
theorem filter_take {α:Type} {p:α→Bool} {l:List α} {k:Nat} {x:α} (h:l[k]? =some x):(l.take (k+1)).filter p=(l.take k).filter p++(if p x=true then [x] else []):=by
 rw [List.take_add_one,h,List.filter_append]
 simp [List.filter_cons]
theorem cmpI_neg {x y:Int}:cmpI x y < 0↔x < y:=by
 unfold cmpI
 split
 ·simp;assumption
 ·split <;> simp <;> omega
theorem qs_sub_neg {a b:Rat}:qs (a - b) < 0↔a < b:=by rw [qs_neg];grind
theorem dcs_bd {m:Ms} (ok:MsOK m) {x:Dc} (hx:x∈dcs m):x.mask < 64∧x.idx < 1000∧x.idx < m.cols.length:=by
 obtain ⟨i,hi⟩:=List.mem_iff_getElem?.1 hx
 obtain ⟨c,hc,rfl⟩:=dcs_get hi
 have hil:=(List.getElem?_eq_some_iff.1 hc).1
 have:=ok.ncol
 exact ⟨mask_lt ok (List.mem_of_getElem? hc),show i < 1000 by omega,hil⟩
end Pl
theorem enter_of {g : Nat} {fn : Func} {c : Code} (hf : Tryz.prog.funcs[g]? = some fn) (hn : (fn.name == "runtime.NumGoroutine") = false) (hb : fn.body = some c) : ∀ args w, (callFunc g args).run Tryz.prog w = .ok (.enter g args) w := fun args w => by
 have h1 : fn.name ≠ "runtime.NumGoroutine" := by simpa using hn
 simp [callFunc,hf,h1,hb]
theorem DcsO.others {base:Nat} {w w':World} {g:Option Nat} {v:Value} {l:List Dc} (h:DcsO base w v l) (ho:Others g w w') (hk:KeepBut 79 w w') (hne:∀b,v.ownBlock=some b→some b≠g):DcsO base w' v l:=by
 obtain ⟨cs,h1,h2⟩:=h
 refine ⟨cs,⟨h1.1,?_⟩,fun k x hx=>by obtain ⟨u,g1,g2⟩:=h2 k x hx;exact ⟨u,g1.but hk (by decide),g2⟩⟩
 rcases h1.2 with hn | ⟨b,cap,cur,rfl,hb',hgg,rest⟩
 ·exact .inl hn
 ·exact .inr ⟨b,cap,cur,rfl,hb',(ho.2 b (lt_heap hgg) (hne b rfl)).trans hgg,rest⟩
theorem DcsO.ownB {base:Nat} {w:World} {v:Value} {l:List Dc} (h:DcsO base w v l):∀g,v.ownBlock=some g→base≤g∧g < w.heap.size:=by
 obtain ⟨cs,h1,_⟩:=h
 exact h1.lt
theorem cmpD_low (l:List Dc) (w:World):CmpD 38 #[] ltL l w:=fun W _ _ x _ y _ A n c A' n' c'=>by
 refine (cmpLow_any x y A n c A' n' c' W).mono ?_
 rintro _ w' ⟨rfl,hb⟩
 exact ⟨_,rfl,by unfold ltL;simp [cmpI_neg],hb⟩
theorem cmpD_high (l:List Dc) (w:World) (g:Nat) (fs:List RF) (h:ValB w g fs) (hv:∀f∈fs,VOK f) (hl:∀x∈l,x.idx < fs.length):CmpD 36 #[.pointer (some ⟨g,0,none⟩)] (ltH fs) l w:=fun W hk hs x hx y hy A n c A' n' c'=>by
 refine (cmpHigh_any x y A n c A' n' c' g fs W (h.but hk (by decide) (by decide) (by decide)) hv (hl x hx) (hl y hy)).mono ?_
 rintro _ w' ⟨rfl,hb⟩
 exact ⟨_,rfl,by unfold ltH;simp only [qs_sub_neg],hb⟩
theorem enter_low:∀args w,(callFunc 38 args).run Tryz.prog w= .ok (.enter 38 args) w:=enter_of Tryz.func38 (by kernel_rfl) rfl
theorem enter_high:∀args w,(callFunc 36 args).run Tryz.prog w= .ok (.enter 36 args) w:=enter_of Tryz.func36 (by kernel_rfl) rfl
theorem enter_fill:∀args w,(callFunc 33 args).run Tryz.prog w= .ok (.enter 33 args) w:=enter_of Tryz.func33 (by kernel_rfl) rfl
theorem box_msv (w:World) (a b c d e f:Value):∃W,(w.alloc (.cells #[a,b,c,d,e] 26)).alloc (.cells #[f] 35)=W∧(w.alloc (.cells #[a,b,c,d,e] 26)).heap.size=w.heap.size+1∧Bk W w.heap.size 26 [a,b,c,d,e]∧Bk W (w.heap.size+1) 35 [f]∧Below w.heap.size w W:=by
 have h1:=Bk.new w 26 [a,b,c,d,e]
 have h2:=Bk.new (w.alloc (.cells [a,b,c,d,e].toArray 26)) 35 [f]
 have b1:=below_new w (.cells [a,b,c,d,e].toArray 26)
 have b2:=below_new (w.alloc (.cells [a,b,c,d,e].toArray 26)) (.cells [f].toArray 35)
 have hs:(w.alloc (.cells [a,b,c,d,e].toArray 26)).heap.size=w.heap.size+1:=by simp
 refine ⟨_,rfl,hs,h1.later b2,?_,below_then b1 b2 b1.size⟩
 rw [hs] at h2
 exact h2
theorem box_gsu (w:World) (a b:Value):∃W,(w.alloc (.cells #[a] 22)).alloc (.cells #[b] 72)=W∧Bk W w.heap.size 22 [a]∧Bk W (w.heap.size+1) 72 [b]∧Below w.heap.size w W:=by
 have h1:=Bk.new w 22 [a]
 have h2:=Bk.new (w.alloc (.cells [a].toArray 22)) 72 [b]
 have b1:=below_new w (.cells [a].toArray 22)
 have b2:=below_new (w.alloc (.cells [a].toArray 22)) (.cells [b].toArray 72)
 have hs:(w.alloc (.cells [a].toArray 22)).heap.size=w.heap.size+1:=by simp
 refine ⟨_,rfl,h1.later b2,?_,below_then b1 b2 b1.size⟩
 rw [hs] at h2
 exact h2
def GrPost (m:Ms) (fs:List RF) (w:World) (e:Ending) (w':World):Prop:=∃v',e= .returned (.tuple #[v',.int .i64 0])∧IntsO w.heap.size w' v' (greedyP m fs)∧Below w.heap.size w w'
theorem greedy_own (v1 v2:Value) (m:Ms) (fs:List RF) (w:World) (h:MsM w v1 m) (ok:MsOK m) (h2:FrsM w v2 fs) (hf:fs.length=m.cols.length) (hv:∀f∈fs,VOK f):
 Calls Tryz.prog 14 #[v1,v2] w (GrPost m fs w):=by
 obtain ⟨A,n,c,A',n',c',A'',n'',c'',rfl,hR,hC,hT⟩:=id h
 obtain ⟨s1,s2,s3⟩:=RdM.len hC
 obtain ⟨B,d,rfl,hd1,hd2⟩:=h2.shape
 rw [hf,← s1] at h2 ⊢
 obtain ⟨W,hW,hsz,hX,hY,hbe⟩:=box_msv w (.int .i64 m.fl) (.slice A n c) (.int .i64 m.pen) (.slice A' n' c') (.slice A'' n'' c'') (.slice B n' d)
 have HM:=Lib.hid (h.below hbe)
 have HOK:=Lib.hid ok
 have HF:=Lib.hid (h2.below hbe)
 have HV:=Lib.hid hv
 have HFN:=Lib.hid hf
 have HCN:=Lib.hid s1
 have hn6':n'≤6:=by have:=ok.ncol;omega
 clear h hR hC hT ok h2 hf hv s1 hd1
 generalize m.fl=F at *
 generalize m.pen=P at *
 obtain ⟨x0,x1,x2,x3,x4⟩:=hX.five
 have y0:=hY.cellAt 0 rfl
 go_enter Tryz.func14,Tryz.ntmps14
 go_wp2_with fail
 clear hW x0 x1 x2 x3 x4 y0
 refine (validateMaster_ok _ m _ HM.out HOK.out).mono ?_
 rintro _ w1 ⟨rfl,hb1⟩
 have hX1:=hX.later hb1
 have hY1:=hY.later hb1
 have hbe1:=below_then hbe hb1 hbe.size
 have HM1:=Lib.hid (And.intro (HM.out.below hb1) (HF.out.below hb1))
 obtain ⟨x0,x1,x2,x3,x4⟩:=hX1.five
 have y0:=hY1.cellAt 0 rfl
 clear hX hY hbe hb1 HM HF
 go_wp2_with fail
 refine (columns_own _ m _ HM1.out.1 HOK.out).mono ?_
 rintro _ w2 ⟨vc,rfl,hDO,hb2⟩
 obtain ⟨Ac,cc,rfl⟩:=RdO.slice hDO
 rw [dcs_len,← HCN.out] at hDO ⊢
 have HDC:Hid (DcsM w2 (.slice Ac n' cc) (dcs m)):=Lib.hid (RdO.rd hDO)
 have hX2:=hX1.later hb2
 have hY2:=hY1.later hb2
 have hbe2:=below_then hbe1 hb2 hbe1.size
 have HM2:=Lib.hid (HM1.out.2.below hb2)
 clear x0 x1 x2 x3 x4 y0 hX1 hY1 hbe1 hb2 HM1 hDO
 go_wp2
 obtain ⟨W3,hW3,hS3,hU3,hb3⟩:=box_gsu w2 (.slice none 0 0) (.int .u32 0)
 rw [hW3]
 clear hW3
 have hX3:=hX2.later hb3
 have hY3:=hY2.later hb3
 have hbe3:=below_then hbe2 hb3 hbe2.size
 have HDC3:=Lib.hid (HDC.out.below hb3)
 have HM3:=Lib.hid (HM2.out.below hb3)
 have hws:w.heap.size < w2.heap.size:=hX2.lt
 have hws1:w.heap.size+1 < w2.heap.size:=hY2.lt
 clear hX2 hY2 hbe2 HDC HM2 hb3
 generalize hgs:w2.heap.size=gs at *
 clear hgs
 go_loopw [11,12,31] (fun s11 s12 x wr=>∃k:Nat,k≤n'∧x= .int .i64 k∧Below W3.heap.size W3 wr∧Hid (DcsO W3.heap.size wr s11 (((dcs m).take k).filter (hiB fs))∧DcsO W3.heap.size wr s12 (((dcs m).take k).filter loB)∧(∀b,s12.ownBlock=some b→some b≠s11.ownBlock))) (fun _ _ x _=>n' - (intOf x).toNat)
 case atStart=>exact ⟨0,by omega,rfl,Below.refl _ _,Lib.hid ⟨by rw [List.take_zero];exact RdO.nil _ _ _ _,by rw [List.take_zero];exact RdO.nil _ _ _ _,by simp [Value.ownBlock]⟩⟩
 case round=>
  obtain ⟨k,hk,rfl,hb,HR⟩:=hrel
  have hY4:=hY3.later hb
  have y0:=hY4.cellAt 0 rfl
  rcases Nat.lt_or_ge k n' with hkl | hkl
  ·have hkz:(k:Int) < n':=by omega
   obtain ⟨x,hx⟩:∃x,(dcs m)[k]? =some x:=⟨(dcs m)[k]'(by rw [dcs_len,← HCN.out];exact hkl),List.getElem?_eq_getElem _⟩
   obtain ⟨fr,hfr⟩:∃f,fs[k]? =some f:=⟨fs[k]'(by rw [HFN.out,← HCN.out];exact hkl),List.getElem?_eq_getElem _⟩
   obtain ⟨bx,ox,A1,n1,c1,hA1,_,⟨p0,p1,p2,p3⟩,hI⟩:=HDC3.out.elem hb hx
   subst hA1
   obtain ⟨b',off',A3,n3,c3,A4,n4,c4,hA',hbl,⟨q0,q1,q2,q3⟩,ey⟩:=HM3.out.elem hb hfr
   have hyl:w.heap.size+1 < wr.heap.size:=hY4.lt
   have hbl2:b' < wr.heap.size:=Nat.lt_of_lt_of_le hbl hb.size
   subst hA'
   have HX:=Lib.hid hx
   have HFR:=Lib.hid hfr
   have HI:=Lib.hid hI
   have HEY:=Lib.hid ey
   clear hx hfr hI ey
   go_wp2_with fail
   have hX0:=Bk.new wr 79 [.int .i64 (x.idx:Int),.int .u32 (x.mask:Int),.slice A1 n1 c1,.int .i64 x.sur]
   have hbw:=below_new wr (.cells #[.int .i64 (x.idx:Int),.int .u32 (x.mask:Int),.slice A1 n1 c1,.int .i64 x.sur] 79)
   have e:(#[.int .i64 (x.idx:Int),.int .u32 (x.mask:Int),.slice A1 n1 c1,.int .i64 x.sur]:Array Value)=[.int .i64 (x.idx:Int),.int .u32 (x.mask:Int),.slice A1 n1 c1,.int .i64 x.sur].toArray:=rfl
   rw [← e] at hX0
   clear e
   generalize wr.alloc (.cells #[.int .i64 (x.idx:Int),.int .u32 (x.mask:Int),.slice A1 n1 c1,.int .i64 x.sur] 79)=W at *
   refine (signF_any _ fr _ (HEY.out.below hbw)).mono ?_
   rintro _ w5 ⟨rfl,hb5⟩
   have hb15:=below_then hbw hb5 hbw.size
   have hX5:=hX0.later hb5
   have hb6:=below_then hb hb15 hb.size
   have HR6:Hid (DcsO W3.heap.size w5 u11 (((dcs m).take k).filter (hiB fs))∧DcsO W3.heap.size w5 u12 (((dcs m).take k).filter loB)∧(∀b,u12.ownBlock=some b→some b≠u11.ownBlock)):=Lib.hid ⟨HR.out.1.below hb15,HR.out.2.1.below hb15,HR.out.2.2⟩
   have HI6:=Lib.hid (HI.out.below hb15)
   have HLE:=Lib.hid hb.size
   have HNX:Hid (some wr.heap.size≠u11.ownBlock∧some wr.heap.size≠u12.ownBlock):=Lib.hid ⟨fun e=>by have:=(HR.out.1.ownB _ e.symm).2;omega,fun e=>by have:=(HR.out.2.1.ownB _ e.symm).2;omega⟩
   have HIDX:Hid (x.idx=k):=Lib.hid ((dcs_ok HOK.out).idx k x HX.out)
   have HQ:Hid (hiB fs x=decide (0 < qs fr.q)):=Lib.hid (by unfold hiB qAt;rw [HIDX.out,HFR.out])
   clear hb hbw hb5 hb15 hX0 p0 p1 p2 p3 q0 q1 q2 q3 hyl hbl hbl2 y0 hY4 HR HI HEY
   have hlH:(((dcs m).take k).filter (hiB fs)).length+1≤1099511627776:=by
    have h1:=List.length_filter_le (hiB fs) ((dcs m).take k)
    have h2:=List.length_take_le k (dcs m)
    omega
   have hlL:(((dcs m).take k).filter loB).length+1≤1099511627776:=by
    have h1:=List.length_filter_le loB ((dcs m).take k)
    have h2:=List.length_take_le k (dcs m)
    omega
   have HFH:=Lib.hid (filter_take (p:=hiB fs) HX.out)
   have HFL:=Lib.hid (filter_take (p:=loB) HX.out)
   have hbs:=hb6.size
   have hgk:wr.heap.size < w5.heap.size:=hX5.lt
   have hWk:W3.heap.size≤wr.heap.size:=HLE.out
   generalize ((dcs m).take k).filter (hiB fs)=hk0 at *
   generalize ((dcs m).take k).filter loB=lk0 at *
   generalize wr.heap.size=gx at *
   go_upto_if 41 with (fail)
   go_cut [11] (fun s11 wx=>Below W3.heap.size W3 wx∧Bk wx gx 79 [.int .i64 (x.idx:Int),.int .u32 (x.mask:Int),.slice A1 n1 c1,.int .i64 x.sur]∧Hid (DcsO W3.heap.size wx s11 (((dcs m).take (k+1)).filter (hiB fs))∧DcsO W3.heap.size wx u12 lk0∧(∀b,u12.ownBlock=some b→some b≠s11.ownBlock)∧IntsT wx (.slice A1 n1 c1) (iL x.rows)))
   case first=>
    by_cases hq:0 < qs fr.q
    ·have HE:Hid (((dcs m).take (k+1)).filter (hiB fs)=hk0++[x]):=Lib.hid (by rw [HFH.out,HQ.out];simp [hq])
     have HO:=Lib.hid HR6.out.1
     obtain ⟨x0,x1,x2,x3⟩:=hX5.four
     go_wp2_with (at_builtin;refine wpList_append_dcol rfl (.tmp 42) (.tmp 44) rfl w5 W3.heap.size u11 hk0 x A1 n1 c1 rfl HO.out HI6.out rfl hlH hbs ?_)
     intro v7 w7 hown7 hk7 hb7 hot7 hor7
     have hb8:=hb6.trans hb7
     have hX8:Bk w7 gx 79 [.int .i64 (x.idx:Int),.int .u32 (x.mask:Int),.slice A1 n1 c1,.int .i64 x.sur]:=hot7.bk hX5 HNX.out.1
     have HN:Hid (DcsO W3.heap.size w7 v7 (hk0++[x])∧DcsO W3.heap.size w7 u12 lk0∧(∀b,u12.ownBlock=some b→some b≠v7.ownBlock)∧IntsT w7 (.slice A1 n1 c1) (iL x.rows)):=Lib.hid ⟨hown7,HR6.out.2.1.others hot7 hk7 HR6.out.2.2,fun b hb e=>by
      rcases hor7 with h | h
      ·exact HR6.out.2.2 b hb (by rw [e,h])
      ·have h1:=h b e.symm
       have h2:=(HR6.out.2.1.ownB b hb).2
       omega,HI6.out.but hk7 (by decide)⟩
     clear hown7 hk7 hb7 hot7 hor7 x0 x1 x2 x3 hX5 hb6
     go_wp2
     go_meet
     exact ⟨hb8,hX8,by rw [HE.out];exact HN⟩
    ·have HE:Hid (((dcs m).take (k+1)).filter (hiB fs)=hk0):=Lib.hid (by rw [HFH.out,HQ.out];simp [hq])
     go_wp2
     go_meet
     exact ⟨hb6,hX5,by rw [HE.out];exact Lib.hid ⟨HR6.out.1,HR6.out.2.1,HR6.out.2.2,HI6.out⟩⟩
   case rest=>
    clear hb6 hX5 HR6 HI6 hbs hgk
    obtain ⟨hb6,hX5,HR6⟩:=hcut
    have hbs:=hb6.size
    obtain ⟨x0,x1,x2,x3⟩:=hX5.four
    by_cases hq:x.sur < 0
    ·have HE:Hid (((dcs m).take (k+1)).filter loB=lk0++[x]):=Lib.hid (by rw [HFL.out];unfold loB;simp [hq])
     have HO:=Lib.hid HR6.out.2.1
     have HI6:=Lib.hid HR6.out.2.2.2
     go_wp2_with (at_builtin;refine wpList_append_dcol rfl (.tmp 49) (.tmp 51) rfl wc W3.heap.size u12 lk0 x A1 n1 c1 rfl HO.out HI6.out rfl hlL hbs ?_)
     intro v7 w7 hown7 hk7 hb7 hot7 hor7
     have hb8:=hb6.trans hb7
     have HN:Hid (DcsO W3.heap.size w7 u11 (((dcs m).take (k+1)).filter (hiB fs))∧DcsO W3.heap.size w7 v7 (((dcs m).take (k+1)).filter loB)∧(∀b,v7.ownBlock=some b→some b≠u11.ownBlock)):=Lib.hid ⟨HR6.out.1.others hot7 hk7 (fun b hb e=>HR6.out.2.2.1 b e.symm hb.symm),by rw [HE.out];exact hown7,fun b hb e=>by
      rcases hor7 with h | h
      ·exact HR6.out.2.2.1 b (by rw [← h,hb]) e
      ·have h1:=h b hb
       have h2:=(HR6.out.1.ownB b e.symm).2
       omega⟩
     clear hown7 hk7 hb7 hot7 hor7 x0 x1 x2 x3 hX5 hb6
     go_wp2
     go_roundw
     case rel=>exact ⟨k+1,by omega,by go_num,hb8,HN⟩
     case measure=>simp [intOf];omega
    ·have HE:Hid (((dcs m).take (k+1)).filter loB=lk0):=Lib.hid (by rw [HFL.out];unfold loB;simp [hq])
     have hq':¬x.sur < 0:=hq
     go_wp2
     go_roundw
     case rel=>exact ⟨k+1,by omega,by go_num,hb6,Lib.hid ⟨HR6.out.1,by rw [HE.out];exact HR6.out.2.1,HR6.out.2.2.1⟩⟩
     case measure=>simp [intOf];omega
  ·obtain rfl:n'=k:=by omega
   have HR4:Hid (DcsO W3.heap.size wr u11 ((dcs m).filter (hiB fs))∧DcsO W3.heap.size wr u12 ((dcs m).filter loB)∧(∀b,u12.ownBlock=some b→some b≠u11.ownBlock)):=Lib.hid (by
    have:=HR.out
    rw [take_all (show n'=(dcs m).length by rw [dcs_len];exact HCN.out)] at this
    exact this)
   have hmemH:∀x∈(dcs m).filter (hiB fs),x∈dcs m:=fun x hx=>(List.mem_filter.1 hx).1
   have hmemL:∀x∈(dcs m).filter loB,x∈dcs m:=fun x hx=>(List.mem_filter.1 hx).1
   have hlen:(dcs m).length≤6:=by rw [dcs_len,← HCN.out];exact hn6'
   have hlH:=Nat.le_trans (List.length_filter_le (hiB fs) (dcs m)) hlen
   have hlL:=Nat.le_trans (List.length_filter_le loB (dcs m)) hlen
   have HV4:Hid (ValB wr (w.heap.size+1) fs):=Lib.hid ⟨_,_,_,hY4,HM3.out.below hb⟩
   have HIX:Hid (∀x∈(dcs m).filter (hiB fs),x.idx < fs.length):=Lib.hid (fun x hx=>by rw [HFN.out];exact (dcs_bd HOK.out (hmemH x hx)).2.2)
   have HBH:Hid (∀x∈sortB (ltH fs) ((dcs m).filter (hiB fs)),x.mask < 64∧x.idx < 1000):=Lib.hid (fun x hx=>by have:=dcs_bd HOK.out (hmemH x ((sortB_mem _).1 hx));exact ⟨this.1,this.2.1⟩)
   have HBL:Hid (∀x∈sortB ltL ((dcs m).filter loB),x.mask < 64∧x.idx < 1000):=Lib.hid (fun x hx=>by have:=dcs_bd HOK.out (hmemL x ((sortB_mem _).1 hx));exact ⟨this.1,this.2.1⟩)
   have HGR:Hid (greedyL m fs=(fillP (sortB ltL ((dcs m).filter loB)) (fillP (sortB (ltH fs) ((dcs m).filter (hiB fs))) (0,[]))).2):=Lib.hid rfl
   have hlH2:(sortB (ltH fs) ((dcs m).filter (hiB fs))).length≤6:=by rw [sortB_length];exact hlH
   have hlL2:(sortB ltL ((dcs m).filter loB)).length≤6:=by rw [sortB_length];exact hlL
   clear HR hmemH hmemL y0
   generalize (dcs m).filter (hiB fs)=H at *
   generalize (dcs m).filter loB=L at *
   have eg:=enter_fill
   go_wp2_with fail
   refine (sortD_own W3.heap.size _ _ _ HR4.out.1 (by omega) 36 #[.pointer (some ⟨w.heap.size+1,0,none⟩)] (ltH fs) enter_high (cmpD_high H wr (w.heap.size+1) fs HV4.out HV.out HIX.out) (ltH_ir fs) (ltH_tr fs) (ltH_tr' fs)).mono ?_
   rintro _ w5 ⟨rfl,hs5⟩
   have HS5:=Lib.hid hs5
   have HL5:=Lib.hid (HR4.out.2.1.others hs5.2.2.1 hs5.2.1 HR4.out.2.2)
   have hb5:=hb.trans hs5.2.2.2
   clear hs5 hb hY4
   go_wp2_with fail
   refine (sortD_own W3.heap.size _ _ _ HL5.out (by omega) 38 #[] ltL enter_low (cmpD_low L w5) ltL_ir ltL_tr ltL_tr').mono ?_
   rintro _ w6 ⟨rfl,hs6⟩
   have HH6:Hid (DcsM w6 u11 (sortB (ltH fs) H)):=Lib.hid (RdO.rd (HS5.out.1.others hs6.2.2.1 hs6.2.1 (fun b hb e=>HR4.out.2.2 b e.symm hb.symm)))
   have HL6:Hid (DcsM w6 u12 (sortB ltL L)):=Lib.hid (RdO.rd hs6.1)
   have hb6:=hb5.trans hs6.2.2.2
   have hU6:=hU3.later hb6
   have hS6:=hS3.later hb6
   have HFA:Hid (FillAt w6 (gs+1) gs (0,[]) w6):=Lib.hid ⟨none,0,0,hU6,hS6,IntsO.nil _ _,Kp2.refl _⟩
   have hbw6:=hbe3.trans (hb6.mono hbe3.size)
   have hsz6:w.heap.size≤w6.heap.size:=hbw6.size
   clear hs6 hb5 hb6 hU6 hS6 HS5 HL5
   go_wp2_with fail
   refine (fill_own u11 (sortB (ltH fs) H) w6 w6 (gs+1) gs w.heap.size (0,[]) HH6.out (by omega) HBH.out (by decide) (by simp) HFA.out (by omega) (by omega) hsz6 (by omega)).mono ?_
   rintro _ w7 ⟨rfl,hf7,hb7⟩
   have HF7:=Lib.hid hf7
   have hlt7:(fillP (sortB (ltH fs) H) (0,[])).1 < 64:=fillP_lt (fun x hx=>(HBH.out x hx).1) (by decide)
   have hln7:=fillP_len (sortB (ltH fs) H) (0,[])
   have HG7:Hid (greedyL m fs=(fillP (sortB ltL L) (fillP (sortB (ltH fs) H) (0,[]))).2):=HGR
   generalize fillP (sortB (ltH fs) H) (0,[])=a7 at *
   simp only [List.length_nil] at hln7
   clear hf7 HFA
   go_wp2_with fail
   refine (fill_own u12 (sortB ltL L) w6 w7 (gs+1) gs w.heap.size a7 HL6.out (by omega) HBL.out hlt7 (by omega) HF7.out (by omega) (by omega) hsz6 (by omega)).mono ?_
   rintro _ w8 ⟨rfl,hf8,hb8⟩
   have hln8:=fillP_len (sortB ltL L) a7
   obtain ⟨A8,n8,c8,_,hS8,hO8,_⟩:=hf8
   rw [← HG7.out] at hO8 hln8
   have HO8:=Lib.hid hO8
   have s0:=hS8.cellAt 0 rfl
   have hbw8:=(hbw6.trans hb7).trans hb8
   clear HF7 hb7 hb8 hbw6 hO8
   go_wp2_with fail
   refine (sortI_own w6.heap.size _ (greedyL m fs) _ HO8.out (by omega)).mono ?_
   rintro _ w9 ⟨rfl,hs9⟩
   have hS9:=hs9.2.1.bk hS8 (by decide)
   have HO9:=Lib.hid (hs9.1.monoB hsz6)
   have hbw9:=hbw8.trans (hs9.2.2.2.mono hsz6)
   clear s0 hs9 hbw8
   have s0:=hS9.cellAt 0 rfl
   go_wp2
   go_ret2
   exact ⟨_,rfl,HO9.out,hbw9⟩
end Go.Proofs.YtgdcbjligbnpgaaGreat
