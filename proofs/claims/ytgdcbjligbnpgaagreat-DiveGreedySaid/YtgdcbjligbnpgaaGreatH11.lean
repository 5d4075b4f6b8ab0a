/- Lemmas of the claim; no condition. -/
import Derived.Maps.Own
import Derived.Test.YtgdcbjligbnpgaaGreatH9
set_option linter.all false
set_option maxRecDepth 100000
set_option maxHeartbeats 40000000
namespace Go.Proofs.YtgdcbjligbnpgaaGreat
open Go.RowKit
open Pl
attribute [local go_sem ↓] Go.wp_at_zero Go.wp_at_succ
theorem run_append_int (ty:TypeId) (W:World) (base:Nat) (v:Value) (zs:List Int) (z:Int) (hown:IntsO base W v zs) (h0: -9223372036854775808≤z) (h1:z≤9223372036854775807) (hn:zs.length+1≤1099511627776) (hbase:base≤W.heap.size):
 ∃v' w',(Builtin.append_ #[22,22] ty #[v,.slice (some ⟨W.heap.size,0,none⟩) 1 1]).run Tryz.prog (W.alloc (.cells #[.int .i64 z] 3))= .ok v' w'∧IntsO base w' v' (zs++[z])∧KeepBut 3 W w'∧Below base W w'∧Others v.ownBlock W w'∧(v'.ownBlock=v.ownBlock∨∀g,v'.ownBlock=some g→W.heap.size≤g):=by
 obtain ⟨i0,hi,hz0,hz1,hz2⟩:=info_parts info_intT
 obtain ⟨v',w',hr,g1,g2,g3,g4,g5⟩:=run_append_oneG ty 22 3 i0 _ 1 8 Tryz.underlying22 hi hz0 hz1 hz2 rfl (by decide) W base v zs.length (zs.map fun z=>Value.int .i64 z) [.int .i64 z] hown.1 rfl (fun u hu=>by simp at hu;subst hu;rfl) (by unfold maxLen;omega) (by omega) hbase
 refine ⟨v',w',hr,⟨by simpa using g1,fun y hy=>?_⟩,g2,g3,g4,g5⟩
 rcases List.mem_append.1 hy with hy | hy
 ·exact hown.2 y hy
 ·simp at hy;subst hy;exact ⟨h0,h1⟩
theorem wpList_append_int {ops:Array Oper} {rest:List Oper} {o:Oper} {a:Act} {Q:Exit→Act→World→Prop} (hgd:o.guard=none) (s x:Operand)
 (ho:o.op= .call { callee:= .builtin .append,args:=#[s,x],argTypes:=#[22,22] })
 (W:World) (base:Nat) (v:Value) (zs:List Int) (hs:a.eval s=v) (hown:IntsO base W v zs) (z:Int)
 (hx:a.eval x= .slice (some ⟨W.heap.size,0,none⟩) 1 1) (h0: -9223372036854775808≤z) (h1:z≤9223372036854775807) (hn:zs.length+1≤1099511627776) (hbase:base≤W.heap.size)
 (h:∀v' w',IntsO base w' v' (zs++[z])→KeepBut 3 W w'→Below base W w'→Others v.ownBlock W w'→(v'.ownBlock=v.ownBlock∨∀g,v'.ownBlock=some g→W.heap.size≤g)→wpList Tryz.prog ops Q rest (a.put o.dst v') w'):
 wpList Tryz.prog ops Q (o::rest) a (W.alloc (.cells #[.int .i64 z] 3)):=by
 refine wpList_plain hgd fun K hK=>?_
 obtain ⟨v',w',hr,g1,g2,g3,g4,g5⟩:=run_append_int o.type W base v zs z hown h0 h1 hn hbase
 unfold Oper.wp execOp
 simp only [ho,resolve,invoke,builtin,Sem.run_bind,Sem.run_pure,Result.andThen_ok,List.map_toArray,List.map_cons,List.map_nil,hs,hx,hr]
 exact hK _ _ (h v' w' g1 g2 g3 g4 g5)
theorem less_any (x y:Int) (w:World):Calls Tryz.prog 70 #[.int .i64 x,.int .i64 y] w fun e w'=>e= .returned (.bool (decide (x < y)))∧w'=w:=by
 by_cases h:x < y
 ·go_enter Tryz.func70,Tryz.ntmps70
  go_wp2
  go_ret
  exact ⟨ret_bool (by simpa using h),rfl⟩
 ·have h':y≤x:=by omega
  go_enter Tryz.func70,Tryz.ntmps70
  go_wp2
  go_ret
  exact ⟨ret_bool (by simpa using h'),rfl⟩
theorem len64_small (x:Int) (w:World) (h0:0≤x) (h1:x≤12):
 Calls Tryz.prog 100 #[.int .u64 x] w fun e w'=>(∃l:Int,e= .returned (.int .i64 l))∧w'=w:=by
 go_enter Tryz.func100,Tryz.ntmps100
 go_wp2_with fail
 go_ret
 exact ⟨⟨_,rfl⟩,rfl⟩
theorem len_small (x:Int) (w:World) (h0:0≤x) (h1:x≤12):
 Calls Tryz.prog 68 #[.int .u64 x] w fun e w'=>(∃l:Int,e= .returned (.int .i64 l))∧w'=w:=by
 go_enter Tryz.func68,Tryz.ntmps68
 go_wp2_with fail
 refine (len64_small x _ h0 h1).mono ?_
 rintro _ _ ⟨⟨l,rfl⟩,rfl⟩
 go_wp2
 go_ret
 exact ⟨⟨_,rfl⟩,rfl⟩
namespace Pl
theorem sortI_srt (l:List Int):Srt ltI (sortI l):=sortB_srt ltI_ir ltI_tr l
theorem ltI_iff {x y:Int}:ltI x y=true↔x < y:=by simp [ltI]
theorem ltI_not {x y:Int}:ltI x y=false↔y≤x:=by simp [ltI]
theorem sortI_take_succ {zs:List Int} {i:Nat} {x:Int} (h:zs[i]? =some x):sortI (zs.take (i+1))=insB ltI x (sortI (zs.take i)):=by
 rw [List.take_add_one,h]
 exact sortI_snoc _ _
theorem drop_at {α:Type} {l:List α} {i:Nat} {x:α} (h:l[i]? =some x):l.drop i=x::l.drop (i+1):=by
 obtain ⟨hi,rfl⟩:=List.getElem?_eq_some_iff.1 h
 exact List.drop_eq_getElem_cons hi
theorem mid_swap {α:Type} {a b:List α} {x y:α} {j:Nat} (hj:a.length=j):((a++y::x::b).set (j+1) y).set j x=a++x::y::b:=by
 subst hj
 simp [List.set_append]
end Pl
def SortedI (base:Nat) (w:World) (v:Value) (zs:List Int) (w':World):Prop:=IntsO base w' v zs∧KeepBut 3 w w'∧Others v.ownBlock w w'∧Below base w w'
theorem SortedI.after {base:Nat} {w w1 w2:World} {v:Value} {zs:List Int} (h:SortedI base w v zs w1) (hS:Below w1.heap.size w1 w2) (hb:base≤w.heap.size):SortedI base w v zs w2:=
 ⟨h.1.below hS,h.2.1.then (hS.mono h.2.2.1.1),⟨Nat.le_trans h.2.2.1.1 hS.size,fun b hb hne=>(hS.block b (Nat.lt_of_lt_of_le hb h.2.2.1.1)).trans (h.2.2.1.2 b hb hne)⟩,h.2.2.2.trans (hS.mono (Nat.le_trans hb h.2.2.1.1))⟩
theorem SortedI.put {base:Nat} {w w1:World} {g n c:Nat} {zs:List Int} (h:SortedI base w (.slice (some ⟨g,0,none⟩) n c) zs w1) (hb:base≤g) {j k:Nat} {x y:Int} (hj:j < zs.length) (hk:k < zs.length) (hx: -9223372036854775808≤x∧x≤9223372036854775807) (hy: -9223372036854775808≤y∧y≤9223372036854775807):
 SortedI base w (.slice (some ⟨g,0,none⟩) n c) ((zs.set j x).set k y) ((w1.setCell ⟨g,j,none⟩ (.int .i64 x)).setCell ⟨g,k,none⟩ (.int .i64 y)):=by
 obtain ⟨h1,h2,h3,h4⟩:=h
 obtain ⟨a1,a2⟩:=h1.set_ hj hx.1 hx.2
 obtain ⟨b1,b2⟩:=a1.set_ (k:=k) (by simpa using hk) hy.1 hy.2
 exact ⟨b1,h2.trans (a2.trans b2),h3.trans (Others.of_set.trans Others.of_set),(h4.setCell (p:=⟨g,j,none⟩) hb _).setCell (p:=⟨g,k,none⟩) hb _⟩
theorem insertionI_own (base:Nat) (v:Value) (zs:List Int) (w:World) (h:IntsO base w v zs) (hl:zs.length≤12) (n:Int) (hn:n=zs.length):
 Calls Tryz.prog 91 #[v,.int .i64 0,.int .i64 n] w fun e w'=>e= .returned (.tuple #[])∧SortedI base w v (sortI zs) w':=by
 obtain ⟨m,hm⟩:∃m,m=zs.length:=⟨_,rfl⟩
 rw [← hm] at hl hn
 subst hn
 have HM:=Lib.hid hm
 rcases Nat.lt_or_ge 1 m with hm1 | hm1
 ·obtain ⟨g,c,rfl,hbg,hgw,hc1,hc2⟩:=h.shape (by omega)
  rw [← hm] at h hc1 ⊢
  have HBG:=Lib.hid hbg
  have hbw:base≤w.heap.size:=by omega
  have HI:=Lib.hid h
  clear h hm
  go_enter Tryz.func91,Tryz.ntmps91
  go_wp2
  go_loopw [6,7] (fun s6 s7 wr=>∃i:Nat,1≤i∧i≤m∧s6= .int .i64 i∧SortedI base w (.slice (some ⟨g,0,none⟩) m c) (sortI (zs.take i)++zs.drop i) wr) (fun s6 _ _=>m - (intOf s6).toNat)
  case atStart=>exact ⟨1,by omega,by omega,rfl,by
   have e:sortI (zs.take 1)++zs.drop 1=zs:=by
    cases zs with
    | nil=>rfl
    | cons x zs=>simp [sortI,sortB,insB]
   rw [e];exact ⟨HI.out,KeepBut.refl _ _,⟨Nat.le_refl _,fun _ _ _=>rfl⟩,Below.refl _ _⟩⟩
  case round=>
   obtain ⟨i,hi1,hi,rfl,HS⟩:=hrel
   rcases Nat.lt_or_ge i m with hil | hil
   ·obtain ⟨x,hx⟩:∃x,zs[i]? =some x:=⟨zs[i]'(by rw [← HM.out];exact hil),List.getElem?_eq_getElem _⟩
    have HX:=Lib.hid hx
    clear hx
    have HSH:=Lib.hid HS
    clear HS
    go_wp2
    go_loopw [7] (fun s7 wx=>∃(j:Nat) (a b:List Int),j≤i∧s7= .int .i64 j∧Hid (a.length=j∧sortI (zs.take i)=a++b∧insB ltI x (sortI (zs.take i))=insB ltI x a++b)∧Hid (SortedI base w (.slice (some ⟨g,0,none⟩) m c) (a++x::(b++zs.drop (i+1))) wx)) (fun s7 _=>(intOf s7).toNat)
    case atStart=>exact ⟨i,sortI (zs.take i),[],by omega,rfl,Lib.hid ⟨by unfold sortI;rw [sortB_length,List.length_take,← HM.out];omega,by simp,by simp⟩,Lib.hid (by
     have:=HSH.out
     rw [drop_at HX.out] at this
     simpa using this)⟩
    case round=>
     obtain ⟨j,a,b,hj,rfl,HA,HW⟩:=hrel
     have HOUT:Hid ((j=0∨∃a' y,a=a'++[y]∧y≤x)→a++x::(b++zs.drop (i+1))=sortI (zs.take (i+1))++zs.drop (i+1)):=Lib.hid (fun hs=>by
      obtain ⟨h1,h2,h3⟩:=HA.out
      rw [sortI_take_succ HX.out,h3]
      rcases hs with hs | ⟨a',y,rfl,hyx⟩
      ·have:a=[]:=List.eq_nil_of_length_eq_zero (by omega)
       subst this
       simp [insB]
      ·have hsr:=sortI_srt (zs.take i)
       rw [h2] at hsr
       rw [insB_stop ltI_tr' (List.Pairwise.sublist (List.sublist_append_left _ _) hsr) (ltI_not.2 hyx)]
       simp)
     rcases Nat.eq_zero_or_pos j with hj0 | hj0
     ·subst hj0
      go_upto_region 4 with (fail)
      have hS0:=below_drew' wr
      refine region_seq 15 [0,1,2,3,4,5,6,7,8,9,10,11,12,13,14] (by kernel_rfl) (by kernel_rfl) ?_
      repeat ((first | (refine seq_takeP (v:=?_) rfl rfl rfl ?_ ?_;rotate_left;(· (intro _ hSw;go_simp;(try go_bits);(try with_reducible rfl)))) | (refine seq_take (v:=?_) rfl rfl rfl ?_ ?_;rotate_left;(· (intro _ hSw;go_simp;(try go_bits);(try with_reducible rfl)))) | refine seq_skip rfl rfl rfl ?_ | refine seq_skipc rfl rfl rfl (by assumption) ?_);(try simp only [Act.put,pu1,pu2,pu3,pu4,pu5,pu6]))
      refine seq_done ?_
      have HE:=Lib.hid (HOUT.out (.inl rfl))
      clear HOUT
      go_wp2
      go_roundw
      case rel=>exact ⟨i+1,by omega,by omega,by go_num,by
       have:=HW.out
       rw [HE.out] at this
       exact this.after hS0 hbw⟩
      case measure=>simp [intOf];omega
     ·obtain ⟨p,rfl⟩:∃p,j=p+1:=⟨j - 1,by omega⟩
      obtain ⟨a',y,rfl,hp⟩:∃a' y,a=a'++[y]∧a'.length=p:=by
       have h1:=HA.out.1
       have hne:a≠[]:=fun e=>by subst e;simp at h1
       refine ⟨a.dropLast,a.getLast hne,(List.dropLast_concat_getLast hne).symm,by simp;omega⟩
      have HP:=Lib.hid hp
      have hL:(a'++[y]++x::(b++zs.drop (i+1)))=a'++y::x::(b++zs.drop (i+1)):=by simp
      have HWo:=HW.out
      rw [hL] at HWo
      obtain ⟨cx,fx,bx⟩:=HWo.1.at_ (k:=p+1) (z:=x) (by rw [← hp];simp)
      obtain ⟨cy,fy,byy⟩:=HWo.1.at_ (k:=p) (z:=y) (by rw [← hp];simp)
      have HBX:=Lib.hid bx
      have HBY:=Lib.hid byy
      have HWO:=Lib.hid HWo
      clear hp hL HWo bx byy
      have p0:(0:Int)≤(p:Int)+1:=by omega
      have p1:(p:Int)+1 < m:=by omega
      have p2:(p:Int) < m:=by omega
      have p3:(0:Int) < (p:Int)+1:=by omega
      rcases Int.lt_or_le x y with hxy | hxy
      ·have HN:Hid (a'.length=p∧sortI (zs.take i)=a'++(y::b)∧insB ltI x (sortI (zs.take i))=insB ltI x a'++(y::b)):=Lib.hid (by
        obtain ⟨_,h2,h3⟩:=HA.out
        refine ⟨HP.out,by simpa using h2,?_⟩
        have hsr:=sortI_srt (zs.take i)
        rw [h2] at hsr
        rw [h3,insB_move ltI_ir ltI_tr ltI_tr' (List.Pairwise.sublist (List.sublist_append_left _ _) hsr) (ltI_iff.2 hxy)]
        simp)
       have hd:decide (x < y)=true:=by simpa using hxy
       have C0:=stab cx
       have C1:=stab cy
       have hS0:=below_drew' wr
       go_upto_region 4 with (fail)
       clear cx cy
       refine region_seq 15 [0,1,2,3,4,5,6,7,8,9,10,11,12,13,14] (by kernel_rfl) (by kernel_rfl) ?_
       repeat ((first | (refine seq_takeP (v:=?_) rfl rfl rfl ?_ ?_;rotate_left;(· (intro _ hSw;go_simp;(try go_bits);(try with_reducible rfl)))) | (refine seq_take (v:=?_) rfl rfl rfl ?_ ?_;rotate_left;(· (intro _ hSw;go_simp;(try go_bits);(try with_reducible rfl)))) | refine seq_skip rfl rfl rfl ?_ | refine seq_skipc rfl rfl rfl (by assumption) ?_);(try simp only [Act.put,pu1,pu2,pu3,pu4,pu5,pu6]))
       refine seq_step rfl rfl (fun KR hKR=>?_)
       go_simp
       with_reducible refine (less_any x y _).mono ?_
       rintro _ _ ⟨rfl,rfl⟩
       rw [hd]
       refine hKR.out _ _ (Or.inr hS0) ?_
       clear hKR KR
       (try simp only [Act.put,pu1,pu2,pu3,pu4,pu5,pu6])
       repeat ((first | (refine seq_takeP (v:=?_) rfl rfl rfl ?_ ?_;rotate_left;(· (intro _ hSw;go_simp;(try go_bits);(try with_reducible rfl)))) | (refine seq_take (v:=?_) rfl rfl rfl ?_ ?_;rotate_left;(· (intro _ hSw;go_simp;(try go_bits);(try with_reducible rfl)))) | refine seq_skip rfl rfl rfl ?_ | refine seq_skipc rfl rfl rfl (by assumption) ?_);(try simp only [Act.put,pu1,pu2,pu3,pu4,pu5,pu6]))
       refine seq_done ?_
       clear C0 C1 HOUT
       go_upto_region 6 with (fail)
       have HS1:=Lib.hid (HWO.out.after hS0 hbw)
       generalize wr.drew=W1 at *
       obtain ⟨cx,fx,_⟩:=HS1.out.1.at_ (k:=p+1) (z:=x) (by rw [← HP.out];simp)
       obtain ⟨cy,fy,_⟩:=HS1.out.1.at_ (k:=p) (z:=y) (by rw [← HP.out];simp)
       have C0:=stab cx
       have C1:=stab cy
       have hS1:=below_drew' W1
       clear hS0
       refine region_seq 15 [0,1,2,3,4,5,6,7,8,9,10,11,12,13,14,15,16,17] (by kernel_rfl) (by kernel_rfl) ?_
       repeat ((first | (refine seq_takeP (v:=?_) rfl rfl rfl ?_ ?_;rotate_left;(· (intro _ hSw;go_simp;(try go_bits);(try with_reducible rfl)))) | (refine seq_take (v:=?_) rfl rfl rfl ?_ ?_;rotate_left;(· (intro _ hSw;go_simp;(try go_bits);(try with_reducible rfl)))) | refine seq_skip rfl rfl rfl ?_);(try simp only [Act.put,pu1,pu2,pu3,pu4,pu5,pu6]))
       refine seq_step rfl rfl (fun KR hKR=>?_)
       go_simp
       refine hKR.out _ _ (Or.inl (by decide)) ?_
       clear hKR KR
       (try simp only [Act.put,pu1,pu2,pu3,pu4,pu5,pu6])
       refine seq_step rfl rfl (fun KR hKR=>?_)
       go_simp
       refine hKR.out _ _ (Or.inl (by decide)) ?_
       clear hKR KR
       (try simp only [Act.put,pu1,pu2,pu3,pu4,pu5,pu6])
       refine seq_step rfl rfl (fun KR hKR=>?_)
       go_simp
       refine hKR.out _ _ (Or.inl (by decide)) ?_
       clear hKR KR
       (try simp only [Act.put,pu1,pu2,pu3,pu4,pu5,pu6])
       refine seq_done ?_
       have HS2:=HS1.out.put HBG.out (j:=p+1) (k:=p) (x:=y) (y:=x) (by rw [← HP.out];simp) (by rw [← HP.out];simp) HBY.out HBX.out
       rw [mid_swap HP.out] at HS2
       have HW2:=Lib.hid (HS2.after (below_drew' _) hbw)
       generalize ((W1.setCell ⟨g,p+1,none⟩ (.int .i64 y)).setCell ⟨g,p,none⟩ (.int .i64 x)).drew=W2 at *
       clear C0 C1 hS1 HS2 cx cy
       go_wp2
       go_roundw
       case rel=>exact ⟨p,a',y::b,by omega,by go_num,HN,HW2⟩
       case measure=>simp [intOf]
      ·have HE:=Lib.hid (HOUT.out (.inr ⟨a',y,rfl,hxy⟩))
       have hd:decide (x < y)=false:=by simpa using hxy
       have C0:=stab cx
       have C1:=stab cy
       have hS0:=below_drew' wr
       clear HOUT
       go_upto_region 4 with (fail)
       clear cx cy
       refine region_seq 15 [0,1,2,3,4,5,6,7,8,9,10,11,12,13,14] (by kernel_rfl) (by kernel_rfl) ?_
       repeat ((first | (refine seq_takeP (v:=?_) rfl rfl rfl ?_ ?_;rotate_left;(· (intro _ hSw;go_simp;(try go_bits);(try with_reducible rfl)))) | (refine seq_take (v:=?_) rfl rfl rfl ?_ ?_;rotate_left;(· (intro _ hSw;go_simp;(try go_bits);(try with_reducible rfl)))) | refine seq_skip rfl rfl rfl ?_ | refine seq_skipc rfl rfl rfl (by assumption) ?_);(try simp only [Act.put,pu1,pu2,pu3,pu4,pu5,pu6]))
       refine seq_step rfl rfl (fun KR hKR=>?_)
       go_simp
       with_reducible refine (less_any x y _).mono ?_
       rintro _ _ ⟨rfl,rfl⟩
       rw [hd]
       refine hKR.out _ _ (Or.inr hS0) ?_
       clear hKR KR
       (try simp only [Act.put,pu1,pu2,pu3,pu4,pu5,pu6])
       repeat ((first | (refine seq_takeP (v:=?_) rfl rfl rfl ?_ ?_;rotate_left;(· (intro _ hSw;go_simp;(try go_bits);(try with_reducible rfl)))) | (refine seq_take (v:=?_) rfl rfl rfl ?_ ?_;rotate_left;(· (intro _ hSw;go_simp;(try go_bits);(try with_reducible rfl)))) | refine seq_skip rfl rfl rfl ?_ | refine seq_skipc rfl rfl rfl (by assumption) ?_);(try simp only [Act.put,pu1,pu2,pu3,pu4,pu5,pu6]))
       refine seq_done ?_
       clear C0 C1
       go_wp2
       go_roundw
       case rel=>exact ⟨i+1,by omega,by omega,by go_num,by
        have:=HW.out
        rw [HE.out] at this
        exact this.after hS0 hbw⟩
       case measure=>simp [intOf];omega
   ·obtain rfl:i=m:=by omega
    go_wp2
    go_end0
    exact ⟨rfl,by
     have e:sortI (zs.take i)++zs.drop i=sortI zs:=by rw [HM.out];simp
     rw [e] at HS;exact HS⟩
 ·have HI:=Lib.hid h
  have HV:Hid (∃A c',v= .slice A m c'):=Lib.hid (by
   obtain ⟨A,n',c',rfl⟩:=h.sliceN
   have:=h.len
   exact ⟨A,c',by rw [this,hm]⟩)
  have HE:Hid (sortI zs=zs):=Lib.hid (by
   match zs,hm with
   | [],_=>rfl
   | [x],_=>rfl
   | x::y::zs,hm=>simp at hm;omega)
  clear h hm
  go_enter Tryz.func91,Tryz.ntmps91
  go_wp2
  go_loopw [6] (fun s6 wr=>s6= .int .i64 1∧wr=w) (fun s6 _=>0)
  case atStart=>exact ⟨rfl,rfl⟩
  case round=>
   obtain ⟨rfl,rfl⟩:=hrel
   go_wp2
   go_end0
   exact ⟨rfl,by rw [HE.out];exact ⟨HI.out,KeepBut.refl _ _,⟨Nat.le_refl _,fun _ _ _=>rfl⟩,Below.refl _ _⟩⟩
theorem pdqI_own (base:Nat) (v:Value) (zs:List Int) (w:World) (h:IntsO base w v zs) (hl:zs.length≤12) (n:Int) (hn:n=zs.length) (k:Int):
 Calls Tryz.prog 67 #[v,.int .i64 0,.int .i64 n,.int .i64 k] w fun e w'=>e= .returned (.tuple #[])∧SortedI base w v (sortI zs) w':=by
 have h00:0≤n:=by omega
 have h12:n≤12:=by omega
 have HI:=Lib.hid h
 have HN:=Lib.hid hn
 obtain ⟨A,n',c',rfl⟩:=h.sliceN
 clear h hn
 go_enter Tryz.func67,Tryz.ntmps67
 go_wp2
 refine wp_loop_rounds 1 ?_
 rw [rounds_succ]
 go_wp2_with fail
 refine (insertionI_own base _ zs _ HI.out hl n HN.out).mono ?_
 rintro _ w1 ⟨rfl,hs⟩
 go_wp2
 (try simp only [Exit.inBlock,Exit.then]);refine bodyPost_ret (results_none rfl _ _ _) rfl ?_
 exact ⟨rfl,hs⟩
theorem sortI_own (base:Nat) (v:Value) (zs:List Int) (w:World) (h:IntsO base w v zs) (hl:zs.length≤12):
 Calls Tryz.prog 40 #[v] w fun e w'=>e= .returned (.tuple #[])∧SortedI base w v (sortI zs) w':=by
 obtain ⟨A,n,c,rfl⟩:=h.sliceN
 have hn:=h.len
 have HI:=Lib.hid h
 have HN:=Lib.hid hn
 have h12:n≤12:=by omega
 clear h hn
 go_enter Tryz.func40,Tryz.ntmps40
 go_wp2_with fail
 refine (len_small (n:Int) _ (by omega) (by omega)).mono ?_
 rintro _ _ ⟨⟨l,rfl⟩,rfl⟩
 go_wp2_with fail
 refine (pdqI_own base _ zs _ HI.out hl n (by rw [HN.out]) l).mono ?_
 rintro _ w1 ⟨rfl,hs⟩
 go_wp2
 go_end0
 exact ⟨rfl,hs⟩
theorem run_append_intsL (ty:TypeId) (W:World) (base:Nat) (v0 v:Value) (ys zs:List Int) (h0:IntsO base W v0 ys) (h:IntsM W v zs) (hn:ys.length+zs.length≤1099511627776) (hbase:base≤W.heap.size):
 ∃v' w',(Builtin.append_ #[22,22] ty #[v0,v]).run Tryz.prog W= .ok v' w'∧IntsO base w' v' (ys++zs)∧KeepBut 3 W w'∧Below base W w'∧Others v0.ownBlock W w'∧(v'.ownBlock=v0.ownBlock∨∀g,v'.ownBlock=some g→W.heap.size≤g):=by
 obtain ⟨A,c,rfl,hc,hm,hrow,hrg⟩:=h
 obtain ⟨i0,hi,hz0,hz1,hz2⟩:=info_parts info_intT
 cases A with
 | none=>
  have h00:zs.length=0:=by
   rcases Nat.eq_zero_or_pos zs.length with e | e
   ·exact e
   ·obtain ⟨b,off,e1,_⟩:=hrow e;cases e1
  have hfs:zs=[]:=List.eq_nil_of_length_eq_zero h00
  subst hfs
  refine ⟨v0,W,?_,by simpa using h0,KeepBut.refl _ _,Below.refl _ _,⟨Nat.le_refl _,fun _ _ _=>rfl⟩,.inl rfl⟩
  rcases h0.1.2 with ⟨rfl,_⟩ | ⟨g,cap,cur,rfl,hb,hg,hnc,hcm,hcs,htake⟩
  ·simp [Builtin.append_,run_underlying Tryz.underlying22,sizeOf,typeInfo,zeroValue,hi,hz0,Builtin.lenOf,run_firstCells_none]
  ·simp [Builtin.append_,run_underlying Tryz.underlying22,sizeOf,typeInfo,zeroValue,hi,hz0,Builtin.lenOf,run_firstCells_none,hnc,storeCells]
 | some ad=>
  obtain ⟨v',w',hr,g1,g2,g3,g4⟩:=run_append_own_at (P:=Tryz.prog) W base 22 ty 3 i0 _ 1 8 Tryz.underlying22 hi hz0 hz1 hz2 rfl (by decide) v0 ys.length (ys.map fun z=>Value.int .i64 z) h0.1 ad zs.length c (zs.map fun z=>Value.int .i64 z) (by simp) (fun j u hj=>by
   have hjl:j < zs.length:=by have h9:=(List.getElem?_eq_some_iff.1 hj).1;simpa using h9
   obtain ⟨b,off,e,hx⟩:=hrow (by omega)
   have e:=Option.some.inj e
   rw [e,addr_add0,hx j hjl]
   simp [List.getElem?_eq_getElem hjl] at hj
   rw [← hj]
   simp [List.getD,List.getElem?_eq_getElem hjl]) (fun u hu=>by simp at hu;obtain ⟨z,_,rfl⟩:=hu;rfl) (by unfold maxLen;omega) (by omega) hbase
  refine ⟨v',w',hr,⟨by simpa using g1,fun y hy=>?_⟩,?_,?_,⟨g2.size,fun b hb hne=>g2.block b hb hne⟩,?_⟩
  ·rcases List.mem_append.1 hy with hy | hy
   ·exact h0.2 y hy
   ·exact hrg y hy
  ·intro b cs t' fz hne hcb
   refine (g2.block b (lt_heap hcb) ?_).trans hcb
   intro e1
   rcases h0.1.2 with ⟨rfl,_⟩ | ⟨g,cap,cur,rfl,_,hg,_⟩
   ·simp [Value.ownBlock] at e1
   ·simp [Value.ownBlock] at e1
    subst e1
    rw [hg] at hcb
    injection hcb with hcb
    injection hcb with _ h2 _
    exact hne h2.symm
  ·exact (Below.refl _ _).grown g2 hbase (fun k hk=>(h0.1.lt k hk).1)
  ·rcases g4 with g4 | g4
   ·exact .inl g4
   ·right;intro g hg;rw [g4] at hg;injection hg with hg;omega
theorem bsearch_any (v:Value) (zs:List Int) (t:Int) (w:World) (h:IntsM w v zs) (hs:zs.Pairwise (· < ·)) (hl:zs.length≤1000):
 Calls Tryz.prog 45 #[v,.int .i64 t] w fun e w'=>e= .returned (.tuple #[.int .i64 (posR zs t:Nat),.bool (decide (t∈zs))])∧Below w.heap.size w w':=by
 obtain ⟨A,c,rfl,hc,hc'⟩:=h.shape
 obtain ⟨n,hn⟩:∃n,n=zs.length:=⟨_,rfl⟩
 rw [← hn] at h hc hl ⊢
 have HN:=Lib.hid hn
 have HI:=Lib.hid h
 have HS:=Lib.hid hs
 clear h hn hs
 go_enter Tryz.func45,Tryz.ntmps45
 go_wp2
 go_loopw [7,8,9] (fun s7 s8 _ wr=>∃i j:Nat,i≤j∧j≤n∧s7= .int .i64 i∧s8= .int .i64 j∧Below w.heap.size w wr∧Hid (∀(k:Nat) (x:Int),k < i→zs[k]? =some x→x < t)∧Hid (∀(k:Nat) (x:Int),j≤k→zs[k]? =some x→t≤x)) (fun s7 s8 _ _=>(intOf s8).toNat - (intOf s7).toNat)
 case atStart=>exact ⟨0,n,by omega,by omega,rfl,rfl,Below.refl _ _,Lib.hid (fun k x hk=>by omega),Lib.hid (fun k x hk hx=>by have:=(List.getElem?_eq_some_iff.1 hx).1;have:=HN.out;omega)⟩
 case round=>
  obtain ⟨i,j,hij,hjn,rfl,rfl,hb,HA,HB⟩:=hrel
  rcases Nat.lt_or_ge i j with hlt | hlt
  ·have hltz:(i:Int) < j:=by omega
   have hmid:(i+j) / 2 < n:=by omega
   obtain ⟨b,off,y,hA,hcell,hy,_,_⟩:=HI.out.elem hb hmid
   subst hA
   have HY:=Lib.hid hy
   clear hy
   have q0:(0:Int)≤((i:Int)+j) / 2:=by omega
   have q1:((i:Int)+j) / 2 < n:=by omega
   have q2:(((i:Int)+j) / 2).toNat=(i+j) / 2:=by omega
   go_wp2_with fail
   refine (less_any y t _).mono ?_
   rintro _ _ ⟨rfl,rfl⟩
   by_cases hyt:y < t
   ·have hd:decide (y < t)=true:=by simpa using hyt
    rw [hd]
    have HA':Hid (∀(k:Nat) (x:Int),k < (i+j) / 2+1→zs[k]? =some x→x < t):=Lib.hid (fun k x hk hx=>by
     rcases Nat.lt_or_ge k ((i+j) / 2) with e | e
     ·have:=asc_get HS.out e hx HY.out;omega
     ·obtain rfl:k=(i+j) / 2:=by omega
      rw [HY.out] at hx;injection hx with hx;omega)
    go_wp2
    go_roundw
    case rel=>exact ⟨(i+j) / 2+1,j,by omega,by omega,by go_num,rfl,hb,HA',HB⟩
    case measure=>simp [intOf];omega
   ·have hd:decide (y < t)=false:=by simpa using hyt
    rw [hd]
    have HB':Hid (∀(k:Nat) (x:Int),(i+j) / 2≤k→zs[k]? =some x→t≤x):=Lib.hid (fun k x hk hx=>by
     rcases Nat.lt_or_ge ((i+j) / 2) k with e | e
     ·have:=asc_get HS.out e HY.out hx;omega
     ·obtain rfl:k=(i+j) / 2:=by omega
      rw [HY.out] at hx;injection hx with hx;omega)
    go_wp2
    go_roundw
    case rel=>exact ⟨i,(i+j) / 2,by omega,by omega,rfl,by go_num,hb,HA,HB'⟩
    case measure=>simp [intOf];omega
  ·obtain rfl:i=j:=by omega
   have HPOS:Hid (posR zs t=i):=Lib.hid (posR_of (by rw [← HN.out];exact hjn) HA.out HB.out)
   rcases Nat.lt_or_ge i n with hin | hin
   ·have hinz:(i:Int) < n:=by omega
    obtain ⟨b,off,y,hA,hcell,hy,_,_⟩:=HI.out.elem hb hin
    subst hA
    have HY:=Lib.hid hy
    clear hy
    by_cases hyt:y=t
    ·subst hyt
     have HM:Hid (decide (y∈zs)=true):=Lib.hid (by rw [decide_eq_true_iff];exact List.mem_of_getElem? HY.out)
     go_wp2
     go_ret2
     exact ⟨by rw [HPOS.out,HM.out];rfl,hb⟩
    ·have hne:(y==t)=false:=by simpa using hyt
     have HM:Hid (decide (t∈zs)=false):=Lib.hid (by
      rw [decide_eq_false_iff_not]
      intro hm
      obtain ⟨k,hk⟩:=List.mem_iff_getElem?.1 hm
      rcases Nat.lt_trichotomy k i with e | e | e
      ·have:=HA.out k t e hk;omega
      ·subst e;rw [HY.out] at hk;injection hk with hk;exact hyt hk
      ·have a:=HB.out i y (Nat.le_refl _) HY.out
       have b:=asc_get HS.out e HY.out hk
       omega)
     clear hyt
     go_wp2
     go_ret2
     exact ⟨by rw [HPOS.out,HM.out];rfl,hb⟩
   ·have HM:Hid (decide (t∈zs)=false):=Lib.hid (by
     rw [decide_eq_false_iff_not]
     intro hm
     obtain ⟨k,hk⟩:=List.mem_iff_getElem?.1 hm
     have:=(List.getElem?_eq_some_iff.1 hk).1
     have:=HN.out
     have:=HA.out k t (by omega) hk
     omega)
    go_wp2
    go_ret2
    exact ⟨by rw [HPOS.out,HM.out];rfl,hb⟩
theorem clone_own (v:Value) (zs:List Int) (w:World) (h:IntsM w v zs) (hl:zs.length≤1000000):
 Calls Tryz.prog 46 #[v] w fun e w'=>∃v',e= .returned v'∧IntsO w.heap.size w' v' zs∧Below w.heap.size w w':=by
 obtain ⟨A,c,rfl,hc,hc'⟩:=h.shape
 have heql:=fun (W:World) (a:Option Addr)=>Go.Lib.run_eql_slice_nil (P:=Tryz.prog) W 22 3 a zs.length c 0 0 Tryz.underlying22
 cases A with
 | none=>
  have hz:zs=[]:=by
   obtain ⟨A',c',e,_,_,h4,_⟩:=h
   injection e with e1 _ _
   subst e1
   rcases Nat.eq_zero_or_pos zs.length with e | e
   ·exact List.eq_nil_of_length_eq_zero e
   ·obtain ⟨b,off,e,_⟩:=h4 e;cases e
  subst hz
  have:=heql w none
  simp only [List.length_nil] at this
  clear h heql
  go_enter Tryz.func46,Tryz.ntmps46
  go_wp2
  go_ret
  exact ⟨_,rfl,IntsO.nil _ _,Below.refl _ _⟩
 | some ad=>
  have:=heql w (some ad)
  clear heql
  have h0:IntsO w.heap.size (w.alloc (.cells #[] 3)) (.slice (some ⟨w.heap.size,0,none⟩) 0 0) []:=⟨World.ownsRow_made w #[] 0 (Nat.le_refl _) (by simp) (by simp),fun z hz=>by simp at hz⟩
  have hb0:Below w.heap.size w (w.alloc (.cells #[] 3)):=(Below.refl _ _).alloc (Nat.le_refl _) _
  obtain ⟨v',w',hr,g1,_,g3,_,_⟩:=run_append_intsL 22 _ w.heap.size _ _ [] zs h0 (h.below hb0) (by simp;omega) (by simp)
  have G1:=Lib.hid g1
  have hb3:=hb0.trans g3
  clear h h0 g1 g3
  go_enter Tryz.func46,Tryz.ntmps46
  go_wp2_with (at_builtin;refine wpList_append_run hr rfl rfl rfl rfl rfl ?_)
  go_wp2
  go_ret
  exact ⟨_,rfl,by simpa using G1.out,hb3⟩
namespace Pl
theorem count_take_succ {zs:List Int} {k:Nat} {x z:Int} (h:zs[k]? =some x):(zs.take (k+1)).count z=(zs.take k).count z+if x=z then 1 else 0:=by
 rw [List.take_add_one,h,List.count_append]
 by_cases e:x=z <;> simp [e]
theorem insB_left {lt:Int→Int→Bool} {x:Int} {a b:List Int} (h:∃y∈a,lt x y=true):insB lt x (a++b)=insB lt x a++b:=by
 induction a with
 | nil=>simp at h
 | cons y a ih=>
  rw [List.cons_append,insB,insB]
  by_cases hy:lt x y=true
  ·rw [if_pos hy,if_pos hy];rfl
  ·rw [if_neg hy,if_neg hy,ih ?_]
   ·rfl
   ·obtain ⟨z,hz,hl⟩:=h
    rcases List.mem_cons.1 hz with rfl | hz
    ·exact absurd hl hy
    ·exact ⟨z,hz,hl⟩
theorem insB_right {lt:Int→Int→Bool} {x:Int} {a b:List Int} (h:∀y∈a,lt x y=false):insB lt x (a++b)=a++insB lt x b:=by
 induction a with
 | nil=>rfl
 | cons y a ih=>
  rw [List.cons_append,insB,if_neg (by simp [h y (by simp)]),ih fun z hz=>h z (List.mem_cons_of_mem _ hz)]
  rfl
end Pl
theorem count_any (v:Value) (zs:List Int) (z:Int) (w:World) (h:IntsM w v zs):
 Calls Tryz.prog 58 #[v,.int .i64 z] w fun e w'=>e= .returned (.int .i64 (zs.count z:Nat))∧Below w.heap.size w w':=by
 obtain ⟨A,c,rfl,hc,hc'⟩:=h.shape
 obtain ⟨n,hn⟩:∃n,n=zs.length:=⟨_,rfl⟩
 rw [← hn] at h hc ⊢
 have HN:=Lib.hid hn
 have HI:=Lib.hid h
 clear h hn
 go_enter Tryz.func58,Tryz.ntmps58
 go_wp2
 go_loopw [5,6] (fun s5 s6 wr=>∃k q:Nat,k≤n∧q≤k∧s6= .int .i64 k∧s5= .int .i64 q∧Below w.heap.size w wr∧Hid (q=(zs.take k).count z)) (fun _ x _=>n - (intOf x).toNat)
 case atStart=>exact ⟨0,0,by omega,by omega,rfl,rfl,Below.refl _ _,Lib.hid (by simp)⟩
 case round=>
  obtain ⟨k,q,hk,hq,rfl,rfl,hb,HT⟩:=hrel
  rcases Nat.lt_or_ge k n with hkl | hkl
  ·obtain ⟨b,off,y,hA,hcell,hy,_,_⟩:=HI.out.elem hb hkl
   subst hA
   have HY:=Lib.hid hy
   clear hy
   by_cases hyz:y=z
   ·subst hyz
    have HT':Hid (q+1=(zs.take (k+1)).count y):=Lib.hid (by rw [count_take_succ HY.out,if_pos rfl,HT.out])
    go_wp2
    go_roundw
    case rel=>exact ⟨k+1,q+1,by omega,by omega,by go_num,by go_num,hb,HT'⟩
    case measure=>simp [intOf];omega
   ·have hne:(y==z)=false:=by simpa using hyz
    have HT':Hid (q=(zs.take (k+1)).count z):=Lib.hid (by rw [count_take_succ HY.out,if_neg hyz,HT.out,Nat.add_zero])
    clear hyz
    go_wp2
    go_roundw
    case rel=>exact ⟨k+1,q,by omega,by omega,by go_num,rfl,hb,HT'⟩
    case measure=>simp [intOf];omega
  ·obtain rfl:n=k:=by omega
   go_wp2
   go_ret
   exact ⟨ret_int (by rw [HT.out,take_all HN.out]),hb⟩
theorem IntsM.cellAt {w wr:World} {b off n c:Nat} {zs:List Int} (h:IntsM w (.slice (some ⟨b,off,none⟩) n c) zs) (hb:Below w.heap.size w wr) {k:Nat} {z:Int} (hz:zs[k]? =some z):wr.cell? ⟨b,off+k,none⟩=some (.int .i64 z):=by
 have hk:=(List.getElem?_eq_some_iff.1 hz).1
 obtain ⟨b',off',z',h1,h2,h3,_⟩:=h.elem hb (k:=k) (by rw [h.lenE];exact hk)
 injection h1 with h1
 injection h1 with e1 e2 _
 subst e1 e2
 rw [hz] at h3;injection h3 with h3;subst h3
 exact h2
theorem IntsM.lenC {w:World} {A:Option Addr} {n c:Nat} {zs:List Int} (h:IntsM w (.slice A n c) zs):n=zs.length∧n≤c∧c≤9223372036854775807:=by
 obtain ⟨A',c',e,h1,h2⟩:=h.shape
 injection e with _ e2 e3
 subst e2 e3
 exact ⟨rfl,h1,h2⟩
theorem place_own (v:Value) (zs:List Int) (z:Int) (w:World) (h:IntsM w v zs) (z0: -9223372036854775808≤z) (z1:z≤9223372036854775807) (hl:zs.length≤1000):
 Calls Tryz.prog 44 #[v,.int .i64 z] w fun e w'=>∃v',e= .returned v'∧IntsO w.heap.size w' v' (insB ltI z zs)∧Below w.heap.size w w':=by
 obtain ⟨A,c,rfl,hc,hc'⟩:=h.shape
 obtain ⟨n,hn⟩:∃n,n=zs.length:=⟨_,rfl⟩
 rw [← hn] at h hc hl ⊢
 have HN:=Lib.hid hn
 have HI:=Lib.hid h
 clear h hn
 go_enter Tryz.func44,Tryz.ntmps44
 go_wp2
 go_loopw [5,6,7] (fun s5 s6 s7 wr=>∃(k:Nat) (d:Bool) (ys:List Int),k≤n∧s7= .int .i64 k∧s6= .bool d∧IntsO w.heap.size wr s5 ys∧ys.length≤k+1∧Below w.heap.size w wr∧Hid (d=false→ys=zs.take k∧∀y∈zs.take k,ltI z y=false)∧Hid (d=true→ys=insB ltI z (zs.take k)∧∃y∈zs.take k,ltI z y=true)) (fun _ _ x _=>n - (intOf x).toNat)
 case atStart=>exact ⟨0,false,[],by omega,rfl,rfl,IntsO.nil _ _,by simp,Below.refl _ _,Lib.hid (fun _=>by simp),Lib.hid (fun h=>by cases h)⟩
 case round=>
  obtain ⟨k,d,ys,hk,rfl,rfl,hO,hyl,hb,HF,HT⟩:=hrel
  rcases Nat.lt_or_ge k n with hkl | hkl
  ·obtain ⟨b,off,y,hA,hcell,hy,y0,y1⟩:=HI.out.elem hb hkl
   subst hA
   have HY:=Lib.hid hy
   have hbs:=hb.size
   have HO:=Lib.hid hO
   have hlen:ys.length+1≤1099511627776:=by omega
   clear hy hO
   cases d with
   | true=>
    have HT':Hid (ys++[y]=insB ltI z (zs.take (k+1))∧∃y∈zs.take (k+1),ltI z y=true):=Lib.hid (by
     obtain ⟨h1,h2⟩:=HT.out rfl
     rw [List.take_add_one,HY.out]
     refine ⟨by rw [h1];exact (insB_left h2).symm,?_⟩
     obtain ⟨q,hq,hl⟩:=h2
     exact ⟨q,List.mem_append_left _ hq,hl⟩)
    clear HF HT
    go_wp2_with (at_builtin;refine wpList_append_int rfl (.tmp 28) (.tmp 33) rfl wr w.heap.size u5 ys rfl HO.out y rfl y0 y1 hlen hbs ?_)
    intro v' w4 hown4 hk4 hb4 _ _
    go_wp2
    go_roundw
    case rel=>exact ⟨k+1,true,ys++[y],by omega,by go_num,rfl,hown4,by simp;omega,hb.trans hb4,Lib.hid (fun h=>by cases h),Lib.hid (fun _=>HT'.out)⟩
    case measure=>simp [intOf];omega
   | false=>
    by_cases hzy:z < y
    ·have hyl2:ys.length≤k:=by rw [(HF.out rfl).1];exact List.length_take_le _ _
     have HT':Hid (ys++[z,y]=insB ltI z (zs.take (k+1))∧∃y∈zs.take (k+1),ltI z y=true):=Lib.hid (by
      obtain ⟨h1,h2⟩:=HF.out rfl
      rw [List.take_add_one,HY.out]
      refine ⟨by rw [h1];simp only [Option.toList_some];rw [insB_right h2,insB,if_pos (ltI_iff.2 hzy)],y,by simp,ltI_iff.2 hzy⟩)
     clear HF HT
     go_wp2_with (at_builtin;refine wpList_append_int rfl (.tmp 24) (.tmp 26) rfl wr w.heap.size u5 ys rfl HO.out z rfl z0 z1 hlen hbs ?_)
     intro v1 w1 hown1 hk1 hb1 _ _
     have hb2:=hb.trans hb1
     have hcell1:=HI.out.cellAt hb2 HY.out
     have HO1:=Lib.hid hown1
     have hlen1:(ys++[z]).length+1≤1099511627776:=by simp;omega
     have hbs1:=hb2.size
     clear hb hb1 hcell hk1 hown1
     go_wp2_with (at_builtin;refine wpList_append_int rfl (.tmp 28) (.tmp 33) rfl w1 w.heap.size v1 (ys++[z]) rfl HO1.out y rfl y0 y1 hlen1 hbs1 ?_)
     intro v' w4 hown4 hk4 hb4 _ _
     go_wp2
     go_roundw
     case rel=>exact ⟨k+1,true,ys++[z,y],by omega,by go_num,rfl,by simpa using hown4,(by simp;omega),hb2.trans hb4,Lib.hid (fun h=>by cases h),Lib.hid (fun _=>HT'.out)⟩
     case measure=>simp [intOf];omega
    ·have HF':Hid (ys++[y]=zs.take (k+1)∧∀y∈zs.take (k+1),ltI z y=false):=Lib.hid (by
      obtain ⟨h1,h2⟩:=HF.out rfl
      rw [List.take_add_one,HY.out]
      refine ⟨by rw [h1];rfl,fun q hq=>?_⟩
      rcases List.mem_append.1 hq with hq | hq
      ·exact h2 q hq
      ·simp at hq;subst hq;exact ltI_not.2 (by omega))
     have hzy':¬z < y:=hzy
     clear HF HT
     go_wp2_with (at_builtin;refine wpList_append_int rfl (.tmp 28) (.tmp 33) rfl wr w.heap.size u5 ys rfl HO.out y rfl y0 y1 hlen hbs ?_)
     intro v' w4 hown4 hk4 hb4 _ _
     go_wp2
     go_roundw
     case rel=>exact ⟨k+1,false,ys++[y],by omega,by go_num,rfl,hown4,by simp;omega,hb.trans hb4,Lib.hid (fun _=>HF'.out),Lib.hid (fun h=>by cases h)⟩
     case measure=>simp [intOf];omega
  ·obtain rfl:n=k:=by omega
   cases d with
   | true=>
    have HE:Hid (ys=insB ltI z zs):=Lib.hid (by have:=(HT.out rfl).1;rw [take_all HN.out] at this;exact this)
    clear HF HT
    go_wp2
    go_ret
    exact ⟨_,rfl,by rw [← HE.out];exact hO,hb⟩
   | false=>
    have HE:Hid (ys++[z]=insB ltI z zs):=Lib.hid (by
     obtain ⟨h1,h2⟩:=HF.out rfl
     rw [take_all HN.out] at h1 h2
     rw [h1]
     have:=insB_right (b:=[]) h2
     rw [List.append_nil] at this
     rw [this];rfl)
    have hbs:=hb.size
    have HO:=Lib.hid hO
    have hlen:ys.length+1≤1099511627776:=by omega
    clear HF HT hO
    go_wp2_with (at_builtin;refine wpList_append_int rfl (.tmp 37) (.tmp 39) rfl wr w.heap.size u5 ys rfl HO.out z rfl z0 z1 hlen hbs ?_)
    intro v' w4 hown4 hk4 hb4 _ _
    go_wp2
    go_ret
    exact ⟨_,rfl,by rw [← HE.out];exact hown4,hb.trans hb4⟩
theorem box_cut (w:World) (x y:Value):∃W,w.alloc (.cells #[x,y] 64)=W∧Bk W w.heap.size 64 [x,y]∧Below w.heap.size w W:=⟨_,rfl,Bk.new w _ [x,y],below_new w _⟩
theorem box_pair (w:World) (x y:Value):∃W,w.alloc (.cells #[x,y] 51)=W∧Bk W w.heap.size 51 [x,y]∧Below w.heap.size w W:=⟨_,rfl,Bk.new w _ [x,y],below_new w _⟩
def CutOK (R:List Int) (x:Ct):Prop:=x.rows.Pairwise (· < ·)∧(∀r∈x.rows,r∈R)∧2≤x.dv∧x.dv≤x.rows.length
theorem validCut27_any (v1:Value) (R:List Int) (A:Option Addr) (n c:Nat) (x:Ct) (w:World) (h:IntsM w v1 R) (h2:IntsM w (.slice A n c) x.rows) (ok:CutOK R x):
 Calls Tryz.prog 59 #[v1,.agg #[.slice A n c,.int .i64 x.dv]] w fun e w'=>e= .returned (.bool true)∧Below w.heap.size w w':=by
 obtain ⟨o1,o2,o3,o4⟩:=ok
 have hn:=h2.lenE
 have o4':x.dv≤n:=by omega
 obtain ⟨W,hW,hX,hbe⟩:=box_cut w (.slice A n c) (.int .i64 x.dv)
 have HI:=Lib.hid h
 have HJ:=Lib.hid h2
 have HA:Hid (ascB x.rows=true):=Lib.hid (by unfold ascB;simpa using o1)
 have HB:Hid (decide (∀r∈x.rows,r∈R)=true):=Lib.hid (by simpa using o2)
 obtain ⟨x0,x1,_,_⟩:=hX.two
 clear h h2 o1 o2 o4 hn
 generalize x.dv=D at *
 go_enter Tryz.func59,Tryz.ntmps59
 go_wp2_with fail
 clear hW
 refine (ascending_any _ x.rows _ (HJ.out.below hbe)).mono ?_
 rw [HA.out]
 rintro _ w1 ⟨rfl,hb1⟩
 have hX1:=hX.later hb1
 have hbe1:=below_then hbe hb1 hbe.size
 obtain ⟨x0,x1,_,_⟩:=hX1.two
 clear hX hbe hb1
 go_wp2_with fail
 refine (within_any _ _ x.rows R _ (HJ.out.below hbe1) (HI.out.below hbe1)).mono ?_
 rw [HB.out]
 rintro _ w2 ⟨rfl,hb2⟩
 have hX2:=hX1.later hb2
 have hbe2:=below_then hbe1 hb2 hbe1.size
 obtain ⟨x0,x1,_,_⟩:=hX2.two
 clear hX1 hbe1 hb2
 go_wp2
 go_ret
 exact ⟨rfl,hbe2⟩
theorem validCut_any (v1:Value) (R:List Int) (A:Option Addr) (n c:Nat) (x:Ct) (w:World) (h:IntsM w v1 R) (h2:IntsM w (.slice A n c) x.rows) (ok:CutOK R x) (hR:R.Pairwise (· < ·)) (hl:R.length≤1000) (hl2:x.rows.length≤1000):
 Calls Tryz.prog 56 #[v1,.agg #[.slice A n c,.int .i64 x.dv]] w fun e w'=>e= .returned (.bool true)∧Below w.heap.size w w':=by
 obtain ⟨o1,o2,o3,o4⟩:=ok
 have hn:=h2.lenE
 have o4':x.dv≤n:=by omega
 obtain ⟨W,hW,hX,hbe⟩:=box_cut w (.slice A n c) (.int .i64 x.dv)
 obtain ⟨-,hc1,hc2⟩:=h2.lenC
 have HI:=Lib.hid h
 have HJ:=Lib.hid h2
 have HA:=Lib.hid o1
 have HB:=Lib.hid o2
 have HR:=Lib.hid hR
 have HN:=Lib.hid hn
 have hl3:n≤1000:=by omega
 obtain ⟨x0,x1,_,_⟩:=hX.two
 clear h h2 o1 o2 o4 hn hR hl2
 generalize x.dv=D at *
 go_enter Tryz.func56,Tryz.ntmps56
 go_wp2
 clear x0 x1
 go_loopw [5,6,7,8,12,17] (fun _ _ _ _ x _ wr=>∃k:Nat,k≤n∧x= .int .i64 k∧Below w.heap.size w wr∧Bk wr w.heap.size 64 [.slice A n c,.int .i64 D]) (fun _ _ _ _ x _ _=>n - (intOf x).toNat)
 case atStart=>exact ⟨0,by omega,rfl,hbe,hX⟩
 case round=>
  clear hW hbe hX
  obtain ⟨k,hk,rfl,hb,hB⟩:=hrel
  obtain ⟨x0,x1,_,_⟩:=hB.two
  rcases Nat.lt_or_ge k n with hkl | hkl
  ·obtain ⟨b,off,y,hA,hcell,hy,_,_⟩:=HJ.out.elem hb hkl
   subst hA
   have HY:=Lib.hid hy
   have HM:Hid (decide (y∈R)=true):=Lib.hid (by rw [decide_eq_true_iff];exact HB.out y (List.mem_of_getElem? hy))
   clear hy
   go_wp2_with fail
   refine (bsearch_any _ R y _ (HI.out.below hb) HR.out hl).mono ?_
   rw [HM.out]
   rintro _ w1 ⟨rfl,hb1⟩
   have hB1:=hB.later hb1
   have hb2:=below_then hb hb1 hb.size
   obtain ⟨x0,x1,_,_⟩:=hB1.two
   generalize posR R y=P
   clear hB hb hb1 hcell
   rcases Nat.eq_zero_or_pos k with hk0 | hk0
   ·subst hk0
    go_wp2
    go_roundw
    case rel=>exact ⟨1,by omega,by go_num,hb2,hB1⟩
    case measure=>simp [intOf];omega
   ·obtain ⟨j,rfl⟩:∃j,k=j+1:=⟨k - 1,by omega⟩
    obtain ⟨b',off',y',hA',hcell',hy',_,_⟩:=HJ.out.elem hb2 (show j < n by omega)
    injection hA' with hA'
    injection hA' with e1 e2 _
    subst e1 e2
    have hlt:y' < y:=asc_get HA.out (Nat.lt_succ_self j) hy' HY.out
    have hle:¬y≤y':=by omega
    have j0:(0:Int) < (j:Int)+1:=by omega
    have j1:(j:Int) < n:=by omega
    clear hy'
    go_wp2
    go_roundw
    case rel=>exact ⟨j+1+1,by omega,by go_num,hb2,hB1⟩
    case measure=>simp [intOf];omega
  ·obtain rfl:n=k:=by omega
   go_wp2
   go_ret
   exact ⟨rfl,hb⟩
namespace Pl
theorem opP_pre {p:List (List Tk)} {k:Nat} {d:List Tk} (h:p[k]? =some d) (j:Nat):(opP (p.take k)++opD (d.take j)).length≤(opP p).length:=by
 have e1:p=p.take k++(d::p.drop (k+1)):=by
  obtain ⟨hk,rfl⟩:=List.getElem?_eq_some_iff.1 h
  rw [← List.drop_eq_getElem_cons hk,List.take_append_drop]
 have e2:d=d.take j++d.drop j:=(List.take_append_drop j d).symm
 have h1:opP p=opP (p.take k)++(opD d++opP (p.drop (k+1))):=by
  conv=>lhs;rw [e1,opP_append]
  rfl
 have h2:opD d=opD (d.take j)++opD (d.drop j):=by
  conv=>lhs;rw [e2,opD_append]
 rw [h1,h2]
 simp only [List.length_append]
 omega
end Pl
theorem operated27_own (s:ByteArray) (A:Option Addr) (n c:Nat) (p:List (List Tk)) (w:World) (h:DutsM w (.slice A n c) p) (hl:(opP p).length≤1000):
 Calls Tryz.prog 22 #[.agg #[.string s,.slice A n c]] w fun e w'=>∃v',e= .returned v'∧IntsO w.heap.size w' v' (opP p)∧Below w.heap.size w w':=by
 obtain ⟨W,hW,hX,hbe⟩:=box_pair w (.string s) (.slice A n c)
 obtain ⟨hn,hc1,hc2⟩:=RdM.len h
 have HN:=Lib.hid hn
 have HI:=Lib.hid h
 clear h hn
 obtain ⟨x0,x1,_,_⟩:=hX.two
 go_enter Tryz.func22,Tryz.ntmps22
 go_wp2
 clear x0 x1
 go_loopw [3,4,5] (fun s3 s4 _ wr=>∃k:Nat,k≤n∧s4= .int .i64 k∧Below w.heap.size w wr∧Bk wr w.heap.size 51 [.string s,.slice A n c]∧Hid (IntsO w.heap.size wr s3 (opP (p.take k)))) (fun _ x _ _=>n - (intOf x).toNat)
 case atStart=>exact ⟨0,by omega,rfl,hbe,hX,Lib.hid (by simpa [opP] using IntsO.nil _ _)⟩
 case round=>
  clear hW hbe hX
  obtain ⟨k,hk,rfl,hb,hB,HO⟩:=hrel
  obtain ⟨x0,x1,_,_⟩:=hB.two
  rcases Nat.lt_or_ge k n with hkl | hkl
  ·have hkz:(k:Int) < n:=by omega
   obtain ⟨d,hd⟩:∃d,p[k]? =some d:=⟨p[k]'(by rw [← HN.out];exact hkl),List.getElem?_eq_getElem _⟩
   have HD:=Lib.hid hd
   obtain ⟨b,off,A1,c1,hA,hlt,hcell,hD,hd1,hd2⟩:=HI.out.elem (Below.refl _ _) hd
   subst hA
   have HDM:=Lib.hid hD
   have HC:=Lib.hid hcell
   obtain ⟨m,hm⟩:∃m,m=d.length:=⟨_,rfl⟩
   have HM:=Lib.hid hm
   rw [← hm] at hd1 HC HDM
   clear hd hD hcell hm
   go_wp2
   clear x0 x1
   go_loopw [3,5] (fun s3 s5 wx=>∃j:Nat,j≤m∧s5= .int .i64 j∧Below w.heap.size w wx∧Bk wx w.heap.size 51 [.string s,.slice (some ⟨b,off,none⟩) n c]∧Hid (IntsO w.heap.size wx s3 (opP (p.take k)++opD (d.take j)))) (fun _ x _=>m - (intOf x).toNat)
   case atStart=>exact ⟨0,by omega,rfl,hb,hB,Lib.hid (by simpa [opD] using HO.out)⟩
   case round=>
    clear hb hB HO
    obtain ⟨j,hj,rfl,hb,hB,HO⟩:=hrel
    obtain ⟨x0,x1,_,_⟩:=hB.two
    have hcell:=cell_keep hb HC.out
    rcases Nat.lt_or_ge j m with hjl | hjl
    ·obtain ⟨t,ht⟩:∃t,d[j]? =some t:=⟨d[j]'(by rw [← HM.out];exact hjl),List.getElem?_eq_getElem _⟩
     have HT:=Lib.hid ht
     obtain ⟨b1,off1,hA1,hlt1,hf,hh,t0,t1⟩:=HDM.out.elem hb ht
     subst hA1
     clear ht
     cases hhd:t.hd with
     | true=>
      rw [hhd] at hh
      have HO':Hid (IntsO w.heap.size wr (_) (opP (p.take k)++opD (d.take (j+1)))):=Lib.hid (by rw [opD_take HT.out,if_pos hhd,List.append_nil];exact HO.out)
      go_wp2
      go_roundw
      case rel=>exact ⟨j+1,by omega,by go_num,hb,hB,HO'⟩
      case measure=>simp [intOf];omega
     | false=>
      rw [hhd] at hh
      have hlen:(opP (p.take k)++opD (d.take j)).length+1≤1099511627776:=by have:=opP_pre HD.out j;omega
      have hbs:=hb.size
      have HE:Hid (opP (p.take k)++opD (d.take (j+1))=opP (p.take k)++opD (d.take j)++[t.fl]):=Lib.hid (by rw [opD_take HT.out,if_neg (by simp [hhd])];simp)
      generalize opP (p.take k)++opD (d.take j)=ys at *
      generalize t.fl=z at *
      go_wp2_with (at_builtin;refine wpList_append_int rfl (.tmp 33) (.tmp 43) rfl wr w.heap.size u3 ys rfl HO.out z rfl t0 t1 hlen hbs ?_)
      intro v' w4 hown4 hk4 hb4 _ _
      have hB4:=hk4.bk hB (by decide)
      go_wp2
      go_roundw
      case rel=>exact ⟨j+1,by omega,by go_num,hb.trans hb4,hB4,Lib.hid (by rw [HE.out];exact hown4)⟩
      case measure=>simp [intOf];omega
    ·obtain rfl:m=j:=by omega
     have HO':Hid (IntsO w.heap.size wr (_) (opP (p.take (k+1)))):=Lib.hid (by rw [opP_take HD.out];have:=HO.out;rw [take_all HM.out] at this;exact this)
     go_wp2
     go_roundw
     case rel=>exact ⟨k+1,by omega,by go_num,hb,hB,HO'⟩
     case measure=>simp [intOf];omega
  ·obtain rfl:n=k:=by omega
   go_wp2
   go_ret
   exact ⟨_,rfl,by have:=HO.out;rw [take_all HN.out] at this;exact this,hb⟩
theorem box_task (w:World) (x y:Value):∃W W',w.alloc (.cells #[x,y] 66)=W∧W.setCell ⟨w.heap.size,1,none⟩ y=W'∧Bk W w.heap.size 66 [x,y]∧Below w.heap.size w W∧Bk W' w.heap.size 66 [x,y]∧Below w.heap.size w W':=
 ⟨_,_,rfl,rfl,Bk.new w _ [x,y],below_new w _,by simpa using (Bk.new w 66 [x,y]).set_ 1 y,(below_new w _).setCell (p:=⟨w.heap.size,1,none⟩) (Nat.le_refl _) y⟩
theorem operated_own (s:ByteArray) (A:Option Addr) (n c:Nat) (p:List (List Tk)) (w:World) (h:DutsM w (.slice A n c) p) (hl:(opP p).length≤1000):
 Calls Tryz.prog 55 #[.agg #[.string s,.slice A n c]] w fun e w'=>∃v',e= .returned v'∧IntsO w.heap.size w' v' (opP p)∧Below w.heap.size w w':=by
 obtain ⟨W,hW,hX,hbe⟩:=box_pair w (.string s) (.slice A n c)
 obtain ⟨hn,hc1,hc2⟩:=RdM.len h
 have HN:=Lib.hid hn
 have HI:=Lib.hid h
 clear h hn
 obtain ⟨x0,x1,_,_⟩:=hX.two
 go_enter Tryz.func55,Tryz.ntmps55
 go_wp2
 clear x0 x1
 go_loopw [3,11] (fun s3 s4 wr=>∃k:Nat,k≤n∧s4= .int .i64 k∧Below w.heap.size w wr∧Bk wr w.heap.size 51 [.string s,.slice A n c]∧Hid (IntsO w.heap.size wr s3 (opP (p.take k)))) (fun _ x _=>n - (intOf x).toNat)
 case atStart=>exact ⟨0,by omega,rfl,hbe,hX,Lib.hid (by simpa [opP] using IntsO.nil _ _)⟩
 case round=>
  clear hW hbe hX
  obtain ⟨k,hk,rfl,hb,hB,HO⟩:=hrel
  obtain ⟨x0,x1,_,_⟩:=hB.two
  rcases Nat.lt_or_ge k n with hkl | hkl
  ·have hkz:(k:Int) < n:=by omega
   obtain ⟨d,hd⟩:∃d,p[k]? =some d:=⟨p[k]'(by rw [← HN.out];exact hkl),List.getElem?_eq_getElem _⟩
   have HD:=Lib.hid hd
   obtain ⟨b,off,A1,c1,hA,hlt,hcell,hD,hd1,hd2⟩:=HI.out.elem (Below.refl _ _) hd
   subst hA
   have HDM:=Lib.hid hD
   have hcell:=cell_keep hb hcell
   obtain ⟨m,hm⟩:∃m,m=d.length:=⟨_,rfl⟩
   have HM:=Lib.hid hm
   rw [← hm] at hd1 hcell HDM
   have hbo:=hb
   clear hd hD hm
   go_wp2
   clear x0 x1 hcell
   generalize wr=wo at *
   go_loopw [3,17] (fun s3 s5 wx=>∃j:Nat,j≤m∧s5= .int .i64 j∧Below w.heap.size w wx∧Bk wx w.heap.size 51 [.string s,.slice (some ⟨b,off,none⟩) n c]∧Hid (IntsO w.heap.size wx s3 (opP (p.take k)++opD (d.take j)))) (fun _ x _=>m - (intOf x).toNat)
   case atStart=>exact ⟨0,by omega,rfl,hb,hB,Lib.hid (by simpa [opD] using HO.out)⟩
   case round=>
    clear hb hB HO
    obtain ⟨j,hj,rfl,hb,hB,HO⟩:=hrel
    obtain ⟨x0,x1,_,_⟩:=hB.two
    rcases Nat.lt_or_ge j m with hjl | hjl
    ·obtain ⟨t,ht⟩:∃t,d[j]? =some t:=⟨d[j]'(by rw [← HM.out];exact hjl),List.getElem?_eq_getElem _⟩
     have HT:=Lib.hid ht
     obtain ⟨b1,off1,hA1,hlt1,hf,hh,t0,t1⟩:=HDM.out.elem hb ht
     subst hA1
     clear ht
     obtain ⟨W2,W3,hW2,hW3,hK2,hbk2,hK,hbk⟩:=box_task wr (.int .i64 t.fl) (.bool t.hd)
     obtain ⟨k0,k1,f0,f1⟩:=hK2.two
     obtain ⟨k2,k3,_,_⟩:=hK.two
     cases hhd:t.hd with
     | true=>
      rw [hhd] at hh hW2 hW3 k1 k3
      clear hW3 k2 k3
      have hb2:=below_then hb hbk2 hb.size
      have hB2:=hB.later hbk2
      have HO':Hid (IntsO w.heap.size W2 (_) (opP (p.take k)++opD (d.take (j+1)))):=Lib.hid (by rw [opD_take HT.out,if_pos hhd,List.append_nil];exact HO.out.below hbk2)
      go_wp2
      go_roundw
      case rel=>exact ⟨j+1,by omega,by go_num,hb2,hB2,HO'⟩
      case measure=>simp [intOf];omega
     | false=>
      rw [hhd] at hh hW2 hW3 k1 k3
      have hb2:=below_then hb hbk hb.size
      have hB2:=hB.later hbk
      have HO2:=Lib.hid (HO.out.below hbk)
      have hlen:(opP (p.take k)++opD (d.take j)).length+1≤1099511627776:=by have:=opP_pre HD.out j;omega
      have hbs:=hb2.size
      have HE:Hid (opP (p.take k)++opD (d.take (j+1))=opP (p.take k)++opD (d.take j)++[t.fl]):=Lib.hid (by rw [opD_take HT.out,if_neg (by simp [hhd])];simp)
      generalize opP (p.take k)++opD (d.take j)=ys at *
      generalize t.fl=z at *
      go_wp2_with (at_builtin;refine wpList_append_int rfl (.tmp 24) (.tmp 27) rfl W3 w.heap.size u3 ys rfl HO2.out z rfl t0 t1 hlen hbs ?_)
      intro v' w4 hown4 hk4 hb4 _ _
      have hB4:=hk4.bk hB2 (by decide)
      go_wp2
      go_roundw
      case rel=>exact ⟨j+1,by omega,by go_num,hb2.trans hb4,hB4,Lib.hid (by rw [HE.out];exact hown4)⟩
      case measure=>simp [intOf];omega
    ·obtain rfl:m=j:=by omega
     have HO':Hid (IntsO w.heap.size wr (_) (opP (p.take (k+1)))):=Lib.hid (by rw [opP_take HD.out];have:=HO.out;rw [take_all HM.out] at this;exact this)
     go_wp2
     go_roundw
     case rel=>exact ⟨k+1,by omega,by go_num,hb,hB,HO'⟩
     case measure=>simp [intOf];omega
  ·obtain rfl:n=k:=by omega
   go_wp2
   go_ret
   exact ⟨_,rfl,by have:=HO.out;rw [take_all HN.out] at this;exact this,hb⟩
section
open Go.Maps (int_keyed keyOf_int_mk)
theorem plainElem_boolInv {e:TypeId} (he:Tryz.prog.underlying e=some .bool) {v:Value} {b:Bool} {ps:List MemPlace} (h:plainElem (H:=Unit) Tryz.prog e v=some (.lit (.bool b),ps)):v= .bool b:=by
 unfold plainElem at h
 rw [he] at h
 cases v <;> simp at h
 rw [h.1]
def SeenAt (w:World) (b n:Nat) (zs:List Int):Prop:=
 ∃D:DataW Unit,w.ownsMap Tryz.prog 3 (plainElem Tryz.prog 4) b n D∧Go.Maps.IsMap D∧∀z:Int,D.atKey (.int .i64 z) (.lit (.bool false))= .lit (.bool (decide (z∈zs)))
theorem SeenAt.made (w:World):SeenAt (w.alloc (.map #[] 0)) w.heap.size 0 []:=
 ⟨.map [],World.ownsMap_made w _ _ _,Go.Maps.isMap_empty,fun z=>by simp [DataW.atKey]⟩
theorem key_ok (z:Int) (h0: -9223372036854775808≤z) (h1:z≤9223372036854775807):keyOf Tryz.prog 3 (.int .i64 z)=some (.int .i64 z):=keyOf_int_mk Tryz.underlying3 (by
 have e1:IntKind.i64.min= -9223372036854775808:=by decide
 have e2:IntKind.i64.max=9223372036854775807:=by decide
 simp [Lit.wf,e1,e2];omega)
theorem SeenAt.look {w:World} {b n:Nat} {zs:List Int} (h:SeenAt w b n zs) (z:Int) (h0: -9223372036854775808≤z) (h1:z≤9223372036854775807):
 (Instr.lookup 102 (.map (some b)) (.int .i64 z) false).run Tryz.prog w= .ok (.bool (decide (z∈zs))) w:=by
 obtain ⟨D,ho,hm,hd⟩:=h
 obtain ⟨v,ps,hr,hv⟩:=ho.lookup (int_keyed Tryz.underlying3) Tryz.underlying102 (z:= .bool false) (by kernel_rfl) (plainElem_bool Tryz.underlying4 false) (key_ok z h0 h1)
 rw [hd z] at hv
 rw [hr,plainElem_boolInv Tryz.underlying4 hv]
theorem SeenAt.put {w:World} {b n:Nat} {zs:List Int} (h:SeenAt w b n zs) (hn:n < 1000) (z:Int) (h0: -9223372036854775808≤z) (h1:z≤9223372036854775807):
 ∃w',(Instr.mapUpdate 102 (.map (some b)) (.int .i64 z) (.bool true)).run Tryz.prog w= .ok () w'∧SeenAt w' b (n+1) (z::zs)∧w.grownBy w' (some b):=by
 obtain ⟨D,ho,hm,hd⟩:=h
 obtain ⟨w',hr,ho',hg⟩:=ho.update (int_keyed Tryz.underlying3) Tryz.underlying102 (by unfold maxLen;omega) (key_ok z h0 h1) (plainElem_bool Tryz.underlying4 true)
 refine ⟨w',hr,⟨_,ho',hm.put _ _,fun y=>?_⟩,hg⟩
 by_cases e:y=z
 ·subst e
  rw [Go.Maps.atKey_put_same hm (by trivial)]
  simp
 ·rw [Go.Maps.atKey_put_other (by intro g;injection g with _ g;exact e g),hd y]
  simp [e]
theorem SeenAt.below {w w':World} {b n B:Nat} {zs:List Int} (h:SeenAt w b n zs) (hb:Below B w w') (hlt:b < B):SeenAt w' b n zs:=by
 obtain ⟨D,ho,hm,hd⟩:=h
 obtain ⟨es,clock,h1,h2⟩:=ho
 exact ⟨D,⟨es,clock,(hb.block b hlt).trans h1,h2⟩,hm,hd⟩
theorem lt_heap_of {w:World} {b n:Nat} {zs:List Int} (h:SeenAt w b n zs):b < w.heap.size:=by
 obtain ⟨D,⟨es,clock,h1,_⟩,_⟩:=h
 exact lt_heap h1
theorem box_col (w:World) (x y z:Value):∃W,w.alloc (.cells #[x,y,z] 53)=W∧Bk W w.heap.size 53 [x,y,z]∧Below w.heap.size w W:=⟨_,rfl,Bk.new w _ [x,y,z],below_new w _⟩
theorem validateMaster_ok (v:Value) (m:Ms) (w:World) (h:MsM w v m) (ok:MsOK m):
 Calls Tryz.prog 28 #[v] w fun e w'=>e= .returned (.int .i64 0)∧Below w.heap.size w w':=by
 obtain ⟨A,n,c,A',n',c',A'',n'',c'',rfl,hR,hC,hT⟩:=h
 obtain ⟨r1,r2,r3⟩:=hR.ints.lenC
 obtain ⟨s1,s2,s3⟩:=RdM.len hC
 obtain ⟨t1,t2,t3⟩:=RdM.len hT
 have HR:=Lib.hid hR.ints
 have HC:=Lib.hid hC
 have HT:=Lib.hid hT
 have HRN:=Lib.hid r1
 have HCN:=Lib.hid s1
 have HTN:=Lib.hid t1
 have HOK:=Lib.hid ok
 have HRB:=Lib.hid ok.rb
 have HAS:=Lib.hid ok.asc
 obtain ⟨W,hW,hX,hbe⟩:=box_ms w (.int .i64 m.fl) (.slice A n c) (.int .i64 m.pen) (.slice A' n' c') (.slice A'' n'' c'')
 obtain ⟨x0,x1,x2,x3,x4⟩:=hX.five
 have f0:=ok.fl0
 have f1:=ok.fl1
 have p0:=ok.pen0
 have p1:=ok.pen1
 have n0:1≤n:=by have:=ok.row0;omega
 have n1:n≤6:=by have:=ok.row1;omega
 have n2:n'≤6:=by have:=ok.ncol;omega
 have n3:n''≤2:=by have:=ok.ncut;omega
 clear hR hC hT r1 s1 t1 ok
 generalize m.fl=F at *
 generalize m.pen=P at *
 go_enter Tryz.func28,Tryz.ntmps28
 go_wp2
 clear x0 x1 x2 x3 x4
 go_loopw [58] (fun x wr=>∃k:Nat,k≤n∧x= .int .i64 k∧Below w.heap.size w wr∧Bk wr w.heap.size 26 [.int .i64 F,.slice A n c,.int .i64 P,.slice A' n' c',.slice A'' n'' c'']) (fun x _=>n - (intOf x).toNat)
 case atStart=>exact ⟨0,by omega,rfl,hbe,hX⟩
 case round=>
  clear hbe hX hW
  obtain ⟨k,hk,rfl,hb,hB⟩:=hrel
  obtain ⟨x0,x1,x2,x3,x4⟩:=hB.five
  rcases Nat.lt_or_ge k n with hkl | hkl
  ·obtain ⟨b,off,y,hA,hcell,hy,y0,y1⟩:=HR.out.elem hb hkl
   subst hA
   obtain ⟨q0,q1⟩:=HRB.out y (List.mem_of_getElem? hy)
   have HY:=Lib.hid hy
   clear hy
   rcases Nat.eq_zero_or_pos k with hk0 | hk0
   ·subst hk0
    have hcell0:wr.cell? ⟨b,off,none⟩=some (.int .i64 y):=hcell
    go_wp2
    go_roundw
    case rel=>exact ⟨1,by omega,by go_num,hb,hB⟩
    case measure=>simp [intOf];omega
   ·obtain ⟨j,rfl⟩:∃j,k=j+1:=⟨k - 1,by omega⟩
    obtain ⟨b',off',y',hA',hcell',hy',_,_⟩:=HR.out.elem hb (show j < n by omega)
    injection hA' with hA'
    injection hA' with e1 e2 _
    subst e1 e2
    have hlt:y' < y:=asc_get HAS.out (Nat.lt_succ_self j) hy' HY.out
    have hle:¬y≤y':=by omega
    have j0:(0:Int) < (j:Int)+1:=by omega
    have j1:(j:Int) < n:=by omega
    clear hy'
    go_wp2
    go_roundw
    case rel=>exact ⟨j+1+1,by omega,by go_num,hb,hB⟩
    case measure=>simp [intOf];omega
  ·obtain rfl:n=k:=by omega
   go_wp2
   clear x0 x1 x2 x3 x4
   generalize wr=wo at *
   go_loopw [89] (fun x wr=>∃k:Nat,k≤n'∧x= .int .i64 k∧Below w.heap.size w wr∧Bk wr w.heap.size 26 [.int .i64 F,.slice A n c,.int .i64 P,.slice A' n' c',.slice A'' n'' c'']) (fun x _=>n' - (intOf x).toNat)
   case atStart=>exact ⟨0,by omega,rfl,hb,hB⟩
   case round=>
    clear hb hB
    obtain ⟨k,hk,rfl,hb,hB⟩:=hrel
    obtain ⟨x0,x1,x2,x3,x4⟩:=hB.five
    rcases Nat.lt_or_ge k n' with hkl | hkl
    ·obtain ⟨cl,hcl⟩:∃cl,m.cols[k]? =some cl:=⟨m.cols[k]'(by rw [← HCN.out];exact hkl),List.getElem?_eq_getElem _⟩
     obtain ⟨b,off,sb,A1,n1',c1,hA,hlt,e0,e1,e2,hD⟩:=HC.out.elem hb hcl
     subst hA
     have hmem:=List.mem_of_getElem? hcl
     obtain ⟨g0,g1⟩:=HOK.out.cost cl hmem
     have HOL:=Lib.hid (HOK.out.opl hmem)
     have HNE:=Lib.hid (HOK.out.ne cl hmem)
     have HND:=Lib.hid (HOK.out.nd cl hmem)
     have HSU:=Lib.hid (HOK.out.sub cl hmem)
     have HD:=Lib.hid hD
     generalize hco:cl.cost=co at *
     clear hco hD hcl hmem
     go_wp2_with fail
     clear e0 e1 e2 x0 x1 x2 x3 x4
     have hbk:=below_new wr (.cells #[.string sb,.slice A1 n1' c1,.int .i64 co] 53)
     have hb2:=below_then hb hbk hb.size
     have hB2:=hB.later hbk
     have HD2:=Lib.hid (HD.out.below hbk)
     clear hb hbk hB HD
     generalize wr.alloc (.cells #[.string sb,.slice A1 n1' c1,.int .i64 co] 53)=W2 at *
     generalize wr.heap.size=gk at *
     refine (operated_own sb A1 n1' c1 cl.dut _ HD2.out (by have:=HOL.out;unfold Cl.ops at this;omega)).mono ?_
     rintro _ w3 ⟨v3,rfl,e3,hb3⟩
     have hb4:=below_then hb2 hb3 hb2.size
     have hB4:=hB2.later hb3
     have HE:=Lib.hid e3.ints
     obtain ⟨A3,n3',c3,rfl⟩:=e3.sliceN
     obtain ⟨l1,l2,l3⟩:=HE.out.lenC
     have HL3:=Lib.hid l1
     have hn3:1≤n3':=by
      have:=HNE.out
      have h0:=List.length_pos_iff.2 this
      unfold Cl.ops at h0
      omega
     have hn3':n3'≤6:=by have:=HOL.out;unfold Cl.ops at this;omega
     clear hb2 hb3 hB2 e3 l1
     obtain ⟨x0,x1,x2,x3,x4⟩:=hB4.five
     have hmm:=@run_makeMap Tryz.prog
     have hsn:=SeenAt.made w3
     have hbm:=below_new w3 (.map #[] 0)
     have x0':=cell_keep hbm x0
     have x1':=cell_keep hbm x1
     go_wp2
     clear x0' x1' hmm
     have hb5:=below_then hb4 hbm hb4.size
     have hB5:=hB4.later hbm
     have hgw:w.heap.size < w3.heap.size:=hB4.lt
     have hbg0:=hbm
     clear hbm hb4 x0 x1 x2 x3 x4
     generalize w3.alloc (.map #[] 0)=W4 at *
     go_loopw [110] (fun x wr=>∃k:Nat,k≤n3'∧x= .int .i64 k∧Below w.heap.size w wr∧Below w3.heap.size w3 wr∧SeenAt wr w3.heap.size k (cl.ops.take k).reverse) (fun x _=>n3' - (intOf x).toNat)
     case atStart=>exact ⟨0,by omega,rfl,hb5,hbg0,by simpa using hsn⟩
     case round=>
      clear hsn hb5 hbg0 hB5
      obtain ⟨q,hq,rfl,hb,hbg,hse⟩:=hrel
      have hB:=hB4.below hbg hgw
      obtain ⟨x0,x1,x2,x3,x4⟩:=hB.five
      rcases Nat.lt_or_ge q n3' with hql | hql
      ·obtain ⟨b3,o3,y,hA3,hcell,hy,y0,y1⟩:=HE.out.elem hbg hql
       subst hA3
       have HY:Hid (cl.ops[q]? =some y):=Lib.hid hy
       have HMY:Hid (decide (y∈m.rows)=true):=Lib.hid (by rw [decide_eq_true_iff];exact HSU.out y (List.mem_of_getElem? hy))
       clear hy
       go_wp2_with fail
       clear hcell x0 x1 x2 x3 x4
       refine (bsearch_any _ m.rows y _ (HR.out.below hb) HAS.out (by have:=HRN.out;omega)).mono ?_
       rw [HMY.out]
       rintro _ w5 ⟨rfl,hb5⟩
       generalize posR m.rows y=pos
       have hse5:=hse.below hb5 (lt_heap_of hse)
       have hb6:=below_then hb hb5 hb.size
       have hbg6:=below_then hbg hb5 hbg.size
       clear hb hb5 hbg hse hB
       have hlk:=hse5.look y y0 y1
       have hni:decide (y∈(cl.ops.take q).reverse)=false:=by
        rw [decide_eq_false_iff_not,List.mem_reverse]
        intro hin
        obtain ⟨t,ht1,ht2⟩:=List.getElem_of_mem hin
        rw [List.length_take] at ht1
        rw [List.getElem_take] at ht2
        obtain ⟨hq',hqe⟩:=List.getElem?_eq_some_iff.1 HY.out
        have hnd:=HND.out
        have:=(List.nodup_iff_pairwise_ne.1 hnd)
        have:=List.pairwise_iff_getElem.1 this t q (by omega) hq' (by omega)
        exact this (by rw [ht2];exact hqe.symm)
       rw [hni] at hlk
       obtain ⟨w7,hup,hse7,hg7⟩:=hse5.put (by omega) y y0 y1
       have hb7:=hb6.grown hg7 hb6.size (fun x hx=>by injection hx with hx;omega)
       have hbg7:=hbg6.grown hg7 (by have:=hbg6.size;omega) (fun x hx=>by injection hx with hx;omega)
       have HSE:Hid (SeenAt w7 w3.heap.size (q+1) (cl.ops.take (q+1)).reverse):=Lib.hid (by rw [List.take_add_one,HY.out];simpa using hse7)
       clear hse5 hse7 hg7 hni hb6 hbg6
       go_wp2
       go_roundw
       case rel=>exact ⟨q+1,by omega,by go_num,hb7,hbg7,HSE.out⟩
       case measure=>simp [intOf];omega
      ·obtain rfl:n3'=q:=by omega
       clear hse
       go_wp2
       go_roundw
       case rel=>exact ⟨k+1,by omega,by go_num,hb,hB⟩
       case measure=>simp [intOf];omega
    ·obtain rfl:n'=k:=by omega
     go_wp2
     clear x0 x1 x2 x3 x4
     generalize wr=wo at *
     go_loopw [135] (fun x wr=>∃k:Nat,k≤n''∧x= .int .i64 k∧Below w.heap.size w wr∧Bk wr w.heap.size 26 [.int .i64 F,.slice A n c,.int .i64 P,.slice A' n' c',.slice A'' n'' c'']) (fun x _=>n'' - (intOf x).toNat)
     case atStart=>exact ⟨0,by omega,rfl,hb,hB⟩
     case round=>
      clear hb hB
      obtain ⟨k,hk,rfl,hb,hB⟩:=hrel
      obtain ⟨x0,x1,x2,x3,x4⟩:=hB.five
      rcases Nat.lt_or_ge k n'' with hkl | hkl
      ·obtain ⟨ct,hct⟩:∃ct,m.cuts[k]? =some ct:=⟨m.cuts[k]'(by rw [← HTN.out];exact hkl),List.getElem?_eq_getElem _⟩
       obtain ⟨b,off,A1,n1',c1,hA,hlt,e0,e1,hD⟩:=HT.out.elem hb hct
       subst hA
       have HCO:Hid (CutOK m.rows ct):=Lib.hid (HOK.out.cut ct (List.mem_of_getElem? hct))
       have HD:=Lib.hid hD.ints
       clear hD hct
       obtain ⟨W2,hW2,hK2,hbk⟩:=box_cut wr (.slice A1 n1' c1) (.int .i64 ct.dv)
       have hb2:=below_then hb hbk hb.size
       have hB2:=hB.later hbk
       have HD2:=Lib.hid (HD.out.below hbk)
       obtain ⟨x0',x1',x2',x3',x4'⟩:=hB2.five
       obtain ⟨k0,k1,_,_⟩:=hK2.two
       go_wp2_with fail
       clear e0 e1 x0 x1 x2 x3 x4 x0' x1' x2' x3' x4' k0 k1 hb hbk hB HD hW2 hK2
       refine (validCut_any _ m.rows A1 n1' c1 ct _ (HR.out.below hb2) HD2.out HCO.out HAS.out (by have:=HRN.out;omega) (by
        have h1:=nodup_sub_len (HCO.out.1.imp fun {a b} hab=>by omega) HCO.out.2.1
        have:=HRN.out
        omega)).mono ?_
       rintro _ w3 ⟨rfl,hb3⟩
       have hb4:=below_then hb2 hb3 hb2.size
       have hB4:=hB2.later hb3
       clear hb2 hb3 hB2
       go_wp2
       go_roundw
       case rel=>exact ⟨k+1,by omega,by go_num,hb4,hB4⟩
       case measure=>simp [intOf];omega
      ·obtain rfl:n''=k:=by omega
       go_wp2
       go_ret
       exact ⟨rfl,hb⟩
end
theorem validateMaster27_ok (v:Value) (m:Ms) (w:World) (h:MsM w v m) (ok:MsOK m):
 Calls Tryz.prog 31 #[v] w fun e w'=>e= .returned (.int .i64 0)∧Below w.heap.size w w':=by
 obtain ⟨A,n,c,A',n',c',A'',n'',c'',rfl,hR,hC,hT⟩:=h
 obtain ⟨r1,r2,r3⟩:=hR.ints.lenC
 obtain ⟨s1,s2,s3⟩:=RdM.len hC
 obtain ⟨t1,t2,t3⟩:=RdM.len hT
 have HR:=Lib.hid hR.ints
 have HC:=Lib.hid hC
 have HT:=Lib.hid hT
 have HRN:=Lib.hid r1
 have HCN:=Lib.hid s1
 have HTN:=Lib.hid t1
 have HOK:=Lib.hid ok
 have HRB:=Lib.hid ok.rb
 have HAS:=Lib.hid ok.asc
 obtain ⟨W,hW,hX,hbe⟩:=box_ms w (.int .i64 m.fl) (.slice A n c) (.int .i64 m.pen) (.slice A' n' c') (.slice A'' n'' c'')
 obtain ⟨x0,x1,x2,x3,x4⟩:=hX.five
 have f0:=ok.fl0
 have f1:=ok.fl1
 have p0:=ok.pen0
 have p1:=ok.pen1
 have n0:1≤n:=by have:=ok.row0;omega
 have n1:n≤6:=by have:=ok.row1;omega
 have n2:n'≤6:=by have:=ok.ncol;omega
 have n3:n''≤2:=by have:=ok.ncut;omega
 have HAB:Hid (ascB m.rows=true):=Lib.hid (by unfold ascB;simpa using ok.asc)
 clear hR hC hT r1 s1 t1 ok
 generalize m.fl=F at *
 generalize m.pen=P at *
 obtain ⟨b,off,y0,hA,hc0,hy0,_,_⟩:=HR.out.elem hbe (k:=0) (by omega)
 subst hA
 obtain ⟨b',off',yn,hA,hcn,hyn,_,_⟩:=HR.out.elem hbe (k:=n - 1) (by omega)
 injection hA with hA
 injection hA with e1 e2 _
 subst e1 e2
 have hc0:W.cell? ⟨b,off,none⟩=some (.int .i64 y0):=hc0
 obtain ⟨g0,_⟩:=HRB.out y0 (List.mem_of_getElem? hy0)
 obtain ⟨_,g1⟩:=HRB.out yn (List.mem_of_getElem? hyn)
 have g2:(n:Int) - 1 < n:=by omega
 have g3:(0:Int)≤(n:Int) - 1:=by omega
 have g4:((n:Int) - 1).toNat=n - 1:=by omega
 have g5:0 < n:=by omega
 have g7:(1:Int)≤n:=by omega
 have hn0:((n:Int)==0)=false:=by simp;omega
 have d0:decide (y0 < 0)=false:=by simp;omega
 have d1:decide (F≤yn)=false:=by simp;omega
 clear hy0 hyn
 go_enter Tryz.func31,Tryz.ntmps31
 go_upto_region 5 with (fail)
 clear hW
 have C0:=stab x0
 have C1:=stab x1
 have D0:=stab hc0
 have D1:=stab hcn
 have hS0:=below_drew' W
 clear x0 x1 x2 x3 x4 hc0 hcn
 refine region_seq 24 [0,1,2,3,4,5,6,7,8,9,10,11,12,13,14,15,16,17,18,19,20,21,22,23] (by kernel_rfl) (by kernel_rfl) ?_
 repeat ((first | (refine seq_takeP (v:=?_) rfl rfl rfl ?_ ?_;rotate_left;(· (intro _ hSw;go_simp;(try go_bits);(try with_reducible rfl)))) | (refine seq_take (v:=?_) rfl rfl rfl ?_ ?_;rotate_left;(· (intro _ hSw;go_simp;(try go_bits);(try with_reducible rfl)))) | refine seq_skip rfl rfl rfl ?_ | refine seq_skipc rfl rfl rfl (by assumption) ?_);(try simp only [Act.put,pu1,pu2,pu3,pu4,pu5,pu6]))
 refine seq_step rfl rfl (fun KR hKR=>?_)
 go_simp
 with_reducible refine (ascending_any _ m.rows _ ((HR.out.below hbe).below hS0)).mono ?_
 rw [HAB.out]
 rintro _ w1 ⟨rfl,hb1⟩
 have hS1:=below_then hS0 hb1 hS0.size
 refine hKR.out _ _ (Or.inr hS1) ?_
 clear hKR KR
 (try simp only [Act.put,pu1,pu2,pu3,pu4,pu5,pu6])
 repeat ((first | (refine seq_takeP (v:=?_) rfl rfl rfl ?_ ?_;rotate_left;(· (intro _ hSw;go_simp;(try go_bits);(try with_reducible rfl)))) | (refine seq_take (v:=?_) rfl rfl rfl ?_ ?_;rotate_left;(· (intro _ hSw;go_simp;(try go_bits);(try with_reducible rfl)))) | refine seq_skip rfl rfl rfl ?_ | refine seq_skipc rfl rfl rfl (by assumption) ?_);(try simp only [Act.put,pu1,pu2,pu3,pu4,pu5,pu6]))
 refine seq_done ?_
 have hbe1:=below_then hbe hS1 hbe.size
 have hX1:=hX.later hS1
 clear C0 C1 D0 D1 hS0 hS1 hb1 hbe hX
 go_wp2
 go_loopw [3] (fun x wr=>∃k:Nat,k≤n'∧x= .int .i64 k∧Below w.heap.size w wr∧Bk wr w.heap.size 26 [.int .i64 F,.slice (some ⟨b,off,none⟩) n c,.int .i64 P,.slice A' n' c',.slice A'' n'' c'']) (fun x _=>n' - (intOf x).toNat)
 case atStart=>exact ⟨0,by omega,rfl,hbe1,hX1⟩
 case round=>
  clear hbe1 hX1
  obtain ⟨k,hk,rfl,hb,hB⟩:=hrel
  obtain ⟨x0,x1,x2,x3,x4⟩:=hB.five
  rcases Nat.lt_or_ge k n' with hkl | hkl
  ·obtain ⟨cl,hcl⟩:∃cl,m.cols[k]? =some cl:=⟨m.cols[k]'(by rw [← HCN.out];exact hkl),List.getElem?_eq_getElem _⟩
   obtain ⟨b1,off1,sb,A1,n1',c1,hA,hlt,e0,e1,e2,hD⟩:=HC.out.elem hb hcl
   subst hA
   have hmem:=List.mem_of_getElem? hcl
   obtain ⟨g0,g1⟩:=HOK.out.cost cl hmem
   have HOL:=Lib.hid (HOK.out.opl hmem)
   have HNE:=Lib.hid (HOK.out.ne cl hmem)
   have HND:=Lib.hid (HOK.out.nd cl hmem)
   have HSU:Hid (decide (∀f∈cl.ops,f∈m.rows)=true):=Lib.hid (by simpa using HOK.out.sub cl hmem)
   have HD:=Lib.hid hD
   have hkz:(k:Int) < n':=by omega
   generalize hco:cl.cost=co at *
   clear hco hD hcl hmem
   go_wp2_with fail
   clear e0 e1 e2 x0 x1 x2 x3 x4
   refine (operated27_own sb A1 n1' c1 cl.dut _ HD.out (by have:=HOL.out;unfold Cl.ops at this;omega)).mono ?_
   rintro _ w3 ⟨v3,rfl,e3,hb3⟩
   have hb4:=below_then hb hb3 hb.size
   have hB4:=hB.later hb3
   have HE:=Lib.hid e3.ints
   obtain ⟨A3,n3',c3,rfl⟩:=e3.sliceN
   obtain ⟨l1,l2,l3⟩:=HE.out.lenC
   have HL3:=Lib.hid l1
   have hn3:1≤n3':=by
    have:=HNE.out
    have h0:=List.length_pos_iff.2 this
    unfold Cl.ops at h0
    omega
   have hn3':n3'≤6:=by have:=HOL.out;unfold Cl.ops at this;omega
   have hn30:((n3':Int)==0)=false:=by simp;omega
   clear hb hb3 hB e3 l1
   obtain ⟨x0,x1,x2,x3,x4⟩:=hB4.five
   go_wp2_with fail
   refine (within_any _ _ cl.ops m.rows _ HE.out (HR.out.below hb4)).mono ?_
   rw [HSU.out]
   rintro _ w5 ⟨rfl,hb5⟩
   have hb6:=below_then hb4 hb5 hb4.size
   have hB6:=hB4.later hb5
   have HE6:Hid (IntsM w5 (.slice A3 n3' c3) cl.ops):=Lib.hid (HE.out.below hb5)
   clear hb4 hb5 hB4 HE x0 x1 x2 x3 x4
   go_wp2
   generalize w5=wo at *
   have hbo:=hb6
   go_loopw [5] (fun x wr=>∃q:Nat,q≤n3'∧x= .int .i64 q∧Below wo.heap.size wo wr∧Below w.heap.size w wr∧Bk wr w.heap.size 26 [.int .i64 F,.slice (some ⟨b,off,none⟩) n c,.int .i64 P,.slice (some ⟨b1,off1,none⟩) n' c',.slice A'' n'' c'']) (fun x _=>n3' - (intOf x).toNat)
   case atStart=>exact ⟨0,by omega,rfl,Below.refl _ _,hb6,hB6⟩
   case round=>
    clear hb6 hB6
    obtain ⟨q,hq,rfl,hbi,hb,hB⟩:=hrel
    rcases Nat.lt_or_ge q n3' with hql | hql
    ·obtain ⟨b3,o3,y,hA3,hcell,hy,y0,y1⟩:=HE6.out.elem hbi hql
     subst hA3
     have HCT:Hid (cl.ops.count y≤1):=Lib.hid (List.nodup_iff_count.1 HND.out y)
     clear hy
     go_wp2_with fail
     clear hcell
     refine (count_any _ cl.ops y _ (HE6.out.below hbi)).mono ?_
     rintro _ w7 ⟨rfl,hb7⟩
     have hle:=HCT.out
     generalize cl.ops.count y=cn at *
     have hbi2:=below_then hbi hb7 hbi.size
     have hb8:=below_then hb hb7 hb.size
     have hB8:=hB.later hb7
     clear hbi hb7 hb hB
     go_wp2
     go_roundw
     case rel=>exact ⟨q+1,by omega,by go_num,hbi2,hb8,hB8⟩
     case measure=>simp [intOf];omega
    ·obtain rfl:n3'=q:=by omega
     go_wp2
     go_roundw
     case rel=>exact ⟨k+1,by omega,by go_num,hb,hB⟩
     case measure=>simp [intOf];omega
  ·obtain rfl:n'=k:=by omega
   go_wp2
   clear x0 x1 x2 x3 x4
   generalize wr=wo at *
   go_loopw [6] (fun x wr=>∃k:Nat,k≤n''∧x= .int .i64 k∧Below w.heap.size w wr∧Bk wr w.heap.size 26 [.int .i64 F,.slice (some ⟨b,off,none⟩) n c,.int .i64 P,.slice A' n' c',.slice A'' n'' c'']) (fun x _=>n'' - (intOf x).toNat)
   case atStart=>exact ⟨0,by omega,rfl,hb,hB⟩
   case round=>
    clear hb hB
    obtain ⟨k,hk,rfl,hb,hB⟩:=hrel
    obtain ⟨x0,x1,x2,x3,x4⟩:=hB.five
    rcases Nat.lt_or_ge k n'' with hkl | hkl
    ·obtain ⟨ct,hct⟩:∃ct,m.cuts[k]? =some ct:=⟨m.cuts[k]'(by rw [← HTN.out];exact hkl),List.getElem?_eq_getElem _⟩
     obtain ⟨b1,off1,A1,n1',c1,hA,hlt,e0,e1,hD⟩:=HT.out.elem hb hct
     subst hA
     have HCO:Hid (CutOK m.rows ct):=Lib.hid (HOK.out.cut ct (List.mem_of_getElem? hct))
     have HD:=Lib.hid hD.ints
     have hkz:(k:Int) < n'':=by omega
     generalize hdv:ct.dv=dv at *
     have HDV:=Lib.hid hdv
     clear hD hct hdv
     go_upto_region 23 with (fail)
     have C0:=stab x1
     have C1:=stab x4
     have D0:=stab e0
     have D1:=stab e1
     have hS0:=below_drew' wr
     clear e0 e1 x0 x1 x2 x3 x4
     refine region_seq 9 [0,1,2,3,4,5,6,7,8] (by kernel_rfl) (by kernel_rfl) ?_
     repeat ((first | (refine seq_takeP (v:=?_) rfl rfl rfl ?_ ?_;rotate_left;(· (intro _ hSw;go_simp;(try go_bits);(try with_reducible rfl)))) | (refine seq_take (v:=?_) rfl rfl rfl ?_ ?_;rotate_left;(· (intro _ hSw;go_simp;(try go_bits);(try with_reducible rfl)))) | refine seq_skip rfl rfl rfl ?_);(try simp only [Act.put,pu1,pu2,pu3,pu4,pu5,pu6]))
     refine seq_step rfl rfl (fun KR hKR=>?_)
     go_simp
     with_reducible rw [← HDV.out]
     with_reducible refine (validCut27_any _ m.rows A1 n1' c1 ct _ ((HR.out.below hb).below hS0) (HD.out.below hS0) HCO.out).mono ?_
     rintro _ w3 ⟨rfl,hb3⟩
     have hS3:=below_then hS0 hb3 hS0.size
     refine hKR.out _ _ (Or.inr hS3) ?_
     clear hKR KR
     (try simp only [Act.put,pu1,pu2,pu3,pu4,pu5,pu6])
     repeat ((first | (refine seq_takeP (v:=?_) rfl rfl rfl ?_ ?_;rotate_left;(· (intro _ hSw;go_simp;(try go_bits);(try with_reducible rfl)))) | (refine seq_take (v:=?_) rfl rfl rfl ?_ ?_;rotate_left;(· (intro _ hSw;go_simp;(try go_bits);(try with_reducible rfl)))) | refine seq_skip rfl rfl rfl ?_);(try simp only [Act.put,pu1,pu2,pu3,pu4,pu5,pu6]))
     refine seq_done ?_
     have hb4:=below_then hb hS3 hb.size
     have hB4:=hB.later hS3
     clear hb hb3 hB hS0 hS3 C0 C1 D0 D1
     go_wp2
     go_roundw
     case rel=>exact ⟨k+1,by omega,by go_num,hb4,hB4⟩
     case measure=>simp [intOf];omega
    ·obtain rfl:n''=k:=by omega
     go_wp2
     go_ret
     exact ⟨rfl,hb⟩
end Go.Proofs.YtgdcbjligbnpgaaGreat
