/- Lemmas of the claim; no condition. -/
import Derived.Test.YtgdcbjligbnpgaaK9
set_option linter.all false
set_option maxRecDepth 100000
set_option maxHeartbeats 40000000
namespace Go.Proofs.Ytgdcbjligbnpgaa
open Go.RowKit
open Pl
attribute [local go_sem ↓] Go.wp_at_zero Go.wp_at_succ
theorem run_append_int (ty:TypeId) (W:World) (base:Nat) (v:Value) (zs:List Int) (z:Int) (hown:IntsO base W v zs) (h0: -9223372036854775808≤z) (h1:z≤9223372036854775807) (hn:zs.length+1≤1099511627776) (hbase:base≤W.heap.size):
 ∃v' w',(Builtin.append_ #[22,22] ty #[v,.slice (some ⟨W.heap.size,0,none⟩) 1 1]).run Try.prog (W.alloc (.cells #[.int .i64 z] 3))= .ok v' w'∧IntsO base w' v' (zs++[z])∧KeepBut 3 W w'∧Below base W w'∧Others v.ownBlock W w'∧(v'.ownBlock=v.ownBlock∨∀g,v'.ownBlock=some g→W.heap.size≤g):=by
 obtain ⟨i0,hi,hz0,hz1,hz2⟩:=info_parts info_intT
 obtain ⟨v',w',hr,g1,g2,g3,g4,g5⟩:=run_append_oneG ty 22 3 i0 _ 1 8 Try.underlying22 hi hz0 hz1 hz2 rfl (by decide) W base v zs.length (zs.map fun z=>Value.int .i64 z) [.int .i64 z] hown.1 rfl (fun u hu=>by simp at hu;subst hu;rfl) (by unfold maxLen;omega) (by omega) hbase
 refine ⟨v',w',hr,⟨by simpa using g1,fun y hy=>?_⟩,g2,g3,g4,g5⟩
 rcases List.mem_append.1 hy with hy | hy
 ·exact hown.2 y hy
 ·simp at hy;subst hy;exact ⟨h0,h1⟩
theorem wpList_append_int {ops:Array Oper} {rest:List Oper} {o:Oper} {a:Act} {Q:Exit→Act→World→Prop} (hgd:o.guard=none) (s x:Operand)
 (ho:o.op= .call { callee:= .builtin .append,args:=#[s,x],argTypes:=#[22,22] })
 (W:World) (base:Nat) (v:Value) (zs:List Int) (hs:a.eval s=v) (hown:IntsO base W v zs) (z:Int)
 (hx:a.eval x= .slice (some ⟨W.heap.size,0,none⟩) 1 1) (h0: -9223372036854775808≤z) (h1:z≤9223372036854775807) (hn:zs.length+1≤1099511627776) (hbase:base≤W.heap.size)
 (h:∀v' w',IntsO base w' v' (zs++[z])→KeepBut 3 W w'→Below base W w'→Others v.ownBlock W w'→(v'.ownBlock=v.ownBlock∨∀g,v'.ownBlock=some g→W.heap.size≤g)→wpList Try.prog ops Q rest (a.put o.dst v') w'):
 wpList Try.prog ops Q (o::rest) a (W.alloc (.cells #[.int .i64 z] 3)):=by
 refine wpList_plain hgd fun K hK=>?_
 obtain ⟨v',w',hr,g1,g2,g3,g4,g5⟩:=run_append_int o.type W base v zs z hown h0 h1 hn hbase
 unfold Oper.wp execOp
 simp only [ho,resolve,invoke,builtin,Sem.run_bind,Sem.run_pure,Result.andThen_ok,List.map_toArray,List.map_cons,List.map_nil,hs,hx,hr]
 exact hK _ _ (h v' w' g1 g2 g3 g4 g5)
theorem less_any (x y:Int) (w:World):Calls Try.prog 26 #[.int .i64 x,.int .i64 y] w fun e w'=>e= .returned (.bool (decide (x < y)))∧w'=w:=by
 by_cases h:x < y
 ·go_enter Try.func26,Try.ntmps26
  go_wp2
  go_ret
  exact ⟨ret_bool (by simpa using h),rfl⟩
 ·have h':y≤x:=by omega
  go_enter Try.func26,Try.ntmps26
  go_wp2
  go_ret
  exact ⟨ret_bool (by simpa using h'),rfl⟩
theorem len64_small (x:Int) (w:World) (h0:0≤x) (h1:x≤12):
 Calls Try.prog 67 #[.int .u64 x] w fun e w'=>(∃l:Int,e= .returned (.int .i64 l))∧w'=w:=by
 go_enter Try.func67,Try.ntmps67
 go_wp2_with fail
 go_ret
 exact ⟨⟨_,rfl⟩,rfl⟩
theorem len_small (x:Int) (w:World) (h0:0≤x) (h1:x≤12):
 Calls Try.prog 44 #[.int .u64 x] w fun e w'=>(∃l:Int,e= .returned (.int .i64 l))∧w'=w:=by
 go_enter Try.func44,Try.ntmps44
 go_wp2_with fail
 refine (len64_small x _ h0 h1).mono ?_
 rintro _ _ ⟨⟨l,rfl⟩,rfl⟩
 go_wp2
 go_ret
 exact ⟨⟨_,rfl⟩,rfl⟩
namespace Pl
theorem sortI_srt (l:List Int):Srt ltI (sortI l):=sortB_srt ltI_ir ltI_tr l
theorem ltI_iff {x y:Int}:ltI x y=true↔x < y:=by simp [ltI]
theorem ltI_not {x y:Int}:ltI x y=false↔y≤x:=by simp [ltI]
theorem sortI_take_succ {zs:List Int} {i:Nat} {x:Int} (h:zs[i]? =some x):sortI (zs.take (i+1))=insB ltI x (sortI (zs.take i)):=by
 rw [List.take_add_one,h]
 exact sortI_snoc _ _
theorem drop_at {α:Type} {l:List α} {i:Nat} {x:α} (h:l[i]? =some x):l.drop i=x::l.drop (i+1):=by
 obtain ⟨hi,rfl⟩:=List.getElem?_eq_some_iff.1 h
 exact List.drop_eq_getElem_cons hi
theorem mid_swap {α:Type} {a b:List α} {x y:α} {j:Nat} (hj:a.length=j):((a++y::x::b).set (j+1) y).set j x=a++x::y::b:=by
 subst hj
 simp [List.set_append]
end Pl
def SortedI (base:Nat) (w:World) (v:Value) (zs:List Int) (w':World):Prop:=IntsO base w' v zs∧KeepBut 3 w w'∧Others v.ownBlock w w'∧Below base w w'
theorem SortedI.after {base:Nat} {w w1 w2:World} {v:Value} {zs:List Int} (h:SortedI base w v zs w1) (hS:Below w1.heap.size w1 w2) (hb:base≤w.heap.size):SortedI base w v zs w2:=
 ⟨h.1.below hS,h.2.1.then (hS.mono h.2.2.1.1),⟨Nat.le_trans h.2.2.1.1 hS.size,fun b hb hne=>(hS.block b (Nat.lt_of_lt_of_le hb h.2.2.1.1)).trans (h.2.2.1.2 b hb hne)⟩,h.2.2.2.trans (hS.mono (Nat.le_trans hb h.2.2.1.1))⟩
theorem SortedI.put {base:Nat} {w w1:World} {g n c:Nat} {zs:List Int} (h:SortedI base w (.slice (some ⟨g,0,none⟩) n c) zs w1) (hb:base≤g) {j k:Nat} {x y:Int} (hj:j < zs.length) (hk:k < zs.length) (hx: -9223372036854775808≤x∧x≤9223372036854775807) (hy: -9223372036854775808≤y∧y≤9223372036854775807):
 SortedI base w (.slice (some ⟨g,0,none⟩) n c) ((zs.set j x).set k y) ((w1.setCell ⟨g,j,none⟩ (.int .i64 x)).setCell ⟨g,k,none⟩ (.int .i64 y)):=by
 obtain ⟨h1,h2,h3,h4⟩:=h
 obtain ⟨a1,a2⟩:=h1.set_ hj hx.1 hx.2
 obtain ⟨b1,b2⟩:=a1.set_ (k:=k) (by simpa using hk) hy.1 hy.2
 exact ⟨b1,h2.trans (a2.trans b2),h3.trans (Others.of_set.trans Others.of_set),(h4.setCell (p:=⟨g,j,none⟩) hb _).setCell (p:=⟨g,k,none⟩) hb _⟩
theorem insertionI_own (base:Nat) (v:Value) (zs:List Int) (w:World) (h:IntsO base w v zs) (hl:zs.length≤12) (n:Int) (hn:n=zs.length):
 Calls Try.prog 58 #[v,.int .i64 0,.int .i64 n] w fun e w'=>e= .returned (.tuple #[])∧SortedI base w v (sortI zs) w':=by
 obtain ⟨m,hm⟩:∃m,m=zs.length:=⟨_,rfl⟩
 rw [← hm] at hl hn
 subst hn
 have HM:=Lib.hid hm
 rcases Nat.lt_or_ge 1 m with hm1 | hm1
 ·obtain ⟨g,c,rfl,hbg,hgw,hc1,hc2⟩:=h.shape (by omega)
  rw [← hm] at h hc1 ⊢
  have HBG:=Lib.hid hbg
  have hbw:base≤w.heap.size:=by omega
  have HI:=Lib.hid h
  clear h hm
  go_enter Try.func58,Try.ntmps58
  go_wp2
  go_loopw [6,7] (fun s6 s7 wr=>∃i:Nat,1≤i∧i≤m∧s6= .int .i64 i∧SortedI base w (.slice (some ⟨g,0,none⟩) m c) (sortI (zs.take i)++zs.drop i) wr) (fun s6 _ _=>m - (intOf s6).toNat)
  case atStart=>exact ⟨1,by omega,by omega,rfl,by
   have e:sortI (zs.take 1)++zs.drop 1=zs:=by
    cases zs with
    | nil=>rfl
    | cons x zs=>simp [sortI,sortB,insB]
   rw [e];exact ⟨HI.out,KeepBut.refl _ _,⟨Nat.le_refl _,fun _ _ _=>rfl⟩,Below.refl _ _⟩⟩
  case round=>
   obtain ⟨i,hi1,hi,rfl,HS⟩:=hrel
   rcases Nat.lt_or_ge i m with hil | hil
   ·obtain ⟨x,hx⟩:∃x,zs[i]? =some x:=⟨zs[i]'(by rw [← HM.out];exact hil),List.getElem?_eq_getElem _⟩
    have HX:=Lib.hid hx
    clear hx
    have HSH:=Lib.hid HS
    clear HS
    go_wp2
    go_loopw [7] (fun s7 wx=>∃(j:Nat) (a b:List Int),j≤i∧s7= .int .i64 j∧Hid (a.length=j∧sortI (zs.take i)=a++b∧insB ltI x (sortI (zs.take i))=insB ltI x a++b)∧Hid (SortedI base w (.slice (some ⟨g,0,none⟩) m c) (a++x::(b++zs.drop (i+1))) wx)) (fun s7 _=>(intOf s7).toNat)
    case atStart=>exact ⟨i,sortI (zs.take i),[],by omega,rfl,Lib.hid ⟨by unfold sortI;rw [sortB_length,List.length_take,← HM.out];omega,by simp,by simp⟩,Lib.hid (by
     have:=HSH.out
     rw [drop_at HX.out] at this
     simpa using this)⟩
    case round=>
     obtain ⟨j,a,b,hj,rfl,HA,HW⟩:=hrel
     have HOUT:Hid ((j=0∨∃a' y,a=a'++[y]∧y≤x)→a++x::(b++zs.drop (i+1))=sortI (zs.take (i+1))++zs.drop (i+1)):=Lib.hid (fun hs=>by
      obtain ⟨h1,h2,h3⟩:=HA.out
      rw [sortI_take_succ HX.out,h3]
      rcases hs with hs | ⟨a',y,rfl,hyx⟩
      ·have:a=[]:=List.eq_nil_of_length_eq_zero (by omega)
       subst this
       simp [insB]
      ·have hsr:=sortI_srt (zs.take i)
       rw [h2] at hsr
       rw [insB_stop ltI_tr' (List.Pairwise.sublist (List.sublist_append_left _ _) hsr) (ltI_not.2 hyx)]
       simp)
     rcases Nat.eq_zero_or_pos j with hj0 | hj0
     ·subst hj0
      go_upto_region 4 with (fail)
      have hS0:=below_drew' wr
      refine region_seq 15 [0,1,2,3,4,5,6,7,8,9,10,11,12,13,14] (by kernel_rfl) (by kernel_rfl) ?_
      repeat ((first | (refine seq_takeP (v:=?_) rfl rfl rfl ?_ ?_;rotate_left;(· (intro _ hSw;go_simp;(try go_bits);(try with_reducible rfl)))) | (refine seq_take (v:=?_) rfl rfl rfl ?_ ?_;rotate_left;(· (intro _ hSw;go_simp;(try go_bits);(try with_reducible rfl)))) | refine seq_skip rfl rfl rfl ?_ | refine seq_skipc rfl rfl rfl (by assumption) ?_);(try simp only [Act.put,pu1,pu2,pu3,pu4,pu5,pu6]))
      refine seq_done ?_
      have HE:=Lib.hid (HOUT.out (.inl rfl))
      clear HOUT
      go_wp2
      go_roundw
      case rel=>exact ⟨i+1,by omega,by omega,by go_num,by
       have:=HW.out
       rw [HE.out] at this
       exact this.after hS0 hbw⟩
      case measure=>simp [intOf];omega
     ·obtain ⟨p,rfl⟩:∃p,j=p+1:=⟨j - 1,by omega⟩
      obtain ⟨a',y,rfl,hp⟩:∃a' y,a=a'++[y]∧a'.length=p:=by
       have h1:=HA.out.1
       have hne:a≠[]:=fun e=>by subst e;simp at h1
       refine ⟨a.dropLast,a.getLast hne,(List.dropLast_concat_getLast hne).symm,by simp;omega⟩
      have HP:=Lib.hid hp
      have hL:(a'++[y]++x::(b++zs.drop (i+1)))=a'++y::x::(b++zs.drop (i+1)):=by simp
      have HWo:=HW.out
      rw [hL] at HWo
      obtain ⟨cx,fx,bx⟩:=HWo.1.at_ (k:=p+1) (z:=x) (by rw [← hp];simp)
      obtain ⟨cy,fy,byy⟩:=HWo.1.at_ (k:=p) (z:=y) (by rw [← hp];simp)
      have HBX:=Lib.hid bx
      have HBY:=Lib.hid byy
      have HWO:=Lib.hid HWo
      clear hp hL HWo bx byy
      have p0:(0:Int)≤(p:Int)+1:=by omega
      have p1:(p:Int)+1 < m:=by omega
      have p2:(p:Int) < m:=by omega
      have p3:(0:Int) < (p:Int)+1:=by omega
      rcases Int.lt_or_le x y with hxy | hxy
      ·have HN:Hid (a'.length=p∧sortI (zs.take i)=a'++(y::b)∧insB ltI x (sortI (zs.take i))=insB ltI x a'++(y::b)):=Lib.hid (by
        obtain ⟨_,h2,h3⟩:=HA.out
        refine ⟨HP.out,by simpa using h2,?_⟩
        have hsr:=sortI_srt (zs.take i)
        rw [h2] at hsr
        rw [h3,insB_move ltI_ir ltI_tr ltI_tr' (List.Pairwise.sublist (List.sublist_append_left _ _) hsr) (ltI_iff.2 hxy)]
        simp)
       have hd:decide (x < y)=true:=by simpa using hxy
       have C0:=stab cx
       have C1:=stab cy
       have hS0:=below_drew' wr
       go_upto_region 4 with (fail)
       clear cx cy
       refine region_seq 15 [0,1,2,3,4,5,6,7,8,9,10,11,12,13,14] (by kernel_rfl) (by kernel_rfl) ?_
       repeat ((first | (refine seq_takeP (v:=?_) rfl rfl rfl ?_ ?_;rotate_left;(· (intro _ hSw;go_simp;(try go_bits);(try with_reducible rfl)))) | (refine seq_take (v:=?_) rfl rfl rfl ?_ ?_;rotate_left;(· (intro _ hSw;go_simp;(try go_bits);(try with_reducible rfl)))) | refine seq_skip rfl rfl rfl ?_ | refine seq_skipc rfl rfl rfl (by assumption) ?_);(try simp only [Act.put,pu1,pu2,pu3,pu4,pu5,pu6]))
       refine seq_step rfl rfl (fun KR hKR=>?_)
       go_simp
       with_reducible refine (less_any x y _).mono ?_
       rintro _ _ ⟨rfl,rfl⟩
       rw [hd]
       refine hKR.out _ _ (Or.inr hS0) ?_
       clear hKR KR
       (try simp only [Act.put,pu1,pu2,pu3,pu4,pu5,pu6])
       repeat ((first | (refine seq_takeP (v:=?_) rfl rfl rfl ?_ ?_;rotate_left;(· (intro _ hSw;go_simp;(try go_bits);(try with_reducible rfl)))) | (refine seq_take (v:=?_) rfl rfl rfl ?_ ?_;rotate_left;(· (intro _ hSw;go_simp;(try go_bits);(try with_reducible rfl)))) | refine seq_skip rfl rfl rfl ?_ | refine seq_skipc rfl rfl rfl (by assumption) ?_);(try simp only [Act.put,pu1,pu2,pu3,pu4,pu5,pu6]))
       refine seq_done ?_
       clear C0 C1 HOUT
       go_upto_region 6 with (fail)
       have HS1:=Lib.hid (HWO.out.after hS0 hbw)
       generalize wr.drew=W1 at *
       obtain ⟨cx,fx,_⟩:=HS1.out.1.at_ (k:=p+1) (z:=x) (by rw [← HP.out];simp)
       obtain ⟨cy,fy,_⟩:=HS1.out.1.at_ (k:=p) (z:=y) (by rw [← HP.out];simp)
       have C0:=stab cx
       have C1:=stab cy
       have hS1:=below_drew' W1
       clear hS0
       refine region_seq 15 [0,1,2,3,4,5,6,7,8,9,10,11,12,13,14,15,16,17] (by kernel_rfl) (by kernel_rfl) ?_
       repeat ((first | (refine seq_takeP (v:=?_) rfl rfl rfl ?_ ?_;rotate_left;(· (intro _ hSw;go_simp;(try go_bits);(try with_reducible rfl)))) | (refine seq_take (v:=?_) rfl rfl rfl ?_ ?_;rotate_left;(· (intro _ hSw;go_simp;(try go_bits);(try with_reducible rfl)))) | refine seq_skip rfl rfl rfl ?_);(try simp only [Act.put,pu1,pu2,pu3,pu4,pu5,pu6]))
       refine seq_step rfl rfl (fun KR hKR=>?_)
       go_simp
       refine hKR.out _ _ (Or.inl (by decide)) ?_
       clear hKR KR
       (try simp only [Act.put,pu1,pu2,pu3,pu4,pu5,pu6])
       refine seq_step rfl rfl (fun KR hKR=>?_)
       go_simp
       refine hKR.out _ _ (Or.inl (by decide)) ?_
       clear hKR KR
       (try simp only [Act.put,pu1,pu2,pu3,pu4,pu5,pu6])
       refine seq_step rfl rfl (fun KR hKR=>?_)
       go_simp
       refine hKR.out _ _ (Or.inl (by decide)) ?_
       clear hKR KR
       (try simp only [Act.put,pu1,pu2,pu3,pu4,pu5,pu6])
       refine seq_done ?_
       have HS2:=HS1.out.put HBG.out (j:=p+1) (k:=p) (x:=y) (y:=x) (by rw [← HP.out];simp) (by rw [← HP.out];simp) HBY.out HBX.out
       rw [mid_swap HP.out] at HS2
       have HW2:=Lib.hid (HS2.after (below_drew' _) hbw)
       generalize ((W1.setCell ⟨g,p+1,none⟩ (.int .i64 y)).setCell ⟨g,p,none⟩ (.int .i64 x)).drew=W2 at *
       clear C0 C1 hS1 HS2 cx cy
       go_wp2
       go_roundw
       case rel=>exact ⟨p,a',y::b,by omega,by go_num,HN,HW2⟩
       case measure=>simp [intOf]
      ·have HE:=Lib.hid (HOUT.out (.inr ⟨a',y,rfl,hxy⟩))
       have hd:decide (x < y)=false:=by simpa using hxy
       have C0:=stab cx
       have C1:=stab cy
       have hS0:=below_drew' wr
       clear HOUT
       go_upto_region 4 with (fail)
       clear cx cy
       refine region_seq 15 [0,1,2,3,4,5,6,7,8,9,10,11,12,13,14] (by kernel_rfl) (by kernel_rfl) ?_
       repeat ((first | (refine seq_takeP (v:=?_) rfl rfl rfl ?_ ?_;rotate_left;(· (intro _ hSw;go_simp;(try go_bits);(try with_reducible rfl)))) | (refine seq_take (v:=?_) rfl rfl rfl ?_ ?_;rotate_left;(· (intro _ hSw;go_simp;(try go_bits);(try with_reducible rfl)))) | refine seq_skip rfl rfl rfl ?_ | refine seq_skipc rfl rfl rfl (by assumption) ?_);(try simp only [Act.put,pu1,pu2,pu3,pu4,pu5,pu6]))
       refine seq_step rfl rfl (fun KR hKR=>?_)
       go_simp
       with_reducible refine (less_any x y _).mono ?_
       rintro _ _ ⟨rfl,rfl⟩
       rw [hd]
       refine hKR.out _ _ (Or.inr hS0) ?_
       clear hKR KR
       (try simp only [Act.put,pu1,pu2,pu3,pu4,pu5,pu6])
       repeat ((first | (refine seq_takeP (v:=?_) rfl rfl rfl ?_ ?_;rotate_left;(· (intro _ hSw;go_simp;(try go_bits);(try with_reducible rfl)))) | (refine seq_take (v:=?_) rfl rfl rfl ?_ ?_;rotate_left;(· (intro _ hSw;go_simp;(try go_bits);(try with_reducible rfl)))) | refine seq_skip rfl rfl rfl ?_ | refine seq_skipc rfl rfl rfl (by assumption) ?_);(try simp only [Act.put,pu1,pu2,pu3,pu4,pu5,pu6]))
       refine seq_done ?_
       clear C0 C1
       go_wp2
       go_roundw
       case rel=>exact ⟨i+1,by omega,by omega,by go_num,by
        have:=HW.out
        rw [HE.out] at this
        exact this.after hS0 hbw⟩
       case measure=>simp [intOf];omega
   ·obtain rfl:i=m:=by omega
    go_wp2
    go_end0
    exact ⟨rfl,by
     have e:sortI (zs.take i)++zs.drop i=sortI zs:=by rw [HM.out];simp
     rw [e] at HS;exact HS⟩
 ·have HI:=Lib.hid h
  have HV:Hid (∃A c',v= .slice A m c'):=Lib.hid (by
   obtain ⟨A,n',c',rfl⟩:=h.sliceN
   have:=h.len
   exact ⟨A,c',by rw [this,hm]⟩)
  have HE:Hid (sortI zs=zs):=Lib.hid (by
   match zs,hm with
   | [],_=>rfl
   | [x],_=>rfl
   | x::y::zs,hm=>simp at hm;omega)
  clear h hm
  go_enter Try.func58,Try.ntmps58
  go_wp2
  go_loopw [6] (fun s6 wr=>s6= .int .i64 1∧wr=w) (fun s6 _=>0)
  case atStart=>exact ⟨rfl,rfl⟩
  case round=>
   obtain ⟨rfl,rfl⟩:=hrel
   go_wp2
   go_end0
   exact ⟨rfl,by rw [HE.out];exact ⟨HI.out,KeepBut.refl _ _,⟨Nat.le_refl _,fun _ _ _=>rfl⟩,Below.refl _ _⟩⟩
theorem pdqI_own (base:Nat) (v:Value) (zs:List Int) (w:World) (h:IntsO base w v zs) (hl:zs.length≤12) (n:Int) (hn:n=zs.length) (k:Int):
 Calls Try.prog 43 #[v,.int .i64 0,.int .i64 n,.int .i64 k] w fun e w'=>e= .returned (.tuple #[])∧SortedI base w v (sortI zs) w':=by
 have h00:0≤n:=by omega
 have h12:n≤12:=by omega
 have HI:=Lib.hid h
 have HN:=Lib.hid hn
 obtain ⟨A,n',c',rfl⟩:=h.sliceN
 clear h hn
 go_enter Try.func43,Try.ntmps43
 go_wp2
 refine wp_loop_rounds 1 ?_
 rw [rounds_succ]
 go_wp2_with fail
 refine (insertionI_own base _ zs _ HI.out hl n HN.out).mono ?_
 rintro _ w1 ⟨rfl,hs⟩
 go_wp2
 (try simp only [Exit.inBlock,Exit.then]);refine bodyPost_ret (results_none rfl _ _ _) rfl ?_
 exact ⟨rfl,hs⟩
theorem sortI_own (base:Nat) (v:Value) (zs:List Int) (w:World) (h:IntsO base w v zs) (hl:zs.length≤12):
 Calls Try.prog 30 #[v] w fun e w'=>e= .returned (.tuple #[])∧SortedI base w v (sortI zs) w':=by
 obtain ⟨A,n,c,rfl⟩:=h.sliceN
 have hn:=h.len
 have HI:=Lib.hid h
 have HN:=Lib.hid hn
 have h12:n≤12:=by omega
 clear h hn
 go_enter Try.func30,Try.ntmps30
 go_wp2_with fail
 refine (len_small (n:Int) _ (by omega) (by omega)).mono ?_
 rintro _ _ ⟨⟨l,rfl⟩,rfl⟩
 go_wp2_with fail
 refine (pdqI_own base _ zs _ HI.out hl n (by rw [HN.out]) l).mono ?_
 rintro _ w1 ⟨rfl,hs⟩
 go_wp2
 go_end0
 exact ⟨rfl,hs⟩
theorem run_append_intsL (ty:TypeId) (W:World) (base:Nat) (v0 v:Value) (ys zs:List Int) (h0:IntsO base W v0 ys) (h:IntsM W v zs) (hn:ys.length+zs.length≤1099511627776) (hbase:base≤W.heap.size):
 ∃v' w',(Builtin.append_ #[22,22] ty #[v0,v]).run Try.prog W= .ok v' w'∧IntsO base w' v' (ys++zs)∧KeepBut 3 W w'∧Below base W w'∧Others v0.ownBlock W w'∧(v'.ownBlock=v0.ownBlock∨∀g,v'.ownBlock=some g→W.heap.size≤g):=by
 obtain ⟨A,c,rfl,hc,hm,hrow,hrg⟩:=h
 obtain ⟨i0,hi,hz0,hz1,hz2⟩:=info_parts info_intT
 cases A with
 | none=>
  have h00:zs.length=0:=by
   rcases Nat.eq_zero_or_pos zs.length with e | e
   ·exact e
   ·obtain ⟨b,off,e1,_⟩:=hrow e;cases e1
  have hfs:zs=[]:=List.eq_nil_of_length_eq_zero h00
  subst hfs
  refine ⟨v0,W,?_,by simpa using h0,KeepBut.refl _ _,Below.refl _ _,⟨Nat.le_refl _,fun _ _ _=>rfl⟩,.inl rfl⟩
  rcases h0.1.2 with ⟨rfl,_⟩ | ⟨g,cap,cur,rfl,hb,hg,hnc,hcm,hcs,htake⟩
  ·simp [Builtin.append_,run_underlying Try.underlying22,sizeOf,typeInfo,zeroValue,hi,hz0,Builtin.lenOf,run_firstCells_none]
  ·simp [Builtin.append_,run_underlying Try.underlying22,sizeOf,typeInfo,zeroValue,hi,hz0,Builtin.lenOf,run_firstCells_none,hnc,storeCells]
 | some ad=>
  obtain ⟨v',w',hr,g1,g2,g3,g4⟩:=run_append_own_at (P:=Try.prog) W base 22 ty 3 i0 _ 1 8 Try.underlying22 hi hz0 hz1 hz2 rfl (by decide) v0 ys.length (ys.map fun z=>Value.int .i64 z) h0.1 ad zs.length c (zs.map fun z=>Value.int .i64 z) (by simp) (fun j u hj=>by
   have hjl:j < zs.length:=by have h9:=(List.getElem?_eq_some_iff.1 hj).1;simpa using h9
   obtain ⟨b,off,e,hx⟩:=hrow (by omega)
   have e:=Option.some.inj e
   rw [e,addr_add0,hx j hjl]
   simp [List.getElem?_eq_getElem hjl] at hj
   rw [← hj]
   simp [List.getD,List.getElem?_eq_getElem hjl]) (fun u hu=>by simp at hu;obtain ⟨z,_,rfl⟩:=hu;rfl) (by unfold maxLen;omega) (by omega) hbase
  refine ⟨v',w',hr,⟨by simpa using g1,fun y hy=>?_⟩,?_,?_,⟨g2.size,fun b hb hne=>g2.block b hb hne⟩,?_⟩
  ·rcases List.mem_append.1 hy with hy | hy
   ·exact h0.2 y hy
   ·exact hrg y hy
  ·intro b cs t' fz hne hcb
   refine (g2.block b (lt_heap hcb) ?_).trans hcb
   intro e1
   rcases h0.1.2 with ⟨rfl,_⟩ | ⟨g,cap,cur,rfl,_,hg,_⟩
   ·simp [Value.ownBlock] at e1
   ·simp [Value.ownBlock] at e1
    subst e1
    rw [hg] at hcb
    injection hcb with hcb
    injection hcb with _ h2 _
    exact hne h2.symm
  ·exact (Below.refl _ _).grown g2 hbase (fun k hk=>(h0.1.lt k hk).1)
  ·rcases g4 with g4 | g4
   ·exact .inl g4
   ·right;intro g hg;rw [g4] at hg;injection hg with hg;omega
theorem bsearch_any (v:Value) (zs:List Int) (t:Int) (w:World) (h:IntsM w v zs) (hs:zs.Pairwise (· < ·)) (hl:zs.length≤1000):
 Calls Try.prog 15 #[v,.int .i64 t] w fun e w'=>e= .returned (.tuple #[.int .i64 (posR zs t:Nat),.bool (decide (t∈zs))])∧Below w.heap.size w w':=by
 obtain ⟨A,c,rfl,hc,hc'⟩:=h.shape
 obtain ⟨n,hn⟩:∃n,n=zs.length:=⟨_,rfl⟩
 rw [← hn] at h hc hl ⊢
 have HN:=Lib.hid hn
 have HI:=Lib.hid h
 have HS:=Lib.hid hs
 clear h hn hs
 go_enter Try.func15,Try.ntmps15
 go_wp2
 go_loopw [7,8,9] (fun s7 s8 _ wr=>∃i j:Nat,i≤j∧j≤n∧s7= .int .i64 i∧s8= .int .i64 j∧Below w.heap.size w wr∧Hid (∀(k:Nat) (x:Int),k < i→zs[k]? =some x→x < t)∧Hid (∀(k:Nat) (x:Int),j≤k→zs[k]? =some x→t≤x)) (fun s7 s8 _ _=>(intOf s8).toNat - (intOf s7).toNat)
 case atStart=>exact ⟨0,n,by omega,by omega,rfl,rfl,Below.refl _ _,Lib.hid (fun k x hk=>by omega),Lib.hid (fun k x hk hx=>by have:=(List.getElem?_eq_some_iff.1 hx).1;have:=HN.out;omega)⟩
 case round=>
  obtain ⟨i,j,hij,hjn,rfl,rfl,hb,HA,HB⟩:=hrel
  rcases Nat.lt_or_ge i j with hlt | hlt
  ·have hltz:(i:Int) < j:=by omega
   have hmid:(i+j) / 2 < n:=by omega
   obtain ⟨b,off,y,hA,hcell,hy,_,_⟩:=HI.out.elem hb hmid
   subst hA
   have HY:=Lib.hid hy
   clear hy
   have q0:(0:Int)≤((i:Int)+j) / 2:=by omega
   have q1:((i:Int)+j) / 2 < n:=by omega
   have q2:(((i:Int)+j) / 2).toNat=(i+j) / 2:=by omega
   go_wp2_with fail
   refine (less_any y t _).mono ?_
   rintro _ _ ⟨rfl,rfl⟩
   by_cases hyt:y < t
   ·have hd:decide (y < t)=true:=by simpa using hyt
    rw [hd]
    have HA':Hid (∀(k:Nat) (x:Int),k < (i+j) / 2+1→zs[k]? =some x→x < t):=Lib.hid (fun k x hk hx=>by
     rcases Nat.lt_or_ge k ((i+j) / 2) with e | e
     ·have:=asc_get HS.out e hx HY.out;omega
     ·obtain rfl:k=(i+j) / 2:=by omega
      rw [HY.out] at hx;injection hx with hx;omega)
    go_wp2
    go_roundw
    case rel=>exact ⟨(i+j) / 2+1,j,by omega,by omega,by go_num,rfl,hb,HA',HB⟩
    case measure=>simp [intOf];omega
   ·have hd:decide (y < t)=false:=by simpa using hyt
    rw [hd]
    have HB':Hid (∀(k:Nat) (x:Int),(i+j) / 2≤k→zs[k]? =some x→t≤x):=Lib.hid (fun k x hk hx=>by
     rcases Nat.lt_or_ge ((i+j) / 2) k with e | e
     ·have:=asc_get HS.out e HY.out hx;omega
     ·obtain rfl:k=(i+j) / 2:=by omega
      rw [HY.out] at hx;injection hx with hx;omega)
    go_wp2
    go_roundw
    case rel=>exact ⟨i,(i+j) / 2,by omega,by omega,rfl,by go_num,hb,HA,HB'⟩
    case measure=>simp [intOf];omega
  ·obtain rfl:i=j:=by omega
   have HPOS:Hid (posR zs t=i):=Lib.hid (posR_of (by rw [← HN.out];exact hjn) HA.out HB.out)
   rcases Nat.lt_or_ge i n with hin | hin
   ·have hinz:(i:Int) < n:=by omega
    obtain ⟨b,off,y,hA,hcell,hy,_,_⟩:=HI.out.elem hb hin
    subst hA
    have HY:=Lib.hid hy
    clear hy
    by_cases hyt:y=t
    ·subst hyt
     have HM:Hid (decide (y∈zs)=true):=Lib.hid (by rw [decide_eq_true_iff];exact List.mem_of_getElem? HY.out)
     go_wp2
     go_ret2
     exact ⟨by rw [HPOS.out,HM.out];rfl,hb⟩
    ·have hne:(y==t)=false:=by simpa using hyt
     have HM:Hid (decide (t∈zs)=false):=Lib.hid (by
      rw [decide_eq_false_iff_not]
      intro hm
      obtain ⟨k,hk⟩:=List.mem_iff_getElem?.1 hm
      rcases Nat.lt_trichotomy k i with e | e | e
      ·have:=HA.out k t e hk;omega
      ·subst e;rw [HY.out] at hk;injection hk with hk;exact hyt hk
      ·have a:=HB.out i y (Nat.le_refl _) HY.out
       have b:=asc_get HS.out e HY.out hk
       omega)
     clear hyt
     go_wp2
     go_ret2
     exact ⟨by rw [HPOS.out,HM.out];rfl,hb⟩
   ·have HM:Hid (decide (t∈zs)=false):=Lib.hid (by
     rw [decide_eq_false_iff_not]
     intro hm
     obtain ⟨k,hk⟩:=List.mem_iff_getElem?.1 hm
     have:=(List.getElem?_eq_some_iff.1 hk).1
     have:=HN.out
     have:=HA.out k t (by omega) hk
     omega)
    go_wp2
    go_ret2
    exact ⟨by rw [HPOS.out,HM.out];rfl,hb⟩
theorem clone_own (v:Value) (zs:List Int) (w:World) (h:IntsM w v zs) (hl:zs.length≤1000000):
 Calls Try.prog 16 #[v] w fun e w'=>∃v',e= .returned v'∧IntsO w.heap.size w' v' zs∧Below w.heap.size w w':=by
 obtain ⟨A,c,rfl,hc,hc'⟩:=h.shape
 have heql:=fun (W:World) (a:Option Addr)=>Go.Lib.run_eql_slice_nil (P:=Try.prog) W 22 3 a zs.length c 0 0 Try.underlying22
 cases A with
 | none=>
  have hz:zs=[]:=by
   obtain ⟨A',c',e,_,_,h4,_⟩:=h
   injection e with e1 _ _
   subst e1
   rcases Nat.eq_zero_or_pos zs.length with e | e
   ·exact List.eq_nil_of_length_eq_zero e
   ·obtain ⟨b,off,e,_⟩:=h4 e;cases e
  subst hz
  have:=heql w none
  simp only [List.length_nil] at this
  clear h heql
  go_enter Try.func16,Try.ntmps16
  go_wp2
  go_ret
  exact ⟨_,rfl,IntsO.nil _ _,Below.refl _ _⟩
 | some ad=>
  have:=heql w (some ad)
  clear heql
  have h0:IntsO w.heap.size (w.alloc (.cells #[] 3)) (.slice (some ⟨w.heap.size,0,none⟩) 0 0) []:=⟨World.ownsRow_made w #[] 0 (Nat.le_refl _) (by simp) (by simp),fun z hz=>by simp at hz⟩
  have hb0:Below w.heap.size w (w.alloc (.cells #[] 3)):=(Below.refl _ _).alloc (Nat.le_refl _) _
  obtain ⟨v',w',hr,g1,_,g3,_,_⟩:=run_append_intsL 22 _ w.heap.size _ _ [] zs h0 (h.below hb0) (by simp;omega) (by simp)
  have G1:=Lib.hid g1
  have hb3:=hb0.trans g3
  clear h h0 g1 g3
  go_enter Try.func16,Try.ntmps16
  go_wp2_with (at_builtin;refine wpList_append_run hr rfl rfl rfl rfl rfl ?_)
  go_wp2
  go_ret
  exact ⟨_,rfl,by simpa using G1.out,hb3⟩
theorem IntsM.cellAt {w wr:World} {b off n c:Nat} {zs:List Int} (h:IntsM w (.slice (some ⟨b,off,none⟩) n c) zs) (hb:Below w.heap.size w wr) {k:Nat} {z:Int} (hz:zs[k]? =some z):wr.cell? ⟨b,off+k,none⟩=some (.int .i64 z):=by
 have hk:=(List.getElem?_eq_some_iff.1 hz).1
 obtain ⟨b',off',z',h1,h2,h3,_⟩:=h.elem hb (k:=k) (by rw [h.lenE];exact hk)
 injection h1 with h1
 injection h1 with e1 e2 _
 subst e1 e2
 rw [hz] at h3;injection h3 with h3;subst h3
 exact h2
theorem IntsM.lenC {w:World} {A:Option Addr} {n c:Nat} {zs:List Int} (h:IntsM w (.slice A n c) zs):n=zs.length∧n≤c∧c≤9223372036854775807:=by
 obtain ⟨A',c',e,h1,h2⟩:=h.shape
 injection e with _ e2 e3
 subst e2 e3
 exact ⟨rfl,h1,h2⟩
theorem box_cut (w:World) (x y:Value):∃W,w.alloc (.cells #[x,y] 43)=W∧Bk W w.heap.size 43 [x,y]∧Below w.heap.size w W:=⟨_,rfl,Bk.new w _ [x,y],below_new w _⟩
theorem box_pair (w:World) (x y:Value):∃W,w.alloc (.cells #[x,y] 38)=W∧Bk W w.heap.size 38 [x,y]∧Below w.heap.size w W:=⟨_,rfl,Bk.new w _ [x,y],below_new w _⟩
def CutOK (R:List Int) (x:Ct):Prop:=x.rows.Pairwise (· < ·)∧(∀r∈x.rows,r∈R)∧2≤x.dv∧x.dv≤x.rows.length
theorem validCut_any (v1:Value) (R:List Int) (A:Option Addr) (n c:Nat) (x:Ct) (w:World) (h:IntsM w v1 R) (h2:IntsM w (.slice A n c) x.rows) (ok:CutOK R x) (hR:R.Pairwise (· < ·)) (hl:R.length≤1000) (hl2:x.rows.length≤1000):
 Calls Try.prog 25 #[v1,.agg #[.slice A n c,.int .i64 x.dv]] w fun e w'=>e= .returned (.bool true)∧Below w.heap.size w w':=by
 obtain ⟨o1,o2,o3,o4⟩:=ok
 have hn:=h2.lenE
 have o4':x.dv≤n:=by omega
 obtain ⟨W,hW,hX,hbe⟩:=box_cut w (.slice A n c) (.int .i64 x.dv)
 obtain ⟨-,hc1,hc2⟩:=h2.lenC
 have HI:=Lib.hid h
 have HJ:=Lib.hid h2
 have HA:=Lib.hid o1
 have HB:=Lib.hid o2
 have HR:=Lib.hid hR
 have HN:=Lib.hid hn
 have hl3:n≤1000:=by omega
 obtain ⟨x0,x1,_,_⟩:=hX.two
 clear h h2 o1 o2 o4 hn hR hl2
 generalize x.dv=D at *
 go_enter Try.func25,Try.ntmps25
 go_wp2
 clear x0 x1
 go_loopw [5,6,7,8,12,17] (fun _ _ _ _ x _ wr=>∃k:Nat,k≤n∧x= .int .i64 k∧Below w.heap.size w wr∧Bk wr w.heap.size 43 [.slice A n c,.int .i64 D]) (fun _ _ _ _ x _ _=>n - (intOf x).toNat)
 case atStart=>exact ⟨0,by omega,rfl,hbe,hX⟩
 case round=>
  clear hW hbe hX
  obtain ⟨k,hk,rfl,hb,hB⟩:=hrel
  obtain ⟨x0,x1,_,_⟩:=hB.two
  rcases Nat.lt_or_ge k n with hkl | hkl
  ·obtain ⟨b,off,y,hA,hcell,hy,_,_⟩:=HJ.out.elem hb hkl
   subst hA
   have HY:=Lib.hid hy
   have HM:Hid (decide (y∈R)=true):=Lib.hid (by rw [decide_eq_true_iff];exact HB.out y (List.mem_of_getElem? hy))
   clear hy
   go_wp2_with fail
   refine (bsearch_any _ R y _ (HI.out.below hb) HR.out hl).mono ?_
   rw [HM.out]
   rintro _ w1 ⟨rfl,hb1⟩
   have hB1:=hB.later hb1
   have hb2:=below_then hb hb1 hb.size
   obtain ⟨x0,x1,_,_⟩:=hB1.two
   generalize posR R y=P
   clear hB hb hb1 hcell
   rcases Nat.eq_zero_or_pos k with hk0 | hk0
   ·subst hk0
    go_wp2
    go_roundw
    case rel=>exact ⟨1,by omega,by go_num,hb2,hB1⟩
    case measure=>simp [intOf];omega
   ·obtain ⟨j,rfl⟩:∃j,k=j+1:=⟨k - 1,by omega⟩
    obtain ⟨b',off',y',hA',hcell',hy',_,_⟩:=HJ.out.elem hb2 (show j < n by omega)
    injection hA' with hA'
    injection hA' with e1 e2 _
    subst e1 e2
    have hlt:y' < y:=asc_get HA.out (Nat.lt_succ_self j) hy' HY.out
    have hle:¬y≤y':=by omega
    have j0:(0:Int) < (j:Int)+1:=by omega
    have j1:(j:Int) < n:=by omega
    clear hy'
    go_wp2
    go_roundw
    case rel=>exact ⟨j+1+1,by omega,by go_num,hb2,hB1⟩
    case measure=>simp [intOf];omega
  ·obtain rfl:n=k:=by omega
   go_wp2
   go_ret
   exact ⟨rfl,hb⟩
namespace Pl
theorem opP_pre {p:List (List Tk)} {k:Nat} {d:List Tk} (h:p[k]? =some d) (j:Nat):(opP (p.take k)++opD (d.take j)).length≤(opP p).length:=by
 have e1:p=p.take k++(d::p.drop (k+1)):=by
  obtain ⟨hk,rfl⟩:=List.getElem?_eq_some_iff.1 h
  rw [← List.drop_eq_getElem_cons hk,List.take_append_drop]
 have e2:d=d.take j++d.drop j:=(List.take_append_drop j d).symm
 have h1:opP p=opP (p.take k)++(opD d++opP (p.drop (k+1))):=by
  conv=>lhs;rw [e1,opP_append]
  rfl
 have h2:opD d=opD (d.take j)++opD (d.drop j):=by
  conv=>lhs;rw [e2,opD_append]
 rw [h1,h2]
 simp only [List.length_append]
 omega
end Pl
theorem operated27_own (s:ByteArray) (A:Option Addr) (n c:Nat) (p:List (List Tk)) (w:World) (h:DutsM w (.slice A n c) p) (hl:(opP p).length≤1000):
 Calls Try.prog 10 #[.agg #[.string s,.slice A n c]] w fun e w'=>∃v',e= .returned v'∧IntsO w.heap.size w' v' (opP p)∧Below w.heap.size w w':=by
 obtain ⟨W,hW,hX,hbe⟩:=box_pair w (.string s) (.slice A n c)
 obtain ⟨hn,hc1,hc2⟩:=RdM.len h
 have HN:=Lib.hid hn
 have HI:=Lib.hid h
 clear h hn
 obtain ⟨x0,x1,_,_⟩:=hX.two
 go_enter Try.func10,Try.ntmps10
 go_wp2
 clear x0 x1
 go_loopw [3,4,5] (fun s3 s4 _ wr=>∃k:Nat,k≤n∧s4= .int .i64 k∧Below w.heap.size w wr∧Bk wr w.heap.size 38 [.string s,.slice A n c]∧Hid (IntsO w.heap.size wr s3 (opP (p.take k)))) (fun _ x _ _=>n - (intOf x).toNat)
 case atStart=>exact ⟨0,by omega,rfl,hbe,hX,Lib.hid (by simpa [opP] using IntsO.nil _ _)⟩
 case round=>
  clear hW hbe hX
  obtain ⟨k,hk,rfl,hb,hB,HO⟩:=hrel
  obtain ⟨x0,x1,_,_⟩:=hB.two
  rcases Nat.lt_or_ge k n with hkl | hkl
  ·have hkz:(k:Int) < n:=by omega
   obtain ⟨d,hd⟩:∃d,p[k]? =some d:=⟨p[k]'(by rw [← HN.out];exact hkl),List.getElem?_eq_getElem _⟩
   have HD:=Lib.hid hd
   obtain ⟨b,off,A1,c1,hA,hlt,hcell,hD,hd1,hd2⟩:=HI.out.elem (Below.refl _ _) hd
   subst hA
   have HDM:=Lib.hid hD
   have HC:=Lib.hid hcell
   obtain ⟨m,hm⟩:∃m,m=d.length:=⟨_,rfl⟩
   have HM:=Lib.hid hm
   rw [← hm] at hd1 HC HDM
   clear hd hD hcell hm
   go_wp2
   clear x0 x1
   go_loopw [3,5] (fun s3 s5 wx=>∃j:Nat,j≤m∧s5= .int .i64 j∧Below w.heap.size w wx∧Bk wx w.heap.size 38 [.string s,.slice (some ⟨b,off,none⟩) n c]∧Hid (IntsO w.heap.size wx s3 (opP (p.take k)++opD (d.take j)))) (fun _ x _=>m - (intOf x).toNat)
   case atStart=>exact ⟨0,by omega,rfl,hb,hB,Lib.hid (by simpa [opD] using HO.out)⟩
   case round=>
    clear hb hB HO
    obtain ⟨j,hj,rfl,hb,hB,HO⟩:=hrel
    obtain ⟨x0,x1,_,_⟩:=hB.two
    have hcell:=cell_keep hb HC.out
    rcases Nat.lt_or_ge j m with hjl | hjl
    ·obtain ⟨t,ht⟩:∃t,d[j]? =some t:=⟨d[j]'(by rw [← HM.out];exact hjl),List.getElem?_eq_getElem _⟩
     have HT:=Lib.hid ht
     obtain ⟨b1,off1,hA1,hlt1,hf,hh,t0,t1⟩:=HDM.out.elem hb ht
     subst hA1
     clear ht
     cases hhd:t.hd with
     | true=>
      rw [hhd] at hh
      have HO':Hid (IntsO w.heap.size wr (_) (opP (p.take k)++opD (d.take (j+1)))):=Lib.hid (by rw [opD_take HT.out,if_pos hhd,List.append_nil];exact HO.out)
      go_wp2
      go_roundw
      case rel=>exact ⟨j+1,by omega,by go_num,hb,hB,HO'⟩
      case measure=>simp [intOf];omega
     | false=>
      rw [hhd] at hh
      have hlen:(opP (p.take k)++opD (d.take j)).length+1≤1099511627776:=by have:=opP_pre HD.out j;omega
      have hbs:=hb.size
      have HE:Hid (opP (p.take k)++opD (d.take (j+1))=opP (p.take k)++opD (d.take j)++[t.fl]):=Lib.hid (by rw [opD_take HT.out,if_neg (by simp [hhd])];simp)
      generalize opP (p.take k)++opD (d.take j)=ys at *
      generalize t.fl=z at *
      go_wp2_with (at_builtin;refine wpList_append_int rfl (.tmp 33) (.tmp 43) rfl wr w.heap.size u3 ys rfl HO.out z rfl t0 t1 hlen hbs ?_)
      intro v' w4 hown4 hk4 hb4 _ _
      have hB4:=hk4.bk hB (by decide)
      go_wp2
      go_roundw
      case rel=>exact ⟨j+1,by omega,by go_num,hb.trans hb4,hB4,Lib.hid (by rw [HE.out];exact hown4)⟩
      case measure=>simp [intOf];omega
    ·obtain rfl:m=j:=by omega
     have HO':Hid (IntsO w.heap.size wr (_) (opP (p.take (k+1)))):=Lib.hid (by rw [opP_take HD.out];have:=HO.out;rw [take_all HM.out] at this;exact this)
     go_wp2
     go_roundw
     case rel=>exact ⟨k+1,by omega,by go_num,hb,hB,HO'⟩
     case measure=>simp [intOf];omega
  ·obtain rfl:n=k:=by omega
   go_wp2
   go_ret
   exact ⟨_,rfl,by have:=HO.out;rw [take_all HN.out] at this;exact this,hb⟩
theorem box_task (w:World) (x y:Value):∃W W',w.alloc (.cells #[x,y] 63)=W∧W.setCell ⟨w.heap.size,1,none⟩ y=W'∧Bk W w.heap.size 63 [x,y]∧Below w.heap.size w W∧Bk W' w.heap.size 63 [x,y]∧Below w.heap.size w W':=
 ⟨_,_,rfl,rfl,Bk.new w _ [x,y],below_new w _,by simpa using (Bk.new w 63 [x,y]).set_ 1 y,(below_new w _).setCell (p:=⟨w.heap.size,1,none⟩) (Nat.le_refl _) y⟩
theorem operated_own (s:ByteArray) (A:Option Addr) (n c:Nat) (p:List (List Tk)) (w:World) (h:DutsM w (.slice A n c) p) (hl:(opP p).length≤1000):
 Calls Try.prog 24 #[.agg #[.string s,.slice A n c]] w fun e w'=>∃v',e= .returned v'∧IntsO w.heap.size w' v' (opP p)∧Below w.heap.size w w':=by
 obtain ⟨W,hW,hX,hbe⟩:=box_pair w (.string s) (.slice A n c)
 obtain ⟨hn,hc1,hc2⟩:=RdM.len h
 have HN:=Lib.hid hn
 have HI:=Lib.hid h
 clear h hn
 obtain ⟨x0,x1,_,_⟩:=hX.two
 go_enter Try.func24,Try.ntmps24
 go_wp2
 clear x0 x1
 go_loopw [3,11] (fun s3 s4 wr=>∃k:Nat,k≤n∧s4= .int .i64 k∧Below w.heap.size w wr∧Bk wr w.heap.size 38 [.string s,.slice A n c]∧Hid (IntsO w.heap.size wr s3 (opP (p.take k)))) (fun _ x _=>n - (intOf x).toNat)
 case atStart=>exact ⟨0,by omega,rfl,hbe,hX,Lib.hid (by simpa [opP] using IntsO.nil _ _)⟩
 case round=>
  clear hW hbe hX
  obtain ⟨k,hk,rfl,hb,hB,HO⟩:=hrel
  obtain ⟨x0,x1,_,_⟩:=hB.two
  rcases Nat.lt_or_ge k n with hkl | hkl
  ·have hkz:(k:Int) < n:=by omega
   obtain ⟨d,hd⟩:∃d,p[k]? =some d:=⟨p[k]'(by rw [← HN.out];exact hkl),List.getElem?_eq_getElem _⟩
   have HD:=Lib.hid hd
   obtain ⟨b,off,A1,c1,hA,hlt,hcell,hD,hd1,hd2⟩:=HI.out.elem (Below.refl _ _) hd
   subst hA
   have HDM:=Lib.hid hD
   have hcell:=cell_keep hb hcell
   obtain ⟨m,hm⟩:∃m,m=d.length:=⟨_,rfl⟩
   have HM:=Lib.hid hm
   rw [← hm] at hd1 hcell HDM
   have hbo:=hb
   clear hd hD hm
   go_wp2
   clear x0 x1 hcell
   generalize wr=wo at *
   go_loopw [3,17] (fun s3 s5 wx=>∃j:Nat,j≤m∧s5= .int .i64 j∧Below w.heap.size w wx∧Bk wx w.heap.size 38 [.string s,.slice (some ⟨b,off,none⟩) n c]∧Hid (IntsO w.heap.size wx s3 (opP (p.take k)++opD (d.take j)))) (fun _ x _=>m - (intOf x).toNat)
   case atStart=>exact ⟨0,by omega,rfl,hb,hB,Lib.hid (by simpa [opD] using HO.out)⟩
   case round=>
    clear hb hB HO
    obtain ⟨j,hj,rfl,hb,hB,HO⟩:=hrel
    obtain ⟨x0,x1,_,_⟩:=hB.two
    rcases Nat.lt_or_ge j m with hjl | hjl
    ·obtain ⟨t,ht⟩:∃t,d[j]? =some t:=⟨d[j]'(by rw [← HM.out];exact hjl),List.getElem?_eq_getElem _⟩
     have HT:=Lib.hid ht
     obtain ⟨b1,off1,hA1,hlt1,hf,hh,t0,t1⟩:=HDM.out.elem hb ht
     subst hA1
     clear ht
     obtain ⟨W2,W3,hW2,hW3,hK2,hbk2,hK,hbk⟩:=box_task wr (.int .i64 t.fl) (.bool t.hd)
     obtain ⟨k0,k1,f0,f1⟩:=hK2.two
     obtain ⟨k2,k3,_,_⟩:=hK.two
     cases hhd:t.hd with
     | true=>
      rw [hhd] at hh hW2 hW3 k1 k3
      clear hW3 k2 k3
      have hb2:=below_then hb hbk2 hb.size
      have hB2:=hB.later hbk2
      have HO':Hid (IntsO w.heap.size W2 (_) (opP (p.take k)++opD (d.take (j+1)))):=Lib.hid (by rw [opD_take HT.out,if_pos hhd,List.append_nil];exact HO.out.below hbk2)
      go_wp2
      go_roundw
      case rel=>exact ⟨j+1,by omega,by go_num,hb2,hB2,HO'⟩
      case measure=>simp [intOf];omega
     | false=>
      rw [hhd] at hh hW2 hW3 k1 k3
      have hb2:=below_then hb hbk hb.size
      have hB2:=hB.later hbk
      have HO2:=Lib.hid (HO.out.below hbk)
      have hlen:(opP (p.take k)++opD (d.take j)).length+1≤1099511627776:=by have:=opP_pre HD.out j;omega
      have hbs:=hb2.size
      have HE:Hid (opP (p.take k)++opD (d.take (j+1))=opP (p.take k)++opD (d.take j)++[t.fl]):=Lib.hid (by rw [opD_take HT.out,if_neg (by simp [hhd])];simp)
      generalize opP (p.take k)++opD (d.take j)=ys at *
      generalize t.fl=z at *
      go_wp2_with (at_builtin;refine wpList_append_int rfl (.tmp 24) (.tmp 27) rfl W3 w.heap.size u3 ys rfl HO2.out z rfl t0 t1 hlen hbs ?_)
      intro v' w4 hown4 hk4 hb4 _ _
      have hB4:=hk4.bk hB2 (by decide)
      go_wp2
      go_roundw
      case rel=>exact ⟨j+1,by omega,by go_num,hb2.trans hb4,hB4,Lib.hid (by rw [HE.out];exact hown4)⟩
      case measure=>simp [intOf];omega
    ·obtain rfl:m=j:=by omega
     have HO':Hid (IntsO w.heap.size wr (_) (opP (p.take (k+1)))):=Lib.hid (by rw [opP_take HD.out];have:=HO.out;rw [take_all HM.out] at this;exact this)
     go_wp2
     go_roundw
     case rel=>exact ⟨k+1,by omega,by go_num,hb,hB,HO'⟩
     case measure=>simp [intOf];omega
  ·obtain rfl:n=k:=by omega
   go_wp2
   go_ret
   exact ⟨_,rfl,by have:=HO.out;rw [take_all HN.out] at this;exact this,hb⟩
section
open Go.Maps (int_keyed keyOf_int_mk)
theorem plainElem_boolInv {e:TypeId} (he:Try.prog.underlying e=some .bool) {v:Value} {b:Bool} {ps:List MemPlace} (h:plainElem (H:=Unit) Try.prog e v=some (.lit (.bool b),ps)):v= .bool b:=by
 unfold plainElem at h
 rw [he] at h
 cases v <;> simp at h
 rw [h.1]
def SeenAt (w:World) (b n:Nat) (zs:List Int):Prop:=
 ∃D:DataW Unit,w.ownsMap Try.prog 3 (plainElem Try.prog 4) b n D∧Go.Maps.IsMap D∧∀z:Int,D.atKey (.int .i64 z) (.lit (.bool false))= .lit (.bool (decide (z∈zs)))
theorem SeenAt.made (w:World):SeenAt (w.alloc (.map #[] 0)) w.heap.size 0 []:=
 ⟨.map [],World.ownsMap_made w _ _ _,Go.Maps.isMap_empty,fun z=>by simp [DataW.atKey]⟩
theorem key_ok (z:Int) (h0: -9223372036854775808≤z) (h1:z≤9223372036854775807):keyOf Try.prog 3 (.int .i64 z)=some (.int .i64 z):=keyOf_int_mk Try.underlying3 (by
 have e1:IntKind.i64.min= -9223372036854775808:=by decide
 have e2:IntKind.i64.max=9223372036854775807:=by decide
 simp [Lit.wf,e1,e2];omega)
theorem SeenAt.look {w:World} {b n:Nat} {zs:List Int} (h:SeenAt w b n zs) (z:Int) (h0: -9223372036854775808≤z) (h1:z≤9223372036854775807):
 (Instr.lookup 79 (.map (some b)) (.int .i64 z) false).run Try.prog w= .ok (.bool (decide (z∈zs))) w:=by
 obtain ⟨D,ho,hm,hd⟩:=h
 obtain ⟨v,ps,hr,hv⟩:=ho.lookup (int_keyed Try.underlying3) Try.underlying79 (z:= .bool false) (by kernel_rfl) (plainElem_bool Try.underlying4 false) (key_ok z h0 h1)
 rw [hd z] at hv
 rw [hr,plainElem_boolInv Try.underlying4 hv]
theorem SeenAt.put {w:World} {b n:Nat} {zs:List Int} (h:SeenAt w b n zs) (hn:n < 1000) (z:Int) (h0: -9223372036854775808≤z) (h1:z≤9223372036854775807):
 ∃w',(Instr.mapUpdate 79 (.map (some b)) (.int .i64 z) (.bool true)).run Try.prog w= .ok () w'∧SeenAt w' b (n+1) (z::zs)∧w.grownBy w' (some b):=by
 obtain ⟨D,ho,hm,hd⟩:=h
 obtain ⟨w',hr,ho',hg⟩:=ho.update (int_keyed Try.underlying3) Try.underlying79 (by unfold maxLen;omega) (key_ok z h0 h1) (plainElem_bool Try.underlying4 true)
 refine ⟨w',hr,⟨_,ho',hm.put _ _,fun y=>?_⟩,hg⟩
 by_cases e:y=z
 ·subst e
  rw [Go.Maps.atKey_put_same hm (by trivial)]
  simp
 ·rw [Go.Maps.atKey_put_other (by intro g;injection g with _ g;exact e g),hd y]
  simp [e]
theorem SeenAt.below {w w':World} {b n B:Nat} {zs:List Int} (h:SeenAt w b n zs) (hb:Below B w w') (hlt:b < B):SeenAt w' b n zs:=by
 obtain ⟨D,ho,hm,hd⟩:=h
 obtain ⟨es,clock,h1,h2⟩:=ho
 exact ⟨D,⟨es,clock,(hb.block b hlt).trans h1,h2⟩,hm,hd⟩
theorem lt_heap_of {w:World} {b n:Nat} {zs:List Int} (h:SeenAt w b n zs):b < w.heap.size:=by
 obtain ⟨D,⟨es,clock,h1,_⟩,_⟩:=h
 exact lt_heap h1
theorem box_col (w:World) (x y z:Value):∃W,w.alloc (.cells #[x,y,z] 40)=W∧Bk W w.heap.size 40 [x,y,z]∧Below w.heap.size w W:=⟨_,rfl,Bk.new w _ [x,y,z],below_new w _⟩
theorem validateMaster_ok (v:Value) (m:Ms) (w:World) (h:MsM w v m) (ok:MsOK m):
 Calls Try.prog 12 #[v] w fun e w'=>e= .returned (.int .i64 0)∧Below w.heap.size w w':=by
 obtain ⟨A,n,c,A',n',c',A'',n'',c'',rfl,hR,hC,hT⟩:=h
 obtain ⟨r1,r2,r3⟩:=hR.ints.lenC
 obtain ⟨s1,s2,s3⟩:=RdM.len hC
 obtain ⟨t1,t2,t3⟩:=RdM.len hT
 have HR:=Lib.hid hR.ints
 have HC:=Lib.hid hC
 have HT:=Lib.hid hT
 have HRN:=Lib.hid r1
 have HCN:=Lib.hid s1
 have HTN:=Lib.hid t1
 have HOK:=Lib.hid ok
 have HRB:=Lib.hid ok.rb
 have HAS:=Lib.hid ok.asc
 obtain ⟨W,hW,hX,hbe⟩:=box_ms w (.int .i64 m.fl) (.slice A n c) (.int .i64 m.pen) (.slice A' n' c') (.slice A'' n'' c'')
 obtain ⟨x0,x1,x2,x3,x4⟩:=hX.five
 have f0:=ok.fl0
 have f1:=ok.fl1
 have p0:=ok.pen0
 have p1:=ok.pen1
 have n0:1≤n:=by have:=ok.row0;omega
 have n1:n≤6:=by have:=ok.row1;omega
 have n2:n'≤6:=by have:=ok.ncol;omega
 have n3:n''≤2:=by have:=ok.ncut;omega
 clear hR hC hT r1 s1 t1 ok
 generalize m.fl=F at *
 generalize m.pen=P at *
 go_enter Try.func12,Try.ntmps12
 go_wp2
 clear x0 x1 x2 x3 x4
 go_loopw [58] (fun x wr=>∃k:Nat,k≤n∧x= .int .i64 k∧Below w.heap.size w wr∧Bk wr w.heap.size 26 [.int .i64 F,.slice A n c,.int .i64 P,.slice A' n' c',.slice A'' n'' c'']) (fun x _=>n - (intOf x).toNat)
 case atStart=>exact ⟨0,by omega,rfl,hbe,hX⟩
 case round=>
  clear hbe hX hW
  obtain ⟨k,hk,rfl,hb,hB⟩:=hrel
  obtain ⟨x0,x1,x2,x3,x4⟩:=hB.five
  rcases Nat.lt_or_ge k n with hkl | hkl
  ·obtain ⟨b,off,y,hA,hcell,hy,y0,y1⟩:=HR.out.elem hb hkl
   subst hA
   obtain ⟨q0,q1⟩:=HRB.out y (List.mem_of_getElem? hy)
   have HY:=Lib.hid hy
   clear hy
   rcases Nat.eq_zero_or_pos k with hk0 | hk0
   ·subst hk0
    have hcell0:wr.cell? ⟨b,off,none⟩=some (.int .i64 y):=hcell
    go_wp2
    go_roundw
    case rel=>exact ⟨1,by omega,by go_num,hb,hB⟩
    case measure=>simp [intOf];omega
   ·obtain ⟨j,rfl⟩:∃j,k=j+1:=⟨k - 1,by omega⟩
    obtain ⟨b',off',y',hA',hcell',hy',_,_⟩:=HR.out.elem hb (show j < n by omega)
    injection hA' with hA'
    injection hA' with e1 e2 _
    subst e1 e2
    have hlt:y' < y:=asc_get HAS.out (Nat.lt_succ_self j) hy' HY.out
    have hle:¬y≤y':=by omega
    have j0:(0:Int) < (j:Int)+1:=by omega
    have j1:(j:Int) < n:=by omega
    clear hy'
    go_wp2
    go_roundw
    case rel=>exact ⟨j+1+1,by omega,by go_num,hb,hB⟩
    case measure=>simp [intOf];omega
  ·obtain rfl:n=k:=by omega
   go_wp2
   clear x0 x1 x2 x3 x4
   generalize wr=wo at *
   go_loopw [89] (fun x wr=>∃k:Nat,k≤n'∧x= .int .i64 k∧Below w.heap.size w wr∧Bk wr w.heap.size 26 [.int .i64 F,.slice A n c,.int .i64 P,.slice A' n' c',.slice A'' n'' c'']) (fun x _=>n' - (intOf x).toNat)
   case atStart=>exact ⟨0,by omega,rfl,hb,hB⟩
   case round=>
    clear hb hB
    obtain ⟨k,hk,rfl,hb,hB⟩:=hrel
    obtain ⟨x0,x1,x2,x3,x4⟩:=hB.five
    rcases Nat.lt_or_ge k n' with hkl | hkl
    ·obtain ⟨cl,hcl⟩:∃cl,m.cols[k]? =some cl:=⟨m.cols[k]'(by rw [← HCN.out];exact hkl),List.getElem?_eq_getElem _⟩
     obtain ⟨b,off,sb,A1,n1',c1,hA,hlt,e0,e1,e2,hD⟩:=HC.out.elem hb hcl
     subst hA
     have hmem:=List.mem_of_getElem? hcl
     obtain ⟨g0,g1⟩:=HOK.out.cost cl hmem
     have HOL:=Lib.hid (HOK.out.opl hmem)
     have HNE:=Lib.hid (HOK.out.ne cl hmem)
     have HND:=Lib.hid (HOK.out.nd cl hmem)
     have HSU:=Lib.hid (HOK.out.sub cl hmem)
     have HD:=Lib.hid hD
     generalize hco:cl.cost=co at *
     clear hco hD hcl hmem
     go_wp2_with fail
     clear e0 e1 e2 x0 x1 x2 x3 x4
     have hbk:=below_new wr (.cells #[.string sb,.slice A1 n1' c1,.int .i64 co] 40)
     have hb2:=below_then hb hbk hb.size
     have hB2:=hB.later hbk
     have HD2:=Lib.hid (HD.out.below hbk)
     clear hb hbk hB HD
     generalize wr.alloc (.cells #[.string sb,.slice A1 n1' c1,.int .i64 co] 40)=W2 at *
     generalize wr.heap.size=gk at *
     refine (operated_own sb A1 n1' c1 cl.dut _ HD2.out (by have:=HOL.out;unfold Cl.ops at this;omega)).mono ?_
     rintro _ w3 ⟨v3,rfl,e3,hb3⟩
     have hb4:=below_then hb2 hb3 hb2.size
     have hB4:=hB2.later hb3
     have HE:=Lib.hid e3.ints
     obtain ⟨A3,n3',c3,rfl⟩:=e3.sliceN
     obtain ⟨l1,l2,l3⟩:=HE.out.lenC
     have HL3:=Lib.hid l1
     have hn3:1≤n3':=by
      have:=HNE.out
      have h0:=List.length_pos_iff.2 this
      unfold Cl.ops at h0
      omega
     have hn3':n3'≤6:=by have:=HOL.out;unfold Cl.ops at this;omega
     clear hb2 hb3 hB2 e3 l1
     obtain ⟨x0,x1,x2,x3,x4⟩:=hB4.five
     have hmm:=@run_makeMap Try.prog
     have hsn:=SeenAt.made w3
     have hbm:=below_new w3 (.map #[] 0)
     have x0':=cell_keep hbm x0
     have x1':=cell_keep hbm x1
     go_wp2
     clear x0' x1' hmm
     have hb5:=below_then hb4 hbm hb4.size
     have hB5:=hB4.later hbm
     have hgw:w.heap.size < w3.heap.size:=hB4.lt
     have hbg0:=hbm
     clear hbm hb4 x0 x1 x2 x3 x4
     generalize w3.alloc (.map #[] 0)=W4 at *
     go_loopw [110] (fun x wr=>∃k:Nat,k≤n3'∧x= .int .i64 k∧Below w.heap.size w wr∧Below w3.heap.size w3 wr∧SeenAt wr w3.heap.size k (cl.ops.take k).reverse) (fun x _=>n3' - (intOf x).toNat)
     case atStart=>exact ⟨0,by omega,rfl,hb5,hbg0,by simpa using hsn⟩
     case round=>
      clear hsn hb5 hbg0 hB5
      obtain ⟨q,hq,rfl,hb,hbg,hse⟩:=hrel
      have hB:=hB4.below hbg hgw
      obtain ⟨x0,x1,x2,x3,x4⟩:=hB.five
      rcases Nat.lt_or_ge q n3' with hql | hql
      ·obtain ⟨b3,o3,y,hA3,hcell,hy,y0,y1⟩:=HE.out.elem hbg hql
       subst hA3
       have HY:Hid (cl.ops[q]? =some y):=Lib.hid hy
       have HMY:Hid (decide (y∈m.rows)=true):=Lib.hid (by rw [decide_eq_true_iff];exact HSU.out y (List.mem_of_getElem? hy))
       clear hy
       go_wp2_with fail
       clear hcell x0 x1 x2 x3 x4
       refine (bsearch_any _ m.rows y _ (HR.out.below hb) HAS.out (by have:=HRN.out;omega)).mono ?_
       rw [HMY.out]
       rintro _ w5 ⟨rfl,hb5⟩
       generalize posR m.rows y=pos
       have hse5:=hse.below hb5 (lt_heap_of hse)
       have hb6:=below_then hb hb5 hb.size
       have hbg6:=below_then hbg hb5 hbg.size
       clear hb hb5 hbg hse hB
       have hlk:=hse5.look y y0 y1
       have hni:decide (y∈(cl.ops.take q).reverse)=false:=by
        rw [decide_eq_false_iff_not,List.mem_reverse]
        intro hin
        obtain ⟨t,ht1,ht2⟩:=List.getElem_of_mem hin
        rw [List.length_take] at ht1
        rw [List.getElem_take] at ht2
        obtain ⟨hq',hqe⟩:=List.getElem?_eq_some_iff.1 HY.out
        have hnd:=HND.out
        have:=(List.nodup_iff_pairwise_ne.1 hnd)
        have:=List.pairwise_iff_getElem.1 this t q (by omega) hq' (by omega)
        exact this (by rw [ht2];exact hqe.symm)
       rw [hni] at hlk
       obtain ⟨w7,hup,hse7,hg7⟩:=hse5.put (by omega) y y0 y1
       have hb7:=hb6.grown hg7 hb6.size (fun x hx=>by injection hx with hx;omega)
       have hbg7:=hbg6.grown hg7 (by have:=hbg6.size;omega) (fun x hx=>by injection hx with hx;omega)
       have HSE:Hid (SeenAt w7 w3.heap.size (q+1) (cl.ops.take (q+1)).reverse):=Lib.hid (by rw [List.take_add_one,HY.out];simpa using hse7)
       clear hse5 hse7 hg7 hni hb6 hbg6
       go_wp2
       go_roundw
       case rel=>exact ⟨q+1,by omega,by go_num,hb7,hbg7,HSE.out⟩
       case measure=>simp [intOf];omega
      ·obtain rfl:n3'=q:=by omega
       clear hse
       go_wp2
       go_roundw
       case rel=>exact ⟨k+1,by omega,by go_num,hb,hB⟩
       case measure=>simp [intOf];omega
    ·obtain rfl:n'=k:=by omega
     go_wp2
     clear x0 x1 x2 x3 x4
     generalize wr=wo at *
     go_loopw [135] (fun x wr=>∃k:Nat,k≤n''∧x= .int .i64 k∧Below w.heap.size w wr∧Bk wr w.heap.size 26 [.int .i64 F,.slice A n c,.int .i64 P,.slice A' n' c',.slice A'' n'' c'']) (fun x _=>n'' - (intOf x).toNat)
     case atStart=>exact ⟨0,by omega,rfl,hb,hB⟩
     case round=>
      clear hb hB
      obtain ⟨k,hk,rfl,hb,hB⟩:=hrel
      obtain ⟨x0,x1,x2,x3,x4⟩:=hB.five
      rcases Nat.lt_or_ge k n'' with hkl | hkl
      ·obtain ⟨ct,hct⟩:∃ct,m.cuts[k]? =some ct:=⟨m.cuts[k]'(by rw [← HTN.out];exact hkl),List.getElem?_eq_getElem _⟩
       obtain ⟨b,off,A1,n1',c1,hA,hlt,e0,e1,hD⟩:=HT.out.elem hb hct
       subst hA
       have HCO:Hid (CutOK m.rows ct):=Lib.hid (HOK.out.cut ct (List.mem_of_getElem? hct))
       have HD:=Lib.hid hD.ints
       clear hD hct
       obtain ⟨W2,hW2,hK2,hbk⟩:=box_cut wr (.slice A1 n1' c1) (.int .i64 ct.dv)
       have hb2:=below_then hb hbk hb.size
       have hB2:=hB.later hbk
       have HD2:=Lib.hid (HD.out.below hbk)
       obtain ⟨x0',x1',x2',x3',x4'⟩:=hB2.five
       obtain ⟨k0,k1,_,_⟩:=hK2.two
       go_wp2_with fail
       clear e0 e1 x0 x1 x2 x3 x4 x0' x1' x2' x3' x4' k0 k1 hb hbk hB HD hW2 hK2
       refine (validCut_any _ m.rows A1 n1' c1 ct _ (HR.out.below hb2) HD2.out HCO.out HAS.out (by have:=HRN.out;omega) (by
        have h1:=nodup_sub_len (HCO.out.1.imp fun {a b} hab=>by omega) HCO.out.2.1
        have:=HRN.out
        omega)).mono ?_
       rintro _ w3 ⟨rfl,hb3⟩
       have hb4:=below_then hb2 hb3 hb2.size
       have hB4:=hB2.later hb3
       clear hb2 hb3 hB2
       go_wp2
       go_roundw
       case rel=>exact ⟨k+1,by omega,by go_num,hb4,hB4⟩
       case measure=>simp [intOf];omega
      ·obtain rfl:n''=k:=by omega
       go_wp2
       go_ret
       exact ⟨rfl,hb⟩
end
theorem u32_or {a b:Nat} (ha:a < 4294967296) (hb:b < 4294967296):bits .or .u32 (a:Int) (b:Int)=((a ||| b:Nat):Int):=by
 have key:(BitVec.ofInt 32 (a:Int) ||| BitVec.ofInt 32 (b:Int)).toNat=a ||| b:=by
  rw [BitVec.toNat_or,BitVec.toNat_ofInt,BitVec.toNat_ofInt]
  have e1:((a:Int) % ((2^32:Nat):Int)).toNat=a:=by omega
  have e2:((b:Int) % ((2^32:Nat):Int)).toNat=b:=by omega
  rw [e1,e2]
 show IntKind.u32.wrap ((BitVec.ofInt 32 (a:Int) ||| BitVec.ofInt 32 (b:Int)).toNat:Nat)=_
 rw [key]
 have hlt:a ||| b < 2^32:=Nat.or_lt_two_pow ha hb
 rw [IntKind.wrap_u32]
 omega
theorem u32_and {a b:Nat} (ha:a < 4294967296) (hb:b < 4294967296):bits .and .u32 (a:Int) (b:Int)=((a &&& b:Nat):Int):=by
 have key:(BitVec.ofInt 32 (a:Int) &&& BitVec.ofInt 32 (b:Int)).toNat=a &&& b:=by
  rw [BitVec.toNat_and,BitVec.toNat_ofInt,BitVec.toNat_ofInt]
  have e1:((a:Int) % ((2^32:Nat):Int)).toNat=a:=by omega
  have e2:((b:Int) % ((2^32:Nat):Int)).toNat=b:=by omega
  rw [e1,e2]
 show IntKind.u32.wrap ((BitVec.ofInt 32 (a:Int) &&& BitVec.ofInt 32 (b:Int)).toNat:Nat)=_
 rw [key]
 have hlt:a &&& b < 2^32:=Nat.and_lt_two_pow a hb
 rw [IntKind.wrap_u32]
 omega
namespace Pl
def iL (l:List Nat):List Int:=l.map fun (r:Nat)=>(r:Int)
def zeroDc:Dc:=⟨0,0,[],0⟩
end Pl
def DcR (w:World) (x:Dc) (u:List Value):Prop:=∃A n c,u=[.int .i64 (x.idx:Int),.int .u32 (x.mask:Int),.slice A n c,.int .i64 x.sur]∧IntsT w (.slice A n c) (iL x.rows)
def DcsM:World→Value→List Dc→Prop:=RdM DcR 59 4
def DcsO:Nat→World→Value→List Dc→Prop:=RdO DcR 59 4
theorem DcR.below {w w':World} {x:Dc} {u:List Value} (h:DcR w x u) (hb:Below w.heap.size w w'):DcR w' x u:=by
 obtain ⟨A,n,c,h1,h2⟩:=h;exact ⟨A,n,c,h1,h2.below hb⟩
theorem DcR.but {w w':World} {e:TypeId} {x:Dc} {u:List Value} (h:DcR w x u) (hk:KeepBut e w w') (h1:3≠e):DcR w' x u:=by
 obtain ⟨A,n,c,g1,g2⟩:=h;exact ⟨A,n,c,g1,g2.but hk h1⟩
theorem DcsM.below {w w':World} {v:Value} {l:List Dc} (h:DcsM w v l) (hb:Below w.heap.size w w'):DcsM w' v l:=RdM.below h hb fun _ _ h=>h.below hb
theorem DcsO.below {base:Nat} {w w':World} {v:Value} {l:List Dc} (h:DcsO base w v l) (hb:Below w.heap.size w w'):DcsO base w' v l:=RdO.below h hb fun _ _ h=>h.below hb
theorem DcsM.elem {w wr:World} {A:Option Addr} {n c:Nat} {l:List Dc} (h:DcsM w (.slice A n c) l) (hb:Below w.heap.size w wr) {k:Nat} {x:Dc} (hx:l[k]? =some x):
 ∃b off A1 n1 c1,A=some ⟨b,off,none⟩∧b < w.heap.size∧(wr.cell? ⟨b,off+k * 4,none⟩=some (.int .i64 (x.idx:Int))∧wr.cell? ⟨b,off+k * 4+1,none⟩=some (.int .u32 (x.mask:Int))∧wr.cell? ⟨b,off+k * 4+2,none⟩=some (.slice A1 n1 c1)∧wr.cell? ⟨b,off+k * 4+3,none⟩=some (.int .i64 x.sur))∧IntsT wr (.slice A1 n1 c1) (iL x.rows):=by
 obtain ⟨b,off,u,hA,hlt,⟨A1,n1,c1,rfl,hD⟩,hl,hc⟩:=RdM.elem h hx
 exact ⟨b,off,A1,n1,c1,hA,hlt,⟨cell_keep hb (hc 0 _ rfl),cell_keep hb (hc 1 _ rfl),cell_keep hb (hc 2 _ rfl),cell_keep hb (hc 3 _ rfl)⟩,hD.below hb⟩
theorem info_dcol:(Try.prog.info? 59).map (fun i=>(i.zero,i.size,i.bytes))=some (some (.agg #[.int .i64 0,.int .u32 0,.slice none 0 0,.int .i64 0]),4,48):=by kernel_rfl
def zdc (n:Nat):Array Value:=madeCells (Value.cells (.agg #[.int .i64 0,.int .u32 0,.slice none 0 0,.int .i64 0])) (n * 4)
theorem zdc_at {n k j:Nat} (hk:k < n) (hj:j < 4):(zdc n)[k * 4+j]? =([.int .i64 0,.int .u32 0,.slice none 0 0,.int .i64 0]:List Value)[j]? :=by
 have hlt:k * 4+j < n * 4:=by omega
 have hm:(k * 4+j) % 4=j:=by omega
 unfold zdc madeCells
 simp [hlt,Value.cells,hm]
 match j,hj with
 | 0,_=>rfl
 | 1,_=>rfl
 | 2,_=>rfl
 | 3,_=>rfl
theorem DcsO.zeros (w:World) (n:Nat) (hn:n≤maxLen):DcsO w.heap.size (w.alloc (.cells (zdc n) 59)) (.slice (some ⟨w.heap.size,0,none⟩) n n) (List.replicate n zeroDc):=by
 have hsz:(zdc n).size=n * 4:=size_madeCells _ _
 refine ⟨(zdc n).toList,⟨by simp [hsz],.inr ⟨w.heap.size,n,zdc n,by simp,Nat.le_refl _,heap_alloc_new w _,by simp,hn,hsz,?_⟩⟩,fun k f hf=>?_⟩
 ·rw [List.take_of_length_le (by simp [hsz])]
 ·rw [List.getElem?_replicate] at hf
  split at hf
  ·rename_i hk
   injection hf with hf
   subst hf
   refine ⟨[.int .i64 0,.int .u32 0,.slice none 0 0,.int .i64 0],⟨none,0,0,rfl,IntsT.nil _ _ _ (Nat.zero_le _)⟩,rfl,fun j y hj=>?_⟩
   have hj4:j < 4:=by have:=(List.getElem?_eq_some_iff.1 hj).1;simpa using this
   have:=zdc_at hk hj4
   rw [Array.getElem?_toList,this];exact hj
  ·cases hf
theorem make_dcs (n:Nat) (hn:n≤1099511627776) (w:World):
 (Instr.makeSlice 48 (.int .i64 (n:Int)) (.int .i64 (n:Int))).run Try.prog w= .ok (.slice (some ⟨w.heap.size,0,none⟩) n n) (w.alloc (.cells (zdc n) 59)):=by
 obtain ⟨i0,hi,hz0,hz1,hz2⟩:=info_parts info_dcol
 have hb:(i0.bytes:Int) * (n:Int)≤281474976710656:=by rw [hz2];omega
 have hr:=run_make (P:=Try.prog) w 48 59 i0 _ Try.underlying48 hi hz0 .i64 .i64 n n (by omega) (by omega) hb (by omega)
 simp only [Int.toNat_natCast,hz1] at hr
 exact hr
theorem DcsO.set_ {base:Nat} {w:World} {g n c:Nat} {l:List Dc} (h:DcsO base w (.slice (some ⟨g,0,none⟩) n c) l) {k:Nat} (hk:k < l.length) {A:Option Addr} {n1 c1:Nat} {x:Dc} (hx:IntsT w (.slice A n1 c1) (iL x.rows)):
 DcsO base ((((w.setCell ⟨g,k * 4,none⟩ (.int .i64 (x.idx:Int))).setCell ⟨g,k * 4+1,none⟩ (.int .u32 (x.mask:Int))).setCell ⟨g,k * 4+2,none⟩ (.slice A n1 c1)).setCell ⟨g,k * 4+3,none⟩ (.int .i64 x.sur)) (.slice (some ⟨g,0,none⟩) n c) (l.set k x)∧
 KeepBut 59 w ((((w.setCell ⟨g,k * 4,none⟩ (.int .i64 (x.idx:Int))).setCell ⟨g,k * 4+1,none⟩ (.int .u32 (x.mask:Int))).setCell ⟨g,k * 4+2,none⟩ (.slice A n1 c1)).setCell ⟨g,k * 4+3,none⟩ (.int .i64 x.sur)):=by
 obtain ⟨cs,h1,h2⟩:=h
 have hn:n=l.length:=(RowM.of_own h1).len
 subst hn
 have hl:=h1.1
 have o1:=row_set h1 (k * 4) (.int .i64 (x.idx:Int)) (by omega)
 have o2:=row_set o1 (k * 4+1) (.int .u32 (x.mask:Int)) (by simp;omega)
 have o3:=row_set o2 (k * 4+2) (.slice A n1 c1) (by simp;omega)
 have o4:=row_set o3 (k * 4+3) (.int .i64 x.sur) (by simp;omega)
 obtain ⟨_,b0,_⟩:=row_block h1
 obtain ⟨_,b1,_⟩:=row_block o1
 obtain ⟨_,b2,_⟩:=row_block o2
 obtain ⟨_,b3,_⟩:=row_block o3
 have kp:=(((KeepBut.setCell b0 (k * 4) (.int .i64 (x.idx:Int))).trans (KeepBut.setCell b1 (k * 4+1) (.int .u32 (x.mask:Int)))).trans (KeepBut.setCell b2 (k * 4+2) (.slice A n1 c1))).trans (KeepBut.setCell b3 (k * 4+3) (.int .i64 x.sur))
 refine ⟨⟨_,by rw [List.length_set];exact o4,fun j y hy=>?_⟩,kp⟩
 by_cases hjk:k=j
 ·subst hjk
  rw [List.getElem?_set_self hk] at hy
  injection hy with hy
  subst hy
  refine ⟨_,⟨A,n1,c1,rfl,hx.but kp (by decide)⟩,rfl,fun i z hi=>?_⟩
  have hi4:i < 4:=by have:=(List.getElem?_eq_some_iff.1 hi).1;simpa using this
  match i,hi4,hi with
  | 0,_,hi=>rw [show k * 4+0=k * 4 from rfl,List.getElem?_set_ne (by omega),List.getElem?_set_ne (by omega),List.getElem?_set_ne (by omega),List.getElem?_set_self (by omega)];exact hi
  | 1,_,hi=>rw [List.getElem?_set_ne (by omega),List.getElem?_set_ne (by omega),List.getElem?_set_self (by simp;omega)];exact hi
  | 2,_,hi=>rw [List.getElem?_set_ne (by omega),List.getElem?_set_self (by simp;omega)];exact hi
  | 3,_,hi=>rw [List.getElem?_set_self (by simp;omega)];exact hi
 ·rw [List.getElem?_set_ne hjk] at hy
  obtain ⟨u,a1,a2,a3⟩:=h2 j y hy
  refine ⟨u,a1.but kp (by decide),a2,fun i z hi=>?_⟩
  have hi4:i < 4:=by have:=(List.getElem?_eq_some_iff.1 hi).1;omega
  rw [List.getElem?_set_ne (by omega),List.getElem?_set_ne (by omega),List.getElem?_set_ne (by omega),List.getElem?_set_ne (by omega)]
  exact a3 i z hi
structure BlX (B g:Nat) (w w':World):Prop where
 os:w'.os=w.os
 tape:w'.tape=w.tape
 output:w'.output=w.output
 size:w.heap.size≤w'.heap.size
 block:∀k,k < B→k≠g→w'.heap[k]? =w.heap[k]?
theorem BlX.refl (B g:Nat) (w:World):BlX B g w w:=⟨rfl,rfl,rfl,Nat.le_refl _,fun _ _ _=>rfl⟩
theorem BlX.of_below {B g:Nat} {w w':World} (h:Below B w w'):BlX B g w w':=⟨h.os,h.tape,h.output,h.size,fun k hk _=>h.block k hk⟩
theorem BlX.trans {B g:Nat} {a b c:World} (h:BlX B g a b) (k:BlX B g b c):BlX B g a c:=⟨k.os.trans h.os,k.tape.trans h.tape,k.output.trans h.output,Nat.le_trans h.size k.size,fun i hi hn=>(k.block i hi hn).trans (h.block i hi hn)⟩
theorem BlX.mono {B B' g:Nat} {w w':World} (h:BlX B g w w') (hB:B'≤B):BlX B' g w w':=⟨h.os,h.tape,h.output,h.size,fun k hk hn=>h.block k (Nat.lt_of_lt_of_le hk hB) hn⟩
theorem BlX.below {B B' g:Nat} {w w':World} (h:BlX B g w w') (hB:B'≤B) (hg:B'≤g):Below B' w w':=⟨h.os,h.tape,h.output,h.size,fun k hk=>h.block k (Nat.lt_of_lt_of_le hk hB) (by omega)⟩
theorem BlX.then {B g:Nat} {a b c:World} (h:BlX B g a b) (k:Below b.heap.size b c) (hB:B≤b.heap.size):BlX B g a c:=h.trans (BlX.of_below (k.mono hB))
theorem BlX.setCell {B g:Nat} {w w':World} (h:BlX B g w w') (i:Nat) (u:Value):BlX B g w (w'.setCell ⟨g,i,none⟩ u):=by
 have hb:Below g w' (w'.setCell ⟨g,i,none⟩ u):=(Below.refl _ _).setCell (p:=⟨g,i,none⟩) (Nat.le_refl _) u
 exact ⟨hb.os.trans h.os,hb.tape.trans h.tape,hb.output.trans h.output,Nat.le_trans h.size hb.size,fun k hk hn=>(heap_setCell_other w' _ _ _ hn).trans (h.block k hk hn)⟩
theorem BlX.bk {B g b:Nat} {w w':World} {t:TypeId} {cs:List Value} (h:BlX B g w w') (hb:Bk w b t cs) (hB:b < B) (hn:b≠g):Bk w' b t cs:=(h.block b hB hn).trans hb
theorem RowM.blx {w w':World} {t:TypeId} {s n g:Nat} {v:Value} {xs:List Value} (h:RowM w t s v n xs) (hx:BlX w.heap.size g w w') (hg:∀cs fz,w.heap[g]? ≠some (.cells cs t fz)):RowM w' t s v n xs:=by
 obtain ⟨A,c,h1,h2,h3,h4,h5⟩:=h
 refine ⟨A,c,h1,h2,h3,h4,fun hp=>?_⟩
 obtain ⟨b,off,cs,fz,hA,hc,hcell⟩:=h5 hp
 exact ⟨b,off,cs,fz,hA,(hx.block b (lt_heap hc) (fun e=>hg cs fz (e▸hc))).trans hc,hcell⟩
theorem Bk.not_type {w:World} {g:Nat} {t t':TypeId} {cs:List Value} (h:Bk w g t cs) (hne:t≠t'):∀cs' fz,w.heap[g]? ≠some (.cells cs' t' fz):=fun cs' fz e=>by
 unfold Bk at h
 rw [h] at e
 injection e with e
 injection e with _ e2 _
 exact hne e2
theorem IntsT.blx {w w':World} {g:Nat} {t:TypeId} {v:Value} {zs cs:List _} (h:IntsT w v zs) (hx:BlX w.heap.size g w w') (hg:Bk w g t cs) (ht:t≠3):IntsT w' v zs:=⟨h.1.blx hx (hg.not_type ht),h.2⟩
theorem Bk.fourV {w:World} {g:Nat} {t:TypeId} {a b c d:Value} (h:Bk w g t [a,b,c,d]):(w.cell? ⟨g,0,none⟩=some a∧w.cell? ⟨g,1,none⟩=some b∧w.cell? ⟨g,2,none⟩=some c∧w.cell? ⟨g,3,none⟩=some d)∧(w.frozen? ⟨g,0,none⟩=false∧w.frozen? ⟨g,1,none⟩=false∧w.frozen? ⟨g,2,none⟩=false∧w.frozen? ⟨g,3,none⟩=false):=
 ⟨⟨h.cellAt 0 rfl,h.cellAt 1 rfl,h.cellAt 2 rfl,h.cellAt 3 rfl⟩,h.frozen 0,h.frozen 1,h.frozen 2,h.frozen 3⟩
theorem DcsO.at4 {base:Nat} {w:World} {g n c:Nat} {l:List Dc} (h:DcsO base w (.slice (some ⟨g,0,none⟩) n c) l) {k:Nat} {x:Dc} (hx:l[k]? =some x):
 ∃A1 n1 c1,(w.cell? ⟨g,k * 4,none⟩=some (.int .i64 (x.idx:Int))∧w.cell? ⟨g,k * 4+1,none⟩=some (.int .u32 (x.mask:Int))∧w.cell? ⟨g,k * 4+2,none⟩=some (.slice A1 n1 c1)∧w.cell? ⟨g,k * 4+3,none⟩=some (.int .i64 x.sur))∧(w.frozen? ⟨g,k * 4,none⟩=false∧w.frozen? ⟨g,k * 4+1,none⟩=false∧w.frozen? ⟨g,k * 4+2,none⟩=false∧w.frozen? ⟨g,k * 4+3,none⟩=false)∧IntsT w (.slice A1 n1 c1) (iL x.rows)∧base≤g∧g < w.heap.size:=by
 obtain ⟨cs,h1,h2⟩:=h
 have hn:n=l.length:=(RowM.of_own h1).len
 subst hn
 obtain ⟨u,⟨A1,n1,c1,rfl,hI⟩,_,hc⟩:=h2 k x hx
 obtain ⟨_,hb,hbg⟩:=row_block h1
 have q0:=row_cell h1 (hc 0 _ rfl)
 have q1:=row_cell h1 (hc 1 _ rfl)
 have q2:=row_cell h1 (hc 2 _ rfl)
 have q3:=row_cell h1 (hc 3 _ rfl)
 exact ⟨A1,n1,c1,⟨q0.1,q1.1,q2.1,q3.1⟩,⟨q0.2,q1.2,q2.2,q3.2⟩,hI,hbg,lt_heap hb⟩
namespace Pl
def preD (m:Ms) (k:Nat):List Dc:=(dcs m).take k++List.replicate (m.cols.length - k) zeroDc
theorem preD_zero (m:Ms):preD m 0=List.replicate m.cols.length zeroDc:=by simp [preD]
theorem preD_all {m:Ms} {n:Nat} (h:n=m.cols.length):preD m n=dcs m:=by
 subst h
 simp [preD,← dcs_len]
theorem preD_len {m:Ms} {k:Nat} (h:k≤m.cols.length):(preD m k).length=m.cols.length:=by
 simp [preD,dcs_len];omega
theorem preD_set {m:Ms} {k:Nat} {c:Cl} (h:m.cols[k]? =some c):(preD m k).set k (dcol m k c)=preD m (k+1):=by
 have hk:=(List.getElem?_eq_some_iff.1 h).1
 have hl:((dcs m).take k).length=k:=by rw [List.length_take,dcs_len];omega
 unfold preD
 rw [List.set_append_right _ _ (by omega),hl,Nat.sub_self,List.take_add_one,dcs_at h,show m.cols.length - k=(m.cols.length - (k+1))+1 by omega,List.replicate_succ]
 simp
end Pl
theorem or_pow {M p:Nat} (hM:M < 64) (hp:p < 6):bits .or .u32 (M:Int) (2^p % 4294967296)=((M ||| 2^p:Nat):Int)∧M ||| 2^p < 64:=by
 have h1:2^p < 2^6:=Nat.pow_lt_pow_right (by decide) hp
 have h2:((2:Int)^p % 4294967296)=((2^p:Nat):Int):=by
  rw [pow_cast]
  generalize 2^p=q at *
  omega
 rw [h2]
 exact ⟨u32_or (by omega) (by omega),Nat.or_lt_two_pow (n:=6) hM h1⟩
theorem columns_own (v:Value) (m:Ms) (w:World) (h:MsM w v m) (ok:MsOK m):
 Calls Try.prog 13 #[v] w fun e w'=>∃v',e= .returned v'∧DcsO w.heap.size w' v' (dcs m)∧Below w.heap.size w w':=by
 obtain ⟨A,n,c,A',n',c',A'',n'',c'',rfl,hR,hC,hT⟩:=h
 obtain ⟨r1,r2,r3⟩:=hR.ints.lenC
 obtain ⟨s1,s2,s3⟩:=RdM.len hC
 have HR:=Lib.hid hR.ints
 have HC:=Lib.hid hC
 have HRN:=Lib.hid r1
 have HCN:=Lib.hid s1
 have HOK:=Lib.hid ok
 have HAS:=Lib.hid ok.asc
 obtain ⟨W,hW,hX,hbe⟩:=box_ms w (.int .i64 m.fl) (.slice A n c) (.int .i64 m.pen) (.slice A' n' c') (.slice A'' n'' c'')
 obtain ⟨x0,x1,x2,x3,x4⟩:=hX.five
 have p0:=ok.pen0
 have p1:=ok.pen1
 have n2:n'≤6:=by have:=ok.ncol;omega
 have hmk:=make_dcs n' (by omega) W
 have hz0:=DcsO.zeros W n' (by unfold maxLen;omega)
 have hbm:=below_new W (.cells (zdc n') 59)
 have hXm:=hX.later hbm
 obtain ⟨y0,y1,y2,y3,y4⟩:=hXm.five
 clear hR hC hT r1 s1 ok
 generalize m.fl=F at *
 generalize hP:m.pen=P at *
 have HP:=Lib.hid hP
 clear hP
 go_enter Try.func13,Try.ntmps13
 go_wp2
 clear hW hmk
 have hbe1:=below_then hbe hbm hbe.size
 have hz1:=RdO.mono hz0 hbe.size
 have hgl:W.heap.size < (W.alloc (.cells (zdc n') 59)).heap.size:=by simp
 have hgw:=hX.lt
 clear x0 x1 x2 x3 x4 y0 y1 y2 y3 y4 hbe hX hz0 hbm
 generalize W.alloc (.cells (zdc n') 59)=W1 at *
 generalize W.heap.size=g at *
 go_loopw [18] (fun x wr=>∃k:Nat,k≤n'∧x= .int .i64 k∧Below w.heap.size w wr∧Bk wr w.heap.size 26 [.int .i64 F,.slice A n c,.int .i64 P,.slice A' n' c',.slice A'' n'' c'']∧Hid (DcsO w.heap.size wr (.slice (some ⟨g,0,none⟩) n' n') (preD m k))) (fun x _=>n' - (intOf x).toNat)
 case atStart=>exact ⟨0,by omega,rfl,hbe1,hXm,Lib.hid (by rw [preD_zero,← HCN.out];exact hz1)⟩
 case round=>
  clear hbe1 hXm hz1
  obtain ⟨k,hk,rfl,hb,hB,HO⟩:=hrel
  obtain ⟨x0,x1,x2,x3,x4⟩:=hB.five
  rcases Nat.lt_or_ge k n' with hkl | hkl
  ·obtain ⟨cl,hcl⟩:∃cl,m.cols[k]? =some cl:=⟨m.cols[k]'(by rw [← HCN.out];exact hkl),List.getElem?_eq_getElem _⟩
   obtain ⟨b,off,sb,A1,n1',c1,hA,hlt,e0,e1,e2,hD⟩:=HC.out.elem hb hcl
   subst hA
   have HCL:=Lib.hid hcl
   have hmem:=List.mem_of_getElem? hcl
   obtain ⟨g0,g1⟩:=HOK.out.cost cl hmem
   have HOL:=Lib.hid (HOK.out.opl hmem)
   have HSU:=Lib.hid (HOK.out.sub cl hmem)
   have HD:=Lib.hid hD
   have hkz:(k:Int) < n':=by omega
   generalize hco:cl.cost=co at *
   have HCO:=Lib.hid hco
   clear hco hD hcl hmem
   go_wp2_with fail
   have hbk1:=below_new wr (.cells #[.string sb,.slice A1 n1' c1,.int .i64 co] 40)
   have hsz5:(wr.alloc (.cells #[.string sb,.slice A1 n1' c1,.int .i64 co] 40)).heap.size=wr.heap.size+1:=by simp
   clear e0 e1 e2 x0 x1 x2 x3 x4
   generalize wr.alloc (.cells #[.string sb,.slice A1 n1' c1,.int .i64 co] 40)=W5 at *
   have hk6:=Bk.new W5 59 [.int .i64 k,.int .u32 0,.slice none 0 0,.int .i64 co]
   have hbk2:=below_new W5 (.cells #[.int .i64 k,.int .u32 0,.slice none 0 0,.int .i64 co] 59)
   have hbk:=below_then hbk1 hbk2 hbk1.size
   have hb6:=below_then hb hbk hb.size
   have HD6:=Lib.hid (HD.out.below hbk)
   rw [hsz5] at hk6
   clear hbk1 hbk2 hsz5 HD
   have e:(#[.int .i64 k,.int .u32 0,.slice none 0 0,.int .i64 co]:Array Value)=[.int .i64 k,.int .u32 0,.slice none 0 0,.int .i64 co].toArray:=rfl
   rw [← e] at hk6
   clear e
   generalize W5.alloc (.cells #[.int .i64 k,.int .u32 0,.slice none 0 0,.int .i64 co] 59)=W6 at *
   refine (operated_own sb A1 n1' c1 cl.dut _ HD6.out (by have:=HOL.out;unfold Cl.ops at this;omega)).mono ?_
   rintro _ w7 ⟨v3,rfl,e3,hb7⟩
   have hk7:=hk6.later hb7
   have hbo:=below_then hbk hb7 hbk.size
   have hb8:=below_then hb6 hb7 hb6.size
   have HE:Hid (IntsT w7 v3 cl.ops):=Lib.hid e3.typed
   obtain ⟨A3,q,c3,rfl⟩:=e3.sliceN
   obtain ⟨l1,l2,l3⟩:=HE.out.ints.lenC
   have HL3:=Lib.hid l1
   have hq6:q≤6:=by have:=HOL.out;omega
   have HK7:=Lib.hid hk7
   have hB7:=Lib.hid (hB.later hbo)
   have hgo:w.heap.size < wr.heap.size:=hB.lt
   have hgs:wr.heap.size+1 < w7.heap.size:=hk7.lt
   clear hbk hb6 hb7 hk6 e3 l1 hb hB HD6
   go_wp2
   generalize wr=wo at *
   go_loopw [31] (fun x wr=>∃(j M:Nat) (z:Int) (sv:Value),j≤q∧M < 64∧co - 30 * j≤z∧z≤co∧x= .int .i64 j∧BlX w7.heap.size (wo.heap.size+1) w7 wr∧Bk wr (wo.heap.size+1) 59 [.int .i64 k,.int .u32 (M:Int),sv,.int .i64 z]∧IntsO w7.heap.size wr sv (iL ((cl.ops.take j).map (posR m.rows)))∧Hid (M=maskL ((cl.ops.take j).map (posR m.rows))∧z=co - P * j)) (fun x _=>q - (intOf x).toNat)
   case atStart=>exact ⟨0,0,co,.slice none 0 0,by omega,by omega,by omega,by omega,rfl,BlX.refl _ _ _,hk7,by simpa [iL] using IntsO.nil _ _,Lib.hid ⟨rfl,by simp⟩⟩
   case round=>
    clear hk7
    obtain ⟨j,M,z,sv,hj,hM,hz1,hz2,rfl,hx,hk,hI,HV⟩:=hrel
    have hB:=hx.bk hB7.out (by omega) (by omega)
    have hb:=hb8.trans (hx.below (B':=w.heap.size) (by omega) (by omega))
    obtain ⟨x0,x1,x2,x3,x4⟩:=hB.five
    obtain ⟨⟨k0,k1,k2,k3⟩,f0,f1,f2,f3⟩:=hk.fourV
    have hEr:=(HE.out.blx hx HK7.out (by decide)).ints
    rcases Nat.lt_or_ge j q with hjl | hjl
    ·obtain ⟨b3,o3,y,hA3,hcell,hy,y0,y1⟩:=hEr.elem (Below.refl _ _) hjl
     subst hA3
     have HY:=Lib.hid hy
     have hin:=HSU.out y (List.mem_of_getElem? hy)
     have hpos:=posR_lt HAS.out hin
     clear hy hEr
     go_wp2_with fail
     clear hcell x0 x1 x2 x3 x4 k0 k1 k2 k3 f0 f1 f2 f3
     refine (bsearch_any _ m.rows y _ (HR.out.below hb) HAS.out (by have:=HOK.out.row1;omega)).mono ?_
     rintro _ w8 ⟨rfl,hb9⟩
     have hx8:=hx.then hb9 hx.size
     have hk8:=hk.later hb9
     have hI8:=hI.below hb9
     have HPO:Hid ((cl.ops.take (j+1)).map (posR m.rows)=(cl.ops.take j).map (posR m.rows)++[posR m.rows y]):=Lib.hid (by rw [List.take_add_one,HY.out];simp)
     generalize hp:posR m.rows y=p at *
     have hp6:p < 6:=by have:=HRN.out;have:=HOK.out.row1;omega
     clear hx hk hI hb hb9 hB hp hin hpos
     generalize decide (y∈m.rows)=fnd
     obtain ⟨⟨k0,k1,k2,k3⟩,f0,f1,f2,f3⟩:=hk8.fourV
     obtain ⟨hor,hM2⟩:=or_pow hM hp6
     have HM2:Hid (M ||| 2^p=maskL ((cl.ops.take (j+1)).map (posR m.rows))):=Lib.hid (by rw [HPO.out,maskL_snoc,HV.out.1])
     generalize M ||| 2^p=M' at *
     have C0:=stab k1
     have hS0:=below_drew' w8
     go_upto_region 10 with (fail)
     clear k0 k1 k2 k3 f0 f1 f2 f3
     refine region_seq 6 [0,1,2,3,4,5,6] (by kernel_rfl) (by kernel_rfl) ?_
     repeat ((first | (refine seq_takeP (v:=?_) rfl rfl rfl ?_ ?_;rotate_left;(· (intro _ hSw;go_simp;(try go_bits);(try with_reducible rfl)))) | (refine seq_take (v:=?_) rfl rfl rfl ?_ ?_;rotate_left;(· (intro _ hSw;go_simp;(try go_bits);(try with_reducible rfl)))) | refine seq_skip rfl rfl rfl ?_);(try simp only [Act.put,pu1,pu2,pu3,pu4,pu5,pu6]))
     have F0:=hk8.frozen 1
     have F1:=hk8.cellAt 1 rfl
     refine seq_step rfl rfl (fun KR hKR=>?_)
     go_simp
     refine hKR.out _ _ (Or.inl (by decide)) ?_
     clear hKR KR
     (try simp only [Act.put,pu1,pu2,pu3,pu4,pu5,pu6])
     refine seq_done ?_
     have hx9:=(hx8.setCell 1 (.int .u32 (M':Int))).then (below_drew' _) (hx8.setCell 1 (.int .u32 (M':Int))).size
     have hk9:=(hk8.set_ 1 (.int .u32 (M':Int))).later (below_drew' _)
     have hI9:=(hI8.but (KeepBut.setCell hk8 1 (.int .u32 (M':Int))) (by decide)).below (below_drew' _)
     clear hx8 hk8 hI8 C0 hS0 F0 F1
     simp only [List.set_cons_succ,List.set_cons_zero] at hk9
     generalize (w8.setCell ⟨wo.heap.size+1,1,none⟩ (.int .u32 (M':Int))).drew=W9 at *
     obtain ⟨⟨k0,k1,k2,k3⟩,f0,f1,f2,f3⟩:=hk9.fourV
     have HI9:=Lib.hid hI9
     have hlen:(iL ((cl.ops.take j).map (posR m.rows))).length+1≤1099511627776:=by simp only [iL,List.length_map];have:=List.length_take_le j cl.ops;omega
     have hbs9:=hx9.size
     have hq0: -9223372036854775808≤(p:Int):=by omega
     have hq1:(p:Int)≤9223372036854775807:=by omega
     have HIL:Hid (iL ((cl.ops.take (j+1)).map (posR m.rows))=iL ((cl.ops.take j).map (posR m.rows))++[(p:Int)]):=Lib.hid (by rw [HPO.out];simp [iL])
     clear hI9
     go_wp2_with (at_builtin;refine wpList_append_int rfl (.tmp 49) (.tmp 51) rfl W9 w7.heap.size sv (iL ((cl.ops.take j).map (posR m.rows))) rfl HI9.out (p:Int) rfl hq0 hq1 hlen hbs9 ?_)
     intro v' w4 hown4 hk4 hb4 _ _
     obtain ⟨A4,n4,c4,rfl⟩:=hown4.sliceN
     have hx10:=hx9.trans (BlX.of_below hb4)
     have hk10:=hk4.bk hk9 (by decide)
     clear k0 k1 k2 k3 f0 f1 f2 f3 hx9 hk9 hk4 hb4 hbs9
     obtain ⟨⟨k0,k1,k2,k3⟩,f0,f1,f2,f3⟩:=hk10.fourV
     have hB10:=hx10.bk hB7.out (by omega) (by omega)
     obtain ⟨x0,x1,x2,x3,x4⟩:=hB10.five
     have hx11:=(hx10.setCell 2 (.slice A4 n4 c4)).setCell 3 (.int .i64 (z - P))
     have hk11:=(hk10.set_ 2 (.slice A4 n4 c4)).set_ 3 (.int .i64 (z - P))
     have hI11:=(hown4.but (KeepBut.setCell hk10 2 (.slice A4 n4 c4)) (by decide)).but (KeepBut.setCell (hk10.set_ 2 (.slice A4 n4 c4)) 3 (.int .i64 (z - P))) (by decide)
     simp only [List.set_cons_succ,List.set_cons_zero] at hk11
     have HV2:Hid (z - P=co - P * ((j+1:Nat):Int)):=Lib.hid (by rw [HV.out.2];push_cast;rw [Int.mul_add];omega)
     have HI11:=Lib.hid hI11
     clear hk10 hx10 hown4 hI11
     go_wp2
     clear k0 k1 k2 k3 f0 f1 f2 f3 x0 x1 x2 x3 x4
     go_roundw
     case rel=>exact ⟨j+1,M',z - P,_,by omega,hM2,by omega,by omega,by go_num,hx11,hk11,by have:=HI11.out;rw [← List.map_take] at this;rw [HIL.out];exact this,Lib.hid ⟨HM2.out,HV2.out⟩⟩
     case measure=>simp [intOf];omega
    ·obtain rfl:q=j:=by omega
     have HX:Hid (M=(dcol m k cl).mask∧z=(dcol m k cl).sur∧(cl.ops.take q).map (posR m.rows)=(dcol m k cl).rows):=Lib.hid (by
      have h1:=HV.out.1
      have h2:=HV.out.2
      rw [take_all HL3.out] at h1 ⊢
      refine ⟨h1,?_,rfl⟩
      show z=cl.cost - m.pen * cl.ops.length
      rw [h2,HCO.out,HP.out,HL3.out])
     have hOr:=HO.out.below (hbo.trans (hx.below (B':=wo.heap.size) (by omega) (by omega)))
     have hlk:k < (preD m k).length:=by rw [preD_len (by rw [← HCN.out];omega),← HCN.out];omega
     obtain ⟨A5,n5,c5,⟨q0,q1,q2,q3⟩,⟨r0,r1,r2',r3'⟩,_,hbg,hgl2⟩:=hOr.at4 (List.getElem?_eq_getElem hlk)
     obtain ⟨A6,n6,c6,rfl⟩:=hI.sliceN
     have hIt:IntsT wr (.slice A6 n6 c6) (iL (dcol m k cl).rows):=by rw [← HX.out.2.2];exact hI.typed
     have hset:=hOr.set_ hlk (x:=dcol m k cl) hIt
     rw [preD_set HCL.out] at hset
     have hB12:=hset.2.bk hB (by decide)
     have hb12:=(((hb.setCell (p:=⟨g,k * 4,none⟩) hbg (.int .i64 ((dcol m k cl).idx:Int))).setCell (p:=⟨g,k * 4+1,none⟩) hbg (.int .u32 ((dcol m k cl).mask:Int))).setCell (p:=⟨g,k * 4+2,none⟩) hbg (.slice A6 n6 c6)).setCell (p:=⟨g,k * 4+3,none⟩) hbg (.int .i64 (dcol m k cl).sur)
     rw [← HX.out.1,← HX.out.2.1] at hset hB12 hb12
     have HS12:=Lib.hid hset.1
     have HB12:=Lib.hid hB12
     have HBB:=Lib.hid hb12
     clear hset hB12 hb12 hOr hIt hI hEr
     go_wp2
     go_roundw
     case rel=>exact ⟨k+1,by omega,by go_num,HBB.out,HB12.out,HS12⟩
     case measure=>simp [intOf];omega
  ·obtain rfl:n'=k:=by omega
   go_wp2
   go_ret
   exact ⟨_,rfl,by have:=HO.out;rw [preD_all HCN.out] at this;exact this,hb⟩
namespace Pl
def Ms.base (m:Ms):Int:=m.pen * m.rows.length
def costV (m:Ms) (s:List Int):Int:=if selErr (dcs m) s=0 then m.base+sumI (dcs m) s else 0
theorem selErr_5 {L:List Dc} {s:List Int} (h:¬InR L.length s):selErr L s=5:=by unfold selErr;rw [if_neg h]
theorem selErr_8 {L:List Dc} {s:List Int} (h:InR L.length s) (h2:¬s.Pairwise (· < ·)):selErr L s=8:=by unfold selErr ascB;rw [if_pos h,if_neg (by simpa using h2)]
theorem selErr_7 {L:List Dc} {s:List Int} (h:InR L.length s) (h2:s.Pairwise (· < ·)) (h3:¬Dj L s):selErr L s=7:=by unfold selErr ascB;rw [if_pos h,if_pos (by simpa using h2),if_neg h3]
theorem InR.succ {n k:Nat} {s:List Int} {x:Int} (h:InR n (s.take k)) (hx:s[k]? =some x) (h0:0≤x) (h1:x < n):InR n (s.take (k+1)):=fun i hi=>by
 rcases (mem_take_succ hx).1 hi with e | e
 ·exact h i e
 ·subst e;exact ⟨h0,h1⟩
theorem asc_len {n:Nat} {s:List Int} (h:InR n s) (ha:s.Pairwise (· < ·)):s.length≤n:=by
 have h1:(s.map Int.toNat).Pairwise (· < ·):=List.pairwise_map.2 (ha.imp_of_mem fun {a b} hma hmb hab=>by
  have:=h a hma;have:=h b hmb;omega)
 have:=nodup_sub_len (b:=List.range n) (h1.imp fun {a b} hab=>by omega) (fun x hx=>by
  obtain ⟨i,hi,rfl⟩:=List.mem_map.1 hx
  have:=h i hi
  rw [List.mem_range];omega)
 simpa using this
theorem Dj_take {L:List Dc} {s:List Int} {k:Nat} {x:Int} (hx:s[k]? =some x):Dj L (s.take (k+1))↔Dj L (s.take k)∧mkI L x &&& orI L (s.take k)=0:=by
 rw [List.take_add_one,hx]
 exact Dj_snoc
theorem orI_take {L:List Dc} {s:List Int} {k:Nat} {x:Int} (hx:s[k]? =some x):orI L (s.take (k+1))=orI L (s.take k) ||| mkI L x:=by
 rw [List.take_add_one,hx]
 exact orI_snoc _ _
theorem sumI_take {L:List Dc} {s:List Int} {k:Nat} {x:Int} (hx:s[k]? =some x):sumI L (s.take (k+1))=sumI L (s.take k)+suI L x:=by
 rw [List.take_add_one,hx,sumI_append]
 simp [sumI]
theorem Dj.take {L:List Dc} {s:List Int} (h:Dj L s) (k:Nat):Dj L (s.take k):=List.Pairwise.sublist (List.take_sublist _ _) h
end Pl
def SelPost (m:Ms) (s:List Int) (w:World) (e:Ending) (w':World):Prop:=
 ∃(z:Int) (M:Nat),e= .returned (.tuple #[.int .i64 z,.int .u32 (M:Int),.int .i64 (selErr (dcs m) s)])∧z=costV m s∧Below w.heap.size w w'
theorem selection_any (v1 v2 v3:Value) (m:Ms) (s:List Int) (w:World) (h:MsM w v1 m) (ok:MsOK m) (h2:DcsM w v2 (dcs m)) (h3:IntsM w v3 s):
 Calls Try.prog 14 #[v1,v2,v3] w (SelPost m s w):=by
 obtain ⟨A,n,c,A',n',c',A'',n'',c'',rfl,hR,hC,hT⟩:=h
 obtain ⟨r1,r2,r3⟩:=hR.ints.lenC
 obtain ⟨Al,cl,rfl,hl2,hl3⟩:=RdM.shape h2
 obtain ⟨As,cs,rfl,hs2,hs3⟩:=h3.shape
 have HL:=Lib.hid h2
 have HS:=Lib.hid h3
 have HRN:=Lib.hid r1
 have HOK:=Lib.hid ok
 obtain ⟨L,hL⟩:∃L,L=(dcs m).length:=⟨_,rfl⟩
 obtain ⟨q,hq⟩:∃q,q=s.length:=⟨_,rfl⟩
 rw [← hL] at HL hl2 ⊢
 rw [← hq] at HS hs2 ⊢
 have HLN:=Lib.hid hL
 have HQN:=Lib.hid hq
 have hL6:L≤6:=by have:=ok.ncol;rw [dcs_len] at hL;omega
 have hn6:n≤6:=by have:=ok.row1;omega
 obtain ⟨W,hW,hX,hbe⟩:=box_ms w (.int .i64 m.fl) (.slice A n c) (.int .i64 m.pen) (.slice A' n' c') (.slice A'' n'' c'')
 have p0:=ok.pen0
 have p1:=ok.pen1
 clear hR hC hT r1 ok h2 h3 hL hq
 generalize m.fl=F at *
 generalize hP:m.pen=P at *
 have HP:=Lib.hid hP
 clear hP
 go_enter Try.func14,Try.ntmps14
 go_wp2
 clear hW
 go_loopw [6,7,16] (fun s6 s7 x wr=>∃k:Nat,k≤q∧s6= .int .i64 0∧s7= .int .u32 0∧x= .int .i64 k∧Below w.heap.size w wr∧Bk wr w.heap.size 26 [.int .i64 F,.slice A n c,.int .i64 P,.slice A' n' c',.slice A'' n'' c'']∧Hid (InR L (s.take k))) (fun _ _ x _=>q - (intOf x).toNat)
 case atStart=>exact ⟨0,by omega,rfl,rfl,rfl,hbe,hX,Lib.hid (fun i hi=>by simp at hi)⟩
 case round=>
  clear hbe hX
  obtain ⟨k,hk,rfl,rfl,rfl,hb,hB,HI⟩:=hrel
  rcases Nat.lt_or_ge k q with hkl | hkl
  ·obtain ⟨b3,o3,y,hA3,hcell,hy,y0,y1⟩:=HS.out.elem hb hkl
   subst hA3
   have HY:=Lib.hid hy
   clear hy
   by_cases hin:0≤y∧y < L
   ·obtain ⟨g0,g1⟩:=hin
    have HI2:=Lib.hid (HI.out.succ HY.out g0 g1)
    go_wp2
    go_roundw
    case rel=>exact ⟨k+1,by omega,rfl,rfl,by go_num,hb,hB,HI2⟩
    case measure=>simp [intOf];omega
   ·have HV:Hid (selErr (dcs m) s=5):=Lib.hid (selErr_5 fun hh=>hin (by have:=hh y (List.mem_of_getElem? HY.out);rw [← HLN.out] at this;exact this))
    have hor:y < 0∨(L:Int)≤y:=by omega
    clear hin
    rcases Int.lt_or_le y 0 with hlt | hge
    ·go_wp2
     go_ret3
     exact ⟨0,0,by rw [HV.out];rfl,by unfold costV;rw [HV.out];rfl,hb⟩
    ·have hge2:(L:Int)≤y:=by omega
     go_wp2
     go_ret3
     exact ⟨0,0,by rw [HV.out];rfl,by unfold costV;rw [HV.out];rfl,hb⟩
  ·obtain rfl:q=k:=by omega
   have HIN:Hid (InR (dcs m).length s):=Lib.hid (by have:=HI.out;rw [take_all HQN.out,HLN.out] at this;exact this)
   clear HI
   go_wp2
   generalize wr=wo at *
   go_loopw [6,7,11] (fun s6 s7 x wr=>∃k:Nat,1≤k∧k≤q+1∧s6= .int .i64 0∧s7= .int .u32 0∧x= .int .i64 k∧Below w.heap.size w wr∧Bk wr w.heap.size 26 [.int .i64 F,.slice A n c,.int .i64 P,.slice A' n' c',.slice A'' n'' c'']∧Hid ((s.take k).Pairwise (· < ·))) (fun _ _ x _=>q+1 - (intOf x).toNat)
   case atStart=>exact ⟨1,by omega,by omega,rfl,rfl,rfl,hb,hB,Lib.hid (asc_le_one (Nat.le_refl _))⟩
   case round=>
    clear hb hB
    obtain ⟨k,hk0,hk,rfl,rfl,rfl,hb,hB,HT⟩:=hrel
    rcases Nat.lt_or_ge k q with hkl | hkl
    ·obtain ⟨j,rfl⟩:∃j,k=j+1:=⟨k - 1,by omega⟩
     obtain ⟨b,off,y,hA,hcell,hy,_,_⟩:=HS.out.elem hb hkl
     obtain ⟨b',off',y',hA',hcell',hy',_,_⟩:=HS.out.elem hb (show j < q by omega)
     subst hA
     injection hA' with hA'
     injection hA' with e1 e2 _
     subst e1 e2
     have HY:=Lib.hid hy
     have HY':=Lib.hid hy'
     have hkI:(j:Int)+1 < q:=by omega
     have hkJ:(j:Int) < q:=by omega
     have hkP:(0:Int)≤(j:Int)+1:=by omega
     clear hy hy'
     rcases Int.lt_or_le y' y with hlt | hlt
     ·have HT':Hid ((s.take (j+1+1)).Pairwise (· < ·)):=Lib.hid ((asc_take_succ HY'.out HY.out HT.out).2 hlt)
      go_upto_region 10 with (fail)
      have C0:=stab hcell
      have C1:=stab hcell'
      have hS0:=below_drew' wr
      clear hcell hcell'
      refine region_seq 10 [0,1,2,3,4,5,6,7,8,9] (by kernel_rfl) (by kernel_rfl) ?_
      repeat ((first | (refine seq_takeP (v:=?_) rfl rfl rfl ?_ ?_;rotate_left;(· (intro _ hSw;go_simp;(try go_bits);(try with_reducible rfl)))) | (refine seq_take (v:=?_) rfl rfl rfl ?_ ?_;rotate_left;(· (intro _ hSw;go_simp;(try go_bits);(try with_reducible rfl)))) | refine seq_skip rfl rfl rfl ?_);(try simp only [Act.put,pu1,pu2,pu3,pu4,pu5,pu6]))
      refine seq_done ?_
      have hb2:=below_then hb hS0 hb.size
      have hB2:=hB.later hS0
      clear C0 C1 hb hB hS0
      go_wp2
      go_roundw
      case rel=>exact ⟨j+1+1,by omega,by omega,rfl,rfl,by go_num,hb2,hB2,HT'⟩
      case measure=>simp [intOf];omega
     ·have HV:Hid (selErr (dcs m) s=8):=Lib.hid (selErr_8 HIN.out fun hp=>by have:=asc_get hp (Nat.lt_succ_self j) HY'.out HY.out;omega)
      go_upto_region 10 with (fail)
      have C0:=stab hcell
      have C1:=stab hcell'
      have hS0:=below_drew' wr
      clear hcell hcell'
      refine region_seq 10 [0,1,2,3,4,5,6,7,8,9] (by kernel_rfl) (by kernel_rfl) ?_
      repeat ((first | (refine seq_takeP (v:=?_) rfl rfl rfl ?_ ?_;rotate_left;(· (intro _ hSw;go_simp;(try go_bits);(try with_reducible rfl)))) | (refine seq_take (v:=?_) rfl rfl rfl ?_ ?_;rotate_left;(· (intro _ hSw;go_simp;(try go_bits);(try with_reducible rfl)))) | refine seq_skip rfl rfl rfl ?_);(try simp only [Act.put,pu1,pu2,pu3,pu4,pu5,pu6]))
      refine seq_done ?_
      have hb2:=below_then hb hS0 hb.size
      clear C0 C1 hb hS0
      go_wp2
      go_ret3
      exact ⟨0,0,by rw [HV.out];rfl,by unfold costV;rw [HV.out];rfl,hb2⟩
    ·have HAS:Hid (s.Pairwise (· < ·)):=Lib.hid (by have:=HT.out;rw [List.take_of_length_le (by rw [← HQN.out];omega)] at this;exact this)
     have hq6:q≤6:=by have:=asc_len HIN.out HAS.out;have:=HLN.out;have:=HQN.out;omega
     have hbase:P * n≤180∧0≤P * n:=by
      have a:=Int.mul_nonneg p0 (show (0:Int)≤n by omega)
      have b:=Int.mul_le_mul p1 (show (n:Int)≤6 by omega) (by omega) (by omega)
      omega
     have HBS:Hid (P * n=m.base):=Lib.hid (by unfold Ms.base;rw [HP.out,HRN.out])
     obtain ⟨hb1,hb0⟩:=hbase
     obtain ⟨x0,x1,x2,x3,x4⟩:=hB.five
     clear HT
     go_wp2
     clear x0 x1 x2 x3 x4
     generalize P * (n:Int)=B at *
     generalize wr=wo at *
     go_loopw [6,7,53] (fun s6 s7 x wr=>∃(k M:Nat) (z:Int),k≤q∧M < 64∧ -185 * (k:Int)≤z∧z≤180+40 * (k:Int)∧x= .int .i64 k∧s6= .int .i64 z∧s7= .int .u32 (M:Int)∧Below w.heap.size w wr∧Hid (Dj (dcs m) (s.take k)∧M=orI (dcs m) (s.take k)∧z=B+sumI (dcs m) (s.take k))) (fun _ _ x _=>q - (intOf x).toNat)
     case atStart=>exact ⟨0,0,B,by omega,by omega,by omega,by omega,rfl,rfl,rfl,hb,Lib.hid ⟨by simp [Dj],by simp [orI],by simp [sumI]⟩⟩
     case round=>
      clear hb hB
      obtain ⟨k,M,z,hk,hM,hz0,hz1,rfl,rfl,rfl,hb,HV⟩:=hrel
      rcases Nat.lt_or_ge k q with hkl | hkl
      ·obtain ⟨b3,o3,y,hA3,hcell,hy,_,_⟩:=HS.out.elem hb hkl
       subst hA3
       obtain ⟨i0,i1⟩:=HIN.out y (List.mem_of_getElem? hy)
       have HY:=Lib.hid hy
       rw [← HLN.out] at i1
       have hyl:y.toNat < L:=by omega
       obtain ⟨d,hd⟩:∃d,(dcs m)[y.toNat]? =some d:=⟨(dcs m)[y.toNat]'(by rw [← HLN.out];exact hyl),List.getElem?_eq_getElem _⟩
       obtain ⟨bd,od,A1,n1,c1,hAd,_,⟨d0,d1,d2,d3⟩,_⟩:=HL.out.elem hb hd
       subst hAd
       have hyc:((y.toNat:Nat):Int)=y:=by omega
       have HMK:Hid (mkI (dcs m) y=d.mask):=Lib.hid (by have:=mkI_of hd;rwa [hyc] at this)
       have HSU:Hid (suI (dcs m) y=d.sur):=Lib.hid (by have:=suI_of hd;rwa [hyc] at this)
       have hml:d.mask < 64∧ -185≤d.sur∧d.sur≤40:=by
        obtain ⟨cc,hcc,rfl⟩:=dcs_get hd
        exact ⟨mask_lt HOK.out (List.mem_of_getElem? hcc),sur_bd HOK.out (List.mem_of_getElem? hcc)⟩
       obtain ⟨hm6,hs0,hs1⟩:=hml
       have hand:=u32_and (a:=d.mask) (b:=M) (by omega) (by omega)
       have hor:=u32_or (a:=M) (b:=d.mask) (by omega) (by omega)
       have hor6:M ||| d.mask < 64:=Nat.or_lt_two_pow (n:=6) hM hm6
       generalize d.mask=mk at *
       generalize d.sur=su at *
       clear hy hd hyc
       by_cases h0:mk &&& M=0
       ·have HV':Hid (Dj (dcs m) (s.take (k+1))∧M ||| mk=orI (dcs m) (s.take (k+1))∧z+su=B+sumI (dcs m) (s.take (k+1))):=Lib.hid (by
         obtain ⟨v1,v2,v3⟩:=HV.out
         refine ⟨(Dj_take HY.out).2 ⟨v1,by rw [HMK.out,← v2];exact h0⟩,by rw [orI_take HY.out,HMK.out,← v2],?_⟩
         rw [sumI_take HY.out,HSU.out]
         omega)
        rw [h0] at hand
        clear h0
        generalize M ||| mk=M' at *
        go_wp2
        go_roundw
        case rel=>exact ⟨k+1,M',z+su,by omega,hor6,by omega,by omega,by go_num,rfl,rfl,hb,HV'⟩
        case measure=>simp [intOf];omega
       ·have HE:Hid (selErr (dcs m) s=7):=Lib.hid (selErr_7 HIN.out HAS.out fun hd=>by
         have:=(Dj_take HY.out).1 (hd.take (k+1))
         rw [HMK.out,← HV.out.2.1] at this
         exact h0 this.2)
        have hne:(((mk &&& M:Nat):Int) !=0)=true:=by simpa using h0
        clear h0
        generalize mk &&& M=an at *
        go_wp2
        go_ret3
        exact ⟨0,0,by rw [HE.out];rfl,by unfold costV;rw [HE.out];rfl,hb⟩
      ·obtain rfl:q=k:=by omega
       have HE:Hid (selErr (dcs m) s=0∧z=costV m s):=Lib.hid (by
        obtain ⟨v1,v2,v3⟩:=HV.out
        rw [take_all HQN.out] at v1 v3
        have he:=Sel.err (dcs m) ⟨HIN.out,HAS.out,v1⟩
        refine ⟨he,?_⟩
        unfold costV
        rw [if_pos he,v3,HBS.out])
       go_wp2
       go_ret3
       exact ⟨z,M,by rw [HE.out.1];rfl,HE.out.2,hb⟩
theorem cost_any (v1 v2:Value) (m:Ms) (s:List Int) (w:World) (h:MsM w v1 m) (ok:MsOK m) (h2:IntsM w v2 s):
 Calls Try.prog 22 #[v1,v2] w fun e w'=>e= .returned (.tuple #[.int .i64 (costV m s),.int .i64 (selErr (dcs m) s)])∧Below w.heap.size w w':=by
 obtain ⟨A,n,c,A',n',c',A'',n'',c'',rfl,hR,hC,hT⟩:=id h
 obtain ⟨W,hW,hX,hbe⟩:=box_ms w (.int .i64 m.fl) (.slice A n c) (.int .i64 m.pen) (.slice A' n' c') (.slice A'' n'' c'')
 obtain ⟨x0,x1,x2,x3,x4⟩:=hX.five
 have HM:=Lib.hid (h.below hbe)
 have HOK:=Lib.hid ok
 have HS:=Lib.hid (h2.below hbe)
 clear h hR hC hT ok h2
 generalize m.fl=F at *
 generalize m.pen=P at *
 go_enter Try.func22,Try.ntmps22
 go_wp2_with fail
 clear hW x0 x1 x2 x3 x4
 refine (validateMaster_ok _ m _ HM.out HOK.out).mono ?_
 rintro _ w1 ⟨rfl,hb1⟩
 have hX1:=hX.later hb1
 have hbe1:=below_then hbe hb1 hbe.size
 have HM1:=Lib.hid (HM.out.below hb1)
 have HS1:=Lib.hid (HS.out.below hb1)
 obtain ⟨x0,x1,x2,x3,x4⟩:=hX1.five
 clear hX hbe hb1 HM HS
 go_upto_region 4 with (fail)
 have C0:=stab x0
 have C1:=stab x1
 have C2:=stab x2
 have C3:=stab x3
 have C4:=stab x4
 have hS0:=below_drew' w1
 clear x0 x1 x2 x3 x4
 refine region_seq 9 [0,1,3,2,4,5,6,7,8,9,10,11] (by kernel_rfl) (by kernel_rfl) ?_
 repeat ((first | (refine seq_takeP (v:=?_) rfl rfl rfl ?_ ?_;rotate_left;(· (intro _ hSw;go_simp;(try go_bits);(try with_reducible rfl)))) | (refine seq_take (v:=?_) rfl rfl rfl ?_ ?_;rotate_left;(· (intro _ hSw;go_simp;(try go_bits);(try with_reducible rfl)))) | refine seq_skip rfl rfl rfl ?_);(try simp only [Act.put,pu1,pu2,pu3,pu4,pu5,pu6]))
 refine seq_step rfl rfl (fun KR hKR=>?_)
 go_simp
 with_reducible refine (columns_own _ m _ (HM1.out.below hS0) HOK.out).mono ?_
 rintro _ w2 ⟨v2',rfl,e2,hb2⟩
 have hS2:=below_then hS0 hb2 hS0.size
 have HD2:Hid (DcsM w2 v2' (dcs m)):=Lib.hid e2.rd
 clear e2
 refine hKR.out _ _ (Or.inr hS2) ?_
 clear hKR KR
 (try simp only [Act.put,pu1,pu2,pu3,pu4,pu5,pu6])
 repeat ((first | (refine seq_takeP (v:=?_) rfl rfl rfl ?_ ?_;rotate_left;(· (intro _ hSw;go_simp;(try go_bits);(try with_reducible rfl)))) | (refine seq_take (v:=?_) rfl rfl rfl ?_ ?_;rotate_left;(· (intro _ hSw;go_simp;(try go_bits);(try with_reducible rfl)))) | refine seq_skip rfl rfl rfl ?_);(try simp only [Act.put,pu1,pu2,pu3,pu4,pu5,pu6]))
 refine seq_step rfl rfl (fun KR hKR=>?_)
 go_simp
 with_reducible refine (selection_any _ _ _ m s _ (HM1.out.below hS2) HOK.out HD2.out (HS1.out.below hS2)).mono ?_
 rintro _ w3 ⟨z,M,rfl,hz,hb3⟩
 have hS3:=below_then hS2 hb3 hS2.size
 have HZ:=Lib.hid hz
 clear hz
 generalize her:selErr (dcs m) s=er
 have HER:=Lib.hid her
 clear her
 refine hKR.out _ _ (Or.inr hS3) ?_
 clear hKR KR
 (try simp only [Act.put,pu1,pu2,pu3,pu4,pu5,pu6])
 repeat ((first | (refine seq_takeP (v:=?_) rfl rfl rfl ?_ ?_;rotate_left;(· (intro _ hSw;go_simp;(try go_bits);(try with_reducible rfl)))) | (refine seq_take (v:=?_) rfl rfl rfl ?_ ?_;rotate_left;(· (intro _ hSw;go_simp;(try go_bits);(try with_reducible rfl)))) | refine seq_skip rfl rfl rfl ?_);(try simp only [Act.put,pu1,pu2,pu3,pu4,pu5,pu6]))
 refine seq_step rfl rfl (fun KR hKR=>?_)
 go_simp
 refine hKR.out _ _ (Or.inl (by decide)) ?_
 clear hKR KR
 (try simp only [Act.put,pu1,pu2,pu3,pu4,pu5,pu6])
 refine seq_step rfl rfl (fun KR hKR=>?_)
 go_simp
 refine hKR.out _ _ (Or.inl (by decide)) ?_
 clear hKR KR
 (try simp only [Act.put,pu1,pu2,pu3,pu4,pu5,pu6])
 refine seq_step rfl rfl (fun KR hKR=>?_)
 go_simp
 refine hKR.out _ _ (Or.inl (by decide)) ?_
 clear hKR KR
 (try simp only [Act.put,pu1,pu2,pu3,pu4,pu5,pu6])
 refine seq_done ?_
 have hbe3:=below_then hbe1 hS3 hbe1.size
 clear C0 C1 C2 C3 C4
 go_wp2
 go_ret2
 exact ⟨by rw [← HZ.out,HER.out];rfl,hbe3⟩
namespace Pl
theorem col_in {m:Ms} {s:List Int} (h:InR (dcs m).length s) {i:Int} (hi:i∈s):∃c,m.cols[i.toNat]? =some c:=by
 have:=h i hi
 rw [dcs_len] at this
 exact ⟨_,List.getElem?_eq_getElem (by omega)⟩
end Pl
theorem IntsO.ownB {base:Nat} {w:World} {v:Value} {zs:List Int} (h:IntsO base w v zs):∀g,v.ownBlock=some g→base≤g∧g < w.heap.size:=h.1.lt
namespace Pl
structure SelI (m:Ms) (i:Nat) (s cov:List Int):Prop where
 rg:∀k∈s,0≤k∧k < i
 asc:s.Pairwise (· < ·)
 dj:Dj (dcs m) s
 cv:∀k∈s,∀c,m.cols[k.toNat]? =some c→∀f∈c.ops,f∈cov
theorem SelI.nil (m:Ms):SelI m 0 [] []:=⟨by simp,by simp,by simp [Dj],by simp⟩
theorem SelI.skip {m:Ms} {i:Nat} {s cov:List Int} (h:SelI m i s cov):SelI m (i+1) s cov:=⟨fun k hk=>by have:=h.rg k hk;omega,h.asc,h.dj,h.cv⟩
theorem SelI.take {m:Ms} (ok:MsOK m) {i:Nat} {s cov:List Int} (h:SelI m i s cov) {c:Cl} (hc:m.cols[i]? =some c) (hn:∀f∈c.ops,f ∉ cov):SelI m (i+1) (s++[(i:Int)]) (cov++c.ops):=by
 refine ⟨fun k hk=>?_,?_,?_,fun k hk d hd f hf=>?_⟩
 ·rcases List.mem_append.1 hk with hk | hk
  ·have:=h.rg k hk;omega
  ·simp at hk;omega
 ·rw [List.pairwise_append]
  refine ⟨h.asc,by simp,fun a ha b hb=>?_⟩
  simp at hb;subst hb
  exact (h.rg a ha).2
 ·rw [Dj_snoc,and_orI]
  refine ⟨h.dj,fun k hk=>?_⟩
  obtain ⟨k0,k1⟩:=h.rg k hk
  obtain ⟨j,rfl⟩:=Int.eq_ofNat_of_zero_le k0
  have hil:=(List.getElem?_eq_some_iff.1 hc).1
  have hj:m.cols[j]? =some m.cols[j]:=List.getElem?_eq_getElem (by omega)
  rw [mkI_of (dcs_at hc),mkI_of (dcs_at hj),mask_disj ok (List.mem_of_getElem? hc) (List.mem_of_getElem? hj)]
  exact fun f hf hf'=>hn f hf (h.cv _ hk _ (by simpa using hj) f hf')
 ·rcases List.mem_append.1 hk with hk | hk
  ·exact List.mem_append_left _ (h.cv k hk d hd f hf)
  ·simp at hk;subst hk
   simp only [Int.toNat_natCast] at hd
   rw [hc] at hd;injection hd with hd;subst hd
   exact List.mem_append_right _ hf
theorem SelI.sel {m:Ms} {s cov:List Int} (h:SelI m m.cols.length s cov):Sel (dcs m) s:=⟨fun k hk=>by rw [dcs_len];exact h.rg k hk,h.asc,h.dj⟩
end Pl
def LselPost (m:Ms) (w:World) (e:Ending) (w':World):Prop:=∃v' s,e= .returned v'∧IntsO w.heap.size w' v' s∧Sel (dcs m) s∧Below w.heap.size w w'
theorem lawSel_own (v1:Value) (m:Ms) (N:Int) (w:World) (h:MsM w v1 m) (ok:MsOK m):
 Calls Try.prog 5 #[v1,.int .i64 N] w (LselPost m w):=by
 obtain ⟨A,n,c,A',n',c',A'',n'',c'',rfl,hR,hC,hT⟩:=id h
 obtain ⟨s1,s2,s3⟩:=RdM.len hC
 obtain ⟨W,hW,hX,hbe⟩:=box_ms w (.int .i64 m.fl) (.slice A n c) (.int .i64 m.pen) (.slice A' n' c') (.slice A'' n'' c'')
 have HC:=Lib.hid hC
 have HOK:=Lib.hid ok
 have HCN:=Lib.hid s1
 have hn6':n'≤6:=by have:=ok.ncol;omega
 clear h hR hC hT ok s1
 generalize m.fl=F at *
 generalize m.pen=P at *
 have hO0:=IntsO.nil w.heap.size W
 go_enter Try.func5,Try.ntmps5
 go_wp2
 clear hW
 go_loopw [5,6,7] (fun s5 s6 x wr=>∃(i:Nat) (s cov:List Int),i≤n'∧x= .int .i64 i∧Below w.heap.size w wr∧Bk wr w.heap.size 26 [.int .i64 F,.slice A n c,.int .i64 P,.slice A' n' c',.slice A'' n'' c'']∧s.length≤i∧cov.length≤6 * i∧Hid (IntsO w.heap.size wr s5 s∧IntsO w.heap.size wr s6 cov∧(∀b,s6.ownBlock=some b→some b≠s5.ownBlock)∧SelI m i s cov)) (fun _ _ x _=>n' - (intOf x).toNat)
 case atStart=>exact ⟨0,[],[],by omega,rfl,hbe,hX,by simp,by simp,Lib.hid ⟨hO0,hO0,by simp [Value.ownBlock],SelI.nil m⟩⟩
 case round=>
  clear hbe hX hO0
  obtain ⟨i,s,cov,hi,rfl,hb,hB,hsl,hcl',HV⟩:=hrel
  obtain ⟨x0,x1,x2,x3,x4⟩:=hB.five
  rcases Nat.lt_or_ge i n' with hil | hil
  ·obtain ⟨cl,hcl⟩:∃cl,m.cols[i]? =some cl:=⟨_,List.getElem?_eq_getElem (by have:=HCN.out;omega)⟩
   have hiz:(i:Int) < n':=by omega
   obtain ⟨bc,oc,sb,A1,n1',c1,hA,_,e0,e1,e2,hD⟩:=HC.out.elem hb hcl
   subst hA
   have HCL:=Lib.hid hcl
   have HOL:=Lib.hid (HOK.out.opl (List.mem_of_getElem? hcl))
   clear hcl
   go_wp2_with fail
   refine (operated27_own sb A1 n1' c1 cl.dut _ hD (by have:=HOL.out;unfold Cl.ops at this;omega)).mono ?_
   rintro _ w4 ⟨v4,rfl,e4,hb4⟩
   have HE:Hid (IntsO wr.heap.size w4 v4 cl.ops):=Lib.hid e4
   have hB4:=hB.later hb4
   have hb5:=below_then hb hb4 hb.size
   have hwr:=hb.size
   have HV4:Hid (IntsO w.heap.size w4 u5 s∧IntsO w.heap.size w4 u6 cov∧(∀b,u6.ownBlock=some b→some b≠u5.ownBlock)∧(∀b,v4.ownBlock=some b→some b≠u5.ownBlock∧some b≠u6.ownBlock)∧SelI m i s cov):=Lib.hid ⟨HV.out.1.below hb4,HV.out.2.1.below hb4,HV.out.2.2.1,fun b hvb=>by
    have h1:=(e4.ownB b hvb).1
    exact ⟨fun e=>by have h2:=(HV.out.1.ownB b e.symm).2;omega,fun e=>by have h2:=(HV.out.2.1.ownB b e.symm).2;omega⟩,HV.out.2.2.2⟩
   obtain ⟨A3,t,c3,rfl⟩:=e4.sliceN
   have HT:=Lib.hid e4.len
   have ht6:t≤6:=by have:=HOL.out;have:=HT.out;unfold Cl.ops at *;omega
   clear e4 hb4 hD e0 e1 e2 x0 x1 x2 x3 x4 hB HV hb
   go_wp2
   generalize w4=wo at *
   go_loopw [9,10] (fun s9 x wq=>∃(j:Nat) (bb:Bool),j≤t∧x= .int .i64 j∧s9= .bool bb∧Below wo.heap.size wo wq∧Hid (bb=true→∀f∈cl.ops.take j,f ∉ cov)) (fun _ x _=>t - (intOf x).toNat)
   case atStart=>exact ⟨0,_,by omega,rfl,rfl,Below.refl _ _,Lib.hid (fun _=>by simp)⟩
   case round=>
    obtain ⟨j,bb,hj,rfl,rfl,hbq,HJ⟩:=hrel
    rcases Nat.lt_or_ge j t with hjl | hjl
    ·have hjz:(j:Int) < t:=by omega
     obtain ⟨b4,o4,f,hA4,hcell,hf,fb0,fb1⟩:=HE.out.ints.elem hbq hjl
     subst hA4
     have HF:=Lib.hid hf
     clear hf
     cases bb
     ·go_wp2
      go_roundw
      case rel=>exact ⟨j+1,false,by omega,by go_num,rfl,hbq,Lib.hid (fun h=>by cases h)⟩
      case measure=>simp [intOf];omega
     ·go_wp2_with fail
      refine (has_any _ cov f _ (HV4.out.2.1.below hbq).ints).mono ?_
      rintro _ w6 ⟨rfl,hb6⟩
      have hbq6:=below_then hbq hb6 hbq.size
      clear hbq hb6 hcell
      generalize hd:decide (f∈cov)=d at *
      have HD:=Lib.hid hd
      clear hd
      go_wp2
      go_roundw
      case rel=>exact ⟨j+1,!d,by omega,by go_num,rfl,hbq6,Lib.hid (fun hd g hg=>by
       rcases (mem_take_succ HF.out).1 hg with e | e
       ·exact HJ.out trivial g e
       ·subst e
        have h1:=HD.out
        cases d
        ·exact of_decide_eq_false h1
        ·cases hd)⟩
      case measure=>simp [intOf];omega
    ·obtain rfl:t=j:=by omega
     have hB6:=hB4.later hbq
     have hb6:=below_then hb5 hbq hb5.size
     have HV6:Hid (IntsO w.heap.size wr u5 s∧IntsO w.heap.size wr u6 cov∧SelI m i s cov):=Lib.hid ⟨HV4.out.1.below hbq,HV4.out.2.1.below hbq,HV4.out.2.2.2.2⟩
     have HE6:Hid (IntsO 0 wr (.slice A3 t c3) cl.ops):=Lib.hid ((HE.out.below hbq).monoB (Nat.zero_le _))
     cases bb
     ·clear hb5 hB4 hbq
      go_wp2
      go_roundw
      case rel=>exact ⟨i+1,s,cov,by omega,by go_num,hb6,hB6,by omega,by omega,Lib.hid ⟨HV6.out.1,HV6.out.2.1,HV4.out.2.2.1,HV6.out.2.2.skip⟩⟩
      case measure=>simp [intOf];omega
     ·have hlen:s.length+1≤1099511627776:=by omega
      have hbs:=hb6.size
      have HJ2:Hid (∀f∈cl.ops,f ∉ cov):=Lib.hid (fun f hf=>HJ.out rfl f (by rw [show cl.ops.take t=cl.ops from take_all HT.out];exact hf))
      have HO6:=Lib.hid HV6.out.1
      clear hb5 hB4 hbq HJ
      go_wp2_with (at_builtin;refine wpList_append_int rfl (.tmp 48) (.tmp 50) rfl wr w.heap.size u5 s rfl HO6.out (i:Int) rfl (by omega) (by omega) hlen hbs ?_)
      intro v7 w7 hown7 hk7 hb7 hot7 hor7
      have HC7:=HV6.out.2.1.others hot7 HV4.out.2.2.1
      have HE7:=HE6.out.others hot7 fun b hb=>(HV4.out.2.2.2.1 b hb).1
      obtain ⟨v8,w8,hrun,hown8,hk8,hb8,hot8,hor8⟩:=run_append_intsL 22 w7 w.heap.size u6 _ cov cl.ops HC7 HE7.ints (by have:=HOL.out;omega) (Nat.le_trans hbs hb7.size)
      have hq6:∀b,u6.ownBlock=some b→b < wr.heap.size:=fun b hb=>(HV6.out.2.1.ownB b hb).2
      have hq5:∀b,u5.ownBlock=some b→b < wr.heap.size:=fun b hb=>(HV6.out.1.ownB b hb).2
      have hq7:∀b,v7.ownBlock=some b→b < w7.heap.size:=fun b hb=>(hown7.ownB b hb).2
      have hsz7:=hb7.size
      have h76:∀b,v7.ownBlock=some b→some b≠u6.ownBlock:=fun b hb e=>by
       rcases hor7 with h | h
       ·exact HV4.out.2.2.1 b e.symm (by rw [← hb,h])
       ·have h1:=h b hb
        have h2:=hq6 b e.symm
        omega
      have hS8:=hown7.others hot8 h76
      have hsep:∀b,v8.ownBlock=some b→some b≠v7.ownBlock:=fun b hb e=>by
       rcases hor8 with h | h
       ·exact h76 b e.symm (by rw [← hb,h])
       ·have h1:=h b hb
        have h2:=hq7 b e.symm
        omega
      have hB8:=hk8.bk (hk7.bk hB6 (by decide)) (by decide)
      have hb9:=(hb6.trans hb7).trans hb8
      have HN:Hid (IntsO w.heap.size w8 v7 (s++[(i:Int)])∧IntsO w.heap.size w8 v8 (cov++cl.ops)∧(∀b,v8.ownBlock=some b→some b≠v7.ownBlock)∧SelI m (i+1) (s++[(i:Int)]) (cov++cl.ops)):=Lib.hid ⟨hS8,hown8,hsep,HV6.out.2.2.take HOK.out HCL.out HJ2.out⟩
      clear hown7 hk7 hb7 hot7 hor7 HC7 HE7 hown8 hk8 hb8 hot8 hor8 hB6 hb6 hS8 hsep h76 hq6 hq5 hq7
      go_wp2_with (at_builtin;refine wpList_append_run hrun rfl rfl rfl rfl rfl ?_)
      go_wp2
      go_roundw
      case rel=>exact ⟨i+1,_,_,by omega,by go_num,hb9,hB8,by simp;omega,by have:=HOL.out;simp;omega,HN⟩
      case measure=>simp [intOf];omega
  ·obtain rfl:n'=i:=by omega
   have HF:Hid (Sel (dcs m) s):=Lib.hid (by have:=HV.out.2.2.2;rw [HCN.out] at this;exact this.sel)
   go_wp2
   go_ret
   exact ⟨_,s,rfl,HV.out.1,HF.out,hb⟩
def SortedD (base:Nat) (w:World) (v:Value) (l:List Dc) (w':World):Prop:=DcsO base w' v l∧KeepBut 59 w w'∧Others v.ownBlock w w'∧Below base w w'
theorem SortedD.after {base:Nat} {w w1 w2:World} {v:Value} {l:List Dc} (h:SortedD base w v l w1) (hS:Below w1.heap.size w1 w2) (hb:base≤w.heap.size):SortedD base w v l w2:=
 ⟨h.1.below hS,h.2.1.then (hS.mono h.2.2.1.1),⟨Nat.le_trans h.2.2.1.1 hS.size,fun b hb hne=>(hS.block b (Nat.lt_of_lt_of_le hb h.2.2.1.1)).trans (h.2.2.1.2 b hb hne)⟩,h.2.2.2.trans (hS.mono (Nat.le_trans hb h.2.2.1.1))⟩
def putD (w:World) (g k:Nat) (x:Dc) (A:Option Addr) (n c:Nat):World:=(((w.setCell ⟨g,k * 4,none⟩ (.int .i64 (x.idx:Int))).setCell ⟨g,k * 4+1,none⟩ (.int .u32 (x.mask:Int))).setCell ⟨g,k * 4+2,none⟩ (.slice A n c)).setCell ⟨g,k * 4+3,none⟩ (.int .i64 x.sur)
theorem SortedD.put {base:Nat} {w w1:World} {g n c:Nat} {l:List Dc} (h:SortedD base w (.slice (some ⟨g,0,none⟩) n c) l w1) (hb:base≤g) {j:Nat} {x:Dc} (hj:j < l.length) {A:Option Addr} {n1 c1:Nat} (hx:IntsT w1 (.slice A n1 c1) (iL x.rows)):
 SortedD base w (.slice (some ⟨g,0,none⟩) n c) (l.set j x) (putD w1 g j x A n1 c1)∧KeepBut 59 w1 (putD w1 g j x A n1 c1):=by
 obtain ⟨h1,h2,h3,h4⟩:=h
 obtain ⟨a1,a2⟩:=h1.set_ hj hx
 exact ⟨⟨a1,h2.trans a2,(((h3.trans Others.of_set).trans Others.of_set).trans Others.of_set).trans Others.of_set,(((h4.setCell (p:=⟨g,j * 4,none⟩) hb _).setCell (p:=⟨g,j * 4+1,none⟩) hb _).setCell (p:=⟨g,j * 4+2,none⟩) hb _).setCell (p:=⟨g,j * 4+3,none⟩) hb _⟩,a2⟩
def CmpD (G:Nat) (cb:Array Value) (lt:Dc→Dc→Bool) (l:List Dc) (w:World):Prop:=
 ∀W,KeepBut 59 w W→w.heap.size≤W.heap.size→∀x∈l,∀y∈l,∀A n c A' n' c',Calls Try.prog G (#[.agg #[.int .i64 (x.idx:Int),.int .u32 (x.mask:Int),.slice A n c,.int .i64 x.sur],.agg #[.int .i64 (y.idx:Int),.int .u32 (y.mask:Int),.slice A' n' c',.int .i64 y.sur]]++cb) W fun e W'=>∃z:Int,e= .returned (.int .i64 z)∧decide (z < 0)=lt x y∧Below W.heap.size W W'
theorem Pl.sortB_take {α:Type} (lt:α→α→Bool) (l:List α):∀(i:Nat) (x:α),l[i]? =some x→sortB lt (l.take (i+1))=insB lt x (sortB lt (l.take i)):=fun i x hx=>by
 rw [List.take_add_one,hx];exact sortB_snoc lt _ _
theorem DcsO.shape {base:Nat} {w:World} {v:Value} {l:List Dc} (h:DcsO base w v l) (hp:0 < l.length):∃g c,v= .slice (some ⟨g,0,none⟩) l.length c∧base≤g∧g < w.heap.size∧l.length≤c∧c≤9223372036854775807:=by
 obtain ⟨cs,h1,_⟩:=h
 rcases h1.2 with ⟨rfl,e⟩ | ⟨g,cap,cur,rfl,hb,hg,hnc,hcm,hcs,htake⟩
 ·omega
 ·exact ⟨g,cap,rfl,hb,lt_heap hg,hnc,Nat.le_trans hcm (by unfold maxLen;omega)⟩
theorem CmpD.at_ {G:Nat} {cb:Array Value} {lt:Dc→Dc→Bool} {l:List Dc} {w:World} (h:CmpD G cb lt l w) {base:Nat} {v:Value} {l':List Dc} {W:World} (hs:SortedD base w v l' W) {x y:Dc} (hx:x∈l) (hy:y∈l) (A:Option Addr) (n c:Nat) (A':Option Addr) (n' c':Nat):
 Calls Try.prog G (#[.agg #[.int .i64 (x.idx:Int),.int .u32 (x.mask:Int),.slice A n c,.int .i64 x.sur],.agg #[.int .i64 (y.idx:Int),.int .u32 (y.mask:Int),.slice A' n' c',.int .i64 y.sur]]++cb) W fun e W'=>∃z:Int,e= .returned (.int .i64 z)∧decide (z < 0)=lt x y∧Below W.heap.size W W':=
 h W hs.2.1 hs.2.2.1.1 x hx y hy A n c A' n' c'
theorem insertionD_own (base:Nat) (v:Value) (l:List Dc) (w:World) (h:DcsO base w v l) (hl:l.length≤12) (n:Int) (hn:n=l.length) (G:Nat) (cb:Array Value) (lt:Dc→Dc→Bool)
 (eg:∀args w,(callFunc G args).run Try.prog w= .ok (.enter G args) w) (hc:CmpD G cb lt l w)
 (ir:∀x,lt x x=false) (tr:∀x y z,lt x y=true→lt y z=true→lt x z=true) (tr':∀x y z,lt x y=false→lt y z=false→lt x z=false):
 Calls Try.prog 74 #[v,.int .i64 0,.int .i64 n,.func (.func G) #[] cb] w fun e w'=>e= .returned (.tuple #[])∧SortedD base w v (sortB lt l) w':=by
 obtain ⟨m,hm⟩:∃m,m=l.length:=⟨_,rfl⟩
 rw [← hm] at hl hn
 subst hn
 have HM:=Lib.hid hm
 have HSRT:=fun i=>Lib.hid (sortB_srt ir tr (l.take i))
 have HCM:=Lib.hid hc
 have HSN:=Lib.hid (sortB_take lt l)
 clear hc
 rcases Nat.lt_or_ge 1 m with hm1 | hm1
 ·obtain ⟨g,c,rfl,hbg,hgw,hc1,hc2⟩:=DcsO.shape h (by omega)
  rw [← hm] at h hc1 ⊢
  have HBG:=Lib.hid hbg
  have hbw:base≤w.heap.size:=by omega
  have HI:=Lib.hid h
  have HEG:=Lib.hid eg
  clear h hm hc1 hc2 hgw
  go_enter Try.func74,Try.ntmps74
  go_wp2
  go_loopw [8,9] (fun s6 s7 wr=>∃i:Nat,1≤i∧i≤m∧s6= .int .i64 i∧SortedD base w (.slice (some ⟨g,0,none⟩) m c) (sortB lt (l.take i)++l.drop i) wr) (fun s6 _ _=>m - (intOf s6).toNat)
  case atStart=>exact ⟨1,by omega,by omega,rfl,by
   have e:sortB lt (l.take 1)++l.drop 1=l:=by
    cases l with
    | nil=>rfl
    | cons x l=>simp [sortB,insB]
   rw [e];exact ⟨HI.out,KeepBut.refl _ _,⟨Nat.le_refl _,fun _ _ _=>rfl⟩,Below.refl _ _⟩⟩
  case round=>
   obtain ⟨i,hi1,hi,rfl,HS⟩:=hrel
   rcases Nat.lt_or_ge i m with hil | hil
   ·obtain ⟨x,hx⟩:∃x,l[i]? =some x:=⟨l[i]'(by rw [← HM.out];exact hil),List.getElem?_eq_getElem _⟩
    have HX:=Lib.hid hx
    clear hx
    have HSH:=Lib.hid HS
    clear HS
    go_wp2
    go_loopw [9] (fun s7 wx=>∃(j:Nat) (a b:List Dc),j≤i∧s7= .int .i64 j∧Hid (a.length=j∧sortB lt (l.take i)=a++b∧insB lt x (sortB lt (l.take i))=insB lt x a++b)∧Hid (SortedD base w (.slice (some ⟨g,0,none⟩) m c) (a++x::(b++l.drop (i+1))) wx)) (fun s7 _=>(intOf s7).toNat)
    case atStart=>exact ⟨i,sortB lt (l.take i),[],by omega,rfl,Lib.hid ⟨by rw [sortB_length,List.length_take,← HM.out];omega,by simp,by simp⟩,Lib.hid (by
     have:=HSH.out
     rw [drop_at HX.out] at this
     simpa using this)⟩
    case round=>
     obtain ⟨j,a,b,hj,rfl,HA,HW⟩:=hrel
     have HOUT:Hid ((j=0∨∃a' y,a=a'++[y]∧lt x y=false)→a++x::(b++l.drop (i+1))=sortB lt (l.take (i+1))++l.drop (i+1)):=Lib.hid (fun hs=>by
      obtain ⟨h1,h2,h3⟩:=HA.out
      rw [HSN.out i x HX.out,h3]
      rcases hs with hs | ⟨a',y,rfl,hyx⟩
      ·have:a=[]:=List.eq_nil_of_length_eq_zero (by omega)
       subst this
       simp [insB]
      ·have hsr:=(HSRT i).out
       rw [h2] at hsr
       rw [insB_stop tr' (List.Pairwise.sublist (List.sublist_append_left _ _) hsr) hyx]
       simp)
     rcases Nat.eq_zero_or_pos j with hj0 | hj0
     ·subst hj0
      go_upto_region 4 with (fail)
      have hS0:=below_drew' wr
      refine region_seq 17 [0,1,2,3,4,5,6,7,8,9,10,11,12,13,14,15,16] (by kernel_rfl) (by kernel_rfl) ?_
      repeat ((first | (refine seq_takeP (v:=?_) rfl rfl rfl ?_ ?_;rotate_left;(· (intro _ hSw;go_simp;(try go_bits);(try with_reducible rfl)))) | (refine seq_take (v:=?_) rfl rfl rfl ?_ ?_;rotate_left;(· (intro _ hSw;go_simp;(try go_bits);(try with_reducible rfl)))) | refine seq_skip rfl rfl rfl ?_ | refine seq_skipc rfl rfl rfl (by assumption) ?_);(try simp only [Act.put,pu1,pu2,pu3,pu4,pu5,pu6]))
      refine seq_done ?_
      have HE:=Lib.hid (HOUT.out (.inl rfl))
      clear HOUT
      go_wp2
      go_roundw
      case rel=>exact ⟨i+1,by omega,by omega,by go_num,by
       have:=HW.out
       rw [HE.out] at this
       exact this.after hS0 hbw⟩
      case measure=>simp [intOf];omega
     ·obtain ⟨p,rfl⟩:∃p,j=p+1:=⟨j - 1,by omega⟩
      obtain ⟨a',y,rfl,hp⟩:∃a' y,a=a'++[y]∧a'.length=p:=by
       have h1:=HA.out.1
       have hne:a≠[]:=fun e=>by subst e;simp at h1
       refine ⟨a.dropLast,a.getLast hne,(List.dropLast_concat_getLast hne).symm,by simp;omega⟩
      have HP:=Lib.hid hp
      have hL:(a'++[y]++x::(b++l.drop (i+1)))=a'++y::x::(b++l.drop (i+1)):=by simp
      have HWo:=HW.out
      rw [hL] at HWo
      obtain ⟨Ax,nx,cx',⟨cx0,cx1,cx2,cx3⟩,_,hIx,_⟩:=HWo.1.at4 (k:=p+1) (x:=x) (by rw [← hp];simp)
      obtain ⟨Ay,ny,cy',⟨cy0,cy1,cy2,cy3⟩,_,hIy,_⟩:=HWo.1.at4 (k:=p) (x:=y) (by rw [← hp];simp)
      have HMX:Hid (x∈l∧y∈l):=Lib.hid ⟨List.mem_of_getElem? HX.out,by
       have h2:=HA.out.2.1
       have:y∈sortB lt (l.take i):=by rw [h2];simp
       exact List.mem_of_mem_take ((sortB_mem lt).1 this)⟩
      have HIX:=Lib.hid hIx
      have HIY:=Lib.hid hIy
      have HWO:=Lib.hid HWo
      clear hp hL HWo hIx hIy
      have p0:(0:Int)≤(p:Int)+1:=by omega
      have p1:(p:Int)+1 < m:=by omega
      have p2:(p:Int) < m:=by omega
      have p3:(0:Int) < (p:Int)+1:=by omega
      cases hxy:lt x y with
      | true=>
       have HN:Hid (a'.length=p∧sortB lt (l.take i)=a'++(y::b)∧insB lt x (sortB lt (l.take i))=insB lt x a'++(y::b)):=Lib.hid (by
        obtain ⟨_,h2,h3⟩:=HA.out
        refine ⟨HP.out,by simpa using h2,?_⟩
        have hsr:=(HSRT i).out
        rw [h2] at hsr
        rw [h3,insB_move ir tr tr' (List.Pairwise.sublist (List.sublist_append_left _ _) hsr) hxy]
        simp)
       have C0:=stab cx0
       have C1:=stab cx1
       have C2:=stab cx2
       have C3:=stab cx3
       have D0:=stab cy0
       have D1:=stab cy1
       have D2:=stab cy2
       have D3:=stab cy3
       have hS0:=below_drew' wr
       go_upto_region 4 with (fail)
       clear cx0 cx1 cx2 cx3 cy0 cy1 cy2 cy3
       refine region_seq 17 [0,1,2,3,4,5,6,7,8,9,10,11,12,13,14,15,16] (by kernel_rfl) (by kernel_rfl) ?_
       repeat ((first | (refine seq_takeP (v:=?_) rfl rfl rfl ?_ ?_;rotate_left;(· (intro _ hSw;go_simp;(try go_bits);(try with_reducible rfl)))) | (refine seq_take (v:=?_) rfl rfl rfl ?_ ?_;rotate_left;(· (intro _ hSw;go_simp;(try go_bits);(try with_reducible rfl)))) | refine seq_skip rfl rfl rfl ?_ | refine seq_skipc rfl rfl rfl (by assumption) ?_);(try simp only [Act.put,pu1,pu2,pu3,pu4,pu5,pu6]))
       refine seq_step rfl rfl (fun KR hKR=>?_)
       go_simp
       with_reducible refine (HCM.out.at_ (HWO.out.after hS0 hbw) HMX.out.1 HMX.out.2 _ _ _ _ _ _).mono ?_
       rintro _ w4 ⟨z,rfl,hz,hb4⟩
       rw [hxy] at hz
       have hS4:=below_then hS0 hb4 hS0.size
       refine hKR.out _ _ (Or.inr hS4) ?_
       clear hKR KR
       (try simp only [Act.put,pu1,pu2,pu3,pu4,pu5,pu6])
       repeat ((first | (refine seq_takeP (v:=?_) rfl rfl rfl ?_ ?_;rotate_left;(· (intro _ hSw;go_simp;(try go_bits);(try with_reducible rfl)))) | (refine seq_take (v:=?_) rfl rfl rfl ?_ ?_;rotate_left;(· (intro _ hSw;go_simp;(try go_bits);(try with_reducible rfl)))) | refine seq_skip rfl rfl rfl ?_ | refine seq_skipc rfl rfl rfl (by assumption) ?_);(try simp only [Act.put,pu1,pu2,pu3,pu4,pu5,pu6]))
       refine seq_done ?_
       clear C0 C1 C2 C3 D0 D1 D2 D3 HOUT
       go_upto_region 6 with (fail)
       have HS1:=Lib.hid (HWO.out.after hS4 hbw)
       clear hS0 hb4 hS4
       obtain ⟨Ax,nx,cx',⟨cx0,cx1,cx2,cx3⟩,⟨fx0,fx1,fx2,fx3⟩,hIx,_⟩:=HS1.out.1.at4 (k:=p+1) (x:=x) (by rw [← HP.out];simp)
       obtain ⟨Ay,ny,cy',⟨cy0,cy1,cy2,cy3⟩,⟨fy0,fy1,fy2,fy3⟩,hIy,_⟩:=HS1.out.1.at4 (k:=p) (x:=y) (by rw [← HP.out];simp)
       have C0:=stab cx0
       have C1:=stab cx1
       have C2:=stab cx2
       have C3:=stab cx3
       have D0:=stab cy0
       have D1:=stab cy1
       have D2:=stab cy2
       have D3:=stab cy3
       have hS1:=below_drew' w4
       refine region_seq 15 [0,1,2,3,4,5,6,7,8,9,10,11,12,13,14,15,16,17] (by kernel_rfl) (by kernel_rfl) ?_
       repeat ((first | (refine seq_takeP (v:=?_) rfl rfl rfl ?_ ?_;rotate_left;(· (intro _ hSw;go_simp;(try go_bits);(try with_reducible rfl)))) | (refine seq_take (v:=?_) rfl rfl rfl ?_ ?_;rotate_left;(· (intro _ hSw;go_simp;(try go_bits);(try with_reducible rfl)))) | refine seq_skip rfl rfl rfl ?_);(try simp only [Act.put,pu1,pu2,pu3,pu4,pu5,pu6]))
       refine seq_step rfl rfl (fun KR hKR=>?_)
       go_simp
       refine hKR.out _ _ (Or.inl (by decide)) ?_
       clear hKR KR
       (try simp only [Act.put,pu1,pu2,pu3,pu4,pu5,pu6])
       refine seq_step rfl rfl (fun KR hKR=>?_)
       go_simp
       refine hKR.out _ _ (Or.inl (by decide)) ?_
       clear hKR KR
       (try simp only [Act.put,pu1,pu2,pu3,pu4,pu5,pu6])
       refine seq_step rfl rfl (fun KR hKR=>?_)
       go_simp
       refine hKR.out _ _ (Or.inl (by decide)) ?_
       clear hKR KR
       (try simp only [Act.put,pu1,pu2,pu3,pu4,pu5,pu6])
       refine seq_done ?_
       obtain ⟨hq1,kk1⟩:=HS1.out.put HBG.out (j:=p+1) (x:=y) (by rw [← HP.out];simp) hIy
       obtain ⟨hq2,_⟩:=hq1.put HBG.out (j:=p) (x:=x) (by rw [← HP.out];simp) (hIx.but kk1 (by decide))
       rw [mid_swap HP.out] at hq2
       have HW2:=Lib.hid (hq2.after (below_drew' _) hbw)
       clear hq1 hq2 kk1
       unfold putD at HW2
       generalize ((((((((w4.setCell ⟨g,(p+1) * 4,none⟩ (.int .i64 (y.idx:Int))).setCell ⟨g,(p+1) * 4+1,none⟩ (.int .u32 (y.mask:Int))).setCell ⟨g,(p+1) * 4+2,none⟩ (.slice Ay ny cy')).setCell ⟨g,(p+1) * 4+3,none⟩ (.int .i64 y.sur)).setCell ⟨g,p * 4,none⟩ (.int .i64 (x.idx:Int))).setCell ⟨g,p * 4+1,none⟩ (.int .u32 (x.mask:Int))).setCell ⟨g,p * 4+2,none⟩ (.slice Ax nx cx')).setCell ⟨g,p * 4+3,none⟩ (.int .i64 x.sur)).drew=W2 at *
       clear C0 C1 C2 C3 D0 D1 D2 D3 hS1 cx0 cx1 cx2 cx3 cy0 cy1 cy2 cy3 fx0 fx1 fx2 fx3 fy0 fy1 fy2 fy3 hIx hIy
       go_wp2
       go_roundw
       case rel=>exact ⟨p,a',y::b,by omega,by go_num,HN,HW2⟩
       case measure=>simp [intOf]
      | false=>
       have HE:=Lib.hid (HOUT.out (.inr ⟨a',y,rfl,hxy⟩))
       clear HOUT
       have C0:=stab cx0
       have C1:=stab cx1
       have C2:=stab cx2
       have C3:=stab cx3
       have D0:=stab cy0
       have D1:=stab cy1
       have D2:=stab cy2
       have D3:=stab cy3
       have hS0:=below_drew' wr
       go_upto_region 4 with (fail)
       clear cx0 cx1 cx2 cx3 cy0 cy1 cy2 cy3
       refine region_seq 17 [0,1,2,3,4,5,6,7,8,9,10,11,12,13,14,15,16] (by kernel_rfl) (by kernel_rfl) ?_
       repeat ((first | (refine seq_takeP (v:=?_) rfl rfl rfl ?_ ?_;rotate_left;(· (intro _ hSw;go_simp;(try go_bits);(try with_reducible rfl)))) | (refine seq_take (v:=?_) rfl rfl rfl ?_ ?_;rotate_left;(· (intro _ hSw;go_simp;(try go_bits);(try with_reducible rfl)))) | refine seq_skip rfl rfl rfl ?_ | refine seq_skipc rfl rfl rfl (by assumption) ?_);(try simp only [Act.put,pu1,pu2,pu3,pu4,pu5,pu6]))
       refine seq_step rfl rfl (fun KR hKR=>?_)
       go_simp
       with_reducible refine (HCM.out.at_ (HWO.out.after hS0 hbw) HMX.out.1 HMX.out.2 _ _ _ _ _ _).mono ?_
       rintro _ w4 ⟨z,rfl,hz,hb4⟩
       rw [hxy] at hz
       have hS4:=below_then hS0 hb4 hS0.size
       refine hKR.out _ _ (Or.inr hS4) ?_
       clear hKR KR
       (try simp only [Act.put,pu1,pu2,pu3,pu4,pu5,pu6])
       repeat ((first | (refine seq_takeP (v:=?_) rfl rfl rfl ?_ ?_;rotate_left;(· (intro _ hSw;go_simp;(try go_bits);(try with_reducible rfl)))) | (refine seq_take (v:=?_) rfl rfl rfl ?_ ?_;rotate_left;(· (intro _ hSw;go_simp;(try go_bits);(try with_reducible rfl)))) | refine seq_skip rfl rfl rfl ?_ | refine seq_skipc rfl rfl rfl (by assumption) ?_);(try simp only [Act.put,pu1,pu2,pu3,pu4,pu5,pu6]))
       refine seq_done ?_
       clear C0 C1 C2 C3 D0 D1 D2 D3
       go_wp2
       go_roundw
       case rel=>exact ⟨i+1,by omega,by omega,by go_num,by
        have:=HW.out
        rw [HE.out] at this
        exact this.after hS4 hbw⟩
       case measure=>simp [intOf];omega
   ·obtain rfl:i=m:=by omega
    go_wp2
    go_end0
    exact ⟨rfl,by
     have e:sortB lt (l.take i)++l.drop i=sortB lt l:=by rw [HM.out];simp
     rw [e] at HS;exact HS⟩
 ·have HI:=Lib.hid h
  have HV:Hid (∃A c',v= .slice A m c'):=Lib.hid (by
   obtain ⟨A,c',rfl⟩:=RdO.slice h
   exact ⟨A,c',by rw [hm]⟩)
  have HE:Hid (sortB lt l=l):=Lib.hid (by
   match l,hm with
   | [],_=>rfl
   | [x],_=>rfl
   | x::y::zs,hm=>simp at hm;omega)
  clear h hm
  go_enter Try.func74,Try.ntmps74
  go_wp2
  go_loopw [8] (fun s6 wr=>s6= .int .i64 1∧wr=w) (fun s6 _=>0)
  case atStart=>exact ⟨rfl,rfl⟩
  case round=>
   obtain ⟨rfl,rfl⟩:=hrel
   go_wp2
   go_end0
   exact ⟨rfl,by rw [HE.out];exact ⟨HI.out,KeepBut.refl _ _,⟨Nat.le_refl _,fun _ _ _=>rfl⟩,Below.refl _ _⟩⟩
theorem stableD_own (base:Nat) (v:Value) (l:List Dc) (w:World) (h:DcsO base w v l) (hl:l.length≤12) (n:Int) (hn:n=l.length) (G:Nat) (cb:Array Value) (lt:Dc→Dc→Bool)
 (eg:∀args w,(callFunc G args).run Try.prog w= .ok (.enter G args) w) (hc:CmpD G cb lt l w)
 (ir:∀x,lt x x=false) (tr:∀x y z,lt x y=true→lt y z=true→lt x z=true) (tr':∀x y z,lt x y=false→lt y z=false→lt x z=false):
 Calls Try.prog 53 #[v,.int .i64 n,.func (.func G) #[] cb] w fun e w'=>e= .returned (.tuple #[])∧SortedD base w v (sortB lt l) w':=by
 have h00:0≤n:=by omega
 have h12:n≤12:=by omega
 have hn1:¬(20:Int)≤n:=by omega
 have hn2:¬(20:Int) < n:=by omega
 have HI:=Lib.hid h
 have HN:=Lib.hid hn
 have HC:=Lib.hid hc
 have HEG:=Lib.hid eg
 obtain ⟨A,n',c',rfl⟩:=RdO.sliceN h
 clear h hn hc
 go_enter Try.func53,Try.ntmps53
 go_wp2
 refine wp_loop_rounds 1 ?_
 rw [rounds_succ]
 go_wp2_with fail
 refine (insertionD_own base _ l _ HI.out (by have:=HN.out;omega) n HN.out G cb lt eg HC.out ir tr tr').mono ?_
 rintro _ w1 ⟨rfl,hs⟩
 go_wp2
 refine wp_loop_rounds 1 ?_
 rw [rounds_succ]
 go_wp2
 go_end0
 exact ⟨rfl,hs⟩
theorem sortD_own (base:Nat) (v:Value) (l:List Dc) (w:World) (h:DcsO base w v l) (hl:l.length≤12) (G:Nat) (cb:Array Value) (lt:Dc→Dc→Bool)
 (eg:∀args w,(callFunc G args).run Try.prog w= .ok (.enter G args) w) (hc:CmpD G cb lt l w)
 (ir:∀x,lt x x=false) (tr:∀x y z,lt x y=true→lt y z=true→lt x z=true) (tr':∀x y z,lt x y=false→lt y z=false→lt x z=false):
 Calls Try.prog 37 #[v,.func (.func G) #[] cb] w fun e w'=>e= .returned (.tuple #[])∧SortedD base w v (sortB lt l) w':=by
 obtain ⟨A,n,c,rfl⟩:=RdO.sliceN h
 obtain ⟨hn,_,_⟩:=RdM.len (RdO.rd h)
 have HI:=Lib.hid h
 have HN:=Lib.hid hn
 have HC:=Lib.hid hc
 have h12:n≤12:=by omega
 clear h hn hc
 go_enter Try.func37,Try.ntmps37
 go_wp2_with fail
 refine (stableD_own base _ l _ HI.out hl (n:Int) (by rw [HN.out]) G cb lt eg HC.out ir tr tr').mono ?_
 rintro _ w1 ⟨rfl,hs⟩
 go_wp2
 go_end0
 exact ⟨rfl,hs⟩
def Pl.VOK (f:RF):Prop:=∃q,f=canF q∧Sz 2 q
theorem Pl.VOK.sm {f:RF} (h:VOK f):f.Sm:=by
 obtain ⟨q,rfl,h2⟩:=h
 exact (h2.sh (by decide)).sm
theorem isNaN_any (x:Int) (w:World):Calls Try.prog 42 #[.int .i64 x] w fun e w'=>e= .returned (.bool false)∧w'=w:=by
 go_enter Try.func42,Try.ntmps42
 go_wp2
 go_ret
 exact ⟨rfl,rfl⟩
def Pl.cmpI (x y:Int):Int:=if x < y then -1 else if y < x then 1 else 0
theorem cmpInt_any (x y:Int) (w:World):Calls Try.prog 41 #[.int .i64 x,.int .i64 y] w fun e w'=>e= .returned (.int .i64 (cmpI x y))∧w'=w:=by
 go_enter Try.func41,Try.ntmps41
 go_wp2_with fail
 refine (isNaN_any x _).mono ?_
 rintro _ _ ⟨rfl,rfl⟩
 go_wp2_with fail
 refine (isNaN_any y _).mono ?_
 rintro _ _ ⟨rfl,rfl⟩
 rcases Int.lt_trichotomy x y with h | h | h
 ·have e:Hid (cmpI x y= -1):=Lib.hid (by unfold cmpI;rw [if_pos h])
  go_wp2
  go_ret
  exact ⟨by rw [e.out];rfl,rfl⟩
 ·subst h
  have e:Hid (cmpI x x=0):=Lib.hid (by unfold cmpI;simp)
  go_wp2
  go_ret
  exact ⟨by rw [e.out];rfl,rfl⟩
 ·have e:Hid (cmpI x y=1):=Lib.hid (by unfold cmpI;rw [if_neg (by omega),if_pos h])
  have h':¬x < y:=by omega
  go_wp2
  go_ret
  exact ⟨by rw [e.out];rfl,rfl⟩
theorem box_dc2 (w:World) (a b c d a' b' c' d':Value):∃W,(w.alloc (.cells #[a,b,c,d] 59)).alloc (.cells #[a',b',c',d'] 59)=W∧(w.alloc (.cells #[a,b,c,d] 59)).heap.size=w.heap.size+1∧Bk W w.heap.size 59 [a,b,c,d]∧Bk W (w.heap.size+1) 59 [a',b',c',d']∧Below w.heap.size w W:=by
 have h1:=Bk.new w 59 [a,b,c,d]
 have h2:=Bk.new (w.alloc (.cells [a,b,c,d].toArray 59)) 59 [a',b',c',d']
 have b1:=below_new w (.cells [a,b,c,d].toArray 59)
 have b2:=below_new (w.alloc (.cells [a,b,c,d].toArray 59)) (.cells [a',b',c',d'].toArray 59)
 have hs:(w.alloc (.cells [a,b,c,d].toArray 59)).heap.size=w.heap.size+1:=by simp
 refine ⟨_,rfl,hs,h1.later b2,?_,below_then b1 b2 b1.size⟩
 rw [hs] at h2
 exact h2
theorem cmpLow_any (x y:Dc) (A:Option Addr) (n c:Nat) (A':Option Addr) (n' c':Nat) (w:World):
 Calls Try.prog 40 #[.agg #[.int .i64 (x.idx:Int),.int .u32 (x.mask:Int),.slice A n c,.int .i64 x.sur],.agg #[.int .i64 (y.idx:Int),.int .u32 (y.mask:Int),.slice A' n' c',.int .i64 y.sur]] w fun e w'=>e= .returned (.int .i64 (cmpI x.sur y.sur))∧Below w.heap.size w w':=by
 obtain ⟨W,hW,hsz,hX,hY,hbe⟩:=box_dc2 w (.int .i64 (x.idx:Int)) (.int .u32 (x.mask:Int)) (.slice A n c) (.int .i64 x.sur) (.int .i64 (y.idx:Int)) (.int .u32 (y.mask:Int)) (.slice A' n' c') (.int .i64 y.sur)
 obtain ⟨p1,p2,p3,p4⟩:=hX.four
 obtain ⟨r1,r2,r3,r4⟩:=hY.four
 go_enter Try.func40,Try.ntmps40
 go_wp2_with fail
 refine (cmpInt_any x.sur y.sur _).mono ?_
 rintro _ _ ⟨rfl,rfl⟩
 go_wp2
 go_ret
 exact ⟨rfl,hbe⟩
def ValB (w:World) (g:Nat) (fs:List RF):Prop:=∃B m d,Bk w g 75 [.slice B m d]∧FrsM w (.slice B m d) fs
theorem FrC.but {w w':World} {e:TypeId} {cs:List Value} {fs:List RF} (h:FrC w cs fs) (hk:KeepBut e w w') (h1:50≠e):FrC w' cs fs:=h.keep (hk.keep h1)
theorem ValB.but {w w':World} {e:TypeId} {g:Nat} {fs:List RF} (h:ValB w g fs) (hk:KeepBut e w w') (h1:75≠e) (h2:70≠e) (h3:50≠e):ValB w' g fs:=by
 obtain ⟨B,m,d,g1,cs,g2,g3⟩:=h
 exact ⟨B,m,d,hk.bk g1 h1,cs,hk.row g2 h2,g3.but hk h3⟩
theorem ValB.below {w w':World} {g:Nat} {fs:List RF} (h:ValB w g fs) (hb:Below w.heap.size w w'):ValB w' g fs:=by
 obtain ⟨B,m,d,g1,g2⟩:=h
 exact ⟨B,m,d,g1.later hb,g2.below hb⟩
theorem cmpHigh_any (x y:Dc) (A:Option Addr) (n c:Nat) (A':Option Addr) (n' c':Nat) (g:Nat) (fs:List RF) (w:World) (h:ValB w g fs) (hv:∀f∈fs,VOK f) (hx:x.idx < fs.length) (hy:y.idx < fs.length):
 Calls Try.prog 38 #[.agg #[.int .i64 (x.idx:Int),.int .u32 (x.mask:Int),.slice A n c,.int .i64 x.sur],.agg #[.int .i64 (y.idx:Int),.int .u32 (y.mask:Int),.slice A' n' c',.int .i64 y.sur],.pointer (some ⟨g,0,none⟩)] w fun e w'=>e= .returned (.int .i64 (qs (qAt fs y.idx - qAt fs x.idx)))∧Below w.heap.size w w':=by
 obtain ⟨W,hW,hsz,hX,hY,hbe⟩:=box_dc2 w (.int .i64 (x.idx:Int)) (.int .u32 (x.mask:Int)) (.slice A n c) (.int .i64 x.sur) (.int .i64 (y.idx:Int)) (.int .u32 (y.mask:Int)) (.slice A' n' c') (.int .i64 y.sur)
 obtain ⟨B,m,d,hB,hF⟩:=h.below hbe
 obtain ⟨fx,hfx⟩:∃f,fs[x.idx]? =some f:=⟨_,List.getElem?_eq_getElem hx⟩
 obtain ⟨fy,hfy⟩:∃f,fs[y.idx]? =some f:=⟨_,List.getElem?_eq_getElem hy⟩
 have HV:Hid (qAt fs x.idx=fx.q∧qAt fs y.idx=fy.q∧fx.Sm∧fy.Sm):=Lib.hid ⟨by unfold qAt;rw [hfx],by unfold qAt;rw [hfy],(hv fx (List.mem_of_getElem? hfx)).sm,(hv fy (List.mem_of_getElem? hfy)).sm⟩
 have hm:m=fs.length:=by
  obtain ⟨A',c',e,_⟩:=hF.shape
  injection e
 rw [← hm] at hx hy
 have hxz:(x.idx:Int) < m:=by omega
 have hyz:(y.idx:Int) < m:=by omega
 clear hm
 have HF:=Lib.hid hF
 obtain ⟨b,off,A1,n1,c1,A2,n2,c2,hA,_,⟨x0,x1,x2,x3⟩,ex⟩:=hF.elem (Below.refl _ _) hfx
 obtain ⟨b',off',A3,n3,c3,A4,n4,c4,hA',_,⟨y0,y1,y2,y3⟩,ey⟩:=hF.elem (Below.refl _ _) hfy
 subst hA
 injection hA' with hA'
 injection hA' with q1 q2 _
 subst q1 q2
 have HEX:=Lib.hid ex
 have HEY:=Lib.hid ey
 obtain ⟨p1,p2,p3,p4⟩:=hX.four
 obtain ⟨r1,r2,r3,r4⟩:=hY.four
 have b0:=hB.cellAt 0 rfl
 clear hF hfx hfy h hv ex ey
 go_enter Try.func38,Try.ntmps38
 go_upto_region 1 with (fail)
 have C0:=stab x0
 have C1:=stab x1
 have C2:=stab x2
 have C3:=stab x3
 have D0:=stab y0
 have D1:=stab y1
 have D2:=stab y2
 have D3:=stab y3
 have E0:=stab p1
 have E1:=stab r1
 have E2:=stab b0
 have hS0:=below_drew' W
 clear x0 x1 x2 x3 y0 y1 y2 y3 p1 p2 p3 p4 r1 r2 r3 r4 b0
 refine region_seq 12 [0,1,2,3,4,5,6,7,8,9,10,11] (by kernel_rfl) (by kernel_rfl) ?_
 repeat ((first | (refine seq_takeP (v:=?_) rfl rfl rfl ?_ ?_;rotate_left;(· (intro _ hSw;go_simp;(try go_bits);(try with_reducible rfl)))) | (refine seq_take (v:=?_) rfl rfl rfl ?_ ?_;rotate_left;(· (intro _ hSw;go_simp;(try go_bits);(try with_reducible rfl)))) | refine seq_skip rfl rfl rfl ?_);(try simp only [Act.put,pu1,pu2,pu3,pu4,pu5,pu6]))
 refine seq_step rfl rfl (fun KR hKR=>?_)
 go_simp
 with_reducible refine (compareF_any _ _ fy fx _ (HEY.out.below hS0) (HEX.out.below hS0) HV.out.2.2.2 HV.out.2.2.1).mono ?_
 rintro _ w4 ⟨rfl,hb4⟩
 have hS4:=below_then hS0 hb4 hS0.size
 refine hKR.out _ _ (Or.inr hS4) ?_
 clear hKR KR
 (try simp only [Act.put,pu1,pu2,pu3,pu4,pu5,pu6])
 repeat ((first | (refine seq_takeP (v:=?_) rfl rfl rfl ?_ ?_;rotate_left;(· (intro _ hSw;go_simp;(try go_bits);(try with_reducible rfl)))) | (refine seq_take (v:=?_) rfl rfl rfl ?_ ?_;rotate_left;(· (intro _ hSw;go_simp;(try go_bits);(try with_reducible rfl)))) | refine seq_skip rfl rfl rfl ?_);(try simp only [Act.put,pu1,pu2,pu3,pu4,pu5,pu6]))
 refine seq_done ?_
 have hb5:=below_then hbe hS4 hbe.size
 have HQ:Hid (qs (fy.q - fx.q)=qs (qAt fs y.idx - qAt fs x.idx)):=Lib.hid (by rw [HV.out.1,HV.out.2.1])
 clear C0 C1 C2 C3 D0 D1 D2 D3 E0 E1 E2
 go_wp2
 go_ret
 exact ⟨by rw [← HQ.out];rfl,hb5⟩
end Go.Proofs.Ytgdcbjligbnpgaa
