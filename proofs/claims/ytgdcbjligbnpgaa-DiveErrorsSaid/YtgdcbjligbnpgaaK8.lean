/- Lemmas of the claim; no condition. -/
import Derived.Test.YtgdcbjligbnpgaaK14
set_option linter.all false
set_option maxRecDepth 100000
set_option maxHeartbeats 40000000
namespace Go.Proofs.Ytgdcbjligbnpgaa
open Go.RowKit
open Pl
attribute [local go_sem ↓] Go.wp_at_zero Go.wp_at_succ
theorem FracO.frac {base:Nat} {w:World} {v:Value} {f:RF} (h:FracO base w v f):FracM w v f:=h.1
namespace Pl
theorem Sz_int {z:Int} (h: -4294967296 < z) (h2:z < 4294967296):Sz 1 (z:Rat):=by
 unfold Sz
 exact ⟨digs_lt (by rw [Rat.num_intCast];unfold B32;omega),digs_lt (by rw [Rat.den_intCast];decide)⟩
end Pl
namespace Pl
def Kn:Ms:=⟨1,[0],10,[⟨[[⟨0,false⟩]],3⟩,⟨[[⟨0,false⟩]],2⟩],[]⟩
theorem Kn_ok:MsOK Kn where
 fl0:=by decide
 fl1:=by decide
 pen0:=by decide
 pen1:=by decide
 row0:=by decide
 row1:=by decide
 asc:=by decide
 rb:=by decide
 ncol:=by decide
 cost:=by decide
 ne:=by decide
 nd:=by decide
 sub:=by decide
 ncut:=by decide
 cut:=by simp [Kn]
theorem Kn_dcs:dcs Kn=[⟨0,1,[0],-7⟩,⟨1,1,[0],-8⟩]:=by rfl
theorem Kn_imp:(impP Kn [0] [0] 1048576).1.best=[1]∧(impP Kn [0] [0] 1048576).2=true:=by decide+kernel
theorem Kn_cost:costV Kn [1]=2∧selErr (dcs Kn) [1]=0:=by decide+kernel
theorem Kn_sel:Sel (dcs Kn) [0]:=by
 rw [Kn_dcs]
 exact ⟨by decide,by decide,by decide⟩
theorem Kn_greedy (q:Rat) (hq:0 < q):greedyP Kn [canF q,canF q]=[0]:=by
 have e0:qAt [canF q,canF q] 0=q:=by simp [qAt,canF_q]
 have e1:qAt [canF q,canF q] 1=q:=by simp [qAt,canF_q]
 have hp:0 < qs q:=qs_pos.2 hq
 unfold greedyP greedyL
 rw [Kn_dcs]
 simp [List.filter_cons,hiB,loB,e0,e1,hp,sortB,insB,ltH,ltL,Rat.lt_irrefl,fillP,fillS,sortI]
end Pl
theorem frs_two {w:World} {g:Nat} {f:RF} {b b':Bool} {A A':Option Addr} {n c n' c':Nat} (h:Bk w g 70 [.bool b,.slice A n c,.bool b',.slice A' n' c',.bool b,.slice A n c,.bool b',.slice A' n' c']) (hf:FracM w (.agg #[.bool b,.slice A n c,.bool b',.slice A' n' c']) f):FrsM w (.slice (some ⟨g,0,none⟩) 2 2) [f,f]:=by
 refine ⟨_,⟨_,2,rfl,rfl,Nat.le_refl _,by decide,fun _=>⟨g,0,_,(0,0),rfl,h,fun j u hj=>by simpa using hj⟩⟩,rfl,fun k x hk=>?_⟩
 have hk1:k < 2:=by have:=(List.getElem?_eq_some_iff.1 hk).1;simpa using this
 match k,hk1,hk with
 | 0,_,hk=>simp at hk;subst hk;exact ⟨_,_,_,_,rfl,rfl,rfl,rfl,hf⟩
 | 1,_,hk=>simp at hk;subst hk;exact ⟨_,_,_,_,rfl,rfl,rfl,rfl,hf⟩
theorem rd_lit {α:Type} {R:World→α→List Value→Prop} {t:TypeId} {s:Nat} {w:World} {g:Nat} {cs:List Value} {l:List α} (h:Bk w g t cs) (hl:cs.length=l.length * s) (hm:l.length≤1000) (hx:∀(k:Nat) (x:α),l[k]? =some x→∃u,R w x u∧u.length=s∧∀(j:Nat) (y:Value),u[j]? =some y→cs[k * s+j]? =some y):RdM R t s w (.slice (some ⟨g,0,none⟩) l.length l.length) l:=
 ⟨cs,⟨_,_,rfl,hl,Nat.le_refl _,by unfold maxLen;omega,fun _=>⟨g,0,_,(0,0),rfl,h,fun j u hj=>by simpa using hj⟩⟩,hx⟩
theorem box_kn (w:World):∃W,(((((w.alloc (.cells #[.int .i64 0,.bool false] 63)).alloc (.cells #[.slice (some ⟨w.heap.size,0,none⟩) 1 1] 65)).alloc (.cells #[.int .i64 0] 3)).alloc (.cells #[.string ⟨#[]⟩,.slice (some ⟨w.heap.size+1,0,none⟩) 1 1,.int .i64 3,.string ⟨#[]⟩,.slice (some ⟨w.heap.size+1,0,none⟩) 1 1,.int .i64 2] 40)).alloc (.cells #[.int .i64 1,.slice (some ⟨w.heap.size+1+1,0,none⟩) 1 1,.int .i64 10,.slice (some ⟨w.heap.size+1+1+1,0,none⟩) 2 2,.slice none 0 0] 26))=W∧Below w.heap.size w W∧
 Bk W (w.heap.size+1+1+1+1) 26 [.int .i64 1,.slice (some ⟨w.heap.size+1+1,0,none⟩) 1 1,.int .i64 10,.slice (some ⟨w.heap.size+1+1+1,0,none⟩) 2 2,.slice none 0 0]∧
 MsM W (.agg #[.int .i64 1,.slice (some ⟨w.heap.size+1+1,0,none⟩) 1 1,.int .i64 10,.slice (some ⟨w.heap.size+1+1+1,0,none⟩) 2 2,.slice none 0 0]) Kn:=by
 obtain ⟨w1,e1,b1,s1,k1⟩:∃W,w.alloc (.cells #[.int .i64 0,.bool false] 63)=W∧Below w.heap.size w W∧W.heap.size=w.heap.size+1∧Bk W w.heap.size 63 [.int .i64 0,.bool false]:=⟨_,rfl,below_new _ _,by simp,Bk.new w _ [.int .i64 0,.bool false]⟩
 rw [e1]
 obtain ⟨w2,e2,b2,s2,k2⟩:∃W,w1.alloc (.cells #[.slice (some ⟨w.heap.size,0,none⟩) 1 1] 65)=W∧Below w1.heap.size w1 W∧W.heap.size=w1.heap.size+1∧Bk W w1.heap.size 65 [.slice (some ⟨w.heap.size,0,none⟩) 1 1]:=⟨_,rfl,below_new _ _,by simp,Bk.new w1 _ [.slice (some ⟨w.heap.size,0,none⟩) 1 1]⟩
 rw [e2]
 obtain ⟨w3,e3,b3,s3,k3⟩:∃W,w2.alloc (.cells #[.int .i64 0] 3)=W∧Below w2.heap.size w2 W∧W.heap.size=w2.heap.size+1∧Bk W w2.heap.size 3 [.int .i64 0]:=⟨_,rfl,below_new _ _,by simp,Bk.new w2 _ [.int .i64 0]⟩
 rw [e3]
 obtain ⟨w4,e4,b4,s4,k4⟩:∃W,w3.alloc (.cells #[.string ⟨#[]⟩,.slice (some ⟨w.heap.size+1,0,none⟩) 1 1,.int .i64 3,.string ⟨#[]⟩,.slice (some ⟨w.heap.size+1,0,none⟩) 1 1,.int .i64 2] 40)=W∧Below w3.heap.size w3 W∧W.heap.size=w3.heap.size+1∧Bk W w3.heap.size 40 [.string ⟨#[]⟩,.slice (some ⟨w.heap.size+1,0,none⟩) 1 1,.int .i64 3,.string ⟨#[]⟩,.slice (some ⟨w.heap.size+1,0,none⟩) 1 1,.int .i64 2]:=⟨_,rfl,below_new _ _,by simp,Bk.new w3 _ [.string ⟨#[]⟩,.slice (some ⟨w.heap.size+1,0,none⟩) 1 1,.int .i64 3,.string ⟨#[]⟩,.slice (some ⟨w.heap.size+1,0,none⟩) 1 1,.int .i64 2]⟩
 rw [e4]
 obtain ⟨w5,e5,b5,s5,k5⟩:∃W,w4.alloc (.cells #[.int .i64 1,.slice (some ⟨w.heap.size+1+1,0,none⟩) 1 1,.int .i64 10,.slice (some ⟨w.heap.size+1+1+1,0,none⟩) 2 2,.slice none 0 0] 26)=W∧Below w4.heap.size w4 W∧W.heap.size=w4.heap.size+1∧Bk W w4.heap.size 26 [.int .i64 1,.slice (some ⟨w.heap.size+1+1,0,none⟩) 1 1,.int .i64 10,.slice (some ⟨w.heap.size+1+1+1,0,none⟩) 2 2,.slice none 0 0]:=⟨_,rfl,below_new _ _,by simp,Bk.new w4 _ [.int .i64 1,.slice (some ⟨w.heap.size+1+1,0,none⟩) 1 1,.int .i64 10,.slice (some ⟨w.heap.size+1+1+1,0,none⟩) 2 2,.slice none 0 0]⟩
 rw [e5]
 rw [s4,s3,s2,s1] at k5
 rw [s3,s2,s1] at k4
 rw [s2,s1] at k3
 rw [s1] at k2
 have q1:=(((k1.later b2).later b3).later b4).later b5
 have q2:=((k2.later b3).later b4).later b5
 have q3:=(k3.later b4).later b5
 have q4:=k4.later b5
 have hT:DutM w5 (.slice (some ⟨w.heap.size,0,none⟩) 1 1) [⟨0,false⟩]:=rd_lit (l:=[(⟨0,false⟩:Tk)]) q1 rfl (by decide) fun k x hk=>by
  have hk1:k < 1:=by have:=(List.getElem?_eq_some_iff.1 hk).1;simpa using this
  obtain rfl:k=0:=by omega
  simp only [List.getElem?_cons_zero,Option.some.injEq] at hk
  subst hk
  exact ⟨[.int .i64 0,.bool false],⟨rfl,by decide,by decide⟩,rfl,fun j y hj=>by simpa using hj⟩
 have hD:DutsM w5 (.slice (some ⟨w.heap.size+1,0,none⟩) 1 1) [[⟨0,false⟩]]:=rd_lit (l:=[[(⟨0,false⟩:Tk)]]) q2 rfl (by decide) fun k x hk=>by
  have hk1:k < 1:=by have:=(List.getElem?_eq_some_iff.1 hk).1;simpa using this
  obtain rfl:k=0:=by omega
  simp only [List.getElem?_cons_zero,Option.some.injEq] at hk
  subst hk
  exact ⟨[.slice (some ⟨w.heap.size,0,none⟩) 1 1],⟨_,_,_,rfl,hT⟩,rfl,fun j y hj=>by simpa using hj⟩
 refine ⟨w5,rfl,((((b1.trans (b2.mono (by omega))).trans (b3.mono (by omega))).trans (b4.mono (by omega))).trans (b5.mono (by omega))),k5,_,_,_,_,_,_,_,_,_,rfl,lit_ints (zs:=[0]) q3 rfl (by decide) (by decide),?_,RdM.nil _ _ _ _ _ (Nat.zero_le _)⟩
 refine rd_lit (l:=Kn.cols) q4 rfl (by decide) fun k x hk=>?_
 have hk1:k < 2:=by have:=(List.getElem?_eq_some_iff.1 hk).1;simpa [Kn] using this
 match k,hk1,hk with
 | 0,_,hk=>
  simp only [Kn,List.getElem?_cons_zero,Option.some.injEq] at hk
  subst hk
  exact ⟨[.string ⟨#[]⟩,.slice (some ⟨w.heap.size+1,0,none⟩) 1 1,.int .i64 3],⟨_,_,_,_,rfl,hD⟩,rfl,fun j y hj=>by
   have hj3:j < 3:=by have:=(List.getElem?_eq_some_iff.1 hj).1;simpa using this
   match j,hj3,hj with
   | 0,_,hj=>exact hj
   | 1,_,hj=>exact hj
   | 2,_,hj=>exact hj⟩
 | 1,_,hk=>
  simp only [Kn,List.getElem?_cons_succ,List.getElem?_cons_zero,Option.some.injEq] at hk
  subst hk
  exact ⟨[.string ⟨#[]⟩,.slice (some ⟨w.heap.size+1,0,none⟩) 1 1,.int .i64 2],⟨_,_,_,_,rfl,hD⟩,rfl,fun j y hj=>by
   have hj3:j < 3:=by have:=(List.getElem?_eq_some_iff.1 hj).1;simpa using this
   match j,hj3,hj with
   | 0,_,hj=>exact hj
   | 1,_,hj=>exact hj
   | 2,_,hj=>exact hj⟩
theorem known_any (w:World):Calls Try.prog 7 #[] w fun e w'=>e= .returned (.bool true)∧Below w.heap.size w w':=by
 go_enter Try.func7,Try.ntmps7
 go_wp2_with fail
 obtain ⟨W,hW,hbe,hX,hM⟩:=box_kn w
 rw [hW]
 clear hW
 refine (rint_own 1 _ (by omega) (by omega)).mono ?_
 rintro _ w1 ⟨v1,rfl,e1,hb1⟩
 go_wp2_with fail
 refine (rint_own 2 _ (by omega) (by omega)).mono ?_
 rintro _ w2 ⟨v2,rfl,e2,hb2⟩
 have s1:Sz 1 (((1:Int)):Rat):=Sz_int (by omega) (by omega)
 have s2:Sz 1 (((2:Int)):Rat):=Sz_int (by omega) (by omega)
 go_wp2_with fail
 refine (rdivF_own _ _ _ _ _ (e1.frac.below hb2) e2.frac (s1.sh (by decide)) (s2.sh (by decide))).mono ?_
 rw [canF_q,canF_q]
 rintro _ w3 ⟨v3,rfl,e3,hb3⟩
 have hS3:=below_then (below_then hb1 hb2 hb1.size) hb3 (by have:=hb1.size;have:=hb2.size;omega)
 have HX3:=hX.later hS3
 have HM3:=Lib.hid (hM.below hS3)
 have hbe3:=below_then hbe hS3 hbe.size
 have hpos:0 < (((1:Int)):Rat) / (((2:Int)):Rat):=by decide+kernel
 have HV:Hid (FracM w3 v3 (canF ((((1:Int)):Rat) / (((2:Int)):Rat)))∧VOK (canF ((((1:Int)):Rat) / (((2:Int)):Rat)))):=Lib.hid ⟨e3.frac,_,rfl,Sz_div s1 s2⟩
 have HG:=Lib.hid (Kn_greedy _ hpos)
 clear s1 s2 e1 e2 e3 hb1 hb2 hb3 hX hM hbe hS3 hpos
 generalize canF ((((1:Int)):Rat) / (((2:Int)):Rat))=f at *
 obtain ⟨B,l,d,B',l',d',hv3,_,_⟩:=id HV.out.1
 subst hv3
 have hgl:=HX3.lt
 have hgw:w.heap.size≤w.heap.size+1+1+1+1:=by omega
 generalize w.heap.size+1+1+1+1=gm at *
 go_upto_region 4 with (fail)
 have hb4:=below_new w3 (.cells #[.bool f.num.neg,.slice B l d,.bool f.den.neg,.slice B' l' d'] 70)
 have hY4:=Bk.new w3 70 [.bool f.num.neg,.slice B l d,.bool f.den.neg,.slice B' l' d']
 have e:(#[.bool f.num.neg,.slice B l d,.bool f.den.neg,.slice B' l' d']:Array Value)=[.bool f.num.neg,.slice B l d,.bool f.den.neg,.slice B' l' d'].toArray:=rfl
 rw [← e] at hY4
 clear e
 have HX4:=HX3.later hb4
 have HM4:=Lib.hid (HM3.out.below hb4)
 have HV4:=Lib.hid (And.intro (HV.out.1.below hb4) HV.out.2)
 have hbe4:=below_then hbe3 hb4 hbe3.size
 clear HX3 HM3 HV hbe3 hb4 hgl
 generalize w3.alloc (.cells #[.bool f.num.neg,.slice B l d,.bool f.den.neg,.slice B' l' d'] 70)=w4 at *
 obtain ⟨x0,x1,x2,x3,x4⟩:=HX4.five
 obtain ⟨y0,y1,y2,y3⟩:=hY4.four
 go_wp2_with fail
 clear x0 x1 x2 x3 x4 y0 y1 y2 y3
 have hb5:=below_new w4 (.cells #[.bool f.num.neg,.slice B l d,.bool f.den.neg,.slice B' l' d',.bool f.num.neg,.slice B l d,.bool f.den.neg,.slice B' l' d'] 70)
 have hZ5:=Bk.new w4 70 [.bool f.num.neg,.slice B l d,.bool f.den.neg,.slice B' l' d',.bool f.num.neg,.slice B l d,.bool f.den.neg,.slice B' l' d']
 have e:(#[.bool f.num.neg,.slice B l d,.bool f.den.neg,.slice B' l' d',.bool f.num.neg,.slice B l d,.bool f.den.neg,.slice B' l' d']:Array Value)=[.bool f.num.neg,.slice B l d,.bool f.den.neg,.slice B' l' d',.bool f.num.neg,.slice B l d,.bool f.den.neg,.slice B' l' d'].toArray:=rfl
 rw [← e] at hZ5
 clear e
 have HX5:=HX4.later hb5
 have HM5:=Lib.hid (HM4.out.below hb5)
 have HF5:=HV4.out.1.below hb5
 have HVO:=Lib.hid HV4.out.2
 have hbe5:=below_then hbe4 hb5 hbe4.size
 clear HX4 HM4 HV4 hbe4 hb5 hY4
 generalize w4.alloc (.cells #[.bool f.num.neg,.slice B l d,.bool f.den.neg,.slice B' l' d',.bool f.num.neg,.slice B l d,.bool f.den.neg,.slice B' l' d'] 70)=w5 at *
 have HFS:Hid (FrsM w5 (.slice (some ⟨w4.heap.size,0,none⟩) 2 2) [f,f]):=Lib.hid (frs_two hZ5 HF5)
 clear hZ5 HF5
 refine (greedy_own _ _ Kn [f,f] _ HM5.out Kn_ok HFS.out rfl (by intro g hg;simp at hg;subst hg;exact HVO.out)).mono ?_
 rw [show GrPost Kn [f,f] w5=GrPost Kn [f,f] w5 from rfl]
 rintro _ w6 ⟨v6,rfl,h6,hb6⟩
 rw [HG.out] at h6
 obtain ⟨A6,n6,c6,rfl⟩:=h6.sliceN
 have HX6:=HX5.later hb6
 have HM6:=Lib.hid (HM5.out.below hb6)
 have H6:=Lib.hid h6.ints
 have hbe6:=below_then hbe5 hb6 hbe5.size
 clear HX5 HM5 hbe5 hb6 h6 HFS
 obtain ⟨x0,x1,x2,x3,x4⟩:=HX6.five
 go_wp2_with fail
 clear x0 x1 x2 x3 x4
 have hb7:=below_new w6 (.cells #[.int .i64 0] 3)
 have hL7:=(lit_ints (zs:=[0]) (Bk.new w6 3 [.int .i64 0]) rfl (by decide) (by decide)).ints
 have HX7:=HX6.later hb7
 have HM7:=Lib.hid (HM6.out.below hb7)
 have H7:=Lib.hid (H6.out.below hb7)
 have HL7:=Lib.hid hL7
 have hbe7:=below_then hbe6 hb7 hbe6.size
 clear HX6 HM6 hbe6 hb7 hL7 H6
 have HIMP:=Lib.hid (improve_own _ _ _ Kn [0] [0] 1048576 _ HM7.out Kn_ok H7.out Kn_sel HL7.out (List.Sublist.refl _) (by decide))
 refine HIMP.out.mono ?_
 clear HIMP
 rintro _ w8 ⟨v8,rfl,h8,hb8⟩
 rw [Kn_imp.1] at h8
 rw [Kn_imp.2]
 obtain ⟨A8,c8,rfl,_,_⟩:=h8.shape
 have HX8:=HX7.later hb8
 have HM8:=Lib.hid (HM7.out.below hb8)
 have H8:=Lib.hid (And.intro (H7.out.below hb8) h8)
 have hbe8:=below_then hbe7 hb8 hbe7.size
 clear HX7 HM7 hbe7 hb8 h8 H7 HL7
 generalize ((impP Kn [0] [0] 1048576).1.used:Int)=us at *
 obtain ⟨x0,x1,x2,x3,x4⟩:=HX8.five
 go_wp2_with fail
 refine (cost_any _ _ Kn [1] _ HM8.out Kn_ok H8.out.2).mono ?_
 rw [Kn_cost.1,Kn_cost.2]
 rintro _ w9 ⟨rfl,hb9⟩
 have H9:=Lib.hid (And.intro (H8.out.1.below hb9) (H8.out.2.below hb9))
 have hbe9:=below_then hbe8 hb9 hbe8.size
 clear x0 x1 x2 x3 x4 HX8 HM8 hbe8 hb9 H8
 go_wp2_with fail
 have hb10:=below_new w9 (.cells #[.int .i64 0] 3)
 have hL10:=(lit_ints (zs:=[0]) (Bk.new w9 3 [.int .i64 0]) rfl (by decide) (by decide)).ints
 have H10:=Lib.hid (And.intro (H9.out.1.below hb10) (H9.out.2.below hb10))
 have hbe10:=below_then hbe9 hb10 hbe9.size
 refine (sameInts_any _ _ [0] [0] _ H10.out.1 hL10).mono ?_
 rw [show decide (([0]:List Int)=[0])=true from rfl]
 rintro _ w11 ⟨rfl,hb11⟩
 have H11:=Lib.hid (H10.out.2.below hb11)
 have hbe11:=below_then hbe10 hb11 hbe10.size
 clear hb10 hL10 H10 hbe10 hb11 H9 hbe9
 go_wp2_with fail
 have hb12:=below_new w11 (.cells #[.int .i64 1] 3)
 have hL12:=(lit_ints (zs:=[1]) (Bk.new w11 3 [.int .i64 1]) rfl (by decide) (by decide)).ints
 have H12:=Lib.hid (H11.out.below hb12)
 have hbe12:=below_then hbe11 hb12 hbe11.size
 refine (sameInts_any _ _ [1] [1] _ H12.out hL12).mono ?_
 rw [show decide (([1]:List Int)=[1])=true from rfl]
 rintro _ w13 ⟨rfl,hb13⟩
 have hbe13:=below_then hbe12 hb13 hbe12.size
 clear hb12 hL12 H12 hbe12 hb13 H11 hbe11
 go_wp2
 go_ret
 exact ⟨rfl,hbe13⟩
section
attribute [local irreducible] wpAlone
def ErrAt (W:World) (m:Ms) (f0 f2:Int) (s8 s9 s10:Value) (wx:World):Prop:=
 ∃g5 A4 n4 c4 s,s8= .slice A4 n4 c4∧s9= .slice (some ⟨g5,0,none⟩) 2 2∧s10= .int .i64 5∧Below W.heap.size W wx∧Hid (IntsM wx (.slice A4 n4 c4) s∧Sel (dcs m) s∧IntsM wx (.slice (some ⟨g5,0,none⟩) 2 2) [f0,f2])
theorem diveErrors_any (v1:Value) (z1:List Int) (N1 N2:Int) (w:World) (h1:IntsM w v1 z1):
 Calls Try.prog 3 #[v1,.int .i64 N1,.int .i64 N2] w fun e w'=>e= .returned (.bool true)∧Below w.heap.size w w':=by
 have m7:=i64_and7 N2
 have r1:0≤N2 % 8:=by omega
 have r2:N2 % 8≤7:=by omega
 go_enter Try.func3,Try.ntmps3
 go_wp2_with fail
 refine (master_own v1 z1 w h1).mono ?_
 rintro _ w1 ⟨vm,m,rfl,hm,ok,h36,hb1⟩
 obtain ⟨A,nr,c,A',n',c',A'',n'',c'',rfl,hR,hC,hT⟩:=id hm
 obtain ⟨s1,s2,s3⟩:=RdM.len hC
 obtain ⟨t1,t2,t3⟩:=hR.ints.lenC
 have hn6':n'≤6:=by have:=ok.ncol;omega
 have hnr:3≤nr:=by have:=h36.out.2;omega
 have hnr6:nr≤6:=by have:=ok.row1;omega
 have hz0:(0:Int) < nr:=by omega
 have hz1:(1:Int) < nr:=by omega
 have hz2:(2:Int) < nr:=by omega
 have hn0:0 < nr:=by omega
 have hn1:1 < nr:=by omega
 have hn2:2 < nr:=by omega
 have HM1:=Lib.hid (And.intro hm hR.ints)
 have HOK:=Lib.hid ok
 have HN:=Lib.hid (And.intro s1 t1)
 have hFB:0≤m.fl∧m.fl≤200∧0≤m.pen∧m.pen≤30:=⟨ok.fl0,ok.fl1,ok.pen0,ok.pen1⟩
 have HFL:=Lib.hid h36.out.1
 clear hm ok hR hC hT s1 t1 h36
 generalize hfe:m.fl=F at *
 have HFE:=Lib.hid hfe
 clear hfe
 generalize m.pen=P at *
 obtain ⟨hF0,hF1,hP0,hP1⟩:=hFB
 go_upto_region 2 with (fail)
 have hbm:=below_new w1 (.cells #[.int .i64 F,.slice A nr c,.int .i64 P,.slice A' n' c',.slice A'' n'' c''] 26)
 have hX:=Bk.new w1 26 [.int .i64 F,.slice A nr c,.int .i64 P,.slice A' n' c',.slice A'' n'' c'']
 have e:(#[.int .i64 F,.slice A nr c,.int .i64 P,.slice A' n' c',.slice A'' n'' c'']:Array Value)=[.int .i64 F,.slice A nr c,.int .i64 P,.slice A' n' c',.slice A'' n'' c''].toArray:=rfl
 rw [← e] at hX
 clear e
 have HM:=Lib.hid (And.intro (HM1.out.1.below hbm) (HM1.out.2.below hbm))
 have hbe:=below_then hb1 hbm hb1.size
 have hgm:w.heap.size≤w1.heap.size:=hb1.size
 clear HM1 hb1 hbm
 generalize w1.alloc (.cells #[.int .i64 F,.slice A nr c,.int .i64 P,.slice A' n' c',.slice A'' n'' c''] 26)=W at *
 generalize w1.heap.size=gm at *
 generalize N2 % 8=y at *
 obtain ⟨x0,x1,x2,x3,x4⟩:=hX.five
 obtain ⟨br,orr,f0,hAr,hc0,hf0,fa0,fb0⟩:=HM.out.2.elem (Below.refl _ _) (show 0 < nr by omega)
 obtain ⟨_,_,f2,hAr2,hc2,hf2,fa2,fb2⟩:=HM.out.2.elem (Below.refl _ _) (show 2 < nr by omega)
 obtain ⟨_,_,f1,hAr1,hc1,hf1,fa1,fb1⟩:=HM.out.2.elem (Below.refl _ _) (show 1 < nr by omega)
 subst hAr
 injection hAr2 with hAr2
 injection hAr2 with q1 q2 _
 subst q1 q2
 injection hAr1 with hAr1
 injection hAr1 with q1 q2 _
 subst q1 q2
 have hc0:W.cell? ⟨br,orr,none⟩=some (.int .i64 f0):=hc0
 have HF0:=Lib.hid (And.intro hf0 (And.intro hf1 hf2))
 clear hf0 hf1 hf2
 clear x0 x1 x2 x3 x4
 go_cut [8,9,10] (fun s8 s9 s10 wx=>ErrAt W m f0 f2 s8 s9 s10 wx)
 case first=>
  obtain ⟨x0,x1,x2,x3,x4⟩:=hX.five
  have C0:=stab x0
  have C1:=stab x1
  have C2:=stab x2
  have C3:=stab x3
  have C4:=stab x4
  have D0:=stab hc0
  have D2:=stab hc2
  have hS0:=below_drew' W
  clear x0 x1 x2 x3 x4 hc0 hc2 hc1
  refine region_plan 15 (.go 0 (.go 1 (.go 3 (.go 4 (.go 5 (.go 6 (.go 7 (.go 8 (.go 9 (.go 10 (.fork 2 (.go 12 (.go 11 (.go 13 (.go 14 .done)))) 11 (.go 2 (.go 12 (.go 13 (.go 14 .done))))))))))))))) (by kernel_rfl) (by kernel_rfl) ?_
  repeat ((first | (refine plan_takeP (v:=?_) rfl rfl rfl ?_ ?_;rotate_left;(· (intro _ hSw;go_simp;(try go_bits);(try with_reducible rfl)))) | (refine plan_take (v:=?_) rfl rfl rfl ?_ ?_;rotate_left;(· (intro _ hSw;go_simp;(try go_bits);(try with_reducible rfl)))) | refine plan_skip rfl rfl rfl ?_ | refine plan_skipc rfl rfl rfl (by assumption) ?_);(try simp only [Act.put,pu1,pu2,pu3,pu4,pu5,pu6]))
  refine plan_fork rfl rfl (fun KR hKR=>?_) (fun KR hKR=>?_)
  ·go_simp
   refine (lawSel_own _ m N1 _ (HM.out.1.below hS0) HOK.out).mono ?_
   rintro _ wA ⟨vA,s,rfl,hA,hsel,hbA⟩
   have hSA:=below_then hS0 hbA hS0.size
   obtain ⟨A4,n4,c4,rfl⟩:=hA.sliceN
   have HA:=Lib.hid (And.intro hA.ints hsel)
   clear hA hsel
   refine hKR.out _ _ (Or.inr hSA) ?_
   clear hKR KR
   (try simp only [Act.put,pu1,pu2,pu3,pu4,pu5,pu6])
   repeat ((first | (refine plan_takeP (v:=?_) rfl rfl rfl ?_ ?_;rotate_left;(· (intro _ hSw;go_simp;(try go_bits);(try with_reducible rfl)))) | (refine plan_take (v:=?_) rfl rfl rfl ?_ ?_;rotate_left;(· (intro _ hSw;go_simp;(try go_bits);(try with_reducible rfl)))) | refine plan_skip rfl rfl rfl ?_ | refine plan_skipc rfl rfl rfl (by assumption) ?_);(try simp only [Act.put,pu1,pu2,pu3,pu4,pu5,pu6]))
   have hbn:=below_new wA (.cells #[.int .i64 f0,.int .i64 f2] 3)
   have hSB:=below_then hSA hbn hSA.size
   have hL:=lit_ints (zs:=[f0,f2]) (Bk.new wA 3 [.int .i64 f0,.int .i64 f2]) rfl (by simp) (by simp;omega)
   have HL:Hid (IntsM (wA.alloc (.cells #[.int .i64 f0,.int .i64 f2] 3)) (.slice (some ⟨wA.heap.size,0,none⟩) 2 2) [f0,f2]):=Lib.hid hL.ints
   have HA2:=Lib.hid (And.intro (HA.out.1.below hbn) HA.out.2)
   refine plan_step rfl rfl (fun KR hKR=>?_)
   go_simp
   clear hL
   refine hKR.out _ _ (Or.inr hSB) ?_
   clear hKR KR
   (try simp only [Act.put,pu1,pu2,pu3,pu4,pu5,pu6])
   repeat ((first | (refine plan_takeP (v:=?_) rfl rfl rfl ?_ ?_;rotate_left;(· (intro _ hSw;go_simp;(try go_bits);(try with_reducible rfl)))) | (refine plan_take (v:=?_) rfl rfl rfl ?_ ?_;rotate_left;(· (intro _ hSw;go_simp;(try go_bits);(try with_reducible rfl)))) | refine plan_skip rfl rfl rfl ?_ | refine plan_skipc rfl rfl rfl (by assumption) ?_);(try simp only [Act.put,pu1,pu2,pu3,pu4,pu5,pu6]))
   refine plan_done ?_
   go_wp2_with fail
   go_meet
   exact ⟨_,_,_,_,s,rfl,rfl,rfl,hSB,Lib.hid ⟨HA2.out.1,HA2.out.2,HL.out⟩⟩
  ·have hbn:=below_new W (.cells #[.int .i64 f0,.int .i64 f2] 3)
   have hSB:=below_then hbn (below_drew' (W.alloc (.cells #[.int .i64 f0,.int .i64 f2] 3))) hbn.size
   have hL:=lit_ints (zs:=[f0,f2]) (Bk.new W 3 [.int .i64 f0,.int .i64 f2]) rfl (by simp) (by simp;omega)
   have HL:Hid (IntsM (W.alloc (.cells #[.int .i64 f0,.int .i64 f2] 3)).drew (.slice (some ⟨W.heap.size,0,none⟩) 2 2) [f0,f2]):=Lib.hid (hL.ints.below (below_drew' (W.alloc (.cells #[.int .i64 f0,.int .i64 f2] 3))))
   go_simp
   clear hL
   refine hKR.out _ _ (Or.inr hSB) ?_
   clear hKR KR
   (try simp only [Act.put,pu1,pu2,pu3,pu4,pu5,pu6])
   generalize hWB:(W.alloc (.cells #[.int .i64 f0,.int .i64 f2] 3)).drew=WB at *
   clear hWB hbn
   refine plan_step rfl rfl (fun KR hKR=>?_)
   go_simp
   refine (lawSel_own _ m N1 _ (HM.out.1.below hSB) HOK.out).mono ?_
   rintro _ wA ⟨vA,s,rfl,hA,hsel,hbA⟩
   have hSA:=below_then hSB hbA hSB.size
   obtain ⟨A4,n4,c4,rfl⟩:=hA.sliceN
   have HA:=Lib.hid (And.intro hA.ints hsel)
   clear hA hsel
   have HL2:=Lib.hid (HL.out.below hbA)
   refine hKR.out _ _ (Or.inr hSA) ?_
   clear hKR KR
   (try simp only [Act.put,pu1,pu2,pu3,pu4,pu5,pu6])
   repeat ((first | (refine plan_takeP (v:=?_) rfl rfl rfl ?_ ?_;rotate_left;(· (intro _ hSw;go_simp;(try go_bits);(try with_reducible rfl)))) | (refine plan_take (v:=?_) rfl rfl rfl ?_ ?_;rotate_left;(· (intro _ hSw;go_simp;(try go_bits);(try with_reducible rfl)))) | refine plan_skip rfl rfl rfl ?_ | refine plan_skipc rfl rfl rfl (by assumption) ?_);(try simp only [Act.put,pu1,pu2,pu3,pu4,pu5,pu6]))
   refine plan_done ?_
   go_wp2_with fail
   go_meet
   exact ⟨_,_,_,_,s,rfl,rfl,rfl,hSA,Lib.hid ⟨HA.out.1,HA.out.2,HL2.out⟩⟩
 case rest=>
  clear hc0 hc2
  obtain ⟨g5,A4,n4,c4,s,rfl,rfl,rfl,hS5,HV⟩:=hcut
  have hX5:=hX.later hS5
  have HM5:=Lib.hid (And.intro (HM.out.1.below hS5) (HM.out.2.below hS5))
  have hbe5:=below_then hbe hS5 hbe.size
  have HI5:=Lib.hid HV.out.1
  have HSEL:=Lib.hid HV.out.2.1
  have HL5:=Lib.hid HV.out.2.2
  have hy5:=cell_keep hS5 hc1
  clear hS5 hX HM hbe hc1 HV
  generalize wc=w5 at *
  have HFG:Hid ([f0,f2].Sublist m.rows):=Lib.hid (by
   obtain ⟨hf0,hf1,hf2⟩:=HF0.out
   have e0:=HOK.out.asc
   match hr:m.rows,hf0,hf1,hf2 with
   | [],h0,_,_=>simp at h0
   | [_],_,h1,_=>simp at h1
   | [_,_],_,_,h2=>simp at h2
   | a::b::d::r,h0,h1,h2=>
    simp at h0 h1 h2
    subst h0 h1 h2
    exact List.Sublist.cons_cons _ (List.Sublist.cons _ (List.Sublist.cons_cons _ (List.nil_sublist _))))
  obtain ⟨x0,x1,x2,x3,x4⟩:=hX5.five
  have hy:y=0∨y=1∨y=2∨y=3∨y=4∨y=5∨y=6∨y=7:=by omega
  rcases hy with rfl | rfl | rfl | rfl | rfl | rfl | rfl | rfl
  ·go_upto_region 18 with (fail)
   have hbn:=below_new w5 (.cells #[.int .i64 (n':Int)] 3)
   have hL:=lit_ints (zs:=[(n':Int)]) (Bk.new w5 3 [.int .i64 (n':Int)]) rfl (by simp) (by simp;try omega)
   have HB6:Hid (IntsM (w5.alloc (.cells #[.int .i64 (n':Int)] 3)) (.slice (some ⟨w5.heap.size,0,none⟩) 1 1) [(n':Int)]):=Lib.hid hL.ints
   have hX6:=hX5.later hbn
   have HM6:=Lib.hid (HM5.out.1.below hbn)
   have HI6:=Lib.hid (And.intro (HI5.out.below hbn) (HL5.out.below hbn))
   have hbe6:=below_then hbe5 hbn hbe5.size
   clear x0 x1 x2 x3 x4 hX5 HM5 hbe5 hL hbn
   generalize w5.alloc (.cells #[.int .i64 (n':Int)] 3)=w6 at *
   generalize w5.heap.size=g6 at *
   obtain ⟨x0,x1,x2,x3,x4⟩:=hX6.five
   have HER:Hid (selErr (dcs m) [(n':Int)]=5):=Lib.hid (selErr_5 fun h=>by
    have:=h (n':Int) (by simp)
    rw [dcs_len,← HN.out.1] at this
    omega)
   go_wp2_with fail
   refine (improve_sel _ _ _ m [(n':Int)] [f0,f2] 5 _ HM6.out HOK.out HB6.out (by rw [HER.out];decide) HI6.out.2).mono ?_
   rw [HER.out]
   rintro _ w9 ⟨rfl,hb9⟩
   have hbe9:=below_then hbe6 hb9 hbe6.size
   go_wp2_with fail
   refine (known_any _).mono ?_
   rintro _ w10 ⟨rfl,hb10⟩
   have hbe10:=below_then hbe9 hb10 hbe9.size
   go_wp2
   go_ret
   exact ⟨rfl,hbe10⟩
  ·go_upto_region 8 with (fail)
   have C1:=stab x1
   have D1:=stab hy5
   have hS0:=below_drew' w5
   clear x0 x1 x2 x3 x4
   refine region_seq 11 [0,1,2,3,4,5,6,7,8,9,10] (by kernel_rfl) (by kernel_rfl) ?_
   repeat ((first | (refine seq_takeP (v:=?_) rfl rfl rfl ?_ ?_;rotate_left;(· (intro _ hSw;go_simp;(try go_bits);(try with_reducible rfl)))) | (refine seq_take (v:=?_) rfl rfl rfl ?_ ?_;rotate_left;(· (intro _ hSw;go_simp;(try go_bits);(try with_reducible rfl)))) | refine seq_skip rfl rfl rfl ?_);(try simp only [Act.put,pu1,pu2,pu3,pu4,pu5,pu6]))
   refine seq_step rfl rfl (fun KR hKR=>?_)
   go_simp
   have hbn:=below_new w5 (.cells #[.int .i64 f1,.int .i64 f1] 3)
   have hS6:=below_then hbn (below_drew' (w5.alloc (.cells #[.int .i64 f1,.int .i64 f1] 3))) hbn.size
   have hL:=lit_ints (zs:=[f1,f1]) (Bk.new w5 3 [.int .i64 f1,.int .i64 f1]) rfl (by simp) (by simp;omega)
   have HB6:Hid (IntsM (w5.alloc (.cells #[.int .i64 f1,.int .i64 f1] 3)).drew (.slice (some ⟨w5.heap.size,0,none⟩) 2 2) [f1,f1]):=Lib.hid (hL.ints.below (below_drew' (w5.alloc (.cells #[.int .i64 f1,.int .i64 f1] 3))))
   refine hKR.out _ _ (Or.inr hS6) ?_
   clear hKR KR
   (try simp only [Act.put,pu1,pu2,pu3,pu4,pu5,pu6])
   repeat ((first | (refine seq_takeP (v:=?_) rfl rfl rfl ?_ ?_;rotate_left;(· (intro _ hSw;go_simp;(try go_bits);(try with_reducible rfl)))) | (refine seq_take (v:=?_) rfl rfl rfl ?_ ?_;rotate_left;(· (intro _ hSw;go_simp;(try go_bits);(try with_reducible rfl)))) | refine seq_skip rfl rfl rfl ?_);(try simp only [Act.put,pu1,pu2,pu3,pu4,pu5,pu6]))
   refine seq_done ?_
   have hX6:=hX5.later hS6
   have HM6:=Lib.hid (HM5.out.1.below hS6)
   have HI6:=Lib.hid (HI5.out.below hS6)
   have hbe6:=below_then hbe5 hS6 hbe5.size
   clear C1 D1 hX5 HM5 hbe5 hL hbn hS0 hS6
   generalize (w5.alloc (.cells #[.int .i64 f1,.int .i64 f1] 3)).drew=w6 at *
   generalize w5.heap.size=g6 at *
   obtain ⟨x0,x1,x2,x3,x4⟩:=hX6.five
   go_wp2_with fail
   refine (improve_free _ _ _ m s [f1,f1] 5 _ HM6.out HOK.out HI6.out HSEL.out HB6.out (by simp) (fun h _=>by simp at h)).mono ?_
   rintro _ w9 ⟨rfl,hb9⟩
   have hbe9:=below_then hbe6 hb9 hbe6.size
   go_wp2_with fail
   refine (known_any _).mono ?_
   rintro _ w10 ⟨rfl,hb10⟩
   have hbe10:=below_then hbe9 hb10 hbe9.size
   go_wp2
   go_ret
   exact ⟨rfl,hbe10⟩
  ·go_upto_region 18 with (fail)
   have hbn:=below_new w5 (.cells #[.int .i64 9] 3)
   have hL:=lit_ints (zs:=[9]) (Bk.new w5 3 [.int .i64 9]) rfl (by simp) (by simp;try omega)
   have HB6:Hid (IntsM (w5.alloc (.cells #[.int .i64 9] 3)) (.slice (some ⟨w5.heap.size,0,none⟩) 1 1) [9]):=Lib.hid hL.ints
   have hX6:=hX5.later hbn
   have HM6:=Lib.hid (HM5.out.1.below hbn)
   have HI6:=Lib.hid (And.intro (HI5.out.below hbn) (HL5.out.below hbn))
   have hbe6:=below_then hbe5 hbn hbe5.size
   clear x0 x1 x2 x3 x4 hX5 HM5 hbe5 hL hbn
   generalize w5.alloc (.cells #[.int .i64 9] 3)=w6 at *
   generalize w5.heap.size=g6 at *
   obtain ⟨x0,x1,x2,x3,x4⟩:=hX6.five
   go_wp2_with fail
   refine (improve_free _ _ _ m s [9] 5 _ HM6.out HOK.out HI6.out.1 HSEL.out HB6.out (by simp) (fun _ h=>by
    have h1:=HOK.out.rb 9 (h 9 (by simp))
    rw [HFE.out,HFL.out] at h1
    omega)).mono ?_
   rintro _ w9 ⟨rfl,hb9⟩
   have hbe9:=below_then hbe6 hb9 hbe6.size
   go_wp2_with fail
   refine (known_any _).mono ?_
   rintro _ w10 ⟨rfl,hb10⟩
   have hbe10:=below_then hbe9 hb10 hbe9.size
   go_wp2
   go_ret
   exact ⟨rfl,hbe10⟩
  ·go_wp2_with fail
   refine (improve_free _ _ _ m s [f0,f2] (-1) _ HM5.out.1 HOK.out HI5.out HSEL.out HL5.out (by simp) (fun _ _=>by decide)).mono ?_
   rintro _ w9 ⟨rfl,hb9⟩
   have hbe9:=below_then hbe5 hb9 hbe5.size
   go_wp2_with fail
   refine (known_any _).mono ?_
   rintro _ w10 ⟨rfl,hb10⟩
   have hbe10:=below_then hbe9 hb10 hbe9.size
   go_wp2
   go_ret
   exact ⟨rfl,hbe10⟩
  ·have fz:=hX5.frozen 1
   have hX6:=hX5.set_ 1 (.slice none 0 0)
   have hbe6:=hbe5.setCell (p:=⟨gm,1,none⟩) hgm (.slice none 0 0)
   go_upto_region 18 with (fail)
   clear x0 x1 x2 x3 x4 hX5 hbe5
   generalize w5.setCell ⟨gm,1,none⟩ (.slice none 0 0)=w6 at *
   obtain ⟨x0,x1,x2,x3,x4⟩:=Bk.five hX6
   go_wp2_with fail
   refine (improve_rows F P none A' A'' 0 n' c' n'' c'' _ _ 5 _ hF0 hF1 hP0 hP1).mono ?_
   rintro _ w9 ⟨rfl,hb9⟩
   have hbe9:=below_then hbe6 hb9 hbe6.size
   go_wp2_with fail
   refine (known_any _).mono ?_
   rintro _ w10 ⟨rfl,hb10⟩
   have hbe10:=below_then hbe9 hb10 hbe9.size
   go_wp2
   go_ret
   exact ⟨rfl,hbe10⟩
  ·rcases Nat.eq_zero_or_pos n' with hz | hp
   ·have hpz:¬(0:Int) < n':=by omega
    clear hz
    have HIMP:=Lib.hid (improve_own _ _ _ m s [f0,f2] 5 _ HM5.out.1 HOK.out HI5.out HSEL.out HL5.out HFG.out (by decide))
    unfold ImpPost at HIMP
    generalize impP m s [f0,f2] 5=r at *
    go_wp2_with fail
    refine HIMP.out.mono ?_
    clear HIMP
    rintro _ w9 ⟨v9,rfl,h9,hb9⟩
    have hbe9:=below_then hbe5 hb9 hbe5.size
    generalize (r.1.used:Int)=us at *
    generalize r.2=dn at *
    clear h9
    go_wp2_with fail
    refine (known_any _).mono ?_
    rintro _ w10 ⟨rfl,hb10⟩
    have hbe10:=below_then hbe9 hb10 hbe9.size
    go_wp2
    go_ret
    exact ⟨rfl,hbe10⟩
   ·have hpz:(0:Int) < n':=by omega
    have HPZ:=Lib.hid hp
    clear hp
    go_upto_region 18 with (fail)
    have hbn:=below_new w5 (.cells #[.int .i64 0,.int .i64 0] 3)
    have hL:=lit_ints (zs:=[0,0]) (Bk.new w5 3 [.int .i64 0,.int .i64 0]) rfl (by simp) (by simp;try omega)
    have HB6:Hid (IntsM (w5.alloc (.cells #[.int .i64 0,.int .i64 0] 3)) (.slice (some ⟨w5.heap.size,0,none⟩) 2 2) [0,0]):=Lib.hid hL.ints
    have hX6:=hX5.later hbn
    have HM6:=Lib.hid (HM5.out.1.below hbn)
    have HI6:=Lib.hid (And.intro (HI5.out.below hbn) (HL5.out.below hbn))
    have hbe6:=below_then hbe5 hbn hbe5.size
    clear x0 x1 x2 x3 x4 hX5 HM5 hbe5 hL hbn
    generalize w5.alloc (.cells #[.int .i64 0,.int .i64 0] 3)=w6 at *
    generalize w5.heap.size=g6 at *
    obtain ⟨x0,x1,x2,x3,x4⟩:=hX6.five
    have HER:Hid (selErr (dcs m) [0,0]=8):=Lib.hid (selErr_8 (fun i hi=>by
     have hi0:i=0:=by simpa using hi
     have:=HPZ.out
     rw [dcs_len,← HN.out.1]
     omega) (by simp))
    go_wp2_with fail
    refine (improve_sel _ _ _ m [0,0] [f0,f2] 5 _ HM6.out HOK.out HB6.out (by rw [HER.out];decide) HI6.out.2).mono ?_
    rw [HER.out]
    rintro _ w9 ⟨rfl,hb9⟩
    have hbe9:=below_then hbe6 hb9 hbe6.size
    go_wp2_with fail
    refine (known_any _).mono ?_
    rintro _ w10 ⟨rfl,hb10⟩
    have hbe10:=below_then hbe9 hb10 hbe9.size
    go_wp2
    go_ret
    exact ⟨rfl,hbe10⟩
  ·skip
   have HIMP:=Lib.hid (improve_own _ _ _ m s [f0,f2] 5 _ HM5.out.1 HOK.out HI5.out HSEL.out HL5.out HFG.out (by decide))
   unfold ImpPost at HIMP
   generalize impP m s [f0,f2] 5=r at *
   go_wp2_with fail
   refine HIMP.out.mono ?_
   clear HIMP
   rintro _ w9 ⟨v9,rfl,h9,hb9⟩
   have hbe9:=below_then hbe5 hb9 hbe5.size
   generalize (r.1.used:Int)=us at *
   generalize r.2=dn at *
   clear h9
   go_wp2_with fail
   refine (known_any _).mono ?_
   rintro _ w10 ⟨rfl,hb10⟩
   have hbe10:=below_then hbe9 hb10 hbe9.size
   go_wp2
   go_ret
   exact ⟨rfl,hbe10⟩
  ·skip
   have HIMP:=Lib.hid (improve_own _ _ _ m s [f0,f2] 5 _ HM5.out.1 HOK.out HI5.out HSEL.out HL5.out HFG.out (by decide))
   unfold ImpPost at HIMP
   generalize impP m s [f0,f2] 5=r at *
   go_wp2_with fail
   refine HIMP.out.mono ?_
   clear HIMP
   rintro _ w9 ⟨v9,rfl,h9,hb9⟩
   have hbe9:=below_then hbe5 hb9 hbe5.size
   generalize (r.1.used:Int)=us at *
   generalize r.2=dn at *
   clear h9
   go_wp2_with fail
   refine (known_any _).mono ?_
   rintro _ w10 ⟨rfl,hb10⟩
   have hbe10:=below_then hbe9 hb10 hbe9.size
   go_wp2
   go_ret
   exact ⟨rfl,hbe10⟩
end
end Go.Proofs.Ytgdcbjligbnpgaa
