/- Lemmas of the claim; no condition. -/
import Derived.Test.YtgdcbjligbnpgaaGreatH11
set_option linter.all false
set_option maxRecDepth 100000
set_option maxHeartbeats 40000000
namespace Go.Proofs.YtgdcbjligbnpgaaGreat
open Go.RowKit
open Pl
attribute [local go_sem ↓] Go.wp_at_zero Go.wp_at_succ
theorem u32_or {a b:Nat} (ha:a < 4294967296) (hb:b < 4294967296):bits .or .u32 (a:Int) (b:Int)=((a ||| b:Nat):Int):=by
 have key:(BitVec.ofInt 32 (a:Int) ||| BitVec.ofInt 32 (b:Int)).toNat=a ||| b:=by
  rw [BitVec.toNat_or,BitVec.toNat_ofInt,BitVec.toNat_ofInt]
  have e1:((a:Int) % ((2^32:Nat):Int)).toNat=a:=by omega
  have e2:((b:Int) % ((2^32:Nat):Int)).toNat=b:=by omega
  rw [e1,e2]
 show IntKind.u32.wrap ((BitVec.ofInt 32 (a:Int) ||| BitVec.ofInt 32 (b:Int)).toNat:Nat)=_
 rw [key]
 have hlt:a ||| b < 2^32:=Nat.or_lt_two_pow ha hb
 rw [IntKind.wrap_u32]
 omega
theorem u32_and {a b:Nat} (ha:a < 4294967296) (hb:b < 4294967296):bits .and .u32 (a:Int) (b:Int)=((a &&& b:Nat):Int):=by
 have key:(BitVec.ofInt 32 (a:Int) &&& BitVec.ofInt 32 (b:Int)).toNat=a &&& b:=by
  rw [BitVec.toNat_and,BitVec.toNat_ofInt,BitVec.toNat_ofInt]
  have e1:((a:Int) % ((2^32:Nat):Int)).toNat=a:=by omega
  have e2:((b:Int) % ((2^32:Nat):Int)).toNat=b:=by omega
  rw [e1,e2]
 show IntKind.u32.wrap ((BitVec.ofInt 32 (a:Int) &&& BitVec.ofInt 32 (b:Int)).toNat:Nat)=_
 rw [key]
 have hlt:a &&& b < 2^32:=Nat.and_lt_two_pow a hb
 rw [IntKind.wrap_u32]
 omega
namespace Pl
def iL (l:List Nat):List Int:=l.map fun (r:Nat)=>(r:Int)
def zeroDc:Dc:=⟨0,0,[],0⟩
end Pl
def DcR (w:World) (x:Dc) (u:List Value):Prop:=∃A n c,u=[.int .i64 (x.idx:Int),.int .u32 (x.mask:Int),.slice A n c,.int .i64 x.sur]∧IntsT w (.slice A n c) (iL x.rows)
def DcsM:World→Value→List Dc→Prop:=RdM DcR 79 4
def DcsO:Nat→World→Value→List Dc→Prop:=RdO DcR 79 4
theorem DcR.below {w w':World} {x:Dc} {u:List Value} (h:DcR w x u) (hb:Below w.heap.size w w'):DcR w' x u:=by
 obtain ⟨A,n,c,h1,h2⟩:=h;exact ⟨A,n,c,h1,h2.below hb⟩
theorem DcR.but {w w':World} {e:TypeId} {x:Dc} {u:List Value} (h:DcR w x u) (hk:KeepBut e w w') (h1:3≠e):DcR w' x u:=by
 obtain ⟨A,n,c,g1,g2⟩:=h;exact ⟨A,n,c,g1,g2.but hk h1⟩
theorem DcsM.below {w w':World} {v:Value} {l:List Dc} (h:DcsM w v l) (hb:Below w.heap.size w w'):DcsM w' v l:=RdM.below h hb fun _ _ h=>h.below hb
theorem DcsO.below {base:Nat} {w w':World} {v:Value} {l:List Dc} (h:DcsO base w v l) (hb:Below w.heap.size w w'):DcsO base w' v l:=RdO.below h hb fun _ _ h=>h.below hb
theorem DcsM.elem {w wr:World} {A:Option Addr} {n c:Nat} {l:List Dc} (h:DcsM w (.slice A n c) l) (hb:Below w.heap.size w wr) {k:Nat} {x:Dc} (hx:l[k]? =some x):
 ∃b off A1 n1 c1,A=some ⟨b,off,none⟩∧b < w.heap.size∧(wr.cell? ⟨b,off+k * 4,none⟩=some (.int .i64 (x.idx:Int))∧wr.cell? ⟨b,off+k * 4+1,none⟩=some (.int .u32 (x.mask:Int))∧wr.cell? ⟨b,off+k * 4+2,none⟩=some (.slice A1 n1 c1)∧wr.cell? ⟨b,off+k * 4+3,none⟩=some (.int .i64 x.sur))∧IntsT wr (.slice A1 n1 c1) (iL x.rows):=by
 obtain ⟨b,off,u,hA,hlt,⟨A1,n1,c1,rfl,hD⟩,hl,hc⟩:=RdM.elem h hx
 exact ⟨b,off,A1,n1,c1,hA,hlt,⟨cell_keep hb (hc 0 _ rfl),cell_keep hb (hc 1 _ rfl),cell_keep hb (hc 2 _ rfl),cell_keep hb (hc 3 _ rfl)⟩,hD.below hb⟩
theorem info_dcol:(Tryz.prog.info? 79).map (fun i=>(i.zero,i.size,i.bytes))=some (some (.agg #[.int .i64 0,.int .u32 0,.slice none 0 0,.int .i64 0]),4,48):=by kernel_rfl
def zdc (n:Nat):Array Value:=madeCells (Value.cells (.agg #[.int .i64 0,.int .u32 0,.slice none 0 0,.int .i64 0])) (n * 4)
theorem zdc_at {n k j:Nat} (hk:k < n) (hj:j < 4):(zdc n)[k * 4+j]? =([.int .i64 0,.int .u32 0,.slice none 0 0,.int .i64 0]:List Value)[j]? :=by
 have hlt:k * 4+j < n * 4:=by omega
 have hm:(k * 4+j) % 4=j:=by omega
 unfold zdc madeCells
 simp [hlt,Value.cells,hm]
 match j,hj with
 | 0,_=>rfl
 | 1,_=>rfl
 | 2,_=>rfl
 | 3,_=>rfl
theorem DcsO.zeros (w:World) (n:Nat) (hn:n≤maxLen):DcsO w.heap.size (w.alloc (.cells (zdc n) 79)) (.slice (some ⟨w.heap.size,0,none⟩) n n) (List.replicate n zeroDc):=by
 have hsz:(zdc n).size=n * 4:=size_madeCells _ _
 refine ⟨(zdc n).toList,⟨by simp [hsz],.inr ⟨w.heap.size,n,zdc n,by simp,Nat.le_refl _,heap_alloc_new w _,by simp,hn,hsz,?_⟩⟩,fun k f hf=>?_⟩
 ·rw [List.take_of_length_le (by simp [hsz])]
 ·rw [List.getElem?_replicate] at hf
  split at hf
  ·rename_i hk
   injection hf with hf
   subst hf
   refine ⟨[.int .i64 0,.int .u32 0,.slice none 0 0,.int .i64 0],⟨none,0,0,rfl,IntsT.nil _ _ _ (Nat.zero_le _)⟩,rfl,fun j y hj=>?_⟩
   have hj4:j < 4:=by have:=(List.getElem?_eq_some_iff.1 hj).1;simpa using this
   have:=zdc_at hk hj4
   rw [Array.getElem?_toList,this];exact hj
  ·cases hf
theorem make_dcs (n:Nat) (hn:n≤1099511627776) (w:World):
 (Instr.makeSlice 75 (.int .i64 (n:Int)) (.int .i64 (n:Int))).run Tryz.prog w= .ok (.slice (some ⟨w.heap.size,0,none⟩) n n) (w.alloc (.cells (zdc n) 79)):=by
 obtain ⟨i0,hi,hz0,hz1,hz2⟩:=info_parts info_dcol
 have hb:(i0.bytes:Int) * (n:Int)≤281474976710656:=by rw [hz2];omega
 have hr:=run_make (P:=Tryz.prog) w 75 79 i0 _ Tryz.underlying75 hi hz0 .i64 .i64 n n (by omega) (by omega) hb (by omega)
 simp only [Int.toNat_natCast,hz1] at hr
 exact hr
theorem DcsO.set_ {base:Nat} {w:World} {g n c:Nat} {l:List Dc} (h:DcsO base w (.slice (some ⟨g,0,none⟩) n c) l) {k:Nat} (hk:k < l.length) {A:Option Addr} {n1 c1:Nat} {x:Dc} (hx:IntsT w (.slice A n1 c1) (iL x.rows)):
 DcsO base ((((w.setCell ⟨g,k * 4,none⟩ (.int .i64 (x.idx:Int))).setCell ⟨g,k * 4+1,none⟩ (.int .u32 (x.mask:Int))).setCell ⟨g,k * 4+2,none⟩ (.slice A n1 c1)).setCell ⟨g,k * 4+3,none⟩ (.int .i64 x.sur)) (.slice (some ⟨g,0,none⟩) n c) (l.set k x)∧
 KeepBut 79 w ((((w.setCell ⟨g,k * 4,none⟩ (.int .i64 (x.idx:Int))).setCell ⟨g,k * 4+1,none⟩ (.int .u32 (x.mask:Int))).setCell ⟨g,k * 4+2,none⟩ (.slice A n1 c1)).setCell ⟨g,k * 4+3,none⟩ (.int .i64 x.sur)):=by
 obtain ⟨cs,h1,h2⟩:=h
 have hn:n=l.length:=(RowM.of_own h1).len
 subst hn
 have hl:=h1.1
 have o1:=row_set h1 (k * 4) (.int .i64 (x.idx:Int)) (by omega)
 have o2:=row_set o1 (k * 4+1) (.int .u32 (x.mask:Int)) (by simp;omega)
 have o3:=row_set o2 (k * 4+2) (.slice A n1 c1) (by simp;omega)
 have o4:=row_set o3 (k * 4+3) (.int .i64 x.sur) (by simp;omega)
 obtain ⟨_,b0,_⟩:=row_block h1
 obtain ⟨_,b1,_⟩:=row_block o1
 obtain ⟨_,b2,_⟩:=row_block o2
 obtain ⟨_,b3,_⟩:=row_block o3
 have kp:=(((KeepBut.setCell b0 (k * 4) (.int .i64 (x.idx:Int))).trans (KeepBut.setCell b1 (k * 4+1) (.int .u32 (x.mask:Int)))).trans (KeepBut.setCell b2 (k * 4+2) (.slice A n1 c1))).trans (KeepBut.setCell b3 (k * 4+3) (.int .i64 x.sur))
 refine ⟨⟨_,by rw [List.length_set];exact o4,fun j y hy=>?_⟩,kp⟩
 by_cases hjk:k=j
 ·subst hjk
  rw [List.getElem?_set_self hk] at hy
  injection hy with hy
  subst hy
  refine ⟨_,⟨A,n1,c1,rfl,hx.but kp (by decide)⟩,rfl,fun i z hi=>?_⟩
  have hi4:i < 4:=by have:=(List.getElem?_eq_some_iff.1 hi).1;simpa using this
  match i,hi4,hi with
  | 0,_,hi=>rw [show k * 4+0=k * 4 from rfl,List.getElem?_set_ne (by omega),List.getElem?_set_ne (by omega),List.getElem?_set_ne (by omega),List.getElem?_set_self (by omega)];exact hi
  | 1,_,hi=>rw [List.getElem?_set_ne (by omega),List.getElem?_set_ne (by omega),List.getElem?_set_self (by simp;omega)];exact hi
  | 2,_,hi=>rw [List.getElem?_set_ne (by omega),List.getElem?_set_self (by simp;omega)];exact hi
  | 3,_,hi=>rw [List.getElem?_set_self (by simp;omega)];exact hi
 ·rw [List.getElem?_set_ne hjk] at hy
  obtain ⟨u,a1,a2,a3⟩:=h2 j y hy
  refine ⟨u,a1.but kp (by decide),a2,fun i z hi=>?_⟩
  have hi4:i < 4:=by have:=(List.getElem?_eq_some_iff.1 hi).1;omega
  rw [List.getElem?_set_ne (by omega),List.getElem?_set_ne (by omega),List.getElem?_set_ne (by omega),List.getElem?_set_ne (by omega)]
  exact a3 i z hi
structure BlX (B g:Nat) (w w':World):Prop where
 os:w'.os=w.os
 tape:w'.tape=w.tape
 output:w'.output=w.output
 size:w.heap.size≤w'.heap.size
 block:∀k,k < B→k≠g→w'.heap[k]? =w.heap[k]?
theorem BlX.refl (B g:Nat) (w:World):BlX B g w w:=⟨rfl,rfl,rfl,Nat.le_refl _,fun _ _ _=>rfl⟩
theorem BlX.of_below {B g:Nat} {w w':World} (h:Below B w w'):BlX B g w w':=⟨h.os,h.tape,h.output,h.size,fun k hk _=>h.block k hk⟩
theorem BlX.trans {B g:Nat} {a b c:World} (h:BlX B g a b) (k:BlX B g b c):BlX B g a c:=⟨k.os.trans h.os,k.tape.trans h.tape,k.output.trans h.output,Nat.le_trans h.size k.size,fun i hi hn=>(k.block i hi hn).trans (h.block i hi hn)⟩
theorem BlX.mono {B B' g:Nat} {w w':World} (h:BlX B g w w') (hB:B'≤B):BlX B' g w w':=⟨h.os,h.tape,h.output,h.size,fun k hk hn=>h.block k (Nat.lt_of_lt_of_le hk hB) hn⟩
theorem BlX.below {B B' g:Nat} {w w':World} (h:BlX B g w w') (hB:B'≤B) (hg:B'≤g):Below B' w w':=⟨h.os,h.tape,h.output,h.size,fun k hk=>h.block k (Nat.lt_of_lt_of_le hk hB) (by omega)⟩
theorem BlX.then {B g:Nat} {a b c:World} (h:BlX B g a b) (k:Below b.heap.size b c) (hB:B≤b.heap.size):BlX B g a c:=h.trans (BlX.of_below (k.mono hB))
theorem BlX.setCell {B g:Nat} {w w':World} (h:BlX B g w w') (i:Nat) (u:Value):BlX B g w (w'.setCell ⟨g,i,none⟩ u):=by
 have hb:Below g w' (w'.setCell ⟨g,i,none⟩ u):=(Below.refl _ _).setCell (p:=⟨g,i,none⟩) (Nat.le_refl _) u
 exact ⟨hb.os.trans h.os,hb.tape.trans h.tape,hb.output.trans h.output,Nat.le_trans h.size hb.size,fun k hk hn=>(heap_setCell_other w' _ _ _ hn).trans (h.block k hk hn)⟩
theorem BlX.bk {B g b:Nat} {w w':World} {t:TypeId} {cs:List Value} (h:BlX B g w w') (hb:Bk w b t cs) (hB:b < B) (hn:b≠g):Bk w' b t cs:=(h.block b hB hn).trans hb
theorem RowM.blx {w w':World} {t:TypeId} {s n g:Nat} {v:Value} {xs:List Value} (h:RowM w t s v n xs) (hx:BlX w.heap.size g w w') (hg:∀cs fz,w.heap[g]? ≠some (.cells cs t fz)):RowM w' t s v n xs:=by
 obtain ⟨A,c,h1,h2,h3,h4,h5⟩:=h
 refine ⟨A,c,h1,h2,h3,h4,fun hp=>?_⟩
 obtain ⟨b,off,cs,fz,hA,hc,hcell⟩:=h5 hp
 exact ⟨b,off,cs,fz,hA,(hx.block b (lt_heap hc) (fun e=>hg cs fz (e▸hc))).trans hc,hcell⟩
theorem Bk.not_type {w:World} {g:Nat} {t t':TypeId} {cs:List Value} (h:Bk w g t cs) (hne:t≠t'):∀cs' fz,w.heap[g]? ≠some (.cells cs' t' fz):=fun cs' fz e=>by
 unfold Bk at h
 rw [h] at e
 injection e with e
 injection e with _ e2 _
 exact hne e2
theorem IntsT.blx {w w':World} {g:Nat} {t:TypeId} {v:Value} {zs cs:List _} (h:IntsT w v zs) (hx:BlX w.heap.size g w w') (hg:Bk w g t cs) (ht:t≠3):IntsT w' v zs:=⟨h.1.blx hx (hg.not_type ht),h.2⟩
theorem Bk.fourV {w:World} {g:Nat} {t:TypeId} {a b c d:Value} (h:Bk w g t [a,b,c,d]):(w.cell? ⟨g,0,none⟩=some a∧w.cell? ⟨g,1,none⟩=some b∧w.cell? ⟨g,2,none⟩=some c∧w.cell? ⟨g,3,none⟩=some d)∧(w.frozen? ⟨g,0,none⟩=false∧w.frozen? ⟨g,1,none⟩=false∧w.frozen? ⟨g,2,none⟩=false∧w.frozen? ⟨g,3,none⟩=false):=
 ⟨⟨h.cellAt 0 rfl,h.cellAt 1 rfl,h.cellAt 2 rfl,h.cellAt 3 rfl⟩,h.frozen 0,h.frozen 1,h.frozen 2,h.frozen 3⟩
theorem DcsO.at4 {base:Nat} {w:World} {g n c:Nat} {l:List Dc} (h:DcsO base w (.slice (some ⟨g,0,none⟩) n c) l) {k:Nat} {x:Dc} (hx:l[k]? =some x):
 ∃A1 n1 c1,(w.cell? ⟨g,k * 4,none⟩=some (.int .i64 (x.idx:Int))∧w.cell? ⟨g,k * 4+1,none⟩=some (.int .u32 (x.mask:Int))∧w.cell? ⟨g,k * 4+2,none⟩=some (.slice A1 n1 c1)∧w.cell? ⟨g,k * 4+3,none⟩=some (.int .i64 x.sur))∧(w.frozen? ⟨g,k * 4,none⟩=false∧w.frozen? ⟨g,k * 4+1,none⟩=false∧w.frozen? ⟨g,k * 4+2,none⟩=false∧w.frozen? ⟨g,k * 4+3,none⟩=false)∧IntsT w (.slice A1 n1 c1) (iL x.rows)∧base≤g∧g < w.heap.size:=by
 obtain ⟨cs,h1,h2⟩:=h
 have hn:n=l.length:=(RowM.of_own h1).len
 subst hn
 obtain ⟨u,⟨A1,n1,c1,rfl,hI⟩,_,hc⟩:=h2 k x hx
 obtain ⟨_,hb,hbg⟩:=row_block h1
 have q0:=row_cell h1 (hc 0 _ rfl)
 have q1:=row_cell h1 (hc 1 _ rfl)
 have q2:=row_cell h1 (hc 2 _ rfl)
 have q3:=row_cell h1 (hc 3 _ rfl)
 exact ⟨A1,n1,c1,⟨q0.1,q1.1,q2.1,q3.1⟩,⟨q0.2,q1.2,q2.2,q3.2⟩,hI,hbg,lt_heap hb⟩
namespace Pl
def preD (m:Ms) (k:Nat):List Dc:=(dcs m).take k++List.replicate (m.cols.length - k) zeroDc
theorem preD_zero (m:Ms):preD m 0=List.replicate m.cols.length zeroDc:=by simp [preD]
theorem preD_all {m:Ms} {n:Nat} (h:n=m.cols.length):preD m n=dcs m:=by
 subst h
 simp [preD,← dcs_len]
theorem preD_len {m:Ms} {k:Nat} (h:k≤m.cols.length):(preD m k).length=m.cols.length:=by
 simp [preD,dcs_len];omega
theorem preD_set {m:Ms} {k:Nat} {c:Cl} (h:m.cols[k]? =some c):(preD m k).set k (dcol m k c)=preD m (k+1):=by
 have hk:=(List.getElem?_eq_some_iff.1 h).1
 have hl:((dcs m).take k).length=k:=by rw [List.length_take,dcs_len];omega
 unfold preD
 rw [List.set_append_right _ _ (by omega),hl,Nat.sub_self,List.take_add_one,dcs_at h,show m.cols.length - k=(m.cols.length - (k+1))+1 by omega,List.replicate_succ]
 simp
end Pl
theorem or_pow {M p:Nat} (hM:M < 64) (hp:p < 6):bits .or .u32 (M:Int) (2^p % 4294967296)=((M ||| 2^p:Nat):Int)∧M ||| 2^p < 64:=by
 have h1:2^p < 2^6:=Nat.pow_lt_pow_right (by decide) hp
 have h2:((2:Int)^p % 4294967296)=((2^p:Nat):Int):=by
  rw [pow_cast]
  generalize 2^p=q at *
  omega
 rw [h2]
 exact ⟨u32_or (by omega) (by omega),Nat.or_lt_two_pow (n:=6) hM h1⟩
theorem columns_own (v:Value) (m:Ms) (w:World) (h:MsM w v m) (ok:MsOK m):
 Calls Tryz.prog 30 #[v] w fun e w'=>∃v',e= .returned v'∧DcsO w.heap.size w' v' (dcs m)∧Below w.heap.size w w':=by
 obtain ⟨A,n,c,A',n',c',A'',n'',c'',rfl,hR,hC,hT⟩:=h
 obtain ⟨r1,r2,r3⟩:=hR.ints.lenC
 obtain ⟨s1,s2,s3⟩:=RdM.len hC
 have HR:=Lib.hid hR.ints
 have HC:=Lib.hid hC
 have HRN:=Lib.hid r1
 have HCN:=Lib.hid s1
 have HOK:=Lib.hid ok
 have HAS:=Lib.hid ok.asc
 obtain ⟨W,hW,hX,hbe⟩:=box_ms w (.int .i64 m.fl) (.slice A n c) (.int .i64 m.pen) (.slice A' n' c') (.slice A'' n'' c'')
 obtain ⟨x0,x1,x2,x3,x4⟩:=hX.five
 have p0:=ok.pen0
 have p1:=ok.pen1
 have n2:n'≤6:=by have:=ok.ncol;omega
 have hmk:=make_dcs n' (by omega) W
 have hz0:=DcsO.zeros W n' (by unfold maxLen;omega)
 have hbm:=below_new W (.cells (zdc n') 79)
 have hXm:=hX.later hbm
 obtain ⟨y0,y1,y2,y3,y4⟩:=hXm.five
 clear hR hC hT r1 s1 ok
 generalize m.fl=F at *
 generalize hP:m.pen=P at *
 have HP:=Lib.hid hP
 clear hP
 go_enter Tryz.func30,Tryz.ntmps30
 go_wp2
 clear hW hmk
 have hbe1:=below_then hbe hbm hbe.size
 have hz1:=RdO.mono hz0 hbe.size
 have hgl:W.heap.size < (W.alloc (.cells (zdc n') 79)).heap.size:=by simp
 have hgw:=hX.lt
 clear x0 x1 x2 x3 x4 y0 y1 y2 y3 y4 hbe hX hz0 hbm
 generalize W.alloc (.cells (zdc n') 79)=W1 at *
 generalize W.heap.size=g at *
 go_loopw [18] (fun x wr=>∃k:Nat,k≤n'∧x= .int .i64 k∧Below w.heap.size w wr∧Bk wr w.heap.size 26 [.int .i64 F,.slice A n c,.int .i64 P,.slice A' n' c',.slice A'' n'' c'']∧Hid (DcsO w.heap.size wr (.slice (some ⟨g,0,none⟩) n' n') (preD m k))) (fun x _=>n' - (intOf x).toNat)
 case atStart=>exact ⟨0,by omega,rfl,hbe1,hXm,Lib.hid (by rw [preD_zero,← HCN.out];exact hz1)⟩
 case round=>
  clear hbe1 hXm hz1
  obtain ⟨k,hk,rfl,hb,hB,HO⟩:=hrel
  obtain ⟨x0,x1,x2,x3,x4⟩:=hB.five
  rcases Nat.lt_or_ge k n' with hkl | hkl
  ·obtain ⟨cl,hcl⟩:∃cl,m.cols[k]? =some cl:=⟨m.cols[k]'(by rw [← HCN.out];exact hkl),List.getElem?_eq_getElem _⟩
   obtain ⟨b,off,sb,A1,n1',c1,hA,hlt,e0,e1,e2,hD⟩:=HC.out.elem hb hcl
   subst hA
   have HCL:=Lib.hid hcl
   have hmem:=List.mem_of_getElem? hcl
   obtain ⟨g0,g1⟩:=HOK.out.cost cl hmem
   have HOL:=Lib.hid (HOK.out.opl hmem)
   have HSU:=Lib.hid (HOK.out.sub cl hmem)
   have HD:=Lib.hid hD
   have hkz:(k:Int) < n':=by omega
   generalize hco:cl.cost=co at *
   have HCO:=Lib.hid hco
   clear hco hD hcl hmem
   go_wp2_with fail
   have hbk1:=below_new wr (.cells #[.string sb,.slice A1 n1' c1,.int .i64 co] 53)
   have hsz5:(wr.alloc (.cells #[.string sb,.slice A1 n1' c1,.int .i64 co] 53)).heap.size=wr.heap.size+1:=by simp
   clear e0 e1 e2 x0 x1 x2 x3 x4
   generalize wr.alloc (.cells #[.string sb,.slice A1 n1' c1,.int .i64 co] 53)=W5 at *
   have hk6:=Bk.new W5 79 [.int .i64 k,.int .u32 0,.slice none 0 0,.int .i64 co]
   have hbk2:=below_new W5 (.cells #[.int .i64 k,.int .u32 0,.slice none 0 0,.int .i64 co] 79)
   have hbk:=below_then hbk1 hbk2 hbk1.size
   have hb6:=below_then hb hbk hb.size
   have HD6:=Lib.hid (HD.out.below hbk)
   rw [hsz5] at hk6
   clear hbk1 hbk2 hsz5 HD
   have e:(#[.int .i64 k,.int .u32 0,.slice none 0 0,.int .i64 co]:Array Value)=[.int .i64 k,.int .u32 0,.slice none 0 0,.int .i64 co].toArray:=rfl
   rw [← e] at hk6
   clear e
   generalize W5.alloc (.cells #[.int .i64 k,.int .u32 0,.slice none 0 0,.int .i64 co] 79)=W6 at *
   refine (operated_own sb A1 n1' c1 cl.dut _ HD6.out (by have:=HOL.out;unfold Cl.ops at this;omega)).mono ?_
   rintro _ w7 ⟨v3,rfl,e3,hb7⟩
   have hk7:=hk6.later hb7
   have hbo:=below_then hbk hb7 hbk.size
   have hb8:=below_then hb6 hb7 hb6.size
   have HE:Hid (IntsT w7 v3 cl.ops):=Lib.hid e3.typed
   obtain ⟨A3,q,c3,rfl⟩:=e3.sliceN
   obtain ⟨l1,l2,l3⟩:=HE.out.ints.lenC
   have HL3:=Lib.hid l1
   have hq6:q≤6:=by have:=HOL.out;omega
   have HK7:=Lib.hid hk7
   have hB7:=Lib.hid (hB.later hbo)
   have hgo:w.heap.size < wr.heap.size:=hB.lt
   have hgs:wr.heap.size+1 < w7.heap.size:=hk7.lt
   clear hbk hb6 hb7 hk6 e3 l1 hb hB HD6
   go_wp2
   generalize wr=wo at *
   go_loopw [31] (fun x wr=>∃(j M:Nat) (z:Int) (sv:Value),j≤q∧M < 64∧co - 30 * j≤z∧z≤co∧x= .int .i64 j∧BlX w7.heap.size (wo.heap.size+1) w7 wr∧Bk wr (wo.heap.size+1) 79 [.int .i64 k,.int .u32 (M:Int),sv,.int .i64 z]∧IntsO w7.heap.size wr sv (iL ((cl.ops.take j).map (posR m.rows)))∧Hid (M=maskL ((cl.ops.take j).map (posR m.rows))∧z=co - P * j)) (fun x _=>q - (intOf x).toNat)
   case atStart=>exact ⟨0,0,co,.slice none 0 0,by omega,by omega,by omega,by omega,rfl,BlX.refl _ _ _,hk7,by simpa [iL] using IntsO.nil _ _,Lib.hid ⟨rfl,by simp⟩⟩
   case round=>
    clear hk7
    obtain ⟨j,M,z,sv,hj,hM,hz1,hz2,rfl,hx,hk,hI,HV⟩:=hrel
    have hB:=hx.bk hB7.out (by omega) (by omega)
    have hb:=hb8.trans (hx.below (B':=w.heap.size) (by omega) (by omega))
    obtain ⟨x0,x1,x2,x3,x4⟩:=hB.five
    obtain ⟨⟨k0,k1,k2,k3⟩,f0,f1,f2,f3⟩:=hk.fourV
    have hEr:=(HE.out.blx hx HK7.out (by decide)).ints
    rcases Nat.lt_or_ge j q with hjl | hjl
    ·obtain ⟨b3,o3,y,hA3,hcell,hy,y0,y1⟩:=hEr.elem (Below.refl _ _) hjl
     subst hA3
     have HY:=Lib.hid hy
     have hin:=HSU.out y (List.mem_of_getElem? hy)
     have hpos:=posR_lt HAS.out hin
     clear hy hEr
     go_wp2_with fail
     clear hcell x0 x1 x2 x3 x4 k0 k1 k2 k3 f0 f1 f2 f3
     refine (bsearch_any _ m.rows y _ (HR.out.below hb) HAS.out (by have:=HOK.out.row1;omega)).mono ?_
     rintro _ w8 ⟨rfl,hb9⟩
     have hx8:=hx.then hb9 hx.size
     have hk8:=hk.later hb9
     have hI8:=hI.below hb9
     have HPO:Hid ((cl.ops.take (j+1)).map (posR m.rows)=(cl.ops.take j).map (posR m.rows)++[posR m.rows y]):=Lib.hid (by rw [List.take_add_one,HY.out];simp)
     generalize hp:posR m.rows y=p at *
     have hp6:p < 6:=by have:=HRN.out;have:=HOK.out.row1;omega
     clear hx hk hI hb hb9 hB hp hin hpos
     generalize decide (y∈m.rows)=fnd
     obtain ⟨⟨k0,k1,k2,k3⟩,f0,f1,f2,f3⟩:=hk8.fourV
     obtain ⟨hor,hM2⟩:=or_pow hM hp6
     have HM2:Hid (M ||| 2^p=maskL ((cl.ops.take (j+1)).map (posR m.rows))):=Lib.hid (by rw [HPO.out,maskL_snoc,HV.out.1])
     generalize M ||| 2^p=M' at *
     have C0:=stab k1
     have hS0:=below_drew' w8
     go_upto_region 10 with (fail)
     clear k0 k1 k2 k3 f0 f1 f2 f3
     refine region_seq 6 [0,1,2,3,4,5,6] (by kernel_rfl) (by kernel_rfl) ?_
     repeat ((first | (refine seq_takeP (v:=?_) rfl rfl rfl ?_ ?_;rotate_left;(· (intro _ hSw;go_simp;(try go_bits);(try with_reducible rfl)))) | (refine seq_take (v:=?_) rfl rfl rfl ?_ ?_;rotate_left;(· (intro _ hSw;go_simp;(try go_bits);(try with_reducible rfl)))) | refine seq_skip rfl rfl rfl ?_);(try simp only [Act.put,pu1,pu2,pu3,pu4,pu5,pu6]))
     have F0:=hk8.frozen 1
     have F1:=hk8.cellAt 1 rfl
     refine seq_step rfl rfl (fun KR hKR=>?_)
     go_simp
     refine hKR.out _ _ (Or.inl (by decide)) ?_
     clear hKR KR
     (try simp only [Act.put,pu1,pu2,pu3,pu4,pu5,pu6])
     refine seq_done ?_
     have hx9:=(hx8.setCell 1 (.int .u32 (M':Int))).then (below_drew' _) (hx8.setCell 1 (.int .u32 (M':Int))).size
     have hk9:=(hk8.set_ 1 (.int .u32 (M':Int))).later (below_drew' _)
     have hI9:=(hI8.but (KeepBut.setCell hk8 1 (.int .u32 (M':Int))) (by decide)).below (below_drew' _)
     clear hx8 hk8 hI8 C0 hS0 F0 F1
     simp only [List.set_cons_succ,List.set_cons_zero] at hk9
     generalize (w8.setCell ⟨wo.heap.size+1,1,none⟩ (.int .u32 (M':Int))).drew=W9 at *
     obtain ⟨⟨k0,k1,k2,k3⟩,f0,f1,f2,f3⟩:=hk9.fourV
     have HI9:=Lib.hid hI9
     have hlen:(iL ((cl.ops.take j).map (posR m.rows))).length+1≤1099511627776:=by simp only [iL,List.length_map];have:=List.length_take_le j cl.ops;omega
     have hbs9:=hx9.size
     have hq0: -9223372036854775808≤(p:Int):=by omega
     have hq1:(p:Int)≤9223372036854775807:=by omega
     have HIL:Hid (iL ((cl.ops.take (j+1)).map (posR m.rows))=iL ((cl.ops.take j).map (posR m.rows))++[(p:Int)]):=Lib.hid (by rw [HPO.out];simp [iL])
     clear hI9
     go_wp2_with (at_builtin;refine wpList_append_int rfl (.tmp 49) (.tmp 51) rfl W9 w7.heap.size sv (iL ((cl.ops.take j).map (posR m.rows))) rfl HI9.out (p:Int) rfl hq0 hq1 hlen hbs9 ?_)
     intro v' w4 hown4 hk4 hb4 _ _
     obtain ⟨A4,n4,c4,rfl⟩:=hown4.sliceN
     have hx10:=hx9.trans (BlX.of_below hb4)
     have hk10:=hk4.bk hk9 (by decide)
     clear k0 k1 k2 k3 f0 f1 f2 f3 hx9 hk9 hk4 hb4 hbs9
     obtain ⟨⟨k0,k1,k2,k3⟩,f0,f1,f2,f3⟩:=hk10.fourV
     have hB10:=hx10.bk hB7.out (by omega) (by omega)
     obtain ⟨x0,x1,x2,x3,x4⟩:=hB10.five
     have hx11:=(hx10.setCell 2 (.slice A4 n4 c4)).setCell 3 (.int .i64 (z - P))
     have hk11:=(hk10.set_ 2 (.slice A4 n4 c4)).set_ 3 (.int .i64 (z - P))
     have hI11:=(hown4.but (KeepBut.setCell hk10 2 (.slice A4 n4 c4)) (by decide)).but (KeepBut.setCell (hk10.set_ 2 (.slice A4 n4 c4)) 3 (.int .i64 (z - P))) (by decide)
     simp only [List.set_cons_succ,List.set_cons_zero] at hk11
     have HV2:Hid (z - P=co - P * ((j+1:Nat):Int)):=Lib.hid (by rw [HV.out.2];push_cast;rw [Int.mul_add];omega)
     have HI11:=Lib.hid hI11
     clear hk10 hx10 hown4 hI11
     go_wp2
     clear k0 k1 k2 k3 f0 f1 f2 f3 x0 x1 x2 x3 x4
     go_roundw
     case rel=>exact ⟨j+1,M',z - P,_,by omega,hM2,by omega,by omega,by go_num,hx11,hk11,by have:=HI11.out;rw [← List.map_take] at this;rw [HIL.out];exact this,Lib.hid ⟨HM2.out,HV2.out⟩⟩
     case measure=>simp [intOf];omega
    ·obtain rfl:q=j:=by omega
     have HX:Hid (M=(dcol m k cl).mask∧z=(dcol m k cl).sur∧(cl.ops.take q).map (posR m.rows)=(dcol m k cl).rows):=Lib.hid (by
      have h1:=HV.out.1
      have h2:=HV.out.2
      rw [take_all HL3.out] at h1 ⊢
      refine ⟨h1,?_,rfl⟩
      show z=cl.cost - m.pen * cl.ops.length
      rw [h2,HCO.out,HP.out,HL3.out])
     have hOr:=HO.out.below (hbo.trans (hx.below (B':=wo.heap.size) (by omega) (by omega)))
     have hlk:k < (preD m k).length:=by rw [preD_len (by rw [← HCN.out];omega),← HCN.out];omega
     obtain ⟨A5,n5,c5,⟨q0,q1,q2,q3⟩,⟨r0,r1,r2',r3'⟩,_,hbg,hgl2⟩:=hOr.at4 (List.getElem?_eq_getElem hlk)
     obtain ⟨A6,n6,c6,rfl⟩:=hI.sliceN
     have hIt:IntsT wr (.slice A6 n6 c6) (iL (dcol m k cl).rows):=by rw [← HX.out.2.2];exact hI.typed
     have hset:=hOr.set_ hlk (x:=dcol m k cl) hIt
     rw [preD_set HCL.out] at hset
     have hB12:=hset.2.bk hB (by decide)
     have hb12:=(((hb.setCell (p:=⟨g,k * 4,none⟩) hbg (.int .i64 ((dcol m k cl).idx:Int))).setCell (p:=⟨g,k * 4+1,none⟩) hbg (.int .u32 ((dcol m k cl).mask:Int))).setCell (p:=⟨g,k * 4+2,none⟩) hbg (.slice A6 n6 c6)).setCell (p:=⟨g,k * 4+3,none⟩) hbg (.int .i64 (dcol m k cl).sur)
     rw [← HX.out.1,← HX.out.2.1] at hset hB12 hb12
     have HS12:=Lib.hid hset.1
     have HB12:=Lib.hid hB12
     have HBB:=Lib.hid hb12
     clear hset hB12 hb12 hOr hIt hI hEr
     go_wp2
     go_roundw
     case rel=>exact ⟨k+1,by omega,by go_num,HBB.out,HB12.out,HS12⟩
     case measure=>simp [intOf];omega
  ·obtain rfl:n'=k:=by omega
   go_wp2
   go_ret
   exact ⟨_,rfl,by have:=HO.out;rw [preD_all HCN.out] at this;exact this,hb⟩
namespace Pl
def Ms.base (m:Ms):Int:=m.pen * m.rows.length
def costV (m:Ms) (s:List Int):Int:=if selErr (dcs m) s=0 then m.base+sumI (dcs m) s else 0
theorem selErr_5 {L:List Dc} {s:List Int} (h:¬InR L.length s):selErr L s=5:=by unfold selErr;rw [if_neg h]
theorem selErr_8 {L:List Dc} {s:List Int} (h:InR L.length s) (h2:¬s.Pairwise (· < ·)):selErr L s=8:=by unfold selErr ascB;rw [if_pos h,if_neg (by simpa using h2)]
theorem selErr_7 {L:List Dc} {s:List Int} (h:InR L.length s) (h2:s.Pairwise (· < ·)) (h3:¬Dj L s):selErr L s=7:=by unfold selErr ascB;rw [if_pos h,if_pos (by simpa using h2),if_neg h3]
theorem InR.succ {n k:Nat} {s:List Int} {x:Int} (h:InR n (s.take k)) (hx:s[k]? =some x) (h0:0≤x) (h1:x < n):InR n (s.take (k+1)):=fun i hi=>by
 rcases (mem_take_succ hx).1 hi with e | e
 ·exact h i e
 ·subst e;exact ⟨h0,h1⟩
theorem asc_len {n:Nat} {s:List Int} (h:InR n s) (ha:s.Pairwise (· < ·)):s.length≤n:=by
 have h1:(s.map Int.toNat).Pairwise (· < ·):=List.pairwise_map.2 (ha.imp_of_mem fun {a b} hma hmb hab=>by
  have:=h a hma;have:=h b hmb;omega)
 have:=nodup_sub_len (b:=List.range n) (h1.imp fun {a b} hab=>by omega) (fun x hx=>by
  obtain ⟨i,hi,rfl⟩:=List.mem_map.1 hx
  have:=h i hi
  rw [List.mem_range];omega)
 simpa using this
theorem Dj_take {L:List Dc} {s:List Int} {k:Nat} {x:Int} (hx:s[k]? =some x):Dj L (s.take (k+1))↔Dj L (s.take k)∧mkI L x &&& orI L (s.take k)=0:=by
 rw [List.take_add_one,hx]
 exact Dj_snoc
theorem orI_take {L:List Dc} {s:List Int} {k:Nat} {x:Int} (hx:s[k]? =some x):orI L (s.take (k+1))=orI L (s.take k) ||| mkI L x:=by
 rw [List.take_add_one,hx]
 exact orI_snoc _ _
theorem sumI_take {L:List Dc} {s:List Int} {k:Nat} {x:Int} (hx:s[k]? =some x):sumI L (s.take (k+1))=sumI L (s.take k)+suI L x:=by
 rw [List.take_add_one,hx,sumI_append]
 simp [sumI]
theorem Dj.take {L:List Dc} {s:List Int} (h:Dj L s) (k:Nat):Dj L (s.take k):=List.Pairwise.sublist (List.take_sublist _ _) h
end Pl
def SelPost (m:Ms) (s:List Int) (w:World) (e:Ending) (w':World):Prop:=
 ∃(z:Int) (M:Nat),e= .returned (.tuple #[.int .i64 z,.int .u32 (M:Int),.int .i64 (selErr (dcs m) s)])∧z=costV m s∧Below w.heap.size w w'
theorem selection_any (v1 v2 v3:Value) (m:Ms) (s:List Int) (w:World) (h:MsM w v1 m) (ok:MsOK m) (h2:DcsM w v2 (dcs m)) (h3:IntsM w v3 s):
 Calls Tryz.prog 29 #[v1,v2,v3] w (SelPost m s w):=by
 obtain ⟨A,n,c,A',n',c',A'',n'',c'',rfl,hR,hC,hT⟩:=h
 obtain ⟨r1,r2,r3⟩:=hR.ints.lenC
 obtain ⟨Al,cl,rfl,hl2,hl3⟩:=RdM.shape h2
 obtain ⟨As,cs,rfl,hs2,hs3⟩:=h3.shape
 have HL:=Lib.hid h2
 have HS:=Lib.hid h3
 have HRN:=Lib.hid r1
 have HOK:=Lib.hid ok
 obtain ⟨L,hL⟩:∃L,L=(dcs m).length:=⟨_,rfl⟩
 obtain ⟨q,hq⟩:∃q,q=s.length:=⟨_,rfl⟩
 rw [← hL] at HL hl2 ⊢
 rw [← hq] at HS hs2 ⊢
 have HLN:=Lib.hid hL
 have HQN:=Lib.hid hq
 have hL6:L≤6:=by have:=ok.ncol;rw [dcs_len] at hL;omega
 have hn6:n≤6:=by have:=ok.row1;omega
 obtain ⟨W,hW,hX,hbe⟩:=box_ms w (.int .i64 m.fl) (.slice A n c) (.int .i64 m.pen) (.slice A' n' c') (.slice A'' n'' c'')
 have p0:=ok.pen0
 have p1:=ok.pen1
 clear hR hC hT r1 ok h2 h3 hL hq
 generalize m.fl=F at *
 generalize hP:m.pen=P at *
 have HP:=Lib.hid hP
 clear hP
 go_enter Tryz.func29,Tryz.ntmps29
 go_wp2
 clear hW
 go_loopw [6,7,16] (fun s6 s7 x wr=>∃k:Nat,k≤q∧s6= .int .i64 0∧s7= .int .u32 0∧x= .int .i64 k∧Below w.heap.size w wr∧Bk wr w.heap.size 26 [.int .i64 F,.slice A n c,.int .i64 P,.slice A' n' c',.slice A'' n'' c'']∧Hid (InR L (s.take k))) (fun _ _ x _=>q - (intOf x).toNat)
 case atStart=>exact ⟨0,by omega,rfl,rfl,rfl,hbe,hX,Lib.hid (fun i hi=>by simp at hi)⟩
 case round=>
  clear hbe hX
  obtain ⟨k,hk,rfl,rfl,rfl,hb,hB,HI⟩:=hrel
  rcases Nat.lt_or_ge k q with hkl | hkl
  ·obtain ⟨b3,o3,y,hA3,hcell,hy,y0,y1⟩:=HS.out.elem hb hkl
   subst hA3
   have HY:=Lib.hid hy
   clear hy
   by_cases hin:0≤y∧y < L
   ·obtain ⟨g0,g1⟩:=hin
    have HI2:=Lib.hid (HI.out.succ HY.out g0 g1)
    go_wp2
    go_roundw
    case rel=>exact ⟨k+1,by omega,rfl,rfl,by go_num,hb,hB,HI2⟩
    case measure=>simp [intOf];omega
   ·have HV:Hid (selErr (dcs m) s=5):=Lib.hid (selErr_5 fun hh=>hin (by have:=hh y (List.mem_of_getElem? HY.out);rw [← HLN.out] at this;exact this))
    have hor:y < 0∨(L:Int)≤y:=by omega
    clear hin
    rcases Int.lt_or_le y 0 with hlt | hge
    ·go_wp2
     go_ret3
     exact ⟨0,0,by rw [HV.out];rfl,by unfold costV;rw [HV.out];rfl,hb⟩
    ·have hge2:(L:Int)≤y:=by omega
     go_wp2
     go_ret3
     exact ⟨0,0,by rw [HV.out];rfl,by unfold costV;rw [HV.out];rfl,hb⟩
  ·obtain rfl:q=k:=by omega
   have HIN:Hid (InR (dcs m).length s):=Lib.hid (by have:=HI.out;rw [take_all HQN.out,HLN.out] at this;exact this)
   clear HI
   go_wp2
   generalize wr=wo at *
   go_loopw [6,7,11] (fun s6 s7 x wr=>∃k:Nat,1≤k∧k≤q+1∧s6= .int .i64 0∧s7= .int .u32 0∧x= .int .i64 k∧Below w.heap.size w wr∧Bk wr w.heap.size 26 [.int .i64 F,.slice A n c,.int .i64 P,.slice A' n' c',.slice A'' n'' c'']∧Hid ((s.take k).Pairwise (· < ·))) (fun _ _ x _=>q+1 - (intOf x).toNat)
   case atStart=>exact ⟨1,by omega,by omega,rfl,rfl,rfl,hb,hB,Lib.hid (asc_le_one (Nat.le_refl _))⟩
   case round=>
    clear hb hB
    obtain ⟨k,hk0,hk,rfl,rfl,rfl,hb,hB,HT⟩:=hrel
    rcases Nat.lt_or_ge k q with hkl | hkl
    ·obtain ⟨j,rfl⟩:∃j,k=j+1:=⟨k - 1,by omega⟩
     obtain ⟨b,off,y,hA,hcell,hy,_,_⟩:=HS.out.elem hb hkl
     obtain ⟨b',off',y',hA',hcell',hy',_,_⟩:=HS.out.elem hb (show j < q by omega)
     subst hA
     injection hA' with hA'
     injection hA' with e1 e2 _
     subst e1 e2
     have HY:=Lib.hid hy
     have HY':=Lib.hid hy'
     have hkI:(j:Int)+1 < q:=by omega
     have hkJ:(j:Int) < q:=by omega
     have hkP:(0:Int)≤(j:Int)+1:=by omega
     clear hy hy'
     rcases Int.lt_or_le y' y with hlt | hlt
     ·have HT':Hid ((s.take (j+1+1)).Pairwise (· < ·)):=Lib.hid ((asc_take_succ HY'.out HY.out HT.out).2 hlt)
      go_upto_region 10 with (fail)
      have C0:=stab hcell
      have C1:=stab hcell'
      have hS0:=below_drew' wr
      clear hcell hcell'
      refine region_seq 10 [0,1,2,3,4,5,6,7,8,9] (by kernel_rfl) (by kernel_rfl) ?_
      repeat ((first | (refine seq_takeP (v:=?_) rfl rfl rfl ?_ ?_;rotate_left;(· (intro _ hSw;go_simp;(try go_bits);(try with_reducible rfl)))) | (refine seq_take (v:=?_) rfl rfl rfl ?_ ?_;rotate_left;(· (intro _ hSw;go_simp;(try go_bits);(try with_reducible rfl)))) | refine seq_skip rfl rfl rfl ?_);(try simp only [Act.put,pu1,pu2,pu3,pu4,pu5,pu6]))
      refine seq_done ?_
      have hb2:=below_then hb hS0 hb.size
      have hB2:=hB.later hS0
      clear C0 C1 hb hB hS0
      go_wp2
      go_roundw
      case rel=>exact ⟨j+1+1,by omega,by omega,rfl,rfl,by go_num,hb2,hB2,HT'⟩
      case measure=>simp [intOf];omega
     ·have HV:Hid (selErr (dcs m) s=8):=Lib.hid (selErr_8 HIN.out fun hp=>by have:=asc_get hp (Nat.lt_succ_self j) HY'.out HY.out;omega)
      go_upto_region 10 with (fail)
      have C0:=stab hcell
      have C1:=stab hcell'
      have hS0:=below_drew' wr
      clear hcell hcell'
      refine region_seq 10 [0,1,2,3,4,5,6,7,8,9] (by kernel_rfl) (by kernel_rfl) ?_
      repeat ((first | (refine seq_takeP (v:=?_) rfl rfl rfl ?_ ?_;rotate_left;(· (intro _ hSw;go_simp;(try go_bits);(try with_reducible rfl)))) | (refine seq_take (v:=?_) rfl rfl rfl ?_ ?_;rotate_left;(· (intro _ hSw;go_simp;(try go_bits);(try with_reducible rfl)))) | refine seq_skip rfl rfl rfl ?_);(try simp only [Act.put,pu1,pu2,pu3,pu4,pu5,pu6]))
      refine seq_done ?_
      have hb2:=below_then hb hS0 hb.size
      clear C0 C1 hb hS0
      go_wp2
      go_ret3
      exact ⟨0,0,by rw [HV.out];rfl,by unfold costV;rw [HV.out];rfl,hb2⟩
    ·have HAS:Hid (s.Pairwise (· < ·)):=Lib.hid (by have:=HT.out;rw [List.take_of_length_le (by rw [← HQN.out];omega)] at this;exact this)
     have hq6:q≤6:=by have:=asc_len HIN.out HAS.out;have:=HLN.out;have:=HQN.out;omega
     have hbase:P * n≤180∧0≤P * n:=by
      have a:=Int.mul_nonneg p0 (show (0:Int)≤n by omega)
      have b:=Int.mul_le_mul p1 (show (n:Int)≤6 by omega) (by omega) (by omega)
      omega
     have HBS:Hid (P * n=m.base):=Lib.hid (by unfold Ms.base;rw [HP.out,HRN.out])
     obtain ⟨hb1,hb0⟩:=hbase
     obtain ⟨x0,x1,x2,x3,x4⟩:=hB.five
     clear HT
     go_wp2
     clear x0 x1 x2 x3 x4
     generalize P * (n:Int)=B at *
     generalize wr=wo at *
     go_loopw [6,7,53] (fun s6 s7 x wr=>∃(k M:Nat) (z:Int),k≤q∧M < 64∧ -185 * (k:Int)≤z∧z≤180+40 * (k:Int)∧x= .int .i64 k∧s6= .int .i64 z∧s7= .int .u32 (M:Int)∧Below w.heap.size w wr∧Hid (Dj (dcs m) (s.take k)∧M=orI (dcs m) (s.take k)∧z=B+sumI (dcs m) (s.take k))) (fun _ _ x _=>q - (intOf x).toNat)
     case atStart=>exact ⟨0,0,B,by omega,by omega,by omega,by omega,rfl,rfl,rfl,hb,Lib.hid ⟨by simp [Dj],by simp [orI],by simp [sumI]⟩⟩
     case round=>
      clear hb hB
      obtain ⟨k,M,z,hk,hM,hz0,hz1,rfl,rfl,rfl,hb,HV⟩:=hrel
      rcases Nat.lt_or_ge k q with hkl | hkl
      ·obtain ⟨b3,o3,y,hA3,hcell,hy,_,_⟩:=HS.out.elem hb hkl
       subst hA3
       obtain ⟨i0,i1⟩:=HIN.out y (List.mem_of_getElem? hy)
       have HY:=Lib.hid hy
       rw [← HLN.out] at i1
       have hyl:y.toNat < L:=by omega
       obtain ⟨d,hd⟩:∃d,(dcs m)[y.toNat]? =some d:=⟨(dcs m)[y.toNat]'(by rw [← HLN.out];exact hyl),List.getElem?_eq_getElem _⟩
       obtain ⟨bd,od,A1,n1,c1,hAd,_,⟨d0,d1,d2,d3⟩,_⟩:=HL.out.elem hb hd
       subst hAd
       have hyc:((y.toNat:Nat):Int)=y:=by omega
       have HMK:Hid (mkI (dcs m) y=d.mask):=Lib.hid (by have:=mkI_of hd;rwa [hyc] at this)
       have HSU:Hid (suI (dcs m) y=d.sur):=Lib.hid (by have:=suI_of hd;rwa [hyc] at this)
       have hml:d.mask < 64∧ -185≤d.sur∧d.sur≤40:=by
        obtain ⟨cc,hcc,rfl⟩:=dcs_get hd
        exact ⟨mask_lt HOK.out (List.mem_of_getElem? hcc),sur_bd HOK.out (List.mem_of_getElem? hcc)⟩
       obtain ⟨hm6,hs0,hs1⟩:=hml
       have hand:=u32_and (a:=d.mask) (b:=M) (by omega) (by omega)
       have hor:=u32_or (a:=M) (b:=d.mask) (by omega) (by omega)
       have hor6:M ||| d.mask < 64:=Nat.or_lt_two_pow (n:=6) hM hm6
       generalize d.mask=mk at *
       generalize d.sur=su at *
       clear hy hd hyc
       by_cases h0:mk &&& M=0
       ·have HV':Hid (Dj (dcs m) (s.take (k+1))∧M ||| mk=orI (dcs m) (s.take (k+1))∧z+su=B+sumI (dcs m) (s.take (k+1))):=Lib.hid (by
         obtain ⟨v1,v2,v3⟩:=HV.out
         refine ⟨(Dj_take HY.out).2 ⟨v1,by rw [HMK.out,← v2];exact h0⟩,by rw [orI_take HY.out,HMK.out,← v2],?_⟩
         rw [sumI_take HY.out,HSU.out]
         omega)
        rw [h0] at hand
        clear h0
        generalize M ||| mk=M' at *
        go_wp2
        go_roundw
        case rel=>exact ⟨k+1,M',z+su,by omega,hor6,by omega,by omega,by go_num,rfl,rfl,hb,HV'⟩
        case measure=>simp [intOf];omega
       ·have HE:Hid (selErr (dcs m) s=7):=Lib.hid (selErr_7 HIN.out HAS.out fun hd=>by
         have:=(Dj_take HY.out).1 (hd.take (k+1))
         rw [HMK.out,← HV.out.2.1] at this
         exact h0 this.2)
        have hne:(((mk &&& M:Nat):Int) !=0)=true:=by simpa using h0
        clear h0
        generalize mk &&& M=an at *
        go_wp2
        go_ret3
        exact ⟨0,0,by rw [HE.out];rfl,by unfold costV;rw [HE.out];rfl,hb⟩
      ·obtain rfl:q=k:=by omega
       have HE:Hid (selErr (dcs m) s=0∧z=costV m s):=Lib.hid (by
        obtain ⟨v1,v2,v3⟩:=HV.out
        rw [take_all HQN.out] at v1 v3
        have he:=Sel.err (dcs m) ⟨HIN.out,HAS.out,v1⟩
        refine ⟨he,?_⟩
        unfold costV
        rw [if_pos he,v3,HBS.out])
       go_wp2
       go_ret3
       exact ⟨z,M,by rw [HE.out.1];rfl,HE.out.2,hb⟩
theorem cost_any (v1 v2:Value) (m:Ms) (s:List Int) (w:World) (h:MsM w v1 m) (ok:MsOK m) (h2:IntsM w v2 s):
 Calls Tryz.prog 11 #[v1,v2] w fun e w'=>e= .returned (.tuple #[.int .i64 (costV m s),.int .i64 (selErr (dcs m) s)])∧Below w.heap.size w w':=by
 obtain ⟨A,n,c,A',n',c',A'',n'',c'',rfl,hR,hC,hT⟩:=id h
 obtain ⟨W,hW,hX,hbe⟩:=box_ms w (.int .i64 m.fl) (.slice A n c) (.int .i64 m.pen) (.slice A' n' c') (.slice A'' n'' c'')
 obtain ⟨x0,x1,x2,x3,x4⟩:=hX.five
 have HM:=Lib.hid (h.below hbe)
 have HOK:=Lib.hid ok
 have HS:=Lib.hid (h2.below hbe)
 clear h hR hC hT ok h2
 generalize m.fl=F at *
 generalize m.pen=P at *
 go_enter Tryz.func11,Tryz.ntmps11
 go_wp2_with fail
 clear hW x0 x1 x2 x3 x4
 refine (validateMaster_ok _ m _ HM.out HOK.out).mono ?_
 rintro _ w1 ⟨rfl,hb1⟩
 have hX1:=hX.later hb1
 have hbe1:=below_then hbe hb1 hbe.size
 have HM1:=Lib.hid (HM.out.below hb1)
 have HS1:=Lib.hid (HS.out.below hb1)
 obtain ⟨x0,x1,x2,x3,x4⟩:=hX1.five
 clear hX hbe hb1 HM HS
 go_upto_region 4 with (fail)
 have C0:=stab x0
 have C1:=stab x1
 have C2:=stab x2
 have C3:=stab x3
 have C4:=stab x4
 have hS0:=below_drew' w1
 clear x0 x1 x2 x3 x4
 refine region_seq 9 [0,1,3,2,4,5,6,7,8,9,10,11] (by kernel_rfl) (by kernel_rfl) ?_
 repeat ((first | (refine seq_takeP (v:=?_) rfl rfl rfl ?_ ?_;rotate_left;(· (intro _ hSw;go_simp;(try go_bits);(try with_reducible rfl)))) | (refine seq_take (v:=?_) rfl rfl rfl ?_ ?_;rotate_left;(· (intro _ hSw;go_simp;(try go_bits);(try with_reducible rfl)))) | refine seq_skip rfl rfl rfl ?_);(try simp only [Act.put,pu1,pu2,pu3,pu4,pu5,pu6]))
 refine seq_step rfl rfl (fun KR hKR=>?_)
 go_simp
 with_reducible refine (columns_own _ m _ (HM1.out.below hS0) HOK.out).mono ?_
 rintro _ w2 ⟨v2',rfl,e2,hb2⟩
 have hS2:=below_then hS0 hb2 hS0.size
 have HD2:Hid (DcsM w2 v2' (dcs m)):=Lib.hid e2.rd
 clear e2
 refine hKR.out _ _ (Or.inr hS2) ?_
 clear hKR KR
 (try simp only [Act.put,pu1,pu2,pu3,pu4,pu5,pu6])
 repeat ((first | (refine seq_takeP (v:=?_) rfl rfl rfl ?_ ?_;rotate_left;(· (intro _ hSw;go_simp;(try go_bits);(try with_reducible rfl)))) | (refine seq_take (v:=?_) rfl rfl rfl ?_ ?_;rotate_left;(· (intro _ hSw;go_simp;(try go_bits);(try with_reducible rfl)))) | refine seq_skip rfl rfl rfl ?_);(try simp only [Act.put,pu1,pu2,pu3,pu4,pu5,pu6]))
 refine seq_step rfl rfl (fun KR hKR=>?_)
 go_simp
 with_reducible refine (selection_any _ _ _ m s _ (HM1.out.below hS2) HOK.out HD2.out (HS1.out.below hS2)).mono ?_
 rintro _ w3 ⟨z,M,rfl,hz,hb3⟩
 have hS3:=below_then hS2 hb3 hS2.size
 have HZ:=Lib.hid hz
 clear hz
 generalize her:selErr (dcs m) s=er
 have HER:=Lib.hid her
 clear her
 refine hKR.out _ _ (Or.inr hS3) ?_
 clear hKR KR
 (try simp only [Act.put,pu1,pu2,pu3,pu4,pu5,pu6])
 repeat ((first | (refine seq_takeP (v:=?_) rfl rfl rfl ?_ ?_;rotate_left;(· (intro _ hSw;go_simp;(try go_bits);(try with_reducible rfl)))) | (refine seq_take (v:=?_) rfl rfl rfl ?_ ?_;rotate_left;(· (intro _ hSw;go_simp;(try go_bits);(try with_reducible rfl)))) | refine seq_skip rfl rfl rfl ?_);(try simp only [Act.put,pu1,pu2,pu3,pu4,pu5,pu6]))
 refine seq_step rfl rfl (fun KR hKR=>?_)
 go_simp
 refine hKR.out _ _ (Or.inl (by decide)) ?_
 clear hKR KR
 (try simp only [Act.put,pu1,pu2,pu3,pu4,pu5,pu6])
 refine seq_step rfl rfl (fun KR hKR=>?_)
 go_simp
 refine hKR.out _ _ (Or.inl (by decide)) ?_
 clear hKR KR
 (try simp only [Act.put,pu1,pu2,pu3,pu4,pu5,pu6])
 refine seq_step rfl rfl (fun KR hKR=>?_)
 go_simp
 refine hKR.out _ _ (Or.inl (by decide)) ?_
 clear hKR KR
 (try simp only [Act.put,pu1,pu2,pu3,pu4,pu5,pu6])
 refine seq_done ?_
 have hbe3:=below_then hbe1 hS3 hbe1.size
 clear C0 C1 C2 C3 C4
 go_wp2
 go_ret2
 exact ⟨by rw [← HZ.out,HER.out];rfl,hbe3⟩
namespace Pl
def opI (m:Ms) (i:Int):List Int:=((m.cols[i.toNat]?).map Cl.ops).getD []
def usedL (m:Ms) (s:List Int):List Int:=s.flatMap (opI m)
theorem opI_of {m:Ms} {i:Int} {c:Cl} (h:m.cols[i.toNat]? =some c):opI m i=c.ops:=by simp [opI,h]
theorem usedL_take {m:Ms} {s:List Int} {k:Nat} {x:Int} (hx:s[k]? =some x):usedL m (s.take (k+1))=usedL m (s.take k)++opI m x:=by
 rw [List.take_add_one,hx]
 simp [usedL]
theorem mkI_col {m:Ms} {i:Int} {c:Cl} (h:m.cols[i.toNat]? =some c):mkI (dcs m) i=(dcol m i.toNat c).mask:=by
 simp [mkI,dcs_at h]
theorem suI_col {m:Ms} {i:Int} {c:Cl} (h:m.cols[i.toNat]? =some c):suI (dcs m) i=(dcol m i.toNat c).sur:=by
 simp [suI,dcs_at h]
theorem col_in {m:Ms} {s:List Int} (h:InR (dcs m).length s) {i:Int} (hi:i∈s):∃c,m.cols[i.toNat]? =some c:=by
 have:=h i hi
 rw [dcs_len] at this
 exact ⟨_,List.getElem?_eq_getElem (by omega)⟩
theorem used_iff {m:Ms} (ok:MsOK m) {s:List Int} (hs:InR (dcs m).length s) {x:Int} {c:Cl} (hx:m.cols[x.toNat]? =some c):mkI (dcs m) x &&& orI (dcs m) s=0↔∀f∈c.ops,f ∉ usedL m s:=by
 rw [and_orI]
 constructor
 ·intro h f hf hu
  obtain ⟨i,hi,hfi⟩:=List.mem_flatMap.1 hu
  obtain ⟨d,hd⟩:=col_in hs hi
  rw [opI_of hd] at hfi
  have:=h i hi
  rw [mkI_col hx,mkI_col hd] at this
  exact (mask_disj ok (List.mem_of_getElem? hx) (List.mem_of_getElem? hd)).1 this f hf hfi
 ·intro h i hi
  obtain ⟨d,hd⟩:=col_in hs hi
  rw [mkI_col hx,mkI_col hd,mask_disj ok (List.mem_of_getElem? hx) (List.mem_of_getElem? hd)]
  intro f hf hfd
  exact h f hf (List.mem_flatMap.2 ⟨i,hi,by rw [opI_of hd];exact hfd⟩)
theorem nodup_not_take {l:List Int} (h:l.Nodup) {k:Nat} {x:Int} (hx:l[k]? =some x):x ∉ l.take k:=fun hin=>by
 obtain ⟨t,ht1,ht2⟩:=List.getElem_of_mem hin
 rw [List.length_take] at ht1
 rw [List.getElem_take] at ht2
 obtain ⟨hq',hqe⟩:=List.getElem?_eq_some_iff.1 hx
 have:=List.pairwise_iff_getElem.1 (List.nodup_iff_pairwise_ne.1 h) t k (by omega) hq' (by omega)
 exact this (by rw [ht2];exact hqe.symm)
theorem InR.take {n:Nat} {s:List Int} (h:InR n s) (k:Nat):InR n (s.take k):=fun i hi=>h i (List.mem_of_mem_take hi)
end Pl
theorem IntsO.ownB {base:Nat} {w:World} {v:Value} {zs:List Int} (h:IntsO base w v zs):∀g,v.ownBlock=some g→base≤g∧g < w.heap.size:=h.1.lt
theorem cost27_any (v1 v2:Value) (m:Ms) (s:List Int) (w:World) (h:MsM w v1 m) (ok:MsOK m) (h2:IntsM w v2 s):
 Calls Tryz.prog 12 #[v1,v2] w fun e w'=>e= .returned (.tuple #[.int .i64 (costV m s),.int .i64 (selErr (dcs m) s)])∧Below w.heap.size w w':=by
 obtain ⟨A,n,c,A',n',c',A'',n'',c'',rfl,hR,hC,hT⟩:=id h
 obtain ⟨r1,r2,r3⟩:=hR.ints.lenC
 obtain ⟨s1,s2,s3⟩:=RdM.len hC
 obtain ⟨As,cs,rfl,hs2,hs3⟩:=h2.shape
 obtain ⟨q,hq⟩:∃q,q=s.length:=⟨_,rfl⟩
 rw [← hq] at h2 hs2 ⊢
 obtain ⟨W,hW,hX,hbe⟩:=box_ms w (.int .i64 m.fl) (.slice A n c) (.int .i64 m.pen) (.slice A' n' c') (.slice A'' n'' c'')
 obtain ⟨x0,x1,x2,x3,x4⟩:=hX.five
 have HM:=Lib.hid (h.below hbe)
 have HC:=Lib.hid hC
 have HOK:=Lib.hid ok
 have HS:=Lib.hid h2
 have HRN:=Lib.hid r1
 have HCN:=Lib.hid s1
 have HQN:=Lib.hid hq
 have hn6:n≤6:=by have:=ok.row1;omega
 have hn6':n'≤6:=by have:=ok.ncol;omega
 have p0:=ok.pen0
 have p1:=ok.pen1
 clear h hR hC hT ok h2 r1 s1 hq
 generalize m.fl=F at *
 generalize hP:m.pen=P at *
 have HP:=Lib.hid hP
 clear hP
 go_enter Tryz.func12,Tryz.ntmps12
 go_wp2_with fail
 clear hW x0 x1 x2 x3 x4
 refine (validateMaster27_ok _ m _ HM.out HOK.out).mono ?_
 rintro _ w1 ⟨rfl,hb1⟩
 have hX1:=hX.later hb1
 have hbe1:=below_then hbe hb1 hbe.size
 clear hX hbe hb1 HM
 go_wp2
 go_loopw [7] (fun x wr=>∃k:Nat,k≤q∧x= .int .i64 k∧Below w.heap.size w wr∧Bk wr w.heap.size 26 [.int .i64 F,.slice A n c,.int .i64 P,.slice A' n' c',.slice A'' n'' c'']∧Hid (InR n' (s.take k))) (fun x _=>q - (intOf x).toNat)
 case atStart=>exact ⟨0,by omega,rfl,hbe1,hX1,Lib.hid (fun i hi=>by simp at hi)⟩
 case round=>
  clear hbe1 hX1
  obtain ⟨k,hk,rfl,hb,hB,HI⟩:=hrel
  obtain ⟨x0,x1,x2,x3,x4⟩:=hB.five
  rcases Nat.lt_or_ge k q with hkl | hkl
  ·obtain ⟨b3,o3,y,hA3,hcell,hy,y0,y1⟩:=HS.out.elem hb hkl
   subst hA3
   have HY:=Lib.hid hy
   have hkz:(k:Int) < q:=by omega
   clear hy
   by_cases hin:0≤y∧y < n'
   ·obtain ⟨g0,g1⟩:=hin
    have HI2:=Lib.hid (HI.out.succ HY.out g0 g1)
    have d0:decide (y < 0)=false:=by simp;omega
    have d1:decide ((n':Int)≤y)=false:=by simp;omega
    go_upto_region 7 with (fail)
    have C0:=stab hcell
    have C1:=stab x3
    have hS0:=below_drew' wr
    clear hcell x0 x1 x2 x3 x4
    refine region_seq 15 [0,1,2,3,4,5,6,7,8,9,10,11,12,13,14] (by kernel_rfl) (by kernel_rfl) ?_
    repeat ((first | (refine seq_takeP (v:=?_) rfl rfl rfl ?_ ?_;rotate_left;(· (intro _ hSw;go_simp;(try go_bits);(try with_reducible rfl)))) | (refine seq_take (v:=?_) rfl rfl rfl ?_ ?_;rotate_left;(· (intro _ hSw;go_simp;(try go_bits);(try with_reducible rfl)))) | refine seq_skip rfl rfl rfl ?_ | refine seq_skipc rfl rfl rfl (by assumption) ?_);(try simp only [Act.put,pu1,pu2,pu3,pu4,pu5,pu6]))
    refine seq_done ?_
    have hb2:=below_then hb hS0 hb.size
    have hB2:=hB.later hS0
    clear C0 C1 hb hB hS0
    go_wp2
    go_roundw
    case rel=>exact ⟨k+1,by omega,by go_num,hb2,hB2,HI2⟩
    case measure=>simp [intOf];omega
   ·have HV:Hid (selErr (dcs m) s=5):=Lib.hid (selErr_5 fun hh=>hin (by have:=hh y (List.mem_of_getElem? HY.out);rw [dcs_len,← HCN.out] at this;exact this))
    have hor:y < 0∨(n':Int)≤y:=by omega
    have fin:∀w2,Below w.heap.size w w2→(Ending.returned (.tuple #[.int .i64 0,.int .i64 5])= .returned (.tuple #[.int .i64 (costV m s),.int .i64 (selErr (dcs m) s)])∧Below w.heap.size w w2):=fun w2 hb2=>⟨by unfold costV;rw [HV.out];rfl,hb2⟩
    have HF:=Lib.hid fin
    clear hin fin
    rcases Int.lt_or_le y 0 with hlt | hge
    ·have d0:decide (y < 0)=true:=by simpa using hlt
     go_upto_region 7 with (fail)
     have C0:=stab hcell
     have C1:=stab x3
     have hS0:=below_drew' wr
     clear hcell x0 x1 x2 x3 x4
     refine region_seq 15 [0,1,2,3,4,5,6,7,8,9,10,11,12,13,14] (by kernel_rfl) (by kernel_rfl) ?_
     repeat ((first | (refine seq_takeP (v:=?_) rfl rfl rfl ?_ ?_;rotate_left;(· (intro _ hSw;go_simp;(try go_bits);(try with_reducible rfl)))) | (refine seq_take (v:=?_) rfl rfl rfl ?_ ?_;rotate_left;(· (intro _ hSw;go_simp;(try go_bits);(try with_reducible rfl)))) | refine seq_skip rfl rfl rfl ?_ | refine seq_skipc rfl rfl rfl (by assumption) ?_);(try simp only [Act.put,pu1,pu2,pu3,pu4,pu5,pu6]))
     refine seq_done ?_
     have hb2:=below_then hb hS0 hb.size
     clear C0 C1 hb hB hS0
     go_wp2
     go_ret2
     exact HF.out _ hb2
    ·have d0:decide (y < 0)=false:=by simp;omega
     have d1:decide ((n':Int)≤y)=true:=by simp;omega
     go_upto_region 7 with (fail)
     have C0:=stab hcell
     have C1:=stab x3
     have hS0:=below_drew' wr
     clear hcell x0 x1 x2 x3 x4
     refine region_seq 15 [0,1,2,3,4,5,6,7,8,9,10,11,12,13,14] (by kernel_rfl) (by kernel_rfl) ?_
     repeat ((first | (refine seq_takeP (v:=?_) rfl rfl rfl ?_ ?_;rotate_left;(· (intro _ hSw;go_simp;(try go_bits);(try with_reducible rfl)))) | (refine seq_take (v:=?_) rfl rfl rfl ?_ ?_;rotate_left;(· (intro _ hSw;go_simp;(try go_bits);(try with_reducible rfl)))) | refine seq_skip rfl rfl rfl ?_ | refine seq_skipc rfl rfl rfl (by assumption) ?_);(try simp only [Act.put,pu1,pu2,pu3,pu4,pu5,pu6]))
     refine seq_done ?_
     have hb2:=below_then hb hS0 hb.size
     clear C0 C1 hb hB hS0
     go_wp2
     go_ret2
     exact HF.out _ hb2
  ·obtain rfl:q=k:=by omega
   have HIN:Hid (InR (dcs m).length s):=Lib.hid (by have:=HI.out;rw [take_all HQN.out,HCN.out,← dcs_len] at this;exact this)
   clear HI
   go_wp2_with fail
   refine (ascending_any _ s _ (HS.out.below hb)).mono ?_
   rintro _ w2 ⟨rfl,hb2⟩
   have hb3:=below_then hb hb2 hb.size
   have hB3:=hB.later hb2
   clear hb hB hb2 x0 x1 x2 x3 x4
   cases hasc:ascB s
   ·have HV:Hid (selErr (dcs m) s=8):=Lib.hid (selErr_8 HIN.out (by unfold ascB at hasc;simpa using hasc))
    go_wp2
    go_ret2
    exact ⟨by unfold costV;rw [HV.out];rfl,hb3⟩
   ·have HAS:Hid (s.Pairwise (· < ·)):=Lib.hid (by unfold ascB at hasc;simpa using hasc)
    have hq6:q≤6:=by have:=asc_len HIN.out HAS.out;have:=HCN.out;have:=HQN.out;rw [dcs_len] at *;omega
    have hbase:P * n≤180∧0≤P * n:=by
     have a:=Int.mul_nonneg p0 (show (0:Int)≤n by omega)
     have b:=Int.mul_le_mul p1 (show (n:Int)≤6 by omega) (by omega) (by omega)
     omega
    have HBS:Hid (P * n=m.base):=Lib.hid (by unfold Ms.base;rw [HP.out,HRN.out])
    obtain ⟨hb1,hb0⟩:=hbase
    obtain ⟨x0,x1,x2,x3,x4⟩:=hB3.five
    clear hasc
    go_wp2
    clear x0 x1 x2 x3 x4
    generalize P * (n:Int)=B at *
    generalize w2=wo at *
    go_loopw [8,9,10] (fun s8 s9 x wr=>∃(k:Nat) (z:Int),k≤q∧ -185 * (k:Int)≤z∧z≤180+40 * (k:Int)∧x= .int .i64 k∧s9= .int .i64 z∧Below w.heap.size w wr∧Bk wr w.heap.size 26 [.int .i64 F,.slice A n c,.int .i64 P,.slice A' n' c',.slice A'' n'' c'']∧IntsO w.heap.size wr s8 (usedL m (s.take k))∧(usedL m (s.take k)).length≤6 * k∧Hid (Dj (dcs m) (s.take k)∧z=B+sumI (dcs m) (s.take k))) (fun _ _ x _=>q - (intOf x).toNat)
    case atStart=>exact ⟨0,B,by omega,by omega,by omega,rfl,rfl,hb3,hB3,by simpa [usedL] using IntsO.nil _ _,by simp [usedL],Lib.hid ⟨by simp [Dj],by simp [sumI]⟩⟩
    case round=>
     clear hb3 hB3
     obtain ⟨k,z,hk,hz0,hz1,rfl,rfl,hb,hB,hU,hUl,HV⟩:=hrel
     rcases Nat.lt_or_ge k q with hkl | hkl
     ·obtain ⟨b3,o3,y,hA3,hcell,hy,_,_⟩:=HS.out.elem hb hkl
      subst hA3
      obtain ⟨cl,hcl⟩:=col_in HIN.out (List.mem_of_getElem? hy)
      obtain ⟨i0,i1⟩:=HIN.out y (List.mem_of_getElem? hy)
      rw [dcs_len,← HCN.out] at i1
      have HY:=Lib.hid hy
      have HCL:=Lib.hid hcl
      have hyn:y.toNat < n':=by omega
      have hkz:(k:Int) < q:=by omega
      obtain ⟨bc,oc,sb,A1,n1',c1,hA,_,e0,e1,e2,hD⟩:=HC.out.elem hb hcl
      subst hA
      have hmem:=List.mem_of_getElem? hcl
      obtain ⟨g0,g1⟩:=HOK.out.cost cl hmem
      have HOL:=Lib.hid (HOK.out.opl hmem)
      have HND:=Lib.hid (HOK.out.nd cl hmem)
      have HD:=Lib.hid hD
      generalize hco:cl.cost=co at *
      have HCO:=Lib.hid hco
      obtain ⟨x0,x1,x2,x3,x4⟩:=hB.five
      clear hy hcl hD hmem hco
      go_upto_region 16 with (fail)
      have C0:=stab hcell
      have C1:=stab x3
      have C2:=stab e0
      have C3:=stab e1
      have C4:=stab e2
      have hS0:=below_drew' wr
      clear hcell x0 x1 x2 x3 x4 e0 e1 e2
      refine region_seq 10 [0,1,2,3,4,5,6,7,8,9,10] (by kernel_rfl) (by kernel_rfl) ?_
      repeat ((first | (refine seq_takeP (v:=?_) rfl rfl rfl ?_ ?_;rotate_left;(· (intro _ hSw;go_simp;(try go_bits);(try with_reducible rfl)))) | (refine seq_take (v:=?_) rfl rfl rfl ?_ ?_;rotate_left;(· (intro _ hSw;go_simp;(try go_bits);(try with_reducible rfl)))) | refine seq_skip rfl rfl rfl ?_);(try simp only [Act.put,pu1,pu2,pu3,pu4,pu5,pu6]))
      refine seq_step rfl rfl (fun KR hKR=>?_)
      go_simp
      with_reducible refine (operated27_own sb A1 n1' c1 cl.dut _ (HD.out.below hS0) (by have:=HOL.out;unfold Cl.ops at this;omega)).mono ?_
      rintro _ w4 ⟨v4,rfl,e4,hb4⟩
      have hS4:=below_then hS0 hb4 hS0.size
      refine hKR.out _ _ (Or.inr hS4) ?_
      clear hKR KR
      (try simp only [Act.put,pu1,pu2,pu3,pu4,pu5,pu6])
      repeat ((first | (refine seq_takeP (v:=?_) rfl rfl rfl ?_ ?_;rotate_left;(· (intro _ hSw;go_simp;(try go_bits);(try with_reducible rfl)))) | (refine seq_take (v:=?_) rfl rfl rfl ?_ ?_;rotate_left;(· (intro _ hSw;go_simp;(try go_bits);(try with_reducible rfl)))) | refine seq_skip rfl rfl rfl ?_);(try simp only [Act.put,pu1,pu2,pu3,pu4,pu5,pu6]))
      refine seq_step rfl rfl (fun KR hKR=>?_)
      go_simp
      refine hKR.out _ _ (Or.inl (by decide)) ?_
      clear hKR KR
      (try simp only [Act.put,pu1,pu2,pu3,pu4,pu5,pu6])
      refine seq_done ?_
      have HSEP:Hid (∀b,v4.ownBlock=some b→some b≠u8.ownBlock):=Lib.hid (fun b hvb e=>by
       have h1:=(e4.ownB b hvb).1
       have h2:=(hU.ownB b e.symm).2
       have h3:=hS0.size
       omega)
      have HE:Hid (IntsO 0 w4 v4 cl.ops):=Lib.hid (e4.monoB (Nat.zero_le _))
      obtain ⟨A3,t,c3,rfl⟩:=e4.sliceN
      obtain ⟨l1,l2,l3⟩:=HE.out.ints.lenC
      have HL3:=Lib.hid l1
      have ht6:t≤6:=by have:=HOL.out;omega
      have hb5:=below_then hb hS4 hb.size
      have hB5:=hB.later hS4
      have hU5:=hU.below hS4
      have HUI:=Lib.hid (used_iff HOK.out (HIN.out.take k) HCL.out)
      have HUN:Hid (usedL m (s.take (k+1))=usedL m (s.take k)++cl.ops):=Lib.hid (by rw [usedL_take HY.out,opI_of HCL.out])
      have HWO:Hid (w.heap.size≤wr.heap.size):=Lib.hid hb.size
      generalize hUg:usedL m (s.take k)=U at *
      clear C0 C1 C2 C3 C4 hb hB hU hb4 hS0 hS4 e4 l1 hUg HD
      go_wp2
      generalize w4=wo at *
      go_loopw [8,9,12] (fun s8 s9 x wr=>∃(j:Nat) (z':Int),j≤t∧z - 30 * (j:Int)≤z'∧z'≤z∧x= .int .i64 j∧s9= .int .i64 z'∧Below w.heap.size w wr∧Bk wr w.heap.size 26 [.int .i64 F,.slice A n c,.int .i64 P,.slice (some ⟨bc,oc,none⟩) n' c',.slice A'' n'' c'']∧IntsO w.heap.size wr s8 (U++cl.ops.take j)∧Hid (IntsO 0 wr (.slice A3 t c3) cl.ops∧∀b,(Value.slice A3 t c3).ownBlock=some b→some b≠s8.ownBlock)∧Hid ((∀f∈cl.ops.take j,f ∉ U)∧z'=z - P * j)) (fun _ _ x _=>t - (intOf x).toNat)
      case atStart=>exact ⟨0,z,by omega,by omega,by omega,rfl,rfl,hb5,hB5,by simpa using hU5,Lib.hid ⟨HE.out,HSEP.out⟩,Lib.hid ⟨by simp,by simp⟩⟩
      case round=>
       clear hb5 hB5 hU5
       obtain ⟨j,z',hj,hw0,hw1,rfl,rfl,hb,hB,hO,hM,HZ⟩:=hrel
       have HOM:=hM
       have HO:=Lib.hid hO
       clear hO
       rcases Nat.lt_or_ge j t with hjl | hjl
       ·obtain ⟨b4,o4,f,hA4,hcell,hf,fb0,fb1⟩:=HOM.out.1.ints.elem (Below.refl _ _) hjl
        subst hA4
        have HF:=Lib.hid hf
        have hjz:(j:Int) < t:=by omega
        clear hf
        go_wp2_with fail
        refine (has_any _ (U++cl.ops.take j) f _ HO.out.ints).mono ?_
        rintro _ w6 ⟨rfl,hb6⟩
        have hb7:=below_then hb hb6 hb.size
        have hB7:=hB.later hb6
        have HO7:=Lib.hid (HO.out.below hb6)
        have HM7:=Lib.hid (And.intro (HOM.out.1.below hb6) HOM.out.2)
        have hcell7:=cell_keep hb6 hcell
        have HNT:Hid (f ∉ cl.ops.take j):=Lib.hid (nodup_not_take HND.out HF.out)
        clear hb hB hb6 hcell HO HOM hM
        cases hin:decide (f∈U++cl.ops.take j)
        ·have HZ':Hid (∀g∈cl.ops.take (j+1),g ∉ U):=Lib.hid (fun g hg=>by
          rcases (mem_take_succ HF.out).1 hg with e | e
          ·exact HZ.out.1 g e
          ·subst e
           have:=of_decide_eq_false hin
           exact fun hu=>this (List.mem_append_left _ hu))
         have hlen:(U++cl.ops.take j).length+1≤1099511627776:=by
          have:=List.length_take_le j cl.ops
          rw [List.length_append]
          omega
         have hbs:=hb7.size
         have HE8:Hid (U++cl.ops.take (j+1)=U++cl.ops.take j++[f]):=Lib.hid (by rw [List.take_add_one,HF.out];simp)
         obtain ⟨x0,x1,x2,x3,x4⟩:=hB7.five
         have HV8:Hid (z' - P=z - P * ((j+1:Nat):Int)):=Lib.hid (by rw [HZ.out.2];push_cast;rw [Int.mul_add];omega)
         generalize hYL:U++cl.ops.take j=YL at *
         clear hin hYL
         go_wp2_with (at_builtin;refine wpList_append_int rfl (.tmp 76) (.tmp 81) rfl w6 w.heap.size u8 YL rfl HO7.out f rfl fb0 fb1 hlen hbs ?_)
         intro v' w8 hown8 hk8 hb8 hot8 hor8
         have HM8:Hid (IntsO 0 w8 (.slice (some ⟨b4,o4,none⟩) t c3) cl.ops∧∀b,(Value.slice (some ⟨b4,o4,none⟩) t c3).ownBlock=some b→some b≠v'.ownBlock):=Lib.hid ⟨HM7.out.1.others hot8 HM7.out.2,fun b hvb e=>by
          rcases hor8 with h | h
          ·exact HM7.out.2 b hvb (by rw [e,h])
          ·have h1:=h b e.symm
           have h2:=(HM7.out.1.ownB b hvb).2
           omega⟩
         have hB8:=hk8.bk hB7 (by decide)
         clear x0 x1 x2 x3 x4
         obtain ⟨x0,x1,x2,x3,x4⟩:=hB8.five
         have hb9:=hb7.trans hb8
         have HN8:Hid (IntsO w.heap.size w8 v' (U++cl.ops.take (j+1))):=Lib.hid (by rw [HE8.out];exact hown8)
         clear hown8 hk8 hb8 hB7 hb7 hot8 hor8 HM7
         go_wp2
         go_roundw
         case rel=>exact ⟨j+1,z' - P,by omega,by omega,by omega,by go_num,rfl,hb9,hB8,HN8.out,HM8,Lib.hid ⟨HZ'.out,HV8.out⟩⟩
         case measure=>simp [intOf];omega
        ·have HV:Hid (selErr (dcs m) s=7):=Lib.hid (selErr_7 HIN.out HAS.out fun hd=>by
          have h1:=(Dj_take HY.out).1 (hd.take (k+1))
          have h2:=HUI.out.1 h1.2 f (List.mem_of_getElem? HF.out)
          have h3:=of_decide_eq_true hin
          rcases List.mem_append.1 h3 with e | e
          ·exact h2 e
          ·exact HNT.out e)
         clear hin
         go_wp2
         go_ret2
         exact ⟨by unfold costV;rw [HV.out];rfl,hb7⟩
       ·obtain rfl:t=j:=by omega
        obtain ⟨bc',oc',sb',A1',n1'',c1',hA',_,e0,e1,e2,_⟩:=HC.out.elem hb HCL.out
        injection hA' with hA'
        injection hA' with q1 q2 _
        subst q1 q2
        rw [HCO.out] at e2
        have hcellS:=HS.out.cellAt hb HY.out
        obtain ⟨x0,x1,x2,x3,x4⟩:=hB.five
        have hsur:=sur_bd HOK.out (i:=y.toNat) (List.mem_of_getElem? HCL.out)
        have HD9:Hid ((∀f∈cl.ops,f ∉ U)∧z'+co=z+(dcol m y.toNat cl).sur):=Lib.hid (by
         have h1:=HZ.out.1
         rw [take_all HL3.out] at h1
         refine ⟨h1,?_⟩
         have h2:=HZ.out.2
         have h3:(dcol m y.toNat cl).sur=cl.cost - m.pen * cl.ops.length:=rfl
         rw [h3,HCO.out,HP.out,← HL3.out]
         omega)
        have hzz:z'+co=z+(dcol m y.toNat cl).sur:=HD9.out.2
        have HV9:Hid (Dj (dcs m) (s.take (k+1))∧z'+co=B+sumI (dcs m) (s.take (k+1))):=Lib.hid (by
         refine ⟨(Dj_take HY.out).2 ⟨HV.out.1,HUI.out.2 HD9.out.1⟩,?_⟩
         have h1:=HV.out.2
         have h2:sumI (dcs m) (s.take (k+1))=sumI (dcs m) (s.take k)+(dcol m y.toNat cl).sur:=by rw [sumI_take HY.out,suI_col HCL.out]
         omega)
        have hzb0: -185 * ((k:Int)+1)≤z'+co:=by omega
        have hzb1:z'+co≤180+40 * ((k:Int)+1):=by omega
        have HO9:Hid (IntsO w.heap.size wr u8 (usedL m (s.take (k+1)))∧(usedL m (s.take (k+1))).length≤6 * (k+1)):=Lib.hid (by
         have:=HO.out
         rw [take_all HL3.out,← HUN.out] at this
         refine ⟨this,?_⟩
         rw [HUN.out,List.length_append,← HL3.out]
         omega)
        clear hzz hsur HO
        go_upto_region 24 with (fail)
        have C0:=stab hcellS
        have C1:=stab x3
        have C2:=stab e2
        have hS0:=below_drew' wr
        clear hcellS x0 x1 x2 x3 x4 e0 e1 e2
        refine region_seq 11 [0,1,2,3,4,5,6,7,8,9,10,11] (by kernel_rfl) (by kernel_rfl) ?_
        repeat ((first | (refine seq_takeP (v:=?_) rfl rfl rfl ?_ ?_;rotate_left;(· (intro _ hSw;go_simp;(try go_bits);(try with_reducible rfl)))) | (refine seq_take (v:=?_) rfl rfl rfl ?_ ?_;rotate_left;(· (intro _ hSw;go_simp;(try go_bits);(try with_reducible rfl)))) | refine seq_skip rfl rfl rfl ?_);(try simp only [Act.put,pu1,pu2,pu3,pu4,pu5,pu6]))
        refine seq_step rfl rfl (fun KR hKR=>?_)
        go_simp
        refine hKR.out _ _ (Or.inl (by decide)) ?_
        clear hKR KR
        (try simp only [Act.put,pu1,pu2,pu3,pu4,pu5,pu6])
        refine seq_done ?_
        have hb2:=below_then hb hS0 hb.size
        have hB2:=hB.later hS0
        have HO10:=Lib.hid (And.intro (HO9.out.1.below hS0) HO9.out.2)
        clear C0 C1 C2 hb hB hS0 HO9
        go_wp2
        go_roundw
        case rel=>exact ⟨k+1,z'+co,by omega,by omega,by omega,by go_num,rfl,hb2,hB2,HO10.out.1,HO10.out.2,HV9⟩
        case measure=>simp [intOf];omega
     ·obtain rfl:q=k:=by omega
      have HE:Hid (selErr (dcs m) s=0∧z=costV m s):=Lib.hid (by
       obtain ⟨v1,v3⟩:=HV.out
       rw [take_all HQN.out] at v1 v3
       have he:=Sel.err (dcs m) ⟨HIN.out,HAS.out,v1⟩
       refine ⟨he,?_⟩
       unfold costV
       rw [if_pos he,v3,HBS.out])
      go_wp2
      go_ret2
      exact ⟨by rw [HE.out.1,← HE.out.2];rfl,hb⟩
end Go.Proofs.YtgdcbjligbnpgaaGreat
