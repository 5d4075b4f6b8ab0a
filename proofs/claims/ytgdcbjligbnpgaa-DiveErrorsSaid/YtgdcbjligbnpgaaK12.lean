/- Lemmas of the claim; no condition. -/
import Derived.Test.YtgdcbjligbnpgaaK11
set_option linter.all false
set_option maxRecDepth 100000
set_option maxHeartbeats 40000000
namespace Go.Proofs.Ytgdcbjligbnpgaa
open Go.RowKit
open Pl
attribute [local go_sem ↓] Go.wp_at_zero Go.wp_at_succ
theorem info_task:(Try.prog.info? 63).map (fun i=>(i.zero,i.size,i.bytes))=some (some (.agg #[.int .i64 0,.bool false]),2,16):=by kernel_rfl
theorem run_append_task (ty:TypeId) (W:World) (base:Nat) (v:Value) (l:List (Tk)) (t:Tk) (hown:RdO TkR 63 2 base W v l) (ht: -9223372036854775808≤t.fl∧t.fl≤9223372036854775807) (hn:l.length+1≤1099511627776) (hbase:base≤W.heap.size):
 ∃v' w',(Builtin.append_ #[65,65] ty #[v,.slice (some ⟨W.heap.size,0,none⟩) 1 1]).run Try.prog (W.alloc (.cells #[.int .i64 t.fl,.bool t.hd] 63))= .ok v' w'∧RdO TkR 63 2 base w' v' (l++[t])∧KeepBut 63 W w'∧Below base W w'∧Others v.ownBlock W w'∧(v'.ownBlock=v.ownBlock∨∀g,v'.ownBlock=some g→W.heap.size≤g):=by
 obtain ⟨i0,hi,hz0,hz1,hz2⟩:=info_parts info_task
 exact run_append_rd ty 65 63 i0 _ 2 16 Try.underlying65 hi hz0 hz1 hz2 rfl (by decide) W base v l t [.int .i64 t.fl,.bool t.hd] hown rfl (fun u hu=>by
  simp at hu
  rcases hu with rfl | rfl <;> rfl) hn (by decide) hbase (fun w2 _ _ _ h=>h) ⟨rfl,ht.1,ht.2⟩
theorem wpList_append_task {ops:Array Oper} {rest:List Oper} {o:Oper} {a:Act} {Q:Exit→Act→World→Prop} (hgd:o.guard=none) (s0 x0:Operand)
 (ho:o.op= .call { callee:= .builtin .append,args:=#[s0,x0],argTypes:=#[65,65] })
 (W:World) (base:Nat) (v:Value) (l:List (Tk)) (t:Tk) (hs:a.eval s0=v) (hown:RdO TkR 63 2 base W v l) (ht: -9223372036854775808≤t.fl∧t.fl≤9223372036854775807)
 (hx:a.eval x0= .slice (some ⟨W.heap.size,0,none⟩) 1 1) (hn:l.length+1≤1099511627776) (hbase:base≤W.heap.size)
 (h:∀v' w',RdO TkR 63 2 base w' v' (l++[t])→KeepBut 63 W w'→Below base W w'→Others v.ownBlock W w'→(v'.ownBlock=v.ownBlock∨∀g,v'.ownBlock=some g→W.heap.size≤g)→wpList Try.prog ops Q rest (a.put o.dst v') w'):
 wpList Try.prog ops Q (o::rest) a (W.alloc (.cells #[.int .i64 t.fl,.bool t.hd] 63)):=by
 refine wpList_plain hgd fun K hK=>?_
 obtain ⟨v',w',hr,g1,g2,g3,g4,g5⟩:=run_append_task o.type W base v l t hown ht hn hbase
 unfold Oper.wp execOp
 simp only [ho,resolve,invoke,builtin,Sem.run_bind,Sem.run_pure,Result.andThen_ok,List.map_toArray,List.map_cons,List.map_nil,hs,hx,hr]
 exact hK _ _ (h v' w' g1 g2 g3 g4 g5)
theorem info_duty:(Try.prog.info? 65).map (fun i=>(i.zero,i.size,i.bytes))=some (some (.slice none 0 0),1,24):=by kernel_rfl
theorem run_append_duty (ty:TypeId) (W:World) (base:Nat) (v:Value) (l:List (List Tk)) (d:List Tk) (A:Option Addr) (n c:Nat) (hown:RdO DuR 65 1 base W v l) (ht:DutM W (.slice A n c) d) (hn:l.length+1≤1099511627776) (hbase:base≤W.heap.size):
 ∃v' w',(Builtin.append_ #[36,36] ty #[v,.slice (some ⟨W.heap.size,0,none⟩) 1 1]).run Try.prog (W.alloc (.cells #[.slice A n c] 65))= .ok v' w'∧RdO DuR 65 1 base w' v' (l++[d])∧KeepBut 65 W w'∧Below base W w'∧Others v.ownBlock W w'∧(v'.ownBlock=v.ownBlock∨∀g,v'.ownBlock=some g→W.heap.size≤g):=by
 obtain ⟨i0,hi,hz0,hz1,hz2⟩:=info_parts info_duty
 exact run_append_rd ty 36 65 i0 _ 1 24 Try.underlying36 hi hz0 hz1 hz2 rfl (by decide) W base v l d [.slice A n c] hown rfl (fun u hu=>by simp at hu;subst hu;rfl) hn (by decide) hbase (fun w2 hk _ _ h=>h.but hk (by decide)) ⟨A,n,c,rfl,ht⟩
theorem wpList_append_duty {ops:Array Oper} {rest:List Oper} {o:Oper} {a:Act} {Q:Exit→Act→World→Prop} (hgd:o.guard=none) (s0 x0:Operand)
 (ho:o.op= .call { callee:= .builtin .append,args:=#[s0,x0],argTypes:=#[36,36] })
 (W:World) (base:Nat) (v:Value) (l:List (List Tk)) (d:List Tk) (A:Option Addr) (n c:Nat) (hs:a.eval s0=v) (hown:RdO DuR 65 1 base W v l) (ht:DutM W (.slice A n c) d)
 (hx:a.eval x0= .slice (some ⟨W.heap.size,0,none⟩) 1 1) (hn:l.length+1≤1099511627776) (hbase:base≤W.heap.size)
 (h:∀v' w',RdO DuR 65 1 base w' v' (l++[d])→KeepBut 65 W w'→Below base W w'→Others v.ownBlock W w'→(v'.ownBlock=v.ownBlock∨∀g,v'.ownBlock=some g→W.heap.size≤g)→wpList Try.prog ops Q rest (a.put o.dst v') w'):
 wpList Try.prog ops Q (o::rest) a (W.alloc (.cells #[.slice A n c] 65)):=by
 refine wpList_plain hgd fun K hK=>?_
 obtain ⟨v',w',hr,g1,g2,g3,g4,g5⟩:=run_append_duty o.type W base v l d A n c hown ht hn hbase
 unfold Oper.wp execOp
 simp only [ho,resolve,invoke,builtin,Sem.run_bind,Sem.run_pure,Result.andThen_ok,List.map_toArray,List.map_cons,List.map_nil,hs,hx,hr]
 exact hK _ _ (h v' w' g1 g2 g3 g4 g5)
theorem info_col:(Try.prog.info? 40).map (fun i=>(i.zero,i.size,i.bytes))=some (some (.agg #[.string ⟨#[]⟩,.slice none 0 0,.int .i64 0]),3,48):=by kernel_rfl
theorem run_append_col (ty:TypeId) (W:World) (base:Nat) (v:Value) (l:List (Cl)) (x:Cl) (s:ByteArray) (A:Option Addr) (n c:Nat) (hown:RdO ClR 40 3 base W v l) (ht:DutsM W (.slice A n c) x.dut) (hn:l.length+1≤1099511627776) (hbase:base≤W.heap.size):
 ∃v' w',(Builtin.append_ #[23,23] ty #[v,.slice (some ⟨W.heap.size,0,none⟩) 1 1]).run Try.prog (W.alloc (.cells #[.string s,.slice A n c,.int .i64 x.cost] 40))= .ok v' w'∧RdO ClR 40 3 base w' v' (l++[x])∧KeepBut 40 W w'∧Below base W w'∧Others v.ownBlock W w'∧(v'.ownBlock=v.ownBlock∨∀g,v'.ownBlock=some g→W.heap.size≤g):=by
 obtain ⟨i0,hi,hz0,hz1,hz2⟩:=info_parts info_col
 exact run_append_rd ty 23 40 i0 _ 3 48 Try.underlying23 hi hz0 hz1 hz2 rfl (by decide) W base v l x [.string s,.slice A n c,.int .i64 x.cost] hown rfl (fun u hu=>by
  simp at hu
  rcases hu with rfl | rfl | rfl <;> rfl) hn (by decide) hbase (fun w2 hk _ _ h=>h.but hk (by decide) (by decide)) ⟨s,A,n,c,rfl,ht⟩
theorem info_cut:(Try.prog.info? 43).map (fun i=>(i.zero,i.size,i.bytes))=some (some (.agg #[.slice none 0 0,.int .i64 0]),2,32):=by kernel_rfl
theorem run_append_cut (ty:TypeId) (W:World) (base:Nat) (v:Value) (l:List (Ct)) (x:Ct) (A:Option Addr) (n c:Nat) (hown:RdO CtR 43 2 base W v l) (ht:IntsT W (.slice A n c) x.rows) (hn:l.length+1≤1099511627776) (hbase:base≤W.heap.size):
 ∃v' w',(Builtin.append_ #[24,24] ty #[v,.slice (some ⟨W.heap.size,0,none⟩) 1 1]).run Try.prog (W.alloc (.cells #[.slice A n c,.int .i64 x.dv] 43))= .ok v' w'∧RdO CtR 43 2 base w' v' (l++[x])∧KeepBut 43 W w'∧Below base W w'∧Others v.ownBlock W w'∧(v'.ownBlock=v.ownBlock∨∀g,v'.ownBlock=some g→W.heap.size≤g):=by
 obtain ⟨i0,hi,hz0,hz1,hz2⟩:=info_parts info_cut
 exact run_append_rd ty 24 43 i0 _ 2 32 Try.underlying24 hi hz0 hz1 hz2 rfl (by decide) W base v l x [.slice A n c,.int .i64 x.dv] hown rfl (fun u hu=>by
  simp at hu
  rcases hu with rfl | rfl <;> rfl) hn (by decide) hbase (fun w2 hk _ _ h=>h.but hk (by decide)) ⟨A,n,c,rfl,ht⟩
theorem wpList_append_cut {ops:Array Oper} {rest:List Oper} {o:Oper} {a:Act} {Q:Exit→Act→World→Prop} (hgd:o.guard=none) (s0 x0:Operand)
 (ho:o.op= .call { callee:= .builtin .append,args:=#[s0,x0],argTypes:=#[24,24] })
 (W:World) (base:Nat) (v:Value) (l:List (Ct)) (x:Ct) (A:Option Addr) (n c:Nat) (hs:a.eval s0=v) (hown:RdO CtR 43 2 base W v l) (ht:IntsT W (.slice A n c) x.rows)
 (hx:a.eval x0= .slice (some ⟨W.heap.size,0,none⟩) 1 1) (hn:l.length+1≤1099511627776) (hbase:base≤W.heap.size)
 (h:∀v' w',RdO CtR 43 2 base w' v' (l++[x])→KeepBut 43 W w'→Below base W w'→Others v.ownBlock W w'→(v'.ownBlock=v.ownBlock∨∀g,v'.ownBlock=some g→W.heap.size≤g)→wpList Try.prog ops Q rest (a.put o.dst v') w'):
 wpList Try.prog ops Q (o::rest) a (W.alloc (.cells #[.slice A n c,.int .i64 x.dv] 43)):=by
 refine wpList_plain hgd fun K hK=>?_
 obtain ⟨v',w',hr,g1,g2,g3,g4,g5⟩:=run_append_cut o.type W base v l x A n c hown ht hn hbase
 unfold Oper.wp execOp
 simp only [ho,resolve,invoke,builtin,Sem.run_bind,Sem.run_pure,Result.andThen_ok,List.map_toArray,List.map_cons,List.map_nil,hs,hx,hr]
 exact hK _ _ (h v' w' g1 g2 g3 g4 g5)
theorem run_append_dcol (ty:TypeId) (W:World) (base:Nat) (v:Value) (l:List (Dc)) (x:Dc) (A:Option Addr) (n c:Nat) (hown:RdO DcR 59 4 base W v l) (ht:IntsT W (.slice A n c) (iL x.rows)) (hn:l.length+1≤1099511627776) (hbase:base≤W.heap.size):
 ∃v' w',(Builtin.append_ #[48,48] ty #[v,.slice (some ⟨W.heap.size,0,none⟩) 1 1]).run Try.prog (W.alloc (.cells #[.int .i64 (x.idx:Int),.int .u32 (x.mask:Int),.slice A n c,.int .i64 x.sur] 59))= .ok v' w'∧RdO DcR 59 4 base w' v' (l++[x])∧KeepBut 59 W w'∧Below base W w'∧Others v.ownBlock W w'∧(v'.ownBlock=v.ownBlock∨∀g,v'.ownBlock=some g→W.heap.size≤g):=by
 obtain ⟨i0,hi,hz0,hz1,hz2⟩:=info_parts info_dcol
 exact run_append_rd ty 48 59 i0 _ 4 48 Try.underlying48 hi hz0 hz1 hz2 rfl (by decide) W base v l x [.int .i64 (x.idx:Int),.int .u32 (x.mask:Int),.slice A n c,.int .i64 x.sur] hown rfl (fun u hu=>by
  simp at hu
  rcases hu with rfl | rfl | rfl | rfl <;> rfl) hn (by decide) hbase (fun w2 hk _ _ h=>h.but hk (by decide)) ⟨A,n,c,rfl,ht⟩
theorem wpList_append_dcol {ops:Array Oper} {rest:List Oper} {o:Oper} {a:Act} {Q:Exit→Act→World→Prop} (hgd:o.guard=none) (s0 x0:Operand)
 (ho:o.op= .call { callee:= .builtin .append,args:=#[s0,x0],argTypes:=#[48,48] })
 (W:World) (base:Nat) (v:Value) (l:List (Dc)) (x:Dc) (A:Option Addr) (n c:Nat) (hs:a.eval s0=v) (hown:RdO DcR 59 4 base W v l) (ht:IntsT W (.slice A n c) (iL x.rows))
 (hx:a.eval x0= .slice (some ⟨W.heap.size,0,none⟩) 1 1) (hn:l.length+1≤1099511627776) (hbase:base≤W.heap.size)
 (h:∀v' w',RdO DcR 59 4 base w' v' (l++[x])→KeepBut 59 W w'→Below base W w'→Others v.ownBlock W w'→(v'.ownBlock=v.ownBlock∨∀g,v'.ownBlock=some g→W.heap.size≤g)→wpList Try.prog ops Q rest (a.put o.dst v') w'):
 wpList Try.prog ops Q (o::rest) a (W.alloc (.cells #[.int .i64 (x.idx:Int),.int .u32 (x.mask:Int),.slice A n c,.int .i64 x.sur] 59)):=by
 refine wpList_plain hgd fun K hK=>?_
 obtain ⟨v',w',hr,g1,g2,g3,g4,g5⟩:=run_append_dcol o.type W base v l x A n c hown ht hn hbase
 unfold Oper.wp execOp
 simp only [ho,resolve,invoke,builtin,Sem.run_bind,Sem.run_pure,Result.andThen_ok,List.map_toArray,List.map_cons,List.map_nil,hs,hx,hr]
 exact hK _ _ (h v' w' g1 g2 g3 g4 g5)
namespace Pl
def ColGood (R:List Int) (c:Cl):Prop:=c.ops≠[]∧c.ops.Nodup∧(∀f∈c.ops,f∈R)∧ -5≤c.cost∧c.cost≤40
theorem opD_snoc (d:List Tk) (t:Tk):opD (d++[t])=opD d++(if t.hd=true then [] else [t.fl]):=by rw [opD_append];simp [opD]
theorem opP_snoc (p:List (List Tk)) (d:List Tk):opP (p++[d])=opP p++opD d:=by rw [opP_append];simp [opP]
def dirR (b:Bool) (R:List Int):List Int:=if b=true then R.reverse else R
theorem dirR_get {b:Bool} {R:List Int} {i:Nat} (hi:i < R.length):(dirR b R)[i]? =R[if b=true then R.length - 1 - i else i]? :=by
 cases b with
 | false=>simp [dirR]
 | true=>simp [dirR,hi]
theorem take_snoc_sub {L:List Int} {i:Nat} {y:Int} (h:L[i]? =some y):(∀{a:List Int},a.Sublist (L.take i)→a.Sublist (L.take (i+1)))∧∀{a:List Int},a.Sublist (L.take i)→(a++[y]).Sublist (L.take (i+1)):=by
 rw [List.take_add_one,h]
 exact ⟨fun ha=>ha.trans (List.sublist_append_left _ _),fun ha=>List.Sublist.append ha (List.Sublist.refl _)⟩
end Pl
def DutO:Nat→World→Value→List Tk→Prop:=RdO TkR 63 2
def DutsO:Nat→World→Value→List (List Tk)→Prop:=RdO DuR 65 1
def McolPost (R:List Int) (w:World) (e:Ending) (w':World):Prop:=∃s A n c cl,e= .returned (.agg #[.string s,.slice A n c,.int .i64 cl.cost])∧DutsM w' (.slice A n c) cl.dut∧ColGood R cl∧Below w.heap.size w w'
theorem IntsM.bds {w:World} {v:Value} {zs:List Int} (h:IntsM w v zs):∀z∈zs,-9223372036854775808≤z∧z≤9223372036854775807:=by
 obtain ⟨a,cap,h1,h2,h3,h4,h5⟩:=h
 exact h5
theorem mcolumn_own (v:Value) (R:List Int) (N k:Int) (w:World) (h:IntsM w v R) (h0:1≤R.length) (h1:R.length≤6) (hnd:R.Nodup) (hN0:0≤N) (hN1:N≤1048576) (hk0:0≤k) (hk1:k≤1048576):
 Calls Try.prog 9 #[v,.int .i64 N,.int .i64 k] w (McolPost R w):=by
 obtain ⟨A,c,rfl,hc,hc'⟩:=h.shape
 obtain ⟨n,hn⟩:∃n,n=R.length:=⟨_,rfl⟩
 rw [← hn] at h hc h0 h1 ⊢
 have HN:=Lib.hid hn
 have HI:=Lib.hid h
 have HND:=Lib.hid hnd
 clear h hn hnd
 have m1:=i64_and1
 have m3:=i64_and3
 have m7:=i64_and7
 obtain ⟨W,hW,hX,hbe⟩:=box_col w (.string ⟨#[]⟩) (.slice none 0 0) (.int .i64 0)
 go_enter Try.func9,Try.ntmps9
 go_upto_if 14 with (fail)
 clear hW
 go_cut [7] (fun s7 wx=>∃d,DutO W.heap.size wx s7 d∧opD d=[]∧d.length≤1∧Below W.heap.size W wx)
 case first=>
  by_cases hk:k % 2=1
  ·have hk':(k % 2==1)=true:=by simpa using hk
   have hO0:=Lib.hid (RdO.nil (R:=TkR) 63 2 W.heap.size W)
   clear hk
   go_wp2_with (at_builtin;refine wpList_append_task rfl (.tmp 15) (.tmp 17) rfl W W.heap.size (.slice none 0 0) [] ⟨0,true⟩ rfl hO0.out ⟨by decide,by decide⟩ rfl (by decide) (Nat.le_refl _) ?_)
   intro v' w4 hown4 hk4 hb4 _ _
   go_wp2
   go_meet
   exact ⟨_,hown4,by simp [opD],by simp,hb4⟩
  ·have hk':(k % 2==1)=false:=by simpa using hk
   clear hk
   go_wp2
   go_meet
   exact ⟨[],RdO.nil _ _ _ _,rfl,by simp,Below.refl _ _⟩
 case rest=>
  obtain ⟨d0,hd0,hop0,hl0,hb0⟩:=hcut
  have hbw:=below_then hbe hb0 hbe.size
  have hwW:=hbe.size
  have hXc:=hX.later hb0
  have hD0:=Lib.hid hd0
  obtain ⟨fl,hfl⟩:∃fl:Bool,fl=decide (k / 2 % 8=7):=⟨_,rfl⟩
  have HFL:=Lib.hid hfl
  clear hd0 hfl hX hbe
  go_wp2
  go_loopw [7,8,9,10] (fun s7 s8 s9 s10 wr=>∃(i:Nat) (dl:List (List Tk)) (d:List Tk) (sm:Bool) (wl:World),i≤n∧s10= .int .i64 i∧s9= .bool sm∧W.heap.size≤wl.heap.size∧Below w.heap.size w wr∧Bk wr w.heap.size 40 [.string ⟨#[]⟩,.slice none 0 0,.int .i64 0]∧Below wl.heap.size wl wr∧dl.length≤i∧d.length≤i+1∧Hid (DutsO W.heap.size wl s8 dl∧DutO wl.heap.size wr s7 d∧(opP dl++opD d).Sublist ((dirR fl R).take i)∧(sm=false↔opP dl++opD d=[]))) (fun _ _ _ x _=>n - (intOf x).toNat)
  case atStart=>exact ⟨0,[],d0,false,W,by omega,rfl,rfl,Nat.le_refl _,hbw,hXc,hb0,by simp,by omega,Lib.hid ⟨RdO.nil _ _ _ _,hD0.out,by simp [opP,hop0],by simp [opP,hop0]⟩⟩
  case round=>
   clear hbw hXc hD0 hop0 hl0 hb0
   obtain ⟨i,dl,d,sm,wl,hi,rfl,rfl,hwl,hb,hB,hbl,hdl,hd,HV⟩:=hrel
   rcases Nat.lt_or_ge i n with hil | hil
   ·have hiz:(i:Int) < n:=by omega
    obtain ⟨b,off,y0,hA,hcell0,hy0,_,_⟩:=HI.out.elem hb hil
    subst hA
    obtain ⟨y,hy⟩:∃y,(dirR fl R)[i]? =some y:=by
     rw [dirR_get (by rw [← HN.out];exact hil)]
     exact ⟨_,List.getElem?_eq_getElem (by rw [← HN.out];split <;> omega)⟩
    have HY:=Lib.hid hy
    have hyr: -9223372036854775808≤y∧y≤9223372036854775807:=by
     rw [dirR_get (by rw [← HN.out];exact hil)] at hy
     exact HI.out.bds y (List.mem_of_getElem? hy)
    have HYR:=Lib.hid hyr
    clear hyr
    go_upto_if 32 with (fail)
    go_cut [11] (fun s11 wx=>s11= .int .i64 y∧wx=wr)
    case first=>
     cases hf:fl with
     | true=>
      have hfk:k / 2 % 8=7:=by have:=HFL.out;rw [hf] at this;simpa using this.symm
      have hfk':(k / 2 % 8==7)=true:=by simpa using hfk
      rw [hf,dirR_get (by rw [← HN.out];exact hil),if_pos rfl,← HN.out] at hy
      have hc2:=HI.out.cellAt hb hy
      have z0:(0:Int)≤(n:Int) - 1 - i:=by omega
      have z1:(n:Int) - 1 - i < n:=by omega
      have z2:((n:Int) - 1 - i).toNat=n - 1 - i:=by omega
      clear hy hfk
      go_wp2
      go_meet
      exact ⟨rfl,rfl⟩
     | false=>
      have hfk:¬k / 2 % 8=7:=by have:=HFL.out;rw [hf] at this;simpa using this.symm
      have hfk':(k / 2 % 8==7)=false:=by simpa using hfk
      rw [hf,dirR_get (by rw [← HN.out];exact hil),if_neg (by simp)] at hy
      rw [hy] at hy0
      injection hy0 with hy0
      subst hy0
      clear hy hfk
      go_wp2
      go_meet
      exact ⟨rfl,rfl⟩
    case rest=>
     obtain ⟨rfl,rfl⟩:=hcut
     go_upto_if 46 with (fail)
     have hTS:=@take_snoc_sub (dirR fl R) i y HY.out
     have HTS:=Lib.hid hTS
     clear hTS hcell0 hy
     by_cases hbit:N / 2^i % 2=1
     ·have hbit':(N / 2^i % 2==1)=true:=by simpa using hbit
      have HV1:=HV.out
      have HD1:=Lib.hid HV1.2.1
      have HL1:=Lib.hid HV1.1
      have HS1:Hid ((opP dl++opD (d++[⟨y,false⟩])).Sublist ((dirR fl R).take (i+1))∧opP dl++opD (d++[⟨y,false⟩])≠[]):=Lib.hid (by
       have e:opP dl++opD (d++[⟨y,false⟩])=(opP dl++opD d)++[y]:=by rw [opD_snoc];simp
       rw [e]
       exact ⟨HTS.out.2 HV1.2.2.1,by simp⟩)
      have hlen:d.length+1≤1099511627776:=by omega
      have hbs:=hbl.size
      clear hbit HV1 HV
      go_wp2_with (at_builtin;refine wpList_append_task rfl (.tmp 47) (.tmp 50) rfl wc wl.heap.size u7 d ⟨y,false⟩ rfl HD1.out HYR.out rfl hlen hbs ?_)
      intro v' w4 hown4 hk4 hb4 _ _
      have hbl4:=hbl.trans hb4
      have hbw4:=hb.trans (hb4.mono (Nat.le_trans hwW hwl))
      have hB4:=hk4.bk hB (by decide)
      obtain ⟨A4,n4,c4,rfl⟩:=RdO.sliceN hown4
      clear hb4 hk4 hb hB hbl HD1
      by_cases hsb:k / 16 % 4=3
      ·have hsb':(k / 16 % 4==3)=true:=by simpa using hsb
       have HL4:Hid (DutsO W.heap.size w4 u8 dl):=Lib.hid (RdO.below HL1.out hbl4 fun _ _ h=>h.below hbl4)
       have HD4:Hid (DutM w4 (.slice A4 n4 c4) (d++[⟨y,false⟩])):=Lib.hid (RdO.rd hown4)
       have hlen2:dl.length+1≤1099511627776:=by omega
       have hbs2:W.heap.size≤w4.heap.size:=Nat.le_trans hwl hbl4.size
       clear hsb hown4 HL1
       go_wp2_with (at_builtin;refine wpList_append_duty rfl (.tmp 56) (.tmp 58) rfl w4 W.heap.size u8 dl (d++[⟨y,false⟩]) A4 n4 c4 rfl HL4.out HD4.out rfl hlen2 hbs2 ?_)
       intro v5 w5 hown5 hk5 hb5 _ _
       have hB5:=hk5.bk hB4 (by decide)
       have hb6:=hbw4.trans (hb5.mono hwW)
       have HF:=Lib.hid hown5
       have hs5:=hb5.size
       clear hown5 hk5 hb5
       go_wp2
       go_roundw
       case rel=>exact ⟨i+1,dl++[d++[(⟨y,false⟩:Tk)]],[],true,w5,by omega,by go_num,rfl,by omega,hb6,hB5,Below.refl _ _,by simp;omega,by simp,Lib.hid ⟨HF.out,RdO.nil _ _ _ _,by rw [opP_snoc];simpa [opD] using HS1.out.1,by rw [opP_snoc];simpa [opD] using HS1.out.2⟩⟩
       case measure=>simp [intOf];omega
      ·have hsb':(k / 16 % 4==3)=false:=by simpa using hsb
       have HF:=Lib.hid hown4
       clear hsb hown4
       go_wp2
       go_roundw
       case rel=>exact ⟨i+1,dl,d++[(⟨y,false⟩:Tk)],true,wl,by omega,by go_num,rfl,hwl,hbw4,hB4,hbl4,by omega,by simp;omega,Lib.hid ⟨HL1.out,HF.out,HS1.out.1,by simpa using HS1.out.2⟩⟩
       case measure=>simp [intOf];omega
     ·have hbit':(N / 2^i % 2==1)=false:=by simpa using hbit
      clear hbit
      go_wp2
      go_roundw
      case rel=>exact ⟨i+1,dl,d,sm,wl,by omega,by go_num,rfl,hwl,hb,hB,hbl,by omega,by omega,Lib.hid ⟨HV.out.1,HV.out.2.1,HTS.out.1 HV.out.2.2.1,HV.out.2.2.2⟩⟩
      case measure=>simp [intOf];omega
   ·obtain rfl:n=i:=by omega
    have HSUB:Hid ((opP dl++opD d).Nodup∧∀f∈opP dl++opD d,f∈R):=Lib.hid (by
     have h1:=HV.out.2.2.1.trans (List.take_sublist _ _)
     cases fl with
     | false=>exact ⟨List.Nodup.sublist h1 HND.out,fun f hf=>h1.subset hf⟩
     | true=>exact ⟨List.Nodup.sublist h1 ((List.reverse_perm R).nodup_iff.2 HND.out),fun f hf=>List.mem_reverse.1 (h1.subset hf)⟩)
    go_upto_if 61 with (fail)
    go_cut [7] (fun s7 wx=>∃d',Below w.heap.size w wx∧Bk wx w.heap.size 40 [.string ⟨#[]⟩,.slice none 0 0,.int .i64 0]∧Below wl.heap.size wl wx∧d'.length≤n+2∧Hid (DutO wl.heap.size wx s7 d'∧opP dl++opD d'≠[]∧(opP dl++opD d').Nodup∧∀f∈opP dl++opD d',f∈R))
    case first=>
     cases sm with
     | true=>
      go_wp2
      go_meet
      exact ⟨d,hb,hB,hbl,by omega,Lib.hid ⟨HV.out.2.1,(fun e=>by have:=HV.out.2.2.2.2 e;cases this),HSUB.out.1,HSUB.out.2⟩⟩
     | false=>
      have HE0:Hid (opP dl++opD d=[]):=Lib.hid (HV.out.2.2.2.1 rfl)
      have hx0:0≤N / 64 % n:=Int.emod_nonneg _ (by omega)
      have hx1:N / 64 % n < n:=Int.emod_lt_of_pos _ (by omega)
      obtain ⟨b,off,y,hA,hcell,hy,y0,y1⟩:=HI.out.elem hb (k:=(N / 64 % n).toNat) (by omega)
      subst hA
      have HY:=Lib.hid (List.mem_of_getElem? hy)
      have hn0:((n:Int)==0)=false:=by simp;omega
      have hn1:¬n=0:=by omega
      have HD1:=Lib.hid HV.out.2.1
      have hlen:d.length+1≤1099511627776:=by omega
      have hbs:=hbl.size
      clear hy
      go_wp2_with (at_builtin;refine wpList_append_task rfl (.tmp 62) (.tmp 72) rfl wr wl.heap.size u7 d ⟨y,false⟩ rfl HD1.out ⟨y0,y1⟩ rfl hlen hbs ?_)
      intro v' w4 hown4 hk4 hb4 _ _
      have hbl4:=hbl.trans hb4
      have hbw4:=hb.trans (hb4.mono (Nat.le_trans hwW hwl))
      have hB4:=hk4.bk hB (by decide)
      have HF:=Lib.hid hown4
      clear hown4 hk4 hb4
      go_wp2
      go_meet
      exact ⟨d++[(⟨y,false⟩:Tk)],hbw4,hB4,hbl4,by simp;omega,Lib.hid ⟨HF.out,by
       have e:opP dl++opD (d++[(⟨y,false⟩:Tk)])=[y]:=by rw [opD_snoc,← List.append_assoc,HE0.out];simp
       rw [e]
       refine ⟨by simp,by simp,fun f hf=>?_⟩
       simp at hf;subst hf;exact HY.out⟩⟩
    case rest=>
     clear hb hB hbl hd
     obtain ⟨d',hb,hB,hbl,hd',HD⟩:=hcut
     have HLS:=Lib.hid HV.out.1
     clear HV HSUB
     obtain ⟨A7,c7,rfl⟩:=RdO.slice HD.out.1
     obtain ⟨-,q1,q2⟩:=RdM.len (RdO.rd HD.out.1)
     generalize hq:d'.length=q at *
     have HQN:=Lib.hid hq
     clear hq
     go_upto_if 76 with (fail)
     go_cut [8] (fun s8 wx=>∃dl',Below w.heap.size w wx∧Bk wx w.heap.size 40 [.string ⟨#[]⟩,.slice none 0 0,.int .i64 0]∧Hid (DutsO W.heap.size wx s8 dl'∧opP dl'=opP dl++opD d'))
     case first=>
      rcases Nat.eq_zero_or_pos q with hq0 | hq0
      ·have hd0:d'=[]:=List.eq_nil_of_length_eq_zero (by rw [HQN.out];exact hq0)
       subst hq0
       have HF:Hid (DutsO W.heap.size wc u8 dl∧opP dl=opP dl++opD d'):=Lib.hid ⟨RdO.below HLS.out hbl fun _ _ h=>h.below hbl,by rw [hd0];simp [opD]⟩
       clear hd0
       go_wp2
       go_meet
       exact ⟨dl,hb,hB,HF⟩
      ·have hqz:(0:Int) < q:=by omega
       have HL4:Hid (DutsO W.heap.size wc u8 dl):=Lib.hid (RdO.below HLS.out hbl fun _ _ h=>h.below hbl)
       have HD4:Hid (DutM wc (.slice A7 q c7) d'):=Lib.hid (RdO.rd HD.out.1)
       have hlen2:dl.length+1≤1099511627776:=by omega
       have hbs2:W.heap.size≤wc.heap.size:=Nat.le_trans hwl hbl.size
       clear hbl HLS
       go_wp2_with (at_builtin;refine wpList_append_duty rfl (.tmp 77) (.tmp 79) rfl wc W.heap.size u8 dl d' A7 q c7 rfl HL4.out HD4.out rfl hlen2 hbs2 ?_)
       intro v5 w5 hown5 hk5 hb5 _ _
       have hB5:=hk5.bk hB (by decide)
       have hb6:=hb.trans (hb5.mono hwW)
       have HF:Hid (DutsO W.heap.size w5 v5 (dl++[d'])∧opP (dl++[d'])=opP dl++opD d'):=Lib.hid ⟨hown5,opP_snoc _ _⟩
       clear hown5 hk5 hb5
       go_wp2
       go_meet
       exact ⟨dl++[d'],hb6,hB5,HF⟩
     case rest=>
      clear hb hB hbl
      obtain ⟨dl',hb,hB,HF⟩:=hcut
      obtain ⟨A8,n8,c8,rfl⟩:=RdO.sliceN HF.out.1
      obtain ⟨x0,x1,x2⟩:=hB.three
      obtain ⟨f0,f1,f2⟩:=hB.threeF
      have hr0:0≤N / 32 % 41:=Int.emod_nonneg _ (by omega)
      have hr1:N / 32 % 41 < 41:=Int.emod_lt_of_pos _ (by omega)
      go_wp2
      refine ret_cell Try.results9 Try.underlying40 (by kernel_rfl) rfl (((hB.set_ 0 _).set_ 1 _).set_ 2 _) rfl ?_
      have k1:=KeepBut.setCell hB 0 (.string ⟨#[65,65,65]⟩)
      have k2:=KeepBut.setCell (hB.set_ 0 (.string ⟨#[65,65,65]⟩)) 1 (.slice A8 n8 c8)
      have k3:=KeepBut.setCell ((hB.set_ 0 (.string ⟨#[65,65,65]⟩)).set_ 1 (.slice A8 n8 c8)) 2 (.int .i64 (N / 32 % 41 - 5))
      have kk:=(k1.trans k2).trans k3
      have hDD:DutsM wc (.slice A8 n8 c8) dl':=RdO.rd HF.out.1
      refine ⟨⟨#[65,65,65]⟩,A8,n8,c8,⟨dl',N / 32 % 41 - 5⟩,rfl,hDD.but kk (by decide) (by decide),?_,((hb.setCell (p:=⟨w.heap.size,0,none⟩) (Nat.le_refl _) _).setCell (p:=⟨w.heap.size,1,none⟩) (Nat.le_refl _) _).setCell (p:=⟨w.heap.size,2,none⟩) (Nat.le_refl _) _⟩
      have he:Cl.ops ⟨dl',N / 32 % 41 - 5⟩=opP dl++opD d':=HF.out.2
      unfold ColGood
      rw [he]
      exact ⟨HD.out.2.1,HD.out.2.2.1,HD.out.2.2.2,by simp only;omega,by simp only;omega⟩
theorem KeepBut.bk0 {w:World} {g b i:Nat} {u:Value} {e t:TypeId} {cs:List Value} (_:KeepBut e w (w.setCell ⟨g,i,none⟩ u)) (h:Bk w b t cs) (hn:b≠g):Bk (w.setCell ⟨g,i,none⟩ u) b t cs:=h.far hn u
namespace Pl
theorem asc_nodup {l:List Int} (h:l.Pairwise (· < ·)):l.Nodup:=List.nodup_iff_pairwise_ne.2 (h.imp fun {a b} hab=>Int.ne_of_lt hab)
def RowsOK (R:List Int):Prop:=3≤R.length∧R.length≤5∧R.Pairwise (· < ·)∧∀r∈R,0≤r∧r < 6
end Pl
theorem lit_ints {w:World} {g:Nat} {zs:List Int} {cs:List Value} (h:Bk w g 3 cs) (hc:cs=zs.map fun z=>Value.int .i64 z) (hl:zs.length≤1000) (hz:∀z∈zs,-9223372036854775808≤z∧z≤9223372036854775807):IntsT w (.slice (some ⟨g,0,none⟩) zs.length zs.length) zs:=by
 subst hc
 refine ⟨⟨_,_,rfl,by simp,Nat.le_refl _,by unfold maxLen;omega,fun _=>⟨g,0,_,(0,0),rfl,h,fun j u hj=>by simpa using hj⟩⟩,hz⟩
theorem box_rows (w:World):∃W,((((((w.alloc (.cells #[.int .i64 0,.int .i64 1,.int .i64 2] 3)).alloc (.cells #[.int .i64 1,.int .i64 2,.int .i64 4] 3)).alloc (.cells #[.int .i64 0,.int .i64 1,.int .i64 2,.int .i64 3] 3)).alloc (.cells #[.int .i64 0,.int .i64 2,.int .i64 3,.int .i64 5] 3)).alloc (.cells #[.int .i64 0,.int .i64 1,.int .i64 2,.int .i64 3,.int .i64 4] 3)).alloc (.cells #[.int .i64 1,.int .i64 2,.int .i64 3,.int .i64 4,.int .i64 5] 3)).alloc (.cells #[.slice (some ⟨w.heap.size,0,none⟩) 3 3,.slice (some ⟨w.heap.size+1,0,none⟩) 3 3,.slice (some ⟨w.heap.size+1+1,0,none⟩) 4 4,.slice (some ⟨w.heap.size+1+1+1,0,none⟩) 4 4,.slice (some ⟨w.heap.size+1+1+1+1,0,none⟩) 5 5,.slice (some ⟨w.heap.size+1+1+1+1+1,0,none⟩) 5 5] 22)=W∧Below w.heap.size w W∧
 ∀j:Nat,j < 6→∃(A:Option Addr) (k:Nat) (R:List Int),W.cell? ⟨w.heap.size+1+1+1+1+1+1,j,none⟩=some (.slice A k k)∧IntsT W (.slice A k k) R∧RowsOK R:=by
 obtain ⟨w1,e1,b1,s1,k1⟩:∃W,w.alloc (.cells #[.int .i64 0,.int .i64 1,.int .i64 2] 3)=W∧Below w.heap.size w W∧W.heap.size=w.heap.size+1∧Bk W w.heap.size 3 [.int .i64 0,.int .i64 1,.int .i64 2]:=⟨_,rfl,below_new _ _,by simp,Bk.new w _ [.int .i64 0,.int .i64 1,.int .i64 2]⟩
 rw [e1]
 obtain ⟨w2,e2,b2,s2,k2⟩:∃W,w1.alloc (.cells #[.int .i64 1,.int .i64 2,.int .i64 4] 3)=W∧Below w1.heap.size w1 W∧W.heap.size=w1.heap.size+1∧Bk W w1.heap.size 3 [.int .i64 1,.int .i64 2,.int .i64 4]:=⟨_,rfl,below_new _ _,by simp,Bk.new w1 _ [.int .i64 1,.int .i64 2,.int .i64 4]⟩
 rw [e2]
 obtain ⟨w3,e3,b3,s3,k3⟩:∃W,w2.alloc (.cells #[.int .i64 0,.int .i64 1,.int .i64 2,.int .i64 3] 3)=W∧Below w2.heap.size w2 W∧W.heap.size=w2.heap.size+1∧Bk W w2.heap.size 3 [.int .i64 0,.int .i64 1,.int .i64 2,.int .i64 3]:=⟨_,rfl,below_new _ _,by simp,Bk.new w2 _ [.int .i64 0,.int .i64 1,.int .i64 2,.int .i64 3]⟩
 rw [e3]
 obtain ⟨w4,e4,b4,s4,k4⟩:∃W,w3.alloc (.cells #[.int .i64 0,.int .i64 2,.int .i64 3,.int .i64 5] 3)=W∧Below w3.heap.size w3 W∧W.heap.size=w3.heap.size+1∧Bk W w3.heap.size 3 [.int .i64 0,.int .i64 2,.int .i64 3,.int .i64 5]:=⟨_,rfl,below_new _ _,by simp,Bk.new w3 _ [.int .i64 0,.int .i64 2,.int .i64 3,.int .i64 5]⟩
 rw [e4]
 obtain ⟨w5,e5,b5,s5,k5⟩:∃W,w4.alloc (.cells #[.int .i64 0,.int .i64 1,.int .i64 2,.int .i64 3,.int .i64 4] 3)=W∧Below w4.heap.size w4 W∧W.heap.size=w4.heap.size+1∧Bk W w4.heap.size 3 [.int .i64 0,.int .i64 1,.int .i64 2,.int .i64 3,.int .i64 4]:=⟨_,rfl,below_new _ _,by simp,Bk.new w4 _ [.int .i64 0,.int .i64 1,.int .i64 2,.int .i64 3,.int .i64 4]⟩
 rw [e5]
 obtain ⟨w6,e6,b6,s6,k6⟩:∃W,w5.alloc (.cells #[.int .i64 1,.int .i64 2,.int .i64 3,.int .i64 4,.int .i64 5] 3)=W∧Below w5.heap.size w5 W∧W.heap.size=w5.heap.size+1∧Bk W w5.heap.size 3 [.int .i64 1,.int .i64 2,.int .i64 3,.int .i64 4,.int .i64 5]:=⟨_,rfl,below_new _ _,by simp,Bk.new w5 _ [.int .i64 1,.int .i64 2,.int .i64 3,.int .i64 4,.int .i64 5]⟩
 rw [e6]
 obtain ⟨w7,e7,b7,s7,k7⟩:∃W,w6.alloc (.cells #[.slice (some ⟨w.heap.size,0,none⟩) 3 3,.slice (some ⟨w.heap.size+1,0,none⟩) 3 3,.slice (some ⟨w.heap.size+1+1,0,none⟩) 4 4,.slice (some ⟨w.heap.size+1+1+1,0,none⟩) 4 4,.slice (some ⟨w.heap.size+1+1+1+1,0,none⟩) 5 5,.slice (some ⟨w.heap.size+1+1+1+1+1,0,none⟩) 5 5] 22)=W∧Below w6.heap.size w6 W∧W.heap.size=w6.heap.size+1∧Bk W w6.heap.size 22 [.slice (some ⟨w.heap.size,0,none⟩) 3 3,.slice (some ⟨w.heap.size+1,0,none⟩) 3 3,.slice (some ⟨w.heap.size+1+1,0,none⟩) 4 4,.slice (some ⟨w.heap.size+1+1+1,0,none⟩) 4 4,.slice (some ⟨w.heap.size+1+1+1+1,0,none⟩) 5 5,.slice (some ⟨w.heap.size+1+1+1+1+1,0,none⟩) 5 5]:=⟨_,rfl,below_new _ _,by simp,Bk.new w6 _ [.slice (some ⟨w.heap.size,0,none⟩) 3 3,.slice (some ⟨w.heap.size+1,0,none⟩) 3 3,.slice (some ⟨w.heap.size+1+1,0,none⟩) 4 4,.slice (some ⟨w.heap.size+1+1+1,0,none⟩) 4 4,.slice (some ⟨w.heap.size+1+1+1+1,0,none⟩) 5 5,.slice (some ⟨w.heap.size+1+1+1+1+1,0,none⟩) 5 5]⟩
 rw [e7]
 rw [s6,s5,s4,s3,s2,s1] at k7
 rw [s5,s4,s3,s2,s1] at k6
 rw [s4,s3,s2,s1] at k5
 rw [s3,s2,s1] at k4
 rw [s2,s1] at k3
 rw [s1] at k2
 refine ⟨w7,rfl,((((((b1.trans (b2.mono (by omega))).trans (b3.mono (by omega))).trans (b4.mono (by omega))).trans (b5.mono (by omega))).trans (b6.mono (by omega))).trans (b7.mono (by omega))),fun j hj=>?_⟩
 have q1:=(((((k1.later b2).later b3).later b4).later b5).later b6).later b7
 have q2:=((((k2.later b3).later b4).later b5).later b6).later b7
 have q3:=(((k3.later b4).later b5).later b6).later b7
 have q4:=((k4.later b5).later b6).later b7
 have q5:=(k5.later b6).later b7
 have q6:=k6.later b7
 match j,hj with
 | 0,_=>exact ⟨_,_,[0,1,2],k7.cellAt 0 rfl,lit_ints (zs:=[0,1,2]) q1 rfl (by decide) (by decide),by unfold RowsOK;decide⟩
 | 1,_=>exact ⟨_,_,[1,2,4],k7.cellAt 1 rfl,lit_ints (zs:=[1,2,4]) q2 rfl (by decide) (by decide),by unfold RowsOK;decide⟩
 | 2,_=>exact ⟨_,_,[0,1,2,3],k7.cellAt 2 rfl,lit_ints (zs:=[0,1,2,3]) q3 rfl (by decide) (by decide),by unfold RowsOK;decide⟩
 | 3,_=>exact ⟨_,_,[0,2,3,5],k7.cellAt 3 rfl,lit_ints (zs:=[0,2,3,5]) q4 rfl (by decide) (by decide),by unfold RowsOK;decide⟩
 | 4,_=>exact ⟨_,_,[0,1,2,3,4],k7.cellAt 4 rfl,lit_ints (zs:=[0,1,2,3,4]) q5 rfl (by decide) (by decide),by unfold RowsOK;decide⟩
 | 5,_=>exact ⟨_,_,[1,2,3,4,5],k7.cellAt 5 rfl,lit_ints (zs:=[1,2,3,4,5]) q6 rfl (by decide) (by decide),by unfold RowsOK;decide⟩
def ClsO:Nat→World→Value→List Cl→Prop:=RdO ClR 40 3
def CutsO:Nat→World→Value→List Ct→Prop:=RdO CtR 43 2
def MastPost (w:World) (e:Ending) (w':World):Prop:=∃v m,e= .returned v∧MsM w' v m∧MsOK m∧Hid (m.fl=6∧3≤m.rows.length)∧Below w.heap.size w w'
theorem master_own (v:Value) (zs:List Int) (w:World) (h:IntsM w v zs):
 Calls Try.prog 4 #[v] w (MastPost w):=by
 obtain ⟨a,cap,rfl,hc1,hc2⟩:=h.shape
 generalize hn:zs.length=n at *
 clear hn
 obtain ⟨W0,hW0,hX,hbe⟩:=box_ms w (.int .i64 0) (.slice none 0 0) (.int .i64 0) (.slice none 0 0) (.slice none 0 0)
 go_enter Try.func4,Try.ntmps4
 go_wp2_with fail
 clear hW0
 refine (at_any _ zs 0 _ (h.below hbe) (by omega)).mono ?_
 rintro _ w1 ⟨z,rfl,z0,z1,hb1⟩
 have hX1:=hX.later hb1
 have hbe1:=below_then hbe hb1 hbe.size
 have hp0:0≤z % 30:=by omega
 have hp1:z % 30 < 30:=by omega
 clear hX hbe hb1
 go_upto_region 2 with (fail)
 have hM0:=Bk.new w1 26 [.int .i64 6,.slice none 0 0,.int .i64 (z % 30),.slice none 0 0,.slice none 0 0]
 have hbm:=below_new w1 (.cells #[.int .i64 6,.slice none 0 0,.int .i64 (z % 30),.slice none 0 0,.slice none 0 0] 26)
 have e:(#[.int .i64 6,.slice none 0 0,.int .i64 (z % 30),.slice none 0 0,.slice none 0 0]:Array Value)=[.int .i64 6,.slice none 0 0,.int .i64 (z % 30),.slice none 0 0,.slice none 0 0].toArray:=rfl
 rw [← e] at hM0
 clear e
 generalize w1.alloc (.cells #[.int .i64 6,.slice none 0 0,.int .i64 (z % 30),.slice none 0 0,.slice none 0 0] 26)=W2 at *
 have hbe2:=below_then hbe1 hbm hbe1.size
 have hX2:=hX1.later hbm
 have hgl:w.heap.size < w1.heap.size:=hX1.lt
 generalize w1.heap.size=gm at *
 clear hbe1 hX1 hbm
 generalize hP:z % 30=P at *
 clear hP z0 z1
 go_cut [4] (fun s4 wx=>∃R,RowsOK R∧IntsT wx s4 R∧Below W2.heap.size W2 wx)
 case first=>
  go_wp2_with fail
  obtain ⟨W3,hW3,hb3,hr⟩:=box_rows W2
  rw [hW3]
  clear hW3
  refine (at_any _ zs 1 _ ((h.below hbe2).below hb3) (by omega)).mono ?_
  rintro _ w4 ⟨y,rfl,y0,y1,hb4⟩
  have hj0:0≤y % 6:=by omega
  have hj1:y % 6 < 6:=by omega
  obtain ⟨A,k,R,hcell,hI,hR⟩:=hr (y % 6).toNat (by omega)
  have hcell4:=cell_keep hb4 hcell
  have HR:=Lib.hid hR
  have HI:=Lib.hid (hI.below hb4)
  have hb34:=below_then hb3 hb4 hb3.size
  clear hr hcell hR hI hb3 hb4
  go_wp2
  go_meet
  exact ⟨R,HR.out,HI.out,hb34⟩
 case rest=>
  obtain ⟨R,hR,hI,hb⟩:=hcut
  obtain ⟨A4,c4,rfl,hc41,hc42⟩:=hI.shape
  obtain ⟨r1,r2,r3,r4⟩:=hR
  obtain ⟨q,hq⟩:∃q,q=R.length:=⟨_,rfl⟩
  rw [← hq] at hI hc41 r1 r2 ⊢
  have HQ:=Lib.hid hq
  have HI:=Lib.hid hI
  have HRA:=Lib.hid r3
  have HRB:=Lib.hid r4
  have hM:=hM0.later hb
  have hbe3:=below_then hbe2 hb hbe2.size
  have hX3:=hX2.later hb
  obtain ⟨x0,x1,x2,x3,x4⟩:=hM.five
  obtain ⟨vr,wr',hrun,hro,hrk,hrb,_,_⟩:=run_append_intsL 22 wc wc.heap.size (.slice none 0 0) (.slice A4 q c4) [] R (IntsO.nil _ _) HI.out.ints (by simp;omega) (Nat.le_refl _)
  obtain ⟨Av,nv,cv,rfl⟩:=hro.sliceN
  have hnv:nv=q:=by rw [hro.len,HQ.out];simp
  subst hnv
  have hM4:=hrk.bk hM (by decide)
  obtain ⟨y0,y1,y2,y3,y4⟩:=hM4.five
  have f1:=hM4.frozen 1
  have hM5:=hM4.set_ 1 (.slice Av nv cv)
  have kk:=KeepBut.setCell hM4 1 (.slice Av nv cv)
  have hgw:=hM0.lt
  have hgc:gm < wc.heap.size:=hM.lt
  have hbe4:=hbe3.trans (hrb.mono hbe3.size)
  have hbe5:=hbe4.setCell (p:=⟨gm,1,none⟩) (Nat.le_of_lt hgl) (.slice Av nv cv)
  have hX5:=kk.bk0 (hrk.bk hX3 (by decide)) (Nat.ne_of_lt hgl)
  have HI5:=Lib.hid ((HI.out.below (hrb.mono (Nat.le_refl _))).but kk (by decide))
  have HV5:Hid (IntsT (wr'.setCell ⟨gm,1,none⟩ (.slice Av nv cv)) (.slice Av nv cv) R):=Lib.hid (by simpa using hro.typed.but kk (by decide))
  simp only [List.set_cons_succ,List.set_cons_zero] at hM5
  clear hq hI r3 r4 hro hrb hM kk
  go_wp2_with (at_builtin;refine wpList_append_run hrun rfl rfl rfl rfl rfl ?_)
  have HW5:Hid (w.heap.size≤gm):=Lib.hid (Nat.le_of_lt hgl)
  clear hX3 hM4 y0 y1 y2 y3 y4 f1 hbe4 hbe3 hrun HI hX2 hM0 hb hgc hbe2 x0 x1 x2 x3 x4 hrk
  generalize wr'.setCell ⟨gm,1,none⟩ (.slice Av nv cv)=W5 at *
  go_loopw [5] (fun x wr=>∃(j:Nat) (sv:Value) (cols:List Cl),j≤6∧x= .int .i64 j∧Below w.heap.size w wr∧Bk wr w.heap.size 26 [.int .i64 0,.slice none 0 0,.int .i64 0,.slice none 0 0,.slice none 0 0]∧Bk wr gm 26 [.int .i64 6,.slice Av nv cv,.int .i64 P,sv,.slice none 0 0]∧Hid (IntsT wr (.slice A4 nv c4) R∧IntsT wr (.slice Av nv cv) R)∧cols.length≤j∧Hid (ClsO w.heap.size wr sv cols∧∀cl∈cols,ColGood R cl)) (fun x _=>7 - (intOf x).toNat)
  case atStart=>exact ⟨0,_,[],by omega,rfl,hbe5,hX5,hM5,Lib.hid ⟨HI5.out,HV5.out⟩,by simp,Lib.hid ⟨RdO.nil _ _ _ _,fun cl h=>by simp at h⟩⟩
  case round=>
   clear hbe5 hX5 hM5 HI5 HV5
   obtain ⟨j,sv,cols,hj,rfl,hb,hX,hM,HT,hcl,HC⟩:=hrel
   go_wp2_with fail
   refine (at_any _ zs 2 _ (h.below hb) (by omega)).mono ?_
   rintro _ w6 ⟨y,rfl,y0,y1,hb6⟩
   have hjb:0≤y % 7∧y % 7 < 7:=by omega
   obtain ⟨g0,g1⟩:=hjb
   have hb7:=below_then hb hb6 hb.size
   have hX7:=hX.later hb6
   have hM7:=hM.later hb6
   have HT7:=Lib.hid (And.intro (HT.out.1.below hb6) (HT.out.2.below hb6))
   have HC7:Hid (ClsO w.heap.size w6 sv cols∧∀cl∈cols,ColGood R cl):=Lib.hid ⟨RdO.below HC.out.1 hb6 fun _ _ h=>h.below hb6,HC.out.2⟩
   clear hb hX hM HT HC hb6
   by_cases hlt:(j:Int) < y % 7
   ·have hj5:j≤5:=by omega
    obtain ⟨x0,x1,x2,x3,x4⟩:=hM7.five
    obtain ⟨Ac,ncc,cc,rfl⟩:=RdO.sliceN HC7.out.1
    go_upto_region 7 with (fail)
    have C0:=stab x3
    have hS0:=below_drew' w6
    clear x0 x1 x2 x3 x4
    refine region_seq 15 [0,1,2,3,4,5,6,8,9,10,11,7,12,13,14,15,16,17] (by kernel_rfl) (by kernel_rfl) ?_
    repeat ((first | (refine seq_takeP (v:=?_) rfl rfl rfl ?_ ?_;rotate_left;(· (intro _ hSw;go_simp;(try go_bits);(try with_reducible rfl)))) | (refine seq_take (v:=?_) rfl rfl rfl ?_ ?_;rotate_left;(· (intro _ hSw;go_simp;(try go_bits);(try with_reducible rfl)))) | refine seq_skip rfl rfl rfl ?_);(try simp only [Act.put,pu1,pu2,pu3,pu4,pu5,pu6]))
    refine seq_step rfl rfl (fun KR hKR=>?_)
    go_simp
    with_reducible refine (at_int _ zs (5+2 * (j:Int)) _ ((h.below hb7).below hS0) (by omega) (by omega)).mono ?_
    rintro _ w8 ⟨n8,rfl,p0,p1,hb8⟩
    have hS8:=below_then hS0 hb8 hS0.size
    refine hKR.out _ _ (Or.inr hS8) ?_
    clear hKR KR
    (try simp only [Act.put,pu1,pu2,pu3,pu4,pu5,pu6])
    repeat ((first | (refine seq_takeP (v:=?_) rfl rfl rfl ?_ ?_;rotate_left;(· (intro _ hSw;go_simp;(try go_bits);(try with_reducible rfl)))) | (refine seq_take (v:=?_) rfl rfl rfl ?_ ?_;rotate_left;(· (intro _ hSw;go_simp;(try go_bits);(try with_reducible rfl)))) | refine seq_skip rfl rfl rfl ?_);(try simp only [Act.put,pu1,pu2,pu3,pu4,pu5,pu6]))
    refine seq_step rfl rfl (fun KR hKR=>?_)
    go_simp
    with_reducible refine (at_int _ zs (6+2 * (j:Int)) _ ((h.below hb7).below hS8) (by omega) (by omega)).mono ?_
    rintro _ w9 ⟨n9,rfl,q0,q1,hb9⟩
    have hS9:=below_then hS8 hb9 hS8.size
    refine hKR.out _ _ (Or.inr hS9) ?_
    clear hKR KR
    (try simp only [Act.put,pu1,pu2,pu3,pu4,pu5,pu6])
    repeat ((first | (refine seq_takeP (v:=?_) rfl rfl rfl ?_ ?_;rotate_left;(· (intro _ hSw;go_simp;(try go_bits);(try with_reducible rfl)))) | (refine seq_take (v:=?_) rfl rfl rfl ?_ ?_;rotate_left;(· (intro _ hSw;go_simp;(try go_bits);(try with_reducible rfl)))) | refine seq_skip rfl rfl rfl ?_);(try simp only [Act.put,pu1,pu2,pu3,pu4,pu5,pu6]))
    refine seq_step rfl rfl (fun KR hKR=>?_)
    go_simp
    with_reducible refine (mcolumn_own _ R n8 n9 _ ((HT7.out.1.below hS9).ints) (by have:=HQ.out;omega) (by have:=HQ.out;omega) (asc_nodup HRA.out) p0 (by omega) q0 (by omega)).mono ?_
    rintro _ w10 ⟨sb,Ad,nd,cd,cl,rfl,hD,hG,hb10⟩
    have hS10:=below_then hS9 hb10 hS9.size
    have HD:=Lib.hid hD
    have HG:=Lib.hid hG
    clear hD hG
    refine hKR.out _ _ (Or.inr hS10) ?_
    clear hKR KR
    (try simp only [Act.put,pu1,pu2,pu3,pu4,pu5,pu6])
    repeat ((first | (refine seq_takeP (v:=?_) rfl rfl rfl ?_ ?_;rotate_left;(· (intro _ hSw;go_simp;(try go_bits);(try with_reducible rfl)))) | (refine seq_take (v:=?_) rfl rfl rfl ?_ ?_;rotate_left;(· (intro _ hSw;go_simp;(try go_bits);(try with_reducible rfl)))) | refine seq_skip rfl rfl rfl ?_);(try simp only [Act.put,pu1,pu2,pu3,pu4,pu5,pu6]))
    refine seq_step rfl rfl (fun KR hKR=>?_)
    go_simp
    refine hKR.out _ _ (Or.inr (below_then hS10 (below_new _ _) hS10.size)) ?_
    clear hKR KR
    (try simp only [Act.put,pu1,pu2,pu3,pu4,pu5,pu6])
    have HC10:Hid (ClsO w.heap.size w10 (.slice Ac ncc cc) cols):=Lib.hid (RdO.below HC7.out.1 hS10 fun _ _ h=>h.below hS10)
    obtain ⟨v11,w11,hrun,hro,hrk,hrb,_,_⟩:=run_append_col 23 w10 w.heap.size (.slice Ac ncc cc) cols cl sb Ad nd cd HC10.out HD.out (by omega) (by have:=hb7.size;have:=hS10.size;omega)
    obtain ⟨A11,n11,c11,rfl⟩:=RdO.sliceN hro
    refine seq_step rfl rfl (fun KR hKR=>?_)
    refine op_append_run _ _ rfl rfl rfl rfl hrun ?_
    refine hKR.out _ _ (Or.inl (by decide)) ?_
    clear hKR KR
    (try simp only [Act.put,pu1,pu2,pu3,pu4,pu5,pu6])
    have hM11:=hrk.bk (hM7.later hS10) (by decide)
    obtain ⟨x0,x1,x2,x3,x4⟩:=hM11.five
    have f3:=hM11.frozen 3
    refine seq_step rfl rfl (fun KR hKR=>?_)
    go_simp
    refine hKR.out _ _ (Or.inl (by decide)) ?_
    clear hKR KR
    (try simp only [Act.put,pu1,pu2,pu3,pu4,pu5,pu6])
    refine seq_step rfl rfl (fun KR hKR=>?_)
    go_simp
    refine hKR.out _ _ (Or.inl (by decide)) ?_
    clear hKR KR
    (try simp only [Act.put,pu1,pu2,pu3,pu4,pu5,pu6])
    refine seq_done ?_
    have kk:=KeepBut.setCell hM11 3 (.slice A11 n11 c11)
    have hM12:=hM11.set_ 3 (.slice A11 n11 c11)
    have hX12:=kk.bk0 (hrk.bk (hX7.later hS10) (by decide)) (Nat.ne_of_lt hgl)
    have hb12:=((below_then hb7 hS10 hb7.size).trans hrb).setCell (p:=⟨gm,3,none⟩) HW5.out (.slice A11 n11 c11)
    have HT12:=Lib.hid (And.intro (((HT7.out.1.below hS10).but hrk (by decide)).but kk (by decide)) (((HT7.out.2.below hS10).but hrk (by decide)).but kk (by decide)))
    have HC12:Hid (ClsO w.heap.size (w11.setCell ⟨gm,3,none⟩ (.slice A11 n11 c11)) (.slice A11 n11 c11) (cols++[cl])∧∀c∈cols++[cl],ColGood R c):=Lib.hid ⟨RdO.keep hro kk (by decide) fun _ _ h=>h.but kk (by decide) (by decide),fun c hc=>by
     rcases List.mem_append.1 hc with hc | hc
     ·exact HC7.out.2 c hc
     ·simp at hc;subst hc;exact HG.out⟩
    simp only [List.set_cons_succ,List.set_cons_zero] at hM12
    clear C0 hS0 hS8 hS9 hS10 hb8 hb9 hb10 hM11 x0 x1 x2 x3 x4 f3 kk hro hrk hrb hrun hX7 hM7 hb7 HC10 HD HT7 HC7 HG y0 y1 g0 g1 p0 p1 q0 q1
    go_wp2
    go_roundw
    case rel=>exact ⟨j+1,_,cols++[cl],by omega,by go_num,hb12,hX12,hM12,HT12,by simp;omega,HC12⟩
    case measure=>simp [intOf];omega
   ·obtain ⟨Ac,ncc,cc,rfl⟩:=RdO.sliceN HC7.out.1
    go_wp2
    clear y0 y1 g0 g1
    generalize w6=wo at *
    go_loopw [6] (fun x wr=>∃(k:Nat) (cv':Value) (cuts:List Ct),k≤2∧x= .int .i64 k∧Below w.heap.size w wr∧Bk wr w.heap.size 26 [.int .i64 0,.slice none 0 0,.int .i64 0,.slice none 0 0,.slice none 0 0]∧Bk wr gm 26 [.int .i64 6,.slice Av nv cv,.int .i64 P,.slice Ac ncc cc,cv']∧Hid (IntsT wr (.slice A4 nv c4) R∧IntsT wr (.slice Av nv cv) R∧ClsM wr (.slice Ac ncc cc) cols)∧cuts.length≤k∧Hid (CutsO w.heap.size wr cv' cuts∧∀x∈cuts,CutOK R x)) (fun x _=>3 - (intOf x).toNat)
    case atStart=>exact ⟨0,_,[],by omega,rfl,hb7,hX7,hM7,Lib.hid ⟨HT7.out.1,HT7.out.2,RdO.rd HC7.out.1⟩,by simp,Lib.hid ⟨RdO.nil _ _ _ _,fun x h=>by simp at h⟩⟩
    case round=>
     have HCG:Hid (∀cl∈cols,ColGood R cl):=Lib.hid HC7.out.2
     clear hb7 hX7 hM7 HT7 HC7
     obtain ⟨k,cv',cuts,hk,rfl,hb,hX,hM,HT,hcl2,HC⟩:=hrel
     go_wp2_with fail
     refine (at_any _ zs 3 _ (h.below hb) (by omega)).mono ?_
     rintro _ w6 ⟨y,rfl,y0,y1,hb6⟩
     have hjb:0≤y % 3∧y % 3 < 3:=by omega
     obtain ⟨g0,g1⟩:=hjb
     have hb7:=below_then hb hb6 hb.size
     have hX7:=hX.later hb6
     have hM7:=hM.later hb6
     have HT7:=Lib.hid (And.intro (HT.out.1.below hb6) (And.intro (HT.out.2.1.below hb6) (HT.out.2.2.below hb6)))
     have HC7:Hid (CutsO w.heap.size w6 cv' cuts∧∀x∈cuts,CutOK R x):=Lib.hid ⟨RdO.below HC.out.1 hb6 fun _ _ h=>h.below hb6,HC.out.2⟩
     clear hb hX hM HT HC hb6
     by_cases hlt:(k:Int) < y % 3
     ·have hk1:k≤1:=by omega
      obtain ⟨x0,x1,x2,x3,x4⟩:=hM7.five
      go_wp2_with fail
      clear x0 x1 x2 x3 x4 y0 y1 g0 g1
      have hbk:=below_new w6 (.cells #[.slice none 0 0,.int .i64 2] 43)
      have hK:=Bk.new w6 43 [.slice none 0 0,.int .i64 2]
      have e:(#[.slice none 0 0,.int .i64 2]:Array Value)=[.slice none 0 0,.int .i64 2].toArray:=rfl
      rw [← e] at hK
      clear e
      have hb8:=below_then hb7 hbk hb7.size
      have hsz7:(w6.alloc (.cells #[.slice none 0 0,.int .i64 2] 43)).heap.size=w6.heap.size+1:=by simp
      have hgk:gm < w6.heap.size:=hM7.lt
      have hwk:w.heap.size≤w6.heap.size:=hb7.size
      generalize w6.alloc (.cells #[.slice none 0 0,.int .i64 2] 43)=w7 at *
      refine (at_int _ zs (20+(k:Int)) _ (h.below hb8) (by omega) (by omega)).mono ?_
      rintro _ w9 ⟨y,rfl,y0,y1,hb9⟩
      have hs0:0≤y % nv:=Int.emod_nonneg _ (by omega)
      have hs1:y % nv < nv:=Int.emod_lt_of_pos _ (by omega)
      have hn0:((nv:Int)==0)=false:=by simp;omega
      have hn1:¬nv=0:=by omega
      have hb69:=below_then hbk hb9 hbk.size
      have hK10:=hK.later hb9
      have hs9:w6.heap.size+1≤w9.heap.size:=by have:=hb9.size;omega
      clear hb8 hK hb9 hbk hsz7
      go_wp2
      generalize y % nv=sk at *
      clear y0 y1
      have HS9:=Lib.hid hs9
      clear hs9
      generalize w9=wo2 at *
      go_loopw [9] (fun x wr=>∃(i:Nat) (ys:List Int) (xv:Value),i≤nv∧x= .int .i64 i∧Below w6.heap.size w6 wr∧Bk wr w6.heap.size 43 [xv,.int .i64 2]∧w6.heap.size+1≤wr.heap.size∧ys.length≤i∧i≤ys.length+(if sk < i then 1 else 0)∧(nv=3→i≤ys.length)∧Hid (IntsO (w6.heap.size+1) wr xv ys∧ys.Sublist (R.take i))) (fun x _=>nv - (intOf x).toNat)
      case atStart=>exact ⟨0,[],.slice none 0 0,by omega,rfl,hb69,hK10,HS9.out,by simp,by simp,by simp,Lib.hid ⟨IntsO.nil _ _,by simp⟩⟩
      case round=>
       clear hb69 hK10
       obtain ⟨i,ys,xv,hi,rfl,hb69,hK,hsw,hy1,hy2,hy3,HY⟩:=hrel
       rcases Nat.lt_or_ge i nv with hil | hil
       ·have hiz:(i:Int) < nv:=by omega
        obtain ⟨b,off,f,hA,hcell,hf,fb0,fb1⟩:=(HT7.out.1.ints).elem hb69 hil
        subst hA
        have HF:=Lib.hid (take_snoc_sub hf)
        clear hf
        by_cases hcond:(i:Int)≠sk∨nv=3
        ·have hlen:ys.length+1≤1099511627776:=by omega
         have HYO:=Lib.hid HY.out.1
         obtain ⟨k0,k1,f0,f1⟩:=hK.two
         obtain ⟨A0,n0,c0,rfl⟩:=HY.out.1.sliceN
         have hc:((i:Int) !=sk)=true∨(((i:Int) !=sk)=false∧((nv:Int)==3)=true):=by
          rcases hcond with h | h
          ·exact .inl (by simpa using h)
          ·by_cases e:(i:Int)=sk
           ·exact .inr ⟨by simpa using e,by simpa using congrArg (Nat.cast (R:=Int)) h⟩
           ·exact .inl (by simpa using e)
         clear hcond
         rcases hc with c1 | ⟨c1,c2⟩
         all_goals (
          go_upto_region 17 with (fail)
          clear c1
          try clear c2
          have C0:=stab hcell
          have C1:=stab k0
          have hS0:=below_drew' wr
          clear hcell k0 k1
          refine region_seq 7 [0,1,2,3,4,5,6,7,8,9] (by kernel_rfl) (by kernel_rfl) ?_
          repeat ((first | (refine seq_takeP (v:=?_) rfl rfl rfl ?_ ?_;rotate_left;(· (intro _ hSw;go_simp;(try go_bits);(try with_reducible rfl)))) | (refine seq_take (v:=?_) rfl rfl rfl ?_ ?_;rotate_left;(· (intro _ hSw;go_simp;(try go_bits);(try with_reducible rfl)))) | refine seq_skip rfl rfl rfl ?_);(try simp only [Act.put,pu1,pu2,pu3,pu4,pu5,pu6]))
          refine seq_step rfl rfl (fun KR hKR=>?_)
          go_simp
          refine hKR.out _ _ (Or.inr (below_then hS0 (below_new _ _) hS0.size)) ?_
          clear hKR KR
          (try simp only [Act.put,pu1,pu2,pu3,pu4,pu5,pu6])
          obtain ⟨v11,w11,hrun,hro,hrk,hrb,_,_⟩:=run_append_int 22 wr.drew (w6.heap.size+1) (.slice A0 n0 c0) ys f (HYO.out.below hS0) fb0 fb1 hlen (by have:=hS0.size;omega)
          obtain ⟨A11,n11,c11,rfl⟩:=hro.sliceN
          refine seq_step rfl rfl (fun KR hKR=>?_)
          refine op_append_run _ _ rfl rfl rfl rfl hrun ?_
          refine hKR.out _ _ (Or.inl (by decide)) ?_
          clear hKR KR
          (try simp only [Act.put,pu1,pu2,pu3,pu4,pu5,pu6])
          have hK11:=hrk.bk (hK.later hS0) (by decide)
          obtain ⟨k0,k1,f0,f1⟩:=hK11.two
          refine seq_step rfl rfl (fun KR hKR=>?_)
          go_simp
          refine hKR.out _ _ (Or.inl (by decide)) ?_
          clear hKR KR
          (try simp only [Act.put,pu1,pu2,pu3,pu4,pu5,pu6])
          refine seq_step rfl rfl (fun KR hKR=>?_)
          go_simp
          refine hKR.out _ _ (Or.inl (by decide)) ?_
          clear hKR KR
          (try simp only [Act.put,pu1,pu2,pu3,pu4,pu5,pu6])
          refine seq_done ?_
          have kk:=KeepBut.setCell hK11 0 (.slice A11 n11 c11)
          have hK12:=hK11.set_ 0 (.slice A11 n11 c11)
          have hb12:=(below_then hb69 hS0 hb69.size).trans ((hrb.mono (Nat.le_succ w6.heap.size)).setCell (p:=⟨w6.heap.size,0,none⟩) (Nat.le_refl _) (.slice A11 n11 c11))
          have hs12:w6.heap.size+1≤(w11.setCell ⟨w6.heap.size,0,none⟩ (.slice A11 n11 c11)).heap.size:=by
           have:=hS0.size;have:=hrb.size;simp;omega
          have HY12:Hid (IntsO (w6.heap.size+1) (w11.setCell ⟨w6.heap.size,0,none⟩ (.slice A11 n11 c11)) (.slice A11 n11 c11) (ys++[f])∧(ys++[f]).Sublist (R.take (i+1))):=Lib.hid ⟨hro.but kk (by decide),HF.out.2 HY.out.2⟩
          simp only [List.set_cons_succ,List.set_cons_zero] at hK12
          generalize w11.setCell ⟨w6.heap.size,0,none⟩ (.slice A11 n11 c11)=w12 at *
          clear kk hK11 hrun hro hrk hrb hK hb69 hS0 C0 C1 k0 k1 f0 f1 HY HYO HF hsw
          go_wp2
          go_roundw
          case rel=>exact ⟨i+1,ys++[f],_,by omega,by go_num,hb12,hK12,hs12,by simp;omega,by simp;split at hy2 <;> split <;> omega,fun e=>by simp;exact hy3 e,HY12⟩
          case measure=>simp [intOf];omega)
        ·have c1:((i:Int) !=sk)=false:=by simp;omega
         have c2:((nv:Int)==3)=false:=by simp;omega
         have HY12:Hid (IntsO (w6.heap.size+1) wr xv ys∧ys.Sublist (R.take (i+1))):=Lib.hid ⟨HY.out.1,HF.out.1 HY.out.2⟩
         have hy4:i+1≤ys.length+(if sk < ((i+1:Nat):Int) then 1 else 0):=by
          split at hy2 <;> split <;> omega
         have hy5:nv=3→i+1≤ys.length:=by omega
         clear hcond HY HF
         go_wp2
         go_roundw
         case rel=>exact ⟨i+1,ys,_,by omega,by go_num,hb69,hK,hsw,by omega,hy4,hy5,HY12⟩
         case measure=>simp [intOf];omega
       ·obtain rfl:nv=i:=by omega
        have hl3:3≤ys.length:=by
         split at hy2 <;> omega
        go_wp2_with fail
        refine (at_int _ zs (24+(k:Int)) _ ((h.below hb7).below hb69) (by omega) (by omega)).mono ?_
        rintro _ w9 ⟨y,rfl,ya,yb,hb9⟩
        obtain ⟨A0,n0,c0,rfl⟩:=HY.out.1.sliceN
        have hn3:(2:Int) < n0:=by have:=HY.out.1.len;omega
        have hb10:=below_then hb69 hb9 hb69.size
        have hK10:=hK.later hb9
        have HY10:Hid (IntsO (w6.heap.size+1) w9 (.slice A0 n0 c0) ys∧ys.Sublist R):=Lib.hid ⟨HY.out.1.below hb9,by have:=HY.out.2;rw [HQ.out,List.take_length] at this;exact this⟩
        have hs10:=Nat.le_trans hsw hb9.size
        clear hb69 hK hsw HY hb9 hy1 hy2 hy3 hi
        obtain ⟨k0,k1,f0,f1⟩:=hK10.two
        clear hl3
        have hyy:(y % 2==1)=true∨(y % 2==1)=false:=by cases (y % 2==1) <;> simp
        rcases hyy with hy | hy
        ·have kk:=KeepBut.setCell hK10 1 (.int .i64 3)
         have hK11:=hK10.set_ 1 (.int .i64 3)
         have hb11:=hb10.setCell (p:=⟨w6.heap.size,1,none⟩) (Nat.le_refl _) (.int .i64 3)
         have HY11:=Lib.hid (And.intro (HY10.out.1.but kk (by decide)) HY10.out.2)
         simp only [List.set_cons_succ,List.set_cons_zero] at hK11
         have hs11:w6.heap.size+1≤(w9.setCell ⟨w6.heap.size,1,none⟩ (.int .i64 3)).heap.size:=by simpa using hs10
         have HDV:Hid ((3:Int)≤ys.length):=Lib.hid (by have:=HY10.out.1.len;omega)
         clear kk
         go_upto_region 20 with (fail)
         clear hb10 hK10 HY10 hs10 k0 k1 f0 f1 hy
         generalize w9.setCell ⟨w6.heap.size,1,none⟩ (.int .i64 3)=w11 at *
         generalize hdv:(3:Int)=dv at HDV
         rw [hdv] at hK11
         have D0:2≤dv∧dv≤3:=by omega
         clear hdv
         have hgk:gm < w6.heap.size:=hM7.lt
         have hwk:w.heap.size≤w6.heap.size:=hb7.size
         obtain ⟨k0,k1,f0,f1⟩:=hK11.two
         obtain ⟨x0,x1,x2,x3,x4⟩:=(hM7.later hb11).five
         obtain ⟨A7,n7,c7,rfl⟩:=RdO.sliceN HC7.out.1
         have HCo:Hid (CutsO w.heap.size w11 (.slice A7 n7 c7) cuts):=Lib.hid (RdO.below HC7.out.1 hb11 fun _ _ h=>h.below hb11)
         have HAt:Hid (IntsT w11 (.slice A0 n0 c0) ys):=Lib.hid HY11.out.1.typed
         have hlen:cuts.length+1≤1099511627776:=by omega
         have hbs:w.heap.size≤w11.heap.size:=by omega
         go_wp2_with (at_builtin;refine wpList_append_cut rfl (.tmp 107) (.tmp 109) rfl w11 w.heap.size (.slice A7 n7 c7) cuts ⟨ys,dv⟩ A0 n0 c0 rfl HCo.out HAt.out rfl hlen hbs ?_)
         intro v13 w12 hown hrk hrb _ _
         obtain ⟨A13,n13,c13,rfl⟩:=RdO.sliceN hown
         clear x0 x1 x2 x3 x4 k0 k1 f0 f1
         have hM12:=hrk.bk (hM7.later hb11) (by decide)
         obtain ⟨x0,x1,x2,x3,x4⟩:=hM12.five
         have f4:=hM12.frozen 4
         have kk:=KeepBut.setCell hM12 4 (.slice A13 n13 c13)
         have hM13:=hM12.set_ 4 (.slice A13 n13 c13)
         have hX13:=kk.bk0 (hrk.bk (hX7.later hb11) (by decide)) (Nat.ne_of_lt hgl)
         have hb13:=((below_then hb7 hb11 hb7.size).trans hrb).setCell (p:=⟨gm,4,none⟩) HW5.out (.slice A13 n13 c13)
         have HT13:=Lib.hid (And.intro (((HT7.out.1.below hb11).but hrk (by decide)).but kk (by decide)) (And.intro (((HT7.out.2.1.below hb11).but hrk (by decide)).but kk (by decide)) (((HT7.out.2.2.below hb11).but hrk (by decide) (by decide) (by decide)).but kk (by decide) (by decide) (by decide))))
         have HC13:Hid (CutsO w.heap.size (w12.setCell ⟨gm,4,none⟩ (.slice A13 n13 c13)) (.slice A13 n13 c13) (cuts++[⟨ys,dv⟩])∧∀x∈cuts++[(⟨ys,dv⟩:Ct)],CutOK R x):=Lib.hid ⟨RdO.keep hown kk (by decide) fun _ _ h=>h.but kk (by decide),fun c hc=>by
          rcases List.mem_append.1 hc with hc | hc
          ·exact HC7.out.2 c hc
          ·simp at hc;subst hc
           exact ⟨HRA.out.sublist HY11.out.2,fun r hr=>HY11.out.2.mem hr,D0.1,HDV.out⟩⟩
         simp only [List.set_cons_succ,List.set_cons_zero] at hM13
         clear kk hM12 hown hrk hrb hM7 hX7 HT7 HC7 HCo HAt hb11 hK11 HY11 hs11
         go_wp2
         go_roundw
         case rel=>exact ⟨k+1,_,cuts++[⟨ys,dv⟩],by omega,by go_num,hb13,hX13,hM13,HT13,by simp;omega,HC13⟩
         case measure=>simp [intOf];omega
        ·have HDV:Hid ((2:Int)≤ys.length):=Lib.hid (by have:=HY10.out.1.len;omega)
         have hK11:=hK10
         have hb11:=hb10
         have HY11:=HY10
         have hs11:=hs10
         clear hb10 hK10 HY10 hs10
         go_upto_region 20 with (fail)
         clear k0 k1 f0 f1 hy
         generalize w9=w11 at *
         generalize hdv:(2:Int)=dv at HDV
         rw [hdv] at hK11
         have D0:2≤dv∧dv≤3:=by omega
         clear hdv
         have hgk:gm < w6.heap.size:=hM7.lt
         have hwk:w.heap.size≤w6.heap.size:=hb7.size
         obtain ⟨k0,k1,f0,f1⟩:=hK11.two
         obtain ⟨x0,x1,x2,x3,x4⟩:=(hM7.later hb11).five
         obtain ⟨A7,n7,c7,rfl⟩:=RdO.sliceN HC7.out.1
         have HCo:Hid (CutsO w.heap.size w11 (.slice A7 n7 c7) cuts):=Lib.hid (RdO.below HC7.out.1 hb11 fun _ _ h=>h.below hb11)
         have HAt:Hid (IntsT w11 (.slice A0 n0 c0) ys):=Lib.hid HY11.out.1.typed
         have hlen:cuts.length+1≤1099511627776:=by omega
         have hbs:w.heap.size≤w11.heap.size:=by omega
         go_wp2_with (at_builtin;refine wpList_append_cut rfl (.tmp 107) (.tmp 109) rfl w11 w.heap.size (.slice A7 n7 c7) cuts ⟨ys,dv⟩ A0 n0 c0 rfl HCo.out HAt.out rfl hlen hbs ?_)
         intro v13 w12 hown hrk hrb _ _
         obtain ⟨A13,n13,c13,rfl⟩:=RdO.sliceN hown
         clear x0 x1 x2 x3 x4 k0 k1 f0 f1
         have hM12:=hrk.bk (hM7.later hb11) (by decide)
         obtain ⟨x0,x1,x2,x3,x4⟩:=hM12.five
         have f4:=hM12.frozen 4
         have kk:=KeepBut.setCell hM12 4 (.slice A13 n13 c13)
         have hM13:=hM12.set_ 4 (.slice A13 n13 c13)
         have hX13:=kk.bk0 (hrk.bk (hX7.later hb11) (by decide)) (Nat.ne_of_lt hgl)
         have hb13:=((below_then hb7 hb11 hb7.size).trans hrb).setCell (p:=⟨gm,4,none⟩) HW5.out (.slice A13 n13 c13)
         have HT13:=Lib.hid (And.intro (((HT7.out.1.below hb11).but hrk (by decide)).but kk (by decide)) (And.intro (((HT7.out.2.1.below hb11).but hrk (by decide)).but kk (by decide)) (((HT7.out.2.2.below hb11).but hrk (by decide) (by decide) (by decide)).but kk (by decide) (by decide) (by decide))))
         have HC13:Hid (CutsO w.heap.size (w12.setCell ⟨gm,4,none⟩ (.slice A13 n13 c13)) (.slice A13 n13 c13) (cuts++[⟨ys,dv⟩])∧∀x∈cuts++[(⟨ys,dv⟩:Ct)],CutOK R x):=Lib.hid ⟨RdO.keep hown kk (by decide) fun _ _ h=>h.but kk (by decide),fun c hc=>by
          rcases List.mem_append.1 hc with hc | hc
          ·exact HC7.out.2 c hc
          ·simp at hc;subst hc
           exact ⟨HRA.out.sublist HY11.out.2,fun r hr=>HY11.out.2.mem hr,D0.1,HDV.out⟩⟩
         simp only [List.set_cons_succ,List.set_cons_zero] at hM13
         clear kk hM12 hown hrk hrb hM7 hX7 HT7 HC7 HCo HAt hb11 hK11 HY11 hs11
         go_wp2
         go_roundw
         case rel=>exact ⟨k+1,_,cuts++[⟨ys,dv⟩],by omega,by go_num,hb13,hX13,hM13,HT13,by simp;omega,HC13⟩
         case measure=>simp [intOf];omega
     ·obtain ⟨A7,n7,c7,rfl⟩:=RdO.sliceN HC7.out.1
      obtain ⟨x0,x1,x2,x3,x4⟩:=hM7.five
      obtain ⟨z0,z1,z2,z3,z4⟩:=hX7.five
      have q0:=hX7.frozen 0
      have q1:=hX7.frozen 1
      have q2:=hX7.frozen 2
      have q3:=hX7.frozen 3
      have q4:=hX7.frozen 4
      go_wp2
      refine ret_cell (g:=w.heap.size) (t:=26) (cs:=[.int .i64 6,.slice Av nv cv,.int .i64 P,.slice Ac ncc cc,.slice A7 n7 c7]) Try.results4 Try.underlying26 ?_ ?_ ?_ ?_ ?_
      ·kernel_rfl
      ·rfl
      ·exact (((((hX7.set_ 0 (.int .i64 6)).set_ 1 (.slice Av nv cv)).set_ 2 (.int .i64 P)).set_ 3 (.slice Ac ncc cc)).set_ 4 (.slice A7 n7 c7))
      ·rfl
      have k1:=KeepBut.setCell hX7 0 (.int .i64 6)
      have k2:=KeepBut.setCell (hX7.set_ 0 (.int .i64 6)) 1 (.slice Av nv cv)
      have k3:=KeepBut.setCell ((hX7.set_ 0 (.int .i64 6)).set_ 1 (.slice Av nv cv)) 2 (.int .i64 P)
      have k4:=KeepBut.setCell (((hX7.set_ 0 (.int .i64 6)).set_ 1 (.slice Av nv cv)).set_ 2 (.int .i64 P)) 3 (.slice Ac ncc cc)
      have k5:=KeepBut.setCell ((((hX7.set_ 0 (.int .i64 6)).set_ 1 (.slice Av nv cv)).set_ 2 (.int .i64 P)).set_ 3 (.slice Ac ncc cc)) 4 (.slice A7 n7 c7)
      have kk:=(((k1.trans k2).trans k3).trans k4).trans k5
      have hCC:CutsM w6 (.slice A7 n7 c7) cuts:=RdO.rd HC7.out.1
      refine ⟨_,⟨6,R,P,cols,cuts⟩,rfl,⟨Av,nv,cv,Ac,ncc,cc,A7,n7,c7,rfl,HT7.out.2.1.but kk (by decide),HT7.out.2.2.but kk (by decide) (by decide) (by decide),hCC.but kk (by decide) (by decide)⟩,?_,Lib.hid ⟨rfl,by have:=HQ.out;show 3≤R.length;omega⟩,((((hb7.setCell (p:=⟨w.heap.size,0,none⟩) (Nat.le_refl _) _).setCell (p:=⟨w.heap.size,1,none⟩) (Nat.le_refl _) _).setCell (p:=⟨w.heap.size,2,none⟩) (Nat.le_refl _) _).setCell (p:=⟨w.heap.size,3,none⟩) (Nat.le_refl _) _).setCell (p:=⟨w.heap.size,4,none⟩) (Nat.le_refl _) _⟩
      have hR:=HQ.out
      exact {
       fl0:=by show (0:Int)≤6;omega
       fl1:=by show (6:Int)≤200;omega
       pen0:=hp0
       pen1:=by show P≤30;omega
       row0:=by show 1≤R.length;omega
       row1:=by show R.length≤6;omega
       asc:=HRA.out
       rb:=HRB.out
       ncol:=by show cols.length≤6;omega
       cost:=fun c hc=>⟨(HCG.out c hc).2.2.2.1,(HCG.out c hc).2.2.2.2⟩
       ne:=fun c hc=>(HCG.out c hc).1
       nd:=fun c hc=>(HCG.out c hc).2.1
       sub:=fun c hc=>(HCG.out c hc).2.2.1
       ncut:=by show cuts.length≤2;omega
       cut:=fun x hx=>HC7.out.2 x hx }
namespace Pl
def fillS (a:Nat × List Int) (x:Dc):Nat × List Int:=if x.mask &&& a.1=0 then (a.1 ||| x.mask,a.2++[(x.idx:Int)]) else a
def fillP (l:List Dc) (a:Nat × List Int):Nat × List Int:=l.foldl fillS a
theorem fillP_succ {l:List Dc} {k:Nat} {x:Dc} (h:l[k]? =some x) (a:Nat × List Int):fillP (l.take (k+1)) a=fillS (fillP (l.take k) a) x:=by
 unfold fillP
 rw [List.take_add_one,h]
 simp
end Pl
structure Kp2 (w w':World):Prop where
 block:∀(b:Nat) (cs:Array Value) (t:TypeId) (fz:Nat × Nat),t≠50→t≠22→w.heap[b]? =some (.cells cs t fz)→w'.heap[b]? =some (.cells cs t fz)
 size:w.heap.size≤w'.heap.size
theorem Kp2.refl (w:World):Kp2 w w:=⟨fun _ _ _ _ _ _ h=>h,Nat.le_refl _⟩
theorem Kp2.later {w a b:World} (h:Kp2 w a) (hb:Below a.heap.size a b):Kp2 w b:=⟨fun i cs t fz h1 h2 h3=>by
 have h4:=h.block i cs t fz h1 h2 h3
 exact (hb.block i (lt_heap h4)).trans h4,Nat.le_trans h.size hb.size⟩
theorem Kp2.old {w a b:World} (h:Kp2 w a) (hb:Below w.heap.size a b):Kp2 w b:=⟨fun i cs t fz h1 h2 h3=>by
 have h4:=h.block i cs t fz h1 h2 h3
 exact (hb.block i (lt_heap h3)).trans h4,Nat.le_trans h.size hb.size⟩
theorem Kp2.but {w a b:World} {e:TypeId} (h:Kp2 w a) (hk:KeepBut e a b) (hs:a.heap.size≤b.heap.size) (he:e=50∨e=22):Kp2 w b:=⟨fun i cs t fz h1 h2 h3=>hk i cs t fz (by rcases he with rfl | rfl;exact h1;exact h2) (h.block i cs t fz h1 h2 h3),Nat.le_trans h.size hs⟩
theorem Kp2.row {w w':World} (h:Kp2 w w') {t:TypeId} {s n:Nat} {v:Value} {xs:List Value} (hr:RowM w t s v n xs) (h1:t≠50) (h2:t≠22):RowM w' t s v n xs:=by
 obtain ⟨A,c,g1,g2,g3,g4,g5⟩:=hr
 refine ⟨A,c,g1,g2,g3,g4,fun hp=>?_⟩
 obtain ⟨b,off,cs,fz,hA,hc,hx⟩:=g5 hp
 exact ⟨b,off,cs,fz,hA,h.block b cs t fz h1 h2 hc,hx⟩
theorem Kp2.dcs {w w':World} (h:Kp2 w w') {v:Value} {l:List Dc} (hr:DcsM w v l):DcsM w' v l:=by
 obtain ⟨cs,h1,h2⟩:=hr
 refine ⟨cs,h.row h1 (by decide) (by decide),fun k x hx=>?_⟩
 obtain ⟨u,⟨A,n,c,g1,g2,g3⟩,g4,g5⟩:=h2 k x hx
 exact ⟨u,⟨A,n,c,g1,h.row g2 (by decide) (by decide),g3⟩,g4,g5⟩
def FillAt (w0:World) (gu gs:Nat) (a:Nat × List Int) (w:World):Prop:=∃A n c,Bk w gu 50 [.int .u32 (a.1:Int)]∧Bk w gs 22 [.slice A n c]∧IntsO w0.heap.size w (.slice A n c) a.2∧Kp2 w0 w
theorem FillAt.later {w0 w w':World} {gu gs:Nat} {a:Nat × List Int} (h:FillAt w0 gu gs a w) (hb:Below w.heap.size w w'):FillAt w0 gu gs a w':=by
 obtain ⟨A,n,c,h1,h2,h3,h4⟩:=h
 exact ⟨A,n,c,h1.later hb,h2.later hb,h3.below hb,h4.later hb⟩
theorem fill_own (v:Value) (l:List Dc) (w0 w:World) (gu gs B:Nat) (a:Nat × List Int) (h:DcsM w0 v l) (hl:l.length≤100) (hm:∀x∈l,x.mask < 64∧x.idx < 1000) (ha:a.1 < 64) (ha2:a.2.length≤100) (hf:FillAt w0 gu gs a w) (hgu:B≤gu) (hgs:B≤gs) (hB:B≤w0.heap.size) (hug:gu≠gs):
 Calls Try.prog 35 #[v,.pointer (some ⟨gu,0,none⟩),.pointer (some ⟨gs,0,none⟩)] w fun e w'=>e= .returned (.tuple #[])∧FillAt w0 gu gs (fillP l a) w'∧Below B w w':=by
 obtain ⟨Al,cl,rfl,hl2,hl3⟩:=RdM.shape h
 obtain ⟨n,hn⟩:∃n,n=l.length:=⟨_,rfl⟩
 rw [← hn] at h hl2 hl ⊢
 have HN:=Lib.hid hn
 have HD:=Lib.hid h
 have HM:=Lib.hid hm
 have HF:=Lib.hid hf
 clear h hn hm hf
 go_enter Try.func35,Try.ntmps35
 go_wp2
 go_loopw [8] (fun x wr=>∃(k:Nat) (M:Nat) (ys:List Int),k≤n∧x= .int .i64 k∧M < 64∧ys.length≤100+k∧Hid (fillP (l.take k) a=(M,ys)∧FillAt w0 gu gs (M,ys) wr)∧Below B w wr) (fun x _=>n - (intOf x).toNat)
 case atStart=>exact ⟨0,a.1,a.2,by omega,rfl,ha,by omega,Lib.hid ⟨by simp [fillP],HF.out⟩,Below.refl _ _⟩
 case round=>
  obtain ⟨k,M,ys,hk,rfl,hM,hys,HP,hb⟩:=hrel
  rcases Nat.lt_or_ge k n with hkl | hkl
  ·obtain ⟨x,hx⟩:∃x,l[k]? =some x:=⟨l[k]'(by rw [← HN.out];exact hkl),List.getElem?_eq_getElem _⟩
   have HX:=Lib.hid hx
   have hkz:(k:Int) < n:=by omega
   obtain ⟨As,ns,cs,hU,hS,hO,hK⟩:=HP.out.2
   obtain ⟨b,off,A1,n1,c1,hA,_,⟨x0,x1,x2,x3⟩,hI⟩:=(hK.dcs HD.out).elem (Below.refl _ _) hx
   subst hA
   obtain ⟨hxm,hxi⟩:=HM.out x (List.mem_of_getElem? hx)
   have hand:=u32_and (show x.mask < 4294967296 by omega) (show M < 4294967296 by omega)
   have hor:=u32_or (show M < 4294967296 by omega) (show x.mask < 4294967296 by omega)
   have hlt:M ||| x.mask < 64:=Nat.or_lt_two_pow (n:=6) hM hxm
   clear hx
   have hgu2:gu < wr.heap.size:=hU.lt
   have hgs2:gs < wr.heap.size:=hS.lt
   have hU0:=hU.cellAt 0 rfl
   have hS0:=hS.cellAt 0 rfl
   have fU:=hU.frozen 0
   have fS:=hS.frozen 0
   go_upto_if 16 with (fail)
   have hX0:=Bk.new wr 59 [.int .i64 (x.idx:Int),.int .u32 (x.mask:Int),.slice A1 n1 c1,.int .i64 x.sur]
   have hbw:=below_new wr (.cells #[.int .i64 (x.idx:Int),.int .u32 (x.mask:Int),.slice A1 n1 c1,.int .i64 x.sur] 59)
   have e:(#[.int .i64 (x.idx:Int),.int .u32 (x.mask:Int),.slice A1 n1 c1,.int .i64 x.sur]:Array Value)=[.int .i64 (x.idx:Int),.int .u32 (x.mask:Int),.slice A1 n1 c1,.int .i64 x.sur].toArray:=rfl
   rw [← e] at hX0
   clear e
   generalize wr.alloc (.cells #[.int .i64 (x.idx:Int),.int .u32 (x.mask:Int),.slice A1 n1 c1,.int .i64 x.sur] 59)=W at *
   have HA:=Lib.hid (HP.out.2.later hbw)
   have hb2:Below B w W:=hb.trans (hbw.mono (by have:=hb.size;have:=hU.lt;omega))
   have hWB:B≤W.heap.size:=by have:=hbw.size;omega
   have hW0:w0.heap.size≤W.heap.size:=Nat.le_trans hK.size hbw.size
   have HST:=Lib.hid (fillP_succ HX.out a)
   have hU1:=hU.later hbw
   have hS1:=hS.later hbw
   have hO1:=hO.below hbw
   have hK1:=hK.later hbw
   clear hU0 hS0 fU fS x0 x1 x2 x3 hI hb hU hS hO hK hbw
   have hU0:=hU1.cellAt 0 rfl
   have hS0:=hS1.cellAt 0 rfl
   have fU:=hU1.frozen 0
   have fS:=hS1.frozen 0
   have hX1:=hX0.cellAt 1 rfl
   have hX2:=hX0.cellAt 0 rfl
   by_cases hz:x.mask &&& M=0
   ·have hz':(((x.mask &&& M:Nat):Int)==0)=true:=by rw [hz];rfl
    have HE:Hid (fillP (l.take (k+1)) a=(M ||| x.mask,ys++[(x.idx:Int)])):=Lib.hid (by rw [HST.out,HP.out.1];unfold fillS;rw [if_pos hz])
    have kk:=KeepBut.setCell hU1 0 (.int .u32 ((M ||| x.mask:Nat):Int))
    have hU2:=hU1.set_ 0 (.int .u32 ((M ||| x.mask:Nat):Int))
    have hS2:=kk.bk hS1 (by decide)
    have hO2:=hO1.but kk (by decide)
    have hK2:=hK1.but kk (by simp) (.inl rfl)
    have hb3:=hb2.setCell (p:=⟨gu,0,none⟩) hgu (.int .u32 ((M ||| x.mask:Nat):Int))
    have hX3:=kk.bk hX0 (by decide)
    have hbs:w0.heap.size≤(W.setCell ⟨gu,0,none⟩ (.int .u32 ((M ||| x.mask:Nat):Int))).heap.size:=by simpa using hW0
    simp only [List.set_cons_zero] at hU2
    clear hz kk
    go_upto_region 5 with (fail)
    clear hU1 hS1 hO1 hK1 hU0 hS0 fU fS hX1 hX2 hb2 hX0 hand hor
    generalize W.setCell ⟨gu,0,none⟩ (.int .u32 ((M ||| x.mask:Nat):Int))=W2 at *
    have hS0:=hS2.cellAt 0 rfl
    have hX2:=hX3.cellAt 0 rfl
    have hlen:ys.length+1≤1099511627776:=by omega
    have HO:=Lib.hid hO2
    clear hO2
    go_wp2_with (at_builtin;refine wpList_append_int rfl (.tmp 21) (.tmp 24) rfl W2 w0.heap.size (.slice As ns cs) ys rfl HO.out (x.idx:Int) rfl (by omega) (by omega) hlen hbs ?_)
    intro v7 w7 hown7 hk7 hb7 _ _
    obtain ⟨A7,n7,c7,rfl⟩:=hown7.sliceN
    clear hS0 hX2
    have hS7:=hk7.bk hS2 (by decide)
    have hS0:=hS7.cellAt 0 rfl
    have fS:=hS7.frozen 0
    have kk:=KeepBut.setCell hS7 0 (.slice A7 n7 c7)
    have hS8:=hS7.set_ 0 (.slice A7 n7 c7)
    have hU8:=kk.bk0 (hk7.bk hU2 (by decide)) hug
    have hO8:=hown7.but kk (by decide)
    have hK8:=(hK2.old hb7).but kk (by simp) (.inr rfl)
    have hb8:=(hb3.trans (hb7.mono hB)).setCell (p:=⟨gs,0,none⟩) hgs (.slice A7 n7 c7)
    simp only [List.set_cons_zero] at hS8
    have HN8:Hid (FillAt w0 gu gs (M ||| x.mask,ys++[(x.idx:Int)]) (w7.setCell ⟨gs,0,none⟩ (.slice A7 n7 c7))):=Lib.hid ⟨A7,n7,c7,hU8,hS8,hO8,hK8⟩
    clear hown7 hk7 hb7 hS7 kk hS8 hU8 hO8 hK8 hU2 hS2 hK2 hb3 hX3
    go_wp2
    go_roundw
    case rel=>exact ⟨k+1,_,_,by omega,by go_num,hlt,by simp;omega,Lib.hid ⟨HE.out,HN8.out⟩,hb8⟩
    case measure=>simp [intOf];omega
   ·have hz':(((x.mask &&& M:Nat):Int)==0)=false:=by simpa using hz
    have HE:Hid (fillP (l.take (k+1)) a=(M,ys)):=Lib.hid (by rw [HST.out,HP.out.1];unfold fillS;rw [if_neg hz])
    clear hz
    go_wp2
    go_roundw
    case rel=>exact ⟨k+1,M,ys,by omega,by go_num,hM,by omega,Lib.hid ⟨HE.out,HA.out⟩,hb2⟩
    case measure=>simp [intOf];omega
  ·obtain rfl:n=k:=by omega
   have HE:Hid (fillP l a=(M,ys)):=Lib.hid (by have:=HP.out.1;rw [take_all HN.out] at this;exact this)
   go_wp2
   go_end0
   exact ⟨rfl,by rw [HE.out];exact HP.out.2,hb⟩
namespace Pl
def hiB (fs:List RF) (x:Dc):Bool:=decide (0 < qs (qAt fs x.idx))
def loB (x:Dc):Bool:=decide (x.sur < 0)
def ltH (fs:List RF) (x y:Dc):Bool:=decide (qAt fs y.idx < qAt fs x.idx)
def ltL (x y:Dc):Bool:=decide (x.sur < y.sur)
def greedyL (m:Ms) (fs:List RF):List Int:=(fillP (sortB ltL ((dcs m).filter loB)) (fillP (sortB (ltH fs) ((dcs m).filter (hiB fs))) (0,[]))).2
def greedyP (m:Ms) (fs:List RF):List Int:=sortI (greedyL m fs)
theorem ltH_ir (fs:List RF) (x:Dc):ltH fs x x=false:=by simp [ltH,Rat.lt_irrefl]
theorem ltH_tr (fs:List RF) (x y z:Dc) (h:ltH fs x y=true) (g:ltH fs y z=true):ltH fs x z=true:=by
 simp only [ltH,decide_eq_true_eq] at *
 grind
theorem ltH_tr' (fs:List RF) (x y z:Dc) (h:ltH fs x y=false) (g:ltH fs y z=false):ltH fs x z=false:=by
 simp only [ltH,decide_eq_false_iff_not] at *
 grind
theorem ltL_ir (x:Dc):ltL x x=false:=by simp [ltL]
theorem ltL_tr (x y z:Dc) (h:ltL x y=true) (g:ltL y z=true):ltL x z=true:=by
 simp only [ltL,decide_eq_true_eq] at *
 omega
theorem ltL_tr' (x y z:Dc) (h:ltL x y=false) (g:ltL y z=false):ltL x z=false:=by
 simp only [ltL,decide_eq_false_iff_not] at *
 omega
theorem fillP_len (l:List Dc) (a:Nat × List Int):(fillP l a).2.length≤a.2.length+l.length:=by
 unfold fillP
 induction l generalizing a with
 | nil=>simp
 | cons x l ih=>
  rw [List.foldl_cons,List.length_cons]
  refine Nat.le_trans (ih _) ?_
  unfold fillS
  split <;> simp <;> omega
theorem fillP_lt {l:List Dc} (hl:∀x∈l,x.mask < 64) {a:Nat × List Int} (ha:a.1 < 64):(fillP l a).1 < 64:=by
 unfold fillP
 induction l generalizing a with
 | nil=>exact ha
 | cons x l ih=>
  rw [List.foldl_cons]
  refine ih (fun y hy=>hl y (List.mem_cons_of_mem _ hy)) ?_
  unfold fillS
  split
  ·exact Nat.or_lt_two_pow (n:=6) ha (hl x (List.mem_cons_self ..))
  ·exact ha
theorem filter_take {α:Type} {p:α→Bool} {l:List α} {k:Nat} {x:α} (h:l[k]? =some x):(l.take (k+1)).filter p=(l.take k).filter p++(if p x=true then [x] else []):=by
 rw [List.take_add_one,h,List.filter_append]
 simp [List.filter_cons]
theorem cmpI_neg {x y:Int}:cmpI x y < 0↔x < y:=by
 unfold cmpI
 split
 ·simp;assumption
 ·split <;> simp <;> omega
theorem qs_sub_neg {a b:Rat}:qs (a - b) < 0↔a < b:=by rw [qs_neg];grind
theorem dcs_bd {m:Ms} (ok:MsOK m) {x:Dc} (hx:x∈dcs m):x.mask < 64∧x.idx < 1000∧x.idx < m.cols.length:=by
 obtain ⟨i,hi⟩:=List.mem_iff_getElem?.1 hx
 obtain ⟨c,hc,rfl⟩:=dcs_get hi
 have hil:=(List.getElem?_eq_some_iff.1 hc).1
 have:=ok.ncol
 exact ⟨mask_lt ok (List.mem_of_getElem? hc),show i < 1000 by omega,hil⟩
end Pl
theorem enter_of {g : Nat} {fn : Func} {c : Code} (hf : Try.prog.funcs[g]? = some fn) (hn : (fn.name == "runtime.NumGoroutine") = false) (hb : fn.body = some c) : ∀ args w, (callFunc g args).run Try.prog w = .ok (.enter g args) w := fun args w => by
 have h1 : fn.name ≠ "runtime.NumGoroutine" := by simpa using hn
 simp [callFunc,hf,h1,hb]
theorem DcsO.others {base:Nat} {w w':World} {g:Option Nat} {v:Value} {l:List Dc} (h:DcsO base w v l) (ho:Others g w w') (hk:KeepBut 59 w w') (hne:∀b,v.ownBlock=some b→some b≠g):DcsO base w' v l:=by
 obtain ⟨cs,h1,h2⟩:=h
 refine ⟨cs,⟨h1.1,?_⟩,fun k x hx=>by obtain ⟨u,g1,g2⟩:=h2 k x hx;exact ⟨u,g1.but hk (by decide),g2⟩⟩
 rcases h1.2 with hn | ⟨b,cap,cur,rfl,hb',hgg,rest⟩
 ·exact .inl hn
 ·exact .inr ⟨b,cap,cur,rfl,hb',(ho.2 b (lt_heap hgg) (hne b rfl)).trans hgg,rest⟩
theorem DcsO.ownB {base:Nat} {w:World} {v:Value} {l:List Dc} (h:DcsO base w v l):∀g,v.ownBlock=some g→base≤g∧g < w.heap.size:=by
 obtain ⟨cs,h1,_⟩:=h
 exact h1.lt
theorem cmpD_low (l:List Dc) (w:World):CmpD 40 #[] ltL l w:=fun W _ _ x _ y _ A n c A' n' c'=>by
 refine (cmpLow_any x y A n c A' n' c' W).mono ?_
 rintro _ w' ⟨rfl,hb⟩
 exact ⟨_,rfl,by unfold ltL;simp [cmpI_neg],hb⟩
theorem cmpD_high (l:List Dc) (w:World) (g:Nat) (fs:List RF) (h:ValB w g fs) (hv:∀f∈fs,VOK f) (hl:∀x∈l,x.idx < fs.length):CmpD 38 #[.pointer (some ⟨g,0,none⟩)] (ltH fs) l w:=fun W hk hs x hx y hy A n c A' n' c'=>by
 refine (cmpHigh_any x y A n c A' n' c' g fs W (h.but hk (by decide) (by decide) (by decide)) hv (hl x hx) (hl y hy)).mono ?_
 rintro _ w' ⟨rfl,hb⟩
 exact ⟨_,rfl,by unfold ltH;simp only [qs_sub_neg],hb⟩
theorem enter_low:∀args w,(callFunc 40 args).run Try.prog w= .ok (.enter 40 args) w:=enter_of Try.func40 (by kernel_rfl) rfl
theorem enter_high:∀args w,(callFunc 38 args).run Try.prog w= .ok (.enter 38 args) w:=enter_of Try.func38 (by kernel_rfl) rfl
theorem enter_fill:∀args w,(callFunc 35 args).run Try.prog w= .ok (.enter 35 args) w:=enter_of Try.func35 (by kernel_rfl) rfl
theorem box_msv (w:World) (a b c d e f:Value):∃W,(w.alloc (.cells #[a,b,c,d,e] 26)).alloc (.cells #[f] 75)=W∧(w.alloc (.cells #[a,b,c,d,e] 26)).heap.size=w.heap.size+1∧Bk W w.heap.size 26 [a,b,c,d,e]∧Bk W (w.heap.size+1) 75 [f]∧Below w.heap.size w W:=by
 have h1:=Bk.new w 26 [a,b,c,d,e]
 have h2:=Bk.new (w.alloc (.cells [a,b,c,d,e].toArray 26)) 75 [f]
 have b1:=below_new w (.cells [a,b,c,d,e].toArray 26)
 have b2:=below_new (w.alloc (.cells [a,b,c,d,e].toArray 26)) (.cells [f].toArray 75)
 have hs:(w.alloc (.cells [a,b,c,d,e].toArray 26)).heap.size=w.heap.size+1:=by simp
 refine ⟨_,rfl,hs,h1.later b2,?_,below_then b1 b2 b1.size⟩
 rw [hs] at h2
 exact h2
theorem box_gsu (w:World) (a b:Value):∃W,(w.alloc (.cells #[a] 22)).alloc (.cells #[b] 50)=W∧Bk W w.heap.size 22 [a]∧Bk W (w.heap.size+1) 50 [b]∧Below w.heap.size w W:=by
 have h1:=Bk.new w 22 [a]
 have h2:=Bk.new (w.alloc (.cells [a].toArray 22)) 50 [b]
 have b1:=below_new w (.cells [a].toArray 22)
 have b2:=below_new (w.alloc (.cells [a].toArray 22)) (.cells [b].toArray 50)
 have hs:(w.alloc (.cells [a].toArray 22)).heap.size=w.heap.size+1:=by simp
 refine ⟨_,rfl,h1.later b2,?_,below_then b1 b2 b1.size⟩
 rw [hs] at h2
 exact h2
def GrPost (m:Ms) (fs:List RF) (w:World) (e:Ending) (w':World):Prop:=∃v',e= .returned (.tuple #[v',.int .i64 0])∧IntsO w.heap.size w' v' (greedyP m fs)∧Below w.heap.size w w'
theorem greedy_own (v1 v2:Value) (m:Ms) (fs:List RF) (w:World) (h:MsM w v1 m) (ok:MsOK m) (h2:FrsM w v2 fs) (hf:fs.length=m.cols.length) (hv:∀f∈fs,VOK f):
 Calls Try.prog 21 #[v1,v2] w (GrPost m fs w):=by
 obtain ⟨A,n,c,A',n',c',A'',n'',c'',rfl,hR,hC,hT⟩:=id h
 obtain ⟨s1,s2,s3⟩:=RdM.len hC
 obtain ⟨B,d,rfl,hd1,hd2⟩:=h2.shape
 rw [hf,← s1] at h2 ⊢
 obtain ⟨W,hW,hsz,hX,hY,hbe⟩:=box_msv w (.int .i64 m.fl) (.slice A n c) (.int .i64 m.pen) (.slice A' n' c') (.slice A'' n'' c'') (.slice B n' d)
 have HM:=Lib.hid (h.below hbe)
 have HOK:=Lib.hid ok
 have HF:=Lib.hid (h2.below hbe)
 have HV:=Lib.hid hv
 have HFN:=Lib.hid hf
 have HCN:=Lib.hid s1
 have hn6':n'≤6:=by have:=ok.ncol;omega
 clear h hR hC hT ok h2 hf hv s1 hd1
 generalize m.fl=F at *
 generalize m.pen=P at *
 obtain ⟨x0,x1,x2,x3,x4⟩:=hX.five
 have y0:=hY.cellAt 0 rfl
 go_enter Try.func21,Try.ntmps21
 go_wp2_with fail
 clear hW x0 x1 x2 x3 x4 y0
 refine (validateMaster_ok _ m _ HM.out HOK.out).mono ?_
 rintro _ w1 ⟨rfl,hb1⟩
 have hX1:=hX.later hb1
 have hY1:=hY.later hb1
 have hbe1:=below_then hbe hb1 hbe.size
 have HM1:=Lib.hid (And.intro (HM.out.below hb1) (HF.out.below hb1))
 obtain ⟨x0,x1,x2,x3,x4⟩:=hX1.five
 have y0:=hY1.cellAt 0 rfl
 clear hX hY hbe hb1 HM HF
 go_wp2_with fail
 refine (columns_own _ m _ HM1.out.1 HOK.out).mono ?_
 rintro _ w2 ⟨vc,rfl,hDO,hb2⟩
 obtain ⟨Ac,cc,rfl⟩:=RdO.slice hDO
 rw [dcs_len,← HCN.out] at hDO ⊢
 have HDC:Hid (DcsM w2 (.slice Ac n' cc) (dcs m)):=Lib.hid (RdO.rd hDO)
 have hX2:=hX1.later hb2
 have hY2:=hY1.later hb2
 have hbe2:=below_then hbe1 hb2 hbe1.size
 have HM2:=Lib.hid (HM1.out.2.below hb2)
 clear x0 x1 x2 x3 x4 y0 hX1 hY1 hbe1 hb2 HM1 hDO
 go_wp2
 obtain ⟨W3,hW3,hS3,hU3,hb3⟩:=box_gsu w2 (.slice none 0 0) (.int .u32 0)
 rw [hW3]
 clear hW3
 have hX3:=hX2.later hb3
 have hY3:=hY2.later hb3
 have hbe3:=below_then hbe2 hb3 hbe2.size
 have HDC3:=Lib.hid (HDC.out.below hb3)
 have HM3:=Lib.hid (HM2.out.below hb3)
 have hws:w.heap.size < w2.heap.size:=hX2.lt
 have hws1:w.heap.size+1 < w2.heap.size:=hY2.lt
 clear hX2 hY2 hbe2 HDC HM2 hb3
 generalize hgs:w2.heap.size=gs at *
 clear hgs
 go_loopw [11,12,31] (fun s11 s12 x wr=>∃k:Nat,k≤n'∧x= .int .i64 k∧Below W3.heap.size W3 wr∧Hid (DcsO W3.heap.size wr s11 (((dcs m).take k).filter (hiB fs))∧DcsO W3.heap.size wr s12 (((dcs m).take k).filter loB)∧(∀b,s12.ownBlock=some b→some b≠s11.ownBlock))) (fun _ _ x _=>n' - (intOf x).toNat)
 case atStart=>exact ⟨0,by omega,rfl,Below.refl _ _,Lib.hid ⟨by rw [List.take_zero];exact RdO.nil _ _ _ _,by rw [List.take_zero];exact RdO.nil _ _ _ _,by simp [Value.ownBlock]⟩⟩
 case round=>
  obtain ⟨k,hk,rfl,hb,HR⟩:=hrel
  have hY4:=hY3.later hb
  have y0:=hY4.cellAt 0 rfl
  rcases Nat.lt_or_ge k n' with hkl | hkl
  ·have hkz:(k:Int) < n':=by omega
   obtain ⟨x,hx⟩:∃x,(dcs m)[k]? =some x:=⟨(dcs m)[k]'(by rw [dcs_len,← HCN.out];exact hkl),List.getElem?_eq_getElem _⟩
   obtain ⟨fr,hfr⟩:∃f,fs[k]? =some f:=⟨fs[k]'(by rw [HFN.out,← HCN.out];exact hkl),List.getElem?_eq_getElem _⟩
   obtain ⟨bx,ox,A1,n1,c1,hA1,_,⟨p0,p1,p2,p3⟩,hI⟩:=HDC3.out.elem hb hx
   subst hA1
   obtain ⟨b',off',A3,n3,c3,A4,n4,c4,hA',hbl,⟨q0,q1,q2,q3⟩,ey⟩:=HM3.out.elem hb hfr
   have hyl:w.heap.size+1 < wr.heap.size:=hY4.lt
   have hbl2:b' < wr.heap.size:=Nat.lt_of_lt_of_le hbl hb.size
   subst hA'
   have HX:=Lib.hid hx
   have HFR:=Lib.hid hfr
   have HI:=Lib.hid hI
   have HEY:=Lib.hid ey
   clear hx hfr hI ey
   go_wp2_with fail
   have hX0:=Bk.new wr 59 [.int .i64 (x.idx:Int),.int .u32 (x.mask:Int),.slice A1 n1 c1,.int .i64 x.sur]
   have hbw:=below_new wr (.cells #[.int .i64 (x.idx:Int),.int .u32 (x.mask:Int),.slice A1 n1 c1,.int .i64 x.sur] 59)
   have e:(#[.int .i64 (x.idx:Int),.int .u32 (x.mask:Int),.slice A1 n1 c1,.int .i64 x.sur]:Array Value)=[.int .i64 (x.idx:Int),.int .u32 (x.mask:Int),.slice A1 n1 c1,.int .i64 x.sur].toArray:=rfl
   rw [← e] at hX0
   clear e
   generalize wr.alloc (.cells #[.int .i64 (x.idx:Int),.int .u32 (x.mask:Int),.slice A1 n1 c1,.int .i64 x.sur] 59)=W at *
   refine (signF_any _ fr _ (HEY.out.below hbw)).mono ?_
   rintro _ w5 ⟨rfl,hb5⟩
   have hb15:=below_then hbw hb5 hbw.size
   have hX5:=hX0.later hb5
   have hb6:=below_then hb hb15 hb.size
   have HR6:Hid (DcsO W3.heap.size w5 u11 (((dcs m).take k).filter (hiB fs))∧DcsO W3.heap.size w5 u12 (((dcs m).take k).filter loB)∧(∀b,u12.ownBlock=some b→some b≠u11.ownBlock)):=Lib.hid ⟨HR.out.1.below hb15,HR.out.2.1.below hb15,HR.out.2.2⟩
   have HI6:=Lib.hid (HI.out.below hb15)
   have HLE:=Lib.hid hb.size
   have HNX:Hid (some wr.heap.size≠u11.ownBlock∧some wr.heap.size≠u12.ownBlock):=Lib.hid ⟨fun e=>by have:=(HR.out.1.ownB _ e.symm).2;omega,fun e=>by have:=(HR.out.2.1.ownB _ e.symm).2;omega⟩
   have HIDX:Hid (x.idx=k):=Lib.hid ((dcs_ok HOK.out).idx k x HX.out)
   have HQ:Hid (hiB fs x=decide (0 < qs fr.q)):=Lib.hid (by unfold hiB qAt;rw [HIDX.out,HFR.out])
   clear hb hbw hb5 hb15 hX0 p0 p1 p2 p3 q0 q1 q2 q3 hyl hbl hbl2 y0 hY4 HR HI HEY
   have hlH:(((dcs m).take k).filter (hiB fs)).length+1≤1099511627776:=by
    have h1:=List.length_filter_le (hiB fs) ((dcs m).take k)
    have h2:=List.length_take_le k (dcs m)
    omega
   have hlL:(((dcs m).take k).filter loB).length+1≤1099511627776:=by
    have h1:=List.length_filter_le loB ((dcs m).take k)
    have h2:=List.length_take_le k (dcs m)
    omega
   have HFH:=Lib.hid (filter_take (p:=hiB fs) HX.out)
   have HFL:=Lib.hid (filter_take (p:=loB) HX.out)
   have hbs:=hb6.size
   have hgk:wr.heap.size < w5.heap.size:=hX5.lt
   have hWk:W3.heap.size≤wr.heap.size:=HLE.out
   generalize ((dcs m).take k).filter (hiB fs)=hk0 at *
   generalize ((dcs m).take k).filter loB=lk0 at *
   generalize wr.heap.size=gx at *
   go_upto_if 41 with (fail)
   go_cut [11] (fun s11 wx=>Below W3.heap.size W3 wx∧Bk wx gx 59 [.int .i64 (x.idx:Int),.int .u32 (x.mask:Int),.slice A1 n1 c1,.int .i64 x.sur]∧Hid (DcsO W3.heap.size wx s11 (((dcs m).take (k+1)).filter (hiB fs))∧DcsO W3.heap.size wx u12 lk0∧(∀b,u12.ownBlock=some b→some b≠s11.ownBlock)∧IntsT wx (.slice A1 n1 c1) (iL x.rows)))
   case first=>
    by_cases hq:0 < qs fr.q
    ·have HE:Hid (((dcs m).take (k+1)).filter (hiB fs)=hk0++[x]):=Lib.hid (by rw [HFH.out,HQ.out];simp [hq])
     have HO:=Lib.hid HR6.out.1
     obtain ⟨x0,x1,x2,x3⟩:=hX5.four
     go_wp2_with (at_builtin;refine wpList_append_dcol rfl (.tmp 42) (.tmp 44) rfl w5 W3.heap.size u11 hk0 x A1 n1 c1 rfl HO.out HI6.out rfl hlH hbs ?_)
     intro v7 w7 hown7 hk7 hb7 hot7 hor7
     have hb8:=hb6.trans hb7
     have hX8:Bk w7 gx 59 [.int .i64 (x.idx:Int),.int .u32 (x.mask:Int),.slice A1 n1 c1,.int .i64 x.sur]:=hot7.bk hX5 HNX.out.1
     have HN:Hid (DcsO W3.heap.size w7 v7 (hk0++[x])∧DcsO W3.heap.size w7 u12 lk0∧(∀b,u12.ownBlock=some b→some b≠v7.ownBlock)∧IntsT w7 (.slice A1 n1 c1) (iL x.rows)):=Lib.hid ⟨hown7,HR6.out.2.1.others hot7 hk7 HR6.out.2.2,fun b hb e=>by
      rcases hor7 with h | h
      ·exact HR6.out.2.2 b hb (by rw [e,h])
      ·have h1:=h b e.symm
       have h2:=(HR6.out.2.1.ownB b hb).2
       omega,HI6.out.but hk7 (by decide)⟩
     clear hown7 hk7 hb7 hot7 hor7 x0 x1 x2 x3 hX5 hb6
     go_wp2
     go_meet
     exact ⟨hb8,hX8,by rw [HE.out];exact HN⟩
    ·have HE:Hid (((dcs m).take (k+1)).filter (hiB fs)=hk0):=Lib.hid (by rw [HFH.out,HQ.out];simp [hq])
     go_wp2
     go_meet
     exact ⟨hb6,hX5,by rw [HE.out];exact Lib.hid ⟨HR6.out.1,HR6.out.2.1,HR6.out.2.2,HI6.out⟩⟩
   case rest=>
    clear hb6 hX5 HR6 HI6 hbs hgk
    obtain ⟨hb6,hX5,HR6⟩:=hcut
    have hbs:=hb6.size
    obtain ⟨x0,x1,x2,x3⟩:=hX5.four
    by_cases hq:x.sur < 0
    ·have HE:Hid (((dcs m).take (k+1)).filter loB=lk0++[x]):=Lib.hid (by rw [HFL.out];unfold loB;simp [hq])
     have HO:=Lib.hid HR6.out.2.1
     have HI6:=Lib.hid HR6.out.2.2.2
     go_wp2_with (at_builtin;refine wpList_append_dcol rfl (.tmp 49) (.tmp 51) rfl wc W3.heap.size u12 lk0 x A1 n1 c1 rfl HO.out HI6.out rfl hlL hbs ?_)
     intro v7 w7 hown7 hk7 hb7 hot7 hor7
     have hb8:=hb6.trans hb7
     have HN:Hid (DcsO W3.heap.size w7 u11 (((dcs m).take (k+1)).filter (hiB fs))∧DcsO W3.heap.size w7 v7 (((dcs m).take (k+1)).filter loB)∧(∀b,v7.ownBlock=some b→some b≠u11.ownBlock)):=Lib.hid ⟨HR6.out.1.others hot7 hk7 (fun b hb e=>HR6.out.2.2.1 b e.symm hb.symm),by rw [HE.out];exact hown7,fun b hb e=>by
      rcases hor7 with h | h
      ·exact HR6.out.2.2.1 b (by rw [← h,hb]) e
      ·have h1:=h b hb
       have h2:=(HR6.out.1.ownB b e.symm).2
       omega⟩
     clear hown7 hk7 hb7 hot7 hor7 x0 x1 x2 x3 hX5 hb6
     go_wp2
     go_roundw
     case rel=>exact ⟨k+1,by omega,by go_num,hb8,HN⟩
     case measure=>simp [intOf];omega
    ·have HE:Hid (((dcs m).take (k+1)).filter loB=lk0):=Lib.hid (by rw [HFL.out];unfold loB;simp [hq])
     have hq':¬x.sur < 0:=hq
     go_wp2
     go_roundw
     case rel=>exact ⟨k+1,by omega,by go_num,hb6,Lib.hid ⟨HR6.out.1,by rw [HE.out];exact HR6.out.2.1,HR6.out.2.2.1⟩⟩
     case measure=>simp [intOf];omega
  ·obtain rfl:n'=k:=by omega
   have HR4:Hid (DcsO W3.heap.size wr u11 ((dcs m).filter (hiB fs))∧DcsO W3.heap.size wr u12 ((dcs m).filter loB)∧(∀b,u12.ownBlock=some b→some b≠u11.ownBlock)):=Lib.hid (by
    have:=HR.out
    rw [take_all (show n'=(dcs m).length by rw [dcs_len];exact HCN.out)] at this
    exact this)
   have hmemH:∀x∈(dcs m).filter (hiB fs),x∈dcs m:=fun x hx=>(List.mem_filter.1 hx).1
   have hmemL:∀x∈(dcs m).filter loB,x∈dcs m:=fun x hx=>(List.mem_filter.1 hx).1
   have hlen:(dcs m).length≤6:=by rw [dcs_len,← HCN.out];exact hn6'
   have hlH:=Nat.le_trans (List.length_filter_le (hiB fs) (dcs m)) hlen
   have hlL:=Nat.le_trans (List.length_filter_le loB (dcs m)) hlen
   have HV4:Hid (ValB wr (w.heap.size+1) fs):=Lib.hid ⟨_,_,_,hY4,HM3.out.below hb⟩
   have HIX:Hid (∀x∈(dcs m).filter (hiB fs),x.idx < fs.length):=Lib.hid (fun x hx=>by rw [HFN.out];exact (dcs_bd HOK.out (hmemH x hx)).2.2)
   have HBH:Hid (∀x∈sortB (ltH fs) ((dcs m).filter (hiB fs)),x.mask < 64∧x.idx < 1000):=Lib.hid (fun x hx=>by have:=dcs_bd HOK.out (hmemH x ((sortB_mem _).1 hx));exact ⟨this.1,this.2.1⟩)
   have HBL:Hid (∀x∈sortB ltL ((dcs m).filter loB),x.mask < 64∧x.idx < 1000):=Lib.hid (fun x hx=>by have:=dcs_bd HOK.out (hmemL x ((sortB_mem _).1 hx));exact ⟨this.1,this.2.1⟩)
   have HGR:Hid (greedyL m fs=(fillP (sortB ltL ((dcs m).filter loB)) (fillP (sortB (ltH fs) ((dcs m).filter (hiB fs))) (0,[]))).2):=Lib.hid rfl
   have hlH2:(sortB (ltH fs) ((dcs m).filter (hiB fs))).length≤6:=by rw [sortB_length];exact hlH
   have hlL2:(sortB ltL ((dcs m).filter loB)).length≤6:=by rw [sortB_length];exact hlL
   clear HR hmemH hmemL y0
   generalize (dcs m).filter (hiB fs)=H at *
   generalize (dcs m).filter loB=L at *
   have eg:=enter_fill
   go_wp2_with fail
   refine (sortD_own W3.heap.size _ _ _ HR4.out.1 (by omega) 38 #[.pointer (some ⟨w.heap.size+1,0,none⟩)] (ltH fs) enter_high (cmpD_high H wr (w.heap.size+1) fs HV4.out HV.out HIX.out) (ltH_ir fs) (ltH_tr fs) (ltH_tr' fs)).mono ?_
   rintro _ w5 ⟨rfl,hs5⟩
   have HS5:=Lib.hid hs5
   have HL5:=Lib.hid (HR4.out.2.1.others hs5.2.2.1 hs5.2.1 HR4.out.2.2)
   have hb5:=hb.trans hs5.2.2.2
   clear hs5 hb hY4
   go_wp2_with fail
   refine (sortD_own W3.heap.size _ _ _ HL5.out (by omega) 40 #[] ltL enter_low (cmpD_low L w5) ltL_ir ltL_tr ltL_tr').mono ?_
   rintro _ w6 ⟨rfl,hs6⟩
   have HH6:Hid (DcsM w6 u11 (sortB (ltH fs) H)):=Lib.hid (RdO.rd (HS5.out.1.others hs6.2.2.1 hs6.2.1 (fun b hb e=>HR4.out.2.2 b e.symm hb.symm)))
   have HL6:Hid (DcsM w6 u12 (sortB ltL L)):=Lib.hid (RdO.rd hs6.1)
   have hb6:=hb5.trans hs6.2.2.2
   have hU6:=hU3.later hb6
   have hS6:=hS3.later hb6
   have HFA:Hid (FillAt w6 (gs+1) gs (0,[]) w6):=Lib.hid ⟨none,0,0,hU6,hS6,IntsO.nil _ _,Kp2.refl _⟩
   have hbw6:=hbe3.trans (hb6.mono hbe3.size)
   have hsz6:w.heap.size≤w6.heap.size:=hbw6.size
   clear hs6 hb5 hb6 hU6 hS6 HS5 HL5
   go_wp2_with fail
   refine (fill_own u11 (sortB (ltH fs) H) w6 w6 (gs+1) gs w.heap.size (0,[]) HH6.out (by omega) HBH.out (by decide) (by simp) HFA.out (by omega) (by omega) hsz6 (by omega)).mono ?_
   rintro _ w7 ⟨rfl,hf7,hb7⟩
   have HF7:=Lib.hid hf7
   have hlt7:(fillP (sortB (ltH fs) H) (0,[])).1 < 64:=fillP_lt (fun x hx=>(HBH.out x hx).1) (by decide)
   have hln7:=fillP_len (sortB (ltH fs) H) (0,[])
   have HG7:Hid (greedyL m fs=(fillP (sortB ltL L) (fillP (sortB (ltH fs) H) (0,[]))).2):=HGR
   generalize fillP (sortB (ltH fs) H) (0,[])=a7 at *
   simp only [List.length_nil] at hln7
   clear hf7 HFA
   go_wp2_with fail
   refine (fill_own u12 (sortB ltL L) w6 w7 (gs+1) gs w.heap.size a7 HL6.out (by omega) HBL.out hlt7 (by omega) HF7.out (by omega) (by omega) hsz6 (by omega)).mono ?_
   rintro _ w8 ⟨rfl,hf8,hb8⟩
   have hln8:=fillP_len (sortB ltL L) a7
   obtain ⟨A8,n8,c8,_,hS8,hO8,_⟩:=hf8
   rw [← HG7.out] at hO8 hln8
   have HO8:=Lib.hid hO8
   have s0:=hS8.cellAt 0 rfl
   have hbw8:=(hbw6.trans hb7).trans hb8
   clear HF7 hb7 hb8 hbw6 hO8
   go_wp2_with fail
   refine (sortI_own w6.heap.size _ (greedyL m fs) _ HO8.out (by omega)).mono ?_
   rintro _ w9 ⟨rfl,hs9⟩
   have hS9:=hs9.2.1.bk hS8 (by decide)
   have HO9:=Lib.hid (hs9.1.monoB hsz6)
   have hbw9:=hbw8.trans (hs9.2.2.2.mono hsz6)
   clear s0 hs9 hbw8
   have s0:=hS9.cellAt 0 rfl
   go_wp2
   go_ret2
   exact ⟨_,rfl,HO9.out,hbw9⟩
end Go.Proofs.Ytgdcbjligbnpgaa
