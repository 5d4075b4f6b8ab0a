/- Contracts and plain facts that the claim is built on, joined out of smaller texts; no condition. -/
import Derived.Test.YtncmobkhenfhpaaGreatB15
import Derived.Test.YtncmobkhenfhpaaGreatB31
set_option linter.unusedVariables false
set_option linter.unusedSimpArgs false
set_option maxRecDepth 100000
set_option maxHeartbeats 40000000
namespace Go.Proofs.YtncmobkhenfhpaaGreat
open Go.RowKit
open Pl
attribute [local go_sem ↓] Go.wp_at_zero Go.wp_at_succ
namespace Pl
def solF (m:Nat) (cols:Mx) (b:Nat→Rat):List RF:=match solveQ m cols b with | some x=>canL m x | none=>[]
theorem solF_some {m:Nat} {cols:Mx} {b x:Nat→Rat} (h:solveQ m cols b=some x):solF m cols b=canL m x:=by unfold solF;rw [h]
theorem solF_none {m:Nat} {cols:Mx} {b:Nat→Rat} (h:solveQ m cols b=none):solF m cols b=[]:=by unfold solF;rw [h]
end Pl
namespace Pl
def LPd.Fit (p:LPd) (K:Nat):Prop:=p.Ok K∧p.In∧p.right.length≤64∧p.cost.length=p.cols.length∧p.cols.length≤1200∧1≤K∧130 * (5^p.right.length * K)+200≤8589934592
theorem LPd.Fit.k1 {p:LPd} {K:Nat} (h:p.Fit K):1≤K:=h.2.2.2.2.2.1
theorem LPd.Fit.le {p:LPd} {K:Nat} (_h:p.Fit K):K≤5^p.right.length * K:=by
 have:=Nat.mul_le_mul_right K (Nat.pow_le_pow_right (show 0 < 5 by decide) (Nat.zero_le p.right.length));simpa using this
theorem LPd.Fit.kb {p:LPd} {K:Nat} (h:p.Fit K):K≤34359738368:=by
 have h1:=h.le;have h2:=h.2.2.2.2.2.2;omega
theorem LPd.Fit.ks {p:LPd} {K:Nat} (h:p.Fit K):5^p.right.length * K≤8589934592:=by
 have h2:=h.2.2.2.2.2.2;omega
theorem LPd.Fit.ok {p:LPd} {K:Nat} (h:p.Fit K):p.Ok K:=h.1
theorem LPd.Fit.in_ {p:LPd} {K:Nat} (h:p.Fit K):p.In:=h.2.1
theorem LPd.Fit.rows {p:LPd} {K:Nat} (h:p.Fit K):p.right.length≤64:=h.2.2.1
theorem LPd.Fit.cl {p:LPd} {K:Nat} (h:p.Fit K):p.cost.length=p.cols.length:=h.2.2.2.1
theorem LPd.Fit.cols {p:LPd} {K:Nat} (h:p.Fit K):p.cols.length≤1200:=h.2.2.2.2.1
theorem LPd.Fit.rs {p:LPd} {K:Nat} (h:p.Fit K):RsL K p.right:=h.1.2.1
theorem LPd.Fit.cs {p:LPd} {K:Nat} (h:p.Fit K):RsL K p.cost:=h.1.1
def LSt.Fit (p:LPd) (s:LSt):Prop:=s.In p∧s.basis.length=p.right.length
theorem LSt.Fit.in_ {p:LPd} {s:LSt} (h:s.Fit p):s.In p:=h.1
theorem LSt.Fit.len {p:LPd} {s:LSt} (h:s.Fit p):s.basis.length=p.right.length:=h.2
def ordQ (p:LPd) (j:Int):Int:=if 0≤j then j else p.cols.length - 1 - j
def costQ (p:LPd) (ph j:Int):Rat:=if ph=1∧j < 0 then 1 else if ph=2∧0≤j then qAt p.cost j.toNat else 0
theorem costQ_art {p:LPd} {j:Int} (h:j < 0):costQ p 1 j=1:=by unfold costQ;rw [if_pos ⟨rfl,h⟩]
theorem costQ_real {p:LPd} {j:Int} (h:0≤j):costQ p 2 j=qAt p.cost j.toNat:=by unfold costQ;rw [if_neg (by omega),if_pos ⟨rfl,h⟩]
theorem costQ_none {p:LPd} {ph j:Int} (h1:¬(ph=1∧j < 0)) (h2:¬(ph=2∧0≤j)):costQ p ph j=0:=by unfold costQ;rw [if_neg h1,if_neg h2]
theorem Sz_cost {p:LPd} {K:Nat} (ok:p.Ok K) (hK:1≤K) (ph j:Int):Sz K (costQ p ph j):=by
 unfold costQ;split
 ·exact Sz_one.mono hK
 ·split
  ·exact ok.1.qAt hK _
  ·exact Sz_zero.mono hK
def artN (s:LSt) (zs:List RF):Nat→Bool
 | 0=>false
 | k+1=>artN s zs k || (decide (s.at_ k < 0) && decide (qAt zs k≠0))
theorem artN_true {s:LSt} {zs:List RF} {k:Nat} (h1:s.at_ k < 0) (h2:qAt zs k≠0):∀{n:Nat},k < n→artN s zs n=true
 | 0,h=>by omega
 | n+1,h=>by
  unfold artN
  rcases Nat.lt_or_ge k n with hk | hk
  ·rw [artN_true h1 h2 hk];rfl
  ·obtain rfl:k=n:=by omega
   simp [h1,h2]
def zL (p:LPd) (s:LSt):List RF:=solF p.right.length (s.mat p) (qAt p.right)
def zOk (p:LPd) (s:LSt):Bool:=(solveQ p.right.length (s.mat p) (qAt p.right)).isSome
def dualL (p:LPd) (s:LSt):List RF:=solF p.right.length (fun r k=>s.mat p k r) (qAt (canL p.right.length fun i=>costQ p s.phase (s.at_ i)))
theorem solF_B {m K:Nat} {cols:Mx} {b:Nat→Rat} (h:∀r c,r < m→c < m→Sz K (cols c r)) (hb:∀r,r < m→Sz K (b r)):RsL (5^m * K) (solF m cols b):=by
 unfold solF
 cases e:solveQ m cols b with
 | none=>exact RsL.nil _
 | some x=>exact canL_rs (solveQ_B h hb e)
theorem zL_B {p:LPd} {K:Nat} (F:p.Fit K) (s:LSt):RsL (5^p.right.length * K) (zL p s):=solF_B (fun _ _ _ _=>LPd.Sz_col F.1 F.k1 _ _) fun r _=>F.1.2.1.qAt F.k1 r
theorem dualL_B {p:LPd} {K:Nat} (F:p.Fit K) (s:LSt):RsL (5^p.right.length * K) (dualL p s):=solF_B (fun _ _ _ _=>LPd.Sz_col F.1 F.k1 _ _) fun r hr=>by rw [canL_qAt hr];exact Sz_cost F.1 F.k1 _ _
end Pl
theorem FracM.cells {w:World} {x y z u:Value} {f:RF} (h:FracM w (.agg #[x,y,z,u]) f):x.oneCell'=true∧y.oneCell'=true∧z.oneCell'=true∧u.oneCell'=true:=by
 obtain ⟨A,n,c,A',n',c',e,_,_⟩:=h
 simp at e
 obtain ⟨rfl,rfl,rfl,rfl⟩:=e
 exact ⟨rfl,rfl,rfl,rfl⟩
theorem FrC.one {w:World} {cs:List Value} {fs:List RF} (h:FrC w cs fs):∀u∈cs,u.oneCell'=true:=by
 intro u hu
 obtain ⟨j,hj⟩:=List.mem_iff_getElem?.1 hu
 have hjl:j < cs.length:=(List.getElem?_eq_some_iff.1 hj).1
 have hk:j / 4 < fs.length:=by have:=h.1;omega
 obtain ⟨f,hf⟩:∃f,fs[j / 4]? =some f:=⟨fs[j / 4],List.getElem?_eq_getElem hk⟩
 obtain ⟨x,y,z,v,c0,c1,c2,c3,hm⟩:=h.2 _ f hf
 obtain ⟨o0,o1,o2,o3⟩:=hm.cells
 have h4:j % 4=0∨j % 4=1∨j % 4=2∨j % 4=3:=by omega
 rcases h4 with e | e | e | e
 ·rw [show j / 4 * 4=j by omega,hj] at c0;injection c0 with c0;subst c0;exact o0
 ·rw [show j / 4 * 4+1=j by omega,hj] at c1;injection c1 with c1;subst c1;exact o1
 ·rw [show j / 4 * 4+2=j by omega,hj] at c2;injection c2 with c2;subst c2;exact o2
 ·rw [show j / 4 * 4+3=j by omega,hj] at c3;injection c3 with c3;subst c3;exact o3
theorem addr_add0 (b off j:Nat):(⟨b,off,none⟩:Addr).add j=⟨b,off+j,none⟩:=by
 unfold Addr.add
 split
 ·rename_i h;subst h;rfl
 ·rfl
def IntsO (base:Nat) (w:World) (v:Value) (zs:List Int):Prop:=w.ownsRow base 3 1 v zs.length (zs.map fun z=>Value.int .i64 z)∧∀z∈zs,-9223372036854775808≤z∧z≤9223372036854775807
theorem IntsO.below {base:Nat} {w w':World} {v:Value} {zs:List Int} (h:IntsO base w v zs) (hb:Below w.heap.size w w'):IntsO base w' v zs:=⟨own_below h.1 hb,h.2⟩
theorem IntsO.nil (base:Nat) (w:World):IntsO base w (.slice none 0 0) []:=⟨World.ownsRow_nil _ _ _ _,fun z hz=>by simp at hz⟩
theorem IntsO.monoB {base base':Nat} {w:World} {v:Value} {zs:List Int} (h:IntsO base w v zs) (hb:base'≤base):IntsO base' w v zs:=⟨row_mono h.1 hb,h.2⟩
theorem IntsO.but {base:Nat} {w w':World} {e:TypeId} {v:Value} {zs:List Int} (h:IntsO base w v zs) (hk:KeepBut e w w') (h1:3≠e):IntsO base w' v zs:=⟨hk.own h.1 h1,h.2⟩
theorem IntsO.ints {base:Nat} {w:World} {v:Value} {zs:List Int} (h:IntsO base w v zs):IntsM w v zs:=by
 obtain ⟨A,c,hv,hl,hc,hm,hrow⟩:=RowM.of_own h.1
 refine ⟨A,c,hv,hc,hm,fun hp=>?_,h.2⟩
 obtain ⟨b,off,cs,fz,hA,hb,hx⟩:=hrow hp
 refine ⟨b,off,hA,fun i hi=>?_⟩
 rw [cell_of_row w b (off+i) cs _ fz hb,hx i (.int .i64 (zs.getD i 0)) (by simp [List.getD,List.getElem?_eq_getElem hi])]
theorem IntsO.sliceN {base:Nat} {w:World} {v:Value} {zs:List Int} (h:IntsO base w v zs):∃A n c,v= .slice A n c:=by
 obtain ⟨A,c,hv,_⟩:=RowM.of_own h.1
 exact ⟨A,_,c,hv⟩
theorem info_intT:(Tryz.prog.info? 3).map (fun i=>(i.zero,i.size,i.bytes))=some (some (.int .i64 0),1,8):=by kernel_rfl
def StO (base:Nat) (w:World) (v:Value) (s:LSt):Prop:=∃A n c,v= .agg #[.int .i64 s.phase,.slice A n c,.int .i64 s.pivots]∧IntsO base w (.slice A n c) s.basis
theorem StO.st {base:Nat} {w:World} {v:Value} {s:LSt} (h:StO base w v s):StM w v s:=by
 obtain ⟨A,n,c,rfl,h2⟩:=h
 exact ⟨A,n,c,rfl,h2.ints⟩
namespace Pl
def settleQ (p:LPd) (s:LSt):LSt:=⟨if artN s (zL p s) (zL p s).length then s.phase else 2,s.basis,s.pivots⟩
theorem settleQ_fit {p:LPd} {s:LSt} (h:s.Fit p):(settleQ p s).Fit p:=h
end Pl
def SetAt (U:World) (s:LSt) (s7:Value) (wx:World):Prop:=
 ∃g A n c,s7= .pointer (some ⟨g,0,none⟩)∧U.heap.size≤g∧Bk wx g 29 [.int .i64 s.phase,.slice A n c,.int .i64 s.pivots]∧IntsO U.heap.size wx (.slice A n c) s.basis∧Below U.heap.size U wx
theorem SetAt.mk {U w:World} {g:Nat} {s:LSt} {x y z:Value} {A:Option Addr} {n c:Nat} (hB:Bk w g 29 [x,y,z]) (hI:IntsO U.heap.size w (.slice A n c) s.basis) (hb:Below U.heap.size U w) (hg:U.heap.size≤g):
 SetAt U s (.pointer (some ⟨g,0,none⟩)) (((w.setCell ⟨g,0,none⟩ (.int .i64 s.phase)).setCell ⟨g,1,none⟩ (.slice A n c)).setCell ⟨g,2,none⟩ (.int .i64 s.pivots)):=by
 have k1:=KeepBut.setCell hB 0 (.int .i64 s.phase)
 have k2:=KeepBut.setCell (hB.set_ 0 (.int .i64 s.phase)) 1 (.slice A n c)
 have k3:=KeepBut.setCell ((hB.set_ 0 (.int .i64 s.phase)).set_ 1 (.slice A n c)) 2 (.int .i64 s.pivots)
 have k4:=(k1.trans k2).trans k3
 exact ⟨g,A,n,c,rfl,hg,((hB.set_ 0 _).set_ 1 _).set_ 2 _,hI.but k4 (by decide),((hb.setCell (p:=⟨g,0,none⟩) hg _).setCell (p:=⟨g,1,none⟩) hg _).setCell (p:=⟨g,2,none⟩) hg _⟩
theorem IntsO.shape {base:Nat} {w:World} {v:Value} {zs:List Int} (h:IntsO base w v zs) (hp:0 < zs.length):∃g c,v= .slice (some ⟨g,0,none⟩) zs.length c∧base≤g∧g < w.heap.size∧zs.length≤c∧c≤9223372036854775807:=by
 rcases h.1.2 with ⟨rfl,e⟩ | ⟨g,cap,cur,rfl,hb,hg,hnc,hcm,hcs,htake⟩
 ·omega
 ·unfold maxLen at hcm
  exact ⟨g,cap,rfl,hb,lt_heap hg,hnc,by omega⟩
theorem IntsO.len {base:Nat} {w:World} {A:Option Addr} {n c:Nat} {zs:List Int} (h:IntsO base w (.slice A n c) zs):n=zs.length:=(RowM.of_own h.1).len
theorem IntsO.at_ {base:Nat} {w:World} {g n c:Nat} {zs:List Int} (h:IntsO base w (.slice (some ⟨g,0,none⟩) n c) zs) {k:Nat} {z:Int} (hz:zs[k]? =some z):
 w.cell? ⟨g,k,none⟩=some (.int .i64 z)∧w.frozen? ⟨g,k,none⟩=false∧ -9223372036854775808≤z∧z≤9223372036854775807:=by
 have hn:=h.len
 obtain ⟨h1,h2⟩:=h
 subst hn
 obtain ⟨c1,c2⟩:=row_cell h1 (j:=k) (u:= .int .i64 z) (by simp [hz])
 exact ⟨c1,c2,h2 z (List.mem_of_getElem? hz)⟩
theorem IntsO.base {base:Nat} {w:World} {g n c:Nat} {zs:List Int} (h:IntsO base w (.slice (some ⟨g,0,none⟩) n c) zs):base≤g:=by
 have hn:=h.len
 obtain ⟨h1,h2⟩:=h
 subst hn
 obtain ⟨_,_,h3⟩:=row_block h1
 exact h3
theorem IntsO.set_ {base:Nat} {w:World} {g n c:Nat} {zs:List Int} (h:IntsO base w (.slice (some ⟨g,0,none⟩) n c) zs) {k:Nat} (hk:k < zs.length) {z:Int} (h0: -9223372036854775808≤z) (h1:z≤9223372036854775807):
 IntsO base (w.setCell ⟨g,k,none⟩ (.int .i64 z)) (.slice (some ⟨g,0,none⟩) n c) (zs.set k z)∧KeepBut 3 w (w.setCell ⟨g,k,none⟩ (.int .i64 z)):=by
 have hn:=h.len
 obtain ⟨g1,g2⟩:=h
 subst hn
 have o1:=row_set g1 k (.int .i64 z) (by simpa using hk)
 obtain ⟨_,b0,_⟩:=row_block g1
 refine ⟨⟨by rw [List.length_set,List.map_set];exact o1,fun y hy=>?_⟩,KeepBut.setCell b0 k _⟩
 rcases List.mem_or_eq_of_mem_set hy with hy | rfl
 ·exact g2 y hy
 ·exact ⟨h0,h1⟩
theorem IntsO.others {base:Nat} {w w':World} {g:Option Nat} {v:Value} {zs:List Int} (h:IntsO base w v zs) (ho:Others g w w') (hne:∀b,v.ownBlock=some b→some b≠g):IntsO base w' v zs:=by
 refine ⟨⟨h.1.1,?_⟩,h.2⟩
 rcases h.1.2 with hn | ⟨b,cap,cur,rfl,hb',hgg,rest⟩
 ·exact .inl hn
 ·exact .inr ⟨b,cap,cur,rfl,hb',(ho.2 b (lt_heap hgg) (hne b rfl)).trans hgg,rest⟩
def zic (n:Nat):Array Value:=madeCells (Value.cells (.int .i64 0)) (n * 1)
theorem zic_at {n k:Nat} (hk:k < n):(zic n)[k]? =some (.int .i64 0):=by
 unfold zic madeCells
 simp [hk,Value.cells,Nat.mod_one]
theorem IntsO.zeros (w:World) (n:Nat) (hn:n≤maxLen):IntsO w.heap.size (w.alloc (.cells (zic n) 3)) (.slice (some ⟨w.heap.size,0,none⟩) n n) (List.replicate n 0):=by
 have hsz:(zic n).size=n * 1:=size_madeCells _ _
 refine ⟨⟨by simp,.inr ⟨w.heap.size,n,zic n,by simp,Nat.le_refl _,heap_alloc_new w _,by simp,hn,by simpa using hsz,?_⟩⟩,fun z hz=>?_⟩
 ·refine List.ext_getElem? fun i=>?_
  rcases Nat.lt_or_ge i n with e | e
  ·have:=zic_at e
   simp [List.getElem?_take,e,this]
  ·rw [List.getElem?_eq_none (by simp [hsz];omega),List.getElem?_eq_none (by simp;omega)]
 ·have:=List.eq_of_mem_replicate hz
  omega
theorem make_ints (n:Nat) (hn:n≤1099511627776) (w:World):
 (Instr.makeSlice 22 (.int .i64 (n:Int)) (.int .i64 (n:Int))).run Tryz.prog w= .ok (.slice (some ⟨w.heap.size,0,none⟩) n n) (w.alloc (.cells (zic n) 3)):=by
 obtain ⟨i0,hi,hz0,hz1,hz2⟩:=info_parts info_intT
 have hb:(i0.bytes:Int) * (n:Int)≤281474976710656:=by rw [hz2];omega
 have hr:=run_make (P:=Tryz.prog) w 22 3 i0 _ Tryz.underlying22 hi hz0 .i64 .i64 n n (by omega) (by omega) hb (by omega)
 simp only [Int.toNat_natCast,hz1] at hr
 exact hr
def ElM (base:Nat) (w:World) (ge n:Nat) (va vr vc:Value) (M:Nat→Nat→RF) (G D:Nat→Nat) (rp cp:List Int):Prop:=
 Bk w ge 160 [.int .i64 (n:Int),va,vr,vc]∧MatR base w va n n M G D∧IntsO base w vr rp∧IntsO base w vc cp∧rp.length=n∧cp.length=n
theorem ElM.below {base:Nat} {w w':World} {ge n:Nat} {va vr vc:Value} {M:Nat→Nat→RF} {G D:Nat→Nat} {rp cp:List Int} (h:ElM base w ge n va vr vc M G D rp cp) (hb:Below w.heap.size w w'):ElM base w' ge n va vr vc M G D rp cp:=
 ⟨h.1.later hb,h.2.1.below hb,h.2.2.1.below hb,h.2.2.2.1.below hb,h.2.2.2.2⟩
theorem FracM.numLen {w:World} {b b':Bool} {A A':Option Addr} {n c n' c':Nat} {f:RF} (h:FracM w (.agg #[.bool b,.slice A n c,.bool b',.slice A' n' c']) f):n=f.num.ds.length:=by
 obtain ⟨_,_,_,_,_,_,hv,h1,h2⟩:=h
 simp at hv
 obtain ⟨_,⟨rfl,rfl,rfl⟩,_,rfl,rfl,rfl⟩:=hv
 obtain ⟨e1,e2,_,_⟩:=h1.len
 omega
namespace Pl
def actB (rp cp:List Int) (M:Nat→Nat→RF) (i j:Nat):Bool:=decide (rp.getD i 0 < 0) && (decide (cp.getD j 0 < 0) && decide (0 < (M i j).num.ds.length))
theorem getD_of {l:List Int} {i:Nat} {z:Int} (h:l[i]? =some z):l.getD i 0=z:=by simp [List.getD,h]
theorem get_someI {l:List Int} {i:Nat} (h:i < l.length):∃z,l[i]? =some z:=⟨l[i],List.getElem?_eq_getElem h⟩
theorem mul_bd {x y:Int} (h1: -100≤x) (h2:x≤100) (h3: -100≤y) (h4:y≤100): -10000≤x * y∧x * y≤10000:=by
 have a:=Int.mul_nonneg (show 0≤100 - x by omega) (show 0≤100 - y by omega)
 have b:=Int.mul_nonneg (show 0≤100 - x by omega) (show 0≤100+y by omega)
 have c:=Int.mul_nonneg (show 0≤100+x by omega) (show 0≤100 - y by omega)
 have d:=Int.mul_nonneg (show 0≤100+x by omega) (show 0≤100+y by omega)
 constructor <;> grind
end Pl
theorem active_any (base ge n:Nat) (va vr vc:Value) (M:Nat→Nat→RF) (G D:Nat→Nat) (rp cp:List Int) (i j:Nat) (w:World) (h:ElM base w ge n va vr vc M G D rp cp) (hi:i < n) (hj:j < n):
 Calls Tryz.prog 160 #[.pointer (some ⟨ge,0,none⟩),.int .i64 (i:Int),.int .i64 (j:Int)] w fun o w'=>o= .returned (.bool (actB rp cp M i j))∧Below w.heap.size w w':=by
 obtain ⟨hB,hM,hR,hC,hrl,hcl⟩:=h
 obtain ⟨go,co,rfl,_,_,hco1,hco2,hrows⟩:=hM.outer (by omega)
 obtain ⟨m1,m2⟩:=hrows i hi
 obtain ⟨A1,n1,c1,A2,n2,c2,⟨x0,x1,x2,x3⟩,hf⟩:=hM.at_ hi hj
 obtain ⟨l1,l2,l3,l4⟩:=hM.lt hi (by omega)
 have hnl:=hf.numLen
 obtain ⟨gr,cr,rfl,_,_,hr1,hr2⟩:=hR.shape (by omega)
 obtain ⟨gc,cc,rfl,_,_,hc1,hc2⟩:=hC.shape (by omega)
 obtain ⟨zi,hzi⟩:=get_someI (l:=rp) (i:=i) (by omega)
 obtain ⟨zj,hzj⟩:=get_someI (l:=cp) (i:=j) (by omega)
 obtain ⟨r0,_,_,_⟩:=hR.at_ hzi
 obtain ⟨k0,_,_,_⟩:=hC.at_ hzj
 obtain ⟨b0,b1,b2,b3⟩:=hB.four
 have hact:actB rp cp M i j=(decide (zi < 0) && (decide (zj < 0) && decide (0 < n1))):=by unfold actB;rw [getD_of hzi,getD_of hzj,hnl]
 rw [hact]
 unfold rowV at m1
 have hiI:(i:Int) < n:=by omega
 have hjI:(j:Int) < n:=by omega
 rw [hrl] at b2 hr1
 rw [hcl] at b3 hc1
 clear hact hnl hzi hzj hf hrows hM hR hC hB m2 hrl hcl
 generalize G i=gi at *
 generalize D i=di at *
 by_cases c1':zi < 0
 ·by_cases c2':zj < 0
  ·by_cases c3':0 < n1
   ·have c3I:(0:Int) < n1:=by omega
    go_enter Tryz.func160,Tryz.ntmps160
    go_wp2
    go_ret
    exact ⟨by simp [c1',c2',c3'],Below.refl _ _⟩
   ·obtain rfl:n1=0:=by omega
    go_enter Tryz.func160,Tryz.ntmps160
    go_wp2
    go_ret
    exact ⟨by simp,Below.refl _ _⟩
  ·have c2I:0≤zj:=by omega
   go_enter Tryz.func160,Tryz.ntmps160
   go_wp2
   go_ret
   exact ⟨by simp;intro h;omega,Below.refl _ _⟩
 ·have c1I:0≤zi:=by omega
  go_enter Tryz.func160,Tryz.ntmps160
  go_wp2
  go_ret
  exact ⟨by simp;intro h;omega,Below.refl _ _⟩
def TwoAt (V:World) (n:Nat) (s5 s6:Value) (wx:World):Prop:=
 ∃g5 g6,s5= .slice (some ⟨g5,0,none⟩) n n∧s6= .slice (some ⟨g6,0,none⟩) n n∧g5≠g6∧IntsO V.heap.size wx (.slice (some ⟨g5,0,none⟩) n n) (List.replicate n 0)∧IntsO V.heap.size wx (.slice (some ⟨g6,0,none⟩) n n) (List.replicate n 0)∧Below V.heap.size V wx
def CntAt (w:World) (n g5 g6:Nat) (N:Int) (wr:World):Prop:=
 ∃zs ys:List Int,zs.length=n∧ys.length=n∧(∀z∈zs,0≤z∧z≤N)∧(∀z∈ys,0≤z∧z≤N)∧IntsO w.heap.size wr (.slice (some ⟨g5,0,none⟩) n n) zs∧IntsO w.heap.size wr (.slice (some ⟨g6,0,none⟩) n n) ys∧Below w.heap.size w wr
theorem CntAt.mono {w wr:World} {n g5 g6:Nat} {N N':Int} (h:CntAt w n g5 g6 N wr) (hn:N≤N'):CntAt w n g5 g6 N' wr:=by
 obtain ⟨zs,ys,h1,h2,h3,h4,h5⟩:=h
 exact ⟨zs,ys,h1,h2,fun z hz=>⟨(h3 z hz).1,by have:=(h3 z hz).2;omega⟩,fun z hz=>⟨(h4 z hz).1,by have:=(h4 z hz).2;omega⟩,h5⟩
theorem CntAt.below {w wr w':World} {n g5 g6:Nat} {N:Int} (h:CntAt w n g5 g6 N wr) (hb:Below wr.heap.size wr w'):CntAt w n g5 g6 N w':=by
 obtain ⟨zs,ys,h1,h2,h3,h4,h5,h6,h7⟩:=h
 exact ⟨zs,ys,h1,h2,h3,h4,h5.below hb,h6.below hb,below_then h7 hb h7.size⟩
def BestAt (n:Nat) (rp cp:List Int) (M:Nat→Nat→RF) (i j:Nat) (s2 s3 s4 s9:Value):Prop:=
 ∃(r c b:Int) (ok:Bool),s2= .int .i64 r∧s3= .int .i64 c∧s4= .bool ok∧s9= .int .i64 b∧(ok=true→∃r' c':Nat,r=r'∧c=c'∧r' < n∧c' < n∧actB rp cp M r' c'=true)∧
  (ok=false→∀i' j',j' < n→(i' < i∨(i'=i∧j' < j))→actB rp cp M i' j'=false)
theorem BestAt.skip {n i j:Nat} {rp cp:List Int} {M:Nat→Nat→RF} {s2 s3 s4 s9:Value} (h:BestAt n rp cp M i j s2 s3 s4 s9) (ha:actB rp cp M i j=false):BestAt n rp cp M i (j+1) s2 s3 s4 s9:=by
 obtain ⟨r,c,b,ok,e2,e3,e4,e9,h1,h2⟩:=h
 refine ⟨r,c,b,ok,e2,e3,e4,e9,h1,fun ho i' j' hj hl=>?_⟩
 by_cases e:i'=i∧j'=j
 ·rw [e.1,e.2];exact ha
 ·exact h2 ho i' j' hj (by omega)
theorem BestAt.skipT {n i j:Nat} {rp cp:List Int} {M:Nat→Nat→RF} {r c b:Int} {ok:Bool} (h:BestAt n rp cp M i j (.int .i64 r) (.int .i64 c) (.bool ok) (.int .i64 b)):ok=true→BestAt n rp cp M i (j+1) (.int .i64 r) (.int .i64 c) (.bool ok) (.int .i64 b):=by
 intro ht
 obtain ⟨r',c',b',ok',e2,e3,e4,e9,h1,h2⟩:=h
 injection e4 with e4
 subst e4
 exact ⟨r',c',b',ok,e2,e3,rfl,e9,h1,fun ho=>by rw [ht] at ho;cases ho⟩
theorem BestAt.take {n i j:Nat} {rp cp:List Int} {M:Nat→Nat→RF} {m:Int} (hi:i < n) (hj:j < n) (ha:actB rp cp M i j=true):BestAt n rp cp M i (j+1) (.int .i64 i) (.int .i64 j) (.bool true) (.int .i64 m):=
 ⟨_,_,_,_,rfl,rfl,rfl,rfl,fun _=>⟨i,j,rfl,rfl,hi,hj,ha⟩,fun ho=>by cases ho⟩
theorem BestAt.row {n i:Nat} {rp cp:List Int} {M:Nat→Nat→RF} {s2 s3 s4 s9:Value} (h:BestAt n rp cp M i n s2 s3 s4 s9):BestAt n rp cp M (i+1) 0 s2 s3 s4 s9:=by
 obtain ⟨r,c,b,ok,e2,e3,e4,e9,h1,h2⟩:=h
 exact ⟨r,c,b,ok,e2,e3,e4,e9,h1,fun ho i' j' hj hl=>h2 ho i' j' hj (by omega)⟩
def ChoosePost (n:Nat) (rp cp:List Int) (M:Nat→Nat→RF) (w:World) (o:Ending) (w':World):Prop:=
 ∃(r c:Int) (ok:Bool),o= .returned (.tuple #[.int .i64 r,.int .i64 c,.bool ok])∧(ok=true→∃r' c':Nat,r=r'∧c=c'∧r' < n∧c' < n∧actB rp cp M r' c'=true)∧
  (ok=false→∀i' j',i' < n→j' < n→actB rp cp M i' j'=false)∧Below w.heap.size w w'
theorem choose_own (base ge n:Nat) (va vr vc:Value) (M:Nat→Nat→RF) (G D:Nat→Nat) (rp cp:List Int) (w:World) (h:ElM base w ge n va vr vc M G D rp cp) (hn:n≤7):
 Calls Tryz.prog 141 #[.pointer (some ⟨ge,0,none⟩)] w (ChoosePost n rp cp M w):=by
 have HE:=Lib.hid h
 have HB:=Lib.hid h.1
 have hmk:=make_ints n (by omega)
 obtain ⟨b0,b1,b2,b3⟩:=h.1.four
 clear h b1 b2 b3
 go_enter Tryz.func141,Tryz.ntmps141
 go_upto_region 1 with (fail)
 go_cut [5,6] (fun s5 s6 wx=>TwoAt w n s5 s6 wx)
 case first=>
  have C0:=stab b0
  have hS0:=below_drew' w
  clear b0
  refine region_plan 12 (.go 0 (.go 1 (.go 2 (.go 3 (.go 5 (.go 6 (.go 7 (.go 8 (.fork 4 (.go 10 (.go 9 (.go 11 .done))) 9 (.go 4 (.go 10 (.go 11 .done)))))))))))) (by kernel_rfl) (by kernel_rfl) ?_
  repeat ((first | (refine plan_takeP (v:=?_) rfl rfl rfl ?_ ?_;rotate_left;(· (intro _ hSw;go_simp;(try go_bits);(try with_reducible rfl)))) | (refine plan_take (v:=?_) rfl rfl rfl ?_ ?_;rotate_left;(· (intro _ hSw;go_simp;(try go_bits);(try with_reducible rfl)))) | refine plan_skip rfl rfl rfl ?_ | refine plan_skipc rfl rfl rfl (by assumption) ?_);(try simp only [Act.put,pu1,pu2,pu3,pu4,pu5,pu6]))
  refine plan_fork rfl rfl (fun KR hKR=>?_) (fun KR hKR=>?_)
  ·have hI5:=IntsO.zeros w.drew n (by unfold maxLen;omega)
   have hbN5:=below_new w.drew (.cells (zic n) 3)
   obtain ⟨W5,hW5⟩:∃W5,w.drew.alloc (.cells (zic n) 3)=W5:=⟨_,rfl⟩
   have hsz5:W5.heap.size=w.drew.heap.size+1:=by rw [← hW5];simp
   rw [hW5] at hI5 hbN5
   have hS5:=below_then hS0 hbN5 hS0.size
   have hge5:=hS0.size
   go_simp
   refine hKR.out _ _ (Or.inr hS5) ?_
   clear hKR KR hW5
   (try simp only [Act.put,pu1,pu2,pu3,pu4,pu5,pu6])
   replace hI5:=hI5.monoB hge5
   repeat ((first | (refine plan_takeP (v:=?_) rfl rfl rfl ?_ ?_;rotate_left;(· (intro _ hSw;go_simp;(try go_bits);(try with_reducible rfl)))) | (refine plan_take (v:=?_) rfl rfl rfl ?_ ?_;rotate_left;(· (intro _ hSw;go_simp;(try go_bits);(try with_reducible rfl)))) | refine plan_skip rfl rfl rfl ?_ | refine plan_skipc rfl rfl rfl (by assumption) ?_);(try simp only [Act.put,pu1,pu2,pu3,pu4,pu5,pu6]))
   have hI6:=IntsO.zeros W5 n (by unfold maxLen;omega)
   have hbN6:=below_new W5 (.cells (zic n) 3)
   obtain ⟨W6,hW6⟩:∃W6,W5.alloc (.cells (zic n) 3)=W6:=⟨_,rfl⟩
   have hsz6:W6.heap.size=W5.heap.size+1:=by rw [← hW6];simp
   rw [hW6] at hI6 hbN6
   have hS6:=below_then hS5 hbN6 hS5.size
   have hge6:=hS5.size
   refine plan_step rfl rfl (fun KR hKR=>?_)
   go_simp
   refine hKR.out _ _ (Or.inr hS6) ?_
   clear hKR KR hW6
   (try simp only [Act.put,pu1,pu2,pu3,pu4,pu5,pu6])
   replace hI5:=hI5.below hbN6
   replace hI6:=hI6.monoB hge6
   rw [hsz5] at hI6
   repeat ((first | (refine plan_takeP (v:=?_) rfl rfl rfl ?_ ?_;rotate_left;(· (intro _ hSw;go_simp;(try go_bits);(try with_reducible rfl)))) | (refine plan_take (v:=?_) rfl rfl rfl ?_ ?_;rotate_left;(· (intro _ hSw;go_simp;(try go_bits);(try with_reducible rfl)))) | refine plan_skip rfl rfl rfl ?_ | refine plan_skipc rfl rfl rfl (by assumption) ?_);(try simp only [Act.put,pu1,pu2,pu3,pu4,pu5,pu6]))
   refine plan_done ?_
   go_wp2_with fail
   go_meet
   exact ⟨_,_,rfl,rfl,by first | omega | (simp at *;omega),hI5,hI6,hS6⟩
  ·have hI6:=IntsO.zeros w.drew n (by unfold maxLen;omega)
   have hbN6:=below_new w.drew (.cells (zic n) 3)
   obtain ⟨W6,hW6⟩:∃W6,w.drew.alloc (.cells (zic n) 3)=W6:=⟨_,rfl⟩
   have hsz6:W6.heap.size=w.drew.heap.size+1:=by rw [← hW6];simp
   rw [hW6] at hI6 hbN6
   have hS6:=below_then hS0 hbN6 hS0.size
   have hge6:=hS0.size
   go_simp
   refine hKR.out _ _ (Or.inr hS6) ?_
   clear hKR KR hW6
   (try simp only [Act.put,pu1,pu2,pu3,pu4,pu5,pu6])
   replace hI6:=hI6.monoB hge6
   have hI5:=IntsO.zeros W6 n (by unfold maxLen;omega)
   have hbN5:=below_new W6 (.cells (zic n) 3)
   obtain ⟨W5,hW5⟩:∃W5,W6.alloc (.cells (zic n) 3)=W5:=⟨_,rfl⟩
   have hsz5:W5.heap.size=W6.heap.size+1:=by rw [← hW5];simp
   rw [hW5] at hI5 hbN5
   have hS5:=below_then hS6 hbN5 hS6.size
   have hge5:=hS6.size
   refine plan_step rfl rfl (fun KR hKR=>?_)
   go_simp
   refine hKR.out _ _ (Or.inr hS5) ?_
   clear hKR KR hW5
   (try simp only [Act.put,pu1,pu2,pu3,pu4,pu5,pu6])
   replace hI6:=hI6.below hbN5
   replace hI5:=hI5.monoB hge5
   rw [hsz6] at hI5
   repeat ((first | (refine plan_takeP (v:=?_) rfl rfl rfl ?_ ?_;rotate_left;(· (intro _ hSw;go_simp;(try go_bits);(try with_reducible rfl)))) | (refine plan_take (v:=?_) rfl rfl rfl ?_ ?_;rotate_left;(· (intro _ hSw;go_simp;(try go_bits);(try with_reducible rfl)))) | refine plan_skip rfl rfl rfl ?_ | refine plan_skipc rfl rfl rfl (by assumption) ?_);(try simp only [Act.put,pu1,pu2,pu3,pu4,pu5,pu6]))
   refine plan_done ?_
   go_wp2_with fail
   go_meet
   exact ⟨_,_,rfl,rfl,by first | omega | (simp at *;omega),hI5,hI6,hS5⟩
 case rest=>
  clear hmk b0
  obtain ⟨g5,g6,rfl,rfl,hne,hI5,hI6,hb⟩:=hcut
  have hc0:CntAt w n g5 g6 0 wc:=⟨_,_,by simp,by simp,fun z hz=>by have:=List.eq_of_mem_replicate hz;omega,fun z hz=>by have:=List.eq_of_mem_replicate hz;omega,hI5,hI6,hb⟩
  obtain ⟨b0,_,_,_⟩:=(HB.out.later hb).four
  clear hI5 hI6 hb
  go_wp2
  clear b0
  go_loopw [27] (fun x wr=>∃i:Nat,i≤n∧x= .int .i64 i∧CntAt w n g5 g6 (8 * i) wr) (fun x _=>n - (intOf x).toNat)
  case atStart=>exact ⟨0,by omega,rfl,hc0⟩
  case round=>
   clear hc0
   obtain ⟨i,hi,rfl,hc⟩:=hrel
   rcases Nat.lt_or_ge i n with hil | hil
   ·have hiI:(i:Int) < n:=by omega
    have hbe:Below w.heap.size w wr:=by obtain ⟨_,_,_,_,_,_,_,_,h⟩:=hc;exact h
    obtain ⟨b0,_,_,_⟩:=(HB.out.later hbe).four
    clear hbe
    go_wp2
    clear b0
    go_loopw [34] (fun x wr=>∃j:Nat,j≤n∧x= .int .i64 j∧CntAt w n g5 g6 (8 * i+j) wr) (fun x _=>n - (intOf x).toNat)
    case atStart=>exact ⟨0,by omega,rfl,by simpa using hc⟩
    case round=>
     clear hc
     obtain ⟨j,hj,rfl,hc⟩:=hrel
     rcases Nat.lt_or_ge j n with hjl | hjl
     ·have hjI:(j:Int) < n:=by omega
      have hbe:Below w.heap.size w wr:=by obtain ⟨_,_,_,_,_,_,_,_,h⟩:=hc;exact h
      have hE1:=HE.out.below hbe
      clear hbe
      go_wp2_with fail
      refine (active_any base ge n va vr vc M G D rp cp i j _ hE1 hil hjl).mono ?_
      rintro _ w1 ⟨rfl,hb1⟩
      have hc1:=hc.below hb1
      clear hc hb1 hE1
      cases hact:actB rp cp M i j
      ·clear hact
       go_wp2
       go_roundw
       case rel=>exact ⟨j+1,by omega,by go_num,hc1.mono (by omega)⟩
       case measure=>simp [intOf];omega
      ·clear hact
       obtain ⟨zs,ys,hz1,hy1,hz2,hy2,hI5,hI6,hbe⟩:=hc1
       obtain ⟨z,hz⟩:=get_someI (l:=zs) (i:=i) (by omega)
       obtain ⟨y,hy⟩:=get_someI (l:=ys) (i:=j) (by omega)
       obtain ⟨x0,f0,_,_⟩:=hI5.at_ hz
       have hzb:=hz2 z (List.mem_of_getElem? hz)
       have hyb:=hy2 y (List.mem_of_getElem? hy)
       obtain ⟨hI5',_⟩:=hI5.set_ (k:=i) (z:=z+1) (by omega) (by omega) (by omega)
       have hI6':=hI6.others (Others.of_set (g:=g5) (i:=i) (v:= .int .i64 (z+1)) (w:=w1)) (fun b hb e=>by simp [Value.ownBlock] at hb;injection e with e;omega)
       have gb5:=hI5.base
       have gb6:=hI6.base
       have hbe':=hbe.setCell (p:=⟨g5,i,none⟩) gb5 (.int .i64 (z+1))
       clear hI5 hI6 hbe
       have hzb1:=hzb.1
       have hzb2:=hzb.2
       have hyb1:=hyb.1
       have hyb2:=hyb.2
       have hz3:∀x∈zs.set i (z+1),0≤x∧x≤8 * (i:Int)+((j+1:Nat):Int):=fun x hx=>by
        rcases List.mem_or_eq_of_mem_set hx with hx | rfl
        ·have:=hz2 x hx;omega
        ·omega
       have hy3:∀x∈ys.set j (y+1),0≤x∧x≤8 * (i:Int)+((j+1:Nat):Int):=fun x hx=>by
        rcases List.mem_or_eq_of_mem_set hx with hx | rfl
        ·have:=hy2 x hx;omega
        ·omega
       have HZ3:=Lib.hid hz3
       have HY3:=Lib.hid hy3
       clear hz2 hy2 hz3 hy3 hzb hyb
       go_upto_region 10 with (fail)
       clear x0 f0
       generalize w1.setCell ⟨g5,i,none⟩ (.int .i64 (z+1))=W9 at *
       obtain ⟨x0,f0,_,_⟩:=hI6'.at_ hy
       obtain ⟨hI6'',_⟩:=hI6'.set_ (k:=j) (z:=y+1) (by omega) (by omega) (by omega)
       have hI5'':=hI5'.others (Others.of_set (g:=g6) (i:=j) (v:= .int .i64 (y+1)) (w:=W9)) (fun b hb e=>by simp [Value.ownBlock] at hb;injection e with e;omega)
       have hbe'':=hbe'.setCell (p:=⟨g6,j,none⟩) gb6 (.int .i64 (y+1))
       clear hI5' hI6' hbe'
       go_wp2
       go_roundw
       case rel=>exact ⟨j+1,by omega,by go_num,_,_,by rw [List.length_set];exact hz1,by rw [List.length_set];exact hy1,HZ3.out,HY3.out,hI5'',hI6'',hbe''⟩
       case measure=>simp [intOf];omega
     ·obtain rfl:n=j:=by omega
      have hc1:CntAt w n g5 g6 (8 * ((i+1:Nat):Int)) wr:=hc.mono (by omega)
      clear hc
      go_wp2
      go_roundw
      case rel=>exact ⟨i+1,by omega,by go_num,hc1⟩
      case measure=>simp [intOf];omega
   ·obtain rfl:n=i:=by omega
    have hc1:CntAt w n g5 g6 100 wr:=hc.mono (by omega)
    have hbe:Below w.heap.size w wr:=by obtain ⟨_,_,_,_,_,_,_,_,h⟩:=hc;exact h
    obtain ⟨b0,_,_,_⟩:=(HB.out.later hbe).four
    clear hbe hc
    have hbs:BestAt n rp cp M 0 0 (.int .i64 0) (.int .i64 0) (.bool false) (.int .i64 0):=⟨0,0,0,false,rfl,rfl,rfl,rfl,(fun h=>by cases h),fun _ i' j' _ h=>by omega⟩
    go_wp2
    clear b0
    go_loopw [2,3,4,9,59] (fun s2 s3 s4 s9 x wr=>∃i:Nat,i≤n∧x= .int .i64 i∧BestAt n rp cp M i 0 s2 s3 s4 s9∧CntAt w n g5 g6 100 wr) (fun _ _ _ _ x _=>n - (intOf x).toNat)
    case atStart=>exact ⟨0,by omega,rfl,hbs,hc1⟩
    case round=>
     clear hc1 hbs
     obtain ⟨i,hi,rfl,hbs,hc⟩:=hrel
     rcases Nat.lt_or_ge i n with hil | hil
     ·have hiI:(i:Int) < n:=by omega
      have hbe:Below w.heap.size w wr:=by obtain ⟨_,_,_,_,_,_,_,_,h⟩:=hc;exact h
      obtain ⟨b0,_,_,_⟩:=(HB.out.later hbe).four
      clear hbe
      go_wp2
      clear b0
      go_loopw [2,3,4,9,66] (fun s2 s3 s4 s9 x wr=>∃j:Nat,j≤n∧x= .int .i64 j∧BestAt n rp cp M i j s2 s3 s4 s9∧CntAt w n g5 g6 100 wr) (fun _ _ _ _ x _=>n - (intOf x).toNat)
      case atStart=>exact ⟨0,by omega,rfl,hbs,hc⟩
      case round=>
       clear hc hbs
       obtain ⟨j,hj,rfl,hbs,hc⟩:=hrel
       rcases Nat.lt_or_ge j n with hjl | hjl
       ·have hjI:(j:Int) < n:=by omega
        have hbe:Below w.heap.size w wr:=by obtain ⟨_,_,_,_,_,_,_,_,h⟩:=hc;exact h
        have hE1:=HE.out.below hbe
        have HBS:=Lib.hid hbs
        obtain ⟨r,c,b,ok,rfl,rfl,rfl,rfl,hq1,hq2⟩:=hbs
        have HQ1:=Lib.hid hq1
        have HQ2:=Lib.hid hq2
        clear hbe hq1 hq2
        go_wp2_with fail
        refine (active_any base ge n va vr vc M G D rp cp i j _ hE1 hil hjl).mono ?_
        rintro _ w1 ⟨rfl,hb1⟩
        have hc1:=hc.below hb1
        clear hc hb1 hE1
        cases hact:actB rp cp M i j
        ·have hn1:BestAt n rp cp M i (j+1) (.int .i64 r) (.int .i64 c) (.bool ok) (.int .i64 b):=BestAt.skip HBS.out hact
         have HN1:=Lib.hid hn1
         clear hact hn1
         go_wp2
         go_roundw
         case rel=>exact ⟨j+1,by omega,by go_num,HN1.out,hc1⟩
         case measure=>simp [intOf];omega
        ·have HN0:=Lib.hid (BestAt.skipT HBS.out)
         have HN2:Hid (∀m,BestAt n rp cp M i (j+1) (.int .i64 i) (.int .i64 j) (.bool true) (.int .i64 m)):=Lib.hid fun m=>BestAt.take hil hjl hact
         clear hact
         have HC1:=Lib.hid hc1
         obtain ⟨zs,ys,hz1,hy1,hz2,hy2,hI5,hI6,hbe⟩:=hc1
         obtain ⟨z,hz⟩:=get_someI (l:=zs) (i:=i) (by omega)
         obtain ⟨y,hy⟩:=get_someI (l:=ys) (i:=j) (by omega)
         obtain ⟨x0,_,_,_⟩:=hI5.at_ hz
         obtain ⟨y0,_,_,_⟩:=hI6.at_ hy
         have hzb:=hz2 z (List.mem_of_getElem? hz)
         have hyb:=hy2 y (List.mem_of_getElem? hy)
         obtain ⟨hzb1,hzb2⟩:=hzb
         obtain ⟨hyb1,hyb2⟩:=hyb
         obtain ⟨hm1,hm2⟩:=mul_bd (x:=z - 1) (y:=y - 1) (by omega) (by omega) (by omega) (by omega)
         clear hI5 hI6 hbe hz2 hy2 hz hy
         go_upto_region 21 with (fail)
         have C0:=stab x0
         have C1:=stab y0
         have hS0:=below_drew' w1
         clear x0 y0
         refine region_seq 12 [0,1,2,3,4,5,6,7,8,9,10,11] (by kernel_rfl) (by kernel_rfl) ?_
         repeat ((first | (refine seq_takeP (v:=?_) rfl rfl rfl ?_ ?_;rotate_left;(· (intro _ hSw;go_simp;(try go_bits);(try with_reducible rfl)))) | (refine seq_take (v:=?_) rfl rfl rfl ?_ ?_;rotate_left;(· (intro _ hSw;go_simp;(try go_bits);(try with_reducible rfl)))) | refine seq_skip rfl rfl rfl ?_);(try simp only [Act.put,pu1,pu2,pu3,pu4,pu5,pu6]))
         refine seq_done ?_
         clear C0 C1
         generalize (z - 1) * (y - 1)=mm at *
         cases ok
         ·go_wp2
          go_roundw
          case rel=>exact ⟨j+1,by omega,by go_num,HN2.out _,HC1.out.below (below_drew' _)⟩
          case measure=>simp [intOf];omega
         ·by_cases hmb:mm < b
          ·go_wp2
           go_roundw
           case rel=>exact ⟨j+1,by omega,by go_num,HN2.out _,HC1.out.below (below_drew' _)⟩
           case measure=>simp [intOf];omega
          ·go_wp2
           go_roundw
           case rel=>exact ⟨j+1,by omega,by go_num,HN0.out rfl,HC1.out.below (below_drew' _)⟩
           case measure=>simp [intOf];omega
       ·obtain rfl:n=j:=by omega
        have hn1:=BestAt.row hbs
        clear hbs
        obtain ⟨r,c,b,ok,rfl,rfl,rfl,rfl,hq1,hq2⟩:=hn1
        have HN1:Hid (BestAt n rp cp M (i+1) 0 (.int .i64 r) (.int .i64 c) (.bool ok) (.int .i64 b)):=Lib.hid ⟨r,c,b,ok,rfl,rfl,rfl,rfl,hq1,hq2⟩
        clear hq1 hq2
        go_wp2
        go_roundw
        case rel=>exact ⟨i+1,by omega,by go_num,HN1.out,hc⟩
        case measure=>simp [intOf];omega
     ·obtain rfl:n=i:=by omega
      obtain ⟨r,c,b,ok,rfl,rfl,rfl,rfl,hq1,hq2⟩:=hbs
      have HQ1:=Lib.hid hq1
      have HQ2:=Lib.hid hq2
      have hbe:Below w.heap.size w wr:=by obtain ⟨_,_,_,_,_,_,_,_,h⟩:=hc;exact h
      clear hq1 hq2 hc
      go_wp2
      (try simp only [Exit.inBlock,Exit.then])
      refine bodyPost_ret (results_tmp3 rfl _ _ _) rfl ?_
      exact ⟨r,c,ok,rfl,HQ1.out,fun h i' j' h1 h2=>HQ2.out h i' j' h2 (.inl h1),hbe⟩
theorem own_nils (T:TypeId) (w:World) (n:Nat) (hn:n≤maxLen):(w.alloc (.cells (zvc n) T)).ownsRow w.heap.size T 1 (.slice (some ⟨w.heap.size,0,none⟩) n n) n (List.replicate n (.slice none 0 0)):=by
 have hsz:(zvc n).size=n * 1:=size_madeCells _ _
 refine ⟨by simp,.inr ⟨w.heap.size,n,zvc n,by simp,Nat.le_refl _,heap_alloc_new w _,by simp,hn,by simpa using hsz,?_⟩⟩
 refine List.ext_getElem? fun i=>?_
 rcases Nat.lt_or_ge i n with e | e
 ·have:=zvc_at e
  simp [List.getElem?_take,e,this]
 ·rw [List.getElem?_eq_none (by simp [hsz];omega),List.getElem?_eq_none (by simp;omega)]
theorem make_rows (n:Nat) (hn:n≤1099511627776) (w:World):
 (Instr.makeSlice 118 (.int .i64 (n:Int)) (.int .i64 (n:Int))).run Tryz.prog w= .ok (.slice (some ⟨w.heap.size,0,none⟩) n n) (w.alloc (.cells (zvc n) 23)):=by
 obtain ⟨i0,hi,hz0,hz1,hz2⟩:=info_parts info_rowT
 have hb:(i0.bytes:Int) * (n:Int)≤281474976710656:=by rw [hz2];omega
 have hr:=run_make (P:=Tryz.prog) w 118 23 i0 _ Tryz.underlying118 hi hz0 .i64 .i64 n n (by omega) (by omega) hb (by omega)
 simp only [Int.toNat_natCast,hz1] at hr
 exact hr
def MkR (U:World) (n:Nat) (D:Nat→Prop) (s29 s31 s33 s34 s5:Value) (w:World):Prop:=
 Below U.heap.size U w∧(D 2→∃g,s29= .slice (some ⟨g,0,none⟩) n n∧w.ownsRow U.heap.size 23 1 (.slice (some ⟨g,0,none⟩) n n) n (List.replicate n (.slice none 0 0)))∧
  (D 4→∃g,s31= .slice (some ⟨g,0,none⟩) n n∧g < w.heap.size∧IntsO U.heap.size w (.slice (some ⟨g,0,none⟩) n n) (List.replicate n 0))∧
  (D 6→∃g,s33= .slice (some ⟨g,0,none⟩) n n∧g < w.heap.size∧IntsO U.heap.size w (.slice (some ⟨g,0,none⟩) n n) (List.replicate n 0))∧
  (D 7→(D 2∧D 4∧D 6)∧s34= .agg #[.int .i64 (n:Int),s29,s31,s33])∧(D 8→∃g,s5= .pointer (some ⟨g,0,none⟩)∧U.heap.size≤g∧Bk w g 160 [.int .i64 0,.slice none 0 0,.slice none 0 0,.slice none 0 0])∧(D 4→D 6→s31≠s33)
theorem MkR.later {U w w':World} {n:Nat} {D:Nat→Prop} {s1 s2 s3 s4 s5:Value} (h:MkR U n D s1 s2 s3 s4 s5 w) (hb:Below w.heap.size w w'):MkR U n D s1 s2 s3 s4 s5 w':=by
 obtain ⟨h0,h1,h2,h3,h4,h5,h6⟩:=h
 have hs:=hb.size
 refine ⟨below_then h0 hb h0.size,fun d=>?_,fun d=>?_,fun d=>?_,h4,fun d=>?_,h6⟩
 ·obtain ⟨g,e,k⟩:=h1 d;exact ⟨g,e,own_below k hb⟩
 ·obtain ⟨g,e,k,l⟩:=h2 d;exact ⟨g,e,by omega,l.below hb⟩
 ·obtain ⟨g,e,k,l⟩:=h3 d;exact ⟨g,e,by omega,l.below hb⟩
 ·obtain ⟨g,e,k,l⟩:=h5 d;exact ⟨g,e,k,l.later hb⟩
theorem MkR.set2 {U w:World} {n:Nat} {D:Nat→Prop} {s1 s2 s3 s4 s5:Value} (h:MkR U n D s1 s2 s3 s4 s5 w) (hn:n≤maxLen) (hd:¬D 2):MkR U n (fun k=>D k∨k=2) (.slice (some ⟨w.heap.size,0,none⟩) n n) s2 s3 s4 s5 (w.alloc (.cells (zvc n) 23)):=by
 have hz:=own_nils 23 w n hn
 obtain ⟨h0,h1,h2,h3,h4,h5,h6⟩:=h.later (below_new w (.cells (zvc n) 23))
 exact ⟨h0,fun _=>⟨_,rfl,row_mono hz h.1.size⟩,fun d=>h2 (d.resolve_right (by decide)),fun d=>h3 (d.resolve_right (by decide)),fun d=>absurd (d.resolve_right (by decide)) (fun h7=>hd (h4 h7).1.1),fun d=>h5 (d.resolve_right (by decide)),fun d e=>h6 (d.resolve_right (by decide)) (e.resolve_right (by decide))⟩
theorem MkR.set4 {U w:World} {n:Nat} {D:Nat→Prop} {s1 s2 s3 s4 s5:Value} (h:MkR U n D s1 s2 s3 s4 s5 w) (hn:n≤maxLen) (hd:¬D 4):MkR U n (fun k=>D k∨k=4) s1 (.slice (some ⟨w.heap.size,0,none⟩) n n) s3 s4 s5 (w.alloc (.cells (zic n) 3)):=by
 have hz:=IntsO.zeros w n hn
 obtain ⟨h0,h1,h2,h3,h4,h5,h6⟩:=h.later (below_new w (.cells (zic n) 3))
 exact ⟨h0,fun d=>h1 (d.resolve_right (by decide)),fun _=>⟨_,rfl,by simp,hz.monoB h.1.size⟩,fun d=>h3 (d.resolve_right (by decide)),fun d=>absurd (d.resolve_right (by decide)) fun h7=>hd (h4 h7).1.2.1,fun d=>h5 (d.resolve_right (by decide)),fun _ e he=>by
  obtain ⟨g,e1,e2,_⟩:=h.2.2.2.1 (e.resolve_right (by decide))
  rw [e1] at he
  injection he with he
  injection he with he
  injection he with he
  omega⟩
theorem MkR.set6 {U w:World} {n:Nat} {D:Nat→Prop} {s1 s2 s3 s4 s5:Value} (h:MkR U n D s1 s2 s3 s4 s5 w) (hn:n≤maxLen) (hd:¬D 6):MkR U n (fun k=>D k∨k=6) s1 s2 (.slice (some ⟨w.heap.size,0,none⟩) n n) s4 s5 (w.alloc (.cells (zic n) 3)):=by
 have hz:=IntsO.zeros w n hn
 obtain ⟨h0,h1,h2,h3,h4,h5,h6⟩:=h.later (below_new w (.cells (zic n) 3))
 exact ⟨h0,fun d=>h1 (d.resolve_right (by decide)),fun d=>h2 (d.resolve_right (by decide)),fun _=>⟨_,rfl,by simp,hz.monoB h.1.size⟩,fun d=>absurd (d.resolve_right (by decide)) fun h7=>hd (h4 h7).1.2.2,fun d=>h5 (d.resolve_right (by decide)),fun e _ he=>by
  obtain ⟨g,e1,e2,_⟩:=h.2.2.1 (e.resolve_right (by decide))
  rw [e1] at he
  injection he with he
  injection he with he
  injection he with he
  omega⟩
theorem MkR.set8 {U w:World} {n:Nat} {D:Nat→Prop} {s1 s2 s3 s4 s5:Value} (h:MkR U n D s1 s2 s3 s4 s5 w):MkR U n (fun k=>D k∨k=8) s1 s2 s3 s4 (.pointer (some ⟨w.heap.size,0,none⟩)) (w.alloc (.cells #[.int .i64 0,.slice none 0 0,.slice none 0 0,.slice none 0 0] 160)):=by
 have hz:=Bk.new w 160 [.int .i64 0,.slice none 0 0,.slice none 0 0,.slice none 0 0]
 obtain ⟨h0,h1,h2,h3,h4,h5,h6⟩:=h.later (below_new w (.cells #[.int .i64 0,.slice none 0 0,.slice none 0 0,.slice none 0 0] 160))
 exact ⟨h0,fun d=>h1 (d.resolve_right (by decide)),fun d=>h2 (d.resolve_right (by decide)),fun d=>h3 (d.resolve_right (by decide)),fun d=>by
  obtain ⟨⟨a,b,c⟩,e⟩:=h4 (d.resolve_right (by decide))
  exact ⟨⟨.inl a,.inl b,.inl c⟩,e⟩,fun _=>⟨_,rfl,h.1.size,hz⟩,fun d e=>h6 (d.resolve_right (by decide)) (e.resolve_right (by decide))⟩
theorem MkR.set7 {U w:World} {n:Nat} {D:Nat→Prop} {s1 s2 s3 s4 s5:Value} (h:MkR U n D s1 s2 s3 s4 s5 w) (d2:D 2) (d4:D 4) (d6:D 6):MkR U n (fun k=>D k∨k=7) s1 s2 s3 (.agg #[.int .i64 (n:Int),s1,s2,s3]) s5 w:=by
 obtain ⟨h0,h1,h2,h3,h4,h5,h6⟩:=h
 exact ⟨h0,fun d=>h1 (d.resolve_right (by decide)),fun d=>h2 (d.resolve_right (by decide)),fun d=>h3 (d.resolve_right (by decide)),fun _=>⟨⟨.inl d2,.inl d4,.inl d6⟩,rfl⟩,fun d=>h5 (d.resolve_right (by decide)),fun d e=>h6 (d.resolve_right (by decide)) (e.resolve_right (by decide))⟩
theorem Bk.but4 {w:World} {g:Nat} {t:TypeId} {a b c d:Value} (h:Bk w g t [a,b,c,d]) (x y z u:Value):KeepBut t w ((((w.setCell ⟨g,0,none⟩ x).setCell ⟨g,1,none⟩ y).setCell ⟨g,2,none⟩ z).setCell ⟨g,3,none⟩ u):=
 (((KeepBut.setCell h 0 x).trans (KeepBut.setCell (h.set_ 0 x) 1 y)).trans (KeepBut.setCell ((h.set_ 0 x).set_ 1 y) 2 z)).trans (KeepBut.setCell (((h.set_ 0 x).set_ 1 y).set_ 2 z) 3 u)
def MadeEl (U:World) (n:Nat) (s5:Value) (wx:World):Prop:=
 ∃ge ga gr gc,s5= .pointer (some ⟨ge,0,none⟩)∧gr≠gc∧Bk wx ge 160 [.int .i64 (n:Int),.slice (some ⟨ga,0,none⟩) n n,.slice (some ⟨gr,0,none⟩) n n,.slice (some ⟨gc,0,none⟩) n n]∧
  wx.ownsRow U.heap.size 23 1 (.slice (some ⟨ga,0,none⟩) n n) n (List.replicate n (.slice none 0 0))∧IntsO U.heap.size wx (.slice (some ⟨gr,0,none⟩) n n) (List.replicate n 0)∧IntsO U.heap.size wx (.slice (some ⟨gc,0,none⟩) n n) (List.replicate n 0)∧Below U.heap.size U wx∧U.heap.size≤ge
namespace Pl
def preR (n i:Nat) (G D:Nat→Nat):List Value:=(List.range n).map fun r=>if r < i then rowV n G D r else .slice none 0 0
theorem preR_zero {n:Nat} {G D:Nat→Nat}:preR n 0 G D=List.replicate n (.slice none 0 0):=by
 refine List.ext_getElem? fun r=>?_
 rcases Nat.lt_or_ge r n with e | e
 ·simp [preR,e]
 ·rw [List.getElem?_eq_none (by simp [preR];exact e),List.getElem?_eq_none (by simp;exact e)]
theorem preR_length {n i:Nat} {G D:Nat→Nat}:(preR n i G D).length=n:=by simp [preR]
theorem preR_all {n:Nat} {G D:Nat→Nat}:preR n n G D=rowsL n n G D:=by
 refine List.ext_getElem? fun r=>?_
 rcases Nat.lt_or_ge r n with e | e
 ·rw [rowsL_get e];simp [preR,e]
 ·rw [List.getElem?_eq_none (by rw [preR_length];exact e),List.getElem?_eq_none (by rw [rowsL_length];exact e)]
theorem preR_get {n i:Nat} {G D:Nat→Nat} (h:i < n):(preR n i G D)[i]? =some (.slice none 0 0):=by simp [preR,h]
theorem preR_set {n i g d:Nat} {G D:Nat→Nat} (h:i < n):(preR n i G D).set i (.slice (some ⟨g,0,none⟩) n d)=preR n (i+1) (putN G i g) (putN D i d):=by
 refine List.ext_getElem? fun r=>?_
 rcases Nat.lt_or_ge r n with e | e
 ·rw [List.getElem?_set]
  by_cases g:i=r
  ·subst g
   rw [if_pos rfl,if_pos (by rw [preR_length];exact e)]
   simp [preR,e,rowV,putN]
  ·rw [if_neg g]
   by_cases e2:r < i
   ·simp [preR,e,e2,show r < i+1 by omega,rowV,putN,show r≠i by omega]
   ·simp [preR,e,e2,show ¬r < i+1 by omega]
 ·rw [List.getElem?_eq_none (by rw [List.length_set,preR_length];exact e),List.getElem?_eq_none (by rw [preR_length];exact e)]
def preI (n i:Nat):List Int:=(List.range n).map fun s=>if s < i then -1 else 0
theorem preI_length {n i:Nat}:(preI n i).length=n:=by simp [preI]
theorem preI_get {n i:Nat} (h:i < n):(preI n i)[i]? =some 0:=by simp [preI,h]
theorem preI_zero {n:Nat}:preI n 0=List.replicate n 0:=by
 refine List.ext_getElem? fun r=>?_
 rcases Nat.lt_or_ge r n with e | e
 ·simp [preI,e]
 ·rw [List.getElem?_eq_none (by rw [preI_length];exact e),List.getElem?_eq_none (by simp;exact e)]
theorem preI_set {n i:Nat} (h:i < n):(preI n i).set i (-1)=preI n (i+1):=by
 refine List.ext_getElem? fun r=>?_
 rcases Nat.lt_or_ge r n with e | e
 ·rw [List.getElem?_set]
  by_cases g:i=r
  ·subst g;rw [if_pos rfl,if_pos (by rw [preI_length];exact e)];simp [preI,e]
  ·rw [if_neg g]
   by_cases e2:r < i
   ·simp [preI,e,e2,show r < i+1 by omega]
   ·simp [preI,e,e2,show ¬r < i+1 by omega]
 ·rw [List.getElem?_eq_none (by rw [List.length_set,preI_length];exact e),List.getElem?_eq_none (by rw [preI_length];exact e)]
theorem preI_all {n:Nat}:preI n n=List.replicate n (-1):=by
 refine List.ext_getElem? fun r=>?_
 rcases Nat.lt_or_ge r n with e | e
 ·simp [preI,e]
 ·rw [List.getElem?_eq_none (by rw [preI_length];exact e),List.getElem?_eq_none (by simp;exact e)]
theorem zeros_rfL {n:Nat}:List.replicate n zeroF=rfL n fun _=>zeroF:=by
 refine List.ext_getElem? fun i=>?_
 rcases Nat.lt_or_ge i n with e | e
 ·rw [rfL_get e];simp [e]
 ·rw [List.getElem?_eq_none (by simp;exact e),List.getElem?_eq_none (by rw [rfL_length];exact e)]
end Pl
def PreAt (U:World) (ge ga gr gc n i:Nat) (wr:World):Prop:=
 ∃G D:Nat→Nat,Bk wr ge 160 [.int .i64 (n:Int),.slice (some ⟨ga,0,none⟩) n n,.slice (some ⟨gr,0,none⟩) n n,.slice (some ⟨gc,0,none⟩) n n]∧wr.ownsRow U.heap.size 23 1 (.slice (some ⟨ga,0,none⟩) n n) n (preR n i G D)∧
  (∀r,r < i→FrsO U.heap.size wr (rowV n G D r) (rfL n fun _=>zeroF))∧(∀r s,r < i→s < i→G r=G s→r=s)∧IntsO U.heap.size wr (.slice (some ⟨gr,0,none⟩) n n) (preI n i)∧IntsO U.heap.size wr (.slice (some ⟨gc,0,none⟩) n n) (preI n i)∧Below U.heap.size U wr
end Go.Proofs.YtncmobkhenfhpaaGreat
