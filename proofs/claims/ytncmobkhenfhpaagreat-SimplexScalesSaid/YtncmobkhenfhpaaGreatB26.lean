/- Contracts and plain facts that the claim is built on, joined out of smaller texts; no condition. -/
import Derived.Test.YtncmobkhenfhpaaGreatB24
set_option linter.unusedVariables false
set_option linter.unusedSimpArgs false
set_option maxRecDepth 100000
set_option maxHeartbeats 40000000
namespace Go.Proofs.YtncmobkhenfhpaaGreat
open Go.RowKit
open Pl
attribute [local go_sem ↓] Go.wp_at_zero Go.wp_at_succ
theorem seq_append_one {ops:Array Oper} {Q:Exit→Act→World→Prop} {S:World→Prop} {m:Nat} {i:Nat} {is:List Nat} {o:Oper} {a:Act} (hoi:ops[i]? =some o) (hf:floatI ops m i=false) (hgd:o.guard=none) (hl0:m≤i) (s x:Operand) (t:TypeId)
 (ho:o.op= .call { callee:= .builtin .append,args:=#[s,x],argTypes:=#[t,t] })
 (e:TypeId) (inf:TypeInfo) (z:Value) (size bytes:Nat) (ht:Tryz.prog.underlying t=some (.slice e)) (hi:Tryz.prog.info? e=some inf) (hz:inf.zero=some z)
 (hsize:inf.size=size) (hby:inf.bytes=bytes) (hzs:z.cells.size=size) (hsz:0 < size) (W:World) (base:Nat) (v:Value) (n:Nat) (xs news:List Value) (hs:a.eval s=v) (hown:W.ownsRow base e size v n xs)
 (hx:a.eval x= .slice (some ⟨W.heap.size,0,none⟩) 1 1) (hl:news.length=size) (h1:∀u∈news,u.oneCell'=true) (hn:n+1≤maxLen) (hb:(n+1) * bytes≤140737488355328) (hbase:base≤W.heap.size)
 (h:∀v' w',w'.ownsRow base e size v' (n+1) (xs++news)→KeepBut e W w'→Below base W w'→wpSeq Tryz.prog ops Q S m is (a.put o.dst v') w'):
 wpSeq Tryz.prog ops Q S m (i::is) a (W.alloc (.cells news.toArray e)):=by
 refine seq_step hoi hf fun K hK=>?_
 obtain ⟨v',w',hr,h2,h3,h4⟩:=run_append_one o.type t e inf z size bytes ht hi hz hsize hby hzs hsz W base v n xs news hown hl h1 hn hb hbase
 rw [if_pos (by simp [Region.wanted,hgd])]
 unfold Oper.wp execOp
 simp only [ho,resolve,invoke,builtin,Sem.run_bind,Sem.run_pure,Result.andThen_ok,List.map_toArray,List.map_cons,List.map_nil,hs,hx,hr]
 exact hK _ _ (.inl hl0) (h v' w' h2 h3 h4)
theorem seq_append_frac {ops:Array Oper} {Q:Exit→Act→World→Prop} {S:World→Prop} {m:Nat} {i:Nat} {is:List Nat} {o:Oper} {a:Act} (hoi:ops[i]? =some o) (hfl:floatI ops m i=false) (hgd:o.guard=none) (hl0:m≤i) (s x:Operand)
 (ho:o.op= .call { callee:= .builtin .append,args:=#[s,x],argTypes:=#[23,23] })
 (W:World) (base:Nat) (v:Value) (fs:List RF) (hs:a.eval s=v) (hown:FrsO base W v fs) (b b':Bool) (A A':Option Addr) (n c n' c':Nat) (f:RF) (hf:FracM W (.agg #[.bool b,.slice A n c,.bool b',.slice A' n' c']) f)
 (hx:a.eval x= .slice (some ⟨W.heap.size,0,none⟩) 1 1) (hn:fs.length+1≤1099511627776) (hbase:base≤W.heap.size)
 (h:∀v' w',FrsO base w' v' (fs++[f])→KeepBut 48 W w'→Below base W w'→wpSeq Tryz.prog ops Q S m is (a.put o.dst v') w'):
 wpSeq Tryz.prog ops Q S m (i::is) a (W.alloc (.cells #[.bool b,.slice A n c,.bool b',.slice A' n' c'] 48)):=by
 obtain ⟨cs,h1,h2⟩:=hown
 obtain ⟨i0,hi,hz0,hz1,hz2⟩:=info_parts info_frac
 refine seq_append_one hoi hfl hgd hl0 s x 23 ho 48 i0 _ 4 64 Tryz.underlying23 hi hz0 hz1 hz2 rfl (by decide) W base v fs.length cs [.bool b,.slice A n c,.bool b',.slice A' n' c'] hs h1 hx rfl frac_oneCell (by unfold maxLen;omega) (by omega) hbase ?_
 intro v' w' g1 g2 g3
 refine h v' w' ⟨_,by simpa using g1,?_⟩ g2 g3
 have hk:=g2.keep (by decide)
 exact (h2.keep hk).snoc (hf.keep hk)
def VecO (base:Nat) (w:World) (v:Value) (es:List En):Prop:=∃cs,w.ownsRow base 87 5 v es.length cs∧EnC w cs es
theorem VecO.vec {base:Nat} {w:World} {v:Value} {es:List En} (h:VecO base w v es):VecM w v es:=by
 obtain ⟨cs,h1,h2⟩:=h
 exact ⟨cs,RowM.of_own h1,h2⟩
theorem VecO.below {base:Nat} {w w':World} {v:Value} {es:List En} (h:VecO base w v es) (hb:Below w.heap.size w w'):VecO base w' v es:=by
 obtain ⟨cs,h1,h2⟩:=h
 exact ⟨cs,own_below h1 hb,h2.keep (Keep.of_below hb)⟩
theorem VecO.nil (base:Nat) (w:World):VecO base w (.slice none 0 0) []:=⟨[],World.ownsRow_nil _ _ _ _,EnC.nil _⟩
theorem info_entry:(Tryz.prog.info? 87).map (fun i=>(i.zero,i.size,i.bytes))=some (some (.agg #[.int .i64 0,.bool false,.slice none 0 0,.bool false,.slice none 0 0]),5,72):=by kernel_rfl
theorem entry_oneCell {k:Int} {x y:Bool} {A A':Option Addr} {n c n' c':Nat}:∀u∈[Value.int .i64 k,.bool x,.slice A n c,.bool y,.slice A' n' c'],u.oneCell'=true:=by
 intro u hu
 simp at hu
 rcases hu with rfl | rfl | rfl | rfl | rfl <;> rfl
theorem wpList_append_entry {ops:Array Oper} {rest:List Oper} {o:Oper} {a:Act} {Q:Exit→Act→World→Prop} (hgd:o.guard=none) (s x:Operand)
 (ho:o.op= .call { callee:= .builtin .append,args:=#[s,x],argTypes:=#[72,72] })
 (W:World) (base:Nat) (v:Value) (es:List En) (hs:a.eval s=v) (hown:VecO base W v es) (b b':Bool) (A A':Option Addr) (n c n' c':Nat) (k:Int) (f:RF) (hf:FracM W (.agg #[.bool b,.slice A n c,.bool b',.slice A' n' c']) f)
 (hx:a.eval x= .slice (some ⟨W.heap.size,0,none⟩) 1 1) (hn:es.length+1≤1099511627776) (hbase:base≤W.heap.size)
 (h:∀v' w',VecO base w' v' (es++[⟨k,f⟩])→KeepBut 87 W w'→Below base W w'→wpList Tryz.prog ops Q rest (a.put o.dst v') w'):
 wpList Tryz.prog ops Q (o::rest) a (W.alloc (.cells #[.int .i64 k,.bool b,.slice A n c,.bool b',.slice A' n' c'] 87)):=by
 obtain ⟨cs,h1,h2⟩:=hown
 obtain ⟨i0,hi,hz0,hz1,hz2⟩:=info_parts info_entry
 refine wpList_append_one hgd s x 72 ho 87 i0 _ 5 72 Tryz.underlying72 hi hz0 hz1 hz2 rfl (by decide) W base v es.length cs [.int .i64 k,.bool b,.slice A n c,.bool b',.slice A' n' c'] hs h1 hx rfl entry_oneCell (by unfold maxLen;omega) (by omega) hbase ?_
 intro v' w' g1 g2 g3
 refine h v' w' ⟨_,by simpa using g1,?_⟩ g2 g3
 have hk:=g2.keep (by decide)
 exact (h2.keep hk).snoc (e:=⟨k,f⟩) (hf.keep hk)
def VecsO (base:Nat) (w:World) (v:Value) (cols:List (List En)):Prop:=∃cs,w.ownsRow base 72 1 v cols.length cs∧∀(k:Nat) (c:List En),cols[k]? =some c→∃u,cs[k]? =some u∧VecM w u c
theorem VecsO.vecs {base:Nat} {w:World} {v:Value} {cols:List (List En)} (h:VecsO base w v cols):VecsM w v cols:=by
 obtain ⟨cs,h1,h2⟩:=h
 exact ⟨cs,RowM.of_own h1,h2⟩
theorem VecsO.below {base:Nat} {w w':World} {v:Value} {cols:List (List En)} (h:VecsO base w v cols) (hb:Below w.heap.size w w'):VecsO base w' v cols:=by
 obtain ⟨cs,h1,h2⟩:=h
 exact ⟨cs,own_below h1 hb,fun k c hc=>by obtain ⟨u,g1,g2⟩:=h2 k c hc;exact ⟨u,g1,g2.below hb⟩⟩
theorem VecsO.but {base:Nat} {w w':World} {e:TypeId} {v:Value} {cols:List (List En)} (h:VecsO base w v cols) (hk:KeepBut e w w') (h0:72≠e) (h1:87≠e) (h2:123≠e):VecsO base w' v cols:=by
 obtain ⟨cs,g1,g2⟩:=h
 exact ⟨cs,hk.own g1 h0,fun k c hc=>by obtain ⟨u,q1,q2⟩:=g2 k c hc;exact ⟨u,q1,q2.but hk h1 h2⟩⟩
theorem VecsM.but {w w':World} {e:TypeId} {v:Value} {cols:List (List En)} (h:VecsM w v cols) (hk:KeepBut e w w') (h0:72≠e) (h1:87≠e) (h2:123≠e):VecsM w' v cols:=by
 obtain ⟨cs,g1,g2⟩:=h
 exact ⟨cs,hk.row g1 h0,fun k c hc=>by obtain ⟨u,q1,q2⟩:=g2 k c hc;exact ⟨u,q1,q2.but hk h1 h2⟩⟩
theorem VecsO.nil (base:Nat) (w:World):VecsO base w (.slice none 0 0) []:=⟨[],World.ownsRow_nil _ _ _ _,fun k c h=>by simp at h⟩
theorem info_vector:(Tryz.prog.info? 72).map (fun i=>(i.zero,i.size,i.bytes))=some (some (.slice none 0 0),1,24):=by kernel_rfl
theorem seq_append_vec {ops:Array Oper} {Q:Exit→Act→World→Prop} {S:World→Prop} {m:Nat} {i:Nat} {is:List Nat} {o:Oper} {a:Act} (hoi:ops[i]? =some o) (hfl:floatI ops m i=false) (hgd:o.guard=none) (hl0:m≤i) (s x:Operand)
 (ho:o.op= .call { callee:= .builtin .append,args:=#[s,x],argTypes:=#[24,24] })
 (W:World) (base:Nat) (v:Value) (cols:List (List En)) (hs:a.eval s=v) (hown:VecsO base W v cols) (A:Option Addr) (n c:Nat) (es:List En) (hf:VecM W (.slice A n c) es)
 (hx:a.eval x= .slice (some ⟨W.heap.size,0,none⟩) 1 1) (hn:cols.length+1≤1099511627776) (hbase:base≤W.heap.size)
 (h:∀v' w',VecsO base w' v' (cols++[es])→KeepBut 72 W w'→Below base W w'→wpSeq Tryz.prog ops Q S m is (a.put o.dst v') w'):
 wpSeq Tryz.prog ops Q S m (i::is) a (W.alloc (.cells #[.slice A n c] 72)):=by
 obtain ⟨cs,h1,h2⟩:=hown
 obtain ⟨i0,hi,hz0,hz1,hz2⟩:=info_parts info_vector
 refine seq_append_one hoi hfl hgd hl0 s x 24 ho 72 i0 _ 1 24 Tryz.underlying24 hi hz0 hz1 hz2 rfl (by decide) W base v cols.length cs [.slice A n c] hs h1 hx rfl (fun u hu=>by simp at hu;subst hu;rfl) (by unfold maxLen;omega) (by omega) hbase ?_
 intro v' w' g1 g2 g3
 refine h v' w' ⟨_,by simpa using g1,fun k d hd=>?_⟩ g2 g3
 have hlen:cs.length=cols.length:=by simpa using h1.1
 rcases Nat.lt_or_ge k cols.length with hk | hk
 ·rw [List.getElem?_append_left hk] at hd
  obtain ⟨u,q1,q2⟩:=h2 k d hd
  exact ⟨u,by rw [List.getElem?_append_left (by omega)];exact q1,q2.but g2 (by decide) (by decide)⟩
 ·rw [List.getElem?_append_right hk] at hd
  have hk0:k - cols.length=0:=by
   rcases Nat.eq_zero_or_pos (k - cols.length) with e | e
   ·exact e
   ·rw [List.getElem?_eq_none (by simp;omega)] at hd;cases hd
  rw [hk0] at hd
  simp at hd
  subst hd
  refine ⟨.slice A n c,?_,hf.but g2 (by decide) (by decide)⟩
  rw [List.getElem?_append_right (by omega),show k - cs.length=0 by omega];rfl
theorem KeepBut.of_below {e:TypeId} {w w':World} (hb:Below w.heap.size w w'):KeepBut e w w':=fun b _ _ _ _ h=>(hb.block b (lt_heap h)).trans h
theorem KeepBut.then {e:TypeId} {w W w':World} (h:KeepBut e w W) (hb:Below w.heap.size W w'):KeepBut e w w':=fun b cs t fz ht hc=>(hb.block b (lt_heap hc)).trans (h b cs t fz ht hc)
theorem KeepBut.refl (e:TypeId) (w:World):KeepBut e w w:=fun _ _ _ _ _ h=>h
namespace Pl
theorem Inc_snoc {es:List En} {p:Option Int} {e:En} (h:Inc p es) (hp:es=[]→leP p e.idx=false) (hlt:∀(k:Nat) (d:En),es[k]? =some d→d.idx < e.idx):Inc p (es++[e]):=by
 induction es generalizing p with
 | nil=>exact ⟨hp rfl,trivial⟩
 | cons d es ih=>
  refine ⟨h.1,ih h.2 (fun _=>?_) (fun k c hc=>hlt (k+1) c (by simpa using hc))⟩
  have:=hlt 0 d rfl
  simp [leP];omega
def ColOK (m:Nat) (es:List En):Prop:=Inc none es∧es.length≤m∧∀(k:Nat) (e:En),es[k]? =some e→0≤e.idx∧e.idx < m∧e.f.q≠0∧e.f.Rs 1
theorem ColOK.nil:ColOK 0 []:=⟨trivial,Nat.le_refl _,fun k e h=>by simp at h⟩
theorem ColOK.next {m:Nat} {es:List En} (h:ColOK m es):ColOK (m+1) es:=⟨h.1,by have:=h.2.1;omega,fun k e he=>by have:=h.2.2 k e he;exact ⟨this.1,by omega,this.2.2⟩⟩
theorem ColOK.snoc {m:Nat} {es:List En} (h:ColOK m es) {z:Int} (h0:z≠0) (h1: -4294967296 < z) (h2:z < 4294967296):ColOK (m+1) (es++[⟨(m:Int),canF (z:Rat)⟩]):=by
 refine ⟨Inc_snoc h.1 (fun _=>rfl) (fun k d hd=>(h.2.2 k d hd).2.1),by simp;exact h.2.1,fun k e he=>?_⟩
 rcases Nat.lt_or_ge k es.length with hk | hk
 ·rw [List.getElem?_append_left hk] at he
  have:=h.2.2 k e he
  exact ⟨this.1,by omega,this.2.2⟩
 ·rw [List.getElem?_append_right hk] at he
  have hk0:k - es.length=0:=by
   rcases Nat.eq_zero_or_pos (k - es.length) with e | e
   ·exact e
   ·rw [List.getElem?_eq_none (by simp;omega)] at he;cases he
  rw [hk0] at he
  simp at he
  subst he
  refine ⟨by simp only;omega,by simp only;omega,?_,(Sz_int h1 h2).rs⟩
  simp only [canF_q]
  exact fun e=>h0 (by simpa using congrArg Rat.num e)
theorem vErr_of {n:Int} {es:List En} {p:Option Int} (h:Inc p es) (hr:∀(k:Nat) (e:En),es[k]? =some e→0≤e.idx∧e.idx < n∧e.f.q≠0):vErr n es p=0:=by
 induction es generalizing p with
 | nil=>rfl
 | cons d es ih=>
  have:=hr 0 d rfl
  rw [vErr,if_neg (by omega),if_neg (by rw [h.1];simp),if_neg this.2.2]
  exact ih h.2 fun k e he=>hr (k+1) e (by simpa using he)
theorem ColOK.err {m:Nat} {es:List En} (h:ColOK m es) (hm:m≤4096):vecErr es m=0:=by
 unfold vecErr
 rw [if_neg (by omega)]
 exact vErr_of h.1 fun k e he=>by have:=h.2.2 k e he;exact ⟨this.1,this.2.1,this.2.2.1⟩
end Pl
def ColPost (m:Nat) (w:World) (e:Ending) (w':World):Prop:=∃v' es,e= .returned v'∧VecO w.heap.size w' v' es∧ColOK m es∧Below w.heap.size w w'
theorem column_own (v:Value) (zs:List Int) (t m:Nat) (w:World) (h:IntsM w v zs) (ht:t≤1000000) (hm:m≤1000):
 Calls Tryz.prog 52 #[v,.int .i64 (t:Int),.int .i64 (m:Int)] w (ColPost m w):=by
 obtain ⟨a,cap,rfl,hc1,hc2⟩:=h.shape
 generalize hn:zs.length=n at *
 clear hn
 go_enter Tryz.func52,Tryz.ntmps52
 go_wp2
 go_loopw [7,8] (fun s i wr=>∃(k:Nat) (es:List En),k≤m∧i= .int .i64 k∧VecO w.heap.size wr s es∧ColOK k es∧Below w.heap.size w wr) (fun _ i _=>m - (intOf i).toNat)
 case atStart=>exact ⟨0,[],by omega,rfl,VecO.nil _ _,ColOK.nil,Below.refl _ _⟩
 case round=>
  obtain ⟨k,es,hk,rfl,hown,hcol,hbe⟩:=hrel
  have HC:=Lib.hid hcol
  clear hcol
  rcases Nat.lt_or_ge k m with hkl | hkl
  ·go_wp2_with fail
   refine (at_any _ zs (t+k) _ (h.below hbe) (by omega)).mono ?_
   rintro _ w1 ⟨z,rfl,z0,z1,hb1⟩
   have hown1:=hown.below hb1
   have hbe1:=below_then hbe hb1 hbe.size
   clear hown hbe hb1
   by_cases hz:z % 6=2
   ·have hz':(z % 6 - 2 !=0)=false:=by simp;omega
    clear hz
    go_wp2
    go_roundw
    case rel=>exact ⟨k+1,es,by omega,by go_num,hown1,HC.out.next,hbe1⟩
    case measure=>simp [intOf];omega
   ·have hz':(z % 6 - 2 !=0)=true:=by simp;omega
    have HZ:Hid (z % 6 - 2≠0):=Lib.hid (by omega)
    have r1: -2≤z % 6 - 2:=by omega
    have r2:z % 6 - 2≤3:=by omega
    clear hz
    go_wp2_with fail
    refine (at_any _ zs (t+k) _ (h.below hbe1) (by omega)).mono ?_
    rintro _ w2 ⟨z',rfl,_,_,hb2⟩
    have hown2:=hown1.below hb2
    have hbe2:=below_then hbe1 hb2 hbe1.size
    clear hown1 hbe1 hb2
    rcases Int.lt_or_le z' 60000 with hlt | hlt
    ·go_wp2_with fail
     refine (rint_own (z % 6 - 2) _ (by omega) (by omega)).mono ?_
     rintro _ w3 ⟨v3,rfl,e3,hb3⟩
     have hown3:=hown2.below hb3
     have hbe3:=below_then hbe2 hb3 hbe2.size
     obtain ⟨B,l,d,B',l',d',rfl,_,_⟩:=id e3.frac
     have HF:=Lib.hid e3.frac
     have HO:=Lib.hid hown3
     have hlen:es.length+1≤1099511627776:=by have:=HC.out.2.1;omega
     have hbs:=hbe3.size
     have HS:=Lib.hid (HC.out.snoc (z:=z % 6 - 2) HZ.out (by omega) (by omega))
     clear hown2 hown3 hbe2 hb3 e3
     generalize hQ:canF ((z % 6 - 2:Int):Rat)=Q at *
     have HQ:=Lib.hid hQ
     clear hQ
     go_wp2_with (at_builtin;refine wpList_append_entry rfl (.tmp 32) (.tmp 37) rfl w3 w.heap.size u7 es rfl HO.out _ _ B B' l d l' d' (k:Int) Q HF.out rfl hlen hbs ?_)
     intro v' w4 hown4 hk4 hb4
     go_wp2
     go_roundw
     case rel=>exact ⟨k+1,es++[⟨(k:Int),Q⟩],by omega,by go_num,hown4,HS.out,hbe3.trans hb4⟩
     case measure=>simp [intOf];omega
    ·go_wp2
     go_roundw
     case rel=>exact ⟨k+1,es,by omega,by go_num,hown2,HC.out.next,hbe2⟩
     case measure=>simp [intOf];omega
  ·obtain rfl:k=m:=by omega
   go_wp2
   go_ret
   exact ⟨_,es,rfl,hown,HC.out,hbe⟩
theorem Bk.threeF {w:World} {g:Nat} {t:TypeId} {cs:List Value} (h:Bk w g t cs):w.frozen? ⟨g,0,none⟩=false∧w.frozen? ⟨g,1,none⟩=false∧w.frozen? ⟨g,2,none⟩=false:=⟨h.frozen 0,h.frozen 1,h.frozen 2⟩
theorem FrsO.own_lt {base:Nat} {w:World} {v:Value} {fs:List RF} (h:FrsO base w v fs):∀g,v.ownBlock=some g→g < w.heap.size:=by
 obtain ⟨cs,h1,h2⟩:=h
 intro g hg
 rcases h1.2 with ⟨rfl,_⟩ | ⟨g',cap,cur,rfl,_,hgg,_⟩
 ·simp [Value.ownBlock] at hg
 ·simp [Value.ownBlock] at hg
  subst hg
  exact lt_heap hgg
theorem FrsO.slice {base:Nat} {w:World} {v:Value} {fs:List RF} (h:FrsO base w v fs):∃A c,v= .slice A fs.length c:=by
 obtain ⟨A,c,e,_,_⟩:=h.frs.shape;exact ⟨A,c,e⟩
theorem VecsO.slice {base:Nat} {w:World} {v:Value} {fs:List (List En)} (h:VecsO base w v fs):∃A c,v= .slice A fs.length c:=by
 obtain ⟨A,c,e,_,_⟩:=h.vecs.shape;exact ⟨A,c,e⟩
theorem FrsO.sliceN {base:Nat} {w:World} {v:Value} {fs:List RF} (h:FrsO base w v fs):∃A n c,v= .slice A n c:=by
 obtain ⟨A,c,e⟩:=h.slice;exact ⟨A,_,c,e⟩
theorem VecsO.sliceN {base:Nat} {w:World} {v:Value} {fs:List (List En)} (h:VecsO base w v fs):∃A n c,v= .slice A n c:=by
 obtain ⟨A,c,e⟩:=h.slice;exact ⟨A,_,c,e⟩
def LpO (base:Nat) (w:World) (v:Value) (p:LPd):Prop:=
 ∃s0 s1 s2 b1,v= .agg #[s0,s1,s2]∧FrsO base w s0 p.cost∧VecsM w s1 p.cols∧FrsO b1 w s2 p.right∧base≤b1∧∀g,s0.ownBlock=some g→g < b1
theorem LpO.lp {base:Nat} {w:World} {v:Value} {p:LPd} (h:LpO base w v p):LpM w v p:=by
 obtain ⟨s0,s1,s2,b1,rfl,h0,h1,h2,_,_⟩:=h
 obtain ⟨A,c,rfl⟩:=h0.slice
 obtain ⟨A',c',rfl,_,_⟩:=h1.shape
 obtain ⟨A'',c'',rfl⟩:=h2.slice
 exact ⟨_,_,_,_,_,_,_,_,_,rfl,h0.frs,h1,h2.frs⟩
theorem LpO.below {base:Nat} {w w':World} {v:Value} {p:LPd} (h:LpO base w v p) (hb:Below w.heap.size w w'):LpO base w' v p:=by
 obtain ⟨s0,s1,s2,b1,rfl,h0,h1,h2,h3,h4⟩:=h
 exact ⟨s0,s1,s2,b1,rfl,h0.below hb,h1.below hb,h2.below hb,h3,h4⟩
namespace Pl
theorem RsL.snoc {k:Nat} {fs:List RF} (h:RsL k fs) {f:RF} (hf:f.Rs k):RsL k (fs++[f]):=fun i g hg=>by
 rcases Nat.lt_or_ge i fs.length with hi | hi
 ·rw [List.getElem?_append_left hi] at hg;exact h i g hg
 ·rw [List.getElem?_append_right hi] at hg
  have:i - fs.length=0:=by
   rcases Nat.eq_zero_or_pos (i - fs.length) with e | e
   ·exact e
   ·rw [List.getElem?_eq_none (by simp;omega)] at hg;cases hg
  rw [this] at hg;simp at hg;subst hg;exact hf
theorem RsL.nil (k:Nat):RsL k []:=fun i f h=>by simp at h
theorem RsL.mono {j k:Nat} {fs:List RF} (h:RsL j fs) (hk:j≤k):RsL k fs:=fun i f hf=>(h i f hf).mono hk
theorem cols_snoc {m:Nat} {cols:List (List En)} (h:∀(j:Nat) (c:List En),cols[j]? =some c→ColOK m c) {es:List En} (he:ColOK m es):∀(j:Nat) (c:List En),(cols++[es])[j]? =some c→ColOK m c:=fun j c hc=>by
 rcases Nat.lt_or_ge j cols.length with hi | hi
 ·rw [List.getElem?_append_left hi] at hc;exact h j c hc
 ·rw [List.getElem?_append_right hi] at hc
  have:j - cols.length=0:=by
   rcases Nat.eq_zero_or_pos (j - cols.length) with e | e
   ·exact e
   ·rw [List.getElem?_eq_none (by simp;omega)] at hc;cases hc
  rw [this] at hc;simp at hc;subst hc;exact he
def LpOK (p:LPd):Prop:=1≤p.right.length∧p.right.length≤3∧p.cols.length≤5∧p.cost.length=p.cols.length∧RsL 1 p.cost∧∀(j:Nat) (c:List En),p.cols[j]? =some c→ColOK p.right.length c
theorem colsErr_of {n:Int} {cs:List (List En)} (h:∀(j:Nat) (c:List En),cs[j]? =some c→vecErr c n=0):colsErr n cs=0:=by
 induction cs with
 | nil=>rfl
 | cons c cs ih=>
  rw [colsErr,if_pos (h 0 c rfl)]
  exact ih fun j d hd=>h (j+1) d (by simpa using hd)
theorem LpOK.err {p:LPd} (h:LpOK p):lpErr p=0:=by
 obtain ⟨h1,h2,h3,h4,h5,h6⟩:=h
 unfold lpErr
 rw [if_neg (by omega),if_neg (by omega)]
 exact colsErr_of fun j c hc=>(h6 j c hc).err (by omega)
theorem LpOK.ok {p:LPd} (h:LpOK p) {K:Nat} (hK:1≤K) (hr:RsL K p.right):p.Ok K:=by
 obtain ⟨h1,h2,h3,h4,h5,h6⟩:=h
 refine ⟨h5.mono hK,hr,fun j c hc=>⟨fun k e he=>?_,fun k e he=>((h6 j c hc).2.2 k e he).2.2.2.mono hK⟩⟩
 have:=(h6 j c hc).2.2 k e he
 omega
end Pl
theorem at_int (v:Value) (zs:List Int) (i:Int) (w:World) (h:IntsM w v zs) (h0:0≤i) (hi:i≤1099511627776):
 Calls Tryz.prog 51 #[v,.int .i64 i] w fun e w'=>∃z:Int,e= .returned (.int .i64 z)∧0≤z∧z≤65535+i∧Below w.heap.size w w':=by
 obtain ⟨k,rfl⟩:=Int.eq_ofNat_of_zero_le h0
 exact at_any v zs k w h (by omega)
theorem column_int (v:Value) (zs:List Int) (t:Int) (m:Nat) (w:World) (h:IntsM w v zs) (h0:0≤t) (ht:t≤1000000) (hm:m≤1000):
 Calls Tryz.prog 52 #[v,.int .i64 t,.int .i64 (m:Int)] w (ColPost m w):=by
 obtain ⟨k,rfl⟩:=Int.eq_ofNat_of_zero_le h0
 exact column_own v zs k m w h (by omega) hm
def LpPost (w:World) (e:Ending) (w':World):Prop:=∃v' p,e= .returned v'∧LpO w.heap.size w' v' p∧LpOK p∧RsL 2 p.right∧Below w.heap.size w w'
theorem lp_own (v:Value) (zs:List Int) (w:World) (h:IntsM w v zs):
 Calls Tryz.prog 15 #[v] w (LpPost w):=by
 obtain ⟨a,cap,rfl,hc1,hc2⟩:=h.shape
 generalize hn:zs.length=n at *
 clear hn
 obtain ⟨W,hW,hR,hbe0⟩:=box_lp w (.slice none 0 0) (.slice none 0 0) (.slice none 0 0)
 obtain ⟨W1,hW1,hX,hbe1⟩:=box_lp W (.slice none 0 0) (.slice none 0 0) (.slice none 0 0)
 have hR:=hR.later hbe1
 have hbe:=below_then hbe0 hbe1 hbe0.size
 have hsz:W.heap.size=w.heap.size+1:=by rw [← hW];simp
 rw [hsz] at hX
 clear hbe0 hbe1
 go_enter Tryz.func15,Tryz.ntmps15
 go_wp2_with fail
 clear hW hW1 hsz
 refine (at_any _ zs 0 _ (h.below hbe) (by omega)).mono ?_
 rintro _ w1 ⟨z,rfl,z0,z1,hb1⟩
 have hX1:=hX.later hb1
 have hR1:=hR.later hb1
 have hbe1:=below_then hbe hb1 hbe.size
 clear hX hR hbe hb1
 go_wp2_with fail
 refine (at_any _ zs 1 _ (h.below hbe1) (by omega)).mono ?_
 rintro _ w2 ⟨y,rfl,y0,y1,hb2⟩
 have hX2:=hX1.later hb2
 have hR2:=hR1.later hb2
 have hbe2:=below_then hbe1 hb2 hbe1.size
 obtain ⟨m,hm⟩:∃m:Nat,1+z % 3=(m:Int):=⟨(1+z % 3).toNat,by omega⟩
 obtain ⟨N,hN1,hN2⟩:∃N:Nat,y % 6≤(N:Int)∧(N:Int)≤y % 6:=⟨(y % 6).toNat,by omega,by omega⟩
 have m1:1≤m:=by omega
 have m2:m≤3:=by omega
 have n1:N≤5:=by omega
 clear hX1 hR1 hbe1 hb2
 go_wp2
 clear hm z0 z1
 go_loopw [6] (fun i wr=>∃(k:Nat) (s0 s1:Value) (cs:List RF) (cols:List (List En)),k≤N∧i= .int .i64 k∧Below w.heap.size w wr∧Bk wr w.heap.size 26 [.slice none 0 0,.slice none 0 0,.slice none 0 0]∧Bk wr (w.heap.size+1) 26 [s0,s1,.slice none 0 0]∧FrsO w.heap.size wr s0 cs∧VecsO w.heap.size wr s1 cols∧cs.length=k∧cols.length=k∧RsL 1 cs∧∀(j:Nat) (c:List En),cols[j]? =some c→ColOK m c) (fun i _=>N - (intOf i).toNat)
 case atStart=>exact ⟨0,_,_,[],[],by omega,rfl,hbe2,hR2,hX2,FrsO.nil _ _,VecsO.nil _ _,rfl,rfl,RsL.nil _,fun j c h=>by simp at h⟩
 case round=>
  clear hbe2 hR2 hX2
  obtain ⟨k,s0,s1,cs,cols,hk,rfl,hbe,hR,hX,hO,hV,hl1,hl2,hrs,hco⟩:=hrel
  have HL1:=Lib.hid hl1
  have HL2:=Lib.hid hl2
  have HR1:=Lib.hid hrs
  have HCO1:=Lib.hid hco
  have hlen:cs.length+1≤1099511627776:=by omega
  have hlen2:cols.length+1≤1099511627776:=by omega
  clear hl1 hl2 hrs hco
  rcases Nat.lt_or_ge k N with hkl | hkl
  ·obtain ⟨A0,c0,rfl⟩:=hO.slice
   obtain ⟨A1,c1,rfl⟩:=hV.slice
   obtain ⟨x0,x1,x2⟩:=hX.three
   go_wp2_with fail
   have C0:=stab x0
   have hS0:=below_drew' wr
   clear x0 x1 x2
   generalize hs0:Value.slice A0 cs.length c0=s0 at *
   generalize hs1:Value.slice A1 cols.length c1=s1 at *
   clear hs0 hs1
   refine region_seq 10 [0,1,2,3,4,5,6,7,8,9,10,11,12] (by kernel_rfl) (by kernel_rfl) ?_
   repeat ((first | (refine seq_takeP (v:=?_) rfl rfl rfl ?_ ?_;rotate_left;(· (intro _ hSw;go_simp;(try go_bits);(try with_reducible rfl)))) | (refine seq_take (v:=?_) rfl rfl rfl ?_ ?_;rotate_left;(· (intro _ hSw;go_simp;(try go_bits);(try with_reducible rfl)))) | refine seq_skip rfl rfl rfl ?_);(try simp only [Act.put,pu1,pu2,pu3,pu4,pu5,pu6]))
   refine seq_step rfl rfl (fun KR hKR=>?_)
   go_simp
   with_reducible refine (at_int _ zs (2+(k:Int)) _ ((h.below hbe).below hS0) (by omega) (by omega)).mono ?_
   rintro _ w1 ⟨z,rfl,z0,z1,hb1⟩
   have hS1:=below_then hS0 hb1 hS0.size
   refine hKR.out _ _ (Or.inr hS1) ?_
   clear hKR KR
   (try simp only [Act.put,pu1,pu2,pu3,pu4,pu5,pu6])
   repeat ((first | (refine seq_takeP (v:=?_) rfl rfl rfl ?_ ?_;rotate_left;(· (intro _ hSw;go_simp;(try go_bits);(try with_reducible rfl)))) | (refine seq_take (v:=?_) rfl rfl rfl ?_ ?_;rotate_left;(· (intro _ hSw;go_simp;(try go_bits);(try with_reducible rfl)))) | refine seq_skip rfl rfl rfl ?_);(try simp only [Act.put,pu1,pu2,pu3,pu4,pu5,pu6]))
   refine seq_step rfl rfl (fun KR hKR=>?_)
   go_simp
   with_reducible refine (rint_own (z % 10 - 4) _ (by omega) (by omega)).mono ?_
   rintro _ w2 ⟨v2,rfl,e2,hb2⟩
   have hS2:=below_then hS1 hb2 hS1.size
   obtain ⟨B,l,d,B',l',d',rfl,_,_⟩:=id e2.frac
   have HF:=Lib.hid e2.frac
   have HRS:=Lib.hid (Sz_int (z:=z % 10 - 4) (by omega) (by omega)).rs
   clear e2
   generalize canF ((z % 10 - 4:Int):Rat)=Q at *
   refine hKR.out _ _ (Or.inr hS2) ?_
   clear hKR KR
   (try simp only [Act.put,pu1,pu2,pu3,pu4,pu5,pu6])
   repeat ((first | (refine seq_takeP (v:=?_) rfl rfl rfl ?_ ?_;rotate_left;(· (intro _ hSw;go_simp;(try go_bits);(try with_reducible rfl)))) | (refine seq_take (v:=?_) rfl rfl rfl ?_ ?_;rotate_left;(· (intro _ hSw;go_simp;(try go_bits);(try with_reducible rfl)))) | refine seq_skip rfl rfl rfl ?_);(try simp only [Act.put,pu1,pu2,pu3,pu4,pu5,pu6]))
   refine seq_step rfl rfl (fun KR hKR=>?_)
   go_simp
   refine hKR.out _ _ (Or.inr (below_then hS2 (below_new _ _) hS2.size)) ?_
   clear hKR KR
   (try simp only [Act.put,pu1,pu2,pu3,pu4,pu5,pu6])
   have HO:=Lib.hid (hO.below hS2)
   have hbs:w.heap.size≤w2.heap.size:=by have:=hbe.size;have:=hS2.size;omega
   refine seq_append_frac rfl rfl rfl (by decide) (.tmp 21) (.tmp 29) rfl w2 w.heap.size s0 cs rfl HO.out _ _ B B' l d l' d' Q HF.out rfl hlen hbs ?_
   intro v' w4 hown4 hk4 hb4
   obtain ⟨A4,n4,c4,rfl⟩:=hown4.sliceN
   (try simp only [Act.put,pu1,pu2,pu3,pu4,pu5,pu6])
   have hX4:=hk4.bk (hX.later hS2) (by decide)
   have hR4:=hk4.bk (hR.later hS2) (by decide)
   have hV4:=(hV.below hS2).but hk4 (by decide) (by decide) (by decide)
   have hbe4:=(below_then hbe hS2 hbe.size).trans hb4
   obtain ⟨c0,c1,c2⟩:=hX4.three
   obtain ⟨f0,f1,f2⟩:=hX4.threeF
   refine seq_step rfl rfl (fun KR hKR=>?_)
   go_simp
   refine hKR.out _ _ (Or.inl (by decide)) ?_
   clear hKR KR
   (try simp only [Act.put,pu1,pu2,pu3,pu4,pu5,pu6])
   refine seq_step rfl rfl (fun KR hKR=>?_)
   go_simp
   refine hKR.out _ _ (Or.inl (by decide)) ?_
   clear hKR KR
   (try simp only [Act.put,pu1,pu2,pu3,pu4,pu5,pu6])
   refine seq_done ?_
   generalize hv':Value.slice A4 n4 c4=v' at *
   clear hv'
   have hX5:=hX4.set_ 0 v'
   have hR5:=hR4.far (p:=⟨w.heap.size+1,0,none⟩) (by simp) v'
   have hk5:=KeepBut.setCell hX4 0 v'
   have hO5:=hown4.but hk5 (by decide) (by decide)
   have hV5:=hV4.but hk5 (by decide) (by decide) (by decide)
   have hbe5:=hbe4.setCell (p:=⟨w.heap.size+1,0,none⟩) (by simp) v'
   generalize w4.setCell ⟨w.heap.size+1,0,none⟩ v'=W5 at *
   clear hX4 hR4 hk5 hown4 hV4 hbe4 hk4 hb4 c0 c1 c2 f0 f1 f2 hX hR hO hV hS0 hS1 hS2 hb1 hb2 HO HF C0 hbs hbe
   have HRS2:=Lib.hid (HR1.out.snoc HRS.out)
   simp only [List.set_cons_zero] at hX5
   obtain ⟨x0,x1,x2⟩:=hX5.three
   go_wp2_with fail
   have C1:=stab x1
   have hS0:=below_drew' W5
   clear x0 x1 x2
   refine region_seq 9 [0,1,2,3,4,5,6,7,8,9,10,11] (by kernel_rfl) (by kernel_rfl) ?_
   repeat ((first | (refine seq_takeP (v:=?_) rfl rfl rfl ?_ ?_;rotate_left;(· (intro _ hSw;go_simp;(try go_bits);(try with_reducible rfl)))) | (refine seq_take (v:=?_) rfl rfl rfl ?_ ?_;rotate_left;(· (intro _ hSw;go_simp;(try go_bits);(try with_reducible rfl)))) | refine seq_skip rfl rfl rfl ?_);(try simp only [Act.put,pu1,pu2,pu3,pu4,pu5,pu6]))
   refine seq_step rfl rfl (fun KR hKR=>?_)
   go_simp
   with_reducible refine (column_int _ zs (8+3 * (k:Int)) m _ ((h.below hbe5).below hS0) (by omega) (by omega) (by omega)).mono ?_
   rintro _ w1 ⟨v1,es,rfl,e1,hcol,hb1⟩
   have hS1:=below_then hS0 hb1 hS0.size
   obtain ⟨Ae,ce,rfl,_,_⟩:=e1.vec.shape
   have HE:=Lib.hid e1.vec
   have HCO:=Lib.hid hcol
   clear e1 hcol
   refine hKR.out _ _ (Or.inr hS1) ?_
   clear hKR KR
   (try simp only [Act.put,pu1,pu2,pu3,pu4,pu5,pu6])
   repeat ((first | (refine seq_takeP (v:=?_) rfl rfl rfl ?_ ?_;rotate_left;(· (intro _ hSw;go_simp;(try go_bits);(try with_reducible rfl)))) | (refine seq_take (v:=?_) rfl rfl rfl ?_ ?_;rotate_left;(· (intro _ hSw;go_simp;(try go_bits);(try with_reducible rfl)))) | refine seq_skip rfl rfl rfl ?_);(try simp only [Act.put,pu1,pu2,pu3,pu4,pu5,pu6]))
   refine seq_step rfl rfl (fun KR hKR=>?_)
   go_simp
   refine hKR.out _ _ (Or.inr (below_then hS1 (below_new _ _) hS1.size)) ?_
   clear hKR KR
   (try simp only [Act.put,pu1,pu2,pu3,pu4,pu5,pu6])
   have HO:=Lib.hid (hV5.below hS1)
   have hbs:w.heap.size≤w1.heap.size:=by have:=hbe5.size;have:=hS1.size;omega
   refine seq_append_vec rfl rfl rfl (by decide) (.tmp 33) (.tmp 40) rfl w1 w.heap.size s1 cols rfl HO.out Ae es.length ce es HE.out rfl hlen2 hbs ?_
   intro v'' w6 hown6 hk6 hb6
   obtain ⟨A6,n6,c6,rfl⟩:=hown6.sliceN
   (try simp only [Act.put,pu1,pu2,pu3,pu4,pu5,pu6])
   have hX6:=hk6.bk (hX5.later hS1) (by decide)
   have hR6:=hk6.bk (hR5.later hS1) (by decide)
   have hO6:=(hO5.below hS1).but hk6 (by decide) (by decide)
   have hbe6:=(below_then hbe5 hS1 hbe5.size).trans hb6
   obtain ⟨c0,c1,c2⟩:=hX6.three
   obtain ⟨f0,f1,f2⟩:=hX6.threeF
   refine seq_step rfl rfl (fun KR hKR=>?_)
   go_simp
   refine hKR.out _ _ (Or.inl (by decide)) ?_
   clear hKR KR
   (try simp only [Act.put,pu1,pu2,pu3,pu4,pu5,pu6])
   refine seq_step rfl rfl (fun KR hKR=>?_)
   go_simp
   refine hKR.out _ _ (Or.inl (by decide)) ?_
   clear hKR KR
   (try simp only [Act.put,pu1,pu2,pu3,pu4,pu5,pu6])
   refine seq_done ?_
   generalize hv'':Value.slice A6 n6 c6=v'' at *
   clear hv''
   have hX7:=hX6.set_ 1 v''
   have hR7:=hR6.far (p:=⟨w.heap.size+1,1,none⟩) (by simp) v''
   have hk7:=KeepBut.setCell hX6 1 v''
   have hO7:=hO6.but hk7 (by decide) (by decide)
   have hV7:=hown6.but hk7 (by decide) (by decide) (by decide)
   have hbe7:=hbe6.setCell (p:=⟨w.heap.size+1,1,none⟩) (by simp) v''
   generalize w6.setCell ⟨w.heap.size+1,1,none⟩ v''=W7 at *
   clear hX6 hR6 hk7 hown6 hO6 hbe6 hk6 hb6 c0 c1 c2 f0 f1 f2 hX5 hR5 hO5 hV5 hS0 hS1 hb1 HO HE C1 hbs hbe5
   simp only [List.set_cons_zero,List.set_cons_succ] at hX7
   go_wp2
   go_roundw
   case rel=>exact ⟨k+1,v',v'',cs++[Q],cols++[es],by omega,by go_num,hbe7,hR7,hX7,hO7,hV7,by rw [List.length_append,HL1.out];rfl,by rw [List.length_append,HL2.out];rfl,HRS2.out,cols_snoc HCO1.out HCO.out⟩
   case measure=>simp [intOf];omega
  ·obtain rfl:k=N:=by omega
   have hblk:=hO.own_lt
   have HBLK:=Lib.hid hblk
   clear hblk
   go_wp2
   generalize hw9:wr=w9 at *
   clear hw9
   have hK9:=KeepBut.refl 26 w9
   go_loopw [7] (fun i wr=>∃(k:Nat) (s2:Value) (rs:List RF),k≤m∧i= .int .i64 k∧Below w.heap.size w wr∧KeepBut 26 w9 wr∧w9.heap.size≤wr.heap.size∧Bk wr w.heap.size 26 [.slice none 0 0,.slice none 0 0,.slice none 0 0]∧Bk wr (w.heap.size+1) 26 [s0,s1,s2]∧FrsO w9.heap.size wr s2 rs∧rs.length=k∧RsL 2 rs) (fun i _=>m - (intOf i).toNat)
   case atStart=>exact ⟨0,_,[],by omega,rfl,hbe,hK9,Nat.le_refl _,hR,hX,FrsO.nil _ _,rfl,RsL.nil _⟩
   case round=>
    have h90:=hbe.size
    have HO9:=Lib.hid hO
    have HV9:=Lib.hid hV
    clear hbe hR hX hO hV hK9
    obtain ⟨i,s2,rs,hi,rfl,hbe,hK,h9,hR,hX,hO,hl,hrs⟩:=hrel
    have HL:=Lib.hid hl
    have HRR:=Lib.hid hrs
    have hlen:rs.length+1≤1099511627776:=by omega
    clear hl hrs
    rcases Nat.lt_or_ge i m with hil | hil
    ·obtain ⟨x0,x1,x2⟩:=hX.three
     obtain ⟨A2,c2,rfl⟩:=hO.slice
     go_wp2_with fail
     have C2:=stab x2
     have hS0:=below_drew' wr
     clear x0 x1 x2
     generalize hs2:Value.slice A2 rs.length c2=s2 at *
     clear hs2
     refine region_seq 8 [0,1,2,3,4,5,6,7,8,9,10] (by kernel_rfl) (by kernel_rfl) ?_
     repeat ((first | (refine seq_takeP (v:=?_) rfl rfl rfl ?_ ?_;rotate_left;(· (intro _ hSw;go_simp;(try go_bits);(try with_reducible rfl)))) | (refine seq_take (v:=?_) rfl rfl rfl ?_ ?_;rotate_left;(· (intro _ hSw;go_simp;(try go_bits);(try with_reducible rfl)))) | refine seq_skip rfl rfl rfl ?_);(try simp only [Act.put,pu1,pu2,pu3,pu4,pu5,pu6]))
     refine seq_step rfl rfl (fun KR hKR=>?_)
     go_simp
     with_reducible refine (at_int _ zs (30+(i:Int)) _ ((h.below hbe).below hS0) (by omega) (by omega)).mono ?_
     rintro _ w1 ⟨z,rfl,z0,z1,hb1⟩
     have hS1:=below_then hS0 hb1 hS0.size
     refine hKR.out _ _ (Or.inr hS1) ?_
     clear hKR KR
     (try simp only [Act.put,pu1,pu2,pu3,pu4,pu5,pu6])
     repeat ((first | (refine seq_takeP (v:=?_) rfl rfl rfl ?_ ?_;rotate_left;(· (intro _ hSw;go_simp;(try go_bits);(try with_reducible rfl)))) | (refine seq_take (v:=?_) rfl rfl rfl ?_ ?_;rotate_left;(· (intro _ hSw;go_simp;(try go_bits);(try with_reducible rfl)))) | refine seq_skip rfl rfl rfl ?_);(try simp only [Act.put,pu1,pu2,pu3,pu4,pu5,pu6]))
     refine seq_step rfl rfl (fun KR hKR=>?_)
     go_simp
     with_reducible refine (frac_own z _).mono ?_
     rintro _ w2 ⟨v2,q,rfl,e2,sq,hb2⟩
     have hS2:=below_then hS1 hb2 hS1.size
     obtain ⟨B,l,d,B',l',d',rfl,_,_⟩:=id e2.frac
     have HF:=Lib.hid e2.frac
     have HRS:=Lib.hid sq.rs
     clear e2 sq
     generalize canF q=Q at *
     refine hKR.out _ _ (Or.inr hS2) ?_
     clear hKR KR
     (try simp only [Act.put,pu1,pu2,pu3,pu4,pu5,pu6])
     repeat ((first | (refine seq_takeP (v:=?_) rfl rfl rfl ?_ ?_;rotate_left;(· (intro _ hSw;go_simp;(try go_bits);(try with_reducible rfl)))) | (refine seq_take (v:=?_) rfl rfl rfl ?_ ?_;rotate_left;(· (intro _ hSw;go_simp;(try go_bits);(try with_reducible rfl)))) | refine seq_skip rfl rfl rfl ?_);(try simp only [Act.put,pu1,pu2,pu3,pu4,pu5,pu6]))
     refine seq_step rfl rfl (fun KR hKR=>?_)
     go_simp
     refine hKR.out _ _ (Or.inr (below_then hS2 (below_new _ _) hS2.size)) ?_
     clear hKR KR
     (try simp only [Act.put,pu1,pu2,pu3,pu4,pu5,pu6])
     have HO:=Lib.hid (hO.below hS2)
     have hbs:w9.heap.size≤w2.heap.size:=by have:=hS2.size;omega
     refine seq_append_frac rfl rfl rfl (by decide) (.tmp 49) (.tmp 55) rfl w2 w9.heap.size s2 rs rfl HO.out _ _ B B' l d l' d' Q HF.out rfl hlen hbs ?_
     intro v' w4 hown4 hk4 hb4
     obtain ⟨A4,n4,c4,rfl⟩:=hown4.sliceN
     (try simp only [Act.put,pu1,pu2,pu3,pu4,pu5,pu6])
     have hX4:=hk4.bk (hX.later hS2) (by decide)
     have hR4:=hk4.bk (hR.later hS2) (by decide)
     have hK4:=(hK.then (hS2.mono h9)).then hb4
     have hbe4:=(below_then hbe hS2 hbe.size).trans (hb4.mono h90)
     obtain ⟨c0,c1,c2⟩:=hX4.three
     obtain ⟨f0,f1,f2⟩:=hX4.threeF
     refine seq_step rfl rfl (fun KR hKR=>?_)
     go_simp
     refine hKR.out _ _ (Or.inl (by decide)) ?_
     clear hKR KR
     (try simp only [Act.put,pu1,pu2,pu3,pu4,pu5,pu6])
     refine seq_step rfl rfl (fun KR hKR=>?_)
     go_simp
     refine hKR.out _ _ (Or.inl (by decide)) ?_
     clear hKR KR
     (try simp only [Act.put,pu1,pu2,pu3,pu4,pu5,pu6])
     refine seq_done ?_
     generalize hv':Value.slice A4 n4 c4=v' at *
     clear hv'
     have hX5:=hX4.set_ 2 v'
     have hR5:=hR4.far (p:=⟨w.heap.size+1,2,none⟩) (by simp) v'
     have hk5:=KeepBut.setCell hX4 2 v'
     have hO5:=hown4.but hk5 (by decide) (by decide)
     have hK5:=hK4.trans hk5
     have hbe5:=hbe4.setCell (p:=⟨w.heap.size+1,2,none⟩) (by simp) v'
     have h95:w9.heap.size≤(w4.setCell ⟨w.heap.size+1,2,none⟩ v').heap.size:=by
      have:=hb4.size;simp;omega
     generalize w4.setCell ⟨w.heap.size+1,2,none⟩ v'=W5 at *
     clear hX4 hR4 hk5 hown4 hbe4 hk4 hb4 c0 c1 c2 f0 f1 f2 hX hR hO hS0 hS1 hS2 hb1 hb2 HO HF C2 hbs hbe hK hK4 h9
     simp only [List.set_cons_zero,List.set_cons_succ] at hX5
     go_wp2
     go_roundw
     case rel=>exact ⟨i+1,v',rs++[Q],by omega,by go_num,hbe5,hK5,h95,hR5,hX5,hO5,by rw [List.length_append,HL.out];rfl,HRR.out.snoc HRS.out⟩
     case measure=>simp [intOf];omega
    ·obtain rfl:i=m:=by omega
     have hO9:=HO9.out.but hK (by decide) (by decide)
     have hV9:=HV9.out.but hK (by decide) (by decide) (by decide)
     obtain ⟨x0,x1,x2⟩:=hX.three
     obtain ⟨c0,c1,c2⟩:=hR.three
     obtain ⟨f0,f1,f2⟩:=hR.threeF
     obtain ⟨A0,d0,rfl⟩:=hO9.slice
     obtain ⟨A1,d1,rfl⟩:=hV9.slice
     obtain ⟨A2,d2,rfl⟩:=hO.slice
     go_wp2
     generalize hs0:Value.slice A0 cs.length d0=s0 at *
     generalize hs1:Value.slice A1 cols.length d1=s1 at *
     generalize hs2:Value.slice A2 rs.length d2=s2 at *
     have hR5:=((hR.set_ 0 s0).set_ 1 s1).set_ 2 s2
     refine ret_cell Tryz.results15 Tryz.underlying26 (by kernel_rfl) rfl hR5 rfl ?_
     have k1:=KeepBut.setCell hR 0 s0
     have k2:=KeepBut.setCell (hR.set_ 0 s0) 1 s1
     have k3:=KeepBut.setCell ((hR.set_ 0 s0).set_ 1 s1) 2 s2
     have k4:=(k1.trans k2).trans k3
     refine ⟨_,⟨cs,cols,rs⟩,rfl,⟨s0,s1,s2,w9.heap.size,rfl,hO9.but k4 (by decide) (by decide),(hV9.but k4 (by decide) (by decide) (by decide)).vecs,hO.but k4 (by decide) (by decide),h90,HBLK.out⟩,⟨by rw [HL.out];exact m1,by rw [HL.out];exact m2,by rw [HL2.out];exact n1,by rw [HL1.out,HL2.out],HR1.out,fun j c hc=>by rw [HL.out];exact HCO1.out j c hc⟩,HRR.out,?_⟩
     exact ((hbe.setCell (p:=⟨w.heap.size,0,none⟩) (Nat.le_refl _) s0).setCell (p:=⟨w.heap.size,1,none⟩) (Nat.le_refl _) s1).setCell (p:=⟨w.heap.size,2,none⟩) (Nat.le_refl _) s2
namespace Pl
def NN (xs:List RF):Prop:=∀(j:Nat) (f:RF),xs[j]? =some f→0≤f.q
theorem NN.nil:NN []:=fun j f h=>by simp at h
theorem NN.snoc {xs:List RF} (h:NN xs) {f:RF} (hf:0≤f.q):NN (xs++[f]):=fun i g hg=>by
 rcases Nat.lt_or_ge i xs.length with hi | hi
 ·rw [List.getElem?_append_left hi] at hg;exact h i g hg
 ·rw [List.getElem?_append_right hi] at hg
  have:i - xs.length=0:=by
   rcases Nat.eq_zero_or_pos (i - xs.length) with e | e
   ·exact e
   ·rw [List.getElem?_eq_none (by simp;omega)] at hg;cases hg
  rw [this] at hg;simp at hg;subst hg;exact hf
end Pl
theorem FrsO.monoB {base base':Nat} {w:World} {v:Value} {fs:List RF} (h:FrsO base w v fs) (hb:base'≤base):FrsO base' w v fs:=by
 obtain ⟨cs,h1,h2⟩:=h;exact ⟨cs,row_mono h1 hb,h2⟩
theorem FrsO.own_ge {base:Nat} {w:World} {v:Value} {fs:List RF} (h:FrsO base w v fs):∀g,v.ownBlock=some g→base≤g:=by
 obtain ⟨cs,h1,h2⟩:=h
 intro g hg
 exact (h1.lt g hg).1
namespace Pl
structure Prf where
 st:Int
 x:List RF
 y:List RF
 ray:List RF
end Pl
def PrfM (w:World) (v:Value) (x:Prf):Prop:=
 ∃A n c A' n' c' A'' n'' c'',v= .agg #[.int .i64 x.st,.slice A n c,.slice A' n' c',.slice A'' n'' c'']∧FrsM w (.slice A n c) x.x∧FrsM w (.slice A' n' c') x.y∧FrsM w (.slice A'' n'' c'') x.ray∧ -9223372036854775808≤x.st∧x.st≤9223372036854775807
theorem PrfM.below {w w':World} {v:Value} {x:Prf} (h:PrfM w v x) (hb:Below w.heap.size w w'):PrfM w' v x:=by
 obtain ⟨A,n,c,A',n',c',A'',n'',c'',h1,h2,h3,h4,h5,h6⟩:=h
 exact ⟨A,n,c,A',n',c',A'',n'',c'',h1,h2.below hb,h3.below hb,h4.below hb,h5,h6⟩
theorem seq_skipc {P:Program} {ops:Array Oper} {Q:Exit→Act→World→Prop} {S:World→Prop} {n:Nat} {o:Oper} {i:Nat} {is:List Nat} {a:Act} {w:World} (ho:ops[i]? =some o) (hf:floatI ops n i=false) (hw:Region.wanted o (yielded ops a.tmps)=false) (hS:S w) (h:wpSeq P ops Q S n is (a.put o.dst undef) w):wpSeq P ops Q S n (i::is) a w:=by
 refine seq_step ho hf fun K hK=>?_
 rw [if_neg (by rw [hw];simp)]
 exact hK _ _ (.inr hS) h
section
namespace Pl
def kI (z:Int):RF:=canF (z:Rat)
def kp:LPd:=⟨[kI 0],[[⟨0,kI 1⟩]],[kI (-1)]⟩
end Pl
section
variable {w:World} {g:Nat}
theorem FrsM.one {b b':Bool} {A A':Option Addr} {n c n' c':Nat} {f:RF} (hB:Bk w g 48 [.bool b,.slice A n c,.bool b',.slice A' n' c']) (h:FracM w (.agg #[.bool b,.slice A n c,.bool b',.slice A' n' c']) f):FrsM w (.slice (some ⟨g,0,none⟩) 1 1) [f]:=by
 refine ⟨[.bool b,.slice A n c,.bool b',.slice A' n' c'],⟨_,1,rfl,rfl,Nat.le_refl _,by unfold maxLen;omega,fun _=>⟨g,0,_,_,rfl,hB,fun j u hj=>by simpa using hj⟩⟩,rfl,fun k f' hf=>?_⟩
 match k,hf with
 | 0,hf=>simp at hf;subst hf;exact ⟨_,_,_,_,rfl,rfl,rfl,rfl,h⟩
theorem VecM.one {k:Int} {b b':Bool} {A A':Option Addr} {n c n' c':Nat} {f:RF} (hB:Bk w g 87 [.int .i64 k,.bool b,.slice A n c,.bool b',.slice A' n' c']) (h:FracM w (.agg #[.bool b,.slice A n c,.bool b',.slice A' n' c']) f):VecM w (.slice (some ⟨g,0,none⟩) 1 1) [⟨k,f⟩]:=by
 refine ⟨[.int .i64 k,.bool b,.slice A n c,.bool b',.slice A' n' c'],⟨_,1,rfl,rfl,Nat.le_refl _,by unfold maxLen;omega,fun _=>⟨g,0,_,_,rfl,hB,fun j u hj=>by simpa using hj⟩⟩,rfl,fun j f' hf=>?_⟩
 match j,hf with
 | 0,hf=>simp at hf;subst hf;exact ⟨_,_,_,_,rfl,rfl,rfl,rfl,rfl,h⟩
theorem VecsM.one {v:Value} {es:List En} (hB:Bk w g 72 [v]) (h:VecM w v es):VecsM w (.slice (some ⟨g,0,none⟩) 1 1) [es]:=by
 refine ⟨[v],⟨_,1,rfl,rfl,Nat.le_refl _,by unfold maxLen;omega,fun _=>⟨g,0,_,_,rfl,hB,fun j u hj=>by simpa using hj⟩⟩,fun j f' hf=>?_⟩
 match j,hf with
 | 0,hf=>simp at hf;subst hf;exact ⟨_,rfl,h⟩
theorem FrsM.nil (w:World):FrsM w (.slice none 0 0) []:=⟨[],RowM.nil w _ _ none 0 (by simp),FrC.nil w⟩
end
end
def KnownAt (U:World) (s4 s5:Value) (wx:World):Prop:=
 ∃g A n c A' n' c',s4= .pointer (some ⟨g,0,none⟩)∧s5= .bool true∧Bk wx g 48 [.bool (kI 2).num.neg,.slice A n c,.bool (kI 2).den.neg,.slice A' n' c']∧FracM wx (.agg #[.bool (kI 2).num.neg,.slice A n c,.bool (kI 2).den.neg,.slice A' n' c']) (kI 2)∧Below U.heap.size U wx
theorem KnownAt.mk {U w:World} {g:Nat} {x y z u:Value} {A A':Option Addr} {n c n' c':Nat} (hB:Bk w g 48 [x,y,z,u]) (hF:FracM w (.agg #[.bool (kI 2).num.neg,.slice A n c,.bool (kI 2).den.neg,.slice A' n' c']) (kI 2)) (hb:Below U.heap.size U w) (hg:U.heap.size≤g):
 KnownAt U (.pointer (some ⟨g,0,none⟩)) (.bool true) ((((w.setCell ⟨g,0,none⟩ (.bool (kI 2).num.neg)).setCell ⟨g,1,none⟩ (.slice A n c)).setCell ⟨g,2,none⟩ (.bool (kI 2).den.neg)).setCell ⟨g,3,none⟩ (.slice A' n' c')):=
 ⟨g,A,n,c,A',n',c',rfl,rfl,hB.set4 _ _ _ _,hF.keep (hB.keep4 (by decide) _ _ _ _),below_set4 hb hg _ _ _ _⟩
end Go.Proofs.YtncmobkhenfhpaaGreat
