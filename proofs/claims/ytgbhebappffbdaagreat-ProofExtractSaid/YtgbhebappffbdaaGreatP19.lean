/- Lemmas of the claim; no condition. -/
import Derived.Test.YtgbhebappffbdaaGreatP18
set_option linter.all false
set_option maxRecDepth 100000
set_option maxHeartbeats 40000000
namespace Go.Proofs.YtgbhebappffbdaaGreat
open Go.RowKit
open Pl
attribute [local go_sem ↓] Go.wp_at_zero Go.wp_at_succ
namespace Pl
def spV (f:Nat→Rat):Nat→List En
 | 0=>[]
 | n+1=>if f n=0 then spV f n else spV f n++[⟨(n:Int),canF (f n)⟩]
theorem Xf {f:Nat→Rat} {n:Nat} (h:f n=0):spV f (n+1)=spV f n:=by unfold spV;rw [if_pos h];cases n <;> rfl
theorem Xu {f:Nat→Rat} {n:Nat} (h:f n≠0):spV f (n+1)=spV f n++[⟨(n:Int),canF (f n)⟩]:=by rw [spV,if_neg h]
theorem Wm {f g:Nat→Rat}:∀{n:Nat},(∀i,i < n→f i=g i)→spV f n=spV g n
 | 0,_=>rfl
 | n+1,h=>by rw [spV,spV,h n (by omega),Wm fun i hi=>h i (by omega)]
theorem WR {f:Nat→Rat}:∀(n:Nat),(spV f n).length≤n
 | 0=>JY _
 | n+1=>by
  have:=WR (f:=f) n
  by_cases h:f n=0
  ·rw [Xf h];omega
  ·rw [Xu h,List.length_append];simp;omega
theorem Ur {f:Nat→Rat}:∀{n k:Nat} {e:En},(spV f n)[k]? =some e→∃i:Nat,i < n∧e.idx=(i:Int)∧e.f=canF (f i)∧f i≠0
 | 0,k,e,h=>by simp [spV] at h
 | n+1,k,e,h=>by
  by_cases h0:f n=0
  ·rw [Xf h0] at h
   obtain ⟨i,h1,h2⟩:=Ur h
   exact ⟨i,by omega,h2⟩
  ·rw [Xu h0] at h
   rcases JX k (spV f n).length with hk | hk
   ·rw [List.getElem?_append_left hk] at h
    obtain ⟨i,h1,h2⟩:=Ur h
    exact ⟨i,by omega,h2⟩
   ·rw [List.getElem?_append_right hk] at h
    have hk':k - (spV f n).length=0:=by
     rcases JV (k - (spV f n).length) with e | e
     ·exact e
     ·rw [JU (by simp;omega)] at h;cases h
    rw [hk'] at h;simp at h;subst h;exact ⟨n,by omega,rfl,rfl,h0⟩
theorem Zdl (f:Nat→Rat) (n:Nat):inR n (spV f n):=fun k e h=>by
 obtain ⟨i,h1,h2,_⟩:=Ur h
 omega
theorem Zdm (f:Nat→Rat):∀(n i:Nat),Wl (spV f n) i=if i < n then f i else 0
 | 0,i=>by rw [if_neg (by omega)];rfl
 | n+1,i=>by
  have ih:=Zdm f n i
  by_cases h0:f n=0
  ·rw [Xf h0,ih]
   by_cases e:i < n
   ·rw [if_pos e,if_pos (by omega)]
   ·rw [if_neg e]
    by_cases e2:i=n
    ·subst e2;rw [if_pos (by omega),h0]
    ·rw [if_neg (by omega)]
  ·rw [Xu h0]
   unfold Wl at ih ⊢
   rw [Zgx]
   simp only
   by_cases e:(n:Int)=(i:Int)
   ·obtain rfl:n=i:=by omega
    rw [if_pos e,if_pos (by omega),Zu]
   ·rw [if_neg e,ih]
    by_cases e2:i < n
    ·rw [if_pos e2,if_pos (by omega)]
    ·rw [if_neg e2,if_neg (by omega)]
def Good (n:Nat) (es:List En):Prop:=inR n es∧Inc none es∧∀(k:Nat) (e:En),es[k]? =some e→e.f.q≠0
theorem Ycb {p:Option Int} {es:List En} {e:En} (h:Inc p es) (h1:leP p e.idx=false) (h2:∀(k:Nat) (d:En),es[k]? =some d→d.idx < e.idx):Inc p (es++[e]):=by
 induction es generalizing p with
 | nil=>exact ⟨h1,trivial⟩
 | cons d es ih=>
  refine ⟨h.1,ih h.2 ?_ fun k d' hd=>h2 (k+1) d' (by simpa using hd)⟩;have:=h2 0 d rfl;simp [leP];omega
theorem Zhc (f:Nat→Rat):∀(n:Nat),Inc none (spV f n)
 | 0=>trivial
 | n+1=>by
  by_cases h0:f n=0
  ·rw [Xf h0];exact Zhc f n
  ·rw [Xu h0]
   exact Ycb (Zhc f n) rfl fun k d hd=>by
    obtain ⟨i,h1,h2,_⟩:=Ur hd
    show d.idx < (n:Int)
    omega
theorem Zae (f:Nat→Rat) (n:Nat):Good n (spV f n):=⟨Zdl f n,Zhc f n,fun k e h=>by
 obtain ⟨i,h1,h2,h3,h4⟩:=Ur h
 rw [h3,Zu];exact h4⟩
theorem Zub {n:Int} {es:List En} {p:Option Int} (h1:∀(k:Nat) (e:En),es[k]? =some e→0≤e.idx∧e.idx < n) (h2:Inc p es) (h3:∀(k:Nat) (e:En),es[k]? =some e→e.f.q≠0):UD n es p=0:=by
 induction es generalizing p with
 | nil=>rfl
 | cons e es ih=>
  have a:=h1 0 e rfl;rw [UD,if_neg (by omega),if_neg (by rw [h2.1];decide),if_neg (h3 0 e rfl)];exact ih (fun k d hd=>h1 (k+1) d (by simpa using hd)) h2.2 fun k d hd=>h3 (k+1) d (by simpa using hd)
theorem Good.err {n:Nat} {es:List En} (h:Good n es) (hn:n≤4096):vecErr es (n:Int)=0:=by
 unfold vecErr;rw [if_neg (by omega)];exact Zub h.1 h.2.1 h.2.2
theorem Zaf {f:Nat→Rat} {n K:Nat} (h:∀i,i < n→Sz K (f i)):∀(k:Nat) (e:En),(spV f n)[k]? =some e→e.f.Rs K:=fun k e he=>by
 obtain ⟨i,h1,h2,h3,h4⟩:=Ur he
 rw [h3];exact (h i h1).rs
end Pl
theorem Ue {ops:Array Oper} {Q:Exit→Act→World→Prop} {S:World→Prop} {m:Nat} {i:Nat} {is:List Nat} {o:Oper} {a:Act} (hoi:ops[i]? =some o) (hf:Y7 ops m i=false) (hgd:o.guard=none) (hl0:m≤i) (s x:Operand) (t:TypeId)
 (ho:o.op= .call { callee:= .builtin .append,args:=#[s,x],argTypes:=#[t,t] })
 (e:TypeId) (inf:TypeInfo) (z:Value) (size bytes:Nat) (ht:Tryz.prog.underlying t=some (.slice e)) (hi:Tryz.prog.info? e=some inf) (hz:inf.zero=some z)
 (hsize:inf.size=size) (hby:inf.bytes=bytes) (hzs:z.cells.size=size) (hsz:0 < size) (W:World) (base:Nat) (v:Value) (n:Nat) (xs news:List Value) (hs:a.eval s=v) (hown:W.ownsRow base e size v n xs)
 (hx:a.eval x= .slice (some ⟨W.heap.size,0,none⟩) 1 1) (hl:news.length=size) (h1:∀u∈news,u.oneCell'=true) (hn:n+1≤maxLen) (hb:(n+1) * bytes≤140737488355328) (hbase:base≤W.heap.size)
 (h:∀v' w',w'.ownsRow base e size v' (n+1) (xs++news)→Ze e W w'→Below base W w'→Xl Tryz.prog ops Q S m is (a.put o.dst v') w'):
 Xl Tryz.prog ops Q S m (i::is) a (W.alloc (.cells news.toArray e)):=by
 refine Zd hoi hf fun K hK=>?_
 obtain ⟨v',w',hr,h2,h3,h4⟩:=Ud o.type t e inf z size bytes ht hi hz hsize hby hzs hsz W base v n xs news hown hl h1 hn hb hbase;rw [if_pos (by simp [Region.wanted,hgd])];unfold Oper.wp execOp;simp only [ho,resolve,invoke,builtin,Sem.run_bind,Sem.run_pure,Result.andThen_ok,List.map_toArray,List.map_cons,List.map_nil,hs,hx,hr];exact hK _ _ (.inl hl0) (h v' w' h2 h3 h4)
theorem VJ {ops:Array Oper} {Q:Exit→Act→World→Prop} {S:World→Prop} {m:Nat} {i:Nat} {is:List Nat} {o:Oper} {a:Act} (hoi:ops[i]? =some o) (hfl:Y7 ops m i=false) (hgd:o.guard=none) (hl0:m≤i) (s x:Operand)
 (ho:o.op= .call { callee:= .builtin .append,args:=#[s,x],argTypes:=#[23,23] })
 (W:World) (base:Nat) (v:Value) (fs:List RF) (hs:a.eval s=v) (hown:Z4 base W v fs) (b b':Bool) (A A':Option Addr) (n c n' c':Nat) (f:RF) (hf:Zt W (.agg #[.bool b,.slice A n c,.bool b',.slice A' n' c']) f)
 (hx:a.eval x= .slice (some ⟨W.heap.size,0,none⟩) 1 1) (hn:fs.length+1≤1099511627776) (hbase:base≤W.heap.size)
 (h:∀v' w',Z4 base w' v' (fs++[f])→Ze 46 W w'→Below base W w'→Xl Tryz.prog ops Q S m is (a.put o.dst v') w'):
 Xl Tryz.prog ops Q S m (i::is) a (W.alloc (.cells #[.bool b,.slice A n c,.bool b',.slice A' n' c'] 46)):=by
 obtain ⟨cs,h1,h2⟩:=hown;obtain ⟨i0,hi,d,e,g⟩:=info_parts info_frac;refine Ue hoi hfl hgd hl0 s x 23 ho 46 i0 _ 4 64 Tryz.underlying23 hi d e g rfl (by decide) W base v fs.length cs [.bool b,.slice A n c,.bool b',.slice A' n' c'] hs h1 hx rfl Zjf (by unfold maxLen;omega) (by omega) hbase ?_;intro v' w' g1 g2 g3;refine h v' w' ⟨_,by simpa using g1,?_⟩ g2 g3;have hk:=g2.keep (by decide);exact (h2.keep hk).snoc (hf.keep hk)
def Ut (base:Nat) (w:World) (v:Value) (es:List En):Prop:=∃cs,w.ownsRow base 83 5 v es.length cs∧EnC w cs es
theorem Ut.vec {base:Nat} {w:World} {v:Value} {es:List En} (h:Ut base w v es):Vf w v es:=by
 obtain ⟨cs,h1,h2⟩:=h;exact ⟨cs,V7.of_own h1,h2⟩
theorem Ut.below {base:Nat} {w w':World} {v:Value} {es:List En} (h:Ut base w v es) (hb:Below w.heap.size w w'):Ut base w' v es:=by
 obtain ⟨cs,h1,h2⟩:=h;exact ⟨cs,own_below h1 hb,h2.keep (ZF.of_below hb)⟩
theorem Ut.nil (base:Nat) (w:World):Ut base w (.slice none 0 0) []:=⟨[],World.ownsRow_nil _ _ _ _,EnC.nil _⟩
theorem info_entry:(Tryz.prog.info? 83).map (fun i=>(i.zero,i.size,i.bytes))=some (some (.agg #[.int .i64 0,.bool false,.slice none 0 0,.bool false,.slice none 0 0]),5,72):=by kernel_rfl
theorem Zhk {k:Int} {x y:Bool} {A A':Option Addr} {n c n' c':Nat}:∀u∈[Value.int .i64 k,.bool x,.slice A n c,.bool y,.slice A' n' c'],u.oneCell'=true:=by
 intro u hu;simp at hu;rcases hu with rfl | rfl | rfl | rfl | rfl <;> rfl
theorem Wn {ops:Array Oper} {rest:List Oper} {o:Oper} {a:Act} {Q:Exit→Act→World→Prop} (hgd:o.guard=none) (s x:Operand)
 (ho:o.op= .call { callee:= .builtin .append,args:=#[s,x],argTypes:=#[66,66] })
 (W:World) (base:Nat) (v:Value) (es:List En) (hs:a.eval s=v) (hown:Ut base W v es) (b b':Bool) (A A':Option Addr) (n c n' c':Nat) (k:Int) (f:RF) (hf:Zt W (.agg #[.bool b,.slice A n c,.bool b',.slice A' n' c']) f)
 (hx:a.eval x= .slice (some ⟨W.heap.size,0,none⟩) 1 1) (hn:es.length+1≤1099511627776) (hbase:base≤W.heap.size)
 (h:∀v' w',Ut base w' v' (es++[⟨k,f⟩])→Ze 83 W w'→Below base W w'→wpList Tryz.prog ops Q rest (a.put o.dst v') w'):
 wpList Tryz.prog ops Q (o::rest) a (W.alloc (.cells #[.int .i64 k,.bool b,.slice A n c,.bool b',.slice A' n' c'] 83)):=by
 obtain ⟨cs,h1,h2⟩:=hown;obtain ⟨i0,hi,d,g,i⟩:=info_parts info_entry;refine Zba hgd s x 66 ho 83 i0 _ 5 72 Tryz.underlying66 hi d g i rfl (by decide) W base v es.length cs [.int .i64 k,.bool b,.slice A n c,.bool b',.slice A' n' c'] hs h1 hx rfl Zhk (by unfold maxLen;omega) (by omega) hbase ?_;intro v' w' g1 g2 g3;refine h v' w' ⟨_,by simpa using g1,?_⟩ g2 g3;have hk:=g2.keep (by decide);exact (h2.keep hk).snoc (e:=⟨k,f⟩) (hf.keep hk)
def Ym (base:Nat) (w:World) (v:Value) (cols:List (List En)):Prop:=∃cs,w.ownsRow base 66 1 v cols.length cs∧∀(k:Nat) (c:List En),cols[k]? =some c→∃u,cs[k]? =some u∧Vf w u c
theorem Ym.vecs {base:Nat} {w:World} {v:Value} {cols:List (List En)} (h:Ym base w v cols):XO w v cols:=by
 obtain ⟨cs,h1,h2⟩:=h;exact ⟨cs,V7.of_own h1,h2⟩
theorem Ym.below {base:Nat} {w w':World} {v:Value} {cols:List (List En)} (h:Ym base w v cols) (hb:Below w.heap.size w w'):Ym base w' v cols:=by
 obtain ⟨cs,h1,h2⟩:=h;exact ⟨cs,own_below h1 hb,fun k c hc=>by obtain ⟨u,g1,g2⟩:=h2 k c hc;exact ⟨u,g1,g2.below hb⟩⟩
theorem Ym.but {base:Nat} {w w':World} {e:TypeId} {v:Value} {cols:List (List En)} (h:Ym base w v cols) (hk:Ze e w w') (h0:66≠e) (h1:83≠e) (h2:148≠e):Ym base w' v cols:=by
 obtain ⟨cs,g1,g2⟩:=h;exact ⟨cs,hk.own g1 h0,fun k c hc=>by obtain ⟨u,q1,q2⟩:=g2 k c hc;exact ⟨u,q1,q2.but hk h1 h2⟩⟩
theorem Ym.nil (base:Nat) (w:World):Ym base w (.slice none 0 0) []:=⟨[],World.ownsRow_nil _ _ _ _,fun k c h=>by simp at h⟩
theorem info_vector:(Tryz.prog.info? 66).map (fun i=>(i.zero,i.size,i.bytes))=some (some (.slice none 0 0),1,24):=by kernel_rfl
theorem Zfc {ops:Array Oper} {Q:Exit→Act→World→Prop} {S:World→Prop} {m:Nat} {i:Nat} {is:List Nat} {o:Oper} {a:Act} (hoi:ops[i]? =some o) (hfl:Y7 ops m i=false) (hgd:o.guard=none) (hl0:m≤i) (s x:Operand)
 (ho:o.op= .call { callee:= .builtin .append,args:=#[s,x],argTypes:=#[24,24] })
 (W:World) (base:Nat) (v:Value) (cols:List (List En)) (hs:a.eval s=v) (hown:Ym base W v cols) (A:Option Addr) (n c:Nat) (es:List En) (hf:Vf W (.slice A n c) es)
 (hx:a.eval x= .slice (some ⟨W.heap.size,0,none⟩) 1 1) (hn:cols.length+1≤1099511627776) (hbase:base≤W.heap.size)
 (h:∀v' w',Ym base w' v' (cols++[es])→Ze 66 W w'→Below base W w'→Xl Tryz.prog ops Q S m is (a.put o.dst v') w'):
 Xl Tryz.prog ops Q S m (i::is) a (W.alloc (.cells #[.slice A n c] 66)):=by
 obtain ⟨cs,h1,h2⟩:=hown;obtain ⟨i0,hi,f,g,j⟩:=info_parts info_vector;refine Ue hoi hfl hgd hl0 s x 24 ho 66 i0 _ 1 24 Tryz.underlying24 hi f g j rfl (by decide) W base v cols.length cs [.slice A n c] hs h1 hx rfl (fun u hu=>by simp at hu;subst hu;rfl) (by unfold maxLen;omega) (by omega) hbase ?_;intro v' w' g1 g2 g3;refine h v' w' ⟨_,by simpa using g1,fun k d hd=>?_⟩ g2 g3;have l:cs.length=cols.length:=by simpa using h1.1
 rcases JX k cols.length with hk | hk
 ·rw [List.getElem?_append_left hk] at hd;obtain ⟨u,q1,q2⟩:=h2 k d hd;exact ⟨u,by rw [List.getElem?_append_left (by omega)];exact q1,q2.but g2 (by decide) (by decide)⟩
 ·rw [List.getElem?_append_right hk] at hd;have b:k - cols.length=0:=by
   rcases JV (k - cols.length) with e | e
   ·exact e
   ·rw [JU (by simp;omega)] at hd;cases hd
  rw [b] at hd;simp at hd;subst hd;refine ⟨.slice A n c,?_,hf.but g2 (by decide) (by decide)⟩;rw [List.getElem?_append_right (by omega),show k - cs.length=0 by omega];rfl
theorem Ze.of_below {e:TypeId} {w w':World} (hb:Below w.heap.size w w'):Ze e w w':=fun b _ _ _ _ h=>(hb.block b (Yw h)).trans h
theorem Ze.then {e:TypeId} {w W w':World} (h:Ze e w W) (hb:Below w.heap.size W w'):Ze e w w':=fun b cs t fz ht hc=>(hb.block b (Yw hc)).trans (h b cs t fz ht hc)
theorem Ze.refl (e:TypeId) (w:World):Ze e w w:=fun _ _ _ _ _ h=>h
namespace Pl
theorem Zyh {es:List En} {p:Option Int} {e:En} (h:Inc p es) (hp:es=[]→leP p e.idx=false) (hlt:∀(k:Nat) (d:En),es[k]? =some d→d.idx < e.idx):Inc p (es++[e]):=by
 induction es generalizing p with
 | nil=>exact ⟨hp rfl,trivial⟩
 | cons d es ih=>
  refine ⟨h.1,ih h.2 (fun _=>?_) (fun k c hc=>hlt (k+1) c (by simpa using hc))⟩;have:=hlt 0 d rfl;simp [leP];omega
def Vr (m:Nat) (es:List En):Prop:=Inc none es∧es.length≤m∧∀(k:Nat) (e:En),es[k]? =some e→0≤e.idx∧e.idx < m∧e.f.q≠0∧e.f.Rs 1
theorem Vr.nil:Vr 0 []:=⟨trivial,JY _,fun k e h=>by simp at h⟩
theorem Vr.next {m:Nat} {es:List En} (h:Vr m es):Vr (m+1) es:=⟨h.1,by have:=h.2.1;omega,fun k e he=>by have:=h.2.2 k e he;exact ⟨this.1,by omega,this.2.2⟩⟩
theorem Vr.snoc {m:Nat} {es:List En} (h:Vr m es) {z:Int} (h0:z≠0) (h1: -4294967296 < z) (h2:z < 4294967296):Vr (m+1) (es++[⟨(m:Int),canF (z:Rat)⟩]):=by
 refine ⟨Zyh h.1 (fun _=>rfl) (fun k d hd=>(h.2.2 k d hd).2.1),by simp;exact h.2.1,fun k e he=>?_⟩;rcases JX k es.length with hk | hk
 ·rw [List.getElem?_append_left hk] at he;have:=h.2.2 k e he;exact ⟨this.1,by omega,this.2.2⟩
 ·rw [List.getElem?_append_right hk] at he;have a:k - es.length=0:=by
   rcases JV (k - es.length) with e | e
   ·exact e
   ·rw [JU (by simp;omega)] at he;cases he
  rw [a] at he;simp at he;subst he;refine ⟨by simp only;omega,by simp only;omega,?_,(Zjx h1 h2).rs⟩;simp only [Zu];exact fun e=>h0 (by simpa using congrArg Rat.num e)
theorem Ycg {n:Int} {es:List En} {p:Option Int} (h:Inc p es) (hr:∀(k:Nat) (e:En),es[k]? =some e→0≤e.idx∧e.idx < n∧e.f.q≠0):UD n es p=0:=by
 induction es generalizing p with
 | nil=>rfl
 | cons d es ih=>
  have:=hr 0 d rfl;rw [UD,if_neg (by omega),if_neg (by rw [h.1];simp),if_neg this.2.2];exact ih h.2 fun k e he=>hr (k+1) e (by simpa using he)
theorem Vr.err {m:Nat} {es:List En} (h:Vr m es) (hm:m≤4096):vecErr es m=0:=by
 unfold vecErr;rw [if_neg (by omega)];exact Ycg h.1 fun k e he=>by have:=h.2.2 k e he;exact ⟨this.1,this.2.1,this.2.2.1⟩
end Pl
def Zug (m:Nat) (w:World) (e:Ending) (w':World):Prop:=∃v' es,e= .returned v'∧Ut w.heap.size w' v' es∧Vr m es∧Below w.heap.size w w'
theorem Zqp (v:Value) (zs:List Int) (t m:Nat) (w:World) (h:XE w v zs) (ht:t≤1000000) (hm:m≤1000):
 Calls Tryz.prog 29 #[v,.int .i64 (t:Int),.int .i64 (m:Int)] w (Zug m w):=by
 obtain ⟨a,cap,rfl,F,G⟩:=h.shape;generalize hn:zs.length=n at *;clear hn;go_enter Tryz.func29,Tryz.ntmps29;go_wp2
 go_loopw [7,8] (fun s i wr=>∃(k:Nat) (es:List En),k≤m∧i= .int .i64 k∧Ut w.heap.size wr s es∧Vr k es∧Below w.heap.size w wr) (fun _ i _=>m - (intOf i).toNat)
 case atStart=>exact ⟨0,[],by omega,rfl,Ut.nil _ _,Vr.nil,JR _ _⟩
 case round=>
  obtain ⟨k,es,hk,rfl,j,q,o⟩:=hrel;have HC:=JZ q;clear q;rcases JX k m with hkl | hkl
  ·go_wp2_with fail;refine (Zjw _ zs (t+k) _ (h.below o) (by omega)).mono ?_;rintro _ w1 ⟨z,rfl,z0,z1,r⟩;have c:=j.below r;have b:=Za o r o.size;clear j o r;by_cases hz:z % 6=2
   ·have C:(z % 6 - 2 !=0)=false:=(by simp;omega);clear hz;go_wp2;go_roundw
    case rel=>exact ⟨k+1,es,by omega,by go_num,c,HC.out.next,b⟩
    case measure=>simp [intOf];omega
   ·have C:(z % 6 - 2 !=0)=true:=(by simp;omega);have HZ:Hid (z % 6 - 2≠0):=JZ (by omega);have r1: -2≤z % 6 - 2:=(by omega);have r2:z % 6 - 2≤3:=(by omega);clear hz;go_wp2_with fail;refine (Zjw _ zs (t+k) _ (h.below b) (by omega)).mono ?_;rintro _ w2 ⟨z',rfl,_,_,u⟩;have e:=c.below u;have f:=Za b u b.size;clear c b u;rcases Int.lt_or_le z' 60000 with hlt | hlt
    ·go_wp2_with fail;refine (Y4 (z % 6 - 2) _ (by omega) (by omega)).mono ?_;rintro _ w3 ⟨v3,rfl,e3,x⟩;have g:=e.below x;have p:=Za f x f.size;obtain ⟨B,l,d,B',l',d',rfl,_,_⟩:=id e3.frac;have HF:=JZ e3.frac;have HO:=JZ g;have A:es.length+1≤1099511627776:=(by have:=HC.out.2.1;omega);have D:=p.size;have HS:=JZ (HC.out.snoc (z:=z % 6 - 2) HZ.out (by omega) (by omega));clear e g f x e3;generalize hQ:canF ((z % 6 - 2:Int):Rat)=Q at *;have HQ:=JZ hQ;clear hQ;go_wp2_with (at_builtin;refine Wn rfl (.tmp 32) (.tmp 37) rfl w3 w.heap.size u7 es rfl HO.out _ _ B B' l d l' d' (k:Int) Q HF.out rfl A D ?_);intro v' w4 y H E;go_wp2;go_roundw
     case rel=>exact ⟨k+1,es++[⟨(k:Int),Q⟩],by omega,by go_num,y,HS.out,p.trans E⟩
     case measure=>simp [intOf];omega
    ·go_wp2;go_roundw
     case rel=>exact ⟨k+1,es,by omega,by go_num,e,HC.out.next,f⟩
     case measure=>simp [intOf];omega
  ·obtain rfl:k=m:=by omega
   go_wp2;go_ret;exact ⟨_,es,rfl,j,HC.out,o⟩
theorem Bk.threeF {w:World} {g:Nat} {t:TypeId} {cs:List Value} (h:Bk w g t cs):w.frozen? ⟨g,0,none⟩=false∧w.frozen? ⟨g,1,none⟩=false∧w.frozen? ⟨g,2,none⟩=false:=⟨h.frozen 0,h.frozen 1,h.frozen 2⟩
theorem Z4.own_lt {base:Nat} {w:World} {v:Value} {fs:List RF} (h:Z4 base w v fs):∀g,v.ownBlock=some g→g < w.heap.size:=by
 obtain ⟨cs,h1,h2⟩:=h;intro g hg;rcases h1.2 with ⟨rfl,_⟩ | ⟨g',cap,cur,rfl,_,hgg,_⟩
 ·simp [Value.ownBlock] at hg
 ·simp [Value.ownBlock] at hg;subst hg;exact Yw hgg
theorem Z4.slice {base:Nat} {w:World} {v:Value} {fs:List RF} (h:Z4 base w v fs):∃A c,v= .slice A fs.length c:=by
 obtain ⟨A,c,e,_,_⟩:=h.frs.shape;exact ⟨A,c,e⟩
theorem Ym.slice {base:Nat} {w:World} {v:Value} {fs:List (List En)} (h:Ym base w v fs):∃A c,v= .slice A fs.length c:=by
 obtain ⟨A,c,e,_,_⟩:=h.vecs.shape;exact ⟨A,c,e⟩
theorem Z4.sliceN {base:Nat} {w:World} {v:Value} {fs:List RF} (h:Z4 base w v fs):∃A n c,v= .slice A n c:=by
 obtain ⟨A,c,e⟩:=h.slice;exact ⟨A,_,c,e⟩
theorem Ym.sliceN {base:Nat} {w:World} {v:Value} {fs:List (List En)} (h:Ym base w v fs):∃A n c,v= .slice A n c:=by
 obtain ⟨A,c,e⟩:=h.slice;exact ⟨A,_,c,e⟩
def LpO (base:Nat) (w:World) (v:Value) (p:LPd):Prop:=
 ∃s0 s1 s2 b1,v= .agg #[s0,s1,s2]∧Z4 base w s0 p.cost∧XO w s1 p.cols∧Z4 b1 w s2 p.right∧base≤b1∧∀g,s0.ownBlock=some g→g < b1
namespace Pl
theorem RsL.snoc {k:Nat} {fs:List RF} (h:RsL k fs) {f:RF} (hf:f.Rs k):RsL k (fs++[f]):=fun i g hg=>by
 rcases JX i fs.length with hi | hi
 ·rw [List.getElem?_append_left hi] at hg;exact h i g hg
 ·rw [List.getElem?_append_right hi] at hg
  have:i - fs.length=0:=by
   rcases JV (i - fs.length) with e | e
   ·exact e
   ·rw [JU (by simp;omega)] at hg;cases hg
  rw [this] at hg;simp at hg;subst hg;exact hf
theorem RsL.nil (k:Nat):RsL k []:=fun i f h=>by simp at h
theorem RsL.mono {j k:Nat} {fs:List RF} (h:RsL j fs) (hk:j≤k):RsL k fs:=fun i f hf=>(h i f hf).mono hk
theorem Zuh {m:Nat} {cols:List (List En)} (h:∀(j:Nat) (c:List En),cols[j]? =some c→Vr m c) {es:List En} (he:Vr m es):∀(j:Nat) (c:List En),(cols++[es])[j]? =some c→Vr m c:=fun j c hc=>by
 rcases JX j cols.length with hi | hi
 ·rw [List.getElem?_append_left hi] at hc;exact h j c hc
 ·rw [List.getElem?_append_right hi] at hc
  have:j - cols.length=0:=by
   rcases JV (j - cols.length) with e | e
   ·exact e
   ·rw [JU (by simp;omega)] at hc;cases hc
  rw [this] at hc;simp at hc;subst hc;exact he
def Ych (p:LPd):Prop:=1≤p.right.length∧p.right.length≤3∧p.cols.length≤5∧p.cost.length=p.cols.length∧RsL 1 p.cost∧∀(j:Nat) (c:List En),p.cols[j]? =some c→Vr p.right.length c
theorem Zqq {n:Int} {cs:List (List En)} (h:∀(j:Nat) (c:List En),cs[j]? =some c→vecErr c n=0):Xi n cs=0:=by
 induction cs with
 | nil=>rfl
 | cons c cs ih=>
  rw [Xi,if_pos (h 0 c rfl)];exact ih fun j d hd=>h (j+1) d (by simpa using hd)
theorem Ych.err {p:LPd} (h:Ych p):lpErr p=0:=by
 obtain ⟨h1,h2,h3,h4,h5,h6⟩:=h;unfold lpErr;rw [if_neg (by omega),if_neg (by omega)];exact Zqq fun j c hc=>(h6 j c hc).err (by omega)
theorem Ych.ok {p:LPd} (h:Ych p) {K:Nat} (hK:1≤K) (hr:RsL K p.right):p.Ok K:=by
 obtain ⟨h1,h2,h3,h4,h5,h6⟩:=h;refine ⟨h5.mono hK,hr,fun j c hc=>⟨fun k e he=>?_,fun k e he=>((h6 j c hc).2.2 k e he).2.2.2.mono hK⟩⟩;have:=(h6 j c hc).2.2 k e he;omega
end Pl
theorem Yaa (v:Value) (zs:List Int) (i:Int) (w:World) (h:XE w v zs) (h0:0≤i) (hi:i≤1099511627776):
 Calls Tryz.prog 28 #[v,.int .i64 i] w fun e w'=>∃z:Int,e= .returned (.int .i64 z)∧0≤z∧z≤65535+i∧Below w.heap.size w w':=by
 obtain ⟨k,rfl⟩:=JT h0;exact Zjw v zs k w h (by omega)
theorem Zqr (v:Value) (zs:List Int) (t:Int) (m:Nat) (w:World) (h:XE w v zs) (h0:0≤t) (ht:t≤1000000) (hm:m≤1000):
 Calls Tryz.prog 29 #[v,.int .i64 t,.int .i64 (m:Int)] w (Zug m w):=by
 obtain ⟨k,rfl⟩:=JT h0;exact Zqp v zs k m w h (by omega) hm
def Yep (w:World) (e:Ending) (w':World):Prop:=∃v' p,e= .returned v'∧LpO w.heap.size w' v' p∧Ych p∧RsL 2 p.right∧Below w.heap.size w w'
theorem Ygr (v:Value) (zs:List Int) (w:World) (h:XE w v zs):
 Calls Tryz.prog 7 #[v] w (Yep w):=by
 obtain ⟨a,cap,rfl,b8,b9⟩:=h.shape;generalize hn:zs.length=n at *;clear hn;obtain ⟨W,hW,hR,P⟩:=Y6 w (.slice none 0 0) (.slice none 0 0) (.slice none 0 0);obtain ⟨W1,b6,hX,t⟩:=Y6 W (.slice none 0 0) (.slice none 0 0) (.slice none 0 0);have hR:=hR.later t;have f:=Za P t P.size;have a4:W.heap.size=w.heap.size+1:=by rw [← hW];simp
 rw [a4] at hX;clear P t;go_enter Tryz.func7,Tryz.ntmps7;go_wp2_with fail;clear hW b6 a4;refine (Zjw _ zs 0 _ (h.below f) (by omega)).mono ?_;rintro _ w1 ⟨z,rfl,z0,z1,s⟩;have a5:=hX.later s;have a6:=hR.later s;have t:=Za f s f.size;clear hX hR f s;go_wp2_with fail;refine (Zjw _ zs 1 _ (h.below t) (by omega)).mono ?_;rintro _ w2 ⟨y,rfl,y0,y1,A⟩;have a7:=a5.later A;have a8:=a6.later A;have U:=Za t A t.size;obtain ⟨m,hm⟩:∃m:Nat,1+z % 3=(m:Int):=⟨(1+z % 3).toNat,by omega⟩;obtain ⟨N,ba,bb⟩:∃N:Nat,y % 6≤(N:Int)∧(N:Int)≤y % 6:=⟨(y % 6).toNat,by omega,by omega⟩;have m1:1≤m:=by omega
 have m2:m≤3:=by omega
 have n1:N≤5:=by omega
 clear a5 a6 t A;go_wp2;clear hm z0 z1
 go_loopw [6] (fun i wr=>∃(k:Nat) (s0 s1:Value) (cs:List RF) (cols:List (List En)),k≤N∧i= .int .i64 k∧Below w.heap.size w wr∧Bk wr w.heap.size 26 [.slice none 0 0,.slice none 0 0,.slice none 0 0]∧Bk wr (w.heap.size+1) 26 [s0,s1,.slice none 0 0]∧Z4 w.heap.size wr s0 cs∧Ym w.heap.size wr s1 cols∧cs.length=k∧cols.length=k∧RsL 1 cs∧∀(j:Nat) (c:List En),cols[j]? =some c→Vr m c) (fun i _=>N - (intOf i).toNat)
 case atStart=>exact ⟨0,_,_,[],[],by omega,rfl,U,a8,a7,Z4.nil _ _,Ym.nil _ _,rfl,rfl,RsL.nil _,fun j c h=>by simp at h⟩
 case round=>
  clear U a8 a7;obtain ⟨k,s0,s1,cs,cols,hk,rfl,f,hR,hX,hO,hV,ap,aq,R,ar⟩:=hrel;have a9:=JZ ap;have a0:=JZ aq;have aa:=JZ R;have V:=JZ ar;have L:cs.length+1≤1099511627776:=by omega
  have a1:cols.length+1≤1099511627776:=by omega
  clear ap aq R ar;rcases JX k N with hkl | hkl
  ·obtain ⟨A0,c0,rfl⟩:=hO.slice;obtain ⟨A1,c1,rfl⟩:=hV.slice;obtain ⟨x0,x1,x2⟩:=hX.three;go_wp2_with fail;have C0:=Zp x0;have r:=Zj wr;clear x0 x1 x2;generalize av:Value.slice A0 cs.length c0=s0 at *;generalize aw:Value.slice A1 cols.length c1=s1 at *;clear av aw;refine Zq 10 [0,1,2,3,4,5,6,7,8,9,10,11,12] (by kernel_rfl) (by kernel_rfl) ?_;repeat ((first | (refine Zc (v:=?_) rfl rfl rfl ?_ ?_;rotate_left;(· (intro _ g;go_simp;(try go_bits);(try with_reducible rfl)))) | (refine Zg (v:=?_) rfl rfl rfl ?_ ?_;rotate_left;(· (intro _ g;go_simp;(try go_bits);(try with_reducible rfl)))) | refine Zh rfl rfl rfl ?_);(try simp only [Act.put,pu1,pu2,pu3,pu4,pu5,pu6]))
   refine Zd rfl rfl (fun KR hKR=>?_);go_simp;(with_reducible refine (Yaa _ zs (2+(k:Int)) _ ((h.below f).below r) (by omega) (by omega)).mono ?_);rintro _ w1 ⟨z,rfl,z0,z1,s⟩;have e:=Za r s r.size;refine hKR.out _ _ (Or.inr e) ?_;clear hKR KR;(try simp only [Act.put,pu1,pu2,pu3,pu4,pu5,pu6]);repeat ((first | (refine Zc (v:=?_) rfl rfl rfl ?_ ?_;rotate_left;(· (intro _ g;go_simp;(try go_bits);(try with_reducible rfl)))) | (refine Zg (v:=?_) rfl rfl rfl ?_ ?_;rotate_left;(· (intro _ g;go_simp;(try go_bits);(try with_reducible rfl)))) | refine Zh rfl rfl rfl ?_);(try simp only [Act.put,pu1,pu2,pu3,pu4,pu5,pu6]))
   refine Zd rfl rfl (fun KR hKR=>?_);go_simp;(with_reducible refine (Y4 (z % 10 - 4) _ (by omega) (by omega)).mono ?_);rintro _ w2 ⟨v2,rfl,e2,A⟩;have b:=Za e A e.size;obtain ⟨B,l,d,B',l',d',rfl,_,_⟩:=id e2.frac;have HF:=JZ e2.frac;have a2:=JZ (Zjx (z:=z % 10 - 4) (by omega) (by omega)).rs;clear e2;generalize canF ((z % 10 - 4:Int):Rat)=Q at *;refine hKR.out _ _ (Or.inr b) ?_;clear hKR KR;(try simp only [Act.put,pu1,pu2,pu3,pu4,pu5,pu6]);repeat ((first | (refine Zc (v:=?_) rfl rfl rfl ?_ ?_;rotate_left;(· (intro _ g;go_simp;(try go_bits);(try with_reducible rfl)))) | (refine Zg (v:=?_) rfl rfl rfl ?_ ?_;rotate_left;(· (intro _ g;go_simp;(try go_bits);(try with_reducible rfl)))) | refine Zh rfl rfl rfl ?_);(try simp only [Act.put,pu1,pu2,pu3,pu4,pu5,pu6]))
   refine Zd rfl rfl (fun KR hKR=>?_);go_simp;refine hKR.out _ _ (Or.inr (Za b (Zb _ _) b.size)) ?_;clear hKR KR;(try simp only [Act.put,pu1,pu2,pu3,pu4,pu5,pu6]);have HO:=JZ (hO.below b);have C:w.heap.size≤w2.heap.size:=(by have:=f.size;have:=b.size;omega);refine VJ rfl rfl rfl (by decide) (.tmp 21) (.tmp 29) rfl w2 w.heap.size s0 cs rfl HO.out _ _ B B' l d l' d' Q HF.out rfl L C ?_;intro v' w4 o E H;obtain ⟨A4,n4,c4,rfl⟩:=o.sliceN;(try simp only [Act.put,pu1,pu2,pu3,pu4,pu5,pu6]);have u:=E.bk (hX.later b) (by decide);have M:=E.bk (hR.later b) (by decide);have ab:=(hV.below b).but E (by decide) (by decide) (by decide);have D:=(Za f b f.size).trans H;obtain ⟨c0,c1,c2⟩:=u.three;obtain ⟨f0,f1,f2⟩:=u.threeF;refine Zd rfl rfl (fun KR hKR=>?_);go_simp;refine hKR.out _ _ (Or.inl (by decide)) ?_;clear hKR KR;(try simp only [Act.put,pu1,pu2,pu3,pu4,pu5,pu6]);refine Zd rfl rfl (fun KR hKR=>?_);go_simp;refine hKR.out _ _ (Or.inl (by decide)) ?_;clear hKR KR;(try simp only [Act.put,pu1,pu2,pu3,pu4,pu5,pu6]);refine Zz ?_;generalize hv':Value.slice A4 n4 c4=v' at *;clear hv';have F:=u.set_ 0 v';have K:=M.far (p:=⟨w.heap.size+1,0,none⟩) (by simp) v';have G:=Ze.setCell u 0 v';have S:=o.but G (by decide) (by decide);have ac:=ab.but G (by decide) (by decide) (by decide);have x:=D.setCell (p:=⟨w.heap.size+1,0,none⟩) (by simp) v';generalize w4.setCell ⟨w.heap.size+1,0,none⟩ v'=W5 at *;clear u M G o ab D E H c0 c1 c2 f0 f1 f2 hX hR hO hV r e b s A HO HF C0 C f;have ad:=JZ (aa.out.snoc a2.out);simp only [List.set_cons_zero] at F;obtain ⟨x0,x1,x2⟩:=F.three;go_wp2_with fail;have C1:=Zp x1;have r:=Zj W5;clear x0 x1 x2;refine Zq 9 [0,1,2,3,4,5,6,7,8,9,10,11] (by kernel_rfl) (by kernel_rfl) ?_;repeat ((first | (refine Zc (v:=?_) rfl rfl rfl ?_ ?_;rotate_left;(· (intro _ g;go_simp;(try go_bits);(try with_reducible rfl)))) | (refine Zg (v:=?_) rfl rfl rfl ?_ ?_;rotate_left;(· (intro _ g;go_simp;(try go_bits);(try with_reducible rfl)))) | refine Zh rfl rfl rfl ?_);(try simp only [Act.put,pu1,pu2,pu3,pu4,pu5,pu6]))
   refine Zd rfl rfl (fun KR hKR=>?_);go_simp;(with_reducible refine (Zqr _ zs (8+3 * (k:Int)) m _ ((h.below x).below r) (by omega) (by omega) (by omega)).mono ?_);rintro _ w1 ⟨v1,es,rfl,e1,Z,s⟩;have e:=Za r s r.size;obtain ⟨Ae,ce,rfl,_,_⟩:=e1.vec.shape;have HE:=JZ e1.vec;have ay:=JZ Z;clear e1 Z;refine hKR.out _ _ (Or.inr e) ?_;clear hKR KR;(try simp only [Act.put,pu1,pu2,pu3,pu4,pu5,pu6]);repeat ((first | (refine Zc (v:=?_) rfl rfl rfl ?_ ?_;rotate_left;(· (intro _ g;go_simp;(try go_bits);(try with_reducible rfl)))) | (refine Zg (v:=?_) rfl rfl rfl ?_ ?_;rotate_left;(· (intro _ g;go_simp;(try go_bits);(try with_reducible rfl)))) | refine Zh rfl rfl rfl ?_);(try simp only [Act.put,pu1,pu2,pu3,pu4,pu5,pu6]))
   refine Zd rfl rfl (fun KR hKR=>?_);go_simp;refine hKR.out _ _ (Or.inr (Za e (Zb _ _) e.size)) ?_;clear hKR KR;(try simp only [Act.put,pu1,pu2,pu3,pu4,pu5,pu6]);have HO:=JZ (ac.below e);have C:w.heap.size≤w1.heap.size:=(by have:=x.size;have:=e.size;omega);refine Zfc rfl rfl rfl (by decide) (.tmp 33) (.tmp 40) rfl w1 w.heap.size s1 cols rfl HO.out Ae es.length ce es HE.out rfl a1 C ?_;intro I w6 J T au;obtain ⟨A6,n6,c6,rfl⟩:=J.sliceN;(try simp only [Act.put,pu1,pu2,pu3,pu4,pu5,pu6]);have O:=T.bk (F.later e) (by decide);have ae:=T.bk (K.later e) (by decide);have af:=(S.below e).but T (by decide) (by decide);have X:=(Za x e x.size).trans au;obtain ⟨c0,c1,c2⟩:=O.three;obtain ⟨f0,f1,f2⟩:=O.threeF;refine Zd rfl rfl (fun KR hKR=>?_);go_simp;refine hKR.out _ _ (Or.inl (by decide)) ?_;clear hKR KR;(try simp only [Act.put,pu1,pu2,pu3,pu4,pu5,pu6]);refine Zd rfl rfl (fun KR hKR=>?_);go_simp;refine hKR.out _ _ (Or.inl (by decide)) ?_;clear hKR KR;(try simp only [Act.put,pu1,pu2,pu3,pu4,pu5,pu6]);refine Zz ?_;generalize hv'':Value.slice A6 n6 c6=I at *;clear hv'';have ag:=O.set_ 1 I;have az:=ae.far (p:=⟨w.heap.size+1,1,none⟩) (by simp) I;have a3:=Ze.setCell O 1 I;have b0:=af.but a3 (by decide) (by decide);have b1:=J.but a3 (by decide) (by decide) (by decide);have ah:=X.setCell (p:=⟨w.heap.size+1,1,none⟩) (by simp) I;generalize w6.setCell ⟨w.heap.size+1,1,none⟩ I=W7 at *;clear O ae a3 J af X T au c0 c1 c2 f0 f1 f2 F K S ac r e s HO HE C1 C x;simp only [List.set_cons_zero,List.set_cons_succ] at ag;go_wp2;go_roundw
   case rel=>exact ⟨k+1,v',I,cs++[Q],cols++[es],by omega,by go_num,ah,az,ag,b0,b1,by rw [List.length_append,a9.out];rfl,by rw [List.length_append,a0.out];rfl,ad.out,Zuh V.out ay.out⟩
   case measure=>simp [intOf];omega
  ·obtain rfl:k=N:=by omega
   have Y:=hO.own_lt;have ai:=JZ Y;clear Y;go_wp2;generalize b7:wr=w9 at *;clear b7;have aj:=Ze.refl 26 w9
   go_loopw [7] (fun i wr=>∃(k:Nat) (s2:Value) (rs:List RF),k≤m∧i= .int .i64 k∧Below w.heap.size w wr∧Ze 26 w9 wr∧w9.heap.size≤wr.heap.size∧Bk wr w.heap.size 26 [.slice none 0 0,.slice none 0 0,.slice none 0 0]∧Bk wr (w.heap.size+1) 26 [s0,s1,s2]∧Z4 w9.heap.size wr s2 rs∧rs.length=k∧RsL 2 rs) (fun i _=>m - (intOf i).toNat)
   case atStart=>exact ⟨0,_,[],by omega,rfl,f,aj,JY _,hR,hX,Z4.nil _ _,rfl,RsL.nil _⟩
   case round=>
    have ak:=f.size;have b2:=JZ hO;have b3:=JZ hV;clear f hR hX hO hV aj;obtain ⟨i,s2,rs,hi,rfl,f,hK,h9,hR,hX,hO,hl,R⟩:=hrel;have HL:=JZ hl;have al:=JZ R;have L:rs.length+1≤1099511627776:=(by omega);clear hl R;rcases JX i m with hil | hil
    ·obtain ⟨x0,x1,x2⟩:=hX.three;obtain ⟨A2,c2,rfl⟩:=hO.slice;go_wp2_with fail;have C2:=Zp x2;have r:=Zj wr;clear x0 x1 x2;generalize ax:Value.slice A2 rs.length c2=s2 at *;clear ax;refine Zq 8 [0,1,2,3,4,5,6,7,8,9,10] (by kernel_rfl) (by kernel_rfl) ?_;repeat ((first | (refine Zc (v:=?_) rfl rfl rfl ?_ ?_;rotate_left;(· (intro _ g;go_simp;(try go_bits);(try with_reducible rfl)))) | (refine Zg (v:=?_) rfl rfl rfl ?_ ?_;rotate_left;(· (intro _ g;go_simp;(try go_bits);(try with_reducible rfl)))) | refine Zh rfl rfl rfl ?_);(try simp only [Act.put,pu1,pu2,pu3,pu4,pu5,pu6]))
     refine Zd rfl rfl (fun KR hKR=>?_);go_simp;(with_reducible refine (Yaa _ zs (30+(i:Int)) _ ((h.below f).below r) (by omega) (by omega)).mono ?_);rintro _ w1 ⟨z,rfl,z0,z1,s⟩;have e:=Za r s r.size;refine hKR.out _ _ (Or.inr e) ?_;clear hKR KR;(try simp only [Act.put,pu1,pu2,pu3,pu4,pu5,pu6]);repeat ((first | (refine Zc (v:=?_) rfl rfl rfl ?_ ?_;rotate_left;(· (intro _ g;go_simp;(try go_bits);(try with_reducible rfl)))) | (refine Zg (v:=?_) rfl rfl rfl ?_ ?_;rotate_left;(· (intro _ g;go_simp;(try go_bits);(try with_reducible rfl)))) | refine Zh rfl rfl rfl ?_);(try simp only [Act.put,pu1,pu2,pu3,pu4,pu5,pu6]))
     refine Zd rfl rfl (fun KR hKR=>?_);go_simp;(with_reducible refine (Zyg z _).mono ?_);rintro _ w2 ⟨v2,q,rfl,e2,sq,A⟩;have b:=Za e A e.size;obtain ⟨B,l,d,B',l',d',rfl,_,_⟩:=id e2.frac;have HF:=JZ e2.frac;have a2:=JZ sq.rs;clear e2 sq;generalize canF q=Q at *;refine hKR.out _ _ (Or.inr b) ?_;clear hKR KR;(try simp only [Act.put,pu1,pu2,pu3,pu4,pu5,pu6]);repeat ((first | (refine Zc (v:=?_) rfl rfl rfl ?_ ?_;rotate_left;(· (intro _ g;go_simp;(try go_bits);(try with_reducible rfl)))) | (refine Zg (v:=?_) rfl rfl rfl ?_ ?_;rotate_left;(· (intro _ g;go_simp;(try go_bits);(try with_reducible rfl)))) | refine Zh rfl rfl rfl ?_);(try simp only [Act.put,pu1,pu2,pu3,pu4,pu5,pu6]))
     refine Zd rfl rfl (fun KR hKR=>?_);go_simp;refine hKR.out _ _ (Or.inr (Za b (Zb _ _) b.size)) ?_;clear hKR KR;(try simp only [Act.put,pu1,pu2,pu3,pu4,pu5,pu6]);have HO:=JZ (hO.below b);have C:w9.heap.size≤w2.heap.size:=(by have:=b.size;omega);refine VJ rfl rfl rfl (by decide) (.tmp 49) (.tmp 55) rfl w2 w9.heap.size s2 rs rfl HO.out _ _ B B' l d l' d' Q HF.out rfl L C ?_;intro v' w4 o E H;obtain ⟨A4,n4,c4,rfl⟩:=o.sliceN;(try simp only [Act.put,pu1,pu2,pu3,pu4,pu5,pu6]);have u:=E.bk (hX.later b) (by decide);have M:=E.bk (hR.later b) (by decide);have am:=(hK.then (b.mono h9)).then H;have D:=(Za f b f.size).trans (H.mono ak);obtain ⟨c0,c1,c2⟩:=u.three;obtain ⟨f0,f1,f2⟩:=u.threeF;refine Zd rfl rfl (fun KR hKR=>?_);go_simp;refine hKR.out _ _ (Or.inl (by decide)) ?_;clear hKR KR;(try simp only [Act.put,pu1,pu2,pu3,pu4,pu5,pu6]);refine Zd rfl rfl (fun KR hKR=>?_);go_simp;refine hKR.out _ _ (Or.inl (by decide)) ?_;clear hKR KR;(try simp only [Act.put,pu1,pu2,pu3,pu4,pu5,pu6]);refine Zz ?_;generalize hv':Value.slice A4 n4 c4=v' at *;clear hv';have F:=u.set_ 2 v';have K:=M.far (p:=⟨w.heap.size+1,2,none⟩) (by simp) v';have G:=Ze.setCell u 2 v';have S:=o.but G (by decide) (by decide);have b4:=am.trans G;have x:=D.setCell (p:=⟨w.heap.size+1,2,none⟩) (by simp) v';have b5:w9.heap.size≤(w4.setCell ⟨w.heap.size+1,2,none⟩ v').heap.size:=by
      have:=H.size;simp;omega
     generalize w4.setCell ⟨w.heap.size+1,2,none⟩ v'=W5 at *;clear u M G o D E H c0 c1 c2 f0 f1 f2 hX hR hO r e b s A HO HF C2 C f hK am h9;simp only [List.set_cons_zero,List.set_cons_succ] at F;go_wp2;go_roundw
     case rel=>exact ⟨i+1,v',rs++[Q],by omega,by go_num,x,b4,b5,K,F,S,by rw [List.length_append,HL.out];rfl,al.out.snoc a2.out⟩
     case measure=>simp [intOf];omega
    ·obtain rfl:i=m:=by omega
     have an:=b2.out.but hK (by decide) (by decide);have ao:=b3.out.but hK (by decide) (by decide) (by decide);obtain ⟨x0,x1,x2⟩:=hX.three;obtain ⟨c0,c1,c2⟩:=hR.three;obtain ⟨f0,f1,f2⟩:=hR.threeF;obtain ⟨A0,d0,rfl⟩:=an.slice;obtain ⟨A1,d1,rfl⟩:=ao.slice;obtain ⟨A2,d2,rfl⟩:=hO.slice;go_wp2;generalize av:Value.slice A0 cs.length d0=s0 at *;generalize aw:Value.slice A1 cols.length d1=s1 at *;generalize ax:Value.slice A2 rs.length d2=s2 at *;have K:=((hR.set_ 0 s0).set_ 1 s1).set_ 2 s2;refine Zn Tryz.results7 Tryz.underlying26 (by kernel_rfl) rfl K rfl ?_;have k1:=Ze.setCell hR 0 s0;have k2:=Ze.setCell (hR.set_ 0 s0) 1 s1;have k3:=Ze.setCell ((hR.set_ 0 s0).set_ 1 s1) 2 s2;have k4:=(k1.trans k2).trans k3;refine ⟨_,⟨cs,cols,rs⟩,rfl,⟨s0,s1,s2,w9.heap.size,rfl,an.but k4 (by decide) (by decide),(ao.but k4 (by decide) (by decide) (by decide)).vecs,hO.but k4 (by decide) (by decide),ak,ai.out⟩,⟨by rw [HL.out];exact m1,by rw [HL.out];exact m2,by rw [a0.out];exact n1,by rw [a9.out,a0.out],aa.out,fun j c hc=>by rw [HL.out];exact V.out j c hc⟩,al.out,?_⟩;exact ((f.setCell (p:=⟨w.heap.size,0,none⟩) (JY _) s0).setCell (p:=⟨w.heap.size,1,none⟩) (JY _) s1).setCell (p:=⟨w.heap.size,2,none⟩) (JY _) s2
def ZW (g:Option Nat) (w w':World):Prop:=w.heap.size≤w'.heap.size∧∀b,b < w.heap.size→some b≠g→w'.heap[b]? =w.heap[b]?
theorem ZW.bk {g:Option Nat} {w w':World} {b:Nat} {t:TypeId} {cs:List Value} (h:ZW g w w') (hb:Bk w b t cs) (hne:some b≠g):Bk w' b t cs:=(h.2 b hb.lt hne).trans hb
theorem ZW.of_set {g i:Nat} {w:World} {v:Value}:ZW (some g) w (w.setCell ⟨g,i,none⟩ v):=⟨by simp,fun b _ hne=>heap_setCell_other w _ _ _ (fun e=>hne (by rw [e]))⟩
theorem ZW.trans {g:Option Nat} {a b c:World} (h:ZW g a b) (k:ZW g b c):ZW g a c:=⟨JW h.1 k.1,fun x hx hne=>(k.2 x (Nat.lt_of_lt_of_le hx h.1) hne).trans (h.2 x hx hne)⟩
theorem Z4.others {base:Nat} {w w':World} {g:Option Nat} {v:Value} {fs:List RF} (h:Z4 base w v fs) (ho:ZW g w w') (hk:ZF w w') (hne:∀b,v.ownBlock=some b→some b≠g):Z4 base w' v fs:=by
 obtain ⟨cs,h1,h2⟩:=h;refine ⟨cs,⟨h1.1,?_⟩,h2.keep hk⟩;rcases h1.2 with hn | ⟨g',cap,cur,rfl,hb',hgg,rest⟩
 ·exact .inl hn
 ·exact .inr ⟨g',cap,cur,rfl,hb',(ho.2 g' (Yw hgg) (hne g' (by simp [Value.ownBlock]))).trans hgg,rest⟩
namespace Pl
def Ygs (cols:List (List En)) (j:Nat):Nat→Rat:=match cols[j]? with | some c=>Wl c | none=>fun _=>0
theorem Zyi (p:LPd) (j:Nat):p.col (j:Int)=Ygs p.cols j:=by
 unfold LPd.col Ygs;rw [if_pos (by omega),JP]
 cases p.cols[j]? <;> rfl
end Pl
theorem Z4.monoB {base base':Nat} {w:World} {v:Value} {fs:List RF} (h:Z4 base w v fs) (hb:base'≤base):Z4 base' w v fs:=by
 obtain ⟨cs,h1,h2⟩:=h;exact ⟨cs,Wy h1 hb,h2⟩
def Zai (n:Nat) (G C:Nat→Nat) (r:Nat):Value:= .slice (some ⟨G r,0,none⟩) n (C r)
def Zqs (m n:Nat) (G C:Nat→Nat):List Value:=(List.range m).map (Zai n G C)
theorem Zaj {m n r:Nat} {G C:Nat→Nat} (h:r < m):(Zqs m n G C)[r]? =some (Zai n G C r):=by simp [Zqs,h]
theorem Zjy (m n:Nat) (G C:Nat→Nat):(Zqs m n G C).length=m:=by simp [Zqs]
theorem Yq {w:World} {g i j k l:Nat} {x y z u:Value}:ZW (some g) w ((((w.setCell ⟨g,i,none⟩ x).setCell ⟨g,j,none⟩ y).setCell ⟨g,k,none⟩ z).setCell ⟨g,l,none⟩ u):=
 ((ZW.of_set.trans ZW.of_set).trans ZW.of_set).trans ZW.of_set
namespace Pl
def rfL (n:Nat) (f:Nat→RF):List RF:=(List.range n).map f
theorem Zr (n:Nat) (f:Nat→RF):(rfL n f).length=n:=by simp [rfL]
theorem Yi {n i:Nat} {f:Nat→RF} (h:i < n):(rfL n f)[i]? =some (f i):=by simp [rfL,h]
theorem Xv {n:Nat} {f g:Nat→RF} (h:∀i,i < n→f i=g i):rfL n f=rfL n g:=by
 refine List.ext_getElem? fun i=>?_
 rcases JX i n with e | e
 ·rw [Yi e,Yi e,h i e]
 ·rw [JU (by rw [Zr];exact e),JU (by rw [Zr];exact e)]
theorem Vk {n k:Nat} {f:Nat→RF} {q:RF} (h:k < n):(rfL n f).set k q=rfL n fun i=>if i=k then q else f i:=by
 refine List.ext_getElem? fun i=>?_
 rcases JX i n with e | e
 ·rw [Yi e,List.getElem?_set];by_cases g:k=i
  ·subst g;rw [if_pos rfl,Zr,if_pos h,if_pos rfl]
  ·rw [if_neg g,Yi e,if_neg fun g'=>g g'.symm]
 ·rw [JU (by rw [List.length_set,Zr];exact e),JU (by rw [Zr];exact e)]
theorem Zmj (n:Nat) (f:Nat→Rat):rfL n (fun i=>canF (f i))=Yj n f:=rfl
theorem Zhl {n i:Nat} {f:Nat→RF} (h:i < n):qAt (rfL n f) i=(f i).q:=Yo (Yi h)
def Yci (M:Nat→Nat→RF) (r i:Nat) (q:RF):Nat→Nat→RF:=fun s c=>if s=r∧c=i then q else M s c
end Pl
def Zcg (base:Nat) (w:World) (v:Value) (m n:Nat) (M:Nat→Nat→RF) (G C:Nat→Nat):Prop:=
 w.ownsRow base 23 1 v m (Zqs m n G C)∧(∀r,r < m→Z4 base w (Zai n G C r) (rfL n (M r)))∧∀r s,r < m→s < m→G r=G s→r=s
theorem Zcg.below {base:Nat} {w w':World} {v:Value} {m n:Nat} {M:Nat→Nat→RF} {G C:Nat→Nat} (h:Zcg base w v m n M G C) (hb:Below w.heap.size w w'):Zcg base w' v m n M G C:=
 ⟨own_below h.1 hb,fun r hr=>(h.2.1 r hr).below hb,h.2.2⟩
theorem Zcg.lt {base:Nat} {w:World} {v:Value} {m n:Nat} {M:Nat→Nat→RF} {G C:Nat→Nat} (h:Zcg base w v m n M G C) {r:Nat} (hr:r < m) (hn:0 < n):base≤G r∧G r < w.heap.size∧n≤C r∧C r≤9223372036854775807:=by
 obtain ⟨g,c,hv,h1,h2,h3,h4⟩:=(h.2.1 r hr).shape (by rw [Zr];exact hn);rw [Zr] at hv h3;unfold Zai at hv;injection hv with e1 e2 e3;injection e1 with e1;injection e1 with e1;subst e1 e3;exact ⟨h1,h2,h3,h4⟩
theorem Zcg.outer {base:Nat} {w:World} {v:Value} {m n:Nat} {M:Nat→Nat→RF} {G C:Nat→Nat} (h:Zcg base w v m n M G C) (hm:0 < m):
 ∃g c,v= .slice (some ⟨g,0,none⟩) m c∧base≤g∧g < w.heap.size∧m≤c∧c≤9223372036854775807∧∀r,r < m→w.cell? ⟨g,r,none⟩=some (Zai n G C r)∧w.frozen? ⟨g,r,none⟩=false:=by
 have h0:=h.1;rcases h.1.2 with ⟨rfl,e⟩ | ⟨g,cap,cur,rfl,hb,hg,hnc,hcm,hcs,htake⟩
 ·omega
 ·unfold maxLen at hcm;exact ⟨g,cap,rfl,hb,Yw hg,hnc,by omega,fun r hr=>ZM h0 (Zaj hr)⟩
theorem Zcg.at_ {base:Nat} {w:World} {v:Value} {m n:Nat} {M:Nat→Nat→RF} {G C:Nat→Nat} (h:Zcg base w v m n M G C) {r c:Nat} (hr:r < m) (hc:c < n):
 ∃A1 n1 c1 A2 n2 c2,(w.cell? ⟨G r,c * 4,none⟩=some (.bool (M r c).num.neg)∧w.cell? ⟨G r,c * 4+1,none⟩=some (.slice A1 n1 c1)∧w.cell? ⟨G r,c * 4+2,none⟩=some (.bool (M r c).den.neg)∧w.cell? ⟨G r,c * 4+3,none⟩=some (.slice A2 n2 c2))∧Zt w (.agg #[.bool (M r c).num.neg,.slice A1 n1 c1,.bool (M r c).den.neg,.slice A2 n2 c2]) (M r c):=by
 obtain ⟨b,d,A1,n1,c1,A2,n2,c2,hA,_,a,hm⟩:=(h.2.1 r hr).frs.elem (JR _ _) (Yi hc);injection hA with hA;injection hA with e1 e2;subst e1 e2;simp only [Nat.zero_add] at a;exact ⟨A1,n1,c1,A2,n2,c2,a,hm⟩
theorem Zcg.frozen {base:Nat} {w:World} {v:Value} {m n:Nat} {M:Nat→Nat→RF} {G C:Nat→Nat} (h:Zcg base w v m n M G C) {r c:Nat} (hr:r < m) (hc:c < n):
 w.frozen? ⟨G r,c * 4,none⟩=false∧w.frozen? ⟨G r,c * 4+1,none⟩=false∧w.frozen? ⟨G r,c * 4+2,none⟩=false∧w.frozen? ⟨G r,c * 4+3,none⟩=false:=by
 obtain ⟨_,_,_,_,_,hf,_⟩:=(h.2.1 r hr).at_ (Yi hc);exact hf
theorem Zcg.set_ {base:Nat} {w:World} {v:Value} {m n:Nat} {M:Nat→Nat→RF} {G C:Nat→Nat} (h:Zcg base w v m n M G C) {r c:Nat} (hr:r < m) (hc:c < n) {x y z u:Value} {q:RF} (hf:Zt w (.agg #[x,y,z,u]) q):
 Zcg base ((((w.setCell ⟨G r,c * 4,none⟩ x).setCell ⟨G r,c * 4+1,none⟩ y).setCell ⟨G r,c * 4+2,none⟩ z).setCell ⟨G r,c * 4+3,none⟩ u) v m n (Yci M r c q) G C∧
 Ze 46 w ((((w.setCell ⟨G r,c * 4,none⟩ x).setCell ⟨G r,c * 4+1,none⟩ y).setCell ⟨G r,c * 4+2,none⟩ z).setCell ⟨G r,c * 4+3,none⟩ u):=by
 obtain ⟨hs,hk⟩:=Z4.set_ (h.2.1 r hr) (k:=c) (by rw [Zr];exact hc) hf;rw [Vk hc] at hs;refine ⟨⟨hk.own h.1 (by decide),fun s hs'=>?_,h.2.2⟩,hk⟩;by_cases e:s=r
 ·subst e;have:rfL n (Yci M s c q s)=rfL n (fun i=>if i=c then q else M s i):=Xv fun i _=>by
   unfold Yci;by_cases e:i=c
   ·rw [if_pos ⟨rfl,e⟩,if_pos e]
   ·rw [if_neg (by omega),if_neg e]
  rw [this];exact hs
 ·have:rfL n (Yci M r c q s)=rfL n (M s):=Xv fun i _=>by unfold Yci;rw [if_neg (by omega)]
  rw [this];refine (h.2.1 s hs').others Yq (hk.keep (by decide)) fun b hb hne=>?_
  simp [Zai,Value.ownBlock] at hb;injection hne with hne;exact e (h.2.2 s r hs' hr (by omega))
theorem Zcg.far {base:Nat} {w w':World} {v:Value} {m n:Nat} {M:Nat→Nat→RF} {G C:Nat→Nat} (h:Zcg base w v m n M G C) {g:Nat} (ho:ZW (some g) w w') (hk:Ze 46 w w') (hne:∀r,r < m→G r≠g):Zcg base w' v m n M G C:=
 ⟨hk.own h.1 (by decide),fun r hr=>(h.2.1 r hr).others ho (hk.keep (by decide)) fun b hb e=>by
  simp [Zai,Value.ownBlock] at hb
  injection e with e
  exact hne r hr (by omega),h.2.2⟩
theorem Zcg.but {base:Nat} {w w':World} {v:Value} {m n:Nat} {M:Nat→Nat→RF} {G C:Nat→Nat} {e:TypeId} (h:Zcg base w v m n M G C) (hk:Ze e w w') (h1:23≠e) (h2:46≠e) (h3:148≠e):Zcg base w' v m n M G C:=
 ⟨hk.own h.1 h1,fun r hr=>(h.2.1 r hr).but hk h2 h3,h.2.2⟩
theorem Zcg.cellAt {base:Nat} {w:World} {m n:Nat} {M:Nat→Nat→RF} {G C:Nat→Nat} {g c:Nat} (h:Zcg base w (.slice (some ⟨g,0,none⟩) m c) m n M G C) {r:Nat} (hr:r < m):w.cell? ⟨g,r,none⟩=some (Zai n G C r)∧w.frozen? ⟨g,r,none⟩=false:=ZM h.1 (Zaj hr)
namespace Pl
theorem zeroF_sm:zeroF.Sm:=(Wz 1).sm (by decide)
theorem Zjz {es:List En} {i:Nat} (h:∀(k:Nat) (e:En),es[k]? =some e→e.idx≠(i:Int)) (f:Nat→Rat):dQ es f i=f i:=by
 induction es generalizing f with
 | nil=>rfl
 | cons e es ih=>
  rw [dQ,ih fun k d hd=>h (k+1) d (by simpa using hd)];rw [if_neg (h 0 e rfl)]
theorem Ycj {es:List En} (h:Inc none es) {k i:Nat} {e:En} (he:es[k]? =some e) (hi:e.idx=(i:Int)):Wl es i=e.f.q:=by
 have b:∀(es:List En) (p:Option Int) (f:Nat→Rat) (k:Nat),Inc p es→es[k]? =some e→dQ es f i=e.f.q:=by
  intro es
  induction es with
  | nil=>intro p f k _ hk;simp at hk
  | cons c es ih=>
   intro p f k a hk
   match k,hk with
   | 0,hk=>
    simp at hk;subst hk;rw [dQ,Zjz fun j d hd e2=>by
     have:=Zod a 0 (j+1) c d (by omega) rfl (by simpa using hd);omega,if_pos hi]
   | k+1,hk=>rw [dQ];exact ih _ _ k a.2 (by simpa using hk)
 exact b es none _ k h he
end Pl
theorem VZ (v:Value) (a:RF) (w:World) (h:Zt w v a) (hs:a.Sm):
 Calls Tryz.prog 132 #[v] w fun e w'=>∃v',e= .returned v'∧Zt w' v' (canF a.q)∧Below w.heap.size w w':=by
 obtain ⟨A,n,c,A',n',c',rfl,_,_⟩:=id h;obtain ⟨W,hW,_,hX,hR,f⟩:=Zis w (.bool a.num.neg) (.slice A n c) (.bool a.den.neg) (.slice A' n' c') (.bool false) (.slice none 0 0) (.bool false) (.slice none 0 0);obtain ⟨p1,p2,p3,p4⟩:=hX.four;have e1:=h.below f;clear h;go_enter Tryz.func132,Tryz.ntmps132;go_wp2_with fail;clear hW;refine (VW _ _ a zeroF _ e1 (Zt.zero _) hs zeroF_sm).mono ?_;rw [zeroF_q,Rat.add_zero];rintro _ w1 ⟨v1,rfl,e2,g⟩;obtain ⟨B,m,d,B',m',d',rfl,_,_⟩:=id e2;have b:=hR.later g;obtain ⟨c0,c1,c2,c3⟩:=b.four;obtain ⟨f0,f1,f2,f3⟩:=b.fourF;go_wp2;refine Zn Tryz.results132 Tryz.underlying46 (by kernel_rfl) rfl (b.set4 _ _ _ _) rfl ?_;exact Z0 b e2 (Za f g f.size) (by omega)
theorem YI (v:Value) (fs:List RF) (K:Nat) (w:World) (h:Xh w v fs) (hl:fs.length≤4096) (hk:RsL K fs) (hK:K≤34359738368):
 Calls Tryz.prog 79 #[v] w fun e w'=>∃v',e= .returned (.tuple #[v',.int .i64 0])∧Ut w.heap.size w' v' (spV (qAt fs) fs.length)∧Below w.heap.size w w':=by
 obtain ⟨A,c,rfl,P,R⟩:=h.shape;have H:=JZ h;have HK:=JZ hk;generalize hn:fs.length=n at *;have HN:=JZ hn;have N:(n:Int)≤4096:=by omega
 clear h hk hn;go_enter Tryz.func79,Tryz.ntmps79;go_wp2
 go_loopw [4,12] (fun u i wr=>∃k:Nat,k≤n∧i= .int .i64 k∧Ut w.heap.size wr u (spV (qAt fs) k)∧Below w.heap.size w wr) (fun _ i _=>n - (intOf i).toNat)
 case atStart=>exact ⟨0,by omega,rfl,Ut.nil _ _,JR _ _⟩
 case round=>
  obtain ⟨k,hk,rfl,hO,j⟩:=hrel;rcases JX k n with hkl | hkl
  ·obtain ⟨f,hf⟩:=Yb (fs:=fs) (i:=k) (by rw [HN.out];exact hkl);obtain ⟨b,S,A1,n1,k1,A2,n2,k2,rfl,T,⟨q0,q1,q2,q3⟩,E⟩:=H.out.elem j hf;have HQ:=JZ (Yo hf);have F:f.Sm:=(HK.out k f hf).sm hK;obtain ⟨W1,J,hX,o⟩:=YN wr (.bool f.num.neg) (.slice A1 n1 k1) (.bool f.den.neg) (.slice A2 n2 k2);have O:(k:Int) < n:=(by omega);have r:=E.below o;have x:=hO.below o;have g:=Za j o j.size;obtain ⟨x0,x1,x2,x3⟩:=hX.four;clear hf E hO j;go_wp2_with fail;clear J q0 q1 q2 q3;refine (Zx _ f _ r).mono ?_;rintro _ w2 ⟨rfl,m⟩;have y:=hX.later m;have s:=x.below m;have a:=Za g m g.size;have z:=r.below m;clear x0 x1 x2 x3 hX x g r m o;by_cases hq:f.q=0
   ·have G:(qs f.q !=0)=false:=(by rw [hq];decide);have HS:Hid (spV (qAt fs) (k+1)=spV (qAt fs) k):=JZ (Xf (by rw [HQ.out];exact hq));clear hq;go_wp2;go_roundw
    case rel=>exact ⟨k+1,by omega,by go_num,by rw [HS.out];exact s,a⟩
    case measure=>simp [intOf];omega
   ·have G:(qs f.q !=0)=true:=(by simpa using fun e=>hq (Yp.1 e));have HS:Hid (spV (qAt fs) (k+1)=spV (qAt fs) k++[⟨(k:Int),canF f.q⟩]):=JZ (by rw [← HQ.out];exact Xu (by rw [HQ.out];exact hq));clear hq;obtain ⟨x0,x1,x2,x3⟩:=y.four;go_wp2_with fail;refine (VZ _ f _ z F).mono ?_;rintro _ w3 ⟨v3,rfl,e3,t⟩;have C:=s.below t;have p:=Za a t a.size;obtain ⟨B,l,d,B',l',d',rfl,_,_⟩:=id e3;have HF:=JZ e3;have HO:=JZ C;have D:(spV (qAt fs) k).length+1≤1099511627776:=(by have:=WR (f:=qAt fs) k;omega);have I:=p.size;clear s C a t e3 x0 x1 x2 x3 y z;generalize hQ:canF f.q=Q at *;go_wp2_with (at_builtin;refine Wn rfl (.tmp 20) (.tmp 25) rfl w3 w.heap.size u4 (spV (qAt fs) k) rfl HO.out _ _ B B' l d l' d' (k:Int) Q HF.out rfl D I ?_);intro v' w4 L U M;go_wp2;go_roundw
    case rel=>exact ⟨k+1,by omega,by go_num,by rw [HS.out];exact L,p.trans M⟩
    case measure=>simp [intOf];omega
  ·obtain rfl:k=n:=by omega
   go_wp2;go_ret2;exact ⟨_,rfl,hO,j⟩
namespace Pl
def Zui (n i:Nat) (es:List En):List RF:=rfL n fun j=>if j < i then canF (Wl es j) else zeroF
theorem Zuj (n:Nat) (es:List En):Zui n 0 es=List.replicate n zeroF:=by
 refine List.ext_getElem? fun i=>?_
 rcases JX i n with e | e
 ·unfold Zui;rw [Yi e,List.getElem?_replicate,if_pos e,if_neg (by omega)]
 ·unfold Zui;rw [JU (by rw [Zr];exact e),JU (by simpa using e)]
theorem Zdt {n i:Nat} {es:List En} (hi:i < n):(Zui n i es).set i (canF (Wl es i))=Zui n (i+1) es:=by
 unfold Zui;rw [Vk hi];exact Xv fun j _=>by
  by_cases e:j=i
  ·rw [if_pos e,if_pos (by omega),e]
  ·rw [if_neg e];by_cases g:j < i
   ·rw [if_pos g,if_pos (by omega)]
   ·rw [if_neg g,if_neg (by omega)]
theorem Zyj (n:Nat) (es:List En):Zui n n es=Yj n (Wl es):=by
 unfold Zui;rw [← Zmj];exact Xv fun j hj=>by rw [if_pos hj]
theorem Uu (n i:Nat) (es:List En):(Zui n i es).length=n:=Zr _ _
theorem Zyk {n i j:Nat} {es:List En} (h:j < n):(Zui n i es)[j]? =some (if j < i then canF (Wl es j) else zeroF):=Yi h
def WS (es:List En) (i t:Nat):Prop:=t≤es.length∧∀(k:Nat) (e:En),es[k]? =some e→(k < t↔e.idx < (i:Int))
theorem WS.zero {n:Nat} {es:List En} (h:Good n es):WS es 0 0:=⟨Nat.zero_le _,fun k e he=>by have:=h.1 k e he;omega⟩
theorem WS.hit {n i t:Nat} {es:List En} (g:Good n es) (h:WS es i t) {e:En} (he:es[t]? =some e) (hi:e.idx=(i:Int)):WS es (i+1) (t+1)∧Wl es i=e.f.q:=by
 have ht:t < es.length:=(List.getElem?_eq_some_iff.1 he).1;refine ⟨⟨by omega,fun k d hd=>?_⟩,Ycj g.2.1 he hi⟩;have h1:=h.2 k d hd;rcases Nat.lt_trichotomy k t with c | c | c
 ·have:=h1.1 c;omega
 ·subst c;rw [he] at hd;injection hd with hd;subst hd;omega
 ·have:=Zod g.2.1 t k e d c he hd;omega
theorem WS.miss {i t:Nat} {es:List En} (h:WS es i t) (hm:∀e,es[t]? =some e→e.idx≠(i:Int)) (hinc:Inc none es):WS es (i+1) t∧Wl es i=0:=by
 have a:∀(k:Nat) (d:En),es[k]? =some d→¬k < t→d.idx≠(i:Int):=fun k d hd hk e=>by
  rcases Nat.eq_or_lt_of_le (Nat.not_lt.1 hk) with c | c
  ·subst c;exact hm d hd e
  ·have ht:t < es.length:=(by have:=(List.getElem?_eq_some_iff.1 hd).1;omega);have h1:=Zod hinc t k _ d c (JQ ht) hd;have h2:¬(es[t]'ht).idx < (i:Int):=fun q=>Nat.lt_irrefl t ((h.2 t _ (JQ ht)).2 q)
   have h3:=hm _ (JQ ht);omega
 refine ⟨⟨h.1,fun k d hd=>?_⟩,Zjz (fun k d hd=>?_) _⟩
 ·have h1:=h.2 k d hd;by_cases c:k < t
  ·have:=h1.1 c;omega
  ·have:=a k d hd c;omega
 ·by_cases c:k < t
  ·have:=(h.2 k d hd).1 c;omega
  ·exact a k d hd c
end Pl
theorem Wo (v:Value) (es:List En) (n K:Nat) (w:World) (h:Vf w v es) (hn:n≤4096) (hk:∀(k:Nat) (e:En),es[k]? =some e→e.f.Rs K) (hK:K≤34359738368) (hg:Pl.Good n es):
 Calls Tryz.prog 80 #[v,.int .i64 (n:Int)] w fun e w'=>∃v',e= .returned (.tuple #[v',.int .i64 0])∧Z4 w.heap.size w' v' (Yj n (Wl es))∧Below w.heap.size w w':=by
 obtain ⟨A,c,rfl,a1,a2⟩:=h.shape;have H:=JZ h;have HK:=JZ hk;have HG:=JZ hg;have HE:=JZ (hg.err hn);generalize hl:es.length=l at *;have HL:=JZ hl;have S:Hid (EnI es):=JZ fun k e he=>by have:=hg.1 k e he;omega
 have X:Hid (∀(k:Nat) (e:En),es[k]? =some e→e.idx=(e.idx.toNat:Int)∧e.idx < n):=JZ fun k e he=>by have:=hg.1 k e he;omega
 have Y:=Y1 n (by omega);clear hk hg hl;go_enter Tryz.func80,Tryz.ntmps80;go_wp2_with fail;refine (Xq _ es (n:Int) _ h S.out (by omega) (by omega)).mono ?_;rw [HE.out];rintro _ w1 ⟨rfl,M⟩;have F:=Z4.zeros w1 n (by unfold maxLen;omega);have G:=Zb w1 (.cells (zfc n) 46);rw [← Zuj n es] at F;clear h;go_wp2;have N:=Za M G M.size;have E:=M.size;generalize w1.alloc (.cells (zfc n) 46)=W2 at *
 go_loopw [8,20] (fun x i wr=>∃k t:Nat,k≤n∧x= .int .i64 t∧i= .int .i64 k∧Below w.heap.size w wr∧Below w1.heap.size w1 wr∧WS es k t∧Z4 w1.heap.size wr (.slice (some ⟨w1.heap.size,0,none⟩) n n) (Zui n k es)) (fun _ i _=>n - (intOf i).toNat)
 case atStart=>exact ⟨0,0,by omega,rfl,rfl,N,G,WS.zero HG.out,F⟩
 case round=>
  clear N G F;obtain ⟨k,t,hk,rfl,rfl,j,a,J,hO⟩:=hrel;have I:=JZ J;have Z:t≤l:=by rw [← HL.out];exact J.1
  clear J;rcases JX k n with hkl | hkl
  ·have a0:(k:Int) < n:=(by omega);have y:=Zyk (n:=n) (i:=k) (es:=es) hkl;rcases JX t l with htl2 | htl2
   ·obtain ⟨e,he⟩:=YZ (es:=es) (i:=t) (by rw [HL.out];exact htl2);obtain ⟨b,a3,A1,n1,k1,A2,n2,k2,rfl,a4,⟨x0,x1,x2,x3,x4⟩,L⟩:=H.out.elem j he;have T:(t:Int) < l:=(by omega);by_cases D:e.idx=(k:Int)
    ·obtain ⟨r,s⟩:=WS.hit HG.out I.out he D;have z:=JZ r;have C:Hid (canF e.f.q=canF (Wl es k)):=JZ (by rw [s]);have U:e.f.Sm:=(HK.out t e he).sm hK;obtain ⟨ei,ef⟩:=e;simp only at *;subst D;clear he r s;go_wp2_with fail;refine (VZ _ ef _ L U).mono ?_;rw [C.out];rintro _ w3 ⟨v3,rfl,e3,g⟩;obtain ⟨B,l9,d9,B',O,P,rfl,_,_⟩:=id e3;have m:=hO.below g;obtain ⟨_,_,_,_,⟨t0,t1,t2,t3⟩,⟨f0,f1,f2,f3⟩,_⟩:=m.at_ y;obtain ⟨u,R⟩:=m.set_ (k:=k) (by rw [Uu];exact hkl) e3;rw [Zdt hkl] at u;have o:=Zw (Za j g j.size) E (k * 4) (k * 4+1) (k * 4+2) (k * 4+3);have p:=Zw (Za a g a.size) (JY _) (k * 4) (k * 4+1) (k * 4+2) (k * 4+3);clear x0 x1 x2 x3 x4 L hO j a g;go_wp2;go_roundw
     case rel=>exact ⟨k+1,t+1,by omega,by go_num,by go_num,o _ _ _ _,p _ _ _ _,z.out,u⟩
     case measure=>simp [intOf];omega
    ·obtain ⟨r,s⟩:=WS.miss I.out (fun d hd=>by rw [he] at hd;injection hd with hd;subst hd;exact D) HG.out.2.1;have z:=JZ r;have C:Hid (canF zeroF.q=canF (Wl es k)):=JZ (by rw [s,zeroF_q]);obtain ⟨ei,ef⟩:=e;simp only at *;have V:(ei==(k:Int))=false:=(by simpa using D);clear he r s D;go_wp2_with fail;refine (VZ _ zeroF _ (Zt.zero _) zeroF_sm).mono ?_;rw [C.out];rintro _ w3 ⟨v3,rfl,e3,g⟩;obtain ⟨B,l9,d9,B',O,P,rfl,_,_⟩:=id e3;have m:=hO.below g;obtain ⟨_,_,_,_,⟨t0,t1,t2,t3⟩,⟨f0,f1,f2,f3⟩,_⟩:=m.at_ y;obtain ⟨u,R⟩:=m.set_ (k:=k) (by rw [Uu];exact hkl) e3;rw [Zdt hkl] at u;have o:=Zw (Za j g j.size) E (k * 4) (k * 4+1) (k * 4+2) (k * 4+3);have p:=Zw (Za a g a.size) (JY _) (k * 4) (k * 4+1) (k * 4+2) (k * 4+3);clear x0 x1 x2 x3 x4 L hO j a g;go_wp2;go_roundw
     case rel=>exact ⟨k+1,t,by omega,rfl,by go_num,o _ _ _ _,p _ _ _ _,z.out,u⟩
     case measure=>simp [intOf];omega
   ·obtain ⟨r,s⟩:=WS.miss I.out (fun d hd=>by have:=(List.getElem?_eq_some_iff.1 hd).1;have:=HL.out;omega) HG.out.2.1;have z:=JZ r;have C:Hid (canF zeroF.q=canF (Wl es k)):=JZ (by rw [s,zeroF_q]);have T:(l:Int)≤t:=(by omega);clear r s;go_wp2_with fail;refine (VZ _ zeroF _ (Zt.zero _) zeroF_sm).mono ?_;rw [C.out];rintro _ w3 ⟨v3,rfl,e3,g⟩;obtain ⟨B,l9,d9,B',O,P,rfl,_,_⟩:=id e3;have m:=hO.below g;obtain ⟨_,_,_,_,⟨t0,t1,t2,t3⟩,⟨f0,f1,f2,f3⟩,_⟩:=m.at_ y;obtain ⟨u,R⟩:=m.set_ (k:=k) (by rw [Uu];exact hkl) e3;rw [Zdt hkl] at u;have o:=Zw (Za j g j.size) E (k * 4) (k * 4+1) (k * 4+2) (k * 4+3);have p:=Zw (Za a g a.size) (JY _) (k * 4) (k * 4+1) (k * 4+2) (k * 4+3);clear hO j a g;go_wp2;go_roundw
    case rel=>exact ⟨k+1,t,by omega,rfl,by go_num,o _ _ _ _,p _ _ _ _,z.out,u⟩
    case measure=>simp [intOf];omega
  ·obtain rfl:n=k:=by omega
   rw [Zyj] at hO;go_wp2;go_ret2;exact ⟨_,rfl,hO.monoB E,j⟩
def Zum (cs:List Value) (j:Nat) (t x y z u:Value):List Value:=((((cs.set j t).set (j+1) x).set (j+2) y).set (j+3) z).set (j+4) u
theorem EnC.set_ {w:World} {cs:List Value} {es:List En} (h:EnC w cs es) {k:Nat} (hk:k < es.length) {x y z u:Value} {e:En} (hf:Zt w (.agg #[x,y,z,u]) e.f):EnC w (Zum cs (k * 5) (.int .i64 e.idx) x y z u) (es.set k e):=by
 have hl:=h.1;refine ⟨by simp [Zum,hl],fun j g hg=>?_⟩;by_cases a:j=k
 ·subst a;rw [List.getElem?_set_self hk] at hg;injection hg with hg;subst hg;refine ⟨x,y,z,u,?_,?_,?_,?_,?_,hf⟩ <;> unfold Zum
  ·rw [List.getElem?_set_ne (by omega),List.getElem?_set_ne (by omega),List.getElem?_set_ne (by omega),List.getElem?_set_ne (by omega),List.getElem?_set_self (by omega)]
  ·rw [List.getElem?_set_ne (by omega),List.getElem?_set_ne (by omega),List.getElem?_set_ne (by omega),List.getElem?_set_self (by simp;omega)]
  ·rw [List.getElem?_set_ne (by omega),List.getElem?_set_ne (by omega),List.getElem?_set_self (by simp;omega)]
  ·rw [List.getElem?_set_ne (by omega),List.getElem?_set_self (by simp;omega)]
  ·rw [List.getElem?_set_self (by simp;omega)]
 ·rw [List.getElem?_set_ne (Ne.symm a)] at hg;obtain ⟨x',y',z',u',h0,h1,h2,h3,h4,h5⟩:=h.2 j g hg;refine ⟨x',y',z',u',?_,?_,?_,?_,?_,h5⟩ <;> unfold Zum <;> rw [List.getElem?_set_ne (by omega),List.getElem?_set_ne (by omega),List.getElem?_set_ne (by omega),List.getElem?_set_ne (by omega),List.getElem?_set_ne (by omega)] <;> assumption
theorem Ut.at_ {base:Nat} {w:World} {g n c:Nat} {es:List En} (h:Ut base w (.slice (some ⟨g,0,none⟩) n c) es) {k:Nat} {e:En} (he:es[k]? =some e):
 ∃x y z u,(w.cell? ⟨g,k * 5,none⟩=some (.int .i64 e.idx)∧w.cell? ⟨g,k * 5+1,none⟩=some x∧w.cell? ⟨g,k * 5+2,none⟩=some y∧w.cell? ⟨g,k * 5+3,none⟩=some z∧w.cell? ⟨g,k * 5+4,none⟩=some u)∧(w.frozen? ⟨g,k * 5,none⟩=false∧w.frozen? ⟨g,k * 5+1,none⟩=false∧w.frozen? ⟨g,k * 5+2,none⟩=false∧w.frozen? ⟨g,k * 5+3,none⟩=false∧w.frozen? ⟨g,k * 5+4,none⟩=false)∧Zt w (.agg #[x,y,z,u]) e.f:=by
 obtain ⟨cs,h1,h2⟩:=h;have hn:n=es.length:=(V7.of_own h1).len;subst hn;obtain ⟨x,y,z,u,c0,c1,c2,c3,c4,hm⟩:=h2.2 k e he;exact ⟨x,y,z,u,⟨(ZM h1 c0).1,(ZM h1 c1).1,(ZM h1 c2).1,(ZM h1 c3).1,(ZM h1 c4).1⟩,⟨(ZM h1 c0).2,(ZM h1 c1).2,(ZM h1 c2).2,(ZM h1 c3).2,(ZM h1 c4).2⟩,hm⟩
theorem Ut.set_ {base:Nat} {w:World} {g n c:Nat} {es:List En} (h:Ut base w (.slice (some ⟨g,0,none⟩) n c) es) {k:Nat} (hk:k < es.length) {x y z u:Value} {e:En} (hf:Zt w (.agg #[x,y,z,u]) e.f):
 Ut base (((((w.setCell ⟨g,k * 5,none⟩ (.int .i64 e.idx)).setCell ⟨g,k * 5+1,none⟩ x).setCell ⟨g,k * 5+2,none⟩ y).setCell ⟨g,k * 5+3,none⟩ z).setCell ⟨g,k * 5+4,none⟩ u) (.slice (some ⟨g,0,none⟩) n c) (es.set k e)∧
 Ze 83 w (((((w.setCell ⟨g,k * 5,none⟩ (.int .i64 e.idx)).setCell ⟨g,k * 5+1,none⟩ x).setCell ⟨g,k * 5+2,none⟩ y).setCell ⟨g,k * 5+3,none⟩ z).setCell ⟨g,k * 5+4,none⟩ u):=by
 obtain ⟨cs,h1,h2⟩:=h;have hn:n=es.length:=(V7.of_own h1).len;subst hn;have hl:=h2.1;have o1:=XD h1 (k * 5) (.int .i64 e.idx) (by omega);have o2:=XD o1 (k * 5+1) x (by simp;omega);have o3:=XD o2 (k * 5+2) y (by simp;omega);have o4:=XD o3 (k * 5+3) z (by simp;omega);have o5:=XD o4 (k * 5+4) u (by simp;omega);obtain ⟨_,b0,_⟩:=Yl h1;obtain ⟨_,b1,_⟩:=Yl o1;obtain ⟨_,b2,_⟩:=Yl o2;obtain ⟨_,b3,_⟩:=Yl o3;obtain ⟨_,b4,_⟩:=Yl o4;have kp:=((((Ze.setCell b0 (k * 5) (.int .i64 e.idx)).trans (Ze.setCell b1 (k * 5+1) x)).trans (Ze.setCell b2 (k * 5+2) y)).trans (Ze.setCell b3 (k * 5+3) z)).trans (Ze.setCell b4 (k * 5+4) u);have kd:=kp.keep (by decide);refine ⟨⟨Zum cs (k * 5) (.int .i64 e.idx) x y z u,by rw [List.length_set];exact o5,?_⟩,kp⟩;exact (h2.keep kd).set_ hk (hf.keep kd)
def zec (n:Nat):Array Value:=madeCells (Value.cells (.agg #[.int .i64 0,.bool false,.slice none 0 0,.bool false,.slice none 0 0])) (n * 5)
theorem Zkc {n k j:Nat} (hk:k < n) (hj:j < 5):(zec n)[k * 5+j]? =([.int .i64 0,.bool false,.slice none 0 0,.bool false,.slice none 0 0]:List Value)[j]? :=by
 have a:k * 5+j < n * 5:=by omega
 have hm:(k * 5+j) % 5=j:=by omega
 unfold zec madeCells;simp [a,Value.cells,hm]
 match j,hj with
 | 0,_=>rfl
 | 1,_=>rfl
 | 2,_=>rfl
 | 3,_=>rfl
 | 4,_=>rfl
theorem Ut.zeros (w:World) (n:Nat) (hn:n≤maxLen):Ut w.heap.size (w.alloc (.cells (zec n) 83)) (.slice (some ⟨w.heap.size,0,none⟩) n n) (List.replicate n ⟨0,zeroF⟩):=by
 have a:(zec n).size=n * 5:=size_madeCells _ _;refine ⟨(zec n).toList,⟨by simp [a],.inr ⟨w.heap.size,n,zec n,by simp,JY _,heap_alloc_new w _,by simp,hn,a,?_⟩⟩,by simp [a],fun k f hf=>?_⟩
 ·rw [List.take_of_length_le (by simp [a])]
 ·rw [List.getElem?_replicate] at hf;split at hf
  ·rename_i hk
   injection hf with hf;subst hf;refine ⟨_,_,_,_,?_,?_,?_,?_,?_,Zt.zero _⟩
   ·have:=Zkc (j:=0) hk (by decide);simpa using this
   ·have:=Zkc (j:=1) hk (by decide);simpa using this
   ·have:=Zkc (j:=2) hk (by decide);simpa using this
   ·have:=Zkc (j:=3) hk (by decide);simpa using this
   ·have:=Zkc (j:=4) hk (by decide);simpa using this
  ·cases hf
theorem Zqu (n:Nat) (hn:n≤1099511627776) (w:World):
 (Instr.makeSlice 66 (.int .i64 (n:Int)) (.int .i64 (n:Int))).run Tryz.prog w= .ok (.slice (some ⟨w.heap.size,0,none⟩) n n) (w.alloc (.cells (zec n) 83)):=by
 obtain ⟨i0,hi,a,b,c⟩:=info_parts info_entry;have hb:(i0.bytes:Int) * (n:Int)≤281474976710656:=by rw [c];omega
 have hr:=run_make (P:=Tryz.prog) w 66 83 i0 _ Tryz.underlying66 hi a .i64 .i64 n n (by omega) (by omega) hb (by omega);simp only [JP,b] at hr;exact hr
namespace Pl
def Zqv (es:List En):List En:=es.map fun e=>⟨e.idx,canF e.f.q⟩
def Zkd (es:List En):Nat→List En
 | 0=>List.replicate es.length ⟨0,zeroF⟩
 | k+1=>match es[k]? with
  | some e=>(Zkd es k).set k ⟨e.idx,canF e.f.q⟩
  | none=>Zkd es k
theorem Zun {es:List En} {k:Nat} {e:En} (h:es[k]? =some e):Zkd es (k+1)=(Zkd es k).set k ⟨e.idx,canF e.f.q⟩:=by
 conv=>lhs;unfold Zkd
 simp only [h]
theorem Vm (es:List En):∀k,(Zkd es k).length=es.length
 | 0=>by simp [Zkd]
 | k+1=>by
  have ih:=Vm es k
  unfold Zkd
  split
  ·rw [List.length_set];exact ih
  ·exact ih
theorem Zhp (es:List En) (i:Nat):∀k,i < k→(Zkd es k)[i]? =(Zqv es)[i]?
 | 0,h=>absurd h (Nat.not_lt_zero _)
 | k+1,h=>by
  have hl:=Vm es k
  unfold Zkd
  split
  ·rename_i e he
   have hk:=(List.getElem?_eq_some_iff.1 he).1
   rw [List.getElem?_set]
   by_cases c:k=i
   ·subst c;rw [if_pos rfl,if_pos (by omega),Zqv,List.getElem?_map,he];rfl
   ·rw [if_neg c];exact Zhp es i k (by omega)
  ·rename_i he
   have hk:=List.getElem?_eq_none_iff.1 he
   by_cases c:k=i
   ·subst c;rw [JU (by omega),JU (by simp [Zqv];omega)]
   ·exact Zhp es i k (by omega)
theorem Zyl (es:List En):Zkd es es.length=Zqv es:=by
 refine List.ext_getElem? fun i=>?_
 by_cases c:i < es.length
 ·exact Zhp es i _ c
 ·rw [JU (by rw [Vm];omega),JU (by simp [Zqv];omega)]
end Pl
theorem Zqw {n g:Nat} {w w':World} (h:Below n w w') (hg:n≤g) (i j k l m:Nat) (t x y z u:Value):Below n w (((((w'.setCell ⟨g,i,none⟩ t).setCell ⟨g,j,none⟩ x).setCell ⟨g,k,none⟩ y).setCell ⟨g,l,none⟩ z).setCell ⟨g,m,none⟩ u):=((((h.setCell hg _).setCell hg _).setCell hg _).setCell hg _).setCell hg _
theorem Zfd (vb:Value) (es:List En) (K:Nat) (w:World) (h2:Vf w vb es) (ha:∀(k:Nat) (e:En),es[k]? =some e→e.f.Rs K) (hK:K≤34359738368) (hlen:es.length≤1099511627776):
 Calls Tryz.prog 138 #[vb] w fun o w'=>∃v',o= .returned v'∧Ut w.heap.size w' v' (Zqv es)∧Below w.heap.size w w':=by
 obtain ⟨A,c,rfl,N,O⟩:=h2.shape;generalize hn:es.length=l at *;have HN:=JZ hn;have HA:=JZ ha;have H2:=JZ h2;have z:Hid (Zkd es l=Zqv es):=JZ (by rw [← hn];exact Zyl es);have L:=Zqu l hlen;have p:=Ut.zeros w l (by unfold maxLen;omega);have r:=Zb w (.cells (zec l) 83);have HO:Hid (Ut w.heap.size (w.alloc (.cells (zec l) 83)) (.slice (some ⟨w.heap.size,0,none⟩) l l) (Zkd es 0)):=JZ (by unfold Zkd;rw [hn];exact p);clear hn ha h2 p;go_enter Tryz.func138,Tryz.ntmps138;go_wp2;generalize w.alloc (.cells (zec l) 83)=W at *
 go_loopw [11] (fun i wr=>∃k:Nat,k≤l∧i= .int .i64 k∧Ut w.heap.size wr (.slice (some ⟨w.heap.size,0,none⟩) l l) (Zkd es k)∧Below w.heap.size w wr) (fun i _=>l - (intOf i).toNat)
 case atStart=>exact ⟨0,by omega,rfl,HO.out,r⟩
 case round=>
  clear r;obtain ⟨k,hk,rfl,hO,a⟩:=hrel;rcases JX k l with hkl | hkl
  ·obtain ⟨e,he⟩:=YZ (es:=es) (i:=k) (by rw [HN.out];exact hkl);obtain ⟨b,P,A1,n1,k1,A2,n2,k2,rfl,R,⟨x0,x1,x2,x3,x4⟩,x⟩:=H2.out.elem a he;have s:k < (Zkd es k).length:=(by rw [Vm,HN.out];exact hkl);obtain ⟨fj,G⟩:=YZ (es:=Zkd es k) (i:=k) s;have B:=JZ (Zun he);have d:=HA.out k e he;obtain ⟨ei,f⟩:=e;simp only at *;have C:=d.sm hK;have HV:Hid (f.q+zeroF.q=f.q):=JZ (by rw [zeroF_q];grind);obtain ⟨W1,H,hV,m⟩:=Zaa wr (.int .i64 ei) (.bool f.num.neg) (.slice A1 n1 k1) (.bool f.den.neg) (.slice A2 n2 k2);have D:=hO.below m;have F:=x.below m;have g:=Za a m a.size;obtain ⟨v0,v1,v2,v3,v4⟩:=hV.five;have M:(k:Int) < l:=(by omega);clear he hO a x d
   go_upto_region 5 with (fail)
   clear H;have D0:=Zp v0;have D1:=Zp v1;have D2:=Zp v2;have D3:=Zp v3;have D4:=Zp v4;have h:=Zj W1;clear v0 v1 v2 v3 v4 x0 x1 x2 x3 x4;refine Zq 10 [0,1,2,3,4,5,6,7,8,9,10] (by kernel_rfl) (by kernel_rfl) ?_;repeat ((first | (refine Zc (v:=?_) rfl rfl rfl ?_ ?_;rotate_left;(· (intro _ n;go_simp;(try go_bits);(try with_reducible rfl)))) | (refine Zg (v:=?_) rfl rfl rfl ?_ ?_;rotate_left;(· (intro _ n;go_simp;(try go_bits);(try with_reducible rfl)))) | refine Zh rfl rfl rfl ?_);(try simp only [Act.put,pu1,pu2,pu3,pu4,pu5,pu6]))
   refine Zd rfl rfl (fun KR hKR=>?_);go_simp;(with_reducible refine (VW _ _ f zeroF _ (F.below h) (Zt.zero _) C zeroF_sm).mono ?_);rw [HV.out];rintro _ w7 ⟨v7,rfl,e7,I⟩;have j:=Za h I h.size;obtain ⟨E,l9,k9,E',S,T,rfl,_,_⟩:=id e7;have t:=D.below j;obtain ⟨_,_,_,_,⟨c0,c1,c2,c3,c4⟩,⟨f0,f1,f2,f3,f4⟩,_⟩:=t.at_ G;refine hKR.out _ _ (Or.inr j) ?_;clear hKR KR;(try simp only [Act.put,pu1,pu2,pu3,pu4,pu5,pu6]);repeat ((first | (refine Zc (v:=?_) rfl rfl rfl ?_ ?_;rotate_left;(· (intro _ n;go_simp;(try go_bits);(try with_reducible rfl)))) | (refine Zg (v:=?_) rfl rfl rfl ?_ ?_;rotate_left;(· (intro _ n;go_simp;(try go_bits);(try with_reducible rfl)))) | refine Zh rfl rfl rfl ?_);(try simp only [Act.put,pu1,pu2,pu3,pu4,pu5,pu6]))
   refine Zd rfl rfl (fun KR hKR=>?_);go_simp;refine hKR.out _ _ (Or.inl (by decide)) ?_;clear hKR KR;(try simp only [Act.put,pu1,pu2,pu3,pu4,pu5,pu6]);refine Zz ?_;clear D0 D1 D2 D3 D4;obtain ⟨y,J⟩:=t.set_ (e:=⟨ei,canF f.q⟩) s e7;have u:=Zqw (Za g j g.size) (JY _) (k * 5) (k * 5+1) (k * 5+2) (k * 5+3) (k * 5+4);rw [← B.out] at y;go_wp2;go_roundw
   case rel=>exact ⟨k+1,by omega,by go_num,y,u _ _ _ _ _⟩
   case measure=>simp [intOf];omega
  ·obtain rfl:k=l:=by omega
   rw [z.out] at hO;go_wp2;go_ret;exact ⟨_,rfl,hO,a⟩
theorem Zgb {base:Nat} {w w':World} {g:Option Nat} {t:TypeId} {s n:Nat} {v:Value} {xs:List Value} (h:w.ownsRow base t s v n xs) (ho:ZW g w w') (hne:∀b,v.ownBlock=some b→some b≠g):w'.ownsRow base t s v n xs:=by
 refine ⟨h.1,?_⟩;rcases h.2 with hn | ⟨g',cap,cur,rfl,hb',hgg,rest⟩
 ·exact .inl hn
 ·exact .inr ⟨g',cap,cur,rfl,hb',(ho.2 g' (Yw hgg) (hne g' (by simp [Value.ownBlock]))).trans hgg,rest⟩
theorem Uy {base:Nat} {w:World} {t:TypeId} {s n:Nat} {v:Value} {xs:List Value} (h:w.ownsRow base t s v n xs):∀g,v.ownBlock=some g→g < w.heap.size:=by
 intro g hg;rcases h.2 with ⟨rfl,_⟩ | ⟨g',cap,cur,rfl,_,hgg,_⟩
 ·simp [Value.ownBlock] at hg
 ·simp [Value.ownBlock] at hg;subst hg;exact Yw hgg
end Go.Proofs.YtgbhebappffbdaaGreat
