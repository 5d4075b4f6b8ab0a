/- Lemmas of the claim; no condition. -/
import Derived.Test.YtncmobkhenfhpaaGreatE15
set_option linter.all false
set_option maxRecDepth 100000
set_option maxHeartbeats 40000000
namespace Go.Proofs.YtncmobkhenfhpaaGreat
open Go.RowKit
open Pl
attribute [local go_sem ↓] Go.wp_at_zero Go.wp_at_succ
namespace Pl
def spV (f:Nat→Rat):Nat→List En
 | 0=>[]
 | n+1=>if f n=0 then spV f n else spV f n++[⟨(n:Int),canF (f n)⟩]
theorem Xp {f:Nat→Rat} {n:Nat} (h:f n=0):spV f (n+1)=spV f n:=by unfold spV;rw [if_pos h];cases n <;> rfl
theorem XI {f:Nat→Rat} {n:Nat} (h:f n≠0):spV f (n+1)=spV f n++[⟨(n:Int),canF (f n)⟩]:=by rw [spV,if_neg h]
theorem XJ {f g:Nat→Rat}:∀{n:Nat},(∀i,i < n→f i=g i)→spV f n=spV g n
 | 0,_=>rfl
 | n+1,h=>by rw [spV,spV,h n (by omega),XJ fun i hi=>h i (by omega)]
theorem Wt {f:Nat→Rat}:∀(n:Nat),(spV f n).length≤n
 | 0=>JY _
 | n+1=>by
  have:=Wt (f:=f) n
  by_cases h:f n=0
  ·rw [Xp h];omega
  ·rw [XI h,List.length_append];simp;omega
theorem UV {f:Nat→Rat}:∀{n k:Nat} {e:En},(spV f n)[k]? =some e→∃i:Nat,i < n∧e.idx=(i:Int)∧e.f=canF (f i)∧f i≠0
 | 0,k,e,h=>by simp [spV] at h
 | n+1,k,e,h=>by
  by_cases h0:f n=0
  ·rw [Xp h0] at h
   obtain ⟨i,h1,h2⟩:=UV h
   exact ⟨i,by omega,h2⟩
  ·rw [XI h0] at h
   rcases JX k (spV f n).length with hk | hk
   ·rw [List.getElem?_append_left hk] at h
    obtain ⟨i,h1,h2⟩:=UV h
    exact ⟨i,by omega,h2⟩
   ·rw [List.getElem?_append_right hk] at h
    have hk':k - (spV f n).length=0:=by
     rcases JV (k - (spV f n).length) with e | e
     ·exact e
     ·rw [JU (by simp;omega)] at h;cases h
    rw [hk'] at h;simp at h;subst h;exact ⟨n,by omega,rfl,rfl,h0⟩
theorem Zek (f:Nat→Rat) (n:Nat):inR n (spV f n):=fun k e h=>by
 obtain ⟨i,h1,h2,_⟩:=UV h
 omega
theorem Zgj (f:Nat→Rat):∀(n i:Nat),XG (spV f n) i=if i < n then f i else 0
 | 0,i=>by rw [if_neg (by omega)];rfl
 | n+1,i=>by
  have ih:=Zgj f n i
  by_cases h0:f n=0
  ·rw [Xp h0,ih]
   by_cases e:i < n
   ·rw [if_pos e,if_pos (by omega)]
   ·rw [if_neg e]
    by_cases e2:i=n
    ·subst e2;rw [if_pos (by omega),h0]
    ·rw [if_neg (by omega)]
  ·rw [XI h0]
   unfold XG at ih ⊢
   rw [Zhw]
   simp only
   by_cases e:(n:Int)=(i:Int)
   ·obtain rfl:n=i:=by omega
    rw [if_pos e,if_pos (by omega),Zu]
   ·rw [if_neg e,ih]
    by_cases e2:i < n
    ·rw [if_pos e2,if_pos (by omega)]
    ·rw [if_neg e2,if_neg (by omega)]
def Good (n:Nat) (es:List En):Prop:=inR n es∧Inc none es∧∀(k:Nat) (e:En),es[k]? =some e→e.f.q≠0
theorem Ycn {p:Option Int} {es:List En} {e:En} (h:Inc p es) (h1:leP p e.idx=false) (h2:∀(k:Nat) (d:En),es[k]? =some d→d.idx < e.idx):Inc p (es++[e]):=by
 induction es generalizing p with
 | nil=>exact ⟨h1,trivial⟩
 | cons d es ih=>
  refine ⟨h.1,ih h.2 ?_ fun k d' hd=>h2 (k+1) d' (by simpa using hd)⟩;have:=h2 0 d rfl;simp [leP];omega
theorem Zia (f:Nat→Rat):∀(n:Nat),Inc none (spV f n)
 | 0=>trivial
 | n+1=>by
  by_cases h0:f n=0
  ·rw [Xp h0];exact Zia f n
  ·rw [XI h0]
   exact Ycn (Zia f n) rfl fun k d hd=>by
    obtain ⟨i,h1,h2,_⟩:=UV hd
    show d.idx < (n:Int)
    omega
theorem Zdd (f:Nat→Rat) (n:Nat):Good n (spV f n):=⟨Zek f n,Zia f n,fun k e h=>by
 obtain ⟨i,h1,h2,h3,h4⟩:=UV h
 rw [h3,Zu];exact h4⟩
theorem Zuz {n:Int} {es:List En} {p:Option Int} (h1:∀(k:Nat) (e:En),es[k]? =some e→0≤e.idx∧e.idx < n) (h2:Inc p es) (h3:∀(k:Nat) (e:En),es[k]? =some e→e.f.q≠0):UA n es p=0:=by
 induction es generalizing p with
 | nil=>rfl
 | cons e es ih=>
  have a:=h1 0 e rfl;rw [UA,if_neg (by omega),if_neg (by rw [h2.1];decide),if_neg (h3 0 e rfl)];exact ih (fun k d hd=>h1 (k+1) d (by simpa using hd)) h2.2 fun k d hd=>h3 (k+1) d (by simpa using hd)
theorem Good.err {n:Nat} {es:List En} (h:Good n es) (hn:n≤4096):vecErr es (n:Int)=0:=by
 unfold vecErr;rw [if_neg (by omega)];exact Zuz h.1 h.2.1 h.2.2
theorem Zcq {f:Nat→Rat} {n K:Nat} (h:∀i,i < n→Sz K (f i)):∀(k:Nat) (e:En),(spV f n)[k]? =some e→e.f.Rs K:=fun k e he=>by
 obtain ⟨i,h1,h2,h3,h4⟩:=UV he
 rw [h3];exact (h i h1).rs
end Pl
def X6 (w:World) (v:Value) (zs:List Int):Prop:=
 ∃a cap,v= .slice a zs.length cap∧zs.length≤cap∧cap≤maxLen∧(0 < zs.length→∃b off,a=some ⟨b,off,none⟩∧∀i,i < zs.length→w.cell? ⟨b,off+i,none⟩=some (.int .i64 (zs.getD i 0)))∧∀z∈zs,-9223372036854775808≤z∧z≤9223372036854775807
theorem X6.below {w w':World} {v:Value} {zs:List Int} (h:X6 w v zs) (hb:Below w.heap.size w w'):X6 w' v zs:=by
 obtain ⟨a,cap,h1,h2,h3,h4,h5⟩:=h;refine ⟨a,cap,h1,h2,h3,fun hp=>?_,h5⟩;obtain ⟨b,c,g1,g2⟩:=h4 hp;exact ⟨b,c,g1,fun i hi=>Zg hb (g2 i hi)⟩
theorem X6.shape {w:World} {v:Value} {zs:List Int} (h:X6 w v zs):∃a cap,v= .slice a zs.length cap∧zs.length≤cap∧cap≤9223372036854775807:=by
 obtain ⟨a,cap,h1,h2,h3,h4,h5⟩:=h;unfold maxLen at h3;exact ⟨a,cap,h1,h2,by omega⟩
theorem X6.at_ {w:World} {a:Option Addr} {n cap:Nat} {zs:List Int} (h:X6 w (.slice a n cap) zs) {i:Nat} (hi:i < n):
 ∃b off z,a=some ⟨b,off,none⟩∧w.cell? ⟨b,off+i,none⟩=some (.int .i64 z)∧zs[i]? =some z∧ -9223372036854775808≤z∧z≤9223372036854775807:=by
 obtain ⟨a',c,h1,h2,h3,h4,h5⟩:=h;injection h1 with e1 e2 e3;subst e1;obtain ⟨b,off,g1,g2⟩:=h4 (by omega);have hg:zs[i]? =some (zs.getD i 0):=by simp [List.getD,JQ (show i < zs.length by omega)]
 have hm:=h5 _ (List.mem_of_getElem? hg);exact ⟨b,off,_,g1,g2 i (by omega),hg,hm⟩
namespace Pl
theorem Zps {z:Int} (h: -4294967296 < z) (h2:z < 4294967296):Sz 1 (z:Rat):=by
 unfold Sz;exact ⟨Y2 (by rw [Rat.num_intCast];unfold B32;omega),Y2 (by rw [Rat.den_intCast];decide)⟩
end Pl
theorem Zfv [Old] {ops:Array Oper} {Q:Exit→Act→World→Prop} {S:World→Prop} {m:Nat} {i:Nat} {is:List Nat} {o:Oper} {a:Act} (hoi:ops[i]? =some o) (hf:YY ops m i=false) (hgd:o.guard=none) (hl0:m≤i) (s x:Operand) (t:TypeId)
 (ho:o.op= .call { callee:= .builtin .append,args:=#[s,x],argTypes:=#[t,t] })
 (e:TypeId) (inf:TypeInfo) (z:Value) (size bytes:Nat) (ht:Tryz.prog.underlying t=some (.slice e)) (hi:Tryz.prog.info? e=some inf) (hz:inf.zero=some z)
 (hsize:inf.size=size) (hby:inf.bytes=bytes) (hzs:z.cells.size=size) (hsz:0 < size) (W:World) (base:Nat) (v:Value) (n:Nat) (xs news:List Value) (hs:a.eval s=v) (hown:W.ownsRow base e size v n xs)
 (hx:a.eval x= .slice (some ⟨W.heap.size,0,none⟩) 1 1) (hl:news.length=size) (h1:∀u∈news,u.oneCell'=true) (hn:n+1≤maxLen) (hb:(n+1) * bytes≤140737488355328) (hbase:base≤W.heap.size)
 (h:∀v' w',w'.ownsRow base e size v' (n+1) (xs++news)→Ze e W w'→Below base W w'→XN Tryz.prog ops Q S m is (a.put o.dst v') w') (hO:Old.n≤base:=by first | assumption | exact Nat.zero_le _ | omega | ((first | with_reducible refine Zb.le ?_ | with_reducible refine Zb.le1 ?_ | with_reducible refine Zb.le2 ?_ | with_reducible refine Zb.le3 ?_);repeat (first | assumption | exact Zb.up (by assumption) hOl | exact Zb.up (Hid.out (by assumption)) hOl | with_reducible refine Zb.set ?_ _ _ | with_reducible refine Zb.mk_ ?_ _ | with_reducible refine Zb.dr ?_ | with_reducible refine Zb.drN ?_ | refine Zb.up (by assumption) ?_ | refine Zb.up (Hid.out (by assumption)) ?_))):
 XN Tryz.prog ops Q S m (i::is) a (W.alloc (.cells news.toArray e)):=by
 refine Zh hoi hf fun K hK=>?_
 obtain ⟨v',w',hr,h2,h3,h4⟩:=UH o.type t e inf z size bytes ht hi hz hsize hby hzs hsz W base v n xs news hown hl h1 hn hb hbase;rw [if_pos (by simp [Region.wanted,hgd])];unfold Oper.wp execOp;simp only [ho,resolve,invoke,builtin,Sem.run_bind,Sem.run_pure,Result.andThen_ok,List.map_toArray,List.map_cons,List.map_nil,hs,hx,hr];exact hK _ _ (.inl hl0) (h v' w' h2 h3 h4)
def Zbn [Old] (base:Nat) (w:World) (v:Value) (es:List En):Prop:=∃cs,w.ownsRow base 87 5 v es.length cs∧EnC w cs es
theorem Zbn.vec [Old] {base:Nat} {w:World} {v:Value} {es:List En} (h:Zbn base w v es):Wp w v es:=by
 obtain ⟨cs,h1,h2⟩:=h;exact ⟨cs,Vv.of_own h1,h2⟩
theorem Zbn.below [Old] {base:Nat} {w w':World} {v:Value} {es:List En} (h:Zbn base w v es) (hb:Below w.heap.size w w'):Zbn base w' v es:=by
 obtain ⟨cs,h1,h2⟩:=h;exact ⟨cs,own_below h1 hb,h2.keep (ZG.of_below hb)⟩
theorem Zbn.nil [Old] (base:Nat) (w:World):Zbn base w (.slice none 0 0) []:=⟨[],World.ownsRow_nil _ _ _ _,EnC.nil _⟩
theorem info_entry:(Tryz.prog.info? 87).map (fun i=>(i.zero,i.size,i.bytes))=some (some (.agg #[.int .i64 0,.bool false,.slice none 0 0,.bool false,.slice none 0 0]),5,72):=by kernel_rfl
theorem Zif {k:Int} {x y:Bool} {A A':Option Addr} {n c n' c':Nat}:∀u∈[Value.int .i64 k,.bool x,.slice A n c,.bool y,.slice A' n' c'],u.oneCell'=true:=by
 intro u hu;simp at hu;rcases hu with rfl | rfl | rfl | rfl | rfl <;> rfl
theorem UX [Old] {ops:Array Oper} {rest:List Oper} {o:Oper} {a:Act} {Q:Exit→Act→World→Prop} (hgd:o.guard=none) (s x:Operand)
 (ho:o.op= .call { callee:= .builtin .append,args:=#[s,x],argTypes:=#[72,72] })
 (W:World) (base:Nat) (v:Value) (es:List En) (hs:a.eval s=v) (hown:Zbn base W v es) (b b':Bool) (A A':Option Addr) (n c n' c':Nat) (k:Int) (f:RF) (hf:Zt W (.agg #[.bool b,.slice A n c,.bool b',.slice A' n' c']) f)
 (hx:a.eval x= .slice (some ⟨W.heap.size,0,none⟩) 1 1) (hn:es.length+1≤1099511627776) (hbase:base≤W.heap.size)
 (h:∀v' w',Zbn base w' v' (es++[⟨k,f⟩])→Ze 87 W w'→Below base W w'→wpList Tryz.prog ops Q rest (a.put o.dst v') w') (hO:Old.n≤base:=by first | assumption | exact Nat.zero_le _ | omega | ((first | with_reducible refine Zb.le ?_ | with_reducible refine Zb.le1 ?_ | with_reducible refine Zb.le2 ?_ | with_reducible refine Zb.le3 ?_);repeat (first | assumption | exact Zb.up (by assumption) hOl | exact Zb.up (Hid.out (by assumption)) hOl | with_reducible refine Zb.set ?_ _ _ | with_reducible refine Zb.mk_ ?_ _ | with_reducible refine Zb.dr ?_ | with_reducible refine Zb.drN ?_ | refine Zb.up (by assumption) ?_ | refine Zb.up (Hid.out (by assumption)) ?_))):
 wpList Tryz.prog ops Q (o::rest) a (W.alloc (.cells #[.int .i64 k,.bool b,.slice A n c,.bool b',.slice A' n' c'] 87)):=by
 obtain ⟨cs,h1,h2⟩:=hown;obtain ⟨i0,hi,d,g,i⟩:=info_parts info_entry;refine YI hgd s x 72 ho 87 i0 _ 5 72 Tryz.underlying72 hi d g i rfl (by decide) W base v es.length cs [.int .i64 k,.bool b,.slice A n c,.bool b',.slice A' n' c'] hs h1 hx rfl Zif (by unfold maxLen;omega) (by omega) hbase ?_;intro v' w' g1 g2 g3;refine h v' w' ⟨_,by simpa using g1,?_⟩ g2 g3;have hk:=g2.keep (by decide);exact (h2.keep hk).snoc (e:=⟨k,f⟩) (hf.keep hk)
def Yy [Old] (base:Nat) (w:World) (v:Value) (cols:List (List En)):Prop:=∃cs,w.ownsRow base 72 1 v cols.length cs∧∀(k:Nat) (c:List En),cols[k]? =some c→∃u,cs[k]? =some u∧Wp w u c
theorem Yy.vecs [Old] {base:Nat} {w:World} {v:Value} {cols:List (List En)} (h:Yy base w v cols):Xz w v cols:=by
 obtain ⟨cs,h1,h2⟩:=h;exact ⟨cs,Vv.of_own h1,h2⟩
theorem Yy.below [Old] {base:Nat} {w w':World} {v:Value} {cols:List (List En)} (h:Yy base w v cols) (hb:Below w.heap.size w w'):Yy base w' v cols:=by
 obtain ⟨cs,h1,h2⟩:=h;exact ⟨cs,own_below h1 hb,fun k c hc=>by obtain ⟨u,g1,g2⟩:=h2 k c hc;exact ⟨u,g1,g2.below hb⟩⟩
theorem Yy.but [Old] {base:Nat} {w w':World} {e:TypeId} {v:Value} {cols:List (List En)} (h:Yy base w v cols) (hk:Ze e w w') (h0:72≠e) (h1:87≠e) (h2:123≠e):Yy base w' v cols:=by
 obtain ⟨cs,g1,g2⟩:=h;exact ⟨cs,hk.own g1 h0,fun k c hc=>by obtain ⟨u,q1,q2⟩:=g2 k c hc;exact ⟨u,q1,q2.but hk h1 h2⟩⟩
theorem Xz.but [Old] {w w':World} {e:TypeId} {v:Value} {cols:List (List En)} (h:Xz w v cols) (hk:Ze e w w') (h0:72≠e) (h1:87≠e) (h2:123≠e):Xz w' v cols:=by
 obtain ⟨cs,g1,g2⟩:=h;exact ⟨cs,hk.row g1 h0,fun k c hc=>by obtain ⟨u,q1,q2⟩:=g2 k c hc;exact ⟨u,q1,q2.but hk h1 h2⟩⟩
theorem info_vector:(Tryz.prog.info? 72).map (fun i=>(i.zero,i.size,i.bytes))=some (some (.slice none 0 0),1,24):=by kernel_rfl
theorem Ze.of_below [Old] {e:TypeId} {w w':World} (hb:Below w.heap.size w w'):Ze e w w':=fun b _ _ _ _ h=>(hb.block b (Yo h)).trans h
theorem Ze.then [Old] {e:TypeId} {w W w':World} (h:Ze e w W) (hb:Below w.heap.size W w'):Ze e w w':=fun b cs t fz ht hc=>(hb.block b (Yo hc)).trans (h b cs t fz ht hc)
namespace Pl
theorem Zza {es:List En} {p:Option Int} {e:En} (h:Inc p es) (hp:es=[]→leP p e.idx=false) (hlt:∀(k:Nat) (d:En),es[k]? =some d→d.idx < e.idx):Inc p (es++[e]):=by
 induction es generalizing p with
 | nil=>exact ⟨hp rfl,trivial⟩
 | cons d es ih=>
  refine ⟨h.1,ih h.2 (fun _=>?_) (fun k c hc=>hlt (k+1) c (by simpa using hc))⟩;have:=hlt 0 d rfl;simp [leP];omega
def Zbw (m:Nat) (es:List En):Prop:=Inc none es∧es.length≤m∧∀(k:Nat) (e:En),es[k]? =some e→0≤e.idx∧e.idx < m∧e.f.q≠0∧e.f.Rs 1
theorem Zbw.nil:Zbw 0 []:=⟨trivial,JY _,fun k e h=>by simp at h⟩
theorem Zbw.snoc {m:Nat} {es:List En} (h:Zbw m es) {z:Int} (h0:z≠0) (h1: -4294967296 < z) (h2:z < 4294967296):Zbw (m+1) (es++[⟨(m:Int),canF (z:Rat)⟩]):=by
 refine ⟨Zza h.1 (fun _=>rfl) (fun k d hd=>(h.2.2 k d hd).2.1),by simp;exact h.2.1,fun k e he=>?_⟩;rcases JX k es.length with hk | hk
 ·rw [List.getElem?_append_left hk] at he;have:=h.2.2 k e he;exact ⟨this.1,by omega,this.2.2⟩
 ·rw [List.getElem?_append_right hk] at he;have a:k - es.length=0:=by
   rcases JV (k - es.length) with e | e
   ·exact e
   ·rw [JU (by simp;omega)] at he;cases he
  rw [a] at he;simp at he;subst he;refine ⟨by simp only;omega,by simp only;omega,?_,(Zps h1 h2).rs⟩;simp only [Zu];exact fun e=>h0 (by simpa using congrArg Rat.num e)
theorem Ycr {n:Int} {es:List En} {p:Option Int} (h:Inc p es) (hr:∀(k:Nat) (e:En),es[k]? =some e→0≤e.idx∧e.idx < n∧e.f.q≠0):UA n es p=0:=by
 induction es generalizing p with
 | nil=>rfl
 | cons d es ih=>
  have:=hr 0 d rfl;rw [UA,if_neg (by omega),if_neg (by rw [h.1];simp),if_neg this.2.2];exact ih h.2 fun k e he=>hr (k+1) e (by simpa using he)
theorem Zbw.err {m:Nat} {es:List En} (h:Zbw m es) (hm:m≤4096):vecErr es m=0:=by
 unfold vecErr;rw [if_neg (by omega)];exact Ycr h.1 fun k e he=>by have:=h.2.2 k e he;exact ⟨this.1,this.2.1,this.2.2.1⟩
end Pl
theorem Bk.threeF {w:World} {g:Nat} {t:TypeId} {cs:List Value} (h:Bk w g t cs):w.frozen? ⟨g,0,none⟩=false∧w.frozen? ⟨g,1,none⟩=false∧w.frozen? ⟨g,2,none⟩=false:=⟨h.frozen 0,h.frozen 1,h.frozen 2⟩
theorem Yd.own_lt [Old] {base:Nat} {w:World} {v:Value} {fs:List RF} (h:Yd base w v fs):∀g,v.ownBlock=some g→g < w.heap.size:=by
 obtain ⟨cs,h1,h2⟩:=h;intro g hg;rcases h1.2 with ⟨rfl,_⟩ | ⟨g',cap,cur,rfl,_,hgg,_⟩
 ·simp [Value.ownBlock] at hg
 ·simp [Value.ownBlock] at hg;subst hg;exact Yo hgg
theorem Yd.slice [Old] {base:Nat} {w:World} {v:Value} {fs:List RF} (h:Yd base w v fs):∃A c,v= .slice A fs.length c:=by
 obtain ⟨A,c,e,_,_⟩:=h.frs.shape;exact ⟨A,c,e⟩
theorem Yy.slice [Old] {base:Nat} {w:World} {v:Value} {fs:List (List En)} (h:Yy base w v fs):∃A c,v= .slice A fs.length c:=by
 obtain ⟨A,c,e,_,_⟩:=h.vecs.shape;exact ⟨A,c,e⟩
theorem Yd.sliceN [Old] {base:Nat} {w:World} {v:Value} {fs:List RF} (h:Yd base w v fs):∃A n c,v= .slice A n c:=by
 obtain ⟨A,c,e⟩:=h.slice;exact ⟨A,_,c,e⟩
namespace Pl
theorem RsL.snoc {k:Nat} {fs:List RF} (h:RsL k fs) {f:RF} (hf:f.Rs k):RsL k (fs++[f]):=fun i g hg=>by
 rcases JX i fs.length with hi | hi
 ·rw [List.getElem?_append_left hi] at hg;exact h i g hg
 ·rw [List.getElem?_append_right hi] at hg
  have:i - fs.length=0:=by
   rcases JV (i - fs.length) with e | e
   ·exact e
   ·rw [JU (by simp;omega)] at hg;cases hg
  rw [this] at hg;simp at hg;subst hg;exact hf
theorem RsL.nil (k:Nat):RsL k []:=fun i f h=>by simp at h
theorem RsL.mono {j k:Nat} {fs:List RF} (h:RsL j fs) (hk:j≤k):RsL k fs:=fun i f hf=>(h i f hf).mono hk
theorem Zky {m:Nat} {cols:List (List En)} (h:∀(j:Nat) (c:List En),cols[j]? =some c→Zbw m c) {es:List En} (he:Zbw m es):∀(j:Nat) (c:List En),(cols++[es])[j]? =some c→Zbw m c:=fun j c hc=>by
 rcases JX j cols.length with hi | hi
 ·rw [List.getElem?_append_left hi] at hc;exact h j c hc
 ·rw [List.getElem?_append_right hi] at hc
  have:j - cols.length=0:=by
   rcases JV (j - cols.length) with e | e
   ·exact e
   ·rw [JU (by simp;omega)] at hc;cases hc
  rw [this] at hc;simp at hc;subst hc;exact he
def Ycs (p:LPd):Prop:=1≤p.right.length∧p.right.length≤3∧p.cols.length≤5∧p.cost.length=p.cols.length∧RsL 1 p.cost∧∀(j:Nat) (c:List En),p.cols[j]? =some c→Zbw p.right.length c
theorem Zry {n:Int} {cs:List (List En)} (h:∀(j:Nat) (c:List En),cs[j]? =some c→vecErr c n=0):Xj n cs=0:=by
 induction cs with
 | nil=>rfl
 | cons c cs ih=>
  rw [Xj,if_pos (h 0 c rfl)];exact ih fun j d hd=>h (j+1) d (by simpa using hd)
theorem Ycs.err {p:LPd} (h:Ycs p):lpErr p=0:=by
 obtain ⟨h1,h2,h3,h4,h5,h6⟩:=h;unfold lpErr;rw [if_neg (by omega),if_neg (by omega)];exact Zry fun j c hc=>(h6 j c hc).err (by omega)
theorem Ycs.ok {p:LPd} (h:Ycs p) {K:Nat} (hK:1≤K) (hr:RsL K p.right):p.Ok K:=by
 obtain ⟨h1,h2,h3,h4,h5,h6⟩:=h;refine ⟨h5.mono hK,hr,fun j c hc=>⟨fun k e he=>?_,fun k e he=>((h6 j c hc).2.2 k e he).2.2.2.mono hK⟩⟩;have:=(h6 j c hc).2.2 k e he;omega
end Pl
def Z6 (g:Option Nat) (w w':World):Prop:=w.heap.size≤w'.heap.size∧∀b,b < w.heap.size→some b≠g→w'.heap[b]? =w.heap[b]?
theorem Z6.bk {g:Option Nat} {w w':World} {b:Nat} {t:TypeId} {cs:List Value} (h:Z6 g w w') (hb:Bk w b t cs) (hne:some b≠g):Bk w' b t cs:=(h.2 b hb.lt hne).trans hb
theorem Z6.of_set {g i:Nat} {w:World} {v:Value}:Z6 (some g) w (w.setCell ⟨g,i,none⟩ v):=⟨by simp,fun b _ hne=>heap_setCell_other w _ _ _ (fun e=>hne (by rw [e]))⟩
theorem Z6.trans {g:Option Nat} {a b c:World} (h:Z6 g a b) (k:Z6 g b c):Z6 g a c:=⟨JW h.1 k.1,fun x hx hne=>(k.2 x (Nat.lt_of_lt_of_le hx h.1) hne).trans (h.2 x hx hne)⟩
theorem Yd.others [Old] {base:Nat} {w w':World} {g:Option Nat} {v:Value} {fs:List RF} (h:Yd base w v fs) (ho:Z6 g w w') (hk:ZG w w') (hne:∀b,v.ownBlock=some b→some b≠g):Yd base w' v fs:=by
 obtain ⟨cs,h1,h2⟩:=h;refine ⟨cs,⟨h1.1,?_⟩,h2.keep hk⟩;rcases h1.2 with hn | ⟨g',cap,cur,rfl,hb',hgg,rest⟩
 ·exact .inl hn
 ·exact .inr ⟨g',cap,cur,rfl,hb',(ho.2 g' (Yo hgg) (hne g' (by simp [Value.ownBlock]))).trans hgg,rest⟩
theorem Yd.monoB [Old] {base base':Nat} {w:World} {v:Value} {fs:List RF} (h:Yd base w v fs) (hb:base'≤base):Yd base' w v fs:=by
 obtain ⟨cs,h1,h2⟩:=h;exact ⟨cs,Xe h1 hb,h2⟩
theorem Bk.far4' {w:World} {g g':Nat} {t:TypeId} {cs:List Value} (h:Bk w g t cs) (hne:g≠g') (i j k l:Nat) (x y z u:Value):Bk ((((w.setCell ⟨g',i,none⟩ x).setCell ⟨g',j,none⟩ y).setCell ⟨g',k,none⟩ z).setCell ⟨g',l,none⟩ u) g t cs:=
 (((h.far (p:=⟨g',i,none⟩) hne x).far (p:=⟨g',j,none⟩) hne y).far (p:=⟨g',k,none⟩) hne z).far (p:=⟨g',l,none⟩) hne u
theorem Yd.own_ge [Old] {base:Nat} {w:World} {v:Value} {fs:List RF} (h:Yd base w v fs):∀g,v.ownBlock=some g→base≤g:=by
 obtain ⟨cs,h1,h2⟩:=h;intro g hg;exact (h1.lt g hg).1
def Xx (n:Nat) (G C:Nat→Nat) (r:Nat):Value:= .slice (some ⟨G r,0,none⟩) n (C r)
def Zbx (m n:Nat) (G C:Nat→Nat):List Value:=(List.range m).map (Xx n G C)
theorem X3 {m n r:Nat} {G C:Nat→Nat} (h:r < m):(Zbx m n G C)[r]? =some (Xx n G C r):=by simp [Zbx,h]
theorem YM (m n:Nat) (G C:Nat→Nat):(Zbx m n G C).length=m:=by simp [Zbx]
def VS [Old] (base:Nat) (w:World) (v:Value) (m n:Nat) (M:Mx) (G C:Nat→Nat):Prop:=
 w.ownsRow base 23 1 v m (Zbx m n G C)∧(∀r,r < m→Yd base w (Xx n G C r) (Z7 n (M r)))∧∀r s,r < m→s < m→G r=G s→r=s
theorem VS.below [Old] {base:Nat} {w w':World} {v:Value} {m n:Nat} {M:Mx} {G C:Nat→Nat} (h:VS base w v m n M G C) (hb:Below w.heap.size w w'):VS base w' v m n M G C:=
 ⟨own_below h.1 hb,fun r hr=>(h.2.1 r hr).below hb,h.2.2⟩
theorem VS.nil [Old] (base:Nat) (w:World) (n:Nat) (M:Mx) (G C:Nat→Nat):VS base w (.slice none 0 0) 0 n M G C:=
 ⟨World.ownsRow_nil _ _ _ _,fun r hr=>absurd hr (by omega),fun r s hr=>absurd hr (by omega)⟩
theorem VS.lt [Old] {base:Nat} {w:World} {v:Value} {m n:Nat} {M:Mx} {G C:Nat→Nat} (h:VS base w v m n M G C) {r:Nat} (hr:r < m) (hn:0 < n):base≤G r∧G r < w.heap.size∧n≤C r∧C r≤9223372036854775807:=by
 obtain ⟨g,c,hv,h1,h2,h3,h4⟩:=(h.2.1 r hr).shape (by rw [Zi];exact hn);rw [Zi] at hv h3;unfold Xx at hv;injection hv with e1 e2 e3;injection e1 with e1;injection e1 with e1;subst e1 e3;exact ⟨h1,h2,h3,h4⟩
theorem VS.outer [Old] {base:Nat} {w:World} {v:Value} {m n:Nat} {M:Mx} {G C:Nat→Nat} (h:VS base w v m n M G C) (hm:0 < m):
 ∃g c,v= .slice (some ⟨g,0,none⟩) m c∧base≤g∧g < w.heap.size∧m≤c∧c≤9223372036854775807∧∀r,r < m→w.cell? ⟨g,r,none⟩=some (Xx n G C r)∧w.frozen? ⟨g,r,none⟩=false:=by
 have h0:=h.1;rcases h.1.2 with ⟨rfl,e⟩ | ⟨g,cap,cur,rfl,hb,hg,hnc,hcm,hcs,htake⟩
 ·omega
 ·unfold maxLen at hcm;exact ⟨g,cap,rfl,hb,Yo hg,hnc,by omega,fun r hr=>ZP h0 (X3 hr)⟩
theorem VS.shape [Old] {base:Nat} {w:World} {v:Value} {m n:Nat} {M:Mx} {G C:Nat→Nat} (h:VS base w v m n M G C):∃A c,v= .slice A m c∧m≤c∧c≤9223372036854775807:=(Vv.of_own h.1).shape
theorem VS.at_ [Old] {base:Nat} {w:World} {v:Value} {m n:Nat} {M:Mx} {G C:Nat→Nat} (h:VS base w v m n M G C) {r c:Nat} (hr:r < m) (hc:c < n):
 ∃A1 n1 c1 A2 n2 c2,(w.cell? ⟨G r,c * 4,none⟩=some (.bool (canF (M r c)).num.neg)∧w.cell? ⟨G r,c * 4+1,none⟩=some (.slice A1 n1 c1)∧w.cell? ⟨G r,c * 4+2,none⟩=some (.bool (canF (M r c)).den.neg)∧w.cell? ⟨G r,c * 4+3,none⟩=some (.slice A2 n2 c2))∧Zt w (.agg #[.bool (canF (M r c)).num.neg,.slice A1 n1 c1,.bool (canF (M r c)).den.neg,.slice A2 n2 c2]) (canF (M r c)):=by
 obtain ⟨b,d,A1,n1,c1,A2,n2,c2,hA,_,a,hm⟩:=(h.2.1 r hr).frs.elem (JR _ _) (ZC hc);injection hA with hA;injection hA with e1 e2;subst e1 e2;simp only [Nat.zero_add] at a;exact ⟨A1,n1,c1,A2,n2,c2,a,hm⟩
theorem VS.frozen [Old] {base:Nat} {w:World} {v:Value} {m n:Nat} {M:Mx} {G C:Nat→Nat} (h:VS base w v m n M G C) {r c:Nat} (hr:r < m) (hc:c < n):
 w.frozen? ⟨G r,c * 4,none⟩=false∧w.frozen? ⟨G r,c * 4+1,none⟩=false∧w.frozen? ⟨G r,c * 4+2,none⟩=false∧w.frozen? ⟨G r,c * 4+3,none⟩=false:=by
 obtain ⟨_,_,_,_,_,hf,_⟩:=(h.2.1 r hr).at_ (ZC hc);exact hf
theorem Yf {w:World} {g i j k l:Nat} {x y z u:Value}:Z6 (some g) w ((((w.setCell ⟨g,i,none⟩ x).setCell ⟨g,j,none⟩ y).setCell ⟨g,k,none⟩ z).setCell ⟨g,l,none⟩ u):=
 ((Z6.of_set.trans Z6.of_set).trans Z6.of_set).trans Z6.of_set
theorem VS.set_ [Old] {base:Nat} {w:World} {v:Value} {m n:Nat} {M:Mx} {G C:Nat→Nat} (h:VS base w v m n M G C) {r c:Nat} (hr:r < m) (hc:c < n) {x y z u:Value} {q:Rat} (hf:Zt w (.agg #[x,y,z,u]) (canF q)) (hO:Old.n≤base:=by first | assumption | exact Nat.zero_le _ | omega | ((first | with_reducible refine Zb.le ?_ | with_reducible refine Zb.le1 ?_ | with_reducible refine Zb.le2 ?_ | with_reducible refine Zb.le3 ?_);repeat (first | assumption | exact Zb.up (by assumption) hOl | exact Zb.up (Hid.out (by assumption)) hOl | with_reducible refine Zb.set ?_ _ _ | with_reducible refine Zb.mk_ ?_ _ | with_reducible refine Zb.dr ?_ | with_reducible refine Zb.drN ?_ | refine Zb.up (by assumption) ?_ | refine Zb.up (Hid.out (by assumption)) ?_))):
 VS base ((((w.setCell ⟨G r,c * 4,none⟩ x).setCell ⟨G r,c * 4+1,none⟩ y).setCell ⟨G r,c * 4+2,none⟩ z).setCell ⟨G r,c * 4+3,none⟩ u) v m n (Zyq M r c q) G C∧
 Ze 48 w ((((w.setCell ⟨G r,c * 4,none⟩ x).setCell ⟨G r,c * 4+1,none⟩ y).setCell ⟨G r,c * 4+2,none⟩ z).setCell ⟨G r,c * 4+3,none⟩ u):=by
 obtain ⟨hs,hk⟩:=Yd.set_ (h.2.1 r hr) (k:=c) (by rw [Zi];exact hc) hf;rw [XF hc] at hs;refine ⟨⟨hk.own h.1 (by decide),fun s hs'=>?_,h.2.2⟩,hk⟩;by_cases e:s=r
 ·subst e;have:Z7 n (Zyq M s c q s)=Z7 n (fun i=>if i=c then q else M s i):=ZR fun i _=>by
   unfold Zyq;by_cases e:i=c
   ·rw [if_pos ⟨rfl,e⟩,if_pos e]
   ·rw [if_neg (by omega),if_neg e]
  rw [this];exact hs
 ·have:Z7 n (Zyq M r c q s)=Z7 n (M s):=ZR fun i _=>by unfold Zyq;rw [if_neg (by omega)]
  rw [this];refine (h.2.1 s hs').others Yf (hk.keep (by decide)) fun b hb hne=>?_
  simp [Xx,Value.ownBlock] at hb;injection hne with hne;exact e (h.2.2 s r hs' hr (by omega))
def swapF (F:Nat→Nat) (k t:Nat):Nat→Nat:=fun r=>if r=k then F t else if r=t then F k else F r
theorem VS.swap [Old] {base:Nat} {w:World} {m n:Nat} {M:Mx} {G C:Nat→Nat} {g c:Nat} (h:VS base w (.slice (some ⟨g,0,none⟩) m c) m n M G C) {k t:Nat} (hk:k < m) (ht:t < m) (hO:Old.n≤base:=by first | assumption | exact Nat.zero_le _ | omega | ((first | with_reducible refine Zb.le ?_ | with_reducible refine Zb.le1 ?_ | with_reducible refine Zb.le2 ?_ | with_reducible refine Zb.le3 ?_);repeat (first | assumption | exact Zb.up (by assumption) hOl | exact Zb.up (Hid.out (by assumption)) hOl | with_reducible refine Zb.set ?_ _ _ | with_reducible refine Zb.mk_ ?_ _ | with_reducible refine Zb.dr ?_ | with_reducible refine Zb.drN ?_ | refine Zb.up (by assumption) ?_ | refine Zb.up (Hid.out (by assumption)) ?_))):
 VS base ((w.setCell ⟨g,k,none⟩ (Xx n G C t)).setCell ⟨g,t,none⟩ (Xx n G C k)) (.slice (some ⟨g,0,none⟩) m c) m n (swapM M k t) (swapF G k t) (swapF C k t)∧
 Ze 23 w ((w.setCell ⟨g,k,none⟩ (Xx n G C t)).setCell ⟨g,t,none⟩ (Xx n G C k)):=by
 have o1:=Xi h.1 k (Xx n G C t) (by rw [YM];exact hk);have o2:=Xi o1 t (Xx n G C k) (by rw [List.length_set,YM];exact ht);obtain ⟨_,b0,_⟩:=Z8 h.1;obtain ⟨_,b1,_⟩:=Z8 o1;have kp:=(Ze.setCell b0 k (Xx n G C t)).trans (Ze.setCell b1 t (Xx n G C k));have b:∀r,Xx n (swapF G k t) (swapF C k t) r=if r=k then Xx n G C t else if r=t then Xx n G C k else Xx n G C r:=fun r=>by
  unfold Xx swapF;by_cases e:r=k
  ·simp only [if_pos e]
  ·simp only [if_neg e];by_cases e2:r=t
   ·simp only [if_pos e2]
   ·simp only [if_neg e2]
 refine ⟨⟨?_,fun r hr=>?_,fun r s hr hs e=>?_⟩,kp⟩
 ·have:((Zbx m n G C).set k (Xx n G C t)).set t (Xx n G C k)=Zbx m n (swapF G k t) (swapF C k t):=by
   apply List.ext_getElem?;intro i;rcases JX i m with hi | hi
   ·rw [X3 hi,b,List.getElem?_set,List.getElem?_set];simp only [List.length_set,YM];by_cases e1:t=i
    ·subst e1;rw [if_pos rfl,if_pos ht];by_cases e2:t=k
     ·subst e2;rw [if_pos rfl]
     ·rw [if_neg e2,if_pos rfl]
    ·rw [if_neg e1];by_cases e2:k=i
     ·subst e2;rw [if_pos rfl,if_pos hk,if_pos rfl]
     ·rw [if_neg e2,if_neg (fun h=>e2 h.symm),if_neg (fun h=>e1 h.symm),X3 hi]
   ·rw [JU (by simp [YM];exact hi),JU (by rw [YM];exact hi)]
  rw [← this];exact o2
 ·rw [b];unfold swapM;split
  ·exact (h.2.1 t ht).but kp (by decide) (by decide)
  ·split
   ·exact (h.2.1 k hk).but kp (by decide) (by decide)
   ·exact (h.2.1 r hr).but kp (by decide) (by decide)
 ·have d:∀a,a < m→∃a',a' < m∧swapF G k t a=G a'∧((a=k∧a'=t)∨(a≠k∧a=t∧a'=k)∨(a≠k∧a≠t∧a'=a)):=fun a ha=>by
   unfold swapF;by_cases e1:a=k
   ·exact ⟨t,ht,by rw [if_pos e1],.inl ⟨e1,rfl⟩⟩
   ·by_cases e2:a=t
    ·exact ⟨k,hk,by rw [if_neg e1,if_pos e2],.inr (.inl ⟨e1,e2,rfl⟩)⟩
    ·exact ⟨a,ha,by rw [if_neg e1,if_neg e2],.inr (.inr ⟨e1,e2,rfl⟩)⟩
  obtain ⟨r',f,er,cr⟩:=d r hr;obtain ⟨s',j,es,cs⟩:=d s hs;rw [er,es] at e;have:=h.2.2 _ _ f j e;omega
theorem VS.cellAt [Old] {base:Nat} {w:World} {m n:Nat} {M:Mx} {G C:Nat→Nat} {g c:Nat} (h:VS base w (.slice (some ⟨g,0,none⟩) m c) m n M G C) {r:Nat} (hr:r < m):w.cell? ⟨g,r,none⟩=some (Xx n G C r)∧w.frozen? ⟨g,r,none⟩=false:=ZP h.1 (X3 hr)
theorem VS.swap1 [Old] {base:Nat} {w:World} {m n:Nat} {M:Mx} {G C:Nat→Nat} {g c:Nat} (h:VS base w (.slice (some ⟨g,0,none⟩) m c) m n M G C) {k t:Nat} {u:Value} (ht:t < m) (hO:Old.n≤base:=by first | assumption | exact Nat.zero_le _ | omega | ((first | with_reducible refine Zb.le ?_ | with_reducible refine Zb.le1 ?_ | with_reducible refine Zb.le2 ?_ | with_reducible refine Zb.le3 ?_);repeat (first | assumption | exact Zb.up (by assumption) hOl | exact Zb.up (Hid.out (by assumption)) hOl | with_reducible refine Zb.set ?_ _ _ | with_reducible refine Zb.mk_ ?_ _ | with_reducible refine Zb.dr ?_ | with_reducible refine Zb.drN ?_ | refine Zb.up (by assumption) ?_ | refine Zb.up (Hid.out (by assumption)) ?_))):∃y,(w.setCell ⟨g,k,none⟩ u).cell? ⟨g,t,none⟩=some y∧(w.setCell ⟨g,k,none⟩ u).frozen? ⟨g,t,none⟩=false:=by
 rcases JX k m with hk | hk
 ·have o1:=Xi h.1 k u (by rw [YM];exact hk);obtain ⟨y,hy⟩:∃y,((Zbx m n G C).set k u)[t]? =some y:=⟨_,JQ (by rw [List.length_set,YM];exact ht)⟩;exact ⟨y,ZP o1 hy⟩
 ·obtain ⟨a,b0,_⟩:=Z8 h.1;have hb:=heap_setCell_same w g k a 23 u b0;obtain ⟨c0,_⟩:=h.cellAt ht;rw [cell_of_row w g t a _ _ b0] at c0;have b:t < a.size:=by
   rcases JX t a.size with h9 | h9
   ·exact h9
   ·rw [Array.getElem?_eq_none (by omega)] at c0;cases c0
  refine ⟨(a.setIfInBounds k u)[t]'(by simpa using b),?_,frozen_of_row _ g t _ _ hb⟩;rw [cell_of_row _ g t _ _ _ hb];exact Array.getElem?_eq_getElem (by simpa using b)
def Znk [Old] (w:World) (v:Value) (m n:Nat) (M:Mx):Prop:=∃vs:Nat→Value,Vv w 23 1 v m ((List.range m).map vs)∧∀k,k < m→WA w (vs k) (Z7 n (M k))
theorem Znk.shape [Old] {w:World} {v:Value} {m n:Nat} {M:Mx} (h:Znk w v m n M):∃A c,v= .slice A m c∧m≤c∧c≤9223372036854775807:=by
 obtain ⟨vs,h1,h2⟩:=h;exact h1.shape
theorem Znk.at_ [Old] {w w0:World} {A:Option Addr} {m n c:Nat} {M:Mx} (h0:Znk w0 (.slice A m c) m n M) (hb0:Below w0.heap.size w0 w) {k:Nat} (hk:k < m) {r:Nat} (hr:r < n):
 ∃b off B cB b' off' A1 n1 c1 A2 n2 c2,A=some ⟨b,off,none⟩∧b < w0.heap.size∧w.cell? ⟨b,off+k,none⟩=some (.slice (some ⟨b',off',none⟩) n cB)∧n≤cB∧cB≤9223372036854775807∧B=(some ⟨b',off',none⟩:Option Addr)∧
 (w.cell? ⟨b',off'+r * 4,none⟩=some (.bool (canF (M k r)).num.neg)∧w.cell? ⟨b',off'+r * 4+1,none⟩=some (.slice A1 n1 c1)∧w.cell? ⟨b',off'+r * 4+2,none⟩=some (.bool (canF (M k r)).den.neg)∧w.cell? ⟨b',off'+r * 4+3,none⟩=some (.slice A2 n2 c2))∧Zt w (.agg #[.bool (canF (M k r)).num.neg,.slice A1 n1 c1,.bool (canF (M k r)).den.neg,.slice A2 n2 c2]) (canF (M k r)):=by
 obtain ⟨vs,h1,h2⟩:=h0;obtain ⟨b,off,hA,d,hc⟩:=h1.at_ (by omega);obtain ⟨B,cB,hv,a,e⟩:=(h2 k hk).shape;rw [Zi] at hv a;have h3:=h2 k hk;rw [hv] at h3;obtain ⟨b',off',A1,n1,c1,A2,n2,c2,f,_,h4,hm⟩:=h3.elem hb0 (ZC hr);subst f;refine ⟨b,off,_,cB,b',off',A1,n1,c1,A2,n2,c2,hA,d,?_,a,e,rfl,h4,hm⟩;have:=hc k (vs k) (by simp [hk]);rw [← hv];exact cell_later hb0 this
namespace Pl
def rfL (n:Nat) (f:Nat→RF):List RF:=(List.range n).map f
theorem Zw (n:Nat) (f:Nat→RF):(rfL n f).length=n:=by simp [rfL]
theorem Yu {n i:Nat} {f:Nat→RF} (h:i < n):(rfL n f)[i]? =some (f i):=by simp [rfL,h]
theorem XK {n:Nat} {f g:Nat→RF} (h:∀i,i < n→f i=g i):rfL n f=rfL n g:=by
 refine List.ext_getElem? fun i=>?_
 rcases JX i n with e | e
 ·rw [Yu e,Yu e,h i e]
 ·rw [JU (by rw [Zw];exact e),JU (by rw [Zw];exact e)]
theorem VB {n k:Nat} {f:Nat→RF} {q:RF} (h:k < n):(rfL n f).set k q=rfL n fun i=>if i=k then q else f i:=by
 refine List.ext_getElem? fun i=>?_
 rcases JX i n with e | e
 ·rw [Yu e,List.getElem?_set];by_cases g:k=i
  ·subst g;rw [if_pos rfl,Zw,if_pos h,if_pos rfl]
  ·rw [if_neg g,Yu e,if_neg fun g'=>g g'.symm]
 ·rw [JU (by rw [List.length_set,Zw];exact e),JU (by rw [Zw];exact e)]
theorem Znl (n:Nat) (f:Nat→Rat):rfL n (fun i=>canF (f i))=Z7 n f:=rfl
theorem Zig {n i:Nat} {f:Nat→RF} (h:i < n):qAt (rfL n f) i=(f i).q:=Yt (Yu h)
def Yct (M:Nat→Nat→RF) (r i:Nat) (q:RF):Nat→Nat→RF:=fun s c=>if s=r∧c=i then q else M s c
end Pl
def Zde [Old] (base:Nat) (w:World) (v:Value) (m n:Nat) (M:Nat→Nat→RF) (G C:Nat→Nat):Prop:=
 w.ownsRow base 23 1 v m (Zbx m n G C)∧(∀r,r < m→Yd base w (Xx n G C r) (rfL n (M r)))∧∀r s,r < m→s < m→G r=G s→r=s
theorem Zde.below [Old] {base:Nat} {w w':World} {v:Value} {m n:Nat} {M:Nat→Nat→RF} {G C:Nat→Nat} (h:Zde base w v m n M G C) (hb:Below w.heap.size w w'):Zde base w' v m n M G C:=
 ⟨own_below h.1 hb,fun r hr=>(h.2.1 r hr).below hb,h.2.2⟩
theorem Zde.lt [Old] {base:Nat} {w:World} {v:Value} {m n:Nat} {M:Nat→Nat→RF} {G C:Nat→Nat} (h:Zde base w v m n M G C) {r:Nat} (hr:r < m) (hn:0 < n):base≤G r∧G r < w.heap.size∧n≤C r∧C r≤9223372036854775807:=by
 obtain ⟨g,c,hv,h1,h2,h3,h4⟩:=(h.2.1 r hr).shape (by rw [Zw];exact hn);rw [Zw] at hv h3;unfold Xx at hv;injection hv with e1 e2 e3;injection e1 with e1;injection e1 with e1;subst e1 e3;exact ⟨h1,h2,h3,h4⟩
theorem Zde.outer [Old] {base:Nat} {w:World} {v:Value} {m n:Nat} {M:Nat→Nat→RF} {G C:Nat→Nat} (h:Zde base w v m n M G C) (hm:0 < m):
 ∃g c,v= .slice (some ⟨g,0,none⟩) m c∧base≤g∧g < w.heap.size∧m≤c∧c≤9223372036854775807∧∀r,r < m→w.cell? ⟨g,r,none⟩=some (Xx n G C r)∧w.frozen? ⟨g,r,none⟩=false:=by
 have h0:=h.1;rcases h.1.2 with ⟨rfl,e⟩ | ⟨g,cap,cur,rfl,hb,hg,hnc,hcm,hcs,htake⟩
 ·omega
 ·unfold maxLen at hcm;exact ⟨g,cap,rfl,hb,Yo hg,hnc,by omega,fun r hr=>ZP h0 (X3 hr)⟩
theorem Zde.at_ [Old] {base:Nat} {w:World} {v:Value} {m n:Nat} {M:Nat→Nat→RF} {G C:Nat→Nat} (h:Zde base w v m n M G C) {r c:Nat} (hr:r < m) (hc:c < n):
 ∃A1 n1 c1 A2 n2 c2,(w.cell? ⟨G r,c * 4,none⟩=some (.bool (M r c).num.neg)∧w.cell? ⟨G r,c * 4+1,none⟩=some (.slice A1 n1 c1)∧w.cell? ⟨G r,c * 4+2,none⟩=some (.bool (M r c).den.neg)∧w.cell? ⟨G r,c * 4+3,none⟩=some (.slice A2 n2 c2))∧Zt w (.agg #[.bool (M r c).num.neg,.slice A1 n1 c1,.bool (M r c).den.neg,.slice A2 n2 c2]) (M r c):=by
 obtain ⟨b,d,A1,n1,c1,A2,n2,c2,hA,_,a,hm⟩:=(h.2.1 r hr).frs.elem (JR _ _) (Yu hc);injection hA with hA;injection hA with e1 e2;subst e1 e2;simp only [Nat.zero_add] at a;exact ⟨A1,n1,c1,A2,n2,c2,a,hm⟩
theorem Zde.frozen [Old] {base:Nat} {w:World} {v:Value} {m n:Nat} {M:Nat→Nat→RF} {G C:Nat→Nat} (h:Zde base w v m n M G C) {r c:Nat} (hr:r < m) (hc:c < n):
 w.frozen? ⟨G r,c * 4,none⟩=false∧w.frozen? ⟨G r,c * 4+1,none⟩=false∧w.frozen? ⟨G r,c * 4+2,none⟩=false∧w.frozen? ⟨G r,c * 4+3,none⟩=false:=by
 obtain ⟨_,_,_,_,_,hf,_⟩:=(h.2.1 r hr).at_ (Yu hc);exact hf
theorem Zde.set_ [Old] {base:Nat} {w:World} {v:Value} {m n:Nat} {M:Nat→Nat→RF} {G C:Nat→Nat} (h:Zde base w v m n M G C) {r c:Nat} (hr:r < m) (hc:c < n) {x y z u:Value} {q:RF} (hf:Zt w (.agg #[x,y,z,u]) q) (hO:Old.n≤base:=by first | assumption | exact Nat.zero_le _ | omega | ((first | with_reducible refine Zb.le ?_ | with_reducible refine Zb.le1 ?_ | with_reducible refine Zb.le2 ?_ | with_reducible refine Zb.le3 ?_);repeat (first | assumption | exact Zb.up (by assumption) hOl | exact Zb.up (Hid.out (by assumption)) hOl | with_reducible refine Zb.set ?_ _ _ | with_reducible refine Zb.mk_ ?_ _ | with_reducible refine Zb.dr ?_ | with_reducible refine Zb.drN ?_ | refine Zb.up (by assumption) ?_ | refine Zb.up (Hid.out (by assumption)) ?_))):
 Zde base ((((w.setCell ⟨G r,c * 4,none⟩ x).setCell ⟨G r,c * 4+1,none⟩ y).setCell ⟨G r,c * 4+2,none⟩ z).setCell ⟨G r,c * 4+3,none⟩ u) v m n (Yct M r c q) G C∧
 Ze 48 w ((((w.setCell ⟨G r,c * 4,none⟩ x).setCell ⟨G r,c * 4+1,none⟩ y).setCell ⟨G r,c * 4+2,none⟩ z).setCell ⟨G r,c * 4+3,none⟩ u):=by
 obtain ⟨hs,hk⟩:=Yd.set_ (h.2.1 r hr) (k:=c) (by rw [Zw];exact hc) hf;rw [VB hc] at hs;refine ⟨⟨hk.own h.1 (by decide),fun s hs'=>?_,h.2.2⟩,hk⟩;by_cases e:s=r
 ·subst e;have:rfL n (Yct M s c q s)=rfL n (fun i=>if i=c then q else M s i):=XK fun i _=>by
   unfold Yct;by_cases e:i=c
   ·rw [if_pos ⟨rfl,e⟩,if_pos e]
   ·rw [if_neg (by omega),if_neg e]
  rw [this];exact hs
 ·have:rfL n (Yct M r c q s)=rfL n (M s):=XK fun i _=>by unfold Yct;rw [if_neg (by omega)]
  rw [this];refine (h.2.1 s hs').others Yf (hk.keep (by decide)) fun b hb hne=>?_
  simp [Xx,Value.ownBlock] at hb;injection hne with hne;exact e (h.2.2 s r hs' hr (by omega))
theorem Zde.far [Old] {base:Nat} {w w':World} {v:Value} {m n:Nat} {M:Nat→Nat→RF} {G C:Nat→Nat} (h:Zde base w v m n M G C) {g:Nat} (ho:Z6 (some g) w w') (hk:Ze 48 w w') (hne:∀r,r < m→G r≠g):Zde base w' v m n M G C:=
 ⟨hk.own h.1 (by decide),fun r hr=>(h.2.1 r hr).others ho (hk.keep (by decide)) fun b hb e=>by
  simp [Xx,Value.ownBlock] at hb
  injection e with e
  exact hne r hr (by omega),h.2.2⟩
theorem Zde.but [Old] {base:Nat} {w w':World} {v:Value} {m n:Nat} {M:Nat→Nat→RF} {G C:Nat→Nat} {e:TypeId} (h:Zde base w v m n M G C) (hk:Ze e w w') (h1:23≠e) (h2:48≠e) (h3:123≠e):Zde base w' v m n M G C:=
 ⟨hk.own h.1 h1,fun r hr=>(h.2.1 r hr).but hk h2 h3,h.2.2⟩
theorem Zde.cellAt [Old] {base:Nat} {w:World} {m n:Nat} {M:Nat→Nat→RF} {G C:Nat→Nat} {g c:Nat} (h:Zde base w (.slice (some ⟨g,0,none⟩) m c) m n M G C) {r:Nat} (hr:r < m):w.cell? ⟨g,r,none⟩=some (Xx n G C r)∧w.frozen? ⟨g,r,none⟩=false:=ZP h.1 (X3 hr)
namespace Pl
theorem zeroF_sm:zeroF.Sm:=(Vz 1).sm (by decide)
theorem Zkz {es:List En} {i:Nat} (h:∀(k:Nat) (e:En),es[k]? =some e→e.idx≠(i:Int)) (f:Nat→Rat):dQ es f i=f i:=by
 induction es generalizing f with
 | nil=>rfl
 | cons e es ih=>
  rw [dQ,ih fun k d hd=>h (k+1) d (by simpa using hd)];rw [if_neg (h 0 e rfl)]
theorem Ycu {es:List En} (h:Inc none es) {k i:Nat} {e:En} (he:es[k]? =some e) (hi:e.idx=(i:Int)):XG es i=e.f.q:=by
 have b:∀(es:List En) (p:Option Int) (f:Nat→Rat) (k:Nat),Inc p es→es[k]? =some e→dQ es f i=e.f.q:=by
  intro es
  induction es with
  | nil=>intro p f k _ hk;simp at hk
  | cons c es ih=>
   intro p f k a hk
   match k,hk with
   | 0,hk=>
    simp at hk;subst hk;rw [dQ,Zkz fun j d hd e2=>by
     have:=Zpn a 0 (j+1) c d (by omega) rfl (by simpa using hd);omega,if_pos hi]
   | k+1,hk=>rw [dQ];exact ih _ _ k a.2 (by simpa using hk)
 exact b es none _ k h he
end Pl
theorem Uv [Old] (v:Value) (a:RF) (w:World) (h:Zt w v a) (hs:a.Sm) (hOl:Zb w:=by (repeat (first | assumption | exact Zb.up (by assumption) hOl | exact Zb.up (Hid.out (by assumption)) hOl | with_reducible refine Zb.set ?_ _ _ | with_reducible refine Zb.mk_ ?_ _ | with_reducible refine Zb.dr ?_ | with_reducible refine Zb.drN ?_ | refine Zb.up (by assumption) ?_ | refine Zb.up (Hid.out (by assumption)) ?_))):
 Calls Tryz.prog 117 #[v] w fun e w'=>∃v',e= .returned v'∧Zt w' v' (canF a.q)∧Below w.heap.size w w':=by
 have i:=hOl.le;obtain ⟨A,n,c,A',n',c',rfl,_,_⟩:=id h;obtain ⟨W,hW,_,hX,hR,f⟩:=Zju w (.bool a.num.neg) (.slice A n c) (.bool a.den.neg) (.slice A' n' c') (.bool false) (.slice none 0 0) (.bool false) (.slice none 0 0);obtain ⟨p1,p2,p3,p4⟩:=hX.four;have e1:=h.below f;clear h;go_enter Tryz.func117,Tryz.ntmps117;go_wp2_with fail;clear hW;refine (Zdb _ _ a zeroF _ e1 (Zt.zero _) hs zeroF_sm).mono ?_;rw [zeroF_q,Rat.add_zero];rintro _ w1 ⟨v1,rfl,e2,g⟩;obtain ⟨B,m,d,B',m',d',rfl,_,_⟩:=id e2;have b:=hR.later g;obtain ⟨c0,c1,c2,c3⟩:=b.four;obtain ⟨f0,f1,f2,f3⟩:=b.fourF;go_wp2;refine Zq Tryz.results117 Tryz.underlying48 (by kernel_rfl) rfl (b.set4 _ _ _ _) rfl ?_;exact Yr b e2 (Za f g f.size) (by omega)
theorem Xg [Old] (v:Value) (fs:List RF) (K:Nat) (w:World) (h:WA w v fs) (hl:fs.length≤4096) (hk:RsL K fs) (hK:K≤34359738368) (hOl:Zb w:=by (repeat (first | assumption | exact Zb.up (by assumption) hOl | exact Zb.up (Hid.out (by assumption)) hOl | with_reducible refine Zb.set ?_ _ _ | with_reducible refine Zb.mk_ ?_ _ | with_reducible refine Zb.dr ?_ | with_reducible refine Zb.drN ?_ | refine Zb.up (by assumption) ?_ | refine Zb.up (Hid.out (by assumption)) ?_))):
 Calls Tryz.prog 86 #[v] w fun e w'=>∃v',e= .returned (.tuple #[v',.int .i64 0])∧Zbn w.heap.size w' v' (spV (qAt fs) fs.length)∧Below w.heap.size w w':=by
 have N:=hOl.le;obtain ⟨A,c,rfl,R,S⟩:=h.shape;have H:=JZ h;have HK:=JZ hk;generalize hn:fs.length=n at *;have HN:=JZ hn;have O:(n:Int)≤4096:=by omega
 clear h hk hn;go_enter Tryz.func86,Tryz.ntmps86;go_wp2
 go_loopw [4,12] (fun u i wr=>∃k:Nat,k≤n∧i= .int .i64 k∧Zbn w.heap.size wr u (spV (qAt fs) k)∧Below w.heap.size w wr) (fun _ i _=>n - (intOf i).toNat)
 case atStart=>exact ⟨0,by omega,rfl,Zbn.nil _ _,JR _ _⟩
 case round=>
  obtain ⟨k,hk,rfl,hO,j⟩:=hrel;rcases JX k n with hkl | hkl
  ·obtain ⟨f,hf⟩:=Yi (fs:=fs) (i:=k) (by rw [HN.out];exact hkl);obtain ⟨b,T,A1,n1,k1,A2,n2,k2,rfl,U,⟨q0,q1,q2,q3⟩,E⟩:=H.out.elem j hf;have HQ:=JZ (Yt hf);have F:f.Sm:=(HK.out k f hf).sm hK;obtain ⟨W1,J,hX,o⟩:=Y7 wr (.bool f.num.neg) (.slice A1 n1 k1) (.bool f.den.neg) (.slice A2 n2 k2);have P:(k:Int) < n:=(by omega);have r:=E.below o;have x:=hO.below o;have g:=Za j o j.size;obtain ⟨x0,x1,x2,x3⟩:=hX.four;clear hf E hO j;go_wp2_with fail;clear J q0 q1 q2 q3;refine (Zz _ f _ r).mono ?_;rintro _ w2 ⟨rfl,m⟩;have y:=hX.later m;have s:=x.below m;have a:=Za g m g.size;have z:=r.below m;clear x0 x1 x2 x3 hX x g r m o;by_cases hq:f.q=0
   ·have G:(qs f.q !=0)=false:=(by rw [hq];decide);have HS:Hid (spV (qAt fs) (k+1)=spV (qAt fs) k):=JZ (Xp (by rw [HQ.out];exact hq));clear hq;go_wp2;go_roundw
    case rel=>exact ⟨k+1,by omega,by go_num,by rw [HS.out];exact s,a⟩
    case measure=>simp [intOf];omega
   ·have G:(qs f.q !=0)=true:=(by simpa using fun e=>hq (ZW.1 e));have HS:Hid (spV (qAt fs) (k+1)=spV (qAt fs) k++[⟨(k:Int),canF f.q⟩]):=JZ (by rw [← HQ.out];exact XI (by rw [HQ.out];exact hq));clear hq;obtain ⟨x0,x1,x2,x3⟩:=y.four;go_wp2_with fail;refine (Uv _ f _ z F).mono ?_;rintro _ w3 ⟨v3,rfl,e3,t⟩;have C:=s.below t;have p:=Za a t a.size;obtain ⟨B,l,d,B',l',d',rfl,_,_⟩:=id e3;have HF:=JZ e3;have HO:=JZ C;have D:(spV (qAt fs) k).length+1≤1099511627776:=(by have:=Wt (f:=qAt fs) k;omega);have I:=p.size;clear s C a t e3 x0 x1 x2 x3 y z;generalize hQ:canF f.q=Q at *;go_wp2_with (at_builtin;refine UX rfl (.tmp 20) (.tmp 25) rfl w3 w.heap.size u4 (spV (qAt fs) k) rfl HO.out _ _ B B' l d l' d' (k:Int) Q HF.out rfl D I ?_);intro v' w4 L V M;go_wp2;go_roundw
    case rel=>exact ⟨k+1,by omega,by go_num,by rw [HS.out];exact L,p.trans M⟩
    case measure=>simp [intOf];omega
  ·obtain rfl:k=n:=by omega
   go_wp2;go_ret2;exact ⟨_,rfl,hO,j⟩
namespace Pl
def Zvd (n i:Nat) (es:List En):List RF:=rfL n fun j=>if j < i then canF (XG es j) else zeroF
theorem Zve (n:Nat) (es:List En):Zvd n 0 es=List.replicate n zeroF:=by
 refine List.ext_getElem? fun i=>?_
 rcases JX i n with e | e
 ·unfold Zvd;rw [Yu e,List.getElem?_replicate,if_pos e,if_neg (by omega)]
 ·unfold Zvd;rw [JU (by rw [Zw];exact e),JU (by simpa using e)]
theorem Zeq {n i:Nat} {es:List En} (hi:i < n):(Zvd n i es).set i (canF (XG es i))=Zvd n (i+1) es:=by
 unfold Zvd;rw [VB hi];exact XK fun j _=>by
  by_cases e:j=i
  ·rw [if_pos e,if_pos (by omega),e]
  ·rw [if_neg e];by_cases g:j < i
   ·rw [if_pos g,if_pos (by omega)]
   ·rw [if_neg g,if_neg (by omega)]
theorem Zzb (n:Nat) (es:List En):Zvd n n es=Z7 n (XG es):=by
 unfold Zvd;rw [← Znl];exact XK fun j hj=>by rw [if_pos hj]
theorem UY (n i:Nat) (es:List En):(Zvd n i es).length=n:=Zw _ _
theorem Zzc {n i j:Nat} {es:List En} (h:j < n):(Zvd n i es)[j]? =some (if j < i then canF (XG es j) else zeroF):=Yu h
def Vg (es:List En) (i t:Nat):Prop:=t≤es.length∧∀(k:Nat) (e:En),es[k]? =some e→(k < t↔e.idx < (i:Int))
theorem Vg.zero {n:Nat} {es:List En} (h:Good n es):Vg es 0 0:=⟨Nat.zero_le _,fun k e he=>by have:=h.1 k e he;omega⟩
theorem Vg.hit {n i t:Nat} {es:List En} (g:Good n es) (h:Vg es i t) {e:En} (he:es[t]? =some e) (hi:e.idx=(i:Int)):Vg es (i+1) (t+1)∧XG es i=e.f.q:=by
 have ht:t < es.length:=(List.getElem?_eq_some_iff.1 he).1;refine ⟨⟨by omega,fun k d hd=>?_⟩,Ycu g.2.1 he hi⟩;have h1:=h.2 k d hd;rcases Nat.lt_trichotomy k t with c | c | c
 ·have:=h1.1 c;omega
 ·subst c;rw [he] at hd;injection hd with hd;subst hd;omega
 ·have:=Zpn g.2.1 t k e d c he hd;omega
theorem Vg.miss {i t:Nat} {es:List En} (h:Vg es i t) (hm:∀e,es[t]? =some e→e.idx≠(i:Int)) (hinc:Inc none es):Vg es (i+1) t∧XG es i=0:=by
 have a:∀(k:Nat) (d:En),es[k]? =some d→¬k < t→d.idx≠(i:Int):=fun k d hd hk e=>by
  rcases Nat.eq_or_lt_of_le (Nat.not_lt.1 hk) with c | c
  ·subst c;exact hm d hd e
  ·have ht:t < es.length:=(by have:=(List.getElem?_eq_some_iff.1 hd).1;omega);have h1:=Zpn hinc t k _ d c (JQ ht) hd;have h2:¬(es[t]'ht).idx < (i:Int):=fun q=>Nat.lt_irrefl t ((h.2 t _ (JQ ht)).2 q)
   have h3:=hm _ (JQ ht);omega
 refine ⟨⟨h.1,fun k d hd=>?_⟩,Zkz (fun k d hd=>?_) _⟩
 ·have h1:=h.2 k d hd;by_cases c:k < t
  ·have:=h1.1 c;omega
  ·have:=a k d hd c;omega
 ·by_cases c:k < t
  ·have:=(h.2 k d hd).1 c;omega
  ·exact a k d hd c
end Pl
theorem WE [Old] (v:Value) (es:List En) (n K:Nat) (w:World) (h:Wp w v es) (hn:n≤4096) (hk:∀(k:Nat) (e:En),es[k]? =some e→e.f.Rs K) (hK:K≤34359738368) (hg:Pl.Good n es) (hOl:Zb w:=by (repeat (first | assumption | exact Zb.up (by assumption) hOl | exact Zb.up (Hid.out (by assumption)) hOl | with_reducible refine Zb.set ?_ _ _ | with_reducible refine Zb.mk_ ?_ _ | with_reducible refine Zb.dr ?_ | with_reducible refine Zb.drN ?_ | refine Zb.up (by assumption) ?_ | refine Zb.up (Hid.out (by assumption)) ?_))):
 Calls Tryz.prog 110 #[v,.int .i64 (n:Int)] w fun e w'=>∃v',e= .returned (.tuple #[v',.int .i64 0])∧Yd w.heap.size w' v' (Z7 n (XG es))∧Below w.heap.size w w':=by
 have X:=hOl.le;obtain ⟨A,c,rfl,a2,a3⟩:=h.shape;have H:=JZ h;have HK:=JZ hk;have HG:=JZ hg;have HE:=JZ (hg.err hn);generalize hl:es.length=l at *;have HL:=JZ hl;have S:Hid (EnI es):=JZ fun k e he=>by have:=hg.1 k e he;omega
 have Y:Hid (∀(k:Nat) (e:En),es[k]? =some e→e.idx=(e.idx.toNat:Int)∧e.idx < n):=JZ fun k e he=>by have:=hg.1 k e he;omega
 have Z:=WC n (by omega);clear hk hg hl;go_enter Tryz.func110,Tryz.ntmps110;go_wp2_with fail;refine (XE _ es (n:Int) _ h S.out (by omega) (by omega)).mono ?_;rw [HE.out];rintro _ w1 ⟨rfl,M⟩;have F:=Yd.zeros w1 n (by unfold maxLen;omega);have G:=Zc w1 (.cells (zfc n) 48);rw [← Zve n es] at F;clear h;go_wp2;have N:=Za M G M.size;have E:=M.size;generalize w1.alloc (.cells (zfc n) 48)=W2 at *
 go_loopw [8,20] (fun x i wr=>∃k t:Nat,k≤n∧x= .int .i64 t∧i= .int .i64 k∧Below w.heap.size w wr∧Below w1.heap.size w1 wr∧Vg es k t∧Yd w1.heap.size wr (.slice (some ⟨w1.heap.size,0,none⟩) n n) (Zvd n k es)) (fun _ i _=>n - (intOf i).toNat)
 case atStart=>exact ⟨0,0,by omega,rfl,rfl,N,G,Vg.zero HG.out,F⟩
 case round=>
  clear N G F;obtain ⟨k,t,hk,rfl,rfl,j,a,J,hO⟩:=hrel;have I:=JZ J;have a0:t≤l:=by rw [← HL.out];exact J.1
  clear J;rcases JX k n with hkl | hkl
  ·have a1:(k:Int) < n:=(by omega);have y:=Zzc (n:=n) (i:=k) (es:=es) hkl;rcases JX t l with htl2 | htl2
   ·obtain ⟨e,he⟩:=YJ (es:=es) (i:=t) (by rw [HL.out];exact htl2);obtain ⟨b,a4,A1,n1,k1,A2,n2,k2,rfl,a5,⟨x0,x1,x2,x3,x4⟩,L⟩:=H.out.elem j he;have T:(t:Int) < l:=(by omega);by_cases D:e.idx=(k:Int)
    ·obtain ⟨r,s⟩:=Vg.hit HG.out I.out he D;have z:=JZ r;have C:Hid (canF e.f.q=canF (XG es k)):=JZ (by rw [s]);have U:e.f.Sm:=(HK.out t e he).sm hK;obtain ⟨ei,ef⟩:=e;simp only at *;subst D;clear he r s;go_wp2_with fail;refine (Uv _ ef _ L U).mono ?_;rw [C.out];rintro _ w3 ⟨v3,rfl,e3,g⟩;obtain ⟨B,l9,d9,B',O,P,rfl,_,_⟩:=id e3;have m:=hO.below g;obtain ⟨_,_,_,_,⟨t0,t1,t2,t3⟩,⟨f0,f1,f2,f3⟩,_⟩:=m.at_ y;obtain ⟨u,R⟩:=m.set_ (k:=k) (by rw [UY];exact hkl) e3;rw [Zeq hkl] at u;have o:=ZA (Za j g j.size) E (k * 4) (k * 4+1) (k * 4+2) (k * 4+3);have p:=ZA (Za a g a.size) (JY _) (k * 4) (k * 4+1) (k * 4+2) (k * 4+3);clear x0 x1 x2 x3 x4 L hO j a g;go_wp2;go_roundw
     case rel=>exact ⟨k+1,t+1,by omega,by go_num,by go_num,o _ _ _ _,p _ _ _ _,z.out,u⟩
     case measure=>simp [intOf];omega
    ·obtain ⟨r,s⟩:=Vg.miss I.out (fun d hd=>by rw [he] at hd;injection hd with hd;subst hd;exact D) HG.out.2.1;have z:=JZ r;have C:Hid (canF zeroF.q=canF (XG es k)):=JZ (by rw [s,zeroF_q]);obtain ⟨ei,ef⟩:=e;simp only at *;have V:(ei==(k:Int))=false:=(by simpa using D);clear he r s D;go_wp2_with fail;refine (Uv _ zeroF _ (Zt.zero _) zeroF_sm).mono ?_;rw [C.out];rintro _ w3 ⟨v3,rfl,e3,g⟩;obtain ⟨B,l9,d9,B',O,P,rfl,_,_⟩:=id e3;have m:=hO.below g;obtain ⟨_,_,_,_,⟨t0,t1,t2,t3⟩,⟨f0,f1,f2,f3⟩,_⟩:=m.at_ y;obtain ⟨u,R⟩:=m.set_ (k:=k) (by rw [UY];exact hkl) e3;rw [Zeq hkl] at u;have o:=ZA (Za j g j.size) E (k * 4) (k * 4+1) (k * 4+2) (k * 4+3);have p:=ZA (Za a g a.size) (JY _) (k * 4) (k * 4+1) (k * 4+2) (k * 4+3);clear x0 x1 x2 x3 x4 L hO j a g;go_wp2;go_roundw
     case rel=>exact ⟨k+1,t,by omega,rfl,by go_num,o _ _ _ _,p _ _ _ _,z.out,u⟩
     case measure=>simp [intOf];omega
   ·obtain ⟨r,s⟩:=Vg.miss I.out (fun d hd=>by have:=(List.getElem?_eq_some_iff.1 hd).1;have:=HL.out;omega) HG.out.2.1;have z:=JZ r;have C:Hid (canF zeroF.q=canF (XG es k)):=JZ (by rw [s,zeroF_q]);have T:(l:Int)≤t:=(by omega);clear r s;go_wp2_with fail;refine (Uv _ zeroF _ (Zt.zero _) zeroF_sm).mono ?_;rw [C.out];rintro _ w3 ⟨v3,rfl,e3,g⟩;obtain ⟨B,l9,d9,B',O,P,rfl,_,_⟩:=id e3;have m:=hO.below g;obtain ⟨_,_,_,_,⟨t0,t1,t2,t3⟩,⟨f0,f1,f2,f3⟩,_⟩:=m.at_ y;obtain ⟨u,R⟩:=m.set_ (k:=k) (by rw [UY];exact hkl) e3;rw [Zeq hkl] at u;have o:=ZA (Za j g j.size) E (k * 4) (k * 4+1) (k * 4+2) (k * 4+3);have p:=ZA (Za a g a.size) (JY _) (k * 4) (k * 4+1) (k * 4+2) (k * 4+3);clear hO j a g;go_wp2;go_roundw
    case rel=>exact ⟨k+1,t,by omega,rfl,by go_num,o _ _ _ _,p _ _ _ _,z.out,u⟩
    case measure=>simp [intOf];omega
  ·obtain rfl:n=k:=by omega
   rw [Zzb] at hO;go_wp2;go_ret2;exact ⟨_,rfl,hO.monoB E,j⟩
def Zvh (cs:List Value) (j:Nat) (t x y z u:Value):List Value:=((((cs.set j t).set (j+1) x).set (j+2) y).set (j+3) z).set (j+4) u
theorem EnC.set_ [Old] {w:World} {cs:List Value} {es:List En} (h:EnC w cs es) {k:Nat} (hk:k < es.length) {x y z u:Value} {e:En} (hf:Zt w (.agg #[x,y,z,u]) e.f):EnC w (Zvh cs (k * 5) (.int .i64 e.idx) x y z u) (es.set k e):=by
 have hl:=h.1;refine ⟨by simp [Zvh,hl],fun j g hg=>?_⟩;by_cases a:j=k
 ·subst a;rw [List.getElem?_set_self hk] at hg;injection hg with hg;subst hg;refine ⟨x,y,z,u,?_,?_,?_,?_,?_,hf⟩ <;> unfold Zvh
  ·rw [List.getElem?_set_ne (by omega),List.getElem?_set_ne (by omega),List.getElem?_set_ne (by omega),List.getElem?_set_ne (by omega),List.getElem?_set_self (by omega)]
  ·rw [List.getElem?_set_ne (by omega),List.getElem?_set_ne (by omega),List.getElem?_set_ne (by omega),List.getElem?_set_self (by simp;omega)]
  ·rw [List.getElem?_set_ne (by omega),List.getElem?_set_ne (by omega),List.getElem?_set_self (by simp;omega)]
  ·rw [List.getElem?_set_ne (by omega),List.getElem?_set_self (by simp;omega)]
  ·rw [List.getElem?_set_self (by simp;omega)]
 ·rw [List.getElem?_set_ne (Ne.symm a)] at hg;obtain ⟨x',y',z',u',h0,h1,h2,h3,h4,h5⟩:=h.2 j g hg;refine ⟨x',y',z',u',?_,?_,?_,?_,?_,h5⟩ <;> unfold Zvh <;> rw [List.getElem?_set_ne (by omega),List.getElem?_set_ne (by omega),List.getElem?_set_ne (by omega),List.getElem?_set_ne (by omega),List.getElem?_set_ne (by omega)] <;> assumption
theorem Zbn.at_ [Old] {base:Nat} {w:World} {g n c:Nat} {es:List En} (h:Zbn base w (.slice (some ⟨g,0,none⟩) n c) es) {k:Nat} {e:En} (he:es[k]? =some e):
 ∃x y z u,(w.cell? ⟨g,k * 5,none⟩=some (.int .i64 e.idx)∧w.cell? ⟨g,k * 5+1,none⟩=some x∧w.cell? ⟨g,k * 5+2,none⟩=some y∧w.cell? ⟨g,k * 5+3,none⟩=some z∧w.cell? ⟨g,k * 5+4,none⟩=some u)∧(w.frozen? ⟨g,k * 5,none⟩=false∧w.frozen? ⟨g,k * 5+1,none⟩=false∧w.frozen? ⟨g,k * 5+2,none⟩=false∧w.frozen? ⟨g,k * 5+3,none⟩=false∧w.frozen? ⟨g,k * 5+4,none⟩=false)∧Zt w (.agg #[x,y,z,u]) e.f:=by
 obtain ⟨cs,h1,h2⟩:=h;have hn:n=es.length:=(Vv.of_own h1).len;subst hn;obtain ⟨x,y,z,u,c0,c1,c2,c3,c4,hm⟩:=h2.2 k e he;exact ⟨x,y,z,u,⟨(ZP h1 c0).1,(ZP h1 c1).1,(ZP h1 c2).1,(ZP h1 c3).1,(ZP h1 c4).1⟩,⟨(ZP h1 c0).2,(ZP h1 c1).2,(ZP h1 c2).2,(ZP h1 c3).2,(ZP h1 c4).2⟩,hm⟩
theorem Zbn.set_ [Old] {base:Nat} {w:World} {g n c:Nat} {es:List En} (h:Zbn base w (.slice (some ⟨g,0,none⟩) n c) es) {k:Nat} (hk:k < es.length) {x y z u:Value} {e:En} (hf:Zt w (.agg #[x,y,z,u]) e.f) (hO:Old.n≤base:=by first | assumption | exact Nat.zero_le _ | omega | ((first | with_reducible refine Zb.le ?_ | with_reducible refine Zb.le1 ?_ | with_reducible refine Zb.le2 ?_ | with_reducible refine Zb.le3 ?_);repeat (first | assumption | exact Zb.up (by assumption) hOl | exact Zb.up (Hid.out (by assumption)) hOl | with_reducible refine Zb.set ?_ _ _ | with_reducible refine Zb.mk_ ?_ _ | with_reducible refine Zb.dr ?_ | with_reducible refine Zb.drN ?_ | refine Zb.up (by assumption) ?_ | refine Zb.up (Hid.out (by assumption)) ?_))):
 Zbn base (((((w.setCell ⟨g,k * 5,none⟩ (.int .i64 e.idx)).setCell ⟨g,k * 5+1,none⟩ x).setCell ⟨g,k * 5+2,none⟩ y).setCell ⟨g,k * 5+3,none⟩ z).setCell ⟨g,k * 5+4,none⟩ u) (.slice (some ⟨g,0,none⟩) n c) (es.set k e)∧
 Ze 87 w (((((w.setCell ⟨g,k * 5,none⟩ (.int .i64 e.idx)).setCell ⟨g,k * 5+1,none⟩ x).setCell ⟨g,k * 5+2,none⟩ y).setCell ⟨g,k * 5+3,none⟩ z).setCell ⟨g,k * 5+4,none⟩ u):=by
 obtain ⟨cs,h1,h2⟩:=h;have hn:n=es.length:=(Vv.of_own h1).len;subst hn;have hl:=h2.1;have o1:=Xi h1 (k * 5) (.int .i64 e.idx) (by omega);have o2:=Xi o1 (k * 5+1) x (by simp;omega);have o3:=Xi o2 (k * 5+2) y (by simp;omega);have o4:=Xi o3 (k * 5+3) z (by simp;omega);have o5:=Xi o4 (k * 5+4) u (by simp;omega);obtain ⟨_,b0,_⟩:=Z8 h1;obtain ⟨_,b1,_⟩:=Z8 o1;obtain ⟨_,b2,_⟩:=Z8 o2;obtain ⟨_,b3,_⟩:=Z8 o3;obtain ⟨_,b4,_⟩:=Z8 o4;have kp:=((((Ze.setCell b0 (k * 5) (.int .i64 e.idx)).trans (Ze.setCell b1 (k * 5+1) x)).trans (Ze.setCell b2 (k * 5+2) y)).trans (Ze.setCell b3 (k * 5+3) z)).trans (Ze.setCell b4 (k * 5+4) u);have kd:=kp.keep (by decide);refine ⟨⟨Zvh cs (k * 5) (.int .i64 e.idx) x y z u,by rw [List.length_set];exact o5,?_⟩,kp⟩;exact (h2.keep kd).set_ hk (hf.keep kd)
def zec (n:Nat):Array Value:=madeCells (Value.cells (.agg #[.int .i64 0,.bool false,.slice none 0 0,.bool false,.slice none 0 0])) (n * 5)
theorem Zlc {n k j:Nat} (hk:k < n) (hj:j < 5):(zec n)[k * 5+j]? =([.int .i64 0,.bool false,.slice none 0 0,.bool false,.slice none 0 0]:List Value)[j]? :=by
 have a:k * 5+j < n * 5:=by omega
 have hm:(k * 5+j) % 5=j:=by omega
 unfold zec madeCells;simp [a,Value.cells,hm]
 match j,hj with
 | 0,_=>rfl
 | 1,_=>rfl
 | 2,_=>rfl
 | 3,_=>rfl
 | 4,_=>rfl
theorem Zbn.zeros [Old] (w:World) (n:Nat) (hn:n≤maxLen):Zbn w.heap.size (w.alloc (.cells (zec n) 87)) (.slice (some ⟨w.heap.size,0,none⟩) n n) (List.replicate n ⟨0,zeroF⟩):=by
 have a:(zec n).size=n * 5:=size_madeCells _ _;refine ⟨(zec n).toList,⟨by simp [a],.inr ⟨w.heap.size,n,zec n,by simp,JY _,heap_alloc_new w _,by simp,hn,a,?_⟩⟩,by simp [a],fun k f hf=>?_⟩
 ·rw [List.take_of_length_le (by simp [a])]
 ·rw [List.getElem?_replicate] at hf;split at hf
  ·rename_i hk
   injection hf with hf;subst hf;refine ⟨_,_,_,_,?_,?_,?_,?_,?_,Zt.zero _⟩
   ·have:=Zlc (j:=0) hk (by decide);simpa using this
   ·have:=Zlc (j:=1) hk (by decide);simpa using this
   ·have:=Zlc (j:=2) hk (by decide);simpa using this
   ·have:=Zlc (j:=3) hk (by decide);simpa using this
   ·have:=Zlc (j:=4) hk (by decide);simpa using this
  ·cases hf
theorem Zsa (n:Nat) (hn:n≤1099511627776) (w:World):
 (Instr.makeSlice 72 (.int .i64 (n:Int)) (.int .i64 (n:Int))).run Tryz.prog w= .ok (.slice (some ⟨w.heap.size,0,none⟩) n n) (w.alloc (.cells (zec n) 87)):=by
 obtain ⟨i0,hi,a,b,c⟩:=info_parts info_entry;have hb:(i0.bytes:Int) * (n:Int)≤281474976710656:=by rw [c];omega
 have hr:=run_make (P:=Tryz.prog) w 72 87 i0 _ Tryz.underlying72 hi a .i64 .i64 n n (by omega) (by omega) hb (by omega);simp only [JP,b] at hr;exact hr
namespace Pl
def Zme (es:List En):List En:=es.map fun e=>⟨e.idx,canF e.f.q⟩
def Zld (es:List En):Nat→List En
 | 0=>List.replicate es.length ⟨0,zeroF⟩
 | k+1=>match es[k]? with
  | some e=>(Zld es k).set k ⟨e.idx,canF e.f.q⟩
  | none=>Zld es k
theorem Zvi {es:List En} {k:Nat} {e:En} (h:es[k]? =some e):Zld es (k+1)=(Zld es k).set k ⟨e.idx,canF e.f.q⟩:=by
 conv=>lhs;unfold Zld
 simp only [h]
theorem VD (es:List En):∀k,(Zld es k).length=es.length
 | 0=>by simp [Zld]
 | k+1=>by
  have ih:=VD es k
  unfold Zld
  split
  ·rw [List.length_set];exact ih
  ·exact ih
theorem Zik (es:List En) (i:Nat):∀k,i < k→(Zld es k)[i]? =(Zme es)[i]?
 | 0,h=>absurd h (Nat.not_lt_zero _)
 | k+1,h=>by
  have hl:=VD es k
  unfold Zld
  split
  ·rename_i e he
   have hk:=(List.getElem?_eq_some_iff.1 he).1
   rw [List.getElem?_set]
   by_cases c:k=i
   ·subst c;rw [if_pos rfl,if_pos (by omega),Zme,List.getElem?_map,he];rfl
   ·rw [if_neg c];exact Zik es i k (by omega)
  ·rename_i he
   have hk:=List.getElem?_eq_none_iff.1 he
   by_cases c:k=i
   ·subst c;rw [JU (by omega),JU (by simp [Zme];omega)]
   ·exact Zik es i k (by omega)
theorem Zzd (es:List En):Zld es es.length=Zme es:=by
 refine List.ext_getElem? fun i=>?_
 by_cases c:i < es.length
 ·exact Zik es i _ c
 ·rw [JU (by rw [VD];omega),JU (by simp [Zme];omega)]
end Pl
theorem Zsb {n g:Nat} {w w':World} (h:Below n w w') (hg:n≤g) (i j k l m:Nat) (t x y z u:Value):Below n w (((((w'.setCell ⟨g,i,none⟩ t).setCell ⟨g,j,none⟩ x).setCell ⟨g,k,none⟩ y).setCell ⟨g,l,none⟩ z).setCell ⟨g,m,none⟩ u):=((((h.setCell hg _).setCell hg _).setCell hg _).setCell hg _).setCell hg _
theorem UJ [Old] (vb:Value) (es:List En) (K:Nat) (w:World) (h2:Wp w vb es) (ha:∀(k:Nat) (e:En),es[k]? =some e→e.f.Rs K) (hK:K≤34359738368) (hlen:es.length≤1099511627776) (hOl:Zb w:=by (repeat (first | assumption | exact Zb.up (by assumption) hOl | exact Zb.up (Hid.out (by assumption)) hOl | with_reducible refine Zb.set ?_ _ _ | with_reducible refine Zb.mk_ ?_ _ | with_reducible refine Zb.dr ?_ | with_reducible refine Zb.drN ?_ | refine Zb.up (by assumption) ?_ | refine Zb.up (Hid.out (by assumption)) ?_))):
 Calls Tryz.prog 115 #[vb] w fun o w'=>∃v',o= .returned v'∧Zbn w.heap.size w' v' (Zme es)∧Below w.heap.size w w':=by
 have L:=hOl.le;obtain ⟨A,c,rfl,O,P⟩:=h2.shape;generalize hn:es.length=l at *;have HN:=JZ hn;have HA:=JZ ha;have H2:=JZ h2;have z:Hid (Zld es l=Zme es):=JZ (by rw [← hn];exact Zzd es);have M:=Zsa l hlen;have p:=Zbn.zeros w l (by unfold maxLen;omega);have r:=Zc w (.cells (zec l) 87);have HO:Hid (Zbn w.heap.size (w.alloc (.cells (zec l) 87)) (.slice (some ⟨w.heap.size,0,none⟩) l l) (Zld es 0)):=JZ (by unfold Zld;rw [hn];exact p);clear hn ha h2 p;go_enter Tryz.func115,Tryz.ntmps115;go_wp2;generalize w.alloc (.cells (zec l) 87)=W at *
 go_loopw [11] (fun i wr=>∃k:Nat,k≤l∧i= .int .i64 k∧Zbn w.heap.size wr (.slice (some ⟨w.heap.size,0,none⟩) l l) (Zld es k)∧Below w.heap.size w wr) (fun i _=>l - (intOf i).toNat)
 case atStart=>exact ⟨0,by omega,rfl,HO.out,r⟩
 case round=>
  clear r;obtain ⟨k,hk,rfl,hO,a⟩:=hrel;rcases JX k l with hkl | hkl
  ·obtain ⟨e,he⟩:=YJ (es:=es) (i:=k) (by rw [HN.out];exact hkl);obtain ⟨b,R,A1,n1,k1,A2,n2,k2,rfl,S,⟨x0,x1,x2,x3,x4⟩,x⟩:=H2.out.elem a he;have s:k < (Zld es k).length:=(by rw [VD,HN.out];exact hkl);obtain ⟨fj,G⟩:=YJ (es:=Zld es k) (i:=k) s;have B:=JZ (Zvi he);have d:=HA.out k e he;obtain ⟨ei,f⟩:=e;simp only at *;have C:=d.sm hK;have HV:Hid (f.q+zeroF.q=f.q):=JZ (by rw [zeroF_q];grind);obtain ⟨W1,H,hV,m⟩:=Zgf wr (.int .i64 ei) (.bool f.num.neg) (.slice A1 n1 k1) (.bool f.den.neg) (.slice A2 n2 k2);have D:=hO.below m;have F:=x.below m;have g:=Za a m a.size;obtain ⟨v0,v1,v2,v3,v4⟩:=hV.five;have N:(k:Int) < l:=(by omega);clear he hO a x d
   go_upto_region 5 with (fail)
   clear H;have D0:=Zm v0;have D1:=Zm v1;have D2:=Zm v2;have D3:=Zm v3;have D4:=Zm v4;have h:=Zf W1;clear v0 v1 v2 v3 v4 x0 x1 x2 x3 x4;refine Zp 10 [0,1,2,3,4,5,6,7,8,9,10] (by kernel_rfl) (by kernel_rfl) ?_;repeat ((first | (refine Zd (v:=?_) rfl rfl rfl ?_ ?_;rotate_left;(· (intro _ n;go_simp;(try go_bits);(try with_reducible rfl)))) | (refine Zj (v:=?_) rfl rfl rfl ?_ ?_;rotate_left;(· (intro _ n;go_simp;(try go_bits);(try with_reducible rfl)))) | refine Zk rfl rfl rfl ?_);(try simp only [Act.put,pu1,pu2,pu3,pu4,pu5,pu6]))
   refine Zh rfl rfl (fun KR hKR=>?_);go_simp;(with_reducible refine (Zdb _ _ f zeroF _ (F.below h) (Zt.zero _) C zeroF_sm).mono ?_);rw [HV.out];rintro _ w7 ⟨v7,rfl,e7,I⟩;have j:=Za h I h.size;obtain ⟨E,l9,k9,E',T,U,rfl,_,_⟩:=id e7;have t:=D.below j;obtain ⟨_,_,_,_,⟨c0,c1,c2,c3,c4⟩,⟨f0,f1,f2,f3,f4⟩,_⟩:=t.at_ G;refine hKR.out _ _ (Or.inr j) ?_;clear hKR KR;(try simp only [Act.put,pu1,pu2,pu3,pu4,pu5,pu6]);repeat ((first | (refine Zd (v:=?_) rfl rfl rfl ?_ ?_;rotate_left;(· (intro _ n;go_simp;(try go_bits);(try with_reducible rfl)))) | (refine Zj (v:=?_) rfl rfl rfl ?_ ?_;rotate_left;(· (intro _ n;go_simp;(try go_bits);(try with_reducible rfl)))) | refine Zk rfl rfl rfl ?_);(try simp only [Act.put,pu1,pu2,pu3,pu4,pu5,pu6]))
   refine Zh rfl rfl (fun KR hKR=>?_);go_simp;refine hKR.out _ _ (Or.inl (by decide)) ?_;clear hKR KR;(try simp only [Act.put,pu1,pu2,pu3,pu4,pu5,pu6]);refine Zx ?_;clear D0 D1 D2 D3 D4;obtain ⟨y,J⟩:=t.set_ (e:=⟨ei,canF f.q⟩) s e7;have u:=Zsb (Za g j g.size) (JY _) (k * 5) (k * 5+1) (k * 5+2) (k * 5+3) (k * 5+4);rw [← B.out] at y;go_wp2;go_roundw
   case rel=>exact ⟨k+1,by omega,by go_num,y,u _ _ _ _ _⟩
   case measure=>simp [intOf];omega
  ·obtain rfl:k=l:=by omega
   rw [z.out] at hO;go_wp2;go_ret;exact ⟨_,rfl,hO,a⟩
theorem Zgt {base:Nat} {w w':World} {g:Option Nat} {t:TypeId} {s n:Nat} {v:Value} {xs:List Value} (h:w.ownsRow base t s v n xs) (ho:Z6 g w w') (hne:∀b,v.ownBlock=some b→some b≠g):w'.ownsRow base t s v n xs:=by
 refine ⟨h.1,?_⟩;rcases h.2 with hn | ⟨g',cap,cur,rfl,hb',hgg,rest⟩
 ·exact .inl hn
 ·exact .inr ⟨g',cap,cur,rfl,hb',(ho.2 g' (Yo hgg) (hne g' (by simp [Value.ownBlock]))).trans hgg,rest⟩
theorem Ue {base:Nat} {w:World} {t:TypeId} {s n:Nat} {v:Value} {xs:List Value} (h:w.ownsRow base t s v n xs):∀g,v.ownBlock=some g→g < w.heap.size:=by
 intro g hg;rcases h.2 with ⟨rfl,_⟩ | ⟨g',cap,cur,rfl,_,hgg,_⟩
 ·simp [Value.ownBlock] at hg
 ·simp [Value.ownBlock] at hg;subst hg;exact Yo hgg
section
namespace Pl
def kI (z:Int):RF:=canF (z:Rat)
def kp:LPd:=⟨[kI 0],[[⟨0,kI 1⟩]],[kI (-1)]⟩
end Pl
section
variable {w:World} {g:Nat}
theorem Wp.one [Old] {k:Int} {b b':Bool} {A A':Option Addr} {n c n' c':Nat} {f:RF} (hB:Bk w g 87 [.int .i64 k,.bool b,.slice A n c,.bool b',.slice A' n' c']) (h:Zt w (.agg #[.bool b,.slice A n c,.bool b',.slice A' n' c']) f):Wp w (.slice (some ⟨g,0,none⟩) 1 1) [⟨k,f⟩]:=by
 refine ⟨[.int .i64 k,.bool b,.slice A n c,.bool b',.slice A' n' c'],⟨_,1,rfl,rfl,JY _,by unfold maxLen;omega,fun _=>⟨g,0,_,_,_,rfl,Or.inl rfl,hB,fun j u hj=>by simpa using hj⟩⟩,rfl,fun j f' hf=>?_⟩
 match j,hf with
 | 0,hf=>simp at hf;subst hf;exact ⟨_,_,_,_,rfl,rfl,rfl,rfl,rfl,h⟩
end
end
end Go.Proofs.YtncmobkhenfhpaaGreat
