/- Lemmas of the claim; no condition. -/
import Derived.Test.YtgbhebappffbdaaGreatW5
set_option linter.all false
set_option maxRecDepth 100000
set_option maxHeartbeats 40000000
namespace Go.Proofs.YtgbhebappffbdaaGreat
open Go.RowKit
open Pl
attribute [local go_sem ↓] Go.wp_at_zero Go.wp_at_succ
theorem VX {ops:Array Oper} {Q:Exit→Act→World→Prop} {S:World→Prop} {m:Nat} {i:Nat} {is:List Nat} {o:Oper} {a:Act} (hoi:ops[i]? =some o) (hf:XG ops m i=false) (hgd:o.guard=none) (hl0:m≤i) (s x:Operand) (t:TypeId)
 (ho:o.op= .call { callee:= .builtin .append,args:=#[s,x],argTypes:=#[t,t] })
 (e:TypeId) (inf:TypeInfo) (z:Value) (size bytes:Nat) (ht:Tryz.prog.underlying t=some (.slice e)) (hi:Tryz.prog.info? e=some inf) (hz:inf.zero=some z)
 (hsize:inf.size=size) (hby:inf.bytes=bytes) (hzs:z.cells.size=size) (hsz:0 < size) (W:World) (base:Nat) (v:Value) (n:Nat) (xs news:List Value) (hs:a.eval s=v) (hown:W.ownsRow base e size v n xs)
 (hx:a.eval x= .slice (some ⟨W.heap.size,0,none⟩) 1 1) (hl:news.length=size) (h1:∀u∈news,u.oneCell'=true) (hn:n+1≤maxLen) (hb:(n+1) * bytes≤140737488355328) (hbase:base≤W.heap.size)
 (h:∀v' w',w'.ownsRow base e size v' (n+1) (xs++news)→Zg e W w'→Below base W w'→XP Tryz.prog ops Q S m is (a.put o.dst v') w'):
 XP Tryz.prog ops Q S m (i::is) a (W.alloc (.cells news.toArray e)):=by
 refine Zf hoi hf fun K hK=>?_
 obtain ⟨v',w',hr,h2,h3,h4⟩:=Zbn o.type t e inf z size bytes ht hi hz hsize hby hzs hsz W base v n xs news hown hl h1 hn hb hbase;rw [if_pos (by simp [Region.wanted,hgd])];unfold Oper.wp execOp;simp only [ho,resolve,invoke,builtin,Sem.run_bind,Sem.run_pure,Result.andThen_ok,List.map_toArray,List.map_cons,List.map_nil,hs,hx,hr];exact hK _ _ (.inl hl0) (h v' w' h2 h3 h4)
theorem Wp {ops:Array Oper} {Q:Exit→Act→World→Prop} {S:World→Prop} {m:Nat} {i:Nat} {is:List Nat} {o:Oper} {a:Act} (hoi:ops[i]? =some o) (hfl:XG ops m i=false) (hgd:o.guard=none) (hl0:m≤i) (s x:Operand)
 (ho:o.op= .call { callee:= .builtin .append,args:=#[s,x],argTypes:=#[23,23] })
 (W:World) (base:Nat) (v:Value) (fs:List RF) (hs:a.eval s=v) (hown:ZU base W v fs) (b b':Bool) (A A':Option Addr) (n c n' c':Nat) (f:RF) (hf:Zw W (.agg #[.bool b,.slice A n c,.bool b',.slice A' n' c']) f)
 (hx:a.eval x= .slice (some ⟨W.heap.size,0,none⟩) 1 1) (hn:fs.length+1≤1099511627776) (hbase:base≤W.heap.size)
 (h:∀v' w',ZU base w' v' (fs++[f])→Zg 46 W w'→Below base W w'→XP Tryz.prog ops Q S m is (a.put o.dst v') w'):
 XP Tryz.prog ops Q S m (i::is) a (W.alloc (.cells #[.bool b,.slice A n c,.bool b',.slice A' n' c'] 46)):=by
 obtain ⟨cs,h1,h2⟩:=hown;obtain ⟨i0,hi,d,e,g⟩:=info_parts info_frac;refine VX hoi hfl hgd hl0 s x 23 ho 46 i0 _ 4 64 Tryz.underlying23 hi d e g rfl (by decide) W base v fs.length cs [.bool b,.slice A n c,.bool b',.slice A' n' c'] hs h1 hx rfl Zac (by unfold maxLen;omega) (by omega) hbase ?_;intro v' w' g1 g2 g3;refine h v' w' ⟨_,by simpa using g1,?_⟩ g2 g3;have hk:=g2.keep (by decide);exact (h2.keep hk).snoc (hf.keep hk)
def Zbz (base:Nat) (w:World) (v:Value) (es:List En):Prop:=∃cs,w.ownsRow base 83 5 v es.length cs∧EnC w cs es
theorem Zbz.vec {base:Nat} {w:World} {v:Value} {es:List En} (h:Zbz base w v es):V7 w v es:=by
 obtain ⟨cs,h1,h2⟩:=h;exact ⟨cs,UD.of_own h1,h2⟩
theorem Zbz.below {base:Nat} {w w':World} {v:Value} {es:List En} (h:Zbz base w v es) (hb:Below w.heap.size w w'):Zbz base w' v es:=by
 obtain ⟨cs,h1,h2⟩:=h;exact ⟨cs,own_below h1 hb,h2.keep (ZG.of_below hb)⟩
theorem Zbz.nil (base:Nat) (w:World):Zbz base w (.slice none 0 0) []:=⟨[],World.ownsRow_nil _ _ _ _,EnC.nil _⟩
theorem info_entry:(Tryz.prog.info? 83).map (fun i=>(i.zero,i.size,i.bytes))=some (some (.agg #[.int .i64 0,.bool false,.slice none 0 0,.bool false,.slice none 0 0]),5,72):=by kernel_rfl
theorem Zmq {k:Int} {x y:Bool} {A A':Option Addr} {n c n' c':Nat}:∀u∈[Value.int .i64 k,.bool x,.slice A n c,.bool y,.slice A' n' c'],u.oneCell'=true:=by
 intro u hu;simp at hu;rcases hu with rfl | rfl | rfl | rfl | rfl <;> rfl
theorem Vx {ops:Array Oper} {rest:List Oper} {o:Oper} {a:Act} {Q:Exit→Act→World→Prop} (hgd:o.guard=none) (s x:Operand)
 (ho:o.op= .call { callee:= .builtin .append,args:=#[s,x],argTypes:=#[66,66] })
 (W:World) (base:Nat) (v:Value) (es:List En) (hs:a.eval s=v) (hown:Zbz base W v es) (b b':Bool) (A A':Option Addr) (n c n' c':Nat) (k:Int) (f:RF) (hf:Zw W (.agg #[.bool b,.slice A n c,.bool b',.slice A' n' c']) f)
 (hx:a.eval x= .slice (some ⟨W.heap.size,0,none⟩) 1 1) (hn:es.length+1≤1099511627776) (hbase:base≤W.heap.size)
 (h:∀v' w',Zbz base w' v' (es++[⟨k,f⟩])→Zg 83 W w'→Below base W w'→wpList Tryz.prog ops Q rest (a.put o.dst v') w'):
 wpList Tryz.prog ops Q (o::rest) a (W.alloc (.cells #[.int .i64 k,.bool b,.slice A n c,.bool b',.slice A' n' c'] 83)):=by
 obtain ⟨cs,h1,h2⟩:=hown;obtain ⟨i0,hi,d,g,i⟩:=info_parts info_entry;refine XM hgd s x 66 ho 83 i0 _ 5 72 Tryz.underlying66 hi d g i rfl (by decide) W base v es.length cs [.int .i64 k,.bool b,.slice A n c,.bool b',.slice A' n' c'] hs h1 hx rfl Zmq (by unfold maxLen;omega) (by omega) hbase ?_;intro v' w' g1 g2 g3;refine h v' w' ⟨_,by simpa using g1,?_⟩ g2 g3;have hk:=g2.keep (by decide);exact (h2.keep hk).snoc (e:=⟨k,f⟩) (hf.keep hk)
def YF (base:Nat) (w:World) (v:Value) (cols:List (List En)):Prop:=∃cs,w.ownsRow base 66 1 v cols.length cs∧∀(k:Nat) (c:List En),cols[k]? =some c→∃u,cs[k]? =some u∧V7 w u c
theorem YF.vecs {base:Nat} {w:World} {v:Value} {cols:List (List En)} (h:YF base w v cols):XW w v cols:=by
 obtain ⟨cs,h1,h2⟩:=h;exact ⟨cs,UD.of_own h1,h2⟩
theorem YF.below {base:Nat} {w w':World} {v:Value} {cols:List (List En)} (h:YF base w v cols) (hb:Below w.heap.size w w'):YF base w' v cols:=by
 obtain ⟨cs,h1,h2⟩:=h;exact ⟨cs,own_below h1 hb,fun k c hc=>by obtain ⟨u,g1,g2⟩:=h2 k c hc;exact ⟨u,g1,g2.below hb⟩⟩
theorem YF.but {base:Nat} {w w':World} {e:TypeId} {v:Value} {cols:List (List En)} (h:YF base w v cols) (hk:Zg e w w') (h0:66≠e) (h1:83≠e) (h2:148≠e):YF base w' v cols:=by
 obtain ⟨cs,g1,g2⟩:=h;exact ⟨cs,hk.own g1 h0,fun k c hc=>by obtain ⟨u,q1,q2⟩:=g2 k c hc;exact ⟨u,q1,q2.but hk h1 h2⟩⟩
theorem XW.but {w w':World} {e:TypeId} {v:Value} {cols:List (List En)} (h:XW w v cols) (hk:Zg e w w') (h0:66≠e) (h1:83≠e) (h2:148≠e):XW w' v cols:=by
 obtain ⟨cs,g1,g2⟩:=h;exact ⟨cs,hk.row g1 h0,fun k c hc=>by obtain ⟨u,q1,q2⟩:=g2 k c hc;exact ⟨u,q1,q2.but hk h1 h2⟩⟩
theorem YF.nil (base:Nat) (w:World):YF base w (.slice none 0 0) []:=⟨[],World.ownsRow_nil _ _ _ _,fun k c h=>by simp at h⟩
theorem info_vector:(Tryz.prog.info? 66).map (fun i=>(i.zero,i.size,i.bytes))=some (some (.slice none 0 0),1,24):=by kernel_rfl
theorem Zjw {ops:Array Oper} {Q:Exit→Act→World→Prop} {S:World→Prop} {m:Nat} {i:Nat} {is:List Nat} {o:Oper} {a:Act} (hoi:ops[i]? =some o) (hfl:XG ops m i=false) (hgd:o.guard=none) (hl0:m≤i) (s x:Operand)
 (ho:o.op= .call { callee:= .builtin .append,args:=#[s,x],argTypes:=#[24,24] })
 (W:World) (base:Nat) (v:Value) (cols:List (List En)) (hs:a.eval s=v) (hown:YF base W v cols) (A:Option Addr) (n c:Nat) (es:List En) (hf:V7 W (.slice A n c) es)
 (hx:a.eval x= .slice (some ⟨W.heap.size,0,none⟩) 1 1) (hn:cols.length+1≤1099511627776) (hbase:base≤W.heap.size)
 (h:∀v' w',YF base w' v' (cols++[es])→Zg 66 W w'→Below base W w'→XP Tryz.prog ops Q S m is (a.put o.dst v') w'):
 XP Tryz.prog ops Q S m (i::is) a (W.alloc (.cells #[.slice A n c] 66)):=by
 obtain ⟨cs,h1,h2⟩:=hown;obtain ⟨i0,hi,f,g,j⟩:=info_parts info_vector;refine VX hoi hfl hgd hl0 s x 24 ho 66 i0 _ 1 24 Tryz.underlying24 hi f g j rfl (by decide) W base v cols.length cs [.slice A n c] hs h1 hx rfl (fun u hu=>by simp at hu;subst hu;rfl) (by unfold maxLen;omega) (by omega) hbase ?_;intro v' w' g1 g2 g3;refine h v' w' ⟨_,by simpa using g1,fun k d hd=>?_⟩ g2 g3;have l:cs.length=cols.length:=by simpa using h1.1
 rcases JX k cols.length with hk | hk
 ·rw [List.getElem?_append_left hk] at hd;obtain ⟨u,q1,q2⟩:=h2 k d hd;exact ⟨u,by rw [List.getElem?_append_left (by omega)];exact q1,q2.but g2 (by decide) (by decide)⟩
 ·rw [List.getElem?_append_right hk] at hd;have b:k - cols.length=0:=by
   rcases JV (k - cols.length) with e | e
   ·exact e
   ·rw [JU (by simp;omega)] at hd;cases hd
  rw [b] at hd;simp at hd;subst hd;refine ⟨.slice A n c,?_,hf.but g2 (by decide) (by decide)⟩;rw [List.getElem?_append_right (by omega),show k - cs.length=0 by omega];rfl
theorem Zg.of_below {e:TypeId} {w w':World} (hb:Below w.heap.size w w'):Zg e w w':=fun b _ _ _ _ h=>(hb.block b (YA h)).trans h
theorem Zg.then {e:TypeId} {w W w':World} (h:Zg e w W) (hb:Below w.heap.size W w'):Zg e w w':=fun b cs t fz ht hc=>(hb.block b (YA hc)).trans (h b cs t fz ht hc)
theorem Zg.refl (e:TypeId) (w:World):Zg e w w:=fun _ _ _ _ _ h=>h
namespace Pl
theorem Yfd {es:List En} {p:Option Int} {e:En} (h:Inc p es) (hp:es=[]→leP p e.idx=false) (hlt:∀(k:Nat) (d:En),es[k]? =some d→d.idx < e.idx):Inc p (es++[e]):=by
 induction es generalizing p with
 | nil=>exact ⟨hp rfl,trivial⟩
 | cons d es ih=>
  refine ⟨h.1,ih h.2 (fun _=>?_) (fun k c hc=>hlt (k+1) c (by simpa using hc))⟩;have:=hlt 0 d rfl;simp [leP];omega
def Ub (m:Nat) (es:List En):Prop:=Inc none es∧es.length≤m∧∀(k:Nat) (e:En),es[k]? =some e→0≤e.idx∧e.idx < m∧e.f.q≠0∧e.f.Rs 1
theorem Ub.nil:Ub 0 []:=⟨trivial,JY _,fun k e h=>by simp at h⟩
theorem Ub.next {m:Nat} {es:List En} (h:Ub m es):Ub (m+1) es:=⟨h.1,by have:=h.2.1;omega,fun k e he=>by have:=h.2.2 k e he;exact ⟨this.1,by omega,this.2.2⟩⟩
theorem Ub.snoc {m:Nat} {es:List En} (h:Ub m es) {z:Int} (h0:z≠0) (h1: -4294967296 < z) (h2:z < 4294967296):Ub (m+1) (es++[⟨(m:Int),canF (z:Rat)⟩]):=by
 refine ⟨Yfd h.1 (fun _=>rfl) (fun k d hd=>(h.2.2 k d hd).2.1),by simp;exact h.2.1,fun k e he=>?_⟩;rcases JX k es.length with hk | hk
 ·rw [List.getElem?_append_left hk] at he;have:=h.2.2 k e he;exact ⟨this.1,by omega,this.2.2⟩
 ·rw [List.getElem?_append_right hk] at he;have a:k - es.length=0:=by
   rcases JV (k - es.length) with e | e
   ·exact e
   ·rw [JU (by simp;omega)] at he;cases he
  rw [a] at he;simp at he;subst he;refine ⟨by simp only;omega,by simp only;omega,?_,(Zoz h1 h2).rs⟩;simp only [Zr];exact fun e=>h0 (by simpa using congrArg Rat.num e)
theorem Yjs {n:Int} {es:List En} {p:Option Int} (h:Inc p es) (hr:∀(k:Nat) (e:En),es[k]? =some e→0≤e.idx∧e.idx < n∧e.f.q≠0):Zaw n es p=0:=by
 induction es generalizing p with
 | nil=>rfl
 | cons d es ih=>
  have:=hr 0 d rfl;rw [Zaw,if_neg (by omega),if_neg (by rw [h.1];simp),if_neg this.2.2];exact ih h.2 fun k e he=>hr (k+1) e (by simpa using he)
theorem Ub.err {m:Nat} {es:List En} (h:Ub m es) (hm:m≤4096):vecErr es m=0:=by
 unfold vecErr;rw [if_neg (by omega)];exact Yjs h.1 fun k e he=>by have:=h.2.2 k e he;exact ⟨this.1,this.2.1,this.2.2.1⟩
end Pl
def Yaq (m:Nat) (w:World) (e:Ending) (w':World):Prop:=∃v' es,e= .returned v'∧Zbz w.heap.size w' v' es∧Ub m es∧Below w.heap.size w w'
theorem Zxd (v:Value) (zs:List Int) (t m:Nat) (w:World) (h:Xq w v zs) (ht:t≤1000000) (hm:m≤1000):
 Calls Tryz.prog 29 #[v,.int .i64 (t:Int),.int .i64 (m:Int)] w (Yaq m w):=by
 obtain ⟨a,cap,rfl,F,G⟩:=h.shape;generalize hn:zs.length=n at *;clear hn;go_enter Tryz.func29,Tryz.ntmps29;go_wp2
 go_loopw [7,8] (fun s i wr=>∃(k:Nat) (es:List En),k≤m∧i= .int .i64 k∧Zbz w.heap.size wr s es∧Ub k es∧Below w.heap.size w wr) (fun _ i _=>m - (intOf i).toNat)
 case atStart=>exact ⟨0,[],by omega,rfl,Zbz.nil _ _,Ub.nil,JR _ _⟩
 case round=>
  obtain ⟨k,es,hk,rfl,j,q,o⟩:=hrel;have HC:=JZ q;clear q;rcases JX k m with hkl | hkl
  ·go_wp2_with fail;refine (Zkv _ zs (t+k) _ (h.below o) (by omega)).mono ?_;rintro _ w1 ⟨z,rfl,z0,z1,r⟩;have c:=j.below r;have b:=Za o r o.size;clear j o r;by_cases hz:z % 6=2
   ·have C:(z % 6 - 2 !=0)=false:=(by simp;omega);clear hz;go_wp2;go_roundw
    case rel=>exact ⟨k+1,es,by omega,by go_num,c,HC.out.next,b⟩
    case measure=>simp [intOf];omega
   ·have C:(z % 6 - 2 !=0)=true:=(by simp;omega);have HZ:Hid (z % 6 - 2≠0):=JZ (by omega);have r1: -2≤z % 6 - 2:=(by omega);have r2:z % 6 - 2≤3:=(by omega);clear hz;go_wp2_with fail;refine (Zkv _ zs (t+k) _ (h.below b) (by omega)).mono ?_;rintro _ w2 ⟨z',rfl,_,_,u⟩;have e:=c.below u;have f:=Za b u b.size;clear c b u;rcases Int.lt_or_le z' 60000 with hlt | hlt
    ·go_wp2_with fail;refine (Yl (z % 6 - 2) _ (by omega) (by omega)).mono ?_;rintro _ w3 ⟨v3,rfl,e3,x⟩;have g:=e.below x;have p:=Za f x f.size;obtain ⟨B,l,d,B',l',d',rfl,_,_⟩:=id e3.frac;have HF:=JZ e3.frac;have HO:=JZ g;have A:es.length+1≤1099511627776:=(by have:=HC.out.2.1;omega);have D:=p.size;have HS:=JZ (HC.out.snoc (z:=z % 6 - 2) HZ.out (by omega) (by omega));clear e g f x e3;generalize hQ:canF ((z % 6 - 2:Int):Rat)=Q at *;have HQ:=JZ hQ;clear hQ;go_wp2_with (at_builtin;refine Vx rfl (.tmp 32) (.tmp 37) rfl w3 w.heap.size u7 es rfl HO.out _ _ B B' l d l' d' (k:Int) Q HF.out rfl A D ?_);intro v' w4 y H E;go_wp2;go_roundw
     case rel=>exact ⟨k+1,es++[⟨(k:Int),Q⟩],by omega,by go_num,y,HS.out,p.trans E⟩
     case measure=>simp [intOf];omega
    ·go_wp2;go_roundw
     case rel=>exact ⟨k+1,es,by omega,by go_num,e,HC.out.next,f⟩
     case measure=>simp [intOf];omega
  ·obtain rfl:k=m:=by omega
   go_wp2;go_ret;exact ⟨_,es,rfl,j,HC.out,o⟩
theorem Bk.threeF {w:World} {g:Nat} {t:TypeId} {cs:List Value} (h:Bk w g t cs):w.frozen? ⟨g,0,none⟩=false∧w.frozen? ⟨g,1,none⟩=false∧w.frozen? ⟨g,2,none⟩=false:=⟨h.frozen 0,h.frozen 1,h.frozen 2⟩
theorem ZU.own_lt {base:Nat} {w:World} {v:Value} {fs:List RF} (h:ZU base w v fs):∀g,v.ownBlock=some g→g < w.heap.size:=by
 obtain ⟨cs,h1,h2⟩:=h;intro g hg;rcases h1.2 with ⟨rfl,_⟩ | ⟨g',cap,cur,rfl,_,hgg,_⟩
 ·simp [Value.ownBlock] at hg
 ·simp [Value.ownBlock] at hg;subst hg;exact YA hgg
theorem ZU.slice {base:Nat} {w:World} {v:Value} {fs:List RF} (h:ZU base w v fs):∃A c,v= .slice A fs.length c:=by
 obtain ⟨A,c,e,_,_⟩:=h.frs.shape;exact ⟨A,c,e⟩
theorem YF.slice {base:Nat} {w:World} {v:Value} {fs:List (List En)} (h:YF base w v fs):∃A c,v= .slice A fs.length c:=by
 obtain ⟨A,c,e,_,_⟩:=h.vecs.shape;exact ⟨A,c,e⟩
theorem ZU.sliceN {base:Nat} {w:World} {v:Value} {fs:List RF} (h:ZU base w v fs):∃A n c,v= .slice A n c:=by
 obtain ⟨A,c,e⟩:=h.slice;exact ⟨A,_,c,e⟩
theorem YF.sliceN {base:Nat} {w:World} {v:Value} {fs:List (List En)} (h:YF base w v fs):∃A n c,v= .slice A n c:=by
 obtain ⟨A,c,e⟩:=h.slice;exact ⟨A,_,c,e⟩
def LpO (base:Nat) (w:World) (v:Value) (p:LPd):Prop:=
 ∃s0 s1 s2 b1,v= .agg #[s0,s1,s2]∧ZU base w s0 p.cost∧XW w s1 p.cols∧ZU b1 w s2 p.right∧base≤b1∧∀g,s0.ownBlock=some g→g < b1
namespace Pl
theorem RsL.snoc {k:Nat} {fs:List RF} (h:RsL k fs) {f:RF} (hf:f.Rs k):RsL k (fs++[f]):=fun i g hg=>by
 rcases JX i fs.length with hi | hi
 ·rw [List.getElem?_append_left hi] at hg;exact h i g hg
 ·rw [List.getElem?_append_right hi] at hg
  have:i - fs.length=0:=by
   rcases JV (i - fs.length) with e | e
   ·exact e
   ·rw [JU (by simp;omega)] at hg;cases hg
  rw [this] at hg;simp at hg;subst hg;exact hf
theorem RsL.nil (k:Nat):RsL k []:=fun i f h=>by simp at h
theorem RsL.mono {j k:Nat} {fs:List RF} (h:RsL j fs) (hk:j≤k):RsL k fs:=fun i f hf=>(h i f hf).mono hk
theorem Yar {m:Nat} {cols:List (List En)} (h:∀(j:Nat) (c:List En),cols[j]? =some c→Ub m c) {es:List En} (he:Ub m es):∀(j:Nat) (c:List En),(cols++[es])[j]? =some c→Ub m c:=fun j c hc=>by
 rcases JX j cols.length with hi | hi
 ·rw [List.getElem?_append_left hi] at hc;exact h j c hc
 ·rw [List.getElem?_append_right hi] at hc
  have:j - cols.length=0:=by
   rcases JV (j - cols.length) with e | e
   ·exact e
   ·rw [JU (by simp;omega)] at hc;cases hc
  rw [this] at hc;simp at hc;subst hc;exact he
def Zpa (p:LPd):Prop:=1≤p.right.length∧p.right.length≤3∧p.cols.length≤5∧p.cost.length=p.cols.length∧RsL 1 p.cost∧∀(j:Nat) (c:List En),p.cols[j]? =some c→Ub p.right.length c
theorem Zxe {n:Int} {cs:List (List En)} (h:∀(j:Nat) (c:List En),cs[j]? =some c→vecErr c n=0):XE n cs=0:=by
 induction cs with
 | nil=>rfl
 | cons c cs ih=>
  rw [XE,if_pos (h 0 c rfl)];exact ih fun j d hd=>h (j+1) d (by simpa using hd)
theorem Zpa.err {p:LPd} (h:Zpa p):lpErr p=0:=by
 obtain ⟨h1,h2,h3,h4,h5,h6⟩:=h;unfold lpErr;rw [if_neg (by omega),if_neg (by omega)];exact Zxe fun j c hc=>(h6 j c hc).err (by omega)
theorem Zpa.ok {p:LPd} (h:Zpa p) {K:Nat} (hK:1≤K) (hr:RsL K p.right):p.Ok K:=by
 obtain ⟨h1,h2,h3,h4,h5,h6⟩:=h;refine ⟨h5.mono hK,hr,fun j c hc=>⟨fun k e he=>?_,fun k e he=>((h6 j c hc).2.2 k e he).2.2.2.mono hK⟩⟩;have:=(h6 j c hc).2.2 k e he;omega
end Pl
theorem Zur (v:Value) (zs:List Int) (i:Int) (w:World) (h:Xq w v zs) (h0:0≤i) (hi:i≤1099511627776):
 Calls Tryz.prog 28 #[v,.int .i64 i] w fun e w'=>∃z:Int,e= .returned (.int .i64 z)∧0≤z∧z≤65535+i∧Below w.heap.size w w':=by
 obtain ⟨k,rfl⟩:=JT h0;exact Zkv v zs k w h (by omega)
theorem Zxf (v:Value) (zs:List Int) (t:Int) (m:Nat) (w:World) (h:Xq w v zs) (h0:0≤t) (ht:t≤1000000) (hm:m≤1000):
 Calls Tryz.prog 29 #[v,.int .i64 t,.int .i64 (m:Int)] w (Yaq m w):=by
 obtain ⟨k,rfl⟩:=JT h0;exact Zxd v zs k m w h (by omega) hm
def Ymi (w:World) (e:Ending) (w':World):Prop:=∃v' p,e= .returned v'∧LpO w.heap.size w' v' p∧Zpa p∧RsL 2 p.right∧Below w.heap.size w w'
theorem Ymj (v:Value) (zs:List Int) (w:World) (h:Xq w v zs):
 Calls Tryz.prog 7 #[v] w (Ymi w):=by
 obtain ⟨a,cap,rfl,b7,b8⟩:=h.shape;generalize hn:zs.length=n at *;clear hn;obtain ⟨W,hW,hR,O⟩:=Yc w (.slice none 0 0) (.slice none 0 0) (.slice none 0 0);obtain ⟨W1,b5,hX,s⟩:=Yc W (.slice none 0 0) (.slice none 0 0) (.slice none 0 0);have hR:=hR.later s;have f:=Za O s O.size;have a3:W.heap.size=w.heap.size+1:=by rw [← hW];simp
 rw [a3] at hX;clear O s;go_enter Tryz.func7,Tryz.ntmps7;go_wp2_with fail;clear hW b5 a3;refine (Zkv _ zs 0 _ (h.below f) (by omega)).mono ?_;rintro _ w1 ⟨z,rfl,z0,z1,r⟩;have a4:=hX.later r;have a5:=hR.later r;have s:=Za f r f.size;clear hX hR f r;go_wp2_with fail;refine (Zkv _ zs 1 _ (h.below s) (by omega)).mono ?_;rintro _ w2 ⟨y,rfl,y0,y1,x⟩;have a6:=a4.later x;have a7:=a5.later x;have T:=Za s x s.size;obtain ⟨m,hm⟩:∃m:Nat,1+z % 3=(m:Int):=⟨(1+z % 3).toNat,by omega⟩;obtain ⟨N,b9,ba⟩:∃N:Nat,y % 6≤(N:Int)∧(N:Int)≤y % 6:=⟨(y % 6).toNat,by omega,by omega⟩;have m1:1≤m:=by omega
 have m2:m≤3:=by omega
 have n1:N≤5:=by omega
 clear a4 a5 s x;go_wp2;clear hm z0 z1
 go_loopw [6] (fun i wr=>∃(k:Nat) (s0 s1:Value) (cs:List RF) (cols:List (List En)),k≤N∧i= .int .i64 k∧Below w.heap.size w wr∧Bk wr w.heap.size 26 [.slice none 0 0,.slice none 0 0,.slice none 0 0]∧Bk wr (w.heap.size+1) 26 [s0,s1,.slice none 0 0]∧ZU w.heap.size wr s0 cs∧YF w.heap.size wr s1 cols∧cs.length=k∧cols.length=k∧RsL 1 cs∧∀(j:Nat) (c:List En),cols[j]? =some c→Ub m c) (fun i _=>N - (intOf i).toNat)
 case atStart=>exact ⟨0,_,_,[],[],by omega,rfl,T,a7,a6,ZU.nil _ _,YF.nil _ _,rfl,rfl,RsL.nil _,fun j c h=>by simp at h⟩
 case round=>
  clear T a7 a6;obtain ⟨k,s0,s1,cs,cols,hk,rfl,f,hR,hX,hO,hV,ao,ap,P,aq⟩:=hrel;have a8:=JZ ao;have Z:=JZ ap;have a9:=JZ P;have U:=JZ aq;have K:cs.length+1≤1099511627776:=by omega
  have a0:cols.length+1≤1099511627776:=by omega
  clear ao ap P aq;rcases JX k N with hkl | hkl
  ·obtain ⟨A0,c0,rfl⟩:=hO.slice;obtain ⟨A1,c1,rfl⟩:=hV.slice;obtain ⟨x0,x1,x2⟩:=hX.three;go_wp2_with fail;have C0:=Zl x0;have o:=Zj wr;clear x0 x1 x2;generalize au:Value.slice A0 cs.length c0=s0 at *;generalize av:Value.slice A1 cols.length c1=s1 at *;clear au av;refine Zn 10 [0,1,2,3,4,5,6,7,8,9,10,11,12] (by kernel_rfl) (by kernel_rfl) ?_;repeat ((first|(first|refine Zb (v:=?_) rfl rfl rfl ?_ ?_ |refine Zd (v:=?_) rfl rfl rfl ?_ ?_);rotate_left;·(intro _ _;go_simp;(try go_bits);(try with_reducible rfl))|refine Ze rfl rfl rfl ?_);(try simp only [pu]))
   refine Zf rfl rfl (fun _ kq=>?_);go_simp;(with_reducible refine (Zur _ zs (2+(k:Int)) _ ((h.below f).below o) (by omega) (by omega)).mono ?_);rintro _ w1 ⟨z,rfl,z0,z1,r⟩;have e:=Za o r o.size;refine kq.out _ _ (.inr e) ?_;clear kq;(try simp only [pu]);repeat ((first|(first|refine Zb (v:=?_) rfl rfl rfl ?_ ?_ |refine Zd (v:=?_) rfl rfl rfl ?_ ?_);rotate_left;·(intro _ _;go_simp;(try go_bits);(try with_reducible rfl))|refine Ze rfl rfl rfl ?_);(try simp only [pu]))
   refine Zf rfl rfl (fun _ kq=>?_);go_simp;(with_reducible refine (Yl (z % 10 - 4) _ (by omega) (by omega)).mono ?_);rintro _ w2 ⟨v2,rfl,e2,x⟩;have b:=Za e x e.size;obtain ⟨B,l,d,B',l',d',rfl,_,_⟩:=id e2.frac;have HF:=JZ e2.frac;have a1:=JZ (Zoz (z:=z % 10 - 4) (by omega) (by omega)).rs;clear e2;generalize canF ((z % 10 - 4:Int):Rat)=Q at *;refine kq.out _ _ (.inr b) ?_;clear kq;(try simp only [pu]);repeat ((first|(first|refine Zb (v:=?_) rfl rfl rfl ?_ ?_ |refine Zd (v:=?_) rfl rfl rfl ?_ ?_);rotate_left;·(intro _ _;go_simp;(try go_bits);(try with_reducible rfl))|refine Ze rfl rfl rfl ?_);(try simp only [pu]))
   refine Zf rfl rfl (fun _ kq=>?_);go_simp;refine kq.out _ _ (.inr (Za b (Zi _ _) b.size)) ?_;clear kq;(try simp only [pu]);have HO:=JZ (hO.below b);have A:w.heap.size≤w2.heap.size:=(by have:=f.size;have:=b.size;omega);refine Wp rfl rfl rfl (by decide) (.tmp 21) (.tmp 29) rfl w2 w.heap.size s0 cs rfl HO.out _ _ B B' l d l' d' Q HF.out rfl K A ?_;intro v' w4 g D G;obtain ⟨A4,n4,c4,rfl⟩:=g.sliceN;(try simp only [pu]);have t:=D.bk (hX.later b) (by decide);have L:=D.bk (hR.later b) (by decide);have aa:=(hV.below b).but D (by decide) (by decide) (by decide);have C:=(Za f b f.size).trans G;obtain ⟨c0,c1,c2⟩:=t.three;obtain ⟨f0,f1,f2⟩:=t.threeF;refine Zf rfl rfl (fun _ kq=>?_);go_simp;refine kq.out _ _ (.inl (by decide)) ?_;clear kq;(try simp only [pu]);refine Zf rfl rfl (fun _ kq=>?_);go_simp;refine kq.out _ _ (.inl (by decide)) ?_;clear kq;(try simp only [pu]);refine Zv ?_;generalize hv':Value.slice A4 n4 c4=v' at *;clear hv';have E:=t.set_ 0 v';have J:=L.far (p:=⟨w.heap.size+1,0,none⟩) (by simp) v';have F:=Zg.setCell t 0 v';have R:=g.but F (by decide) (by decide);have ab:=aa.but F (by decide) (by decide) (by decide);have u:=C.setCell (p:=⟨w.heap.size+1,0,none⟩) (by simp) v';generalize w4.setCell ⟨w.heap.size+1,0,none⟩ v'=W5 at *;clear t L F g aa C D G c0 c1 c2 f0 f1 f2 hX hR hO hV o e b r x HO HF C0 A f;have ac:=JZ (a9.out.snoc a1.out);simp only [List.set_cons_zero] at E;obtain ⟨x0,x1,x2⟩:=E.three;go_wp2_with fail;have C1:=Zl x1;have o:=Zj W5;clear x0 x1 x2;refine Zn 9 [0,1,2,3,4,5,6,7,8,9,10,11] (by kernel_rfl) (by kernel_rfl) ?_;repeat ((first|(first|refine Zb (v:=?_) rfl rfl rfl ?_ ?_ |refine Zd (v:=?_) rfl rfl rfl ?_ ?_);rotate_left;·(intro _ _;go_simp;(try go_bits);(try with_reducible rfl))|refine Ze rfl rfl rfl ?_);(try simp only [pu]))
   refine Zf rfl rfl (fun _ kq=>?_);go_simp;(with_reducible refine (Zxf _ zs (8+3 * (k:Int)) m _ ((h.below u).below o) (by omega) (by omega) (by omega)).mono ?_);rintro _ w1 ⟨v1,es,rfl,e1,Y,r⟩;have e:=Za o r o.size;obtain ⟨Ae,ce,rfl,_,_⟩:=e1.vec.shape;have HE:=JZ e1.vec;have ax:=JZ Y;clear e1 Y;refine kq.out _ _ (.inr e) ?_;clear kq;(try simp only [pu]);repeat ((first|(first|refine Zb (v:=?_) rfl rfl rfl ?_ ?_ |refine Zd (v:=?_) rfl rfl rfl ?_ ?_);rotate_left;·(intro _ _;go_simp;(try go_bits);(try with_reducible rfl))|refine Ze rfl rfl rfl ?_);(try simp only [pu]))
   refine Zf rfl rfl (fun _ kq=>?_);go_simp;refine kq.out _ _ (.inr (Za e (Zi _ _) e.size)) ?_;clear kq;(try simp only [pu]);have HO:=JZ (ab.below e);have A:w.heap.size≤w1.heap.size:=(by have:=u.size;have:=e.size;omega);refine Zjw rfl rfl rfl (by decide) (.tmp 33) (.tmp 40) rfl w1 w.heap.size s1 cols rfl HO.out Ae es.length ce es HE.out rfl a0 A ?_;intro H w6 I S ar;obtain ⟨A6,n6,c6,rfl⟩:=I.sliceN;(try simp only [pu]);have M:=S.bk (E.later e) (by decide);have ad:=S.bk (J.later e) (by decide);have ae:=(R.below e).but S (by decide) (by decide);have V:=(Za u e u.size).trans ar;obtain ⟨c0,c1,c2⟩:=M.three;obtain ⟨f0,f1,f2⟩:=M.threeF;refine Zf rfl rfl (fun _ kq=>?_);go_simp;refine kq.out _ _ (.inl (by decide)) ?_;clear kq;(try simp only [pu]);refine Zf rfl rfl (fun _ kq=>?_);go_simp;refine kq.out _ _ (.inl (by decide)) ?_;clear kq;(try simp only [pu]);refine Zv ?_;generalize hv'':Value.slice A6 n6 c6=H at *;clear hv'';have af:=M.set_ 1 H;have ay:=ad.far (p:=⟨w.heap.size+1,1,none⟩) (by simp) H;have a2:=Zg.setCell M 1 H;have az:=ae.but a2 (by decide) (by decide);have b0:=I.but a2 (by decide) (by decide) (by decide);have ag:=V.setCell (p:=⟨w.heap.size+1,1,none⟩) (by simp) H;generalize w6.setCell ⟨w.heap.size+1,1,none⟩ H=W7 at *;clear M ad a2 I ae V S ar c0 c1 c2 f0 f1 f2 E J R ab o e r HO HE C1 A u;simp only [List.set_cons_zero,List.set_cons_succ] at af;go_wp2;go_roundw
   case rel=>exact ⟨k+1,v',H,cs++[Q],cols++[es],by omega,by go_num,ag,ay,af,az,b0,by rw [List.length_append,a8.out];rfl,by rw [List.length_append,Z.out];rfl,ac.out,Yar U.out ax.out⟩
   case measure=>simp [intOf];omega
  ·obtain rfl:k=N:=by omega
   have X:=hO.own_lt;have ah:=JZ X;clear X;go_wp2;generalize b6:wr=w9 at *;clear b6;have ai:=Zg.refl 26 w9
   go_loopw [7] (fun i wr=>∃(k:Nat) (s2:Value) (rs:List RF),k≤m∧i= .int .i64 k∧Below w.heap.size w wr∧Zg 26 w9 wr∧w9.heap.size≤wr.heap.size∧Bk wr w.heap.size 26 [.slice none 0 0,.slice none 0 0,.slice none 0 0]∧Bk wr (w.heap.size+1) 26 [s0,s1,s2]∧ZU w9.heap.size wr s2 rs∧rs.length=k∧RsL 2 rs) (fun i _=>m - (intOf i).toNat)
   case atStart=>exact ⟨0,_,[],by omega,rfl,f,ai,JY _,hR,hX,ZU.nil _ _,rfl,RsL.nil _⟩
   case round=>
    have aj:=f.size;have b1:=JZ hO;have b2:=JZ hV;clear f hR hX hO hV ai;obtain ⟨i,s2,rs,hi,rfl,f,hK,h9,hR,hX,hO,hl,P⟩:=hrel;have HL:=JZ hl;have ak:=JZ P;have K:rs.length+1≤1099511627776:=(by omega);clear hl P;rcases JX i m with hil | hil
    ·obtain ⟨x0,x1,x2⟩:=hX.three;obtain ⟨A2,c2,rfl⟩:=hO.slice;go_wp2_with fail;have C2:=Zl x2;have o:=Zj wr;clear x0 x1 x2;generalize aw:Value.slice A2 rs.length c2=s2 at *;clear aw;refine Zn 8 [0,1,2,3,4,5,6,7,8,9,10] (by kernel_rfl) (by kernel_rfl) ?_;repeat ((first|(first|refine Zb (v:=?_) rfl rfl rfl ?_ ?_ |refine Zd (v:=?_) rfl rfl rfl ?_ ?_);rotate_left;·(intro _ _;go_simp;(try go_bits);(try with_reducible rfl))|refine Ze rfl rfl rfl ?_);(try simp only [pu]))
     refine Zf rfl rfl (fun _ kq=>?_);go_simp;(with_reducible refine (Zur _ zs (30+(i:Int)) _ ((h.below f).below o) (by omega) (by omega)).mono ?_);rintro _ w1 ⟨z,rfl,z0,z1,r⟩;have e:=Za o r o.size;refine kq.out _ _ (.inr e) ?_;clear kq;(try simp only [pu]);repeat ((first|(first|refine Zb (v:=?_) rfl rfl rfl ?_ ?_ |refine Zd (v:=?_) rfl rfl rfl ?_ ?_);rotate_left;·(intro _ _;go_simp;(try go_bits);(try with_reducible rfl))|refine Ze rfl rfl rfl ?_);(try simp only [pu]))
     refine Zf rfl rfl (fun _ kq=>?_);go_simp;(with_reducible refine (Zmp z _).mono ?_);rintro _ w2 ⟨v2,q,rfl,e2,sq,x⟩;have b:=Za e x e.size;obtain ⟨B,l,d,B',l',d',rfl,_,_⟩:=id e2.frac;have HF:=JZ e2.frac;have a1:=JZ sq.rs;clear e2 sq;generalize canF q=Q at *;refine kq.out _ _ (.inr b) ?_;clear kq;(try simp only [pu]);repeat ((first|(first|refine Zb (v:=?_) rfl rfl rfl ?_ ?_ |refine Zd (v:=?_) rfl rfl rfl ?_ ?_);rotate_left;·(intro _ _;go_simp;(try go_bits);(try with_reducible rfl))|refine Ze rfl rfl rfl ?_);(try simp only [pu]))
     refine Zf rfl rfl (fun _ kq=>?_);go_simp;refine kq.out _ _ (.inr (Za b (Zi _ _) b.size)) ?_;clear kq;(try simp only [pu]);have HO:=JZ (hO.below b);have A:w9.heap.size≤w2.heap.size:=(by have:=b.size;omega);refine Wp rfl rfl rfl (by decide) (.tmp 49) (.tmp 55) rfl w2 w9.heap.size s2 rs rfl HO.out _ _ B B' l d l' d' Q HF.out rfl K A ?_;intro v' w4 g D G;obtain ⟨A4,n4,c4,rfl⟩:=g.sliceN;(try simp only [pu]);have t:=D.bk (hX.later b) (by decide);have L:=D.bk (hR.later b) (by decide);have al:=(hK.then (b.mono h9)).then G;have C:=(Za f b f.size).trans (G.mono aj);obtain ⟨c0,c1,c2⟩:=t.three;obtain ⟨f0,f1,f2⟩:=t.threeF;refine Zf rfl rfl (fun _ kq=>?_);go_simp;refine kq.out _ _ (.inl (by decide)) ?_;clear kq;(try simp only [pu]);refine Zf rfl rfl (fun _ kq=>?_);go_simp;refine kq.out _ _ (.inl (by decide)) ?_;clear kq;(try simp only [pu]);refine Zv ?_;generalize hv':Value.slice A4 n4 c4=v' at *;clear hv';have E:=t.set_ 2 v';have J:=L.far (p:=⟨w.heap.size+1,2,none⟩) (by simp) v';have F:=Zg.setCell t 2 v';have R:=g.but F (by decide) (by decide);have b3:=al.trans F;have u:=C.setCell (p:=⟨w.heap.size+1,2,none⟩) (by simp) v';have b4:w9.heap.size≤(w4.setCell ⟨w.heap.size+1,2,none⟩ v').heap.size:=by
      have:=G.size;simp;omega
     generalize w4.setCell ⟨w.heap.size+1,2,none⟩ v'=W5 at *;clear t L F g C D G c0 c1 c2 f0 f1 f2 hX hR hO o e b r x HO HF C2 A f hK al h9;simp only [List.set_cons_zero,List.set_cons_succ] at E;go_wp2;go_roundw
     case rel=>exact ⟨i+1,v',rs++[Q],by omega,by go_num,u,b3,b4,J,E,R,by rw [List.length_append,HL.out];rfl,ak.out.snoc a1.out⟩
     case measure=>simp [intOf];omega
    ·obtain rfl:i=m:=by omega
     have am:=b1.out.but hK (by decide) (by decide);have an:=b2.out.but hK (by decide) (by decide) (by decide);obtain ⟨x0,x1,x2⟩:=hX.three;obtain ⟨c0,c1,c2⟩:=hR.three;obtain ⟨f0,f1,f2⟩:=hR.threeF;obtain ⟨A0,d0,rfl⟩:=am.slice;obtain ⟨A1,d1,rfl⟩:=an.slice;obtain ⟨A2,d2,rfl⟩:=hO.slice;go_wp2;generalize au:Value.slice A0 cs.length d0=s0 at *;generalize av:Value.slice A1 cols.length d1=s1 at *;generalize aw:Value.slice A2 rs.length d2=s2 at *;have J:=((hR.set_ 0 s0).set_ 1 s1).set_ 2 s2;refine Zp Tryz.results7 Tryz.underlying26 (by kernel_rfl) rfl J rfl ?_;have k1:=Zg.setCell hR 0 s0;have k2:=Zg.setCell (hR.set_ 0 s0) 1 s1;have k3:=Zg.setCell ((hR.set_ 0 s0).set_ 1 s1) 2 s2;have k4:=(k1.trans k2).trans k3;refine ⟨_,⟨cs,cols,rs⟩,rfl,⟨s0,s1,s2,w9.heap.size,rfl,am.but k4 (by decide) (by decide),(an.but k4 (by decide) (by decide) (by decide)).vecs,hO.but k4 (by decide) (by decide),aj,ah.out⟩,⟨by rw [HL.out];exact m1,by rw [HL.out];exact m2,by rw [Z.out];exact n1,by rw [a8.out,Z.out],a9.out,fun j c hc=>by rw [HL.out];exact U.out j c hc⟩,ak.out,?_⟩;exact ((f.setCell (p:=⟨w.heap.size,0,none⟩) (JY _) s0).setCell (p:=⟨w.heap.size,1,none⟩) (JY _) s1).setCell (p:=⟨w.heap.size,2,none⟩) (JY _) s2
def Yi (g:Option Nat) (w w':World):Prop:=w.heap.size≤w'.heap.size∧∀b,b < w.heap.size→some b≠g→w'.heap[b]? =w.heap[b]?
theorem Yi.bk {g:Option Nat} {w w':World} {b:Nat} {t:TypeId} {cs:List Value} (h:Yi g w w') (hb:Bk w b t cs) (hne:some b≠g):Bk w' b t cs:=(h.2 b hb.lt hne).trans hb
theorem Yi.of_set {g i:Nat} {w:World} {v:Value}:Yi (some g) w (w.setCell ⟨g,i,none⟩ v):=⟨by simp,fun b _ hne=>heap_setCell_other w _ _ _ (fun e=>hne (by rw [e]))⟩
theorem Yi.trans {g:Option Nat} {a b c:World} (h:Yi g a b) (k:Yi g b c):Yi g a c:=⟨JW h.1 k.1,fun x hx hne=>(k.2 x (Nat.lt_of_lt_of_le hx h.1) hne).trans (h.2 x hx hne)⟩
theorem ZU.others {base:Nat} {w w':World} {g:Option Nat} {v:Value} {fs:List RF} (h:ZU base w v fs) (ho:Yi g w w') (hk:ZG w w') (hne:∀b,v.ownBlock=some b→some b≠g):ZU base w' v fs:=by
 obtain ⟨cs,h1,h2⟩:=h;refine ⟨cs,⟨h1.1,?_⟩,h2.keep hk⟩;rcases h1.2 with hn | ⟨g',cap,cur,rfl,hb',hgg,rest⟩
 ·exact .inl hn
 ·exact .inr ⟨g',cap,cur,rfl,hb',(ho.2 g' (YA hgg) (hne g' (by simp [Value.ownBlock]))).trans hgg,rest⟩
theorem Ziq (ty t e:TypeId) (i:TypeInfo) (z:Value) (size bytes:Nat) (ht:Tryz.prog.underlying t=some (.slice e)) (hi:Tryz.prog.info? e=some i) (hz:i.zero=some z)
 (hsize:i.size=size) (hby:i.bytes=bytes) (hzs:z.cells.size=size) (hsz:0 < size) (W:World) (base:Nat) (v:Value) (n:Nat) (xs news:List Value) (hown:W.ownsRow base e size v n xs)
 (hl:news.length=size) (h1:∀u∈news,u.oneCell'=true) (hn:n+1≤maxLen) (hb:(n+1) * bytes≤140737488355328) (hbase:base≤W.heap.size):
 ∃v' w',(Builtin.append_ #[t,t] ty #[v,.slice (some ⟨W.heap.size,0,none⟩) 1 1]).run Tryz.prog (W.alloc (.cells news.toArray e))= .ok v' w'∧w'.ownsRow base e size v' (n+1) (xs++news)∧Zg e W w'∧Below base W w'∧Yi v.ownBlock W w'∧(v'.ownBlock=v.ownBlock∨∀g,v'.ownBlock=some g→W.heap.size≤g):=by
 have c:Bk (W.alloc (.cells news.toArray e)) W.heap.size e news:=Bk.new W e news;obtain ⟨v',w',d,h2,h3,_,h5⟩:=run_append_own_at (P:=Tryz.prog) (W.alloc (.cells news.toArray e)) base t ty e i z size bytes ht hi hz hsize hby hzs hsz v n xs (hown.alloc _) ⟨W.heap.size,0,none⟩ 1 1 news (by omega) (fun j u hj=>by rw [addr_add,Nat.zero_add,c.cell];exact hj) h1 hn hb (by simp;omega);refine ⟨v',w',d,h2,?_,?_,⟨?_,?_⟩,?_⟩
 ·intro b cs t' fz a hc;have f:=YA hc;refine (h3.block b (by simp;omega) ?_).trans ((Below.heap_alloc W _ b f).trans hc);intro e1;rcases hown.2 with ⟨rfl,_⟩ | ⟨g,cap,cur,rfl,_,hg,_⟩
  ·simp [Value.ownBlock] at e1
  ·simp [Value.ownBlock] at e1;subst e1;rw [hg] at hc;injection hc with hc;injection hc with _ h2 _;exact a h2.symm
 ·refine ((JR _ _).alloc hbase _).grown h3 (by simp;omega) (fun k hk=>?_);exact (hown.lt k hk).1
 ·have:=h3.size;simp at this;omega
 ·intro b hb a;exact (h3.block b (by simp;omega) a).trans (Below.heap_alloc W _ b hb)
 ·rcases h5 with h5 | h5
  ·exact .inl h5
  ·right;intro g hg;rw [h5] at hg;injection hg with hg;simp at hg;omega
 where
  addr_add (g j:Nat):(⟨g,0,none⟩:Addr).add j=⟨g,0+j,none⟩:=by
   unfold Addr.add;split
   ·rename_i h;subst h;rfl
   ·rfl
theorem Zca {ops:Array Oper} {rest:List Oper} {o:Oper} {a:Act} {Q:Exit→Act→World→Prop} (hgd:o.guard=none) (s x:Operand)
 (ho:o.op= .call { callee:= .builtin .append,args:=#[s,x],argTypes:=#[23,23] })
 (W:World) (base:Nat) (v:Value) (fs:List RF) (hs:a.eval s=v) (hown:ZU base W v fs) (b b':Bool) (A A':Option Addr) (n c n' c':Nat) (f:RF) (hf:Zw W (.agg #[.bool b,.slice A n c,.bool b',.slice A' n' c']) f)
 (hx:a.eval x= .slice (some ⟨W.heap.size,0,none⟩) 1 1) (hn:fs.length+1≤1099511627776) (hbase:base≤W.heap.size)
 (h:∀v' w',ZU base w' v' (fs++[f])→Zg 46 W w'→Below base W w'→Yi v.ownBlock W w'→(v'.ownBlock=v.ownBlock∨∀g,v'.ownBlock=some g→W.heap.size≤g)→wpList Tryz.prog ops Q rest (a.put o.dst v') w'):
 wpList Tryz.prog ops Q (o::rest) a (W.alloc (.cells #[.bool b,.slice A n c,.bool b',.slice A' n' c'] 46)):=by
 obtain ⟨cs,h1,h2⟩:=hown;obtain ⟨i0,hi,d,e,i⟩:=info_parts info_frac;refine wpList_plain hgd fun K hK=>?_
 obtain ⟨v',w',hr,g1,g2,g3,g4,g5⟩:=Ziq o.type 23 46 i0 _ 4 64 Tryz.underlying23 hi d e i rfl (by decide) W base v fs.length cs [.bool b,.slice A n c,.bool b',.slice A' n' c'] h1 rfl Zac (by unfold maxLen;omega) (by omega) hbase;unfold Oper.wp execOp;simp only [ho,resolve,invoke,builtin,Sem.run_bind,Sem.run_pure,Result.andThen_ok,List.map_toArray,List.map_cons,List.map_nil,hs,hx];rw [show (Obj.cells #[.bool b,.slice A n c,.bool b',.slice A' n' c'] 46)=(Obj.cells [.bool b,.slice A n c,.bool b',.slice A' n' c'].toArray 46) from rfl];simp only [hr,Result.andThen_ok];have hk:=g2.keep (by decide);exact hK _ _ (h v' w' ⟨_,by simpa using g1,(h2.keep hk).snoc (hf.keep hk)⟩ g2 g3 g4 g5)
theorem Zpb (v:Value) (zs:List Int) (m:Nat) (w:World) (h:Xq w v zs) (hm:m≤1000):
 Calls Tryz.prog 16 #[v,.int .i64 (m:Int)] w fun e w'=>∃v' fs,e= .returned v'∧ZU w.heap.size w' v' fs∧fs.length=m∧RsL 2 fs∧Below w.heap.size w w':=by
 obtain ⟨a,cap,rfl,A,C⟩:=h.shape;generalize hn:zs.length=n at *;clear hn;go_enter Tryz.func16,Tryz.ntmps16;go_wp2
 go_loopw [5,6] (fun s i wr=>∃(k:Nat) (fs:List RF),k≤m∧i= .int .i64 k∧ZU w.heap.size wr s fs∧fs.length=k∧RsL 2 fs∧Below w.heap.size w wr) (fun _ i _=>m - (intOf i).toNat)
 case atStart=>exact ⟨0,[],by omega,rfl,ZU.nil _ _,rfl,RsL.nil _,JR _ _⟩
 case round=>
  obtain ⟨k,fs,hk,rfl,c,hl,r,f⟩:=hrel;have HL:=JZ hl;have HR:=JZ r;have p:fs.length+1≤1099511627776:=by omega
  clear hl r;rcases JX k m with hkl | hkl
  ·go_wp2_with fail;refine (Zkv _ zs k _ (h.below f) (by omega)).mono ?_;rintro _ w1 ⟨z,rfl,z0,z1,j⟩;go_wp2_with fail;refine (Zmp z _).mono ?_;rintro _ w2 ⟨v2,q,rfl,e2,sq,t⟩;have b:=Za j t j.size;have HO:=JZ (c.below b);have g:=Za f b f.size;obtain ⟨B,l,d,B',l',d',rfl,_,_⟩:=id e2.frac;have HF:=JZ e2.frac;have u:=JZ sq.rs;have x:=g.size;clear c f j t e2 sq b;generalize canF q=Q at *;go_wp2_with (at_builtin;refine Yw rfl (.tmp 12) (.tmp 17) rfl w2 w.heap.size u5 fs rfl HO.out _ _ B B' l d l' d' Q HF.out rfl p x ?_);intro v' w4 o D y;go_wp2;go_roundw
   case rel=>exact ⟨k+1,fs++[Q],by omega,by go_num,o,by rw [List.length_append,HL.out];rfl,HR.out.snoc u.out,g.trans y⟩
   case measure=>simp [intOf];omega
  ·obtain rfl:k=m:=by omega
   go_wp2;go_ret;exact ⟨_,fs,rfl,c,HL.out,HR.out,f⟩
namespace Pl
def Ydf (cols:List (List En)) (j:Nat):Nat→Rat:=match cols[j]? with | some c=>Vj c | none=>fun _=>0
theorem Zmr (p:LPd) (j:Nat):p.col (j:Int)=Ydf p.cols j:=by
 unfold LPd.col Ydf;rw [if_pos (by omega),JP]
 cases p.cols[j]? <;> rfl
def WF (cols:List (List En)) (xs:List RF) (k i:Nat):Rat:=ZN (fun j=>qAt xs j * Ydf cols j i) k
theorem Yfe (p:LPd) (xs:List RF) (k i:Nat):Ym p xs k i=WF p.cols xs k i:=Zh fun j _=>by rw [Zmr]
theorem Yff {xs:List RF} {f:RF} {j:Nat} (h:j < xs.length):qAt (xs++[f]) j=qAt xs j:=by unfold qAt;rw [List.getElem?_append_left h]
theorem Yjt {xs:List RF} {f:RF}:qAt (xs++[f]) xs.length=f.q:=by unfold qAt;rw [List.getElem?_append_right (JY _),Nat.sub_self];rfl
theorem Zsc (cols:List (List En)) {xs:List RF} (f:RF) {k:Nat} (hk:xs.length=k) (i:Nat):WF cols (xs++[f]) (k+1) i=WF cols xs k i+f.q * Ydf cols k i:=by
 subst hk;unfold WF;rw [ZC,Yjt,Zh fun j hj=>by rw [Yff hj]]
def NN (xs:List RF):Prop:=∀(j:Nat) (f:RF),xs[j]? =some f→0≤f.q
theorem NN.nil:NN []:=fun j f h=>by simp at h
theorem NN.snoc {xs:List RF} (h:NN xs) {f:RF} (hf:0≤f.q):NN (xs++[f]):=fun i g hg=>by
 rcases JX i xs.length with hi | hi
 ·rw [List.getElem?_append_left hi] at hg;exact h i g hg
 ·rw [List.getElem?_append_right hi] at hg
  have:i - xs.length=0:=by
   rcases JV (i - xs.length) with e | e
   ·exact e
   ·rw [JU (by simp;omega)] at hg;cases hg
  rw [this] at hg;simp at hg;subst hg;exact hf
def Zsd (T:Nat→Rat) (q:Rat) (C:Nat→Rat) (r i:Nat):Rat:=if i < r then T i+q * C i else T i
theorem Yas (T:Nat→Rat) (q:Rat) (C:Nat→Rat):Zsd T q C 0=T:=by funext i;simp [Zsd]
theorem Yju (T:Nat→Rat) (q:Rat) (C:Nat→Rat) (r:Nat):Zsd T q C r r+q * C r=Zsd T q C (r+1) r:=by simp [Zsd]
theorem Yat (T:Nat→Rat) (q:Rat) (C:Nat→Rat) (r:Nat):(fun i=>if i=r then Zsd T q C (r+1) r else Zsd T q C r i)=Zsd T q C (r+1):=by
 funext i
 by_cases h:i=r
 ·subst h;rw [if_pos rfl]
 ·rw [if_neg h];unfold Zsd;by_cases h2:i < r
  ·rw [if_pos h2,if_pos (by omega)]
  ·rw [if_neg h2,if_neg (by omega)]
theorem Yau {m:Nat} {cols:List (List En)} (h:∀(j:Nat) (c:List En),cols[j]? =some c→Ub m c) (j i:Nat):Sz 1 (Ydf cols j i):=by
 unfold Ydf
 cases hc:cols[j]? with
 | some c=>exact Sz_col (fun k e he=>((h j c hc).2.2 k e he).2.2.2) (JY _) i
 | none=>exact Sz_zero
theorem Zpc {m:Nat} {cols:List (List En)} (h:∀(j:Nat) (c:List En),cols[j]? =some c→Ub m c) {xs:List RF} (hx:RsL 2 xs) {k:Nat} (hk:k≤5) (i:Nat):Sz 21 (WF cols xs k i):=
 (Zkk (K:=3) fun j _=>(XO (hx.qAt (by decide) j) (Yau h j i)).mono (by omega)).mono (by omega)
theorem Yjv {T C:Nat→Rat} {q:Rat} {r i:Nat} (h1:Sz 21 (T i)) (h2:Sz 2 q) (h3:Sz 1 (C i)):Sz 32 (Zsd T q C r i):=by
 unfold Zsd;split
 ·exact (Zud h1 (XO h2 h3)).mono (by omega)
 ·exact h1.mono (by omega)
end Pl
theorem ZU.monoB {base base':Nat} {w:World} {v:Value} {fs:List RF} (h:ZU base w v fs) (hb:base'≤base):ZU base' w v fs:=by
 obtain ⟨cs,h1,h2⟩:=h;exact ⟨cs,Y4 h1 hb,h2⟩
theorem Bk.far4' {w:World} {g g':Nat} {t:TypeId} {cs:List Value} (h:Bk w g t cs) (hne:g≠g') (i j k l:Nat) (x y z u:Value):Bk ((((w.setCell ⟨g',i,none⟩ x).setCell ⟨g',j,none⟩ y).setCell ⟨g',k,none⟩ z).setCell ⟨g',l,none⟩ u) g t cs:=
 (((h.far (p:=⟨g',i,none⟩) hne x).far (p:=⟨g',j,none⟩) hne y).far (p:=⟨g',k,none⟩) hne z).far (p:=⟨g',l,none⟩) hne u
theorem ZU.own_ge {base:Nat} {w:World} {v:Value} {fs:List RF} (h:ZU base w v fs):∀g,v.ownBlock=some g→base≤g:=by
 obtain ⟨cs,h1,h2⟩:=h;intro g hg;exact (h1.lt g hg).1
def Yav (w:World) (e:Ending) (w':World):Prop:=
 ∃v1 v2 p xs b2,e= .returned (.tuple #[v1,v2])∧LpO w.heap.size w' v1 p∧ZU b2 w' v2 xs∧w.heap.size≤b2∧(∀s0 s1 s2 g,v1= .agg #[s0,s1,s2]→s0.ownBlock=some g→g < b2)∧Zpa p∧RsL 32 p.right∧RsL 2 xs∧xs.length=p.cols.length∧NN xs∧(∀i,i < p.right.length→qAt p.right i=Ym p xs p.cols.length i)∧Below w.heap.size w w'
theorem Zex (v:Value) (zs:List Int) (w:World) (h:Xq w v zs):
 Calls Tryz.prog 23 #[v] w (Yav w):=by
 obtain ⟨a,cap,rfl,bh,ec⟩:=h.shape;generalize hn:zs.length=n at *;clear hn;obtain ⟨W,hW,hR,O⟩:=Yc w (.slice none 0 0) (.slice none 0 0) (.slice none 0 0);have bv:=O.size;go_enter Tryz.func23,Tryz.ntmps23;go_wp2_with fail;clear hW;refine (Ymj _ zs _ (h.below O)).mono ?_;rintro _ w1 ⟨v1,p,rfl,hp,af,dx,bq⟩;obtain ⟨s0,s1,s2,b1,rfl,bm,am,bn,al,b2⟩:=hp;have ag:=JZ af;have dc:=hR.later bq;have I:=Za O bq O.size;have bw:=h.below I;obtain ⟨A0,n0,c0,rfl⟩:=bm.sliceN;obtain ⟨A1,n1,c1,rfl⟩:∃A n c,s1= .slice A n c:=by obtain ⟨A,c,e,_⟩:=am.shape;exact ⟨A,_,c,e⟩
 obtain ⟨A2,m,c2,rfl⟩:=bn.sliceN;obtain ⟨N1,N2,N3⟩:=am.len;obtain ⟨M1,M2,M3⟩:=bn.frs.len;have m1:1≤m:=by rw [M1];exact af.1
 have m2:m≤3:=by rw [M1];exact af.2.1
 have nN:n1≤5:=by rw [N1];exact af.2.2.1
 have b7:=JZ N1;have bz:=JZ M1;have ah:=JZ bm;have c3:=JZ am;have ea:=JZ b2;clear af dx bn al bq hR O N1 M1 bm am b2 h;obtain ⟨W2,cw,hX,S⟩:=Yc w1 (.slice A0 n0 c0) (.slice A1 n1 c1) (.slice A2 m c2);have ap:W2.heap.size=w1.heap.size+1:=by rw [← cw];simp
 obtain ⟨x0,x1,x2⟩:=hX.three;go_wp2_with fail;clear cw x0 x1 x2;refine (Zhv m _ (by omega)).mono ?_;rintro _ w3 ⟨z2,rfl,hZ,a5⟩;rw [ap] at hZ;obtain ⟨gz,cz,rfl,e6,b3,b4,e7⟩:=hZ.shape (by simp;omega);simp only [List.length_replicate] at hZ b4 ⊢;rw [Zhy] at hZ;have a6:=hX.later a5;have a7:=Za S a5 S.size;obtain ⟨x0,x1,x2⟩:=a6.three;obtain ⟨f0,f1,f2⟩:=a6.threeF;clear hX S a5 ap;go_wp2;clear x0 x1 x2 f0 f1 f2;have b8:=a6.set_ 2 (.slice (some ⟨gz,0,none⟩) m cz);have c4:=hZ.but (Zg.setCell a6 2 (.slice (some ⟨gz,0,none⟩) m cz)) (by decide) (by decide);have aq:=a7.setCell (p:=⟨w1.heap.size,2,none⟩) (JY _) (.slice (some ⟨gz,0,none⟩) m cz);have dd:gz < (w3.setCell ⟨w1.heap.size,2,none⟩ (.slice (some ⟨gz,0,none⟩) m cz)).heap.size:=by simp;exact b3
 have c5:w1.heap.size≤(w3.setCell ⟨w1.heap.size,2,none⟩ (.slice (some ⟨gz,0,none⟩) m cz)).heap.size:=by have:=a7.size;simp;exact this
 generalize w3.setCell ⟨w1.heap.size,2,none⟩ (.slice (some ⟨gz,0,none⟩) m cz)=w4 at *;simp only [List.set_cons_zero,List.set_cons_succ] at b8;clear a6 hZ a7 b3;generalize d8:w4.heap.size=bx at *;have c6:bx≤w4.heap.size:=by omega
 clear d8
 go_loopw [5,6] (fun s i wr=>∃(k:Nat) (xs:List RF),k≤n1∧i= .int .i64 k∧Below w1.heap.size w1 wr∧Bk wr w1.heap.size 26 [.slice A0 n0 c0,.slice A1 n1 c1,.slice (some ⟨gz,0,none⟩) m cz]∧ZU (w1.heap.size+1) wr (.slice (some ⟨gz,0,none⟩) m cz) (ZQ m (WF p.cols xs k))∧ZU bx wr s xs∧xs.length=k∧RsL 2 xs∧NN xs∧bx≤wr.heap.size) (fun _ i _=>n1 - (intOf i).toNat)
 case atStart=>exact ⟨0,[],by omega,rfl,aq,b8,c4,ZU.nil _ _,rfl,RsL.nil _,NN.nil,c6⟩
 case round=>
  clear aq b8 c4 c6 w4;obtain ⟨k,xs,hk,rfl,t,hX,hZ,hO,hl,cy,d0,d1⟩:=hrel;have HL:=JZ hl;have ai:=JZ cy;have c7:=JZ d0;have c8:xs.length+1≤1099511627776:=by omega
  clear hl cy d0;obtain ⟨x0,x1,x2⟩:=hX.three;rcases JX k n1 with hkl | hkl
  ·go_wp2_with fail;clear x0 x1 x2;refine (Zur _ zs (40+(k:Int)) _ (bw.below t) (by omega) (by omega)).mono ?_;rintro _ w2 ⟨z,rfl,z0,z1,br⟩;go_wp2_with fail;refine (Zmp z _).mono ?_;rintro _ w3 ⟨v3,q,rfl,e3,sq,a5⟩;have V:=Za br a5 br.size;obtain ⟨Bg,lg,dg,u,x,y,rfl,_,_⟩:=id e3.frac;obtain ⟨Wv,dt,T,S⟩:=YR w3 (.bool (canF q).num.neg) (.slice Bg lg dg) (.bool (canF q).den.neg) (.slice u x y);have b9:=Za V S V.size;have c9:=V.size;have ba:=e3.frac.below S;obtain ⟨y0,y1,y2,y3⟩:=T.four;have SQ:=JZ sq;clear br a5 e3 S sq V;go_wp2_with fail;clear dt y0 y1 y2 y3;refine (Z4 _ (canF q) _ ba (SQ.out.sh (by decide))).mono ?_;rw [Zr];rintro _ w4 ⟨rfl,an⟩;have B:=Za b9 an b9.size;have J:=T.later an;have C:=ba.below an;clear b9 T ba an;generalize d9:w3.heap.size=gv at *;clear d9;obtain ⟨f5,ae⟩:∃f5,canF q=f5:=⟨_,rfl⟩;have bb:=JZ ae;have aj:Hid (0≤qs q→0≤f5.q):=JZ (fun g=>by
    rw [← ae,Zr];have:=@Wj q;rcases Rat.le_total (a:=0) (b:=q) with e | e
    ·exact e
    ·rw [← Rat.not_lt];exact fun g2=>by have:=Wj.2 g2;omega)
   have ak:Hid (f5.Rs 2):=JZ (by rw [← ae];exact SQ.out.rs);rw [ae] at J C ⊢;clear ae;rcases Int.lt_or_le (qs q) 0 with hq | hq
   case' inr=>
    go_wp2_with fail;refine (Zur _ zs (40+(k:Int)) _ ((bw.below t).below B) (by omega) (by omega)).mono ?_;rintro _ W6 ⟨z',rfl,dy,dz,Y⟩;have D:=Za B Y B.size;have G:=J.later Y;have C:=C.below Y;clear B J Y;by_cases hz:z' % 3=0
    case' pos=>
     have ca:(z' % 3==0)=true:=(by simpa using hz);clear hz;go_wp2_with fail;refine (Yl 0 _ (by omega) (by omega)).mono ?_;rw [show ((0:Int):Rat)=0 from rfl];rintro _ w5 ⟨v5,rfl,e5,U⟩;have L:=Za D U D.size;have d:=G.later U;have R:=JZ e5.frac;have bd:Hid (0≤(canF 0).q):=JZ (by rw [Zr];exact Rat.le_refl);have Z:Hid ((canF 0).Rs 2):=JZ (Sz_zero.mono (by decide)).rs;generalize canF 0=f5 at *;obtain ⟨Bg,lg,dg,u,x,y,rfl,_,_⟩:=id R.out;obtain ⟨y0,y1,y2,y3⟩:=d.four;obtain ⟨g0,g1,g2,g3⟩:=d.fourF;clear e5 U D G C aj ak bb
     go_upto_region 10 with (fail)
     have a3:=d.set4 (.bool f5.num.neg) (.slice Bg lg dg) (.bool f5.den.neg) (.slice u x y);have a8:=JZ (R.out.keep (d.keep4 (by decide) (.bool f5.num.neg) (.slice Bg lg dg) (.bool f5.den.neg) (.slice u x y)));have M:=ZI L c9 (.bool f5.num.neg) (.slice Bg lg dg) (.bool f5.den.neg) (.slice u x y);clear y0 y1 y2 y3 g0 g1 g2 g3 d R L;generalize (((w5.setCell ⟨gv,0,none⟩ (.bool f5.num.neg)).setCell ⟨gv,1,none⟩ (.slice Bg lg dg)).setCell ⟨gv,2,none⟩ (.bool f5.den.neg)).setCell ⟨gv,3,none⟩ (.slice u x y)=W6 at *
    case' neg=>
     have ca:(z' % 3==0)=false:=(by simpa using hz);have bd:=JZ (aj.out hq);clear hz
     go_upto_region 10 with (fail)
     have a3:=G;have a8:=JZ C;have M:=D;have Z:=ak;clear G C D ak bb aj ca dy dz hq
   case' inl=>
    go_wp2_with fail;refine (Yl 0 _ (by omega) (by omega)).mono ?_;rw [show ((0:Int):Rat)=0 from rfl];rintro _ w5 ⟨v5,rfl,e5,U⟩;have L:=Za B U B.size;have d:=J.later U;have R:=JZ e5.frac;have bd:Hid (0≤(canF 0).q):=JZ (by rw [Zr];exact Rat.le_refl);have Z:Hid ((canF 0).Rs 2):=JZ (Sz_zero.mono (by decide)).rs;generalize canF 0=f5 at *;obtain ⟨Bg,lg,dg,u,x,y,rfl,_,_⟩:=id R.out;obtain ⟨y0,y1,y2,y3⟩:=d.four;obtain ⟨g0,g1,g2,g3⟩:=d.fourF;clear e5 U B J C aj ak bb
    go_upto_region 10 with (fail)
    have a3:=d.set4 (.bool f5.num.neg) (.slice Bg lg dg) (.bool f5.den.neg) (.slice u x y);have a8:=JZ (R.out.keep (d.keep4 (by decide) (.bool f5.num.neg) (.slice Bg lg dg) (.bool f5.den.neg) (.slice u x y)));have M:=ZI L c9 (.bool f5.num.neg) (.slice Bg lg dg) (.bool f5.den.neg) (.slice u x y);clear y0 y1 y2 y3 g0 g1 g2 g3 d R L;generalize (((w5.setCell ⟨gv,0,none⟩ (.bool f5.num.neg)).setCell ⟨gv,1,none⟩ (.slice Bg lg dg)).setCell ⟨gv,2,none⟩ (.bool f5.den.neg)).setCell ⟨gv,3,none⟩ (.slice u x y)=W6 at *
   all_goals
    have de:gv < W6.heap.size:=a3.lt;have ar:=Za t M t.size;have HO:=JZ (hO.below M);have cb:bx≤W6.heap.size:=(by have:=M.size;omega);have cd:=hX.later M;have ce:=hZ.below M;have au:=hO.own_lt;have a9:=hO.own_ge;have av:Hid (some gv≠u5.ownBlock):=JZ fun e=>by have:=au gv e.symm;omega
    have aw:Hid (some gz≠u5.ownBlock):=JZ fun e=>by have:=a9 gz e.symm;omega
    obtain ⟨y0,y1,y2,y3⟩:=a3.four;clear hX hZ hO t au a9 M;go_wp2_with (at_builtin;refine Zca rfl (.tmp 41) (.tmp 43) rfl W6 bx u5 xs rfl HO.out _ _ Bg u lg dg x y f5 a8.out rfl c8 cb ?_);intro v' w7 bt ao d7 H bu;have N:=ar.trans (d7.mono c5);have be:=ao.bk cd (by decide);have cf:=H.bk a3 av.out;have cg:=a8.out.keep (ao.keep (by decide));have bf:=ce.others H (ao.keep (by decide)) (fun b hb=>by simp [Value.ownBlock] at hb;subst hb;exact aw.out);have e4:bx≤w7.heap.size:=(by have:=H.1;omega);clear ar HO cd ce av aw y0 y1 y2 y3 a3 a8 ao d7 H bu de cb;obtain ⟨Av,nv,cv,rfl⟩:=bt.sliceN;obtain ⟨x0,x1,x2⟩:=be.three;generalize e0:Value.slice Av nv cv=v' at *;clear e0;have aa:Zpa ⟨p.cost,p.cols,ZQ m (WF p.cols xs k)⟩:=by
     have o:=ag.out;refine ⟨?_,?_,o.2.2.1,o.2.2.2.1,o.2.2.2.2.1,fun j c hc=>?_⟩
     ·simp only [Zc];exact m1
     ·simp only [Zc];exact m2
     ·have:=o.2.2.2.2.2 j c hc;simp only [Zc];rw [bz.out];exact this
    have F:=ag.out.2.2.2.2.2;have bg:∀i,Sz 21 (WF p.cols xs k i):=fun i=>Zpc F ai.out (by omega) i
    have ch:RsL 32 (ZQ m (WF p.cols xs k)):=Vv fun i _=>(bg i).mono (by decide)
    have ax:=JZ (aa.ok (K:=32) (by decide) ch);have ci:Hid (LPd.In ⟨p.cost,p.cols,ZQ m (WF p.cols xs k)⟩):=JZ (YU aa.err).2.2.2.1;have cj:LpM w7 (.agg #[.slice A0 n0 c0,.slice A1 n1 c1,(.slice (some ⟨gz,0,none⟩) m cz)]) ⟨p.cost,p.cols,ZQ m (WF p.cols xs k)⟩:=⟨_,_,_,_,_,_,_,_,_,rfl,(ah.out.below N).frs,c3.out.below N,bf.frs⟩;have bh:∀i,Sz 1 (Ydf p.cols k i):=fun i=>Yau F k i
    have bi:=JZ bh;have df:=JZ bg;clear aa F bg ch bh;go_wp2_with fail;clear x0 x1 x2;refine (Zia _ ⟨p.cost,p.cols,ZQ m (WF p.cols xs k)⟩ 32 k _ cj ax.out (by decide) ci.out (by rw [← b7.out];exact hkl) (by simp only [Zc];omega)).mono ?_;rw [show ZQ (LPd.mk p.cost p.cols (ZQ m (WF p.cols xs k))).right.length ((LPd.mk p.cost p.cols (ZQ m (WF p.cols xs k))).col (k:Int))=ZQ m (Ydf p.cols k) from by rw [Zmr];simp only [Zc]];rintro _ w8 ⟨vc,rfl,hC,P⟩;obtain ⟨Ac,cc,rfl,d2,e8⟩:=hC.frs.shape;simp only [Zc] at hC d2 ⊢;have ay:=Za N P N.size;have ck:=be.later P;have cl:=cf.later P;have cm:=cg.below P;have bj:=bf.below P;have cn:=bt.below P;have az:bx≤w8.heap.size:=(by have:=P.size;omega);have dh:gz < w7.heap.size:=(by omega);clear N be cf cg bf bt cj ax ci P;rw [← Yas (WF p.cols xs k) f5.q (Ydf p.cols k)] at bj;generalize da:WF p.cols xs k=TT at *;generalize db:Ydf p.cols k=CC at *;have di:=JZ da;have dj:=JZ db;clear da db;go_wp2
    go_loopw [9] (fun i wx=>∃r:Nat,r≤m∧i= .int .i64 r∧Below w1.heap.size w1 wx∧Bk wx w1.heap.size 26 [.slice A0 n0 c0,.slice A1 n1 c1,.slice (some ⟨gz,0,none⟩) m cz]∧Bk wx gv 46 [.bool f5.num.neg,.slice Bg lg dg,.bool f5.den.neg,.slice u x y]∧Zw wx (.agg #[.bool f5.num.neg,.slice Bg lg dg,.bool f5.den.neg,.slice u x y]) f5∧ZU (w1.heap.size+1) wx (.slice (some ⟨gz,0,none⟩) m cz) (ZQ m (Zsd TT f5.q CC r))∧ZU bx wx v' (xs++[f5])∧ZU w7.heap.size wx (.slice Ac m cc) (ZQ m CC)∧bx≤wx.heap.size) (fun i _=>m - (intOf i).toNat)
    case atStart=>exact ⟨0,by omega,rfl,ay,ck,cl,cm,bj,cn,hC,az⟩
    case round=>
     clear ay ck cl cm bj cn hC az;obtain ⟨r,hr,rfl,t,hX,T,bo,hZ,hO,hC,d1⟩:=hrel;rcases JX r m with hrm | hrm
     ·obtain ⟨x0,x1,x2⟩:=hX.three;obtain ⟨y0,y1,y2,y3⟩:=T.four;obtain ⟨_,_,A3,n3,k3,A4,n4,k4,bp,_,⟨t0,t1,t2,t3⟩,du⟩:=hZ.frs.elem (JR _ _) (ZE hrm);injection bp with bp;injection bp with e1 e2;subst e1 e2;obtain ⟨bc,oc,A5,n5,k5,A6,n6,k6,rfl,_,⟨q0,q1,q2,q3⟩,dv⟩:=hC.frs.elem (JR _ _) (ZE hrm);simp only [Nat.zero_add] at t0 t1 t2 t3;have dk:f5.Sh:=Z.out.sh (by decide);have dl:(canF (CC r)).Sh:=(bi.out r).sh (by decide);have dm:(canF (Zsd TT f5.q CC r r)).Sh:=(Yjv (df.out r) (Z.out.sz (by decide)) (bi.out r)).sh (by decide);have dn:(canF (f5.q * CC r)).Sh:=(XO (Z.out.sz (by decide)) (bi.out r)).sh (by decide);have dp:=JZ (Yju TT f5.q CC r);have eb:(r:Int) < m:=(by omega);go_wp2_with fail;have C1:=Zl x2;have C2:=Zl y0;have C3:=Zl y1;have C4:=Zl y2;have C5:=Zl y3;have C6:=Zl t0;have C7:=Zl t1;have C8:=Zl t2;have C9:=Zl t3;have D6:=Zl q0;have D7:=Zl q1;have D8:=Zl q2;have D9:=Zl q3;have ab:=Zj wr;clear x0 x1 x2 y0 y1 y2 y3 t0 t1 t2 t3 q0 q1 q2 q3;refine Zn 16 [0,1,2,3,4,5,6,7,8,9,10,11,12,13,14,15,16] (by kernel_rfl) (by kernel_rfl) ?_;repeat ((first|(first|refine Zb (v:=?_) rfl rfl rfl ?_ ?_ |refine Zd (v:=?_) rfl rfl rfl ?_ ?_);rotate_left;·(intro _ _;go_simp;(try go_bits);(try with_reducible rfl))|refine Ze rfl rfl rfl ?_);(try simp only [pu]))
      refine Zf rfl rfl (fun _ kq=>?_);go_simp;(with_reducible refine (Zhs _ _ f5 (canF (CC r)) _ (bo.below ab) (dv.below ab) dk dl).mono ?_);rw [Zr];rintro _ w9 ⟨v9,rfl,e9,d6⟩;have ac:=Za ab d6 ab.size;refine kq.out _ _ (.inr ac) ?_;clear kq;(try simp only [pu]);repeat ((first|(first|refine Zb (v:=?_) rfl rfl rfl ?_ ?_ |refine Zd (v:=?_) rfl rfl rfl ?_ ?_);rotate_left;·(intro _ _;go_simp;(try go_bits);(try with_reducible rfl))|refine Ze rfl rfl rfl ?_);(try simp only [pu]))
      refine Zf rfl rfl (fun _ kq=>?_);go_simp;(with_reducible refine (Zht _ _ _ _ _ (du.below ac) e9.frac dm dn).mono ?_);rw [Zr,Zr,dp.out];rintro _ ef ⟨eg,rfl,bs,b6⟩;have f:=Za ac b6 ac.size;obtain ⟨E,l9,k9,E',ed,ee,rfl,_,_⟩:=id bs.frac;have ad:=hZ.below f;obtain ⟨_,_,_,_,⟨d3,d4,d5,dw⟩,⟨f0,f1,f2,f3⟩,_⟩:=ad.at_ (ZE hrm);refine kq.out _ _ (.inr f) ?_;clear kq;(try simp only [pu]);repeat ((first|(first|refine Zb (v:=?_) rfl rfl rfl ?_ ?_ |refine Zd (v:=?_) rfl rfl rfl ?_ ?_);rotate_left;·(intro _ _;go_simp;(try go_bits);(try with_reducible rfl))|refine Ze rfl rfl rfl ?_);(try simp only [pu]))
      refine Zf rfl rfl (fun _ kq=>?_);go_simp;refine kq.out _ _ (.inl (by decide)) ?_;clear kq;(try simp only [pu]);refine Zv ?_;obtain ⟨b5,X⟩:=ad.set_ (by rw [Zc];exact hrm) bs.frac;rw [XT hrm,Yat] at b5;have co:=X.bk (hX.later f) (by decide);have b0:=(T.later f);have al:=Za t f t.size;have bl:=Zx al (show w1.heap.size≤gz by omega) (r * 4) (r * 4+1) (r * 4+2) (r * 4+3);have cp:=(hO.below f).far4 (i:=r * 4) (j:=r * 4+1) (k:=r * 4+2) (l:=r * 4+3) dd _ rfl X;have cq:=(hC.below f).far4 (i:=r * 4) (j:=r * 4+1) (k:=r * 4+2) (l:=r * 4+3) dh _ rfl X;have cr:=b0.far4' (show gv≠gz by omega) (r * 4) (r * 4+1) (r * 4+2) (r * 4+3);have cs:=(bo.below f).keep (X.keep (by decide));have dq:=f.size;clear C1 C2 C3 C4 C5 C6 C7 C8 C9 D6 D7 D8 D9 hX T bo hZ hO hC t ad ab ac f d6 b6 e9 bs b0 al d3 d4 d5 dw f0 f1 f2 f3;go_wp2;go_roundw
      case rel=>exact ⟨r+1,by omega,by go_num,bl _ _ _ _,co,cr _ _ _ _,cs,b5,cp,cq,by simp;omega⟩
      case measure=>simp [intOf];omega
     ·obtain rfl:r=m:=by omega
      have dr:Hid (∀i,i < r→Zsd TT f5.q CC r i=WF p.cols (xs++[f5]) (k+1) i):=JZ fun i hi=>by
       rw [Zsc p.cols f5 HL.out,di.out,dj.out];unfold Zsd;rw [if_pos hi]
      have ct:=hZ;rw [ZO dr.out] at ct;clear hZ;go_wp2;go_roundw
      case rel=>exact ⟨k+1,xs++[f5],by omega,by go_num,t,hX,ct,hO,by rw [List.length_append,HL.out];rfl,ai.out.snoc Z.out,c7.out.snoc bd.out,d1⟩
      case measure=>simp [intOf];omega
  ·obtain rfl:k=n1:=by omega
   have a4:=dc.later t;have cu:=Za I t I.size;obtain ⟨Ax,nx,cx,rfl⟩:=hO.sliceN;obtain ⟨d3,d4,d5⟩:=a4.three;obtain ⟨f0,f1,f2⟩:=a4.threeF;clear b4;go_wp2;have ds:=((a4.set_ 0 (.slice A0 n0 c0)).set_ 1 (.slice A1 k c1)).set_ 2 (.slice (some ⟨gz,0,none⟩) m cz);refine YX Tryz.results23 Tryz.underlying26 (by kernel_rfl) rfl ds rfl ?_;have k1:=Zg.setCell a4 0 (.slice A0 n0 c0);have k2:=Zg.setCell (a4.set_ 0 (.slice A0 n0 c0)) 1 (.slice A1 k c1);have k3:=Zg.setCell ((a4.set_ 0 (.slice A0 n0 c0)).set_ 1 (.slice A1 k c1)) 2 (.slice (some ⟨gz,0,none⟩) m cz);have k4:=(k1.trans k2).trans k3;have F:=ag.out.2.2.2.2.2;refine ⟨_,_,⟨p.cost,p.cols,ZQ m (WF p.cols xs k)⟩,xs,bx,rfl,⟨_,_,_,w1.heap.size+1,rfl,?_,(c3.out.below t).but k4 (by decide) (by decide) (by decide),hZ.but k4 (by decide) (by decide),?_,?_⟩,?_,?_,?_,?_,?_,ai.out,?_,c7.out,?_,?_⟩
   ·exact ((ah.out.below t).but k4 (by decide) (by decide)).monoB bv
   ·have:=I.size;omega
   ·intro g hg;have:=ah.out.own_lt g hg;omega
   ·exact hO.but k4 (by decide) (by decide)
   ·have:=I.size;omega
   ·intro a0 a1 a2 g he hg;injection he with he;simp at he;obtain ⟨rfl,_,_⟩:=he;have:=ah.out.own_lt g hg;omega
   ·have o:=ag.out;refine ⟨?_,?_,o.2.2.1,o.2.2.2.1,o.2.2.2.2.1,fun j c hc=>?_⟩
    ·simp only [Zc];exact m1
    ·simp only [Zc];exact m2
    ·have:=o.2.2.2.2.2 j c hc;simp only [Zc];rw [bz.out];exact this
   ·exact Vv fun i _=>(Zpc F ai.out (by omega) i).mono (by decide)
   ·rw [HL.out,b7.out]
   ·intro i hi;simp only [Zc] at hi;simp only;rw [Yr hi,Yfe,← b7.out]
   ·exact ((cu.setCell (p:=⟨w.heap.size,0,none⟩) (JY _) _).setCell (p:=⟨w.heap.size,1,none⟩) (JY _) _).setCell (p:=⟨w.heap.size,2,none⟩) (JY _) _
def X7 (n:Nat) (G C:Nat→Nat) (r:Nat):Value:= .slice (some ⟨G r,0,none⟩) n (C r)
def Zey (m n:Nat) (G C:Nat→Nat):List Value:=(List.range m).map (X7 n G C)
theorem WQ {m n r:Nat} {G C:Nat→Nat} (h:r < m):(Zey m n G C)[r]? =some (X7 n G C r):=by simp [Zey,h]
theorem Xe (m n:Nat) (G C:Nat→Nat):(Zey m n G C).length=m:=by simp [Zey]
def UL (base:Nat) (w:World) (v:Value) (m n:Nat) (M:Mx) (G C:Nat→Nat):Prop:=
 w.ownsRow base 23 1 v m (Zey m n G C)∧(∀r,r < m→ZU base w (X7 n G C r) (ZQ n (M r)))∧∀r s,r < m→s < m→G r=G s→r=s
theorem UL.below {base:Nat} {w w':World} {v:Value} {m n:Nat} {M:Mx} {G C:Nat→Nat} (h:UL base w v m n M G C) (hb:Below w.heap.size w w'):UL base w' v m n M G C:=
 ⟨own_below h.1 hb,fun r hr=>(h.2.1 r hr).below hb,h.2.2⟩
theorem UL.nil (base:Nat) (w:World) (n:Nat) (M:Mx) (G C:Nat→Nat):UL base w (.slice none 0 0) 0 n M G C:=
 ⟨World.ownsRow_nil _ _ _ _,fun r hr=>absurd hr (by omega),fun r s hr=>absurd hr (by omega)⟩
theorem UL.lt {base:Nat} {w:World} {v:Value} {m n:Nat} {M:Mx} {G C:Nat→Nat} (h:UL base w v m n M G C) {r:Nat} (hr:r < m) (hn:0 < n):base≤G r∧G r < w.heap.size∧n≤C r∧C r≤9223372036854775807:=by
 obtain ⟨g,c,hv,h1,h2,h3,h4⟩:=(h.2.1 r hr).shape (by rw [Zc];exact hn);rw [Zc] at hv h3;unfold X7 at hv;injection hv with e1 e2 e3;injection e1 with e1;injection e1 with e1;subst e1 e3;exact ⟨h1,h2,h3,h4⟩
theorem UL.outer {base:Nat} {w:World} {v:Value} {m n:Nat} {M:Mx} {G C:Nat→Nat} (h:UL base w v m n M G C) (hm:0 < m):
 ∃g c,v= .slice (some ⟨g,0,none⟩) m c∧base≤g∧g < w.heap.size∧m≤c∧c≤9223372036854775807∧∀r,r < m→w.cell? ⟨g,r,none⟩=some (X7 n G C r)∧w.frozen? ⟨g,r,none⟩=false:=by
 have h0:=h.1;rcases h.1.2 with ⟨rfl,e⟩ | ⟨g,cap,cur,rfl,hb,hg,hnc,hcm,hcs,htake⟩
 ·omega
 ·unfold maxLen at hcm;exact ⟨g,cap,rfl,hb,YA hg,hnc,by omega,fun r hr=>ZV h0 (WQ hr)⟩
theorem UL.shape {base:Nat} {w:World} {v:Value} {m n:Nat} {M:Mx} {G C:Nat→Nat} (h:UL base w v m n M G C):∃A c,v= .slice A m c∧m≤c∧c≤9223372036854775807:=(UD.of_own h.1).shape
theorem UL.at_ {base:Nat} {w:World} {v:Value} {m n:Nat} {M:Mx} {G C:Nat→Nat} (h:UL base w v m n M G C) {r c:Nat} (hr:r < m) (hc:c < n):
 ∃A1 n1 c1 A2 n2 c2,(w.cell? ⟨G r,c * 4,none⟩=some (.bool (canF (M r c)).num.neg)∧w.cell? ⟨G r,c * 4+1,none⟩=some (.slice A1 n1 c1)∧w.cell? ⟨G r,c * 4+2,none⟩=some (.bool (canF (M r c)).den.neg)∧w.cell? ⟨G r,c * 4+3,none⟩=some (.slice A2 n2 c2))∧Zw w (.agg #[.bool (canF (M r c)).num.neg,.slice A1 n1 c1,.bool (canF (M r c)).den.neg,.slice A2 n2 c2]) (canF (M r c)):=by
 obtain ⟨b,d,A1,n1,c1,A2,n2,c2,hA,_,a,hm⟩:=(h.2.1 r hr).frs.elem (JR _ _) (ZE hc);injection hA with hA;injection hA with e1 e2;subst e1 e2;simp only [Nat.zero_add] at a;exact ⟨A1,n1,c1,A2,n2,c2,a,hm⟩
theorem UL.frozen {base:Nat} {w:World} {v:Value} {m n:Nat} {M:Mx} {G C:Nat→Nat} (h:UL base w v m n M G C) {r c:Nat} (hr:r < m) (hc:c < n):
 w.frozen? ⟨G r,c * 4,none⟩=false∧w.frozen? ⟨G r,c * 4+1,none⟩=false∧w.frozen? ⟨G r,c * 4+2,none⟩=false∧w.frozen? ⟨G r,c * 4+3,none⟩=false:=by
 obtain ⟨_,_,_,_,_,hf,_⟩:=(h.2.1 r hr).at_ (ZE hc);exact hf
theorem YC {w:World} {g i j k l:Nat} {x y z u:Value}:Yi (some g) w ((((w.setCell ⟨g,i,none⟩ x).setCell ⟨g,j,none⟩ y).setCell ⟨g,k,none⟩ z).setCell ⟨g,l,none⟩ u):=
 ((Yi.of_set.trans Yi.of_set).trans Yi.of_set).trans Yi.of_set
theorem UL.set_ {base:Nat} {w:World} {v:Value} {m n:Nat} {M:Mx} {G C:Nat→Nat} (h:UL base w v m n M G C) {r c:Nat} (hr:r < m) (hc:c < n) {x y z u:Value} {q:Rat} (hf:Zw w (.agg #[x,y,z,u]) (canF q)):
 UL base ((((w.setCell ⟨G r,c * 4,none⟩ x).setCell ⟨G r,c * 4+1,none⟩ y).setCell ⟨G r,c * 4+2,none⟩ z).setCell ⟨G r,c * 4+3,none⟩ u) v m n (Yeq M r c q) G C∧
 Zg 46 w ((((w.setCell ⟨G r,c * 4,none⟩ x).setCell ⟨G r,c * 4+1,none⟩ y).setCell ⟨G r,c * 4+2,none⟩ z).setCell ⟨G r,c * 4+3,none⟩ u):=by
 obtain ⟨hs,hk⟩:=ZU.set_ (h.2.1 r hr) (k:=c) (by rw [Zc];exact hc) hf;rw [XT hc] at hs;refine ⟨⟨hk.own h.1 (by decide),fun s hs'=>?_,h.2.2⟩,hk⟩;by_cases e:s=r
 ·subst e;have:ZQ n (Yeq M s c q s)=ZQ n (fun i=>if i=c then q else M s i):=ZO fun i _=>by
   unfold Yeq;by_cases e:i=c
   ·rw [if_pos ⟨rfl,e⟩,if_pos e]
   ·rw [if_neg (by omega),if_neg e]
  rw [this];exact hs
 ·have:ZQ n (Yeq M r c q s)=ZQ n (M s):=ZO fun i _=>by unfold Yeq;rw [if_neg (by omega)]
  rw [this];refine (h.2.1 s hs').others YC (hk.keep (by decide)) fun b hb hne=>?_
  simp [X7,Value.ownBlock] at hb;injection hne with hne;exact e (h.2.2 s r hs' hr (by omega))
def swapF (F:Nat→Nat) (k t:Nat):Nat→Nat:=fun r=>if r=k then F t else if r=t then F k else F r
theorem UL.swap {base:Nat} {w:World} {m n:Nat} {M:Mx} {G C:Nat→Nat} {g c:Nat} (h:UL base w (.slice (some ⟨g,0,none⟩) m c) m n M G C) {k t:Nat} (hk:k < m) (ht:t < m):
 UL base ((w.setCell ⟨g,k,none⟩ (X7 n G C t)).setCell ⟨g,t,none⟩ (X7 n G C k)) (.slice (some ⟨g,0,none⟩) m c) m n (swapM M k t) (swapF G k t) (swapF C k t)∧
 Zg 23 w ((w.setCell ⟨g,k,none⟩ (X7 n G C t)).setCell ⟨g,t,none⟩ (X7 n G C k)):=by
 have o1:=XC h.1 k (X7 n G C t) (by rw [Xe];exact hk);have o2:=XC o1 t (X7 n G C k) (by rw [List.length_set,Xe];exact ht);obtain ⟨_,b0,_⟩:=Ye h.1;obtain ⟨_,b1,_⟩:=Ye o1;have kp:=(Zg.setCell b0 k (X7 n G C t)).trans (Zg.setCell b1 t (X7 n G C k));have b:∀r,X7 n (swapF G k t) (swapF C k t) r=if r=k then X7 n G C t else if r=t then X7 n G C k else X7 n G C r:=fun r=>by
  unfold X7 swapF;by_cases e:r=k
  ·simp only [if_pos e]
  ·simp only [if_neg e];by_cases e2:r=t
   ·simp only [if_pos e2]
   ·simp only [if_neg e2]
 refine ⟨⟨?_,fun r hr=>?_,fun r s hr hs e=>?_⟩,kp⟩
 ·have:((Zey m n G C).set k (X7 n G C t)).set t (X7 n G C k)=Zey m n (swapF G k t) (swapF C k t):=by
   apply List.ext_getElem?;intro i;rcases JX i m with hi | hi
   ·rw [WQ hi,b,List.getElem?_set,List.getElem?_set];simp only [List.length_set,Xe];by_cases e1:t=i
    ·subst e1;rw [if_pos rfl,if_pos ht];by_cases e2:t=k
     ·subst e2;rw [if_pos rfl]
     ·rw [if_neg e2,if_pos rfl]
    ·rw [if_neg e1];by_cases e2:k=i
     ·subst e2;rw [if_pos rfl,if_pos hk,if_pos rfl]
     ·rw [if_neg e2,if_neg (fun h=>e2 h.symm),if_neg (fun h=>e1 h.symm),WQ hi]
   ·rw [JU (by simp [Xe];exact hi),JU (by rw [Xe];exact hi)]
  rw [← this];exact o2
 ·rw [b];unfold swapM;split
  ·exact (h.2.1 t ht).but kp (by decide) (by decide)
  ·split
   ·exact (h.2.1 k hk).but kp (by decide) (by decide)
   ·exact (h.2.1 r hr).but kp (by decide) (by decide)
 ·have d:∀a,a < m→∃a',a' < m∧swapF G k t a=G a'∧((a=k∧a'=t)∨(a≠k∧a=t∧a'=k)∨(a≠k∧a≠t∧a'=a)):=fun a ha=>by
   unfold swapF;by_cases e1:a=k
   ·exact ⟨t,ht,by rw [if_pos e1],.inl ⟨e1,rfl⟩⟩
   ·by_cases e2:a=t
    ·exact ⟨k,hk,by rw [if_neg e1,if_pos e2],.inr (.inl ⟨e1,e2,rfl⟩)⟩
    ·exact ⟨a,ha,by rw [if_neg e1,if_neg e2],.inr (.inr ⟨e1,e2,rfl⟩)⟩
  obtain ⟨r',f,er,cr⟩:=d r hr;obtain ⟨s',j,es,cs⟩:=d s hs;rw [er,es] at e;have:=h.2.2 _ _ f j e;omega
theorem UL.cellAt {base:Nat} {w:World} {m n:Nat} {M:Mx} {G C:Nat→Nat} {g c:Nat} (h:UL base w (.slice (some ⟨g,0,none⟩) m c) m n M G C) {r:Nat} (hr:r < m):w.cell? ⟨g,r,none⟩=some (X7 n G C r)∧w.frozen? ⟨g,r,none⟩=false:=ZV h.1 (WQ hr)
theorem UL.swap1 {base:Nat} {w:World} {m n:Nat} {M:Mx} {G C:Nat→Nat} {g c:Nat} (h:UL base w (.slice (some ⟨g,0,none⟩) m c) m n M G C) {k t:Nat} {u:Value} (ht:t < m):∃y,(w.setCell ⟨g,k,none⟩ u).cell? ⟨g,t,none⟩=some y∧(w.setCell ⟨g,k,none⟩ u).frozen? ⟨g,t,none⟩=false:=by
 rcases JX k m with hk | hk
 ·have o1:=XC h.1 k u (by rw [Xe];exact hk);obtain ⟨y,hy⟩:∃y,((Zey m n G C).set k u)[t]? =some y:=⟨_,JQ (by rw [List.length_set,Xe];exact ht)⟩;exact ⟨y,ZV o1 hy⟩
 ·obtain ⟨a,b0,_⟩:=Ye h.1;have hb:=heap_setCell_same w g k a 23 u b0;obtain ⟨c0,_⟩:=h.cellAt ht;rw [cell_of_row w g t a _ _ b0] at c0;have b:t < a.size:=by
   rcases JX t a.size with h9 | h9
   ·exact h9
   ·rw [Array.getElem?_eq_none (by omega)] at c0;cases c0
  refine ⟨(a.setIfInBounds k u)[t]'(by simpa using b),?_,frozen_of_row _ g t _ _ hb⟩;rw [cell_of_row _ g t _ _ _ hb];exact Array.getElem?_eq_getElem (by simpa using b)
def Zgk (w:World) (v:Value) (m n:Nat) (M:Mx):Prop:=∃vs:Nat→Value,UD w 23 1 v m ((List.range m).map vs)∧∀k,k < m→Y1 w (vs k) (ZQ n (M k))
theorem Zgk.below {w w':World} {v:Value} {m n:Nat} {M:Mx} (h:Zgk w v m n M) (hb:Below w.heap.size w w'):Zgk w' v m n M:=by
 obtain ⟨vs,h1,h2⟩:=h;exact ⟨vs,h1.below hb,fun k hk=>(h2 k hk).below hb⟩
theorem Zgk.shape {w:World} {v:Value} {m n:Nat} {M:Mx} (h:Zgk w v m n M):∃A c,v= .slice A m c∧m≤c∧c≤9223372036854775807:=by
 obtain ⟨vs,h1,h2⟩:=h;exact h1.shape
theorem Zgk.at_ {w w0:World} {A:Option Addr} {m n c:Nat} {M:Mx} (h0:Zgk w0 (.slice A m c) m n M) (hb0:Below w0.heap.size w0 w) {k:Nat} (hk:k < m) {r:Nat} (hr:r < n):
 ∃b off B cB b' off' A1 n1 c1 A2 n2 c2,A=some ⟨b,off,none⟩∧b < w0.heap.size∧w.cell? ⟨b,off+k,none⟩=some (.slice (some ⟨b',off',none⟩) n cB)∧n≤cB∧cB≤9223372036854775807∧B=(some ⟨b',off',none⟩:Option Addr)∧
 (w.cell? ⟨b',off'+r * 4,none⟩=some (.bool (canF (M k r)).num.neg)∧w.cell? ⟨b',off'+r * 4+1,none⟩=some (.slice A1 n1 c1)∧w.cell? ⟨b',off'+r * 4+2,none⟩=some (.bool (canF (M k r)).den.neg)∧w.cell? ⟨b',off'+r * 4+3,none⟩=some (.slice A2 n2 c2))∧Zw w (.agg #[.bool (canF (M k r)).num.neg,.slice A1 n1 c1,.bool (canF (M k r)).den.neg,.slice A2 n2 c2]) (canF (M k r)):=by
 obtain ⟨vs,h1,h2⟩:=h0;obtain ⟨b,off,hA,d,hc⟩:=h1.at_ (by omega);obtain ⟨B,cB,hv,a,e⟩:=(h2 k hk).shape;rw [Zc] at hv a;have h3:=h2 k hk;rw [hv] at h3;obtain ⟨b',off',A1,n1,c1,A2,n2,c2,f,_,h4,hm⟩:=h3.elem hb0 (ZE hr);subst f;refine ⟨b,off,_,cB,b',off',A1,n1,c1,A2,n2,c2,hA,d,?_,a,e,rfl,h4,hm⟩;have:=hc k (vs k) (by simp [hk]);rw [← hv];exact cell_later hb0 this
namespace Pl
def rfL (n:Nat) (f:Nat→RF):List RF:=(List.range n).map f
theorem Zz (n:Nat) (f:Nat→RF):(rfL n f).length=n:=by simp [rfL]
theorem YD {n i:Nat} {f:Nat→RF} (h:i < n):(rfL n f)[i]? =some (f i):=by simp [rfL,h]
theorem Wq {n:Nat} {f g:Nat→RF} (h:∀i,i < n→f i=g i):rfL n f=rfL n g:=by
 refine List.ext_getElem? fun i=>?_
 rcases JX i n with e | e
 ·rw [YD e,YD e,h i e]
 ·rw [JU (by rw [Zz];exact e),JU (by rw [Zz];exact e)]
theorem Uw {n k:Nat} {f:Nat→RF} {q:RF} (h:k < n):(rfL n f).set k q=rfL n fun i=>if i=k then q else f i:=by
 refine List.ext_getElem? fun i=>?_
 rcases JX i n with e | e
 ·rw [YD e,List.getElem?_set];by_cases g:k=i
  ·subst g;rw [if_pos rfl,Zz,if_pos h,if_pos rfl]
  ·rw [if_neg g,YD e,if_neg fun g'=>g g'.symm]
 ·rw [JU (by rw [List.length_set,Zz];exact e),JU (by rw [Zz];exact e)]
theorem Zse (n:Nat) (f:Nat→Rat):rfL n (fun i=>canF (f i))=ZQ n f:=rfl
theorem Zms {n i:Nat} {f:Nat→RF} (h:i < n):qAt (rfL n f) i=(f i).q:=ZF (YD h)
def Yjw (M:Nat→Nat→RF) (r i:Nat) (q:RF):Nat→Nat→RF:=fun s c=>if s=r∧c=i then q else M s c
end Pl
def Zgr (base:Nat) (w:World) (v:Value) (m n:Nat) (M:Nat→Nat→RF) (G C:Nat→Nat):Prop:=
 w.ownsRow base 23 1 v m (Zey m n G C)∧(∀r,r < m→ZU base w (X7 n G C r) (rfL n (M r)))∧∀r s,r < m→s < m→G r=G s→r=s
theorem Zgr.below {base:Nat} {w w':World} {v:Value} {m n:Nat} {M:Nat→Nat→RF} {G C:Nat→Nat} (h:Zgr base w v m n M G C) (hb:Below w.heap.size w w'):Zgr base w' v m n M G C:=
 ⟨own_below h.1 hb,fun r hr=>(h.2.1 r hr).below hb,h.2.2⟩
theorem Zgr.lt {base:Nat} {w:World} {v:Value} {m n:Nat} {M:Nat→Nat→RF} {G C:Nat→Nat} (h:Zgr base w v m n M G C) {r:Nat} (hr:r < m) (hn:0 < n):base≤G r∧G r < w.heap.size∧n≤C r∧C r≤9223372036854775807:=by
 obtain ⟨g,c,hv,h1,h2,h3,h4⟩:=(h.2.1 r hr).shape (by rw [Zz];exact hn);rw [Zz] at hv h3;unfold X7 at hv;injection hv with e1 e2 e3;injection e1 with e1;injection e1 with e1;subst e1 e3;exact ⟨h1,h2,h3,h4⟩
theorem Zgr.outer {base:Nat} {w:World} {v:Value} {m n:Nat} {M:Nat→Nat→RF} {G C:Nat→Nat} (h:Zgr base w v m n M G C) (hm:0 < m):
 ∃g c,v= .slice (some ⟨g,0,none⟩) m c∧base≤g∧g < w.heap.size∧m≤c∧c≤9223372036854775807∧∀r,r < m→w.cell? ⟨g,r,none⟩=some (X7 n G C r)∧w.frozen? ⟨g,r,none⟩=false:=by
 have h0:=h.1;rcases h.1.2 with ⟨rfl,e⟩ | ⟨g,cap,cur,rfl,hb,hg,hnc,hcm,hcs,htake⟩
 ·omega
 ·unfold maxLen at hcm;exact ⟨g,cap,rfl,hb,YA hg,hnc,by omega,fun r hr=>ZV h0 (WQ hr)⟩
theorem Zgr.at_ {base:Nat} {w:World} {v:Value} {m n:Nat} {M:Nat→Nat→RF} {G C:Nat→Nat} (h:Zgr base w v m n M G C) {r c:Nat} (hr:r < m) (hc:c < n):
 ∃A1 n1 c1 A2 n2 c2,(w.cell? ⟨G r,c * 4,none⟩=some (.bool (M r c).num.neg)∧w.cell? ⟨G r,c * 4+1,none⟩=some (.slice A1 n1 c1)∧w.cell? ⟨G r,c * 4+2,none⟩=some (.bool (M r c).den.neg)∧w.cell? ⟨G r,c * 4+3,none⟩=some (.slice A2 n2 c2))∧Zw w (.agg #[.bool (M r c).num.neg,.slice A1 n1 c1,.bool (M r c).den.neg,.slice A2 n2 c2]) (M r c):=by
 obtain ⟨b,d,A1,n1,c1,A2,n2,c2,hA,_,a,hm⟩:=(h.2.1 r hr).frs.elem (JR _ _) (YD hc);injection hA with hA;injection hA with e1 e2;subst e1 e2;simp only [Nat.zero_add] at a;exact ⟨A1,n1,c1,A2,n2,c2,a,hm⟩
theorem Zgr.frozen {base:Nat} {w:World} {v:Value} {m n:Nat} {M:Nat→Nat→RF} {G C:Nat→Nat} (h:Zgr base w v m n M G C) {r c:Nat} (hr:r < m) (hc:c < n):
 w.frozen? ⟨G r,c * 4,none⟩=false∧w.frozen? ⟨G r,c * 4+1,none⟩=false∧w.frozen? ⟨G r,c * 4+2,none⟩=false∧w.frozen? ⟨G r,c * 4+3,none⟩=false:=by
 obtain ⟨_,_,_,_,_,hf,_⟩:=(h.2.1 r hr).at_ (YD hc);exact hf
theorem Zgr.set_ {base:Nat} {w:World} {v:Value} {m n:Nat} {M:Nat→Nat→RF} {G C:Nat→Nat} (h:Zgr base w v m n M G C) {r c:Nat} (hr:r < m) (hc:c < n) {x y z u:Value} {q:RF} (hf:Zw w (.agg #[x,y,z,u]) q):
 Zgr base ((((w.setCell ⟨G r,c * 4,none⟩ x).setCell ⟨G r,c * 4+1,none⟩ y).setCell ⟨G r,c * 4+2,none⟩ z).setCell ⟨G r,c * 4+3,none⟩ u) v m n (Yjw M r c q) G C∧
 Zg 46 w ((((w.setCell ⟨G r,c * 4,none⟩ x).setCell ⟨G r,c * 4+1,none⟩ y).setCell ⟨G r,c * 4+2,none⟩ z).setCell ⟨G r,c * 4+3,none⟩ u):=by
 obtain ⟨hs,hk⟩:=ZU.set_ (h.2.1 r hr) (k:=c) (by rw [Zz];exact hc) hf;rw [Uw hc] at hs;refine ⟨⟨hk.own h.1 (by decide),fun s hs'=>?_,h.2.2⟩,hk⟩;by_cases e:s=r
 ·subst e;have:rfL n (Yjw M s c q s)=rfL n (fun i=>if i=c then q else M s i):=Wq fun i _=>by
   unfold Yjw;by_cases e:i=c
   ·rw [if_pos ⟨rfl,e⟩,if_pos e]
   ·rw [if_neg (by omega),if_neg e]
  rw [this];exact hs
 ·have:rfL n (Yjw M r c q s)=rfL n (M s):=Wq fun i _=>by unfold Yjw;rw [if_neg (by omega)]
  rw [this];refine (h.2.1 s hs').others YC (hk.keep (by decide)) fun b hb hne=>?_
  simp [X7,Value.ownBlock] at hb;injection hne with hne;exact e (h.2.2 s r hs' hr (by omega))
theorem Zgr.far {base:Nat} {w w':World} {v:Value} {m n:Nat} {M:Nat→Nat→RF} {G C:Nat→Nat} (h:Zgr base w v m n M G C) {g:Nat} (ho:Yi (some g) w w') (hk:Zg 46 w w') (hne:∀r,r < m→G r≠g):Zgr base w' v m n M G C:=
 ⟨hk.own h.1 (by decide),fun r hr=>(h.2.1 r hr).others ho (hk.keep (by decide)) fun b hb e=>by
  simp [X7,Value.ownBlock] at hb
  injection e with e
  exact hne r hr (by omega),h.2.2⟩
theorem Zgr.but {base:Nat} {w w':World} {v:Value} {m n:Nat} {M:Nat→Nat→RF} {G C:Nat→Nat} {e:TypeId} (h:Zgr base w v m n M G C) (hk:Zg e w w') (h1:23≠e) (h2:46≠e) (h3:148≠e):Zgr base w' v m n M G C:=
 ⟨hk.own h.1 h1,fun r hr=>(h.2.1 r hr).but hk h2 h3,h.2.2⟩
theorem Zgr.cellAt {base:Nat} {w:World} {m n:Nat} {M:Nat→Nat→RF} {G C:Nat→Nat} {g c:Nat} (h:Zgr base w (.slice (some ⟨g,0,none⟩) m c) m n M G C) {r:Nat} (hr:r < m):w.cell? ⟨g,r,none⟩=some (X7 n G C r)∧w.frozen? ⟨g,r,none⟩=false:=ZV h.1 (WQ hr)
namespace Pl
theorem zeroF_sm:zeroF.Sm:=(VL 1).sm (by decide)
theorem Zpd {es:List En} {i:Nat} (h:∀(k:Nat) (e:En),es[k]? =some e→e.idx≠(i:Int)) (f:Nat→Rat):dQ es f i=f i:=by
 induction es generalizing f with
 | nil=>rfl
 | cons e es ih=>
  rw [dQ,ih fun k d hd=>h (k+1) d (by simpa using hd)];rw [if_neg (h 0 e rfl)]
theorem Yjx {es:List En} (h:Inc none es) {k i:Nat} {e:En} (he:es[k]? =some e) (hi:e.idx=(i:Int)):Vj es i=e.f.q:=by
 have b:∀(es:List En) (p:Option Int) (f:Nat→Rat) (k:Nat),Inc p es→es[k]? =some e→dQ es f i=e.f.q:=by
  intro es
  induction es with
  | nil=>intro p f k _ hk;simp at hk
  | cons c es ih=>
   intro p f k a hk
   match k,hk with
   | 0,hk=>
    simp at hk;subst hk;rw [dQ,Zpd fun j d hd e2=>by
     have:=Zuk a 0 (j+1) c d (by omega) rfl (by simpa using hd);omega,if_pos hi]
   | k+1,hk=>rw [dQ];exact ih _ _ k a.2 (by simpa using hk)
 exact b es none _ k h he
end Pl
theorem Zaz (v:Value) (a:RF) (w:World) (h:Zw w v a) (hs:a.Sm):
 Calls Tryz.prog 132 #[v] w fun e w'=>∃v',e= .returned v'∧Zw w' v' (canF a.q)∧Below w.heap.size w w':=by
 obtain ⟨A,n,c,A',n',c',rfl,_,_⟩:=id h;obtain ⟨W,hW,_,hX,hR,f⟩:=Zjr w (.bool a.num.neg) (.slice A n c) (.bool a.den.neg) (.slice A' n' c') (.bool false) (.slice none 0 0) (.bool false) (.slice none 0 0);obtain ⟨p1,p2,p3,p4⟩:=hX.four;have e1:=h.below f;clear h;go_enter Tryz.func132,Tryz.ntmps132;go_wp2_with fail;clear hW;refine (Zas _ _ a zeroF _ e1 (Zw.zero _) hs zeroF_sm).mono ?_;rw [zeroF_q,Rat.add_zero];rintro _ w1 ⟨v1,rfl,e2,g⟩;obtain ⟨B,m,d,B',m',d',rfl,_,_⟩:=id e2;have b:=hR.later g;obtain ⟨c0,c1,c2,c3⟩:=b.four;obtain ⟨f0,f1,f2,f3⟩:=b.fourF;go_wp2;refine Zp Tryz.results132 Tryz.underlying46 (by kernel_rfl) rfl (b.set4 _ _ _ _) rfl ?_;exact Yk b e2 (Za f g f.size) (by omega)
theorem Xk (v:Value) (fs:List RF) (K:Nat) (w:World) (h:Y1 w v fs) (hl:fs.length≤4096) (hk:RsL K fs) (hK:K≤34359738368):
 Calls Tryz.prog 79 #[v] w fun e w'=>∃v',e= .returned (.tuple #[v',.int .i64 0])∧Zbz w.heap.size w' v' (spV (qAt fs) fs.length)∧Below w.heap.size w w':=by
 obtain ⟨A,c,rfl,P,R⟩:=h.shape;have H:=JZ h;have HK:=JZ hk;generalize hn:fs.length=n at *;have HN:=JZ hn;have N:(n:Int)≤4096:=by omega
 clear h hk hn;go_enter Tryz.func79,Tryz.ntmps79;go_wp2
 go_loopw [4,12] (fun u i wr=>∃k:Nat,k≤n∧i= .int .i64 k∧Zbz w.heap.size wr u (spV (qAt fs) k)∧Below w.heap.size w wr) (fun _ i _=>n - (intOf i).toNat)
 case atStart=>exact ⟨0,by omega,rfl,Zbz.nil _ _,JR _ _⟩
 case round=>
  obtain ⟨k,hk,rfl,hO,j⟩:=hrel;rcases JX k n with hkl | hkl
  ·obtain ⟨f,hf⟩:=ZH (fs:=fs) (i:=k) (by rw [HN.out];exact hkl);obtain ⟨b,S,A1,n1,k1,A2,n2,k2,rfl,T,⟨q0,q1,q2,q3⟩,E⟩:=H.out.elem j hf;have HQ:=JZ (ZF hf);have F:f.Sm:=(HK.out k f hf).sm hK;obtain ⟨W1,J,hX,o⟩:=YR wr (.bool f.num.neg) (.slice A1 n1 k1) (.bool f.den.neg) (.slice A2 n2 k2);have O:(k:Int) < n:=(by omega);have r:=E.below o;have x:=hO.below o;have g:=Za j o j.size;obtain ⟨x0,x1,x2,x3⟩:=hX.four;clear hf E hO j;go_wp2_with fail;clear J q0 q1 q2 q3;refine (ZA _ f _ r).mono ?_;rintro _ w2 ⟨rfl,m⟩;have y:=hX.later m;have s:=x.below m;have a:=Za g m g.size;have z:=r.below m;clear x0 x1 x2 x3 hX x g r m o;by_cases hq:f.q=0
   ·have G:(qs f.q !=0)=false:=(by rw [hq];decide);have HS:Hid (spV (qAt fs) (k+1)=spV (qAt fs) k):=JZ (XV (by rw [HQ.out];exact hq));clear hq;go_wp2;go_roundw
    case rel=>exact ⟨k+1,by omega,by go_num,by rw [HS.out];exact s,a⟩
    case measure=>simp [intOf];omega
   ·have G:(qs f.q !=0)=true:=(by simpa using fun e=>hq (Z5.1 e));have HS:Hid (spV (qAt fs) (k+1)=spV (qAt fs) k++[⟨(k:Int),canF f.q⟩]):=JZ (by rw [← HQ.out];exact Wo (by rw [HQ.out];exact hq));clear hq;obtain ⟨x0,x1,x2,x3⟩:=y.four;go_wp2_with fail;refine (Zaz _ f _ z F).mono ?_;rintro _ w3 ⟨v3,rfl,e3,t⟩;have C:=s.below t;have p:=Za a t a.size;obtain ⟨B,l,d,B',l',d',rfl,_,_⟩:=id e3;have HF:=JZ e3;have HO:=JZ C;have D:(spV (qAt fs) k).length+1≤1099511627776:=(by have:=Ua (f:=qAt fs) k;omega);have I:=p.size;clear s C a t e3 x0 x1 x2 x3 y z;generalize hQ:canF f.q=Q at *;go_wp2_with (at_builtin;refine Vx rfl (.tmp 20) (.tmp 25) rfl w3 w.heap.size u4 (spV (qAt fs) k) rfl HO.out _ _ B B' l d l' d' (k:Int) Q HF.out rfl D I ?_);intro v' w4 L U M;go_wp2;go_roundw
    case rel=>exact ⟨k+1,by omega,by go_num,by rw [HS.out];exact L,p.trans M⟩
    case measure=>simp [intOf];omega
  ·obtain rfl:k=n:=by omega
   go_wp2;go_ret2;exact ⟨_,rfl,hO,j⟩
namespace Pl
def Yaw (n i:Nat) (es:List En):List RF:=rfL n fun j=>if j < i then canF (Vj es j) else zeroF
theorem Yax (n:Nat) (es:List En):Yaw n 0 es=List.replicate n zeroF:=by
 refine List.ext_getElem? fun i=>?_
 rcases JX i n with e | e
 ·unfold Yaw;rw [YD e,List.getElem?_replicate,if_pos e,if_neg (by omega)]
 ·unfold Yaw;rw [JU (by rw [Zz];exact e),JU (by simpa using e)]
theorem Zir {n i:Nat} {es:List En} (hi:i < n):(Yaw n i es).set i (canF (Vj es i))=Yaw n (i+1) es:=by
 unfold Yaw;rw [Uw hi];exact Wq fun j _=>by
  by_cases e:j=i
  ·rw [if_pos e,if_pos (by omega),e]
  ·rw [if_neg e];by_cases g:j < i
   ·rw [if_pos g,if_pos (by omega)]
   ·rw [if_neg g,if_neg (by omega)]
theorem Yfg (n:Nat) (es:List En):Yaw n n es=ZQ n (Vj es):=by
 unfold Yaw;rw [← Zse];exact Wq fun j hj=>by rw [if_pos hj]
theorem Zcb (n i:Nat) (es:List En):(Yaw n i es).length=n:=Zz _ _
theorem Yfh {n i j:Nat} {es:List En} (h:j < n):(Yaw n i es)[j]? =some (if j < i then canF (Vj es j) else zeroF):=YD h
def Uc (es:List En) (i t:Nat):Prop:=t≤es.length∧∀(k:Nat) (e:En),es[k]? =some e→(k < t↔e.idx < (i:Int))
theorem Uc.zero {n:Nat} {es:List En} (h:Good n es):Uc es 0 0:=⟨Nat.zero_le _,fun k e he=>by have:=h.1 k e he;omega⟩
theorem Uc.hit {n i t:Nat} {es:List En} (g:Good n es) (h:Uc es i t) {e:En} (he:es[t]? =some e) (hi:e.idx=(i:Int)):Uc es (i+1) (t+1)∧Vj es i=e.f.q:=by
 have ht:t < es.length:=(List.getElem?_eq_some_iff.1 he).1;refine ⟨⟨by omega,fun k d hd=>?_⟩,Yjx g.2.1 he hi⟩;have h1:=h.2 k d hd;rcases Nat.lt_trichotomy k t with c | c | c
 ·have:=h1.1 c;omega
 ·subst c;rw [he] at hd;injection hd with hd;subst hd;omega
 ·have:=Zuk g.2.1 t k e d c he hd;omega
theorem Uc.miss {i t:Nat} {es:List En} (h:Uc es i t) (hm:∀e,es[t]? =some e→e.idx≠(i:Int)) (hinc:Inc none es):Uc es (i+1) t∧Vj es i=0:=by
 have a:∀(k:Nat) (d:En),es[k]? =some d→¬k < t→d.idx≠(i:Int):=fun k d hd hk e=>by
  rcases Nat.eq_or_lt_of_le (Nat.not_lt.1 hk) with c | c
  ·subst c;exact hm d hd e
  ·have ht:t < es.length:=(by have:=(List.getElem?_eq_some_iff.1 hd).1;omega);have h1:=Zuk hinc t k _ d c (JQ ht) hd;have h2:¬(es[t]'ht).idx < (i:Int):=fun q=>Nat.lt_irrefl t ((h.2 t _ (JQ ht)).2 q)
   have h3:=hm _ (JQ ht);omega
 refine ⟨⟨h.1,fun k d hd=>?_⟩,Zpd (fun k d hd=>?_) _⟩
 ·have h1:=h.2 k d hd;by_cases c:k < t
  ·have:=h1.1 c;omega
  ·have:=a k d hd c;omega
 ·by_cases c:k < t
  ·have:=(h.2 k d hd).1 c;omega
  ·exact a k d hd c
end Pl
theorem Vy (v:Value) (es:List En) (n K:Nat) (w:World) (h:V7 w v es) (hn:n≤4096) (hk:∀(k:Nat) (e:En),es[k]? =some e→e.f.Rs K) (hK:K≤34359738368) (hg:Pl.Good n es):
 Calls Tryz.prog 80 #[v,.int .i64 (n:Int)] w fun e w'=>∃v',e= .returned (.tuple #[v',.int .i64 0])∧ZU w.heap.size w' v' (ZQ n (Vj es))∧Below w.heap.size w w':=by
 obtain ⟨A,c,rfl,a1,a2⟩:=h.shape;have H:=JZ h;have HK:=JZ hk;have HG:=JZ hg;have HE:=JZ (hg.err hn);generalize hl:es.length=l at *;have HL:=JZ hl;have S:Hid (EnI es):=JZ fun k e he=>by have:=hg.1 k e he;omega
 have X:Hid (∀(k:Nat) (e:En),es[k]? =some e→e.idx=(e.idx.toNat:Int)∧e.idx < n):=JZ fun k e he=>by have:=hg.1 k e he;omega
 have Y:=XF n (by omega);clear hk hg hl;go_enter Tryz.func80,Tryz.ntmps80;go_wp2_with fail;refine (Wh _ es (n:Int) _ h S.out (by omega) (by omega)).mono ?_;rw [HE.out];rintro _ w1 ⟨rfl,M⟩;have F:=ZU.zeros w1 n (by unfold maxLen;omega);have G:=Zi w1 (.cells (zfc n) 46);rw [← Yax n es] at F;clear h;go_wp2;have N:=Za M G M.size;have E:=M.size;generalize w1.alloc (.cells (zfc n) 46)=W2 at *
 go_loopw [8,20] (fun x i wr=>∃k t:Nat,k≤n∧x= .int .i64 t∧i= .int .i64 k∧Below w.heap.size w wr∧Below w1.heap.size w1 wr∧Uc es k t∧ZU w1.heap.size wr (.slice (some ⟨w1.heap.size,0,none⟩) n n) (Yaw n k es)) (fun _ i _=>n - (intOf i).toNat)
 case atStart=>exact ⟨0,0,by omega,rfl,rfl,N,G,Uc.zero HG.out,F⟩
 case round=>
  clear N G F;obtain ⟨k,t,hk,rfl,rfl,j,a,J,hO⟩:=hrel;have I:=JZ J;have Z:t≤l:=by rw [← HL.out];exact J.1
  clear J;rcases JX k n with hkl | hkl
  ·have a0:(k:Int) < n:=(by omega);have y:=Yfh (n:=n) (i:=k) (es:=es) hkl;rcases JX t l with htl2 | htl2
   ·obtain ⟨e,he⟩:=Y3 (es:=es) (i:=t) (by rw [HL.out];exact htl2);obtain ⟨b,a3,A1,n1,k1,A2,n2,k2,rfl,a4,⟨x0,x1,x2,x3,x4⟩,L⟩:=H.out.elem j he;have T:(t:Int) < l:=(by omega);by_cases D:e.idx=(k:Int)
    ·obtain ⟨r,s⟩:=Uc.hit HG.out I.out he D;have z:=JZ r;have C:Hid (canF e.f.q=canF (Vj es k)):=JZ (by rw [s]);have U:e.f.Sm:=(HK.out t e he).sm hK;obtain ⟨ei,ef⟩:=e;simp only at *;subst D;clear he r s;go_wp2_with fail;refine (Zaz _ ef _ L U).mono ?_;rw [C.out];rintro _ w3 ⟨v3,rfl,e3,g⟩;obtain ⟨B,l9,d9,B',O,P,rfl,_,_⟩:=id e3;have m:=hO.below g;obtain ⟨_,_,_,_,⟨t0,t1,t2,t3⟩,⟨f0,f1,f2,f3⟩,_⟩:=m.at_ y;obtain ⟨u,R⟩:=m.set_ (k:=k) (by rw [Zcb];exact hkl) e3;rw [Zir hkl] at u;have o:=Zx (Za j g j.size) E (k * 4) (k * 4+1) (k * 4+2) (k * 4+3);have p:=Zx (Za a g a.size) (JY _) (k * 4) (k * 4+1) (k * 4+2) (k * 4+3);clear x0 x1 x2 x3 x4 L hO j a g;go_wp2;go_roundw
     case rel=>exact ⟨k+1,t+1,by omega,by go_num,by go_num,o _ _ _ _,p _ _ _ _,z.out,u⟩
     case measure=>simp [intOf];omega
    ·obtain ⟨r,s⟩:=Uc.miss I.out (fun d hd=>by rw [he] at hd;injection hd with hd;subst hd;exact D) HG.out.2.1;have z:=JZ r;have C:Hid (canF zeroF.q=canF (Vj es k)):=JZ (by rw [s,zeroF_q]);obtain ⟨ei,ef⟩:=e;simp only at *;have V:(ei==(k:Int))=false:=(by simpa using D);clear he r s D;go_wp2_with fail;refine (Zaz _ zeroF _ (Zw.zero _) zeroF_sm).mono ?_;rw [C.out];rintro _ w3 ⟨v3,rfl,e3,g⟩;obtain ⟨B,l9,d9,B',O,P,rfl,_,_⟩:=id e3;have m:=hO.below g;obtain ⟨_,_,_,_,⟨t0,t1,t2,t3⟩,⟨f0,f1,f2,f3⟩,_⟩:=m.at_ y;obtain ⟨u,R⟩:=m.set_ (k:=k) (by rw [Zcb];exact hkl) e3;rw [Zir hkl] at u;have o:=Zx (Za j g j.size) E (k * 4) (k * 4+1) (k * 4+2) (k * 4+3);have p:=Zx (Za a g a.size) (JY _) (k * 4) (k * 4+1) (k * 4+2) (k * 4+3);clear x0 x1 x2 x3 x4 L hO j a g;go_wp2;go_roundw
     case rel=>exact ⟨k+1,t,by omega,rfl,by go_num,o _ _ _ _,p _ _ _ _,z.out,u⟩
     case measure=>simp [intOf];omega
   ·obtain ⟨r,s⟩:=Uc.miss I.out (fun d hd=>by have:=(List.getElem?_eq_some_iff.1 hd).1;have:=HL.out;omega) HG.out.2.1;have z:=JZ r;have C:Hid (canF zeroF.q=canF (Vj es k)):=JZ (by rw [s,zeroF_q]);have T:(l:Int)≤t:=(by omega);clear r s;go_wp2_with fail;refine (Zaz _ zeroF _ (Zw.zero _) zeroF_sm).mono ?_;rw [C.out];rintro _ w3 ⟨v3,rfl,e3,g⟩;obtain ⟨B,l9,d9,B',O,P,rfl,_,_⟩:=id e3;have m:=hO.below g;obtain ⟨_,_,_,_,⟨t0,t1,t2,t3⟩,⟨f0,f1,f2,f3⟩,_⟩:=m.at_ y;obtain ⟨u,R⟩:=m.set_ (k:=k) (by rw [Zcb];exact hkl) e3;rw [Zir hkl] at u;have o:=Zx (Za j g j.size) E (k * 4) (k * 4+1) (k * 4+2) (k * 4+3);have p:=Zx (Za a g a.size) (JY _) (k * 4) (k * 4+1) (k * 4+2) (k * 4+3);clear hO j a g;go_wp2;go_roundw
    case rel=>exact ⟨k+1,t,by omega,rfl,by go_num,o _ _ _ _,p _ _ _ _,z.out,u⟩
    case measure=>simp [intOf];omega
  ·obtain rfl:n=k:=by omega
   rw [Yfg] at hO;go_wp2;go_ret2;exact ⟨_,rfl,hO.monoB E,j⟩
def Yba (cs:List Value) (j:Nat) (t x y z u:Value):List Value:=((((cs.set j t).set (j+1) x).set (j+2) y).set (j+3) z).set (j+4) u
theorem EnC.set_ {w:World} {cs:List Value} {es:List En} (h:EnC w cs es) {k:Nat} (hk:k < es.length) {x y z u:Value} {e:En} (hf:Zw w (.agg #[x,y,z,u]) e.f):EnC w (Yba cs (k * 5) (.int .i64 e.idx) x y z u) (es.set k e):=by
 have hl:=h.1;refine ⟨by simp [Yba,hl],fun j g hg=>?_⟩;by_cases a:j=k
 ·subst a;rw [List.getElem?_set_self hk] at hg;injection hg with hg;subst hg;refine ⟨x,y,z,u,?_,?_,?_,?_,?_,hf⟩ <;> unfold Yba
  ·rw [List.getElem?_set_ne (by omega),List.getElem?_set_ne (by omega),List.getElem?_set_ne (by omega),List.getElem?_set_ne (by omega),List.getElem?_set_self (by omega)]
  ·rw [List.getElem?_set_ne (by omega),List.getElem?_set_ne (by omega),List.getElem?_set_ne (by omega),List.getElem?_set_self (by simp;omega)]
  ·rw [List.getElem?_set_ne (by omega),List.getElem?_set_ne (by omega),List.getElem?_set_self (by simp;omega)]
  ·rw [List.getElem?_set_ne (by omega),List.getElem?_set_self (by simp;omega)]
  ·rw [List.getElem?_set_self (by simp;omega)]
 ·rw [List.getElem?_set_ne (Ne.symm a)] at hg;obtain ⟨x',y',z',u',h0,h1,h2,h3,h4,h5⟩:=h.2 j g hg;refine ⟨x',y',z',u',?_,?_,?_,?_,?_,h5⟩ <;> unfold Yba <;> rw [List.getElem?_set_ne (by omega),List.getElem?_set_ne (by omega),List.getElem?_set_ne (by omega),List.getElem?_set_ne (by omega),List.getElem?_set_ne (by omega)] <;> assumption
theorem Zbz.at_ {base:Nat} {w:World} {g n c:Nat} {es:List En} (h:Zbz base w (.slice (some ⟨g,0,none⟩) n c) es) {k:Nat} {e:En} (he:es[k]? =some e):
 ∃x y z u,(w.cell? ⟨g,k * 5,none⟩=some (.int .i64 e.idx)∧w.cell? ⟨g,k * 5+1,none⟩=some x∧w.cell? ⟨g,k * 5+2,none⟩=some y∧w.cell? ⟨g,k * 5+3,none⟩=some z∧w.cell? ⟨g,k * 5+4,none⟩=some u)∧(w.frozen? ⟨g,k * 5,none⟩=false∧w.frozen? ⟨g,k * 5+1,none⟩=false∧w.frozen? ⟨g,k * 5+2,none⟩=false∧w.frozen? ⟨g,k * 5+3,none⟩=false∧w.frozen? ⟨g,k * 5+4,none⟩=false)∧Zw w (.agg #[x,y,z,u]) e.f:=by
 obtain ⟨cs,h1,h2⟩:=h;have hn:n=es.length:=(UD.of_own h1).len;subst hn;obtain ⟨x,y,z,u,c0,c1,c2,c3,c4,hm⟩:=h2.2 k e he;exact ⟨x,y,z,u,⟨(ZV h1 c0).1,(ZV h1 c1).1,(ZV h1 c2).1,(ZV h1 c3).1,(ZV h1 c4).1⟩,⟨(ZV h1 c0).2,(ZV h1 c1).2,(ZV h1 c2).2,(ZV h1 c3).2,(ZV h1 c4).2⟩,hm⟩
theorem Zbz.set_ {base:Nat} {w:World} {g n c:Nat} {es:List En} (h:Zbz base w (.slice (some ⟨g,0,none⟩) n c) es) {k:Nat} (hk:k < es.length) {x y z u:Value} {e:En} (hf:Zw w (.agg #[x,y,z,u]) e.f):
 Zbz base (((((w.setCell ⟨g,k * 5,none⟩ (.int .i64 e.idx)).setCell ⟨g,k * 5+1,none⟩ x).setCell ⟨g,k * 5+2,none⟩ y).setCell ⟨g,k * 5+3,none⟩ z).setCell ⟨g,k * 5+4,none⟩ u) (.slice (some ⟨g,0,none⟩) n c) (es.set k e)∧
 Zg 83 w (((((w.setCell ⟨g,k * 5,none⟩ (.int .i64 e.idx)).setCell ⟨g,k * 5+1,none⟩ x).setCell ⟨g,k * 5+2,none⟩ y).setCell ⟨g,k * 5+3,none⟩ z).setCell ⟨g,k * 5+4,none⟩ u):=by
 obtain ⟨cs,h1,h2⟩:=h;have hn:n=es.length:=(UD.of_own h1).len;subst hn;have hl:=h2.1;have o1:=XC h1 (k * 5) (.int .i64 e.idx) (by omega);have o2:=XC o1 (k * 5+1) x (by simp;omega);have o3:=XC o2 (k * 5+2) y (by simp;omega);have o4:=XC o3 (k * 5+3) z (by simp;omega);have o5:=XC o4 (k * 5+4) u (by simp;omega);obtain ⟨_,b0,_⟩:=Ye h1;obtain ⟨_,b1,_⟩:=Ye o1;obtain ⟨_,b2,_⟩:=Ye o2;obtain ⟨_,b3,_⟩:=Ye o3;obtain ⟨_,b4,_⟩:=Ye o4;have kp:=((((Zg.setCell b0 (k * 5) (.int .i64 e.idx)).trans (Zg.setCell b1 (k * 5+1) x)).trans (Zg.setCell b2 (k * 5+2) y)).trans (Zg.setCell b3 (k * 5+3) z)).trans (Zg.setCell b4 (k * 5+4) u);have kd:=kp.keep (by decide);refine ⟨⟨Yba cs (k * 5) (.int .i64 e.idx) x y z u,by rw [List.length_set];exact o5,?_⟩,kp⟩;exact (h2.keep kd).set_ hk (hf.keep kd)
def zec (n:Nat):Array Value:=madeCells (Value.cells (.agg #[.int .i64 0,.bool false,.slice none 0 0,.bool false,.slice none 0 0])) (n * 5)
theorem Zpg {n k j:Nat} (hk:k < n) (hj:j < 5):(zec n)[k * 5+j]? =([.int .i64 0,.bool false,.slice none 0 0,.bool false,.slice none 0 0]:List Value)[j]? :=by
 have a:k * 5+j < n * 5:=by omega
 have hm:(k * 5+j) % 5=j:=by omega
 unfold zec madeCells;simp [a,Value.cells,hm]
 match j,hj with
 | 0,_=>rfl
 | 1,_=>rfl
 | 2,_=>rfl
 | 3,_=>rfl
 | 4,_=>rfl
theorem Zbz.zeros (w:World) (n:Nat) (hn:n≤maxLen):Zbz w.heap.size (w.alloc (.cells (zec n) 83)) (.slice (some ⟨w.heap.size,0,none⟩) n n) (List.replicate n ⟨0,zeroF⟩):=by
 have a:(zec n).size=n * 5:=size_madeCells _ _;refine ⟨(zec n).toList,⟨by simp [a],.inr ⟨w.heap.size,n,zec n,by simp,JY _,heap_alloc_new w _,by simp,hn,a,?_⟩⟩,by simp [a],fun k f hf=>?_⟩
 ·rw [List.take_of_length_le (by simp [a])]
 ·rw [List.getElem?_replicate] at hf;split at hf
  ·rename_i hk
   injection hf with hf;subst hf;refine ⟨_,_,_,_,?_,?_,?_,?_,?_,Zw.zero _⟩
   ·have:=Zpg (j:=0) hk (by decide);simpa using this
   ·have:=Zpg (j:=1) hk (by decide);simpa using this
   ·have:=Zpg (j:=2) hk (by decide);simpa using this
   ·have:=Zpg (j:=3) hk (by decide);simpa using this
   ·have:=Zpg (j:=4) hk (by decide);simpa using this
  ·cases hf
theorem Zxh (n:Nat) (hn:n≤1099511627776) (w:World):
 (Instr.makeSlice 66 (.int .i64 (n:Int)) (.int .i64 (n:Int))).run Tryz.prog w= .ok (.slice (some ⟨w.heap.size,0,none⟩) n n) (w.alloc (.cells (zec n) 83)):=by
 obtain ⟨i0,hi,a,b,c⟩:=info_parts info_entry;have hb:(i0.bytes:Int) * (n:Int)≤281474976710656:=by rw [c];omega
 have hr:=run_make (P:=Tryz.prog) w 66 83 i0 _ Tryz.underlying66 hi a .i64 .i64 n n (by omega) (by omega) hb (by omega);simp only [JP,b] at hr;exact hr
namespace Pl
def Zxi (es:List En):List En:=es.map fun e=>⟨e.idx,canF e.f.q⟩
def Zph (es:List En):Nat→List En
 | 0=>List.replicate es.length ⟨0,zeroF⟩
 | k+1=>match es[k]? with
  | some e=>(Zph es k).set k ⟨e.idx,canF e.f.q⟩
  | none=>Zph es k
theorem Ybb {es:List En} {k:Nat} {e:En} (h:es[k]? =some e):Zph es (k+1)=(Zph es k).set k ⟨e.idx,canF e.f.q⟩:=by
 conv=>lhs;unfold Zph
 simp only [h]
theorem Uy (es:List En):∀k,(Zph es k).length=es.length
 | 0=>by simp [Zph]
 | k+1=>by
  have ih:=Uy es k
  unfold Zph
  split
  ·rw [List.length_set];exact ih
  ·exact ih
theorem Zmw (es:List En) (i:Nat):∀k,i < k→(Zph es k)[i]? =(Zxi es)[i]?
 | 0,h=>absurd h (Nat.not_lt_zero _)
 | k+1,h=>by
  have hl:=Uy es k
  unfold Zph
  split
  ·rename_i e he
   have hk:=(List.getElem?_eq_some_iff.1 he).1
   rw [List.getElem?_set]
   by_cases c:k=i
   ·subst c;rw [if_pos rfl,if_pos (by omega),Zxi,List.getElem?_map,he];rfl
   ·rw [if_neg c];exact Zmw es i k (by omega)
  ·rename_i he
   have hk:=List.getElem?_eq_none_iff.1 he
   by_cases c:k=i
   ·subst c;rw [JU (by omega),JU (by simp [Zxi];omega)]
   ·exact Zmw es i k (by omega)
theorem Yfi (es:List En):Zph es es.length=Zxi es:=by
 refine List.ext_getElem? fun i=>?_
 by_cases c:i < es.length
 ·exact Zmw es i _ c
 ·rw [JU (by rw [Uy];omega),JU (by simp [Zxi];omega)]
end Pl
theorem Zxj {n g:Nat} {w w':World} (h:Below n w w') (hg:n≤g) (i j k l m:Nat) (t x y z u:Value):Below n w (((((w'.setCell ⟨g,i,none⟩ t).setCell ⟨g,j,none⟩ x).setCell ⟨g,k,none⟩ y).setCell ⟨g,l,none⟩ z).setCell ⟨g,m,none⟩ u):=((((h.setCell hg _).setCell hg _).setCell hg _).setCell hg _).setCell hg _
theorem Zjx (vb:Value) (es:List En) (K:Nat) (w:World) (h2:V7 w vb es) (ha:∀(k:Nat) (e:En),es[k]? =some e→e.f.Rs K) (hK:K≤34359738368) (hlen:es.length≤1099511627776):
 Calls Tryz.prog 138 #[vb] w fun o w'=>∃v',o= .returned v'∧Zbz w.heap.size w' v' (Zxi es)∧Below w.heap.size w w':=by
 obtain ⟨A,c,rfl,L,M⟩:=h2.shape;generalize hn:es.length=l at *;have HN:=JZ hn;have HA:=JZ ha;have H2:=JZ h2;have x:Hid (Zph es l=Zxi es):=JZ (by rw [← hn];exact Yfi es);have I:=Zxh l hlen;have n:=Zbz.zeros w l (by unfold maxLen;omega);have p:=Zi w (.cells (zec l) 83);have HO:Hid (Zbz w.heap.size (w.alloc (.cells (zec l) 83)) (.slice (some ⟨w.heap.size,0,none⟩) l l) (Zph es 0)):=JZ (by unfold Zph;rw [hn];exact n);clear hn ha h2 n;go_enter Tryz.func138,Tryz.ntmps138;go_wp2;generalize w.alloc (.cells (zec l) 83)=W at *
 go_loopw [11] (fun i wr=>∃k:Nat,k≤l∧i= .int .i64 k∧Zbz w.heap.size wr (.slice (some ⟨w.heap.size,0,none⟩) l l) (Zph es k)∧Below w.heap.size w wr) (fun i _=>l - (intOf i).toNat)
 case atStart=>exact ⟨0,by omega,rfl,HO.out,p⟩
 case round=>
  clear p;obtain ⟨k,hk,rfl,hO,a⟩:=hrel;rcases JX k l with hkl | hkl
  ·obtain ⟨e,he⟩:=Y3 (es:=es) (i:=k) (by rw [HN.out];exact hkl);obtain ⟨b,N,A1,n1,k1,A2,n2,k2,rfl,O,⟨x0,x1,x2,x3,x4⟩,u⟩:=H2.out.elem a he;have r:k < (Zph es k).length:=(by rw [Uy,HN.out];exact hkl);obtain ⟨fj,D⟩:=Y3 (es:=Zph es k) (i:=k) r;have y:=JZ (Ybb he);have d:=HA.out k e he;obtain ⟨ei,f⟩:=e;simp only at *;have z:=d.sm hK;have HV:Hid (f.q+zeroF.q=f.q):=JZ (by rw [zeroF_q];grind);obtain ⟨W1,F,hV,m⟩:=Zdo wr (.int .i64 ei) (.bool f.num.neg) (.slice A1 n1 k1) (.bool f.den.neg) (.slice A2 n2 k2);have B:=hO.below m;have C:=u.below m;have g:=Za a m a.size;obtain ⟨v0,v1,v2,v3,v4⟩:=hV.five;have J:(k:Int) < l:=(by omega);clear he hO a u d
   go_upto_region 5 with (fail)
   clear F;have D0:=Zl v0;have D1:=Zl v1;have D2:=Zl v2;have D3:=Zl v3;have D4:=Zl v4;have h:=Zj W1;clear v0 v1 v2 v3 v4 x0 x1 x2 x3 x4;refine Zn 10 [0,1,2,3,4,5,6,7,8,9,10] (by kernel_rfl) (by kernel_rfl) ?_;repeat ((first|(first|refine Zb (v:=?_) rfl rfl rfl ?_ ?_ |refine Zd (v:=?_) rfl rfl rfl ?_ ?_);rotate_left;·(intro _ _;go_simp;(try go_bits);(try with_reducible rfl))|refine Ze rfl rfl rfl ?_);(try simp only [pu]))
   refine Zf rfl rfl (fun _ kq=>?_);go_simp;(with_reducible refine (Zas _ _ f zeroF _ (C.below h) (Zw.zero _) z zeroF_sm).mono ?_);rw [HV.out];rintro _ w7 ⟨v7,rfl,e7,G⟩;have j:=Za h G h.size;obtain ⟨E,l9,k9,E',P,R,rfl,_,_⟩:=id e7;have s:=B.below j;obtain ⟨_,_,_,_,⟨c0,c1,c2,c3,c4⟩,⟨f0,f1,f2,f3,f4⟩,_⟩:=s.at_ D;refine kq.out _ _ (.inr j) ?_;clear kq;(try simp only [pu]);repeat ((first|(first|refine Zb (v:=?_) rfl rfl rfl ?_ ?_ |refine Zd (v:=?_) rfl rfl rfl ?_ ?_);rotate_left;·(intro _ _;go_simp;(try go_bits);(try with_reducible rfl))|refine Ze rfl rfl rfl ?_);(try simp only [pu]))
   refine Zf rfl rfl (fun _ kq=>?_);go_simp;refine kq.out _ _ (.inl (by decide)) ?_;clear kq;(try simp only [pu]);refine Zv ?_;clear D0 D1 D2 D3 D4;obtain ⟨v,H⟩:=s.set_ (e:=⟨ei,canF f.q⟩) r e7;have t:=Zxj (Za g j g.size) (JY _) (k * 5) (k * 5+1) (k * 5+2) (k * 5+3) (k * 5+4);rw [← y.out] at v;go_wp2;go_roundw
   case rel=>exact ⟨k+1,by omega,by go_num,v,t _ _ _ _ _⟩
   case measure=>simp [intOf];omega
  ·obtain rfl:k=l:=by omega
   rw [x.out] at hO;go_wp2;go_ret;exact ⟨_,rfl,hO,a⟩
theorem Zkz {base:Nat} {w w':World} {g:Option Nat} {t:TypeId} {s n:Nat} {v:Value} {xs:List Value} (h:w.ownsRow base t s v n xs) (ho:Yi g w w') (hne:∀b,v.ownBlock=some b→some b≠g):w'.ownsRow base t s v n xs:=by
 refine ⟨h.1,?_⟩;rcases h.2 with hn | ⟨g',cap,cur,rfl,hb',hgg,rest⟩
 ·exact .inl hn
 ·exact .inr ⟨g',cap,cur,rfl,hb',(ho.2 g' (YA hgg) (hne g' (by simp [Value.ownBlock]))).trans hgg,rest⟩
theorem Zci {base:Nat} {w:World} {t:TypeId} {s n:Nat} {v:Value} {xs:List Value} (h:w.ownsRow base t s v n xs):∀g,v.ownBlock=some g→g < w.heap.size:=by
 intro g hg;rcases h.2 with ⟨rfl,_⟩ | ⟨g',cap,cur,rfl,_,hgg,_⟩
 ·simp [Value.ownBlock] at hg
 ·simp [Value.ownBlock] at hg;subst hg;exact YA hgg
section
section
variable {md:Region.Mode} {ops:Array Oper} {n:Nat} {K:Array Bool→Bool}
def setL (L:Array Bool) (D:List Nat):Array Bool:=D.foldl (fun L i=>L.setIfInBounds i true) L
end
end
end Go.Proofs.YtgbhebappffbdaaGreat
