/- Lemmas of the claim; no condition. -/
import Derived.ChangeArms
import Derived.WideShapes
import Derived.Test.YtidgdpkcloaheaaGreatQ15
set_option linter.all false
set_option maxRecDepth 100000
set_option maxHeartbeats 40000000
namespace Go.Proofs.YtidgdpkcloaheaaGreat
open Go.RowKit
open Pl
attribute [local go_sem ↓] Go.wp_at_zero Go.wp_at_succ
def ShH (f:RF):Prop:=(Zi (val f.num.ds)).length≤8589934592∧(Zi (val f.den.ds)).length≤8589934592
theorem ShH.sz {f:RF} (h:ShH f):Sz 8589934592 f.q:=XY (by rw [Zz];exact h.1) (by rw [Zz];exact h.2) (by decide)
def Zgl (a b:RF):Bool:=VZ a.num b.num && VZ a.den b.den
theorem Ztj {a b:RF} (h:VZ a.num b.num=true):Zgl a b=VZ a.den b.den:=by simp [Zgl,h]
theorem Ztk {a b:RF} (h:VZ a.num b.num=false):Zgl a b=false:=by simp [Zgl,h]
theorem Zjr (a:RF):Zgl a a=true:=by simp [Zgl,VZ]
namespace Pl
def RF.Rs (k:Nat) (f:RF):Prop:=(Zi (val f.num.ds)).length≤k∧(Zi (val f.den.ds)).length≤k
theorem RF.Rs.mono {j k:Nat} {f:RF} (h:f.Rs j) (hk:j≤k):f.Rs k:=⟨JW h.1 hk,JW h.2 hk⟩
theorem RF.Rs.sh {k:Nat} {f:RF} (h:f.Rs k) (hk:k≤34359738368):f.Sh:=h.mono hk
theorem RF.Rs.sm {k:Nat} {f:RF} (h:f.Rs k) (hk:k≤34359738368):f.Sm:=(h.sh hk).sm
theorem Sz.rs {k:Nat} {q:Rat} (h:Sz k q):(canF q).Rs k:=by
 unfold RF.Rs canF;simp only [Yk];exact h
theorem RF.Rs.sz {k:Nat} {f:RF} (h:f.Rs k) (hk:1≤k):Sz k f.q:=XY (by rw [Zz];exact h.1) (by rw [Zz];exact h.2) hk
def qAt (fs:List RF) (i:Nat):Rat:=match fs[i]? with | some f=>f.q | none=>0
theorem UW {fs:List RF} {i:Nat} {f:RF} (h:fs[i]? =some f):qAt fs i=f.q:=by simp [qAt,h]
def Z6 (f:Nat→Rat):Nat→Rat
 | 0=>0
 | n+1=>Z6 f n+f n
theorem Y4 (f:Nat→Rat):Z6 f 0=0:=rfl
theorem ZF (f:Nat→Rat) (n:Nat):Z6 f (n+1)=Z6 f n+f n:=rfl
theorem Zp {f g:Nat→Rat} {n:Nat} (h:∀i,i < n→f i=g i):Z6 f n=Z6 g n:=by
 induction n with
 | zero=>rfl
 | succ n ih=>rw [ZF,ZF,ih (fun i hi=>h i (by omega)),h n (by omega)]
theorem Zvg {f:Nat→Rat} {K n:Nat} (h:∀i,i < n→Sz K (f i)):Sz (1+n * (K+1)) (Z6 f n):=by
 induction n with
 | zero=>exact Sz_zero.mono (by omega)
 | succ n ih=>
  rw [ZF];exact (Zrw (ih fun i hi=>h i (by omega)) (h n (by omega))).mono (by rw [Nat.add_mul n 1];omega)
def RsL (k:Nat) (fs:List RF):Prop:=∀(i:Nat) (f:RF),fs[i]? =some f→f.Rs k
theorem RsL.qAt {k:Nat} {fs:List RF} (h:RsL k fs) (hk:1≤k) (i:Nat):Sz k (qAt fs i):=by
 unfold Pl.qAt;split
 ·rename_i f hf;exact (h i f hf).sz hk
 ·exact Sz_zero.mono hk
theorem Yz {q:Rat}:qs q=0↔q=0:=by
 unfold qs;rw [Wj];exact Rat.num_eq_zero
theorem Zcs {fs:List RF} {i:Nat} (h:i < fs.length):∃f,fs[i]? =some f:=⟨fs[i],JQ h⟩
end Pl
theorem Zgm {w w':World} {b o:Nat} {x y z u:Value} (hb:Below w.heap.size w w') (h:w.cell? ⟨b,o,none⟩=some x∧w.cell? ⟨b,o+1,none⟩=some y∧w.cell? ⟨b,o+2,none⟩=some z∧w.cell? ⟨b,o+3,none⟩=some u):
 w'.cell? ⟨b,o,none⟩=some x∧w'.cell? ⟨b,o+1,none⟩=some y∧w'.cell? ⟨b,o+2,none⟩=some z∧w'.cell? ⟨b,o+3,none⟩=some u:=
 ⟨ZH hb h.1,ZH hb h.2.1,ZH hb h.2.2.1,ZH hb h.2.2.2⟩
theorem Zbn.elem [Old] {w wr:World} {A:Option Addr} {n c:Nat} {fs:List RF} (h:Zbn w (.slice A n c) fs) (hb:Below w.heap.size w wr) {k:Nat} {f:RF} (hf:fs[k]? =some f):
 ∃b off A1 n1 c1 A2 n2 c2,A=some ⟨b,off,none⟩∧b < w.heap.size∧(wr.cell? ⟨b,off+k * 4,none⟩=some (.bool f.num.neg)∧wr.cell? ⟨b,off+k * 4+1,none⟩=some (.slice A1 n1 c1)∧wr.cell? ⟨b,off+k * 4+2,none⟩=some (.bool f.den.neg)∧wr.cell? ⟨b,off+k * 4+3,none⟩=some (.slice A2 n2 c2))∧
  Zm wr (.agg #[.bool f.num.neg,.slice A1 n1 c1,.bool f.den.neg,.slice A2 n2 c2]) f:=by
 obtain ⟨b,off,x,y,z,u,hA,a,c1,c2,c3,c4,hm⟩:=h.at_ hf;obtain ⟨A1,n1,k1,A2,n2,k2,hv,d1,d2⟩:=id hm;simp at hv;obtain ⟨rfl,rfl,rfl,rfl⟩:=hv;exact ⟨b,off,A1,n1,k1,A2,n2,k2,hA,a,Zgm hb ⟨c1,c2,c3,c4⟩,hm.below hb⟩
section
namespace Pl
structure En where
 idx:Int
 f:RF
structure LPd where
 cost:List RF
 cols:List (List En)
 right:List RF
def leP (p:Option Int) (i:Int):Bool:=match p with | some j=>decide (i≤j) | none=>false
def Vw (n:Int):List En→Option Int→Int
 | [],_=>0
 | e::es,p=>if e.idx < 0∨n≤e.idx then 5 else if leP p e.idx=true then 8 else if e.f.q=0 then 11 else Vw n es (some e.idx)
def vecErr (es:List En) (n:Int):Int:=if n < 0∨4096 < n then 5 else Vw n es none
def Xa (es:List En) (k:Nat):Option Int:=match k with | 0=>none | k+1=>(es[k]?).map (·.idx)
theorem V6 {n:Int} {es:List En} {k:Nat} {e:En} (h:es[k]? =some e):
 Vw n (es.drop k) (Xa es k)=if e.idx < 0∨n≤e.idx then 5 else if leP (Xa es k) e.idx=true then 8 else if e.f.q=0 then 11 else Vw n (es.drop (k+1)) (Xa es (k+1)):=by
 have hk:k < es.length:=(List.getElem?_eq_some_iff.1 h).1;have he:es[k]=e:=(List.getElem?_eq_some_iff.1 h).2;rw [List.drop_eq_getElem_cons hk,he,Vw];rw [show Xa es (k+1)=some e.idx from by simp [Xa,h]]
theorem Zib {n:Int} {es:List En} {k:Nat} (h:es.length≤k):Vw n (es.drop k) (Xa es k)=0:=by
 rw [List.drop_eq_nil_of_le h,Vw]
def YH (n:Int):List (List En)→Int
 | []=>0
 | c::cs=>if vecErr c n=0 then YH n cs else vecErr c n
theorem Zep {n:Int} {cs:List (List En)} {k:Nat} {c:List En} (h:cs[k]? =some c):YH n (cs.drop k)=if vecErr c n=0 then YH n (cs.drop (k+1)) else vecErr c n:=by
 have hk:k < cs.length:=(List.getElem?_eq_some_iff.1 h).1;have he:cs[k]=c:=(List.getElem?_eq_some_iff.1 h).2;rw [List.drop_eq_getElem_cons hk,he,YH]
theorem Zgn {n:Int} {cs:List (List En)} {k:Nat} (h:cs.length≤k):YH n (cs.drop k)=0:=by
 rw [List.drop_eq_nil_of_le h,YH]
theorem Zjt (n:Int) (p:Option Int) (es:List En):Vw n es p=0∨Vw n es p=5∨Vw n es p=8∨Vw n es p=11:=by
 induction es generalizing p with
 | nil=>left;rfl
 | cons e es ih=>
  rw [Vw];split
  ·simp
  ·split
   ·simp
   ·split
    ·simp
    ·exact ih _
theorem Zmr (es:List En) (n:Int):0≤vecErr es n∧vecErr es n≤11:=by
 unfold vecErr;split
 ·omega
 ·rcases Zjt n none es with h | h | h | h <;> omega
end Pl
def EnC [Old] (w:World) (cs:List Value) (es:List En):Prop:=
 cs.length=es.length * 5∧∀k e,es[k]? =some e→∃x y z u,cs[k * 5]? =some (.int .i64 e.idx)∧cs[k * 5+1]? =some x∧cs[k * 5+2]? =some y∧cs[k * 5+3]? =some z∧cs[k * 5+4]? =some u∧Zm w (.agg #[x,y,z,u]) e.f
theorem EnC.keep [Old] {w w':World} {cs:List Value} {es:List En} (h:EnC w cs es) (hk:ZE w w'):EnC w' cs es:=
 ⟨h.1,fun k f hf=>by
  obtain ⟨x,y,z,u,h0,h1,h2,h3,h4,h5⟩:=h.2 k f hf
  exact ⟨x,y,z,u,h0,h1,h2,h3,h4,h5.keep hk⟩⟩
theorem EnC.nil [Old] (w:World):EnC w [] []:=⟨rfl,fun k f h=>by simp at h⟩
theorem EnC.snoc [Old] {w:World} {cs:List Value} {es:List En} (h:EnC w cs es) {x y z u:Value} {e:En} (hf:Zm w (.agg #[x,y,z,u]) e.f):EnC w (cs++[.int .i64 e.idx,x,y,z,u]) (es++[e]):=by
 refine ⟨by simp [h.1];omega,fun k g hg=>?_⟩;have hl:=h.1;rcases JX k es.length with hk | hk
 ·rw [List.getElem?_append_left hk] at hg;obtain ⟨x',y',z',u',h0,h1,h2,h3,h4,h5⟩:=h.2 k g hg;refine ⟨x',y',z',u',?_,?_,?_,?_,?_,h5⟩
  ·rw [List.getElem?_append_left (by omega)];exact h0
  ·rw [List.getElem?_append_left (by omega)];exact h1
  ·rw [List.getElem?_append_left (by omega)];exact h2
  ·rw [List.getElem?_append_left (by omega)];exact h3
  ·rw [List.getElem?_append_left (by omega)];exact h4
 ·rw [List.getElem?_append_right hk] at hg;have a:k - es.length=0:=by
   rcases JV (k - es.length) with e | e
   ·exact e
   ·rw [JU (by simp;omega)] at hg;cases hg
  rw [a] at hg;simp at hg;subst hg;obtain rfl:k=es.length:=by omega
  refine ⟨x,y,z,u,?_,?_,?_,?_,?_,hf⟩
  ·rw [List.getElem?_append_right (by omega),show es.length * 5 - cs.length=0 by omega];rfl
  ·rw [List.getElem?_append_right (by omega),show es.length * 5+1 - cs.length=1 by omega];rfl
  ·rw [List.getElem?_append_right (by omega),show es.length * 5+2 - cs.length=2 by omega];rfl
  ·rw [List.getElem?_append_right (by omega),show es.length * 5+3 - cs.length=3 by omega];rfl
  ·rw [List.getElem?_append_right (by omega),show es.length * 5+4 - cs.length=4 by omega];rfl
def Wy [Old] (w:World) (v:Value) (es:List En):Prop:=∃cs,X9 w 39 5 v es.length cs∧EnC w cs es
theorem Wy.below [Old] {w w':World} {v:Value} {es:List En} (h:Wy w v es) (hb:Below w.heap.size w w'):Wy w' v es:=by
 obtain ⟨cs,h1,h2⟩:=h;exact ⟨cs,h1.below hb,h2.keep (ZE.of_below hb)⟩
theorem Wy.but [Old] {w w':World} {e:TypeId} {v:Value} {es:List En} (h:Wy w v es) (hk:Zk e w w') (h1:39≠e) (h2:106≠e):Wy w' v es:=by
 obtain ⟨cs,g1,g2⟩:=h;exact ⟨cs,hk.row g1 h1,g2.keep (hk.keep h2)⟩
theorem YL.but [Old] {base:Nat} {w w':World} {e:TypeId} {v:Value} {fs:List RF} (h:YL base w v fs) (hk:Zk e w w') (h1:36≠e) (h2:106≠e):YL base w' v fs:=by
 obtain ⟨cs,g1,g2⟩:=h;exact ⟨cs,hk.own g1 h1,g2.keep (hk.keep h2)⟩
theorem Wy.shape [Old] {w:World} {v:Value} {es:List En} (h:Wy w v es):∃A c,v= .slice A es.length c∧es.length≤c∧c≤9223372036854775807:=by
 obtain ⟨cs,h1,h2⟩:=h;exact h1.shape
theorem Wy.elem [Old] {w wr:World} {A:Option Addr} {n c:Nat} {es:List En} (h:Wy w (.slice A n c) es) (hb:Below w.heap.size w wr) {k:Nat} {e:En} (he:es[k]? =some e):
 ∃b off A1 n1 c1 A2 n2 c2,A=some ⟨b,off,none⟩∧b < w.heap.size∧(wr.cell? ⟨b,off+k * 5,none⟩=some (.int .i64 e.idx)∧wr.cell? ⟨b,off+k * 5+1,none⟩=some (.bool e.f.num.neg)∧wr.cell? ⟨b,off+k * 5+2,none⟩=some (.slice A1 n1 c1)∧wr.cell? ⟨b,off+k * 5+3,none⟩=some (.bool e.f.den.neg)∧wr.cell? ⟨b,off+k * 5+4,none⟩=some (.slice A2 n2 c2))∧
  Zm wr (.agg #[.bool e.f.num.neg,.slice A1 n1 c1,.bool e.f.den.neg,.slice A2 n2 c2]) e.f:=by
 obtain ⟨cs,h1,h2⟩:=h;obtain ⟨x,y,z,u,c0,c1,c2,c3,c4,hm⟩:=h2.2 k e he;have hk:k < es.length:=(List.getElem?_eq_some_iff.1 he).1;have hn:=h1.len;subst hn;obtain ⟨b,off,hA,a,hc⟩:=h1.at_ (by omega);obtain ⟨A1,n1,k1,A2,n2,k2,hv,d1,d2⟩:=id hm;simp at hv;obtain ⟨rfl,rfl,rfl,rfl⟩:=hv;exact ⟨b,off,A1,n1,k1,A2,n2,k2,hA,a,⟨ZH hb (hc _ _ c0),ZH hb (hc _ _ c1),ZH hb (hc _ _ c2),ZH hb (hc _ _ c3),ZH hb (hc _ _ c4)⟩,hm.below hb⟩
def Xf [Old] (w:World) (v:Value) (cols:List (List En)):Prop:=∃cs,X9 w 28 1 v cols.length cs∧∀(k:Nat) (c:List En),cols[k]? =some c→∃u,cs[k]? =some u∧Wy w u c
theorem Xf.below [Old] {w w':World} {v:Value} {cols:List (List En)} (h:Xf w v cols) (hb:Below w.heap.size w w'):Xf w' v cols:=by
 obtain ⟨cs,h1,h2⟩:=h;exact ⟨cs,h1.below hb,fun k c hc=>by obtain ⟨u,g1,g2⟩:=h2 k c hc;exact ⟨u,g1,g2.below hb⟩⟩
theorem Xf.shape [Old] {w:World} {v:Value} {cols:List (List En)} (h:Xf w v cols):∃A c,v= .slice A cols.length c∧cols.length≤c∧c≤9223372036854775807:=by
 obtain ⟨cs,h1,h2⟩:=h;exact h1.shape
theorem Xf.elem [Old] {w wr:World} {A:Option Addr} {n c:Nat} {cols:List (List En)} (h:Xf w (.slice A n c) cols) (hb:Below w.heap.size w wr) {k:Nat} {es:List En} (he:cols[k]? =some es):
 ∃b off A1 c1,A=some ⟨b,off,none⟩∧b < w.heap.size∧wr.cell? ⟨b,off+k,none⟩=some (.slice A1 es.length c1)∧Wy wr (.slice A1 es.length c1) es:=by
 obtain ⟨cs,h1,h2⟩:=h;obtain ⟨u,hu,hv⟩:=h2 k es he;have hk:k < cols.length:=(List.getElem?_eq_some_iff.1 he).1;have hn:=h1.len;subst hn;obtain ⟨b,off,hA,a,hc⟩:=h1.at_ (by omega);obtain ⟨A1,c1,rfl,_,_⟩:=hv.shape;exact ⟨b,off,A1,c1,hA,a,ZH hb (hc _ _ hu),hv.below hb⟩
theorem Zbn.len [Old] {w:World} {A:Option Addr} {n c:Nat} {fs:List RF} (h:Zbn w (.slice A n c) fs):n=fs.length∧n≤c∧c≤9223372036854775807:=by
 obtain ⟨A',c',e,h1,h2⟩:=h.shape;injection e with _ e2 e3;subst e2 e3;exact ⟨rfl,h1,h2⟩
theorem Wy.len [Old] {w:World} {A:Option Addr} {n c:Nat} {fs:List En} (h:Wy w (.slice A n c) fs):n=fs.length∧n≤c∧c≤9223372036854775807:=by
 obtain ⟨A',c',e,h1,h2⟩:=h.shape;injection e with _ e2 e3;subst e2 e3;exact ⟨rfl,h1,h2⟩
theorem Xf.len [Old] {w:World} {A:Option Addr} {n c:Nat} {fs:List (List En)} (h:Xf w (.slice A n c) fs):n=fs.length∧n≤c∧c≤9223372036854775807:=by
 obtain ⟨A',c',e,h1,h2⟩:=h.shape;injection e with _ e2 e3;subst e2 e3;exact ⟨rfl,h1,h2⟩
section
variable {w:World} {g:Nat} {t:TypeId} {a b c:Value}
theorem Bk.five {d e:Value} (h:Bk w g t [a,b,c,d,e]):w.cell? ⟨g,0,none⟩=some a∧w.cell? ⟨g,1,none⟩=some b∧w.cell? ⟨g,2,none⟩=some c∧w.cell? ⟨g,3,none⟩=some d∧w.cell? ⟨g,4,none⟩=some e:=⟨h.cellAt 0 rfl,h.cellAt 1 rfl,h.cellAt 2 rfl,h.cellAt 3 rfl,h.cellAt 4 rfl⟩
end
end
namespace Pl
theorem WW {n:Int} {es:List En} {k:Nat} {e:En} (h:es[k]? =some e) (h2:e.idx < 0∨n≤e.idx):Vw n (es.drop k) (Xa es k)=5:=by rw [V6 h,if_pos h2]
theorem Zbw {n:Int} {es:List En} {k:Nat} {e p:En} (h:es[k+1]? =some e) (hp:es[k]? =some p) (h2:¬(e.idx < 0∨n≤e.idx)) (h3:e.idx≤p.idx):Vw n (es.drop (k+1)) (Xa es (k+1))=8:=by
 rw [V6 h,if_neg h2,if_pos (by simp [Xa,hp,leP,h3])]
theorem V7 {n:Int} {es:List En} {k:Nat} {e:En} (h:es[k]? =some e) (h2:¬(e.idx < 0∨n≤e.idx)) (h3:leP (Xa es k) e.idx=false) (h4:e.f.q=0):Vw n (es.drop k) (Xa es k)=11:=by
 rw [V6 h,if_neg h2,if_neg (by simp [h3]),if_pos h4]
theorem V8 {n:Int} {es:List En} {k:Nat} {e:En} (h:es[k]? =some e) (h2:¬(e.idx < 0∨n≤e.idx)) (h3:leP (Xa es k) e.idx=false) (h4:e.f.q≠0):Vw n (es.drop k) (Xa es k)=Vw n (es.drop (k+1)) (Xa es (k+1)):=by
 rw [V6 h,if_neg h2,if_neg (by simp [h3]),if_neg h4]
theorem Zic {es:List En} {k:Nat} {p:En} (hp:es[k]? =some p) {i:Int} (h:¬i≤p.idx):leP (Xa es (k+1)) i=false:=by simp [Xa,hp,leP];omega
theorem YS {es:List En} {i:Nat} (h:i < es.length):∃f,es[i]? =some f:=⟨es[i],JQ h⟩
def EnI (es:List En):Prop:=∀(k:Nat) (e:En),es[k]? =some e→ -9223372036854775808≤e.idx∧e.idx≤9223372036854775807
end Pl
theorem Zid (w:World) (x0 x1 x2 x3 x4:Value):∃W,w.alloc (.cells #[x0,x1,x2,x3,x4] 39)=W∧Bk W w.heap.size 39 [x0,x1,x2,x3,x4]∧Below w.heap.size w W:=
 ⟨_,rfl,Bk.new w _ [x0,x1,x2,x3,x4],Zd w _⟩
theorem XP [Old] (v:Value) (es:List En) (n:Int) (w:World) (h:Wy w v es) (hi:EnI es) (h0: -9223372036854775808≤n) (h1:n≤9223372036854775807) (hOl:Zb w:=by (repeat (first | assumption | exact Zb.up (by assumption) hOl | exact Zb.up (Hid.out (by assumption)) hOl | with_reducible refine Zb.set ?_ _ _ | with_reducible refine Zb.mk_ ?_ _ | with_reducible refine Zb.dr ?_ | with_reducible refine Zb.drN ?_ | refine Zb.up (by assumption) ?_ | refine Zb.up (Hid.out (by assumption)) ?_))):
 Calls Tryz.prog 36 #[v,.int .i64 n] w fun e w'=>e= .returned (.int .i64 (vecErr es n))∧Below w.heap.size w w':=by
 have L:=hOl.le;obtain ⟨A,c,rfl,O,P⟩:=h.shape;generalize hl:es.length=l at *;have HL:=JZ hl;have HI:=JZ hi;clear hl hi;by_cases r:n < 0
 ·have HV:Hid (vecErr es n=5):=JZ (by unfold vecErr;rw [if_pos (.inl r)]);go_enter Tryz.func36,Tryz.ntmps36;go_wp2;go_ret;exact ⟨by rw [HV.out];rfl,JR _ _⟩
 ·by_cases s:4096 < n
  ·have HV:Hid (vecErr es n=5):=JZ (by unfold vecErr;rw [if_pos (.inr s)]);go_enter Tryz.func36,Tryz.ntmps36;go_wp2;go_ret;exact ⟨by rw [HV.out];rfl,JR _ _⟩
  ·have hv:vecErr es n=Vw n (es.drop 0) (Xa es 0):=by
    unfold vecErr;rw [if_neg (by omega)];rfl
   generalize vecErr es n=d at *;have HV:=JZ hv;clear hv;have D:decide (n < 0)=false:=(by simpa using r);have E:decide (4096 < n)=false:=(by simpa using s);clear r s;go_enter Tryz.func36,Tryz.ntmps36;go_wp2;clear D E
   go_loopw [15] (fun i wr=>∃k:Nat,k≤l∧i= .int .i64 k∧Below w.heap.size w wr∧d=Vw n (es.drop k) (Xa es k)) (fun i _=>l - (intOf i).toNat)
   case atStart=>exact ⟨0,by omega,rfl,JR _ _,HV.out⟩
   case round=>
    obtain ⟨k,hk,rfl,x,G⟩:=hrel;have HE:=JZ G;clear G HV;rcases JX k l with hkl | hkl
    ·obtain ⟨e,he⟩:=YS (es:=es) (i:=k) (by rw [HL.out];exact hkl);obtain ⟨b,R,A1,n1,c1,A2,n2,c2,rfl,S,g,hm⟩:=h.elem x he;obtain ⟨x0,x1,x2,x3,x4⟩:=g;obtain ⟨i0,i1⟩:=HI.out k e he;obtain ⟨W,hW,hX,H⟩:=Zid wr (.int .i64 e.idx) (.bool e.f.num.neg) (.slice A1 n1 c1) (.bool e.f.den.neg) (.slice A2 n2 c2);obtain ⟨z0,z1,z2,z3,z4⟩:=hX.five;have a:=Za x H x.size;have u:=hm.below H;by_cases t:e.idx < 0
     ·have HR:Hid (d=5):=JZ (HE.out.trans (WW he (.inl t)));clear he;go_wp2;go_ret;exact ⟨by rw [HR.out];rfl,a⟩
     ·by_cases C:n≤e.idx
      ·have HR:Hid (d=5):=JZ (HE.out.trans (WW he (.inr C)));clear he;go_wp2;go_ret;exact ⟨by rw [HR.out];rfl,a⟩
      ·have F:¬(e.idx < 0∨n≤e.idx):=(by omega);have o:=JZ F;have D:decide (e.idx < 0)=false:=(by simpa using t);have E:decide (n≤e.idx)=false:=(by simpa using C);clear F t C;by_cases y:k=0
       ·have HP:Hid (leP (Xa es k) e.idx=false):=JZ (by rw [y];rfl);have hg:decide ((0:Int) < (k:Int))=false:=(by simp;omega);have I:decide (0 < k)=false:=(by simp;omega);clear y;by_cases hz:e.f.q=0
        ·have B:qs e.f.q=0:=Yz.2 hz;have HR:Hid (d=11):=JZ (HE.out.trans (V7 he o.out HP.out hz));clear he hz;go_wp2
         go_quiet (fail)
         go_wp2_with fail;refine (Yd _ e.f _ (u.keep (ZE.drewN _ _))).mono ?_;rintro _ w2 ⟨rfl,m⟩;go_wp2;go_ret;exact ⟨by rw [HR.out];rfl,Za (below_drewN a _) m a.size⟩
        ·have B:(qs e.f.q==0)=false:=(by simpa using fun h=>hz (Yz.1 h));have HR:Hid (d=Vw n (es.drop (k+1)) (Xa es (k+1))):=JZ (HE.out.trans (V8 he o.out HP.out hz));clear he hz;go_wp2
         go_quiet (fail)
         go_wp2_with fail;refine (Yd _ e.f _ (u.keep (ZE.drewN _ _))).mono ?_;rintro _ w2 ⟨rfl,m⟩;go_wp2;go_roundw
         case rel=>exact ⟨k+1,by omega,by go_num,Za (below_drewN a _) m a.size,HR.out⟩
         case measure=>simp [intOf];omega
       ·obtain ⟨j,hj⟩:∃j,k=j+1:=⟨k - 1,by omega⟩;have M:(k:Int) - 1=(j:Int):=(by omega);have hg:(0:Int) < (k:Int):=(by omega);have I:0 < k:=(by omega);have HJ:=JZ hj;obtain ⟨p,hp⟩:=YS (es:=es) (i:=j) (by rw [HL.out];omega);obtain ⟨b2,K,B1,m1,d1,B2,m2,d2,hA,_,g,_⟩:=h.elem a hp;injection hA with hA;injection hA with hA1 hA2;subst hA1 hA2;obtain ⟨y0,_,_,_,_⟩:=g;obtain ⟨j0,j1⟩:=HI.out j p hp;have N:(j:Int) < l:=(by omega);by_cases z:e.idx≤p.idx
        ·have HR:Hid (d=8):=JZ (HE.out.trans (by rw [HJ.out] at he ⊢;exact Zbw he hp o.out z));clear he hp y hj;go_wp2
         go_quiet (fail)
         go_wp2;go_ret;exact ⟨by rw [HR.out];rfl,below_drewN a _⟩
        ·have HP:Hid (leP (Xa es k) e.idx=false):=JZ (by rw [HJ.out];exact Zic hp z);have J:decide (e.idx≤p.idx)=false:=(by simpa using z);clear hp y hj z;by_cases hz:e.f.q=0
         ·have B:qs e.f.q=0:=Yz.2 hz;have HR:Hid (d=11):=JZ (HE.out.trans (V7 he o.out HP.out hz));clear he hz;go_wp2
          go_quiet (fail)
          go_wp2_with fail;refine (Yd _ e.f _ (u.keep (ZE.drewN _ _))).mono ?_;rintro _ w2 ⟨rfl,m⟩;go_wp2;go_ret;exact ⟨by rw [HR.out];rfl,Za (below_drewN a _) m a.size⟩
         ·have B:(qs e.f.q==0)=false:=(by simpa using fun h=>hz (Yz.1 h));have HR:Hid (d=Vw n (es.drop (k+1)) (Xa es (k+1))):=JZ (HE.out.trans (V8 he o.out HP.out hz));clear he hz;go_wp2
          go_quiet (fail)
          go_wp2_with fail;refine (Yd _ e.f _ (u.keep (ZE.drewN _ _))).mono ?_;rintro _ w2 ⟨rfl,m⟩;go_wp2;go_roundw
          case rel=>exact ⟨k+1,by omega,by go_num,Za (below_drewN a _) m a.size,HR.out⟩
          case measure=>simp [intOf];omega
    ·have HR:Hid (d=0):=JZ (HE.out.trans (Zib (by rw [HL.out];omega)));go_wp2;go_ret;exact ⟨by rw [HR.out];rfl,x⟩
def ZN (g:Option Nat) (w w':World):Prop:=w.heap.size≤w'.heap.size∧∀b,b < w.heap.size→some b≠g→w'.heap[b]? =w.heap[b]?
theorem ZN.bk {g:Option Nat} {w w':World} {b:Nat} {t:TypeId} {cs:List Value} (h:ZN g w w') (hb:Bk w b t cs) (hne:some b≠g):Bk w' b t cs:=(h.2 b hb.lt hne).trans hb
theorem ZN.of_set {g i:Nat} {w:World} {v:Value}:ZN (some g) w (w.setCell ⟨g,i,none⟩ v):=⟨by simp,fun b _ hne=>heap_setCell_other w _ _ _ (fun e=>hne (by rw [e]))⟩
theorem ZN.trans {g:Option Nat} {a b c:World} (h:ZN g a b) (k:ZN g b c):ZN g a c:=⟨JW h.1 k.1,fun x hx hne=>(k.2 x (Nat.lt_of_lt_of_le hx h.1) hne).trans (h.2 x hx hne)⟩
theorem YL.others [Old] {base:Nat} {w w':World} {g:Option Nat} {v:Value} {fs:List RF} (h:YL base w v fs) (ho:ZN g w w') (hk:ZE w w') (hne:∀b,v.ownBlock=some b→some b≠g):YL base w' v fs:=by
 obtain ⟨cs,h1,h2⟩:=h;refine ⟨cs,⟨h1.1,?_⟩,h2.keep hk⟩;rcases h1.2 with hn | ⟨g',cap,cur,rfl,hb',hgg,rest⟩
 ·exact .inl hn
 ·exact .inr ⟨g',cap,cur,rfl,hb',(ho.2 g' (Ye hgg) (hne g' (by simp [Value.ownBlock]))).trans hgg,rest⟩
theorem UE {base:Nat} {w w':World} {g:Option Nat} {t:TypeId} {s n:Nat} {v:Value} {xs:List Value} (h:w.ownsRow base t s v n xs) (ho:ZN g w w') (hne:∀b,v.ownBlock=some b→some b≠g):w'.ownsRow base t s v n xs:=by
 refine ⟨h.1,?_⟩;rcases h.2 with hn | ⟨g',cap,cur,rfl,hb',hgg,rest⟩
 ·exact .inl hn
 ·exact .inr ⟨g',cap,cur,rfl,hb',(ho.2 g' (Ye hgg) (hne g' (by simp [Value.ownBlock]))).trans hgg,rest⟩
theorem Vz {base:Nat} {w:World} {t:TypeId} {s n:Nat} {v:Value} {xs:List Value} (h:w.ownsRow base t s v n xs):∀g,v.ownBlock=some g→g < w.heap.size:=by
 intro g hg;rcases h.2 with ⟨rfl,_⟩ | ⟨g',cap,cur,rfl,_,hgg,_⟩
 ·simp [Value.ownBlock] at hg
 ·simp [Value.ownBlock] at hg;subst hg;exact Ye hgg
section
section
variable {H:Type} {enc:TypeId × Value→H} {W:World} {sp:Nat→Bool} {held:Bool}
theorem Ur {α:Type} {Q:Nat→α→Prop}:∀(n:Nat),(∀k,k < n→∃a,Q k a)→∃l:List α,l.length=n∧∀k a,l[k]? =some a→Q k a
 | 0,_=>⟨[],rfl,fun k a h=>by simp at h⟩
 | n+1,h=>by
  obtain ⟨l,hl,hq⟩:=Ur n (fun k hk=>h k (by omega))
  obtain ⟨a,ha⟩:=h n (by omega)
  refine ⟨l++[a],by simp [hl],fun k b hb=>?_⟩
  rcases JX k n with hk | hk
  ·rw [List.getElem?_append_left (by omega)] at hb;exact hq k b hb
  ·rw [List.getElem?_append_right (by omega)] at hb
   have hk0:k - l.length=0:=by
    rcases JV (k - l.length) with e | e
    ·exact e
    ·rw [JU (by simp;omega)] at hb;cases hb
   rw [hk0] at hb;simp at hb;subst hb;obtain rfl:k=n:=by omega
   exact ha
theorem Zws {l:List Value} (h:l.length=2):∃a b,l=[a,b]:=by
 match l,h with
 | [a,b],_=>exact ⟨a,b,rfl⟩
theorem Zwt {l:List Value} (h:l.length=4):∃a b c d,l=[a,b,c,d]:=by
 match l,h with
 | [a,b,c,d],_=>exact ⟨a,b,c,d,rfl⟩
theorem Zwu {l:List Value} (h:l.length=5):∃a b c d e,l=[a,b,c,d,e]:=by
 match l,h with
 | [a,b,c,d,e],_=>exact ⟨a,b,c,d,e,rfl⟩
theorem open_row [Old] {t e:TypeId} (ty:TypeId) {s fuel:Nat} {cs:List Value} {x:DataW H × List MemPlace} (ht:Tryz.prog.underlying t=some (.slice e)) (hc:Tryz.prog.cellsOf e=s) (hs:0 < s) (hO:W.heap.size≤Old.n)
 (h:DataW.trod enc Tryz.prog W 0 sp held fuel t cs=some x):
 ∃A n c xs,cs=[.slice A n c]∧X9 W ty s (.slice A n c) n xs∧∀k,k < n→∃m y,DataW.trod enc Tryz.prog W 0 sp held m e ((xs.drop (k * s)).take s)=some y:=by
 rcases DataW.trod_slice ht h with ⟨h0,_⟩ | ⟨a,len,cap,elems,rest,m,_,rfl,_,_,hl,hm,hlen,hel,_,_⟩
 ·exact ⟨none,0,0,[],h0,X9.nil _ _ _ _ _ (Nat.zero_le _),fun k hk=>by omega⟩
 ·rw [hc] at hel;rcases JV len with hz | hp
  ·subst hz;exact ⟨some a,0,cap,[],rfl,X9.nil _ _ _ _ _ hm,fun k hk=>by omega⟩
  have g:∀k,k < len→∃ks,ks.length=s∧(∀i,i < s→W.cell? ((a.add (k * s)).add i)=ks[i]?)∧∃y,DataW.trod enc Tryz.prog W 0 sp held m e ks=some y:=by
   intro k hk;have h1:elems[k]? =some (elems[k]'(by omega)):=JQ _;have h2:=hel k hk;rw [h1,Option.bind_eq_some_iff] at h2;obtain ⟨ks,h3,h4⟩:=h2;obtain ⟨_,h5,h6⟩:=World.cells?_some h3;exact ⟨ks,h5,h6,_,h4⟩
  obtain ⟨b,d,v⟩:=a;have o:v=none:=by
   obtain ⟨ks,h1,h2,_⟩:=g 0 hp;have h3:=h2 0 hs;rw [Nat.zero_mul,show (ks[0]? :Option Value)=some (ks[0]'(by omega)) from JQ _] at h3;have:=World.cell?_spot h3;simpa [Addr.add] using this
  subst o;have cell:∀k i,k < len→i < s→∃u,W.cell? ⟨b,d+(k * s+i),none⟩=some u:=by
   intro k i hk hi;obtain ⟨ks,h1,h2,_⟩:=g k hk;have h3:=h2 i hi;rw [Go.WideShapes.add_plain,Go.WideShapes.add_plain,show (ks[i]? :Option Value)=some (ks[i]'(by omega)) from JQ _] at h3;exact ⟨_,by rw [← Nat.add_assoc];exact h3⟩
  obtain ⟨f,tt,fz,hb⟩:∃f tt fz,W.heap[b]? =some (.cells f tt fz):=by
   obtain ⟨u,hu⟩:=cell 0 0 hp hs;unfold World.cell? at hu;split at hu
   ·rename_i c t' f' hh
    exact ⟨_,_,_,hh⟩
   ·cases hu
  have l:∀j,W.cell? ⟨b,d+j,none⟩=f[d+j]? :=fun j=>cell_of_row W b (d+j) f tt fz hb
  have z:d+len * s≤f.size:=by
   obtain ⟨u,hu⟩:=cell (len - 1) (s - 1) (by omega) (by omega);rw [l] at hu;have h1:=(Array.getElem?_eq_some_iff.1 hu).1;have h2:(len - 1) * s+s=len * s:=by
    obtain ⟨q,rfl⟩:∃q,len=q+1:=⟨len - 1,by omega⟩;simp [Nat.add_mul]
   omega
  have p:((f.toList.drop d).take (len * s)).length=len * s:=by
   rw [List.length_take,List.length_drop,Array.length_toList];omega
  have r:∀j,j < len * s→((f.toList.drop d).take (len * s))[j]? =f[d+j]? :=by
   intro j hj;rw [List.getElem?_take,if_pos hj,List.getElem?_drop,Array.getElem?_toList]
  refine ⟨some ⟨b,d,none⟩,len,cap,(f.toList.drop d).take (len * s),rfl,⟨_,cap,rfl,p,hl,hm,fun _=>⟨b,d,f,tt,fz,rfl,.inr (Nat.lt_of_lt_of_le (Ye hb) hO),hb,fun j u hj=>?_⟩⟩,fun k hk=>?_⟩
  ·have h1:=(List.getElem?_eq_some_iff.1 hj).1;rw [p] at h1;rw [← r j h1];exact hj
  ·obtain ⟨ks,h1,h2,y,h3⟩:=g k hk;refine ⟨m,y,?_⟩;have B:k * s+s≤len * s:=by
    have h4:(k+1) * s≤len * s:=JS s (by omega);rw [Nat.add_mul,Nat.one_mul] at h4;exact h4
   have e:(((f.toList.drop d).take (len * s)).drop (k * s)).take s=ks:=by
    apply List.ext_getElem?;intro i;rcases JX i s with hi | hi
    ·rw [List.getElem?_take,if_pos hi,List.getElem?_drop,r _ (by omega),← l,← h2 i hi,Go.WideShapes.add_plain,Go.WideShapes.add_plain,Nat.add_assoc]
    ·rw [JU (by rw [List.length_take];omega),JU (by omega)]
   rw [e];exact h3
theorem Zoj [Old] {fuel:Nat} {cs:List Value} {x:DataW H × List MemPlace} (hO:W.heap.size≤Old.n)
 (h:DataW.trod enc Tryz.prog W 0 sp held fuel 32 cs=some x):∃A n c ds,cs=[.slice A n c]∧ZC W (.slice A n c) ds:=by
 obtain ⟨A,n,c,xs,g,hr,i⟩:=open_row 106 Tryz.underlying32 (s:=1) (by kernel_rfl) (by omega) hO h;obtain ⟨A',c',hv,q,hn,hm,e⟩:=hr;have a:∀k,k < n→∃d:Nat,d < 4294967296∧xs[k]? =some (uc d):=by
  intro k hk;obtain ⟨m,y,hy⟩:=i k hk;obtain ⟨z,hz,_,hw⟩:=DataW.trod_int Tryz.underlying106 hy;have f:xs[k]? =some (.int .u32 z):=by
   have h0:((xs.drop (k * 1)).take 1)[0]? =some (.int .u32 z):=(by rw [hz];rfl);rw [List.getElem?_take,if_pos (by omega),List.getElem?_drop] at h0;simpa using h0
  have hb:0≤z∧z≤4294967295:=by
   simp [Lit.wf,IntKind.min,IntKind.max,IntKind.signed,IntKind.bits] at hw;omega
  exact ⟨z.toNat,by omega,by rw [f];unfold uc;rw [Int.toNat_of_nonneg hb.1]⟩
 obtain ⟨ds,j,hd⟩:=Ur n a;subst j;injection hv with e1 _ e3;subst e1 e3;refine ⟨A,ds.length,c,ds,g,A,c,rfl,hn,hm,fun d hdm=>?_,fun hp=>?_⟩
 ·obtain ⟨k,hk⟩:=List.getElem?_of_mem hdm;exact (hd k d hk).1
 ·obtain ⟨b,l,o,t',fz,hA,p,hb,hx⟩:=e hp;exact ⟨b,l,o,t',fz,hA,p,hb,fun k d hk=>hx k _ (hd k d hk).2⟩
theorem Zfs [Old] {fuel:Nat} {cs:List Value} {x:DataW H × List MemPlace} (hO:W.heap.size≤Old.n)
 (h:DataW.trod enc Tryz.prog W 0 sp held fuel 34 cs=some x):∃b A n c ds,cs=[.bool b,.slice A n c]∧ZC W (.slice A n c) ds:=by
 obtain ⟨xs,n,_,_,a,d,hf⟩:=DataW.trod_struct Tryz.underlying34 h;rw [show Tryz.prog.cellsOf 34=2 by kernel_rfl] at a;have e:xs.length=2:=d;obtain ⟨u,v,rfl⟩:=Zws a;have f0:=hf 0 _ rfl;have f1:=hf 1 _ rfl;rw [show (xs[0]? :Option _)=some (xs[0]'(by omega)) from JQ _] at f0;rw [show (xs[1]? :Option _)=some (xs[1]'(by omega)) from JQ _] at f1;obtain ⟨b,hb,_⟩:=DataW.trod_bool Tryz.underlying4 f0;obtain ⟨A,m,c,ds,hs,hd⟩:=Zoj hO f1;have e0:[u]=[Value.bool b]:=hb;have e1:[v]=[Value.slice A m c]:=hs;injection e0 with e0 _;injection e1 with e1 _;subst e0 e1;exact ⟨b,A,m,c,ds,rfl,hd⟩
theorem Zok [Old] {fuel:Nat} {cs:List Value} {x:DataW H × List MemPlace} (hO:W.heap.size≤Old.n)
 (h:DataW.trod enc Tryz.prog W 0 sp held fuel 36 cs=some x):∃f A n c A' n' c',cs=[.bool f.num.neg,.slice A n c,.bool f.den.neg,.slice A' n' c']∧Zm W (.agg #[.bool f.num.neg,.slice A n c,.bool f.den.neg,.slice A' n' c']) f:=by
 obtain ⟨xs,n,_,_,a,d,hf⟩:=DataW.trod_struct Tryz.underlying36 h;rw [show Tryz.prog.cellsOf 36=4 by kernel_rfl] at a;have j:xs.length=2:=d;obtain ⟨u,v,u',v',rfl⟩:=Zwt a;have f0:=hf 0 _ rfl;have f1:=hf 1 _ rfl;rw [show (xs[0]? :Option _)=some (xs[0]'(by omega)) from JQ _] at f0;rw [show (xs[1]? :Option _)=some (xs[1]'(by omega)) from JQ _] at f1;obtain ⟨b,A,m,c,ds,hs,hd⟩:=Zfs hO f0;obtain ⟨b',A',m',c',e,g,i⟩:=Zfs hO f1;have e0:[u,v]=[Value.bool b,Value.slice A m c]:=hs;have e1:[u',v']=[Value.bool b',Value.slice A' m' c']:=g;injection e0 with e0 e2;injection e2 with e2 _;injection e1 with e1 e3;injection e3 with e3 _;subst e0 e1 e2 e3;exact ⟨⟨⟨b,ds⟩,⟨b',e⟩⟩,A,m,c,A',m',c',rfl,A,m,c,A',m',c',rfl,hd,i⟩
theorem cells5 {l:List Value} {j:Nat} {v x y z u:Value} (h:(l.drop j).take 5=[v,x,y,z,u]):l[j]? =some v∧l[j+1]? =some x∧l[j+2]? =some y∧l[j+3]? =some z∧l[j+4]? =some u:=by
 have g:∀i,i < 5→l[j+i]? =[v,x,y,z,u][i]? :=fun i hi=>by rw [← h,List.getElem?_take,if_pos hi,List.getElem?_drop]
 exact ⟨g 0 (by omega),g 1 (by omega),g 2 (by omega),g 3 (by omega),g 4 (by omega)⟩
theorem Zkz [Old] {fuel:Nat} {cs:List Value} {x:DataW H × List MemPlace} (hO:W.heap.size≤Old.n)
 (h:DataW.trod enc Tryz.prog W 0 sp held fuel 39 cs=some x):∃e:En,∃x y z u,cs=[.int .i64 e.idx,x,y,z,u]∧Zm W (.agg #[x,y,z,u]) e.f∧ -9223372036854775808≤e.idx∧e.idx≤9223372036854775807:=by
 obtain ⟨xs,n,_,_,a,b,hf⟩:=DataW.trod_struct Tryz.underlying39 h;rw [show Tryz.prog.cellsOf 39=5 by kernel_rfl] at a;have g:xs.length=2:=b;obtain ⟨u,v,u',v',d,rfl⟩:=Zwu a;have f0:=hf 0 _ rfl;have f1:=hf 1 _ rfl;rw [show (xs[0]? :Option _)=some (xs[0]'(by omega)) from JQ _] at f0;rw [show (xs[1]? :Option _)=some (xs[1]'(by omega)) from JQ _] at f1;obtain ⟨i,hi,_,hw⟩:=DataW.trod_int Tryz.underlying3 f0;obtain ⟨f,A,m,c,A',m',c',hs,hd⟩:=Zok hO f1;have e0:[u]=[Value.int .i64 i]:=hi;have e1:[v,u',v',d]=[Value.bool f.num.neg,Value.slice A m c,Value.bool f.den.neg,Value.slice A' m' c']:=hs;injection e0 with e0 _;subst e0;have hb:=bounds_i64 hw;simp only [List.cons.injEq,and_true] at e1;obtain ⟨rfl,rfl,rfl,rfl⟩:=e1;exact ⟨⟨i,f⟩,_,_,_,_,rfl,hd,hb.1,hb.2⟩
theorem Zrh [Old] {fuel:Nat} {t:TypeId} {cs:List Value} {x:DataW H × List MemPlace} (ht:Tryz.prog.underlying t=some (.slice 39)) (hO:W.heap.size≤Old.n)
 (h:DataW.trod enc Tryz.prog W 0 sp held fuel t cs=some x):∃A n c es,cs=[.slice A n c]∧Wy W (.slice A n c) es∧EnI es:=by
 obtain ⟨A,n,c,xs,g,hr,i⟩:=open_row 39 ht (s:=5) (by kernel_rfl) (by omega) hO h;have a:∀k,k < n→∃e:En,(∃x y z u,xs[k * 5]? =some (.int .i64 e.idx)∧xs[k * 5+1]? =some x∧xs[k * 5+2]? =some y∧xs[k * 5+3]? =some z∧xs[k * 5+4]? =some u∧Zm W (.agg #[x,y,z,u]) e.f)∧ -9223372036854775808≤e.idx∧e.idx≤9223372036854775807:=by
  intro k hk;obtain ⟨m,y,hy⟩:=i k hk;obtain ⟨e,x1,x2,x3,x4,b,hf,hb⟩:=Zkz hO hy;obtain ⟨c0,c1,c2,c3,c4⟩:=cells5 b;exact ⟨e,⟨_,_,_,_,c0,c1,c2,c3,c4,hf⟩,hb⟩
 obtain ⟨es,d,he⟩:=Ur n a;subst d;have hl:xs.length=es.length * 5:=by obtain ⟨_,_,_,hl,_⟩:=hr;exact hl
 exact ⟨A,es.length,c,es,g,⟨xs,hr,hl,fun k e hk=>(he k e hk).1⟩,fun k e hk=>(he k e hk).2⟩
theorem Zvx [Old] {fuel:Nat} {cs:List Value} {x:DataW H × List MemPlace} (hO:W.heap.size≤Old.n)
 (h:DataW.trod enc Tryz.prog W 0 sp held fuel 22 cs=some x):∃A n c cols,cs=[.slice A n c]∧Xf W (.slice A n c) cols∧∀(j:Nat) (es:List En),cols[j]? =some es→EnI es:=by
 obtain ⟨A,n,c,xs,g,hr,i⟩:=open_row 28 Tryz.underlying22 (s:=1) (by kernel_rfl) (by omega) hO h;have a:∀k,k < n→∃es:List En,(∃u,xs[k]? =some u∧Wy W u es)∧EnI es:=by
  intro k hk;obtain ⟨m,y,hy⟩:=i k hk;obtain ⟨B,q,d,es,b,hf,hb⟩:=Zrh Tryz.underlying28 hO hy;refine ⟨es,⟨_,?_,hf⟩,hb⟩;have h0:((xs.drop (k * 1)).take 1)[0]? =some (.slice B q d):=by rw [b];rfl
  rw [List.getElem?_take,if_pos (by omega),List.getElem?_drop] at h0;simpa using h0
 obtain ⟨cols,l,f⟩:=Ur n a;subst l;exact ⟨A,cols.length,c,cols,g,⟨xs,hr,fun k e hk=>(f k e hk).1⟩,fun k e hk=>(f k e hk).2⟩
end
end
end Go.Proofs.YtidgdpkcloaheaaGreat
