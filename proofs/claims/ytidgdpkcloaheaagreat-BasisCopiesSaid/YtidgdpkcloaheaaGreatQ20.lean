/- Lemmas of the claim; no condition. -/
import Derived.Test.YtidgdpkcloaheaaGreatQ17
set_option linter.all false
set_option maxRecDepth 100000
set_option maxHeartbeats 40000000
namespace Go.Proofs.YtidgdpkcloaheaaGreat
open Go.RowKit
open Pl
attribute [local go_sem ↓] Go.wp_at_zero Go.wp_at_succ
theorem Zm.cells [Old] {w:World} {x y z u:Value} {f:RF} (h:Zm w (.agg #[x,y,z,u]) f):x.oneCell'=true∧y.oneCell'=true∧z.oneCell'=true∧u.oneCell'=true:=by
 obtain ⟨A,n,c,A',n',c',e,_,_⟩:=h;simp at e;obtain ⟨rfl,rfl,rfl,rfl⟩:=e;exact ⟨rfl,rfl,rfl,rfl⟩
section
namespace Pl
def kI (z:Int):RF:=canF (z:Rat)
def kp:LPd:=⟨[kI 0],[[⟨0,kI 1⟩]],[kI (-1)]⟩
end Pl
section
variable {w:World} {g:Nat}
theorem Wy.one [Old] {k:Int} {b b':Bool} {A A':Option Addr} {n c n' c':Nat} {f:RF} (hB:Bk w g 39 [.int .i64 k,.bool b,.slice A n c,.bool b',.slice A' n' c']) (h:Zm w (.agg #[.bool b,.slice A n c,.bool b',.slice A' n' c']) f):Wy w (.slice (some ⟨g,0,none⟩) 1 1) [⟨k,f⟩]:=by
 refine ⟨[.int .i64 k,.bool b,.slice A n c,.bool b',.slice A' n' c'],⟨_,1,rfl,rfl,JY _,by unfold maxLen;omega,fun _=>⟨g,0,_,_,_,rfl,Or.inl rfl,hB,fun j u hj=>by simpa using hj⟩⟩,rfl,fun j f' hf=>?_⟩
 match j,hf with
 | 0,hf=>simp at hf;subst hf;exact ⟨_,_,_,_,rfl,rfl,rfl,rfl,rfl,h⟩
theorem Xf.one [Old] {v:Value} {es:List En} (hB:Bk w g 28 [v]) (h:Wy w v es):Xf w (.slice (some ⟨g,0,none⟩) 1 1) [es]:=by
 refine ⟨[v],⟨_,1,rfl,rfl,JY _,by unfold maxLen;omega,fun _=>⟨g,0,_,_,_,rfl,Or.inl rfl,hB,fun j u hj=>by simpa using hj⟩⟩,fun j f' hf=>?_⟩
 match j,hf with
 | 0,hf=>simp at hf;subst hf;exact ⟨_,rfl,h⟩
theorem Zbn.nil [Old] (w:World):Zbn w (.slice none 0 0) []:=⟨[],X9.nil w _ _ none 0 (by simp),FrC.nil w⟩
end
end
def ZJ (base:Nat) (w:World) (v:Value) (zs:List Int):Prop:=w.ownsRow base 3 1 v zs.length (zs.map fun z=>Value.int .i64 z)∧∀z∈zs,-9223372036854775808≤z∧z≤9223372036854775807
theorem ZJ.below {base:Nat} {w w':World} {v:Value} {zs:List Int} (h:ZJ base w v zs) (hb:Below w.heap.size w w'):ZJ base w' v zs:=⟨own_below h.1 hb,h.2⟩
theorem ZJ.nil (base:Nat) (w:World):ZJ base w (.slice none 0 0) []:=⟨World.ownsRow_nil _ _ _ _,fun z hz=>by simp at hz⟩
theorem ZJ.monoB {base base':Nat} {w:World} {v:Value} {zs:List Int} (h:ZJ base w v zs) (hb:base'≤base):ZJ base' w v zs:=⟨WX h.1 hb,h.2⟩
theorem ZJ.but [Old] {base:Nat} {w w':World} {e:TypeId} {v:Value} {zs:List Int} (h:ZJ base w v zs) (hk:Zk e w w') (h1:3≠e):ZJ base w' v zs:=⟨hk.own h.1 h1,h.2⟩
theorem ZJ.ints {base:Nat} {w:World} {v:Value} {zs:List Int} (h:ZJ base w v zs):Vi w v zs:=by
 letI:Old:=⟨0⟩
 obtain ⟨A,c,hv,hl,hc,hm,a⟩:=X9.of_own h.1;refine ⟨A,c,hv,hc,hm,fun hp=>?_,h.2⟩;obtain ⟨b,d,cs,_,fz,hA,_,hb,hx⟩:=a hp;refine ⟨b,d,hA,fun i hi=>?_⟩;rw [cell_of_row w b (d+i) cs _ fz hb,hx i (.int .i64 (zs.getD i 0)) (by simp [List.getD,JQ hi])]
theorem ZJ.sliceN {base:Nat} {w:World} {v:Value} {zs:List Int} (h:ZJ base w v zs):∃A n c,v= .slice A n c:=by
 letI:Old:=⟨0⟩
 obtain ⟨A,c,hv,_⟩:=X9.of_own h.1;exact ⟨A,_,c,hv⟩
theorem info_intT:(Tryz.prog.info? 3).map (fun i=>(i.zero,i.size,i.bytes))=some (some (.int .i64 0),1,8):=by kernel_rfl
namespace Pl
def rfL (n:Nat) (f:Nat→RF):List RF:=(List.range n).map f
theorem Zq (n:Nat) (f:Nat→RF):(rfL n f).length=n:=by simp [rfL]
theorem Yt {n i:Nat} {f:Nat→RF} (h:i < n):(rfL n f)[i]? =some (f i):=by simp [rfL,h]
theorem YU {n:Nat} {f g:Nat→RF} (h:∀i,i < n→f i=g i):rfL n f=rfL n g:=by
 refine List.ext_getElem? fun i=>?_
 rcases JX i n with e | e
 ·rw [Yt e,Yt e,h i e]
 ·rw [JU (by rw [Zq];exact e),JU (by rw [Zq];exact e)]
theorem WN {n k:Nat} {f:Nat→RF} {q:RF} (h:k < n):(rfL n f).set k q=rfL n fun i=>if i=k then q else f i:=by
 refine List.ext_getElem? fun i=>?_
 rcases JX i n with e | e
 ·rw [Yt e,List.getElem?_set];by_cases g:k=i
  ·subst g;rw [if_pos rfl,Zq,if_pos h,if_pos rfl]
  ·rw [if_neg g,Yt e,if_neg fun g'=>g g'.symm]
 ·rw [JU (by rw [List.length_set,Zq];exact e),JU (by rw [Zq];exact e)]
theorem Zgw (n:Nat) (f:Nat→Rat):rfL n (fun i=>canF (f i))=YT n f:=rfl
theorem Zng {n i:Nat} {f:Nat→RF} (h:i < n):qAt (rfL n f) i=(f i).q:=UW (Yt h)
def Ztt (M:Nat→Nat→RF) (r i:Nat) (q:RF):Nat→Nat→RF:=fun s c=>if s=r∧c=i then q else M s c
end Pl
def VC [Old] (base:Nat) (w:World) (v:Value) (m n:Nat) (M:Nat→Nat→RF) (G C:Nat→Nat):Prop:=
 w.ownsRow base 77 1 v m (Zam m n G C)∧(∀r,r < m→YL base w (YP n G C r) (rfL n (M r)))∧∀r s,r < m→s < m→G r=G s→r=s
theorem VC.below [Old] {base:Nat} {w w':World} {v:Value} {m n:Nat} {M:Nat→Nat→RF} {G C:Nat→Nat} (h:VC base w v m n M G C) (hb:Below w.heap.size w w'):VC base w' v m n M G C:=
 ⟨own_below h.1 hb,fun r hr=>(h.2.1 r hr).below hb,h.2.2⟩
theorem VC.congr [Old] {base:Nat} {w:World} {v:Value} {m n:Nat} {M M':Nat→Nat→RF} {G C:Nat→Nat} (h:VC base w v m n M G C) (e:∀r c,r < m→c < n→M r c=M' r c):VC base w v m n M' G C:=
 ⟨h.1,fun r hr=>by rw [← YU (fun c hc=>e r c hr hc)];exact h.2.1 r hr,h.2.2⟩
theorem VC.nil [Old] (base:Nat) (w:World) (n:Nat) (M:Nat→Nat→RF) (G C:Nat→Nat):VC base w (.slice none 0 0) 0 n M G C:=
 ⟨World.ownsRow_nil _ _ _ _,fun r hr=>absurd hr (by omega),fun r s hr=>absurd hr (by omega)⟩
theorem VC.lt [Old] {base:Nat} {w:World} {v:Value} {m n:Nat} {M:Nat→Nat→RF} {G C:Nat→Nat} (h:VC base w v m n M G C) {r:Nat} (hr:r < m) (hn:0 < n):base≤G r∧G r < w.heap.size∧n≤C r∧C r≤9223372036854775807:=by
 obtain ⟨g,c,hv,h1,h2,h3,h4⟩:=(h.2.1 r hr).shape (by rw [Zq];exact hn);rw [Zq] at hv h3;unfold YP at hv;injection hv with e1 e2 e3;injection e1 with e1;injection e1 with e1;subst e1 e3;exact ⟨h1,h2,h3,h4⟩
theorem VC.outer [Old] {base:Nat} {w:World} {v:Value} {m n:Nat} {M:Nat→Nat→RF} {G C:Nat→Nat} (h:VC base w v m n M G C) (hm:0 < m):
 ∃g c,v= .slice (some ⟨g,0,none⟩) m c∧base≤g∧g < w.heap.size∧m≤c∧c≤9223372036854775807∧∀r,r < m→w.cell? ⟨g,r,none⟩=some (YP n G C r)∧w.frozen? ⟨g,r,none⟩=false:=by
 have h0:=h.1;rcases h.1.2 with ⟨rfl,e⟩ | ⟨g,cap,cur,rfl,hb,hg,hnc,hcm,hcs,htake⟩
 ·omega
 ·unfold maxLen at hcm;exact ⟨g,cap,rfl,hb,Ye hg,hnc,by omega,fun r hr=>Zw h0 (Y6 hr)⟩
theorem VC.shape [Old] {base:Nat} {w:World} {v:Value} {m n:Nat} {M:Nat→Nat→RF} {G C:Nat→Nat} (h:VC base w v m n M G C):∃A c,v= .slice A m c∧m≤c∧c≤9223372036854775807:=(X9.of_own h.1).shape
theorem VC.at_ [Old] {base:Nat} {w:World} {v:Value} {m n:Nat} {M:Nat→Nat→RF} {G C:Nat→Nat} (h:VC base w v m n M G C) {r c:Nat} (hr:r < m) (hc:c < n):
 ∃A1 n1 c1 A2 n2 c2,(w.cell? ⟨G r,c * 4,none⟩=some (.bool (M r c).num.neg)∧w.cell? ⟨G r,c * 4+1,none⟩=some (.slice A1 n1 c1)∧w.cell? ⟨G r,c * 4+2,none⟩=some (.bool (M r c).den.neg)∧w.cell? ⟨G r,c * 4+3,none⟩=some (.slice A2 n2 c2))∧Zm w (.agg #[.bool (M r c).num.neg,.slice A1 n1 c1,.bool (M r c).den.neg,.slice A2 n2 c2]) (M r c):=by
 obtain ⟨b,d,A1,n1,c1,A2,n2,c2,hA,_,a,hm⟩:=(h.2.1 r hr).frs.elem (JR _ _) (Yt hc);injection hA with hA;injection hA with e1 e2;subst e1 e2;simp only [Nat.zero_add] at a;exact ⟨A1,n1,c1,A2,n2,c2,a,hm⟩
theorem VC.frozen [Old] {base:Nat} {w:World} {v:Value} {m n:Nat} {M:Nat→Nat→RF} {G C:Nat→Nat} (h:VC base w v m n M G C) {r c:Nat} (hr:r < m) (hc:c < n):
 w.frozen? ⟨G r,c * 4,none⟩=false∧w.frozen? ⟨G r,c * 4+1,none⟩=false∧w.frozen? ⟨G r,c * 4+2,none⟩=false∧w.frozen? ⟨G r,c * 4+3,none⟩=false:=by
 obtain ⟨_,_,_,_,_,hf,_⟩:=(h.2.1 r hr).at_ (Yt hc);exact hf
theorem VC.set_ [Old] {base:Nat} {w:World} {v:Value} {m n:Nat} {M:Nat→Nat→RF} {G C:Nat→Nat} (h:VC base w v m n M G C) {r c:Nat} (hr:r < m) (hc:c < n) {x y z u:Value} {q:RF} (hf:Zm w (.agg #[x,y,z,u]) q) (hO:Old.n≤base:=by first | assumption | exact Nat.zero_le _ | omega | ((first | with_reducible refine Zb.le ?_ | with_reducible refine Zb.le1 ?_ | with_reducible refine Zb.le2 ?_ | with_reducible refine Zb.le3 ?_);repeat (first | assumption | exact Zb.up (by assumption) hOl | exact Zb.up (Hid.out (by assumption)) hOl | with_reducible refine Zb.set ?_ _ _ | with_reducible refine Zb.mk_ ?_ _ | with_reducible refine Zb.dr ?_ | with_reducible refine Zb.drN ?_ | refine Zb.up (by assumption) ?_ | refine Zb.up (Hid.out (by assumption)) ?_))):
 VC base ((((w.setCell ⟨G r,c * 4,none⟩ x).setCell ⟨G r,c * 4+1,none⟩ y).setCell ⟨G r,c * 4+2,none⟩ z).setCell ⟨G r,c * 4+3,none⟩ u) v m n (Ztt M r c q) G C∧
 Zk 36 w ((((w.setCell ⟨G r,c * 4,none⟩ x).setCell ⟨G r,c * 4+1,none⟩ y).setCell ⟨G r,c * 4+2,none⟩ z).setCell ⟨G r,c * 4+3,none⟩ u):=by
 obtain ⟨hs,hk⟩:=YL.set_ (h.2.1 r hr) (k:=c) (by rw [Zq];exact hc) hf;rw [WN hc] at hs;refine ⟨⟨hk.own h.1 (by decide),fun s hs'=>?_,h.2.2⟩,hk⟩;by_cases e:s=r
 ·subst e;have:rfL n (Ztt M s c q s)=rfL n (fun i=>if i=c then q else M s i):=YU fun i _=>by
   unfold Ztt;by_cases e:i=c
   ·rw [if_pos ⟨rfl,e⟩,if_pos e]
   ·rw [if_neg (by omega),if_neg e]
  rw [this];exact hs
 ·have:rfL n (Ztt M r c q s)=rfL n (M s):=YU fun i _=>by unfold Ztt;rw [if_neg (by omega)]
  rw [this];refine (h.2.1 s hs').others Yb (hk.keep (by decide)) fun b hb hne=>?_
  simp [YP,Value.ownBlock] at hb;injection hne with hne;exact e (h.2.2 s r hs' hr (by omega))
theorem VC.far [Old] {base:Nat} {w w':World} {v:Value} {m n:Nat} {M:Nat→Nat→RF} {G C:Nat→Nat} (h:VC base w v m n M G C) {g:Nat} (ho:ZN (some g) w w') (hk:Zk 36 w w') (hne:∀r,r < m→G r≠g):VC base w' v m n M G C:=
 ⟨hk.own h.1 (by decide),fun r hr=>(h.2.1 r hr).others ho (hk.keep (by decide)) fun b hb e=>by
  simp [YP,Value.ownBlock] at hb
  injection e with e
  exact hne r hr (by omega),h.2.2⟩
theorem VC.but [Old] {base:Nat} {w w':World} {v:Value} {m n:Nat} {M:Nat→Nat→RF} {G C:Nat→Nat} {e:TypeId} (h:VC base w v m n M G C) (hk:Zk e w w') (h1:77≠e) (h2:36≠e) (h3:106≠e):VC base w' v m n M G C:=
 ⟨hk.own h.1 h1,fun r hr=>(h.2.1 r hr).but hk h2 h3,h.2.2⟩
theorem VC.cellAt [Old] {base:Nat} {w:World} {m n:Nat} {M:Nat→Nat→RF} {G C:Nat→Nat} {g c:Nat} (h:VC base w (.slice (some ⟨g,0,none⟩) m c) m n M G C) {r:Nat} (hr:r < m):w.cell? ⟨g,r,none⟩=some (YP n G C r)∧w.frozen? ⟨g,r,none⟩=false:=Zw h.1 (Y6 hr)
namespace Pl
theorem zeroF_sm:zeroF.Sm:=(Ua 1).sm (by decide)
theorem Zar {es:List En} {i:Nat} (h:∀(k:Nat) (e:En),es[k]? =some e→e.idx≠(i:Int)) (f:Nat→Rat):dQ es f i=f i:=by
 induction es generalizing f with
 | nil=>rfl
 | cons e es ih=>
  rw [dQ,ih fun k d hd=>h (k+1) d (by simpa using hd)];rw [if_neg (h 0 e rfl)]
theorem Zas {es:List En} (h:Inc none es) {k i:Nat} {e:En} (he:es[k]? =some e) (hi:e.idx=(i:Int)):XZ es i=e.f.q:=by
 have b:∀(es:List En) (p:Option Int) (f:Nat→Rat) (k:Nat),Inc p es→es[k]? =some e→dQ es f i=e.f.q:=by
  intro es
  induction es with
  | nil=>intro p f k _ hk;simp at hk
  | cons c es ih=>
   intro p f k a hk
   match k,hk with
   | 0,hk=>
    simp at hk;subst hk;rw [dQ,Zar fun j d hd e2=>by
     have:=Zms a 0 (j+1) c d (by omega) rfl (by simpa using hd);omega,if_pos hi]
   | k+1,hk=>rw [dQ];exact ih _ _ k a.2 (by simpa using hk)
 exact b es none _ k h he
end Pl
theorem Vf [Old] (v:Value) (a:RF) (w:World) (h:Zm w v a) (hs:a.Sm) (hOl:Zb w:=by (repeat (first | assumption | exact Zb.up (by assumption) hOl | exact Zb.up (Hid.out (by assumption)) hOl | with_reducible refine Zb.set ?_ _ _ | with_reducible refine Zb.mk_ ?_ _ | with_reducible refine Zb.dr ?_ | with_reducible refine Zb.drN ?_ | refine Zb.up (by assumption) ?_ | refine Zb.up (Hid.out (by assumption)) ?_))):
 Calls Tryz.prog 72 #[v] w fun e w'=>∃v',e= .returned v'∧Zm w' v' (canF a.q)∧Below w.heap.size w w':=by
 have i:=hOl.le;obtain ⟨A,n,c,A',n',c',rfl,_,_⟩:=id h;obtain ⟨W,hW,_,hX,hR,f⟩:=Zjk w (.bool a.num.neg) (.slice A n c) (.bool a.den.neg) (.slice A' n' c') (.bool false) (.slice none 0 0) (.bool false) (.slice none 0 0);obtain ⟨p1,p2,p3,p4⟩:=hX.four;have e1:=h.below f;clear h;go_enter Tryz.func72,Tryz.ntmps72;go_wp2_with fail;clear hW;refine (Zhu _ _ a zeroF _ e1 (Zm.zero _) hs zeroF_sm).mono ?_;rw [zeroF_q,Rat.add_zero];rintro _ w1 ⟨v1,rfl,e2,g⟩;obtain ⟨B,m,d,B',m',d',rfl,_,_⟩:=id e2;have b:=hR.later g;obtain ⟨c0,c1,c2,c3⟩:=b.four;obtain ⟨f0,f1,f2,f3⟩:=b.fourF;go_wp2;refine Zn Tryz.results72 Tryz.underlying36 (by kernel_rfl) rfl (b.set4 _ _ _ _) rfl ?_;exact Yn b e2 (Za f g f.size) (by omega)
theorem Wq [Old] (v:Value) (fs:List RF) (K:Nat) (w:World) (h:Zbn w v fs) (hl:fs.length≤4096) (hk:RsL K fs) (hK:K≤34359738368) (hOl:Zb w:=by (repeat (first | assumption | exact Zb.up (by assumption) hOl | exact Zb.up (Hid.out (by assumption)) hOl | with_reducible refine Zb.set ?_ _ _ | with_reducible refine Zb.mk_ ?_ _ | with_reducible refine Zb.dr ?_ | with_reducible refine Zb.drN ?_ | refine Zb.up (by assumption) ?_ | refine Zb.up (Hid.out (by assumption)) ?_))):
 Calls Tryz.prog 42 #[v] w fun e w'=>∃v',e= .returned (.tuple #[v',.int .i64 0])∧Wz w.heap.size w' v' (spV (qAt fs) fs.length)∧Below w.heap.size w w':=by
 have N:=hOl.le;obtain ⟨A,c,rfl,R,S⟩:=h.shape;have H:=JZ h;have HK:=JZ hk;generalize hn:fs.length=n at *;have HN:=JZ hn;have O:(n:Int)≤4096:=by omega
 clear h hk hn;go_enter Tryz.func42,Tryz.ntmps42;go_wp2
 go_loopw [4,12] (fun u i wr=>∃k:Nat,k≤n∧i= .int .i64 k∧Wz w.heap.size wr u (spV (qAt fs) k)∧Below w.heap.size w wr) (fun _ i _=>n - (intOf i).toNat)
 case atStart=>exact ⟨0,by omega,rfl,Wz.nil _ _,JR _ _⟩
 case round=>
  obtain ⟨k,hk,rfl,hO,j⟩:=hrel;rcases JX k n with hkl | hkl
  ·obtain ⟨f,hf⟩:=Zcs (fs:=fs) (i:=k) (by rw [HN.out];exact hkl);obtain ⟨b,T,A1,n1,k1,A2,n2,k2,rfl,U,⟨q0,q1,q2,q3⟩,E⟩:=H.out.elem j hf;have HQ:=JZ (UW hf);have F:f.Sm:=(HK.out k f hf).sm hK;obtain ⟨W1,J,hX,o⟩:=Zah wr (.bool f.num.neg) (.slice A1 n1 k1) (.bool f.den.neg) (.slice A2 n2 k2);have P:(k:Int) < n:=(by omega);have r:=E.below o;have x:=hO.below o;have g:=Za j o j.size;obtain ⟨x0,x1,x2,x3⟩:=hX.four;clear hf E hO j;go_wp2_with fail;clear J q0 q1 q2 q3;refine (Yd _ f _ r).mono ?_;rintro _ w2 ⟨rfl,m⟩;have y:=hX.later m;have s:=x.below m;have a:=Za g m g.size;have z:=r.below m;clear x0 x1 x2 x3 hX x g r m o;by_cases hq:f.q=0
   ·have G:(qs f.q !=0)=false:=(by rw [hq];decide);have HS:Hid (spV (qAt fs) (k+1)=spV (qAt fs) k):=JZ (Y8 (by rw [HQ.out];exact hq));clear hq;go_wp2;go_roundw
    case rel=>exact ⟨k+1,by omega,by go_num,by rw [HS.out];exact s,a⟩
    case measure=>simp [intOf];omega
   ·have G:(qs f.q !=0)=true:=(by simpa using fun e=>hq (Yz.1 e));have HS:Hid (spV (qAt fs) (k+1)=spV (qAt fs) k++[⟨(k:Int),canF f.q⟩]):=JZ (by rw [← HQ.out];exact Xo (by rw [HQ.out];exact hq));clear hq;obtain ⟨x0,x1,x2,x3⟩:=y.four;go_wp2_with fail;refine (Vf _ f _ z F).mono ?_;rintro _ w3 ⟨v3,rfl,e3,t⟩;have C:=s.below t;have p:=Za a t a.size;obtain ⟨B,l,d,B',l',d',rfl,_,_⟩:=id e3;have HF:=JZ e3;have HO:=JZ C;have D:(spV (qAt fs) k).length+1≤1099511627776:=(by have:=Ve (f:=qAt fs) k;omega);have I:=p.size;clear s C a t e3 x0 x1 x2 x3 y z;generalize hQ:canF f.q=Q at *;go_wp2_with (at_builtin;refine Vy rfl (.tmp 20) (.tmp 25) rfl w3 w.heap.size u4 (spV (qAt fs) k) rfl HO.out _ _ B B' l d l' d' (k:Int) Q HF.out rfl D I ?_);intro v' w4 L V M;go_wp2;go_roundw
    case rel=>exact ⟨k+1,by omega,by go_num,by rw [HS.out];exact L,p.trans M⟩
    case measure=>simp [intOf];omega
  ·obtain rfl:k=n:=by omega
   go_wp2;go_ret2;exact ⟨_,rfl,hO,j⟩
namespace Pl
def Znh (n i:Nat) (es:List En):List RF:=rfL n fun j=>if j < i then canF (XZ es j) else zeroF
theorem Zni (n:Nat) (es:List En):Znh n 0 es=List.replicate n zeroF:=by
 refine List.ext_getElem? fun i=>?_
 rcases JX i n with e | e
 ·unfold Znh;rw [Yt e,List.getElem?_replicate,if_pos e,if_neg (by omega)]
 ·unfold Znh;rw [JU (by rw [Zq];exact e),JU (by simpa using e)]
theorem Zat {n i:Nat} {es:List En} (hi:i < n):(Znh n i es).set i (canF (XZ es i))=Znh n (i+1) es:=by
 unfold Znh;rw [WN hi];exact YU fun j _=>by
  by_cases e:j=i
  ·rw [if_pos e,if_pos (by omega),e]
  ·rw [if_neg e];by_cases g:j < i
   ·rw [if_pos g,if_pos (by omega)]
   ·rw [if_neg g,if_neg (by omega)]
theorem Zqj (n:Nat) (es:List En):Znh n n es=YT n (XZ es):=by
 unfold Znh;rw [← Zgw];exact YU fun j hj=>by rw [if_pos hj]
theorem VD (n i:Nat) (es:List En):(Znh n i es).length=n:=Zq _ _
theorem Zqk {n i j:Nat} {es:List En} (h:j < n):(Znh n i es)[j]? =some (if j < i then canF (XZ es j) else zeroF):=Yt h
def X7 (es:List En) (i t:Nat):Prop:=t≤es.length∧∀(k:Nat) (e:En),es[k]? =some e→(k < t↔e.idx < (i:Int))
theorem X7.zero {n:Nat} {es:List En} (h:Good n es):X7 es 0 0:=⟨Nat.zero_le _,fun k e he=>by have:=h.1 k e he;omega⟩
theorem X7.hit {n i t:Nat} {es:List En} (g:Good n es) (h:X7 es i t) {e:En} (he:es[t]? =some e) (hi:e.idx=(i:Int)):X7 es (i+1) (t+1)∧XZ es i=e.f.q:=by
 have ht:t < es.length:=(List.getElem?_eq_some_iff.1 he).1;refine ⟨⟨by omega,fun k d hd=>?_⟩,Zas g.2.1 he hi⟩;have h1:=h.2 k d hd;rcases Nat.lt_trichotomy k t with c | c | c
 ·have:=h1.1 c;omega
 ·subst c;rw [he] at hd;injection hd with hd;subst hd;omega
 ·have:=Zms g.2.1 t k e d c he hd;omega
theorem X7.miss {i t:Nat} {es:List En} (h:X7 es i t) (hm:∀e,es[t]? =some e→e.idx≠(i:Int)) (hinc:Inc none es):X7 es (i+1) t∧XZ es i=0:=by
 have a:∀(k:Nat) (d:En),es[k]? =some d→¬k < t→d.idx≠(i:Int):=fun k d hd hk e=>by
  rcases Nat.eq_or_lt_of_le (Nat.not_lt.1 hk) with c | c
  ·subst c;exact hm d hd e
  ·have ht:t < es.length:=(by have:=(List.getElem?_eq_some_iff.1 hd).1;omega);have h1:=Zms hinc t k _ d c (JQ ht) hd;have h2:¬(es[t]'ht).idx < (i:Int):=fun q=>Nat.lt_irrefl t ((h.2 t _ (JQ ht)).2 q)
   have h3:=hm _ (JQ ht);omega
 refine ⟨⟨h.1,fun k d hd=>?_⟩,Zar (fun k d hd=>?_) _⟩
 ·have h1:=h.2 k d hd;by_cases c:k < t
  ·have:=h1.1 c;omega
  ·have:=a k d hd c;omega
 ·by_cases c:k < t
  ·have:=(h.2 k d hd).1 c;omega
  ·exact a k d hd c
end Pl
theorem Zgx [Old] (v:Value) (es:List En) (n K:Nat) (w:World) (h:Wy w v es) (hn:n≤4096) (hk:∀(k:Nat) (e:En),es[k]? =some e→e.f.Rs K) (hK:K≤34359738368) (hg:Pl.Good n es) (hOl:Zb w:=by (repeat (first | assumption | exact Zb.up (by assumption) hOl | exact Zb.up (Hid.out (by assumption)) hOl | with_reducible refine Zb.set ?_ _ _ | with_reducible refine Zb.mk_ ?_ _ | with_reducible refine Zb.dr ?_ | with_reducible refine Zb.drN ?_ | refine Zb.up (by assumption) ?_ | refine Zb.up (Hid.out (by assumption)) ?_))):
 Calls Tryz.prog 41 #[v,.int .i64 (n:Int)] w fun e w'=>∃v',e= .returned (.tuple #[v',.int .i64 0])∧YL w.heap.size w' v' (YT n (XZ es))∧Below w.heap.size w w':=by
 have X:=hOl.le;obtain ⟨A,c,rfl,a2,a3⟩:=h.shape;have H:=JZ h;have HK:=JZ hk;have HG:=JZ hg;have HE:=JZ (hg.err hn);generalize hl:es.length=l at *;have HL:=JZ hl;have S:Hid (EnI es):=JZ fun k e he=>by have:=hg.1 k e he;omega
 have Y:Hid (∀(k:Nat) (e:En),es[k]? =some e→e.idx=(e.idx.toNat:Int)∧e.idx < n):=JZ fun k e he=>by have:=hg.1 k e he;omega
 have Z:=X5 n (by omega);clear hk hg hl;go_enter Tryz.func41,Tryz.ntmps41;go_wp2_with fail;refine (XP _ es (n:Int) _ h S.out (by omega) (by omega)).mono ?_;rw [HE.out];rintro _ w1 ⟨rfl,M⟩;have F:=YL.zeros w1 n (by unfold maxLen;omega);have G:=Zd w1 (.cells (zfc n) 36);rw [← Zni n es] at F;clear h;go_wp2;have N:=Za M G M.size;have E:=M.size;generalize w1.alloc (.cells (zfc n) 36)=W2 at *
 go_loopw [8,20] (fun x i wr=>∃k t:Nat,k≤n∧x= .int .i64 t∧i= .int .i64 k∧Below w.heap.size w wr∧Below w1.heap.size w1 wr∧X7 es k t∧YL w1.heap.size wr (.slice (some ⟨w1.heap.size,0,none⟩) n n) (Znh n k es)) (fun _ i _=>n - (intOf i).toNat)
 case atStart=>exact ⟨0,0,by omega,rfl,rfl,N,G,X7.zero HG.out,F⟩
 case round=>
  clear N G F;obtain ⟨k,t,hk,rfl,rfl,j,a,J,hO⟩:=hrel;have I:=JZ J;have a0:t≤l:=by rw [← HL.out];exact J.1
  clear J;rcases JX k n with hkl | hkl
  ·have a1:(k:Int) < n:=(by omega);have y:=Zqk (n:=n) (i:=k) (es:=es) hkl;rcases JX t l with htl2 | htl2
   ·obtain ⟨e,he⟩:=YS (es:=es) (i:=t) (by rw [HL.out];exact htl2);obtain ⟨b,a4,A1,n1,k1,A2,n2,k2,rfl,a5,⟨x0,x1,x2,x3,x4⟩,L⟩:=H.out.elem j he;have T:(t:Int) < l:=(by omega);by_cases D:e.idx=(k:Int)
    ·obtain ⟨r,s⟩:=X7.hit HG.out I.out he D;have z:=JZ r;have C:Hid (canF e.f.q=canF (XZ es k)):=JZ (by rw [s]);have U:e.f.Sm:=(HK.out t e he).sm hK;obtain ⟨ei,ef⟩:=e;simp only at *;subst D;clear he r s;go_wp2_with fail;refine (Vf _ ef _ L U).mono ?_;rw [C.out];rintro _ w3 ⟨v3,rfl,e3,g⟩;obtain ⟨B,l9,d9,B',O,P,rfl,_,_⟩:=id e3;have m:=hO.below g;obtain ⟨_,_,_,_,⟨t0,t1,t2,t3⟩,⟨f0,f1,f2,f3⟩,_⟩:=m.at_ y;obtain ⟨u,R⟩:=m.set_ (k:=k) (by rw [VD];exact hkl) e3;rw [Zat hkl] at u;have o:=ZB (Za j g j.size) E (k * 4) (k * 4+1) (k * 4+2) (k * 4+3);have p:=ZB (Za a g a.size) (JY _) (k * 4) (k * 4+1) (k * 4+2) (k * 4+3);clear x0 x1 x2 x3 x4 L hO j a g;go_wp2;go_roundw
     case rel=>exact ⟨k+1,t+1,by omega,by go_num,by go_num,o _ _ _ _,p _ _ _ _,z.out,u⟩
     case measure=>simp [intOf];omega
    ·obtain ⟨r,s⟩:=X7.miss I.out (fun d hd=>by rw [he] at hd;injection hd with hd;subst hd;exact D) HG.out.2.1;have z:=JZ r;have C:Hid (canF zeroF.q=canF (XZ es k)):=JZ (by rw [s,zeroF_q]);obtain ⟨ei,ef⟩:=e;simp only at *;have V:(ei==(k:Int))=false:=(by simpa using D);clear he r s D;go_wp2_with fail;refine (Vf _ zeroF _ (Zm.zero _) zeroF_sm).mono ?_;rw [C.out];rintro _ w3 ⟨v3,rfl,e3,g⟩;obtain ⟨B,l9,d9,B',O,P,rfl,_,_⟩:=id e3;have m:=hO.below g;obtain ⟨_,_,_,_,⟨t0,t1,t2,t3⟩,⟨f0,f1,f2,f3⟩,_⟩:=m.at_ y;obtain ⟨u,R⟩:=m.set_ (k:=k) (by rw [VD];exact hkl) e3;rw [Zat hkl] at u;have o:=ZB (Za j g j.size) E (k * 4) (k * 4+1) (k * 4+2) (k * 4+3);have p:=ZB (Za a g a.size) (JY _) (k * 4) (k * 4+1) (k * 4+2) (k * 4+3);clear x0 x1 x2 x3 x4 L hO j a g;go_wp2;go_roundw
     case rel=>exact ⟨k+1,t,by omega,rfl,by go_num,o _ _ _ _,p _ _ _ _,z.out,u⟩
     case measure=>simp [intOf];omega
   ·obtain ⟨r,s⟩:=X7.miss I.out (fun d hd=>by have:=(List.getElem?_eq_some_iff.1 hd).1;have:=HL.out;omega) HG.out.2.1;have z:=JZ r;have C:Hid (canF zeroF.q=canF (XZ es k)):=JZ (by rw [s,zeroF_q]);have T:(l:Int)≤t:=(by omega);clear r s;go_wp2_with fail;refine (Vf _ zeroF _ (Zm.zero _) zeroF_sm).mono ?_;rw [C.out];rintro _ w3 ⟨v3,rfl,e3,g⟩;obtain ⟨B,l9,d9,B',O,P,rfl,_,_⟩:=id e3;have m:=hO.below g;obtain ⟨_,_,_,_,⟨t0,t1,t2,t3⟩,⟨f0,f1,f2,f3⟩,_⟩:=m.at_ y;obtain ⟨u,R⟩:=m.set_ (k:=k) (by rw [VD];exact hkl) e3;rw [Zat hkl] at u;have o:=ZB (Za j g j.size) E (k * 4) (k * 4+1) (k * 4+2) (k * 4+3);have p:=ZB (Za a g a.size) (JY _) (k * 4) (k * 4+1) (k * 4+2) (k * 4+3);clear hO j a g;go_wp2;go_roundw
    case rel=>exact ⟨k+1,t,by omega,rfl,by go_num,o _ _ _ _,p _ _ _ _,z.out,u⟩
    case measure=>simp [intOf];omega
  ·obtain rfl:n=k:=by omega
   rw [Zqj] at hO;go_wp2;go_ret2;exact ⟨_,rfl,hO.monoB E,j⟩
def Znj (cs:List Value) (j:Nat) (t x y z u:Value):List Value:=((((cs.set j t).set (j+1) x).set (j+2) y).set (j+3) z).set (j+4) u
theorem EnC.set_ [Old] {w:World} {cs:List Value} {es:List En} (h:EnC w cs es) {k:Nat} (hk:k < es.length) {x y z u:Value} {e:En} (hf:Zm w (.agg #[x,y,z,u]) e.f):EnC w (Znj cs (k * 5) (.int .i64 e.idx) x y z u) (es.set k e):=by
 have hl:=h.1;refine ⟨by simp [Znj,hl],fun j g hg=>?_⟩;by_cases a:j=k
 ·subst a;rw [List.getElem?_set_self hk] at hg;injection hg with hg;subst hg;refine ⟨x,y,z,u,?_,?_,?_,?_,?_,hf⟩ <;> unfold Znj
  ·rw [List.getElem?_set_ne (by omega),List.getElem?_set_ne (by omega),List.getElem?_set_ne (by omega),List.getElem?_set_ne (by omega),List.getElem?_set_self (by omega)]
  ·rw [List.getElem?_set_ne (by omega),List.getElem?_set_ne (by omega),List.getElem?_set_ne (by omega),List.getElem?_set_self (by simp;omega)]
  ·rw [List.getElem?_set_ne (by omega),List.getElem?_set_ne (by omega),List.getElem?_set_self (by simp;omega)]
  ·rw [List.getElem?_set_ne (by omega),List.getElem?_set_self (by simp;omega)]
  ·rw [List.getElem?_set_self (by simp;omega)]
 ·rw [List.getElem?_set_ne (Ne.symm a)] at hg;obtain ⟨x',y',z',u',h0,h1,h2,h3,h4,h5⟩:=h.2 j g hg;refine ⟨x',y',z',u',?_,?_,?_,?_,?_,h5⟩ <;> unfold Znj <;> rw [List.getElem?_set_ne (by omega),List.getElem?_set_ne (by omega),List.getElem?_set_ne (by omega),List.getElem?_set_ne (by omega),List.getElem?_set_ne (by omega)] <;> assumption
theorem Wz.at_ [Old] {base:Nat} {w:World} {g n c:Nat} {es:List En} (h:Wz base w (.slice (some ⟨g,0,none⟩) n c) es) {k:Nat} {e:En} (he:es[k]? =some e):
 ∃x y z u,(w.cell? ⟨g,k * 5,none⟩=some (.int .i64 e.idx)∧w.cell? ⟨g,k * 5+1,none⟩=some x∧w.cell? ⟨g,k * 5+2,none⟩=some y∧w.cell? ⟨g,k * 5+3,none⟩=some z∧w.cell? ⟨g,k * 5+4,none⟩=some u)∧(w.frozen? ⟨g,k * 5,none⟩=false∧w.frozen? ⟨g,k * 5+1,none⟩=false∧w.frozen? ⟨g,k * 5+2,none⟩=false∧w.frozen? ⟨g,k * 5+3,none⟩=false∧w.frozen? ⟨g,k * 5+4,none⟩=false)∧Zm w (.agg #[x,y,z,u]) e.f:=by
 obtain ⟨cs,h1,h2⟩:=h;have hn:n=es.length:=(X9.of_own h1).len;subst hn;obtain ⟨x,y,z,u,c0,c1,c2,c3,c4,hm⟩:=h2.2 k e he;exact ⟨x,y,z,u,⟨(Zw h1 c0).1,(Zw h1 c1).1,(Zw h1 c2).1,(Zw h1 c3).1,(Zw h1 c4).1⟩,⟨(Zw h1 c0).2,(Zw h1 c1).2,(Zw h1 c2).2,(Zw h1 c3).2,(Zw h1 c4).2⟩,hm⟩
theorem Wz.set_ [Old] {base:Nat} {w:World} {g n c:Nat} {es:List En} (h:Wz base w (.slice (some ⟨g,0,none⟩) n c) es) {k:Nat} (hk:k < es.length) {x y z u:Value} {e:En} (hf:Zm w (.agg #[x,y,z,u]) e.f) (hO:Old.n≤base:=by first | assumption | exact Nat.zero_le _ | omega | ((first | with_reducible refine Zb.le ?_ | with_reducible refine Zb.le1 ?_ | with_reducible refine Zb.le2 ?_ | with_reducible refine Zb.le3 ?_);repeat (first | assumption | exact Zb.up (by assumption) hOl | exact Zb.up (Hid.out (by assumption)) hOl | with_reducible refine Zb.set ?_ _ _ | with_reducible refine Zb.mk_ ?_ _ | with_reducible refine Zb.dr ?_ | with_reducible refine Zb.drN ?_ | refine Zb.up (by assumption) ?_ | refine Zb.up (Hid.out (by assumption)) ?_))):
 Wz base (((((w.setCell ⟨g,k * 5,none⟩ (.int .i64 e.idx)).setCell ⟨g,k * 5+1,none⟩ x).setCell ⟨g,k * 5+2,none⟩ y).setCell ⟨g,k * 5+3,none⟩ z).setCell ⟨g,k * 5+4,none⟩ u) (.slice (some ⟨g,0,none⟩) n c) (es.set k e)∧
 Zk 39 w (((((w.setCell ⟨g,k * 5,none⟩ (.int .i64 e.idx)).setCell ⟨g,k * 5+1,none⟩ x).setCell ⟨g,k * 5+2,none⟩ y).setCell ⟨g,k * 5+3,none⟩ z).setCell ⟨g,k * 5+4,none⟩ u):=by
 obtain ⟨cs,h1,h2⟩:=h;have hn:n=es.length:=(X9.of_own h1).len;subst hn;have hl:=h2.1;have o1:=YJ h1 (k * 5) (.int .i64 e.idx) (by omega);have o2:=YJ o1 (k * 5+1) x (by simp;omega);have o3:=YJ o2 (k * 5+2) y (by simp;omega);have o4:=YJ o3 (k * 5+3) z (by simp;omega);have o5:=YJ o4 (k * 5+4) u (by simp;omega);obtain ⟨_,b0,_⟩:=ZI h1;obtain ⟨_,b1,_⟩:=ZI o1;obtain ⟨_,b2,_⟩:=ZI o2;obtain ⟨_,b3,_⟩:=ZI o3;obtain ⟨_,b4,_⟩:=ZI o4;have kp:=((((Zk.setCell b0 (k * 5) (.int .i64 e.idx)).trans (Zk.setCell b1 (k * 5+1) x)).trans (Zk.setCell b2 (k * 5+2) y)).trans (Zk.setCell b3 (k * 5+3) z)).trans (Zk.setCell b4 (k * 5+4) u);have kd:=kp.keep (by decide);refine ⟨⟨Znj cs (k * 5) (.int .i64 e.idx) x y z u,by rw [List.length_set];exact o5,?_⟩,kp⟩;exact (h2.keep kd).set_ hk (hf.keep kd)
def zec (n:Nat):Array Value:=madeCells (Value.cells (.agg #[.int .i64 0,.bool false,.slice none 0 0,.bool false,.slice none 0 0])) (n * 5)
theorem Zew {n k j:Nat} (hk:k < n) (hj:j < 5):(zec n)[k * 5+j]? =([.int .i64 0,.bool false,.slice none 0 0,.bool false,.slice none 0 0]:List Value)[j]? :=by
 have a:k * 5+j < n * 5:=by omega
 have hm:(k * 5+j) % 5=j:=by omega
 unfold zec madeCells;simp [a,Value.cells,hm]
 match j,hj with
 | 0,_=>rfl
 | 1,_=>rfl
 | 2,_=>rfl
 | 3,_=>rfl
 | 4,_=>rfl
theorem Wz.zeros [Old] (w:World) (n:Nat) (hn:n≤maxLen):Wz w.heap.size (w.alloc (.cells (zec n) 39)) (.slice (some ⟨w.heap.size,0,none⟩) n n) (List.replicate n ⟨0,zeroF⟩):=by
 have a:(zec n).size=n * 5:=size_madeCells _ _;refine ⟨(zec n).toList,⟨by simp [a],.inr ⟨w.heap.size,n,zec n,by simp,JY _,heap_alloc_new w _,by simp,hn,a,?_⟩⟩,by simp [a],fun k f hf=>?_⟩
 ·rw [List.take_of_length_le (by simp [a])]
 ·rw [List.getElem?_replicate] at hf;split at hf
  ·rename_i hk
   injection hf with hf;subst hf;refine ⟨_,_,_,_,?_,?_,?_,?_,?_,Zm.zero _⟩
   ·have:=Zew (j:=0) hk (by decide);simpa using this
   ·have:=Zew (j:=1) hk (by decide);simpa using this
   ·have:=Zew (j:=2) hk (by decide);simpa using this
   ·have:=Zew (j:=3) hk (by decide);simpa using this
   ·have:=Zew (j:=4) hk (by decide);simpa using this
  ·cases hf
theorem Zkb (n:Nat) (hn:n≤1099511627776) (w:World):
 (Instr.makeSlice 28 (.int .i64 (n:Int)) (.int .i64 (n:Int))).run Tryz.prog w= .ok (.slice (some ⟨w.heap.size,0,none⟩) n n) (w.alloc (.cells (zec n) 39)):=by
 obtain ⟨i0,hi,a,b,c⟩:=info_parts info_entry;have hb:(i0.bytes:Int) * (n:Int)≤281474976710656:=by rw [c];omega
 have hr:=run_make (P:=Tryz.prog) w 28 39 i0 _ Tryz.underlying28 hi a .i64 .i64 n n (by omega) (by omega) hb (by omega);simp only [JP,b] at hr;exact hr
namespace Pl
def Zla (es:List En):List En:=es.map fun e=>⟨e.idx,canF e.f.q⟩
def Zex (es:List En):Nat→List En
 | 0=>List.replicate es.length ⟨0,zeroF⟩
 | k+1=>match es[k]? with
  | some e=>(Zex es k).set k ⟨e.idx,canF e.f.q⟩
  | none=>Zex es k
theorem Znk {es:List En} {k:Nat} {e:En} (h:es[k]? =some e):Zex es (k+1)=(Zex es k).set k ⟨e.idx,canF e.f.q⟩:=by
 conv=>lhs;unfold Zex
 simp only [h]
theorem Ws (es:List En):∀k,(Zex es k).length=es.length
 | 0=>by simp [Zex]
 | k+1=>by
  have ih:=Ws es k
  unfold Zex
  split
  ·rw [List.length_set];exact ih
  ·exact ih
theorem Zcz (es:List En) (i:Nat):∀k,i < k→(Zex es k)[i]? =(Zla es)[i]?
 | 0,h=>absurd h (Nat.not_lt_zero _)
 | k+1,h=>by
  have hl:=Ws es k
  unfold Zex
  split
  ·rename_i e he
   have hk:=(List.getElem?_eq_some_iff.1 he).1
   rw [List.getElem?_set]
   by_cases c:k=i
   ·subst c;rw [if_pos rfl,if_pos (by omega),Zla,List.getElem?_map,he];rfl
   ·rw [if_neg c];exact Zcz es i k (by omega)
  ·rename_i he
   have hk:=List.getElem?_eq_none_iff.1 he
   by_cases c:k=i
   ·subst c;rw [JU (by omega),JU (by simp [Zla];omega)]
   ·exact Zcz es i k (by omega)
theorem Zql (es:List En):Zex es es.length=Zla es:=by
 refine List.ext_getElem? fun i=>?_
 by_cases c:i < es.length
 ·exact Zcz es i _ c
 ·rw [JU (by rw [Ws];omega),JU (by simp [Zla];omega)]
end Pl
theorem Zkc {n g:Nat} {w w':World} (h:Below n w w') (hg:n≤g) (i j k l m:Nat) (t x y z u:Value):Below n w (((((w'.setCell ⟨g,i,none⟩ t).setCell ⟨g,j,none⟩ x).setCell ⟨g,k,none⟩ y).setCell ⟨g,l,none⟩ z).setCell ⟨g,m,none⟩ u):=((((h.setCell hg _).setCell hg _).setCell hg _).setCell hg _).setCell hg _
theorem Zbp [Old] (vb:Value) (es:List En) (K:Nat) (w:World) (h2:Wy w vb es) (ha:∀(k:Nat) (e:En),es[k]? =some e→e.f.Rs K) (hK:K≤34359738368) (hlen:es.length≤1099511627776) (hOl:Zb w:=by (repeat (first | assumption | exact Zb.up (by assumption) hOl | exact Zb.up (Hid.out (by assumption)) hOl | with_reducible refine Zb.set ?_ _ _ | with_reducible refine Zb.mk_ ?_ _ | with_reducible refine Zb.dr ?_ | with_reducible refine Zb.drN ?_ | refine Zb.up (by assumption) ?_ | refine Zb.up (Hid.out (by assumption)) ?_))):
 Calls Tryz.prog 37 #[vb] w fun o w'=>∃v',o= .returned v'∧Wz w.heap.size w' v' (Zla es)∧Below w.heap.size w w':=by
 have L:=hOl.le;obtain ⟨A,c,rfl,O,P⟩:=h2.shape;generalize hn:es.length=l at *;have HN:=JZ hn;have HA:=JZ ha;have H2:=JZ h2;have z:Hid (Zex es l=Zla es):=JZ (by rw [← hn];exact Zql es);have M:=Zkb l hlen;have p:=Wz.zeros w l (by unfold maxLen;omega);have r:=Zd w (.cells (zec l) 39);have HO:Hid (Wz w.heap.size (w.alloc (.cells (zec l) 39)) (.slice (some ⟨w.heap.size,0,none⟩) l l) (Zex es 0)):=JZ (by unfold Zex;rw [hn];exact p);clear hn ha h2 p;go_enter Tryz.func37,Tryz.ntmps37;go_wp2;generalize w.alloc (.cells (zec l) 39)=W at *
 go_loopw [11] (fun i wr=>∃k:Nat,k≤l∧i= .int .i64 k∧Wz w.heap.size wr (.slice (some ⟨w.heap.size,0,none⟩) l l) (Zex es k)∧Below w.heap.size w wr) (fun i _=>l - (intOf i).toNat)
 case atStart=>exact ⟨0,by omega,rfl,HO.out,r⟩
 case round=>
  clear r;obtain ⟨k,hk,rfl,hO,a⟩:=hrel;rcases JX k l with hkl | hkl
  ·obtain ⟨e,he⟩:=YS (es:=es) (i:=k) (by rw [HN.out];exact hkl);obtain ⟨b,R,A1,n1,k1,A2,n2,k2,rfl,S,⟨x0,x1,x2,x3,x4⟩,x⟩:=H2.out.elem a he;have s:k < (Zex es k).length:=(by rw [Ws,HN.out];exact hkl);obtain ⟨fj,G⟩:=YS (es:=Zex es k) (i:=k) s;have B:=JZ (Znk he);have d:=HA.out k e he;obtain ⟨ei,f⟩:=e;simp only at *;have C:=d.sm hK;have HV:Hid (f.q+zeroF.q=f.q):=JZ (by rw [zeroF_q];grind);obtain ⟨W1,H,hV,m⟩:=Zid wr (.int .i64 ei) (.bool f.num.neg) (.slice A1 n1 k1) (.bool f.den.neg) (.slice A2 n2 k2);have D:=hO.below m;have F:=x.below m;have g:=Za a m a.size;obtain ⟨v0,v1,v2,v3,v4⟩:=hV.five;have N:(k:Int) < l:=(by omega);clear he hO a x d
   go_upto_region 5 with (fail)
   clear H;have D0:=Zr v0;have D1:=Zr v1;have D2:=Zr v2;have D3:=Zr v3;have D4:=Zr v4;have h:=Zj W1;clear v0 v1 v2 v3 v4 x0 x1 x2 x3 x4;refine Zt 10 [0,1,2,3,4,5,6,7,8,9,10] (by kernel_rfl) (by kernel_rfl) ?_;repeat ((first | (refine Zc (v:=?_) rfl rfl rfl ?_ ?_;rotate_left;(· (intro _ n;go_simp;(try go_bits);(try with_reducible rfl)))) | (refine Ze (v:=?_) rfl rfl rfl ?_ ?_;rotate_left;(· (intro _ n;go_simp;(try go_bits);(try with_reducible rfl)))) | refine Zf rfl rfl rfl ?_);(try simp only [Act.put,pu1,pu2,pu3,pu4,pu5,pu6]))
   refine Zg rfl rfl (fun KR hKR=>?_);go_simp;(with_reducible refine (Zhu _ _ f zeroF _ (F.below h) (Zm.zero _) C zeroF_sm).mono ?_);rw [HV.out];rintro _ w7 ⟨v7,rfl,e7,I⟩;have j:=Za h I h.size;obtain ⟨E,l9,k9,E',T,U,rfl,_,_⟩:=id e7;have t:=D.below j;obtain ⟨_,_,_,_,⟨c0,c1,c2,c3,c4⟩,⟨f0,f1,f2,f3,f4⟩,_⟩:=t.at_ G;refine hKR.out _ _ (Or.inr j) ?_;clear hKR KR;(try simp only [Act.put,pu1,pu2,pu3,pu4,pu5,pu6]);repeat ((first | (refine Zc (v:=?_) rfl rfl rfl ?_ ?_;rotate_left;(· (intro _ n;go_simp;(try go_bits);(try with_reducible rfl)))) | (refine Ze (v:=?_) rfl rfl rfl ?_ ?_;rotate_left;(· (intro _ n;go_simp;(try go_bits);(try with_reducible rfl)))) | refine Zf rfl rfl rfl ?_);(try simp only [Act.put,pu1,pu2,pu3,pu4,pu5,pu6]))
   refine Zg rfl rfl (fun KR hKR=>?_);go_simp;refine hKR.out _ _ (Or.inl (by decide)) ?_;clear hKR KR;(try simp only [Act.put,pu1,pu2,pu3,pu4,pu5,pu6]);refine Zv ?_;clear D0 D1 D2 D3 D4;obtain ⟨y,J⟩:=t.set_ (e:=⟨ei,canF f.q⟩) s e7;have u:=Zkc (Za g j g.size) (JY _) (k * 5) (k * 5+1) (k * 5+2) (k * 5+3) (k * 5+4);rw [← B.out] at y;go_wp2;go_roundw
   case rel=>exact ⟨k+1,by omega,by go_num,y,u _ _ _ _ _⟩
   case measure=>simp [intOf];omega
  ·obtain rfl:k=l:=by omega
   rw [z.out] at hO;go_wp2;go_ret;exact ⟨_,rfl,hO,a⟩
theorem Yl.at_ [Old] {base:Nat} {w:World} {g n c:Nat} {cols:List (List En)} (h:Yl base w (.slice (some ⟨g,0,none⟩) n c) cols) {k:Nat} {es:List En} (he:cols[k]? =some es):
 ∃u,w.cell? ⟨g,k,none⟩=some u∧w.frozen? ⟨g,k,none⟩=false∧Wy w u es:=by
 obtain ⟨cs,h1,h2⟩:=h;have hn:n=cols.length:=(X9.of_own h1).len;subst hn;obtain ⟨u,c0,hm⟩:=h2 k es he;exact ⟨u,(Zw h1 c0).1,(Zw h1 c0).2,hm⟩
theorem Yl.set_ [Old] {base:Nat} {w:World} {g n c:Nat} {cols:List (List En)} (h:Yl base w (.slice (some ⟨g,0,none⟩) n c) cols) {k:Nat} (hk:k < cols.length) {u:Value} {es:List En} (hu:Wy w u es) (hO:Old.n≤base:=by first | assumption | exact Nat.zero_le _ | omega | ((first | with_reducible refine Zb.le ?_ | with_reducible refine Zb.le1 ?_ | with_reducible refine Zb.le2 ?_ | with_reducible refine Zb.le3 ?_);repeat (first | assumption | exact Zb.up (by assumption) hOl | exact Zb.up (Hid.out (by assumption)) hOl | with_reducible refine Zb.set ?_ _ _ | with_reducible refine Zb.mk_ ?_ _ | with_reducible refine Zb.dr ?_ | with_reducible refine Zb.drN ?_ | refine Zb.up (by assumption) ?_ | refine Zb.up (Hid.out (by assumption)) ?_))):
 Yl base (w.setCell ⟨g,k,none⟩ u) (.slice (some ⟨g,0,none⟩) n c) (cols.set k es)∧Zk 28 w (w.setCell ⟨g,k,none⟩ u):=by
 obtain ⟨cs,h1,h2⟩:=h;have hn:n=cols.length:=(X9.of_own h1).len;subst hn;have hl:cs.length=cols.length * 1:=h1.1;have o1:=YJ h1 k u (by omega);obtain ⟨_,b0,_⟩:=ZI h1;have kp:=Zk.setCell b0 k u;refine ⟨⟨cs.set k u,by rw [List.length_set];exact o1,fun j d hd=>?_⟩,kp⟩;rw [List.getElem?_set] at hd;by_cases c:k=j
 ·subst c;rw [if_pos rfl,if_pos hk] at hd;injection hd with hd;subst hd;exact ⟨u,List.getElem?_set_self (by omega),hu.but kp (by decide) (by decide)⟩
 ·rw [if_neg c] at hd;obtain ⟨u',hc,hm⟩:=h2 j d hd;exact ⟨u',by rw [List.getElem?_set_ne c];exact hc,hm.but kp (by decide) (by decide)⟩
def zvc (n:Nat):Array Value:=madeCells (Value.cells (.slice none 0 0)) (n * 1)
theorem Zsd {n k:Nat} (hk:k < n):(zvc n)[k]? =some (.slice none 0 0):=by
 have a:k < n * 1:=by omega
 unfold zvc madeCells;simp [hk,Value.cells,Nat.mod_one]
theorem Yl.zeros [Old] (w:World) (n:Nat) (hn:n≤maxLen):Yl w.heap.size (w.alloc (.cells (zvc n) 28)) (.slice (some ⟨w.heap.size,0,none⟩) n n) (List.replicate n []):=by
 have a:(zvc n).size=n * 1:=size_madeCells _ _;refine ⟨(zvc n).toList,⟨by simp [a],.inr ⟨w.heap.size,n,zvc n,by simp,JY _,heap_alloc_new w _,by simp,hn,a,?_⟩⟩,fun k f hf=>?_⟩
 ·rw [List.take_of_length_le (by simp [a])]
 ·rw [List.getElem?_replicate] at hf;split at hf
  ·rename_i hk
   injection hf with hf;subst hf;exact ⟨_,by have:=Zsd hk;simpa using this,(Wz.nil 0 _).vec⟩
  ·cases hf
theorem Zey (n:Nat) (hn:n≤1099511627776) (w:World):
 (Instr.makeSlice 22 (.int .i64 (n:Int)) (.int .i64 (n:Int))).run Tryz.prog w= .ok (.slice (some ⟨w.heap.size,0,none⟩) n n) (w.alloc (.cells (zvc n) 28)):=by
 obtain ⟨i0,hi,a,b,c⟩:=info_parts info_vector;have hb:(i0.bytes:Int) * (n:Int)≤281474976710656:=by rw [c];omega
 have hr:=run_make (P:=Tryz.prog) w 22 28 i0 _ Tryz.underlying22 hi a .i64 .i64 n n (by omega) (by omega) hb (by omega);simp only [JP,b] at hr;exact hr
theorem ZJ.shape {base:Nat} {w:World} {v:Value} {zs:List Int} (h:ZJ base w v zs) (hp:0 < zs.length):∃g c,v= .slice (some ⟨g,0,none⟩) zs.length c∧base≤g∧g < w.heap.size∧zs.length≤c∧c≤9223372036854775807:=by
 rcases h.1.2 with ⟨rfl,e⟩ | ⟨g,cap,cur,rfl,hb,hg,hnc,hcm,hcs,htake⟩
 ·omega
 ·unfold maxLen at hcm;exact ⟨g,cap,rfl,hb,Ye hg,hnc,by omega⟩
theorem ZJ.len {base:Nat} {w:World} {A:Option Addr} {n c:Nat} {zs:List Int} (h:ZJ base w (.slice A n c) zs):n=zs.length:=by
 letI:Old:=⟨0⟩
 exact (X9.of_own h.1).len
theorem ZJ.at_ {base:Nat} {w:World} {g n c:Nat} {zs:List Int} (h:ZJ base w (.slice (some ⟨g,0,none⟩) n c) zs) {k:Nat} {z:Int} (hz:zs[k]? =some z):
 w.cell? ⟨g,k,none⟩=some (.int .i64 z)∧w.frozen? ⟨g,k,none⟩=false∧ -9223372036854775808≤z∧z≤9223372036854775807:=by
 have hn:=h.len;obtain ⟨h1,h2⟩:=h;subst hn;obtain ⟨c1,c2⟩:=Zw h1 (j:=k) (u:= .int .i64 z) (by simp [hz]);exact ⟨c1,c2,h2 z (List.mem_of_getElem? hz)⟩
theorem ZJ.base {base:Nat} {w:World} {g n c:Nat} {zs:List Int} (h:ZJ base w (.slice (some ⟨g,0,none⟩) n c) zs):base≤g:=by
 have hn:=h.len;obtain ⟨h1,h2⟩:=h;subst hn;obtain ⟨_,_,h3⟩:=ZI h1;exact h3
theorem ZJ.set_ [Old] {base:Nat} {w:World} {g n c:Nat} {zs:List Int} (h:ZJ base w (.slice (some ⟨g,0,none⟩) n c) zs) {k:Nat} (hk:k < zs.length) {z:Int} (h0: -9223372036854775808≤z) (h1:z≤9223372036854775807) (hO:Old.n≤base:=by first | assumption | exact Nat.zero_le _ | omega | ((first | with_reducible refine Zb.le ?_ | with_reducible refine Zb.le1 ?_ | with_reducible refine Zb.le2 ?_ | with_reducible refine Zb.le3 ?_);repeat (first | assumption | exact Zb.up (by assumption) hOl | exact Zb.up (Hid.out (by assumption)) hOl | with_reducible refine Zb.set ?_ _ _ | with_reducible refine Zb.mk_ ?_ _ | with_reducible refine Zb.dr ?_ | with_reducible refine Zb.drN ?_ | refine Zb.up (by assumption) ?_ | refine Zb.up (Hid.out (by assumption)) ?_))):
 ZJ base (w.setCell ⟨g,k,none⟩ (.int .i64 z)) (.slice (some ⟨g,0,none⟩) n c) (zs.set k z)∧Zk 3 w (w.setCell ⟨g,k,none⟩ (.int .i64 z)):=by
 have hn:=h.len;obtain ⟨g1,g2⟩:=h;subst hn;have o1:=YJ g1 k (.int .i64 z) (by simpa using hk);obtain ⟨_,b0,_⟩:=ZI g1;refine ⟨⟨by rw [List.length_set,List.map_set];exact o1,fun y hy=>?_⟩,Zk.setCell b0 k _⟩;rcases List.mem_or_eq_of_mem_set hy with hy | rfl
 ·exact g2 y hy
 ·exact ⟨h0,h1⟩
theorem ZJ.others {base:Nat} {w w':World} {g:Option Nat} {v:Value} {zs:List Int} (h:ZJ base w v zs) (ho:ZN g w w') (hne:∀b,v.ownBlock=some b→some b≠g):ZJ base w' v zs:=by
 refine ⟨⟨h.1.1,?_⟩,h.2⟩;rcases h.1.2 with hn | ⟨b,cap,cur,rfl,hb',hgg,rest⟩
 ·exact .inl hn
 ·exact .inr ⟨b,cap,cur,rfl,hb',(ho.2 b (Ye hgg) (hne b rfl)).trans hgg,rest⟩
def zic (n:Nat):Array Value:=madeCells (Value.cells (.int .i64 0)) (n * 1)
theorem Zvj {n k:Nat} (hk:k < n):(zic n)[k]? =some (.int .i64 0):=by
 unfold zic madeCells;simp [hk,Value.cells,Nat.mod_one]
theorem ZJ.zeros (w:World) (n:Nat) (hn:n≤maxLen):ZJ w.heap.size (w.alloc (.cells (zic n) 3)) (.slice (some ⟨w.heap.size,0,none⟩) n n) (List.replicate n 0):=by
 have a:(zic n).size=n * 1:=size_madeCells _ _;refine ⟨⟨by simp,.inr ⟨w.heap.size,n,zic n,by simp,JY _,heap_alloc_new w _,by simp,hn,by simpa using a,?_⟩⟩,fun z hz=>?_⟩
 ·refine List.ext_getElem? fun i=>?_
  rcases JX i n with e | e
  ·have:=Zvj e;simp [List.getElem?_take,e,this]
  ·rw [JU (by simp [a];omega),JU (by simp;omega)]
 ·have:=List.eq_of_mem_replicate hz;omega
theorem Zez (n:Nat) (hn:n≤1099511627776) (w:World):
 (Instr.makeSlice 46 (.int .i64 (n:Int)) (.int .i64 (n:Int))).run Tryz.prog w= .ok (.slice (some ⟨w.heap.size,0,none⟩) n n) (w.alloc (.cells (zic n) 3)):=by
 obtain ⟨i0,hi,a,b,c⟩:=info_parts info_intT;have hb:(i0.bytes:Int) * (n:Int)≤281474976710656:=by rw [c];omega
 have hr:=run_make (P:=Tryz.prog) w 46 3 i0 _ Tryz.underlying46 hi a .i64 .i64 n n (by omega) (by omega) hb (by omega);simp only [JP,b] at hr;exact hr
def Zwo (n:Nat) (f:Nat→Bool):List Value:=(List.range n).map fun i=>Value.bool (f i)
theorem Zqo {n i:Nat} {f:Nat→Bool} (h:i < n):(Zwo n f)[i]? =some (.bool (f i)):=by simp [Zwo,h]
def Zvm (base:Nat) (w:World) (v:Value) (n:Nat) (f:Nat→Bool):Prop:=w.ownsRow base 4 1 v n (Zwo n f)
theorem Zvm.at_ {base:Nat} {w:World} {g n c:Nat} {f:Nat→Bool} (h:Zvm base w (.slice (some ⟨g,0,none⟩) n c) n f) {k:Nat} (hk:k < n):w.cell? ⟨g,k,none⟩=some (.bool (f k))∧w.frozen? ⟨g,k,none⟩=false:=Zw h (Zqo hk)
namespace Pl
def cntF (f:Nat→Bool):Nat→Nat
 | 0=>0
 | n+1=>cntF f n+if f n=true then 0 else 1
theorem Zik {f:Nat→Bool} {j:Nat}:∀{n:Nat},n≤j→cntF (Zqn f j) n=cntF f n
 | 0,_=>rfl
 | n+1,h=>by unfold cntF;rw [Zik (by omega),VF (by omega)]
theorem Zil {f:Nat→Bool} {j:Nat} (hf:f j=false):∀{n:Nat},j < n→cntF (Zqn f j) n+1=cntF f n
 | 0,h=>absurd h (by omega)
 | n+1,h=>by
  unfold cntF
  by_cases e:n=j
  ·subst e;rw [Zik (JY _),UF,if_pos rfl,hf,if_neg (by decide)]
  ·rw [VF e];have:=Zil hf (n:=n) (by omega);omega
end Pl
namespace Pl
def Zul (n:Nat) (P:Nat→Nat) (sn sn2:Nat→Bool) (i l j:Nat) (sg:Int):Prop:=
 l+cntF sn2 n≤n∧j < n∧(∀r,sn r=true→sn2 r=true)∧((l=0∧sn2=sn∧j=i)∨(1≤l∧∃z,j=P z∧Zvl n P sn2 i z l (sg:Rat)))
theorem Zul.step {n:Nat} {P:Nat→Nat} {sn sn2:Nat→Bool} {i l j:Nat} {sg:Int} (h:Zul n P sn sn2 i l j sg) (hD:Zwn n P sn (sg:Rat)) (hP:Inj n n P) (h0:sn2 j=false):Zul n P sn (Zqn sn2 j) i (l+1) (P j) sg:=by
 obtain ⟨h1,h2,h3,h4⟩:=h;have hc:=Zil h0 h2;refine ⟨by omega,hP.1 j h2,fun r hr=>Uk (h3 r hr),Or.inr ⟨by omega,j,rfl,?_⟩⟩;rcases h4 with ⟨rfl,rfl,rfl⟩ | ⟨_,z,rfl,hI⟩
 ·exact hD.start h2 h0
 ·exact hI.step h2 h0
end Pl
end Go.Proofs.YtidgdpkcloaheaaGreat
