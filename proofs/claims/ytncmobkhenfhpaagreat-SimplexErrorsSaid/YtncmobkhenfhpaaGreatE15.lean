/- Lemmas of the claim; no condition. -/
import Derived.Test.YtncmobkhenfhpaaGreatE11
set_option linter.all false
set_option maxRecDepth 100000
set_option maxHeartbeats 40000000
namespace Go.Proofs.YtncmobkhenfhpaaGreat
open Go.RowKit
open Pl
attribute [local go_sem ↓] Go.wp_at_zero Go.wp_at_succ
theorem Zgf (w:World) (x0 x1 x2 x3 x4:Value):∃W,w.alloc (.cells #[x0,x1,x2,x3,x4] 87)=W∧Bk W w.heap.size 87 [x0,x1,x2,x3,x4]∧Below w.heap.size w W:=
 ⟨_,rfl,Bk.new w _ [x0,x1,x2,x3,x4],Zc w _⟩
theorem XE [Old] (v:Value) (es:List En) (n:Int) (w:World) (h:Wp w v es) (hi:EnI es) (h0: -9223372036854775808≤n) (h1:n≤9223372036854775807) (hOl:Zb w:=by (repeat (first | assumption | exact Zb.up (by assumption) hOl | exact Zb.up (Hid.out (by assumption)) hOl | with_reducible refine Zb.set ?_ _ _ | with_reducible refine Zb.mk_ ?_ _ | with_reducible refine Zb.dr ?_ | with_reducible refine Zb.drN ?_ | refine Zb.up (by assumption) ?_ | refine Zb.up (Hid.out (by assumption)) ?_))):
 Calls Tryz.prog 72 #[v,.int .i64 n] w fun e w'=>e= .returned (.int .i64 (vecErr es n))∧Below w.heap.size w w':=by
 have L:=hOl.le;obtain ⟨A,c,rfl,O,P⟩:=h.shape;generalize hl:es.length=l at *;have HL:=JZ hl;have HI:=JZ hi;clear hl hi;by_cases r:n < 0
 ·have HV:Hid (vecErr es n=5):=JZ (by unfold vecErr;rw [if_pos (.inl r)]);go_enter Tryz.func72,Tryz.ntmps72;go_wp2;go_ret;exact ⟨by rw [HV.out];rfl,JR _ _⟩
 ·by_cases s:4096 < n
  ·have HV:Hid (vecErr es n=5):=JZ (by unfold vecErr;rw [if_pos (.inr s)]);go_enter Tryz.func72,Tryz.ntmps72;go_wp2;go_ret;exact ⟨by rw [HV.out];rfl,JR _ _⟩
  ·have hv:vecErr es n=UA n (es.drop 0) (XM es 0):=by
    unfold vecErr;rw [if_neg (by omega)];rfl
   generalize vecErr es n=d at *;have HV:=JZ hv;clear hv;have D:decide (n < 0)=false:=(by simpa using r);have E:decide (4096 < n)=false:=(by simpa using s);clear r s;go_enter Tryz.func72,Tryz.ntmps72;go_wp2;clear D E
   go_loopw [15] (fun i wr=>∃k:Nat,k≤l∧i= .int .i64 k∧Below w.heap.size w wr∧d=UA n (es.drop k) (XM es k)) (fun i _=>l - (intOf i).toNat)
   case atStart=>exact ⟨0,by omega,rfl,JR _ _,HV.out⟩
   case round=>
    obtain ⟨k,hk,rfl,x,G⟩:=hrel;have HE:=JZ G;clear G HV;rcases JX k l with hkl | hkl
    ·obtain ⟨e,he⟩:=YJ (es:=es) (i:=k) (by rw [HL.out];exact hkl);obtain ⟨b,R,A1,n1,c1,A2,n2,c2,rfl,S,g,hm⟩:=h.elem x he;obtain ⟨x0,x1,x2,x3,x4⟩:=g;obtain ⟨i0,i1⟩:=HI.out k e he;obtain ⟨W,hW,hX,H⟩:=Zgf wr (.int .i64 e.idx) (.bool e.f.num.neg) (.slice A1 n1 c1) (.bool e.f.den.neg) (.slice A2 n2 c2);obtain ⟨z0,z1,z2,z3,z4⟩:=hX.five;have a:=Za x H x.size;have u:=hm.below H;by_cases t:e.idx < 0
     ·have HR:Hid (d=5):=JZ (HE.out.trans (Ut he (.inl t)));clear he;go_wp2;go_ret;exact ⟨by rw [HR.out];rfl,a⟩
     ·by_cases C:n≤e.idx
      ·have HR:Hid (d=5):=JZ (HE.out.trans (Ut he (.inr C)));clear he;go_wp2;go_ret;exact ⟨by rw [HR.out];rfl,a⟩
      ·have F:¬(e.idx < 0∨n≤e.idx):=(by omega);have o:=JZ F;have D:decide (e.idx < 0)=false:=(by simpa using t);have E:decide (n≤e.idx)=false:=(by simpa using C);clear F t C;by_cases y:k=0
       ·have HP:Hid (leP (XM es k) e.idx=false):=JZ (by rw [y];rfl);have hg:decide ((0:Int) < (k:Int))=false:=(by simp;omega);have I:decide (0 < k)=false:=(by simp;omega);clear y;by_cases hz:e.f.q=0
        ·have B:qs e.f.q=0:=ZW.2 hz;have HR:Hid (d=11):=JZ (HE.out.trans (Zan he o.out HP.out hz));clear he hz;go_wp2
         go_quiet (fail)
         go_wp2_with fail;refine (Zz _ e.f _ (u.keep (ZG.drewN _ _))).mono ?_;rintro _ w2 ⟨rfl,m⟩;go_wp2;go_ret;exact ⟨by rw [HR.out];rfl,Za (below_drewN a _) m a.size⟩
        ·have B:(qs e.f.q==0)=false:=(by simpa using fun h=>hz (ZW.1 h));have HR:Hid (d=UA n (es.drop (k+1)) (XM es (k+1))):=JZ (HE.out.trans (Zao he o.out HP.out hz));clear he hz;go_wp2
         go_quiet (fail)
         go_wp2_with fail;refine (Zz _ e.f _ (u.keep (ZG.drewN _ _))).mono ?_;rintro _ w2 ⟨rfl,m⟩;go_wp2;go_roundw
         case rel=>exact ⟨k+1,by omega,by go_num,Za (below_drewN a _) m a.size,HR.out⟩
         case measure=>simp [intOf];omega
       ·obtain ⟨j,hj⟩:∃j,k=j+1:=⟨k - 1,by omega⟩;have M:(k:Int) - 1=(j:Int):=(by omega);have hg:(0:Int) < (k:Int):=(by omega);have I:0 < k:=(by omega);have HJ:=JZ hj;obtain ⟨p,hp⟩:=YJ (es:=es) (i:=j) (by rw [HL.out];omega);obtain ⟨b2,K,B1,m1,d1,B2,m2,d2,hA,_,g,_⟩:=h.elem a hp;injection hA with hA;injection hA with hA1 hA2;subst hA1 hA2;obtain ⟨y0,_,_,_,_⟩:=g;obtain ⟨j0,j1⟩:=HI.out j p hp;have N:(j:Int) < l:=(by omega);by_cases z:e.idx≤p.idx
        ·have HR:Hid (d=8):=JZ (HE.out.trans (by rw [HJ.out] at he ⊢;exact Zgd he hp o.out z));clear he hp y hj;go_wp2
         go_quiet (fail)
         go_wp2;go_ret;exact ⟨by rw [HR.out];rfl,below_drewN a _⟩
        ·have HP:Hid (leP (XM es k) e.idx=false):=JZ (by rw [HJ.out];exact Zpj hp z);have J:decide (e.idx≤p.idx)=false:=(by simpa using z);clear hp y hj z;by_cases hz:e.f.q=0
         ·have B:qs e.f.q=0:=ZW.2 hz;have HR:Hid (d=11):=JZ (HE.out.trans (Zan he o.out HP.out hz));clear he hz;go_wp2
          go_quiet (fail)
          go_wp2_with fail;refine (Zz _ e.f _ (u.keep (ZG.drewN _ _))).mono ?_;rintro _ w2 ⟨rfl,m⟩;go_wp2;go_ret;exact ⟨by rw [HR.out];rfl,Za (below_drewN a _) m a.size⟩
         ·have B:(qs e.f.q==0)=false:=(by simpa using fun h=>hz (ZW.1 h));have HR:Hid (d=UA n (es.drop (k+1)) (XM es (k+1))):=JZ (HE.out.trans (Zao he o.out HP.out hz));clear he hz;go_wp2
          go_quiet (fail)
          go_wp2_with fail;refine (Zz _ e.f _ (u.keep (ZG.drewN _ _))).mono ?_;rintro _ w2 ⟨rfl,m⟩;go_wp2;go_roundw
          case rel=>exact ⟨k+1,by omega,by go_num,Za (below_drewN a _) m a.size,HR.out⟩
          case measure=>simp [intOf];omega
    ·have HR:Hid (d=0):=JZ (HE.out.trans (Zpi (by rw [HL.out];omega)));go_wp2;go_ret;exact ⟨by rw [HR.out];rfl,x⟩
namespace Pl
def LPd.Ok (K:Nat) (p:LPd):Prop:=RsL K p.cost∧RsL K p.right∧∀(j:Nat) (c:List En),p.cols[j]? =some c→EnI c∧∀(k:Nat) (e:En),c[k]? =some e→e.f.Rs K
theorem Vx {p:LPd} (h:64 < p.right.length∨1200 < p.cols.length):lpErr p=10:=by unfold lpErr;rw [if_pos h]
theorem Zed {p:LPd} (h:¬(64 < p.right.length∨1200 < p.cols.length)) (h2:p.cost.length≠p.cols.length):lpErr p=12:=by unfold lpErr;rw [if_neg h,if_pos h2]
theorem Zgg {p:LPd} (h:¬(64 < p.right.length∨1200 < p.cols.length)) (h2:p.cost.length=p.cols.length):lpErr p=Xj (p.right.length:Int) (p.cols.drop 0):=by unfold lpErr;rw [if_neg h,if_neg (by omega)];rfl
theorem Y8 {cs:List (List En)} {i:Nat} (h:i < cs.length):∃f,cs[i]? =some f:=⟨cs[i],JQ h⟩
end Pl
theorem Zf (w:World):Below w.heap.size w w.drew:=(JR _ _).drew
theorem X9 (w:World) (x y z:Value):∃W,w.alloc (.cells #[x,y,z] 26)=W∧Bk W w.heap.size 26 [x,y,z]∧Below w.heap.size w W:=⟨_,rfl,Bk.new w _ [x,y,z],Zc w _⟩
theorem Vy [Old] (v:Value) (p:LPd) (K:Nat) (w:World) (h:LpM w v p) (ok:p.Ok K) (hK:K≤34359738368) (hOl:Zb w:=by (repeat (first | assumption | exact Zb.up (by assumption) hOl | exact Zb.up (Hid.out (by assumption)) hOl | with_reducible refine Zb.set ?_ _ _ | with_reducible refine Zb.mk_ ?_ _ | with_reducible refine Zb.dr ?_ | with_reducible refine Zb.drN ?_ | refine Zb.up (by assumption) ?_ | refine Zb.up (Hid.out (by assumption)) ?_))):
 Calls Tryz.prog 36 #[v] w fun e w'=>e= .returned (.int .i64 (lpErr p))∧Below w.heap.size w w':=by
 have G:=hOl.le;obtain ⟨A,n,c,A',n',c',u,a,x,rfl,hc,hv,hr⟩:=h;obtain ⟨W,hW,hX,f⟩:=X9 w (.slice A n c) (.slice A' n' c') (.slice u a x);obtain ⟨x0,x1,x2⟩:=hX.three;obtain ⟨l1,l2,l3⟩:=hc.len;obtain ⟨m1,m2,m3⟩:=hv.len;obtain ⟨r1,r2,r3⟩:=hr.len;have z:=JZ l1;have l:=JZ m1;have s:=JZ r1;clear l1 m1 r1;by_cases E:64 < a
 ·have HV:Hid (lpErr p=10):=JZ (Vx (.inl (by rw [← s.out];exact E)));have g:(64:Int) < a:=by omega
  go_enter Tryz.func36,Tryz.ntmps36;go_wp2;go_ret;exact ⟨by rw [HV.out];rfl,f⟩
 ·by_cases y:1200 < n'
  ·have HV:Hid (lpErr p=10):=JZ (Vx (.inr (by rw [← l.out];exact y)));have g:decide ((64:Int) < a)=false:=(by simp;omega);have j:(1200:Int) < n':=(by omega);go_enter Tryz.func36,Tryz.ntmps36;go_wp2;go_ret;exact ⟨by rw [HV.out];rfl,f⟩
  ·have HB:Hid (¬(64 < p.right.length∨1200 < p.cols.length)):=JZ (by rw [← s.out,← l.out];omega);have g:decide ((64:Int) < a)=false:=(by simp;omega);have j:decide ((1200:Int) < n')=false:=(by simp;omega);by_cases q:n=n'
   ·have t:=Zgg HB.out (by rw [← z.out,← l.out];exact q);rw [← s.out] at t;subst q;generalize lpErr p=r at *;have HV:=JZ t;clear t;go_enter Tryz.func36,Tryz.ntmps36;go_wp2;clear hW g j
    go_loopw [3] (fun i wr=>∃k:Nat,k≤n∧i= .int .i64 k∧Below w.heap.size w wr∧Bk wr w.heap.size 26 [.slice A n c,.slice A' n c',.slice u a x]∧r=Xj (a:Int) (p.cols.drop k)) (fun i _=>n - (intOf i).toNat)
    case atStart=>exact ⟨0,by omega,rfl,f,hX,HV.out⟩
    case round=>
     obtain ⟨k,hk,rfl,f,hX,C⟩:=hrel;have HE:=JZ C;clear C HV x0 x1 x2;obtain ⟨x0,x1,x2⟩:=hX.three;rcases JX k n with hkl | hkl
     ·obtain ⟨es,he⟩:=Y8 (cs:=p.cols) (i:=k) (by rw [← l.out];exact hkl);obtain ⟨b,D,A1,c1,rfl,L,o,hm⟩:=hv.elem f he;have HO:=JZ (ok.2.2 k es he);have H:(k:Int) < n:=(by omega);have B:=JZ (Zcn (n:=(a:Int)) he);have I:=Zkn es (a:Int);clear he;go_wp2_with fail;refine wp_region_noPanic ?_;refine Zpg (S:=fun w'=>w'.cell? ⟨w.heap.size,1,none⟩=some (.slice (some ⟨b,D,none⟩) n c')∧w'.cell? ⟨w.heap.size,2,none⟩=some (.slice u a x)∧w'.cell? ⟨b,D+k,none⟩=some (.slice A1 es.length c1)) (n:=9) (by kernel_rfl) ?_ (fun hHeld=>?_)
      ·exact ⟨x1,x2,o⟩
      refine Z9 (i:=0) (v:=?_) rfl (by kernel_rfl) (by kernel_rfl) (by kernel_rfl) (by kernel_rfl) (fun _ _ _ h=>h) (Or.inl ⟨by rfl,?y1⟩) (by assumption) ?_
      case y1=>(intro _ d;(try dsimp only at d);go_simp;(try with_reducible rfl))
      (try simp only [Act.put,List.setIfInBounds_toArray,List.set_cons_zero,List.set_cons_succ]);refine Z9 (i:=1) (v:=?_) rfl (by kernel_rfl) (by kernel_rfl) (by kernel_rfl) (by kernel_rfl) (fun _ _ _ h=>h) (Or.inl ⟨by rfl,?y2⟩) (by assumption) ?_
      case y2=>(intro _ d;(try dsimp only at d);go_simp;(try with_reducible rfl))
      (try simp only [Act.put,List.setIfInBounds_toArray,List.set_cons_zero,List.set_cons_succ]);refine Z9 (i:=2) (v:=?_) rfl (by kernel_rfl) (by kernel_rfl) (by kernel_rfl) (by kernel_rfl) (fun _ _ _ h=>h) (Or.inl ⟨by rfl,?y3⟩) (by assumption) ?_
      case y3=>(intro _ d;(try dsimp only at d);go_simp;(try with_reducible rfl))
      (try simp only [Act.put,List.setIfInBounds_toArray,List.set_cons_zero,List.set_cons_succ]);refine Z9 (i:=3) (v:=?_) rfl (by kernel_rfl) (by kernel_rfl) (by kernel_rfl) (by kernel_rfl) (fun _ _ _ h=>h) (Or.inl ⟨by rfl,?y4⟩) (by assumption) ?_
      case y4=>(intro _ d;(try dsimp only at d);go_simp;(try with_reducible rfl))
      (try simp only [Act.put,List.setIfInBounds_toArray,List.set_cons_zero,List.set_cons_succ]);refine Z9 (i:=4) (v:=?_) rfl (by kernel_rfl) (by kernel_rfl) (by kernel_rfl) (by kernel_rfl) (fun _ _ _ h=>h) (Or.inl ⟨by rfl,?y5⟩) (by assumption) ?_
      case y5=>(intro _ d;(try dsimp only at d);go_simp;(try with_reducible rfl))
      (try simp only [Act.put,List.setIfInBounds_toArray,List.set_cons_zero,List.set_cons_succ]);refine Z9 (i:=5) (v:=?_) rfl (by kernel_rfl) (by kernel_rfl) (by kernel_rfl) (by kernel_rfl) (fun _ _ _ h=>h) (Or.inl ⟨by rfl,?y6⟩) (by assumption) ?_
      case y6=>(intro _ d;(try dsimp only at d);go_simp;(try with_reducible rfl))
      (try simp only [Act.put,List.setIfInBounds_toArray,List.set_cons_zero,List.set_cons_succ]);refine Z9 (i:=6) (v:=?_) rfl (by kernel_rfl) (by kernel_rfl) (by kernel_rfl) (by kernel_rfl) (fun _ _ _ h=>h) (Or.inl ⟨by rfl,?y7⟩) (by assumption) ?_
      case y7=>(intro _ d;(try dsimp only at d);go_simp;(try with_reducible rfl))
      (try simp only [Act.put,List.setIfInBounds_toArray,List.set_cons_zero,List.set_cons_succ]);refine Z9 (i:=7) (v:=?_) rfl (by kernel_rfl) (by kernel_rfl) (by kernel_rfl) (by kernel_rfl) (fun _ _ _ h=>h) (Or.inl ⟨by rfl,?y8⟩) (by assumption) ?_
      case y8=>(intro _ d;(try dsimp only at d);go_simp;(try with_reducible rfl))
      (try simp only [Act.put,List.setIfInBounds_toArray,List.set_cons_zero,List.set_cons_succ]);refine Zkk (i:=8) (by kernel_rfl) rfl (fun KR hKR=>?_);go_simp;(with_reducible refine (Zro _ es (a:Int) _ (hm.below (Zf _)) (fun k e he=>(HO.out.2 k e he).sh hK) HO.out.1 (by omega) (by omega)).mono ?_);rintro _ w2 ⟨rfl,m⟩;refine hKR.out _ _ ?_ (fun hHeld=>?_)
      ·exact ⟨Zg m x1,Zg m x2,Zg m o⟩
      clear hKR KR;(try simp only [Act.put,List.setIfInBounds_toArray,List.set_cons_zero,List.set_cons_succ]);refine Zkl (i:=9) (by kernel_rfl) rfl (by decide) (fun KR hKR=>?_);go_simp;refine hKR.out _ _ ?_;clear hKR KR;(try simp only [Act.put,List.setIfInBounds_toArray,List.set_cons_zero,List.set_cons_succ]);refine Zkm (by kernel_rfl) (NoPanic.normal ?_) _;by_cases hz:vecErr es (a:Int)=0
      ·have HR:Hid (r=Xj (a:Int) (p.cols.drop (k+1))):=JZ (by rw [HE.out,B.out,if_pos hz]);go_wp2;go_roundw
       case rel=>exact ⟨k+1,by omega,by go_num,Za f.drew m f.size,hX.drew.later m,HR.out⟩
       case measure=>simp [intOf];omega
      ·have HR:Hid (r=vecErr es (a:Int)):=JZ (by rw [HE.out,B.out,if_neg hz]);have J:(vecErr es (a:Int) !=0)=true:=(by simpa using hz);generalize vecErr es (a:Int)=ER at *;clear hz;go_wp2;go_ret;exact ⟨by rw [HR.out];rfl,Za f.drew m f.size⟩
     ·have HR:Hid (r=0):=JZ (HE.out.trans (Zdy (by rw [← l.out];omega)));go_wp2;go_ret;exact ⟨by rw [HR.out];rfl,f⟩
   ·have HV:Hid (lpErr p=12):=JZ (Zed HB.out (by rw [← z.out,← l.out];exact q));have F:((n:Int) !=(n':Int))=true:=(by simp;omega);clear q;go_enter Tryz.func36,Tryz.ntmps36;go_wp2;go_ret;exact ⟨by rw [HV.out];rfl,f⟩
theorem Ua [Old] (v:Value) (p:LPd) (K:Nat) (w:World) (h:LpM w v p) (ok:p.Ok K) (hOl:Zb w:=by (repeat (first | assumption | exact Zb.up (by assumption) hOl | exact Zb.up (Hid.out (by assumption)) hOl | with_reducible refine Zb.set ?_ _ _ | with_reducible refine Zb.mk_ ?_ _ | with_reducible refine Zb.dr ?_ | with_reducible refine Zb.drN ?_ | refine Zb.up (by assumption) ?_ | refine Zb.up (Hid.out (by assumption)) ?_))):
 Calls Tryz.prog 35 #[v] w fun e w'=>e= .returned (.int .i64 (lpErr p))∧Below w.heap.size w w':=by
 have E:=hOl.le;obtain ⟨A,n,c,A',n',c',x,a,y,rfl,hc,hv,hr⟩:=h;obtain ⟨W,hW,hX,d⟩:=X9 w (.slice A n c) (.slice A' n' c') (.slice x a y);obtain ⟨x0,x1,x2⟩:=hX.three;obtain ⟨l1,l2,l3⟩:=hc.len;obtain ⟨m1,m2,m3⟩:=hv.len;obtain ⟨r1,r2,r3⟩:=hr.len;have t:=JZ l1;have j:=JZ m1;have o:=JZ r1;clear l1 m1 r1;by_cases B:64 < a
 ·have HV:Hid (lpErr p=10):=JZ (Vx (.inl (by rw [← o.out];exact B)));have f:(64:Int) < a:=by omega
  go_enter Tryz.func35,Tryz.ntmps35;go_wp2;go_ret;exact ⟨by rw [HV.out];rfl,d⟩
 ·by_cases s:1200 < n'
  ·have HV:Hid (lpErr p=10):=JZ (Vx (.inr (by rw [← j.out];exact s)));have f:decide ((64:Int) < a)=false:=(by simp;omega);have g:(1200:Int) < n':=(by omega);go_enter Tryz.func35,Tryz.ntmps35;go_wp2;go_ret;exact ⟨by rw [HV.out];rfl,d⟩
  ·have HB:Hid (¬(64 < p.right.length∨1200 < p.cols.length)):=JZ (by rw [← o.out,← j.out];omega);have f:decide ((64:Int) < a)=false:=(by simp;omega);have g:decide ((1200:Int) < n')=false:=(by simp;omega);by_cases l:n=n'
   ·have q:=Zgg HB.out (by rw [← t.out,← j.out];exact l);rw [← o.out] at q;subst l;generalize lpErr p=m at *;have HV:=JZ q;clear q;go_enter Tryz.func35,Tryz.ntmps35;go_wp2;clear hW f g
    go_loopw [26] (fun i wr=>∃k:Nat,k≤n∧i= .int .i64 k∧Below w.heap.size w wr∧Bk wr w.heap.size 26 [.slice A n c,.slice A' n c',.slice x a y]∧m=Xj (a:Int) (p.cols.drop k)) (fun i _=>n - (intOf i).toNat)
    case atStart=>exact ⟨0,by omega,rfl,d,hX,HV.out⟩
    case round=>
     obtain ⟨k,hk,rfl,d,hX,z⟩:=hrel;have HE:=JZ z;clear z HV x0 x1 x2;obtain ⟨x0,x1,x2⟩:=hX.three;rcases JX k n with hkl | hkl
     ·obtain ⟨es,he⟩:=Y8 (cs:=p.cols) (i:=k) (by rw [← j.out];exact hkl);obtain ⟨b,I,A1,c1,rfl,J,C,hm⟩:=hv.elem d he;have HO:=JZ (ok.2.2 k es he);have F:(k:Int) < n:=(by omega);have u:=JZ (Zcn (n:=(a:Int)) he);have G:=Zkn es (a:Int);clear he;go_wp2_with fail;refine (XE _ es (a:Int) _ hm HO.out.1 (by omega) (by omega)).mono ?_;rintro _ w2 ⟨rfl,r⟩;by_cases hz:vecErr es (a:Int)=0
      ·have HR:Hid (m=Xj (a:Int) (p.cols.drop (k+1))):=JZ (by rw [HE.out,u.out,if_pos hz]);go_wp2;go_roundw
       case rel=>exact ⟨k+1,by omega,by go_num,Za d r d.size,hX.later r,HR.out⟩
       case measure=>simp [intOf];omega
      ·have HR:Hid (m=vecErr es (a:Int)):=JZ (by rw [HE.out,u.out,if_neg hz]);have H:(vecErr es (a:Int) !=0)=true:=(by simpa using hz);generalize vecErr es (a:Int)=ER at *;clear hz;go_wp2;go_ret;exact ⟨by rw [HR.out];rfl,Za d r d.size⟩
     ·have HR:Hid (m=0):=JZ (HE.out.trans (Zdy (by rw [← j.out];omega)));go_wp2;go_ret;exact ⟨by rw [HR.out];rfl,d⟩
   ·have HV:Hid (lpErr p=12):=JZ (Zed HB.out (by rw [← t.out,← j.out];exact l));have D:((n:Int) !=(n':Int))=true:=(by simp;omega);clear l;go_enter Tryz.func35,Tryz.ntmps35;go_wp2;go_ret;exact ⟨by rw [HV.out];rfl,d⟩
namespace Pl
def Z7 (m:Nat) (f:Nat→Rat):List RF:=(List.range m).map fun i=>canF (f i)
theorem Zi (m:Nat) (f:Nat→Rat):(Z7 m f).length=m:=by simp [Z7]
theorem ZC {m i:Nat} {f:Nat→Rat} (h:i < m):(Z7 m f)[i]? =some (canF (f i)):=by simp [Z7,h]
theorem YX {m i:Nat} {f:Nat→Rat} (h:i < m):qAt (Z7 m f) i=f i:=by rw [Yt (ZC h),Zu]
theorem ZR {m:Nat} {f g:Nat→Rat} (h:∀i,i < m→f i=g i):Z7 m f=Z7 m g:=by
 unfold Z7;apply List.map_congr_left;intro i hi;rw [h i (List.mem_range.1 hi)]
theorem Zkt (m:Nat):List.replicate m (canF 0)=Z7 m fun _=>0:=by
 apply List.ext_getElem?;intro i;rcases JX i m with h | h
 ·rw [ZC h,List.getElem?_replicate,if_pos h]
 ·rw [JU (by simpa using h),JU (by rw [Zi];exact h)]
theorem XF {m k:Nat} {f:Nat→Rat} {q:Rat} (h:k < m):(Z7 m f).set k (canF q)=Z7 m fun i=>if i=k then q else f i:=by
 apply List.ext_getElem?;intro i;rcases JX i m with hi | hi
 ·rw [ZC hi];by_cases a:i=k
  ·subst a;rw [List.getElem?_set_self (by rw [Zi];exact h),if_pos rfl]
  ·rw [List.getElem?_set_ne (by omega),ZC hi,if_neg a]
 ·rw [JU (by simp [Zi];exact hi),JU (by rw [Zi];exact hi)]
theorem Zhv {m K:Nat} {f:Nat→Rat} (h:∀i,i < m→Sz K (f i)):RsL K (Z7 m f):=by
 intro i g hg;have hi:i < m:=by have:=(List.getElem?_eq_some_iff.1 hg).1;rw [Zi] at this;exact this
 rw [ZC hi] at hg;injection hg with hg;subst hg;exact (h i hi).rs
theorem Zee (m:Nat) (f:Nat→Rat):Z7 m f++[canF (f m)]=Z7 (m+1) f:=by simp [Z7,List.range_succ]
def dQ:List En→(Nat→Rat)→Nat→Rat
 | [],f=>f
 | e::es,f=>dQ es fun i=>if e.idx=(i:Int) then e.f.q else f i
theorem Zhw (es:List En) (e:En) (f:Nat→Rat):dQ (es++[e]) f=fun (i:Nat)=>if e.idx=(i:Int) then e.f.q else dQ es f i:=by
 induction es generalizing f with
 | nil=>rfl
 | cons d es ih=>rw [List.cons_append,dQ,ih];rfl
theorem Zut {es:List En} {k:Nat} {e:En} (h:es[k]? =some e) (f:Nat→Rat):dQ (es.take (k+1)) f=fun (i:Nat)=>if e.idx=(i:Int) then e.f.q else dQ (es.take k) f i:=by
 rw [List.take_add_one,h,Option.toList_some,Zhw]
def inR (n:Nat) (es:List En):Prop:=∀(k:Nat) (e:En),es[k]? =some e→0≤e.idx∧e.idx < n
def XG (es:List En):Nat→Rat:=dQ es fun _=>0
theorem Ygm {es:List En} {f:Nat→Rat} {K:Nat} (h:∀(k:Nat) (e:En),es[k]? =some e→e.f.Rs K) (hK:1≤K) (hf:∀i,Sz K (f i)) (i:Nat):Sz K (dQ es f i):=by
 induction es generalizing f with
 | nil=>exact hf i
 | cons e es ih=>
  rw [dQ];refine ih (fun k d hd=>h (k+1) d (by simpa using hd)) (fun i=>?_);split
  ·exact (h 0 e rfl).sz hK
  ·exact hf i
theorem Sz_col {es:List En} {K:Nat} (h:∀(k:Nat) (e:En),es[k]? =some e→e.f.Rs K) (hK:1≤K) (i:Nat):Sz K (XG es i):=Ygm h hK (fun _=>Sz_zero.mono hK) i
end Pl
theorem ZA {n g:Nat} {w w':World} (h:Below n w w') (hg:n≤g) (i j k l:Nat) (x y z u:Value):Below n w ((((w'.setCell ⟨g,i,none⟩ x).setCell ⟨g,j,none⟩ y).setCell ⟨g,k,none⟩ z).setCell ⟨g,l,none⟩ u):=(((h.setCell hg _).setCell hg _).setCell hg _).setCell hg _
theorem Znc {w w':World} {b o:Nat} {x y z u t:Value} (hb:Below w.heap.size w w') (h:w.cell? ⟨b,o,none⟩=some x∧w.cell? ⟨b,o+1,none⟩=some y∧w.cell? ⟨b,o+2,none⟩=some z∧w.cell? ⟨b,o+3,none⟩=some u∧w.cell? ⟨b,o+4,none⟩=some t):
 w'.cell? ⟨b,o,none⟩=some x∧w'.cell? ⟨b,o+1,none⟩=some y∧w'.cell? ⟨b,o+2,none⟩=some z∧w'.cell? ⟨b,o+3,none⟩=some u∧w'.cell? ⟨b,o+4,none⟩=some t:=
 ⟨Zg hb h.1,Zg hb h.2.1,Zg hb h.2.2.1,Zg hb h.2.2.2.1,Zg hb h.2.2.2.2⟩
theorem Zrt [Old] (v:Value) (es:List En) (m:Nat) (w:World) (h:Wp w v es) (hs:∀(k:Nat) (e:En),es[k]? =some e→e.f.Sh) (hin:inR m es) (hm0:m≤1099511627776) (hOl:Zb w:=by (repeat (first | assumption | exact Zb.up (by assumption) hOl | exact Zb.up (Hid.out (by assumption)) hOl | with_reducible refine Zb.set ?_ _ _ | with_reducible refine Zb.mk_ ?_ _ | with_reducible refine Zb.dr ?_ | with_reducible refine Zb.drN ?_ | refine Zb.up (by assumption) ?_ | refine Zb.up (Hid.out (by assumption)) ?_))):
 Calls Tryz.prog 78 #[v,.int .i64 (m:Int)] w fun e w'=>∃v',e= .returned v'∧Yd w.heap.size w' v' (Z7 m (XG es))∧Below w.heap.size w w':=by
 have F:=hOl.le;obtain ⟨A,c,rfl,J,K⟩:=h.shape;generalize hl:es.length=l at *;have HL:=JZ hl;have HS:=JZ hs;have HI:=JZ hin;clear hl hs hin;go_enter Tryz.func78,Tryz.ntmps78;go_wp2_with fail;refine (Zkj m _ hm0).mono ?_;rw [Zkt];rintro _ w1 ⟨v1,rfl,hO,d⟩;have ST:Hid (Yd w.heap.size w1 v1 (Z7 m (dQ (es.take 0) fun _=>0))):=JZ hO;clear hO;go_wp2
 go_loopw [6] (fun i wr=>∃k:Nat,k≤l∧i= .int .i64 k∧Below w.heap.size w wr∧Yd w.heap.size wr v1 (Z7 m (dQ (es.take k) fun _=>0))) (fun i _=>l - (intOf i).toNat)
 case atStart=>exact ⟨0,by omega,rfl,d,ST.out⟩
 case round=>
  clear ST d;obtain ⟨k,hk,rfl,d,hO⟩:=hrel;rcases JX k l with hkl | hkl
  ·obtain ⟨e,he⟩:=YJ (es:=es) (i:=k) (by rw [HL.out];exact hkl);obtain ⟨b,p,A1,n1,c1,A2,n2,c2,rfl,L,o,hm⟩:=h.elem d he;obtain ⟨i0,i1⟩:=HI.out k e he;have z:=HS.out k e he;have HT:=JZ (Zut he fun _=>0);obtain ⟨g,cg,rfl,C,M,D,N⟩:=hO.shape (by rw [Zi];omega);rw [Zi] at hO D ⊢;obtain ⟨j,hj⟩:=JT i0;have r:j < m:=(by omega);have t:=ZC (f:=dQ (es.take k) fun _=>0) r;have G:(k:Int) < l:=(by omega);have H:b≠g:=(by omega);have I:(j:Int) < m:=(by omega);rw [hj] at o;clear he;go_wp2_with fail;refine wp_region_noPanic ?_;refine Zpg (S:=fun w'=>w'.cell? ⟨b,p+k * 5,none⟩=some (.int .i64 (j:Int))∧w'.cell? ⟨b,p+k * 5+1,none⟩=some (.bool e.f.num.neg)∧w'.cell? ⟨b,p+k * 5+2,none⟩=some (.slice A1 n1 c1)∧w'.cell? ⟨b,p+k * 5+3,none⟩=some (.bool e.f.den.neg)∧w'.cell? ⟨b,p+k * 5+4,none⟩=some (.slice A2 n2 c2)) (n:=13) (by kernel_rfl) ?_ (fun hHeld=>?_)
   ·exact o
   refine Z9 (i:=0) (v:=?_) rfl (by kernel_rfl) (by kernel_rfl) (by kernel_rfl) (by kernel_rfl) (fun _ _ _ h=>h) (Or.inl ⟨by rfl,?y10⟩) (by assumption) ?_
   case y10=>(intro _ a;(try dsimp only at a);go_simp;(try with_reducible rfl))
   (try simp only [Act.put,List.setIfInBounds_toArray,List.set_cons_zero,List.set_cons_succ]);refine Z9 (i:=1) (v:=?_) rfl (by kernel_rfl) (by kernel_rfl) (by kernel_rfl) (by kernel_rfl) (fun _ _ _ h=>h) (Or.inl ⟨by rfl,?y11⟩) (by assumption) ?_
   case y11=>(intro _ a;(try dsimp only at a);go_simp;(try with_reducible rfl))
   (try simp only [Act.put,List.setIfInBounds_toArray,List.set_cons_zero,List.set_cons_succ]);refine Z9 (i:=2) (v:=?_) rfl (by kernel_rfl) (by kernel_rfl) (by kernel_rfl) (by kernel_rfl) (fun _ _ _ h=>h) (Or.inl ⟨by rfl,?y12⟩) (by assumption) ?_
   case y12=>(intro _ a;(try dsimp only at a);go_simp;(try with_reducible rfl))
   (try simp only [Act.put,List.setIfInBounds_toArray,List.set_cons_zero,List.set_cons_succ]);refine Z9 (i:=3) (v:=?_) rfl (by kernel_rfl) (by kernel_rfl) (by kernel_rfl) (by kernel_rfl) (fun _ _ _ h=>h) (Or.inl ⟨by rfl,?y13⟩) (by assumption) ?_
   case y13=>(intro _ a;(try dsimp only at a);go_simp;(try with_reducible rfl))
   (try simp only [Act.put,List.setIfInBounds_toArray,List.set_cons_zero,List.set_cons_succ]);refine Z9 (i:=4) (v:=?_) rfl (by kernel_rfl) (by kernel_rfl) (by kernel_rfl) (by kernel_rfl) (fun _ _ _ h=>h) (Or.inl ⟨by rfl,?y14⟩) (by assumption) ?_
   case y14=>(intro _ a;(try dsimp only at a);go_simp;(try with_reducible rfl))
   (try simp only [Act.put,List.setIfInBounds_toArray,List.set_cons_zero,List.set_cons_succ]);refine Z9 (i:=5) (v:=?_) rfl (by kernel_rfl) (by kernel_rfl) (by kernel_rfl) (by kernel_rfl) (fun _ _ _ h=>h) (Or.inl ⟨by rfl,?y15⟩) (by assumption) ?_
   case y15=>(intro _ a;(try dsimp only at a);go_simp;(try with_reducible rfl))
   (try simp only [Act.put,List.setIfInBounds_toArray,List.set_cons_zero,List.set_cons_succ]);refine Z9 (i:=6) (v:=?_) rfl (by kernel_rfl) (by kernel_rfl) (by kernel_rfl) (by kernel_rfl) (fun _ _ _ h=>h) (Or.inl ⟨by rfl,?y16⟩) (by assumption) ?_
   case y16=>(intro _ a;(try dsimp only at a);go_simp;(try with_reducible rfl))
   (try simp only [Act.put,List.setIfInBounds_toArray,List.set_cons_zero,List.set_cons_succ]);refine Z9 (i:=7) (v:=?_) rfl (by kernel_rfl) (by kernel_rfl) (by kernel_rfl) (by kernel_rfl) (fun _ _ _ h=>h) (Or.inl ⟨by rfl,?y17⟩) (by assumption) ?_
   case y17=>(intro _ a;(try dsimp only at a);go_simp;(try with_reducible rfl))
   (try simp only [Act.put,List.setIfInBounds_toArray,List.set_cons_zero,List.set_cons_succ]);refine Z9 (i:=8) (v:=?_) rfl (by kernel_rfl) (by kernel_rfl) (by kernel_rfl) (by kernel_rfl) (fun _ _ _ h=>h) (Or.inl ⟨by rfl,?y18⟩) (by assumption) ?_
   case y18=>(intro _ a;(try dsimp only at a);go_simp;(try with_reducible rfl))
   (try simp only [Act.put,List.setIfInBounds_toArray,List.set_cons_zero,List.set_cons_succ]);refine Z9 (i:=9) (v:=?_) rfl (by kernel_rfl) (by kernel_rfl) (by kernel_rfl) (by kernel_rfl) (fun _ _ _ h=>h) (Or.inl ⟨by rfl,?y19⟩) (by assumption) ?_
   case y19=>(intro _ a;(try dsimp only at a);go_simp;(try with_reducible rfl))
   (try simp only [Act.put,List.setIfInBounds_toArray,List.set_cons_zero,List.set_cons_succ]);refine Z9 (i:=10) (v:=?_) rfl (by kernel_rfl) (by kernel_rfl) (by kernel_rfl) (by kernel_rfl) (fun _ _ _ h=>h) (Or.inl ⟨by rfl,?y20⟩) (by assumption) ?_
   case y20=>(intro _ a;(try dsimp only at a);go_simp;(try with_reducible rfl))
   (try simp only [Act.put,List.setIfInBounds_toArray,List.set_cons_zero,List.set_cons_succ]);refine Zkk (i:=11) (by kernel_rfl) rfl (fun KR hKR=>?_);go_simp;(with_reducible refine (Xd _ e.f _ (hm.keep (ZG.drew _)) z).mono ?_);rintro _ w2 ⟨v2,rfl,e2,s⟩;obtain ⟨E,l9,k9,E',O,P,rfl,_,_⟩:=id e2.frac;have u:=(hO.below (Zf _)).below s;obtain ⟨_,_,_,_,⟨c0,c1,c2,c3⟩,⟨f0,f1,f2,f3⟩,_⟩:=u.at_ t;refine hKR.out _ _ ?_ (fun hHeld=>?_)
   ·exact Znc s o
   clear hKR KR;(try simp only [Act.put,List.setIfInBounds_toArray,List.set_cons_zero,List.set_cons_succ]);refine Z9 (i:=12) (v:=?_) rfl (by kernel_rfl) (by kernel_rfl) (by kernel_rfl) (by kernel_rfl) (fun _ _ _ h=>h) (Or.inl ⟨by rfl,?y21⟩) (by assumption) ?_
   case y21=>(intro _ a;(try dsimp only at a);go_simp;(try with_reducible rfl))
   (try simp only [Act.put,List.setIfInBounds_toArray,List.set_cons_zero,List.set_cons_succ]);refine Zkl (i:=13) (by kernel_rfl) rfl (by decide) (fun KR hKR=>?_);go_simp;refine hKR.out _ _ ?_;clear hKR KR;(try simp only [Act.put,List.setIfInBounds_toArray,List.set_cons_zero,List.set_cons_succ]);refine Zkm (by kernel_rfl) (NoPanic.normal ?_) _;obtain ⟨x,R⟩:=u.set_ (k:=j) (by rw [Zi];exact r) e2.frac;rw [XF r] at x;have B:=ZA (Za d.drew s d.size) C (j * 4) (j * 4+1) (j * 4+2) (j * 4+3);go_wp2;go_roundw
   case rel=>exact ⟨k+1,by omega,by go_num,B _ _ _ _,by
    rw [HT.out];have:Z7 m (fun i=>if i=j then e.f.q else dQ (es.take k) (fun _=>0) i)=Z7 m (fun (i:Nat)=>if e.idx=(i:Int) then e.f.q else dQ (es.take k) (fun _=>0) i):=ZR fun i _=>by
     by_cases y:i=j
     ·rw [if_pos y,if_pos (by omega)]
     ·rw [if_neg y,if_neg (by omega)]
    rw [← this];exact x⟩
   case measure=>simp [intOf];omega
  ·go_wp2;go_ret;refine ⟨_,rfl,?_,d⟩;rw [List.take_of_length_le (by rw [HL.out];omega)] at hO;exact hO
theorem Xe {w:World} {base base':Nat} {t:TypeId} {s n:Nat} {v:Value} {xs:List Value} (h:w.ownsRow base t s v n xs) (hb:base'≤base):w.ownsRow base' t s v n xs:=by
 refine ⟨h.1,?_⟩;rcases h.2 with hn | ⟨g,cap,cur,rfl,hb',rest⟩
 ·exact .inl hn
 ·exact .inr ⟨g,cap,cur,rfl,JW hb hb',rest⟩
namespace Pl
def LPd.col (p:LPd) (j:Int):Nat→Rat:=if 0≤j then (match p.cols[j.toNat]? with | some c=>XG c | none=>fun _=>0) else fun i=>if (i:Int)= -1 - j then (if qs (qAt p.right i) < 0 then -1 else 1) else 0
theorem LPd.col_pos {p:LPd} {j:Nat} {c:List En} (h:p.cols[j]? =some c):p.col (j:Int)=XG c:=by
 unfold LPd.col;rw [if_pos (by omega),JP,h]
theorem LPd.col_neg {p:LPd} {r:Nat}:p.col (-1 - (r:Int))=fun i=>if i=r then (if qs (qAt p.right i) < 0 then -1 else 1) else 0:=by
 unfold LPd.col;rw [if_neg (by omega)]
 funext i
 by_cases h:i=r
 ·rw [if_pos h,if_pos (by omega)]
 ·rw [if_neg h,if_neg (by omega)]
def LPd.In (p:LPd):Prop:=∀(j:Nat) (c:List En),p.cols[j]? =some c→inR p.right.length c
theorem Sz_one:Sz 1 1:=by
 unfold Sz;exact ⟨Y2 (by rw [show Int.natAbs (Rat.num 1)=1 from rfl];decide),Y2 (by rw [show Rat.den 1=1 from rfl];decide)⟩
theorem LPd.Sz_col {p:LPd} {K:Nat} (ok:p.Ok K) (hK:1≤K) (j:Int) (i:Nat):Sz K (p.col j i):=by
 rcases Int.lt_or_le j 0 with h | h
 ·obtain ⟨r,rfl⟩:∃r:Nat,j= -1 - (r:Int):=⟨(-1 - j).toNat,by omega⟩;rw [LPd.col_neg];show Sz K (if i=r then (if qs (qAt p.right i) < 0 then -1 else 1) else 0);split
  ·split
   ·exact (Zpf Sz_one).mono hK
   ·exact Sz_one.mono hK
  ·exact Sz_zero.mono hK
 ·obtain ⟨r,rfl⟩:=JT h
  cases hc:p.cols[r]? with
  | some c=>rw [LPd.col_pos hc];exact Pl.Sz_col (ok.2.2 _ c hc).2 hK i
  | none=>
   have:p.col (r:Int) i=0:=by unfold LPd.col;rw [if_pos (by omega),JP,hc]
   rw [this];exact Sz_zero.mono hK
end Pl
theorem Znd [Old] (v:Value) (p:LPd) (K j:Nat) (w:World) (h:LpM w v p) (ok:p.Ok K) (hK:K≤34359738368) (hin:p.In) (hj:j < p.cols.length) (hm:p.right.length≤64) (hOl:Zb w:=by (repeat (first | assumption | exact Zb.up (by assumption) hOl | exact Zb.up (Hid.out (by assumption)) hOl | with_reducible refine Zb.set ?_ _ _ | with_reducible refine Zb.mk_ ?_ _ | with_reducible refine Zb.dr ?_ | with_reducible refine Zb.drN ?_ | refine Zb.up (by assumption) ?_ | refine Zb.up (Hid.out (by assumption)) ?_))):
 Calls Tryz.prog 44 #[v,.int .i64 (j:Int)] w fun e w'=>∃v',e= .returned v'∧Yd w.heap.size w' v' (Z7 p.right.length (p.col j))∧Below w.heap.size w w':=by
 have q:=hOl.le;obtain ⟨A,n,c,A',n',c',g,d,i,rfl,hc,hv,hr⟩:=h;obtain ⟨W,hW,hX,a⟩:=X9 w (.slice A n c) (.slice A' n' c') (.slice g d i);obtain ⟨x0,x1,x2⟩:=hX.three;obtain ⟨m1,m2,m3⟩:=hv.len;obtain ⟨r1,r2,r3⟩:=hr.len;obtain ⟨es,he⟩:=Y8 hj;obtain ⟨b,s,A1,c1,rfl,t,l,m⟩:=hv.elem a he;have hO:=ok.2.2 j es he;have hI:=hin j es he;rw [← r1] at hm hI ⊢;rw [← m1] at hj;rw [LPd.col_pos he];have r:(j:Int) < n':=by omega
 have HS:Hid (∀(k:Nat) (e:En),es[k]? =some e→e.f.Sh):=JZ fun k e hk=>(hO.2 k e hk).sh hK
 have HI:=JZ hI;clear he hO hI r1 m1;go_enter Tryz.func44,Tryz.ntmps44;go_wp2_with fail;clear hW;refine (Zrt _ es d _ m HS.out HI.out (by omega)).mono ?_;rintro _ w1 ⟨v1,rfl,e1,o⟩;obtain ⟨cs,ho,hf⟩:=e1;go_wp2;go_ret;exact ⟨_,rfl,⟨cs,Xe ho a.size,hf⟩,Za a o a.size⟩
namespace Pl
theorem Ycm {n:Int} {es:List En} {p:Option Int} (h:UA n es p=0):∀(k:Nat) (e:En),es[k]? =some e→0≤e.idx∧e.idx < n∧e.f.q≠0:=by
 induction es generalizing p with
 | nil=>intro k e h;simp at h
 | cons d es ih=>
  rw [UA] at h;split at h
  ·omega
  ·rename_i h1
   split at h
   ·omega
   ·split at h
    ·omega
    ·rename_i h3
     intro k e hk
     cases k with
     | zero=>simp at hk;subst hk;exact ⟨by omega,by omega,h3⟩
     | succ k=>exact ih h k e (by simpa using hk)
def Inc:Option Int→List En→Prop
 | _,[]=>True
 | p,e::es=>leP p e.idx=false∧Inc (some e.idx) es
theorem Zys {n:Int} {es:List En} {p:Option Int} (h:UA n es p=0):Inc p es:=by
 induction es generalizing p with
 | nil=>trivial
 | cons d es ih=>
  rw [UA] at h;split at h
  ·omega
  ·split at h
   ·omega
   ·rename_i h2
    split at h
    ·omega
    ·exact ⟨by simpa using h2,ih h⟩
theorem Zef {es:List En} {n:Nat} (h:vecErr es n=0):inR n es∧(∀(k:Nat) (e:En),es[k]? =some e→e.f.q≠0)∧Inc none es:=by
 unfold vecErr at h;split at h
 ·omega
 ·have:=Ycm h;exact ⟨fun k e hk=>⟨(this k e hk).1,(this k e hk).2.1⟩,fun k e hk=>(this k e hk).2.2,Zys h⟩
theorem Zcp {n:Int} {cs:List (List En)} (h:Xj n cs=0):∀(k:Nat) (c:List En),cs[k]? =some c→vecErr c n=0:=by
 induction cs with
 | nil=>intro k c h;simp at h
 | cons d cs ih=>
  rw [Xj] at h;split at h
  ·rename_i h1
   intro k c hk
   cases k with
   | zero=>simp at hk;subst hk;exact h1
   | succ k=>exact ih h k c (by simpa using hk)
  ·rename_i h1;exact absurd h h1
theorem Wq {p:LPd} (h:lpErr p=0):p.right.length≤64∧p.cols.length≤1200∧p.cost.length=p.cols.length∧p.In∧∀(j:Nat) (c:List En),p.cols[j]? =some c→(∀(k:Nat) (e:En),c[k]? =some e→e.f.q≠0)∧Inc none c:=by
 unfold lpErr at h;split at h
 ·omega
 ·split at h
  ·omega
  ·refine ⟨by omega,by omega,by omega,fun j c hc=>(Zef (Zcp h j c hc)).1,fun j c hc=>(Zef (Zcp h j c hc)).2⟩
end Pl
namespace Pl
def Zeg (es:List En) (ys:List RF) (k:Nat):Rat:=ZZ (fun i=>match es[i]? with | some e=>e.f.q * qAt ys e.idx.toNat | none=>0) k
theorem Zeh {es:List En} {k:Nat} {e:En} (h:es[k]? =some e) (ys:List RF):Zeg es ys (k+1)=Zeg es ys k+e.f.q * qAt ys e.idx.toNat:=by
 unfold Zeg;rw [ZH,h]
theorem Zyt {es:List En} {ys:List RF} {K:Nat} (he:∀(k:Nat) (e:En),es[k]? =some e→e.f.Rs K) (hy:RsL K ys) (hK:1≤K) (k:Nat):Sz (1+k * (2 * K+1)) (Zeg es ys k):=
 Zph fun i _=>by
  split
  ·rename_i e h
   exact (Wz ((he i e h).sz hK) (hy.qAt hK _)).mono (by omega)
  ·exact Sz_zero.mono (by omega)
end Pl
def zfc (n:Nat):Array Value:=madeCells (Value.cells (.agg #[.bool false,.slice none 0 0,.bool false,.slice none 0 0])) (n * 4)
theorem Zpm {n k j:Nat} (hk:k < n) (hj:j < 4):(zfc n)[k * 4+j]? =([.bool false,.slice none 0 0,.bool false,.slice none 0 0]:List Value)[j]? :=by
 have a:k * 4+j < n * 4:=by omega
 have hm:(k * 4+j) % 4=j:=by omega
 unfold zfc madeCells;simp [a,Value.cells,hm]
 match j,hj with
 | 0,_=>rfl
 | 1,_=>rfl
 | 2,_=>rfl
 | 3,_=>rfl
theorem Yd.zeros [Old] (w:World) (n:Nat) (hn:n≤maxLen):Yd w.heap.size (w.alloc (.cells (zfc n) 48)) (.slice (some ⟨w.heap.size,0,none⟩) n n) (List.replicate n zeroF):=by
 have a:(zfc n).size=n * 4:=size_madeCells _ _;refine ⟨(zfc n).toList,⟨by simp [a],.inr ⟨w.heap.size,n,zfc n,by simp,JY _,heap_alloc_new w _,by simp,hn,a,?_⟩⟩,by simp [a],fun k f hf=>?_⟩
 ·rw [List.take_of_length_le (by simp [a])]
 ·rw [List.getElem?_replicate] at hf;split at hf
  ·rename_i hk
   injection hf with hf;subst hf;refine ⟨_,_,_,_,?_,?_,?_,?_,Zt.zero _⟩
   ·have:=Zpm (j:=0) hk (by decide);simpa using this
   ·have:=Zpm (j:=1) hk (by decide);simpa using this
   ·have:=Zpm (j:=2) hk (by decide);simpa using this
   ·have:=Zpm (j:=3) hk (by decide);simpa using this
  ·cases hf
theorem WC (n:Nat) (hn:n≤1099511627776) (w:World):
 (Instr.makeSlice 23 (.int .i64 (n:Int)) (.int .i64 (n:Int))).run Tryz.prog w= .ok (.slice (some ⟨w.heap.size,0,none⟩) n n) (w.alloc (.cells (zfc n) 48)):=by
 obtain ⟨i0,hi,a,b,c⟩:=info_parts info_frac;have hb:(i0.bytes:Int) * (n:Int)≤281474976710656:=by rw [c];omega
 have hr:=run_make (P:=Tryz.prog) w 23 48 i0 _ Tryz.underlying23 hi a .i64 .i64 n n (by omega) (by omega) hb (by omega);simp only [JP,b] at hr;exact hr
namespace Pl
theorem zeroF_q:zeroF.q=0:=by unfold RF.q zeroF;rw [ZL,Rat.divInt_zero]
theorem Vz (K:Nat):zeroF.Rs K:=by unfold RF.Rs zeroF;simp [YF,digs_zero]
theorem Yex {es:List En} {p:Option Int} (h:Inc p es):∀(k:Nat) (e:En),es[k]? =some e→∀i,p=some i→i < e.idx:=by
 induction es generalizing p with
 | nil=>intro k e hk;simp at hk
 | cons d es ih=>
  intro k e hk i hp;have h1:i < d.idx:=by
   have:=h.1;subst hp;simp [leP] at this;exact this
  cases k with
  | zero=>simp at hk;subst hk;exact h1
  | succ k=>
   have:=ih h.2 k e (by simpa using hk) d.idx rfl;omega
theorem Zpn {es:List En} {p:Option Int} (h:Inc p es):∀(i j:Nat) (d e:En),i < j→es[i]? =some d→es[j]? =some e→d.idx < e.idx:=by
 induction es generalizing p with
 | nil=>intro i j d e _ hi;simp at hi
 | cons c es ih=>
  intro i j d e a hi hj
  cases i with
  | zero=>
   simp at hi;subst hi
   cases j with
   | zero=>omega
   | succ j=>exact Yex h.2 j e (by simpa using hj) c.idx rfl
  | succ i=>
   cases j with
   | zero=>omega
   | succ j=>exact ih h.2 i j d e (by omega) (by simpa using hi) (by simpa using hj)
theorem Yey {es:List En} {f:Nat→Rat} {i:Nat} (h:∀(k:Nat) (e:En),es[k]? =some e→e.idx≠(i:Int)):dQ es f i=f i:=by
 induction es generalizing f with
 | nil=>rfl
 | cons e es ih=>
  rw [dQ,ih fun k d hd=>h (k+1) d (by simpa using hd),if_neg (h 0 e rfl)]
theorem Zyu {es:List En} {k:Nat} {e:En} (hinc:Inc none es) (he:es[k]? =some e) {f:Nat→Rat} {i:Nat} (hi:e.idx=(i:Int)):dQ (es.take k) f i=f i:=by
 apply Yey;intro j d hd;rw [List.getElem?_take] at hd;split at hd
 ·rename_i hj
  have:=Zpn hinc j k d e hj hd he;omega
 ·cases hd
end Pl
namespace Pl
theorem WR (f g:Nat→Rat) (n:Nat):ZZ (fun i=>f i+g i) n=ZZ f n+ZZ g n:=by
 induction n with
 | zero=>simp [YS,Rat.add_zero]
 | succ n ih=>rw [ZH,ZH,ZH,ih];grind
theorem Xo (c:Rat) (f:Nat→Rat) (n:Nat):ZZ (fun i=>c * f i) n=c * ZZ f n:=by
 induction n with
 | zero=>simp [YS,Rat.mul_zero]
 | succ n ih=>rw [ZH,ZH,ih];grind
theorem VA (n:Nat):ZZ (fun _=>0) n=0:=by
 induction n with
 | zero=>rfl
 | succ n ih=>rw [ZH,ih,Rat.add_zero]
theorem Ub (f:Nat→Nat→Rat) (n m:Nat):ZZ (fun i=>ZZ (fun j=>f i j) m) n=ZZ (fun j=>ZZ (fun i=>f i j) n) m:=by
 induction n with
 | zero=>simp only [YS];rw [VA]
 | succ n ih=>
  rw [ZH,ih,← WR];rfl
theorem WS {n k:Nat} (hk:k < n) (c:Rat):ZZ (fun i=>if i=k then c else 0) n=c:=by
 induction n with
 | zero=>omega
 | succ n ih=>
  rw [ZH];by_cases h:n=k
  ·subst h;rw [if_pos rfl,Zn (g:=fun _=>0) (fun i hi=>if_neg (by omega)),VA,Rat.zero_add]
  ·rw [if_neg h,ih (by omega),Rat.add_zero]
def Yec (ys:List RF) (f:Nat→Rat) (m:Nat):Rat:=ZZ (fun i=>qAt ys i * f i) m
theorem Zku {ys:List RF} {f:Nat→Rat} {m:Nat}:Ygu ys (Z7 m f) m=Yec ys f m:=Zn fun i hi=>by rw [YX hi]
theorem Zne {es:List En} {ys:List RF} {m:Nat} (hin:inR m es) (hinc:Inc none es):∀k,k≤es.length→Zeg es ys k=Yec ys (dQ (es.take k) fun _=>0) m:=by
 intro k
 induction k with
 | zero=>
  intro _;show 0=_;unfold Yec;rw [Zn (g:=fun _=>0) (fun i _=>by simp [dQ,Rat.mul_zero]),VA]
 | succ k ih=>
  intro hk;obtain ⟨e,he⟩:∃e,es[k]? =some e:=⟨es[k],JQ (by omega)⟩;obtain ⟨h0,h1⟩:=hin k e he;obtain ⟨d,hd⟩:=JT h0;have a:d < m:=by omega
  rw [Zeh he,ih (by omega),Zut he];have hf:dQ (es.take k) (fun _=>0) d=0:=Zyu hinc he hd;have:Yec ys (fun i=>if e.idx=(i:Int) then e.f.q else dQ (es.take k) (fun _=>0) i) m=ZZ (fun i=>qAt ys i * dQ (es.take k) (fun _=>0) i+if i=d then qAt ys d * e.f.q else 0) m:=Zn fun i _=>by
   show qAt ys i * (if e.idx=(i:Int) then e.f.q else dQ (es.take k) (fun _=>0) i)=_;by_cases hi:i=d
   ·subst hi;rw [if_pos hd,if_pos rfl,hf];grind
   ·rw [if_neg (show ¬e.idx=(i:Int) by omega),if_neg hi,Rat.add_zero]
  rw [this,WR,WS a];unfold Yec;rw [hd,JP,Rat.mul_comm e.f.q]
theorem Zei {q:Rat}:qs q < 0↔q < 0:=by
 have h:qs q < 0↔q.num < 0:=by unfold qs sgn;split <;> rename_i h <;> (try split) <;> omega
 rw [h,← Rat.not_le,← Rat.num_nonneg];omega
theorem Zat {q:Rat}:0 < qs q↔0 < q:=by
 have h:0 < qs q↔0 < q.num:=by unfold qs sgn;split <;> rename_i h <;> (try split) <;> omega
 have h2:q.num=0↔q=0:=Rat.num_eq_zero;have h3:0≤q.num↔0≤q:=Rat.num_nonneg;rw [h];constructor
 ·intro g;have:q≠0:=fun e=>by have:=h2.2 e;omega
  have:=h3.1 (by omega);grind
 ·intro g;have h4:q.num≠0:=fun e=>by have:=h2.1 e;grind
  have:=h3.2 (by grind);omega
end Pl
namespace Pl
theorem Zpo (f g:Nat→Rat) (n:Nat):ZZ (fun i=>f i - g i) n=ZZ f n - ZZ g n:=by
 induction n with
 | zero=>rw [YS,YS,YS];grind
 | succ n ih=>rw [ZH,ZH,ZH,ih];grind
theorem Vf {f:Nat→Rat} {n:Nat} (h:∀i,i < n→f i=0):ZZ f n=0:=by
 rw [Zn h];exact VA n
theorem Y9 {f:Nat→Rat} {n k:Nat} (hk:k < n) (h:∀i,i < n→i≠k→f i=0):ZZ f n=f k:=by
 rw [Zn (g:=fun i=>if i=k then f k else 0) fun i hi=>?_]
 ·exact WS hk (f k)
 ·by_cases e:i=k
  ·rw [if_pos e,e]
  ·rw [if_neg e,h i hi e]
theorem Wl {f:Nat→Rat} {n m:Nat} (hm:n≤m) (h:∀i,n≤i→i < m→f i=0):ZZ f m=ZZ f n:=by
 induction m with
 | zero=>
  obtain rfl:n=0:=by omega
  rfl
 | succ m ih=>
  rcases JX n (m+1) with e | e
  ·rw [ZH,h m (by omega) (by omega),ih (by omega) fun i h1 h2=>h i h1 (by omega)];grind
  ·obtain rfl:n=m+1:=by omega
   rfl
def Zgh (m:Nat) (M:Mx) (y:Nat→Rat) (r:Nat):Rat:=ZZ (fun c=>M r c * y c) m
def Zcv (m:Nat) (M:Mx) (y:Nat→Rat):Prop:=∀r,r < m→Zgh m M y r=M r m
def Zgi (m k:Nat) (M:Mx):Prop:=∀r c,r < m→c < k→M r c=if r=c then 1 else 0
theorem Zkv {m:Nat} {A B C:Mx} {y:Nat→Rat} {r s t:Nat} {a b:Rat} (h:∀c,c < m→A r c=a * B s c+b * C t c):Zgh m A y r=a * Zgh m B y s+b * Zgh m C y t:=by
 unfold Zgh;rw [← Xo,← Xo,← WR];exact Zn fun c hc=>by rw [h c hc];grind
theorem Zcv.swap {m k t:Nat} {M:Mx} {y:Nat→Rat} (hk:k < m) (ht:t < m):Zcv m (swapM M k t) y↔Zcv m M y:=by
 have a:∀N:Mx,Zcv m N y→Zcv m (swapM N k t) y:=fun N h r hr=>by
  unfold Zgh swapM;by_cases e1:r=k
  ·simp only [if_pos e1];exact h t ht
  ·by_cases e2:r=t
   ·simp only [if_neg e1,if_pos e2];exact h k hk
   ·simp only [if_neg e1,if_neg e2];exact h r hr
 refine ⟨fun h=>?_,a M⟩;have:=a _ h;have e:swapM (swapM M k t) k t=M:=by
  funext r c
  unfold swapM;by_cases e1:r=k
  ·subst e1;simp only [if_pos];by_cases e2:t=r
   ·subst e2;simp
   ·simp [e2]
  ·by_cases e2:r=t
   ·subst e2;simp [e1]
   ·simp [e1,e2]
 rwa [e] at this
theorem Zcv.scale {m k:Nat} {M:Mx} {y:Nat→Rat} {f:Rat} (hk:k < m) (hf:f≠0) (hz:∀c,c < k→M k c=0):Zcv m (scaleTo M k (m+1) f) y↔Zcv m M y:=by
 have d:∀r,r < m→r≠k→∀c,scaleTo M k (m+1) f r c=M r c:=fun r _ hne c=>by unfold scaleTo;rw [if_neg (by omega)]
 have g:∀c,c < m+1→scaleTo M k (m+1) f k c=M k c / f:=fun c hc=>by
  unfold scaleTo;by_cases e:k≤c
  ·rw [if_pos ⟨rfl,e,hc⟩]
  ·rw [if_neg (by omega),hz c (by omega)];grind
 have hs:Zgh m (scaleTo M k (m+1) f) y k=Zgh m M y k / f:=by
  rw [Zkv (B:=M) (C:=M) (s:=k) (t:=k) (a:=1 / f) (b:=0) fun c hc=>by rw [g c (by omega)];grind];grind
 constructor
 ·intro h r hr;by_cases e:r=k
  ·subst e;have:=h r hr;rw [hs,g m (by omega)] at this;have h2:Zgh m M y r / f * f=M r m / f * f:=by rw [this]
   rwa [Rat.div_mul_cancel hf,Rat.div_mul_cancel hf] at h2
  ·have:=h r hr;rw [d r hr e] at this;rw [← this];unfold Zgh;exact Zn fun c _=>by rw [d r hr e]
 ·intro h r hr;by_cases e:r=k
  ·subst e;rw [hs,g m (by omega),h r hr]
  ·rw [d r hr e,← h r hr];unfold Zgh;exact Zn fun c _=>by rw [d r hr e]
theorem Zcv.elim {m k:Nat} {M:Mx} {y:Nat→Rat} (hk:k < m) (hz:∀c,c < k→M k c=0):Zcv m (ZV M k m m) y↔Zcv m M y:=by
 have d:∀c,ZV M k m m k c=M k c:=fun c=>Vw c
 have f:∀r,r < m→r≠k→∀c,c≤m→ZV M k m m r c=M r c - M r k * M k c:=fun r hr hne c hc=>by
  unfold ZV;by_cases e:k≤c
  ·rw [if_pos ⟨hne,hr,e,hc⟩]
  ·rw [if_neg (by omega),hz c (by omega)];grind
 have hs:∀r,r < m→r≠k→Zgh m (ZV M k m m) y r=Zgh m M y r - M r k * Zgh m M y k:=fun r hr hne=>by
  rw [Zkv (B:=M) (C:=M) (s:=r) (t:=k) (a:=1) (b:= -(M r k)) fun c hc=>by rw [f r hr hne c (by omega)];grind];grind
 have g:Zgh m (ZV M k m m) y k=Zgh m M y k:=Zn fun c _=>by rw [d]
 constructor
 ·intro h;have h0:Zgh m M y k=M k m:=by rw [← g,h k hk,d]
  intro r hr;by_cases e:r=k
  ·subst e;exact h0
  ·have:=h r hr;rw [hs r hr e,f r hr e m (JY _),h0] at this;grind
 ·intro h r hr;by_cases e:r=k
  ·subst e;rw [g,d];exact h r hr
  ·rw [hs r hr e,f r hr e m (JY _),h r hr,h k hk]
theorem Zru {m k:Nat} {M M':Mx} (hk:k < m) (hu:Zgi m k M) (e:WB M k m=some M'):Zgi m (k+1) M'∧∀y,Zcv m M' y↔Zcv m M y:=by
 unfold WB at e
 cases hf:Zap M k m with
 | none=>rw [hf] at e;cases e
 | some t=>
  rw [hf] at e;injection e with e;obtain ⟨h1,h2,h3⟩:=Zhs hf;have hS:∀c,swapM M k t k c=M t c:=fun c=>by unfold swapM;rw [if_pos rfl]
  have hp:swapM M k t k k≠0:=by rw [hS];exact h3
  have us:Zgi m k (swapM M k t):=fun r c hr hc=>by
   unfold swapM;by_cases e1:r=k
   ·rw [if_pos e1,hu t c h2 hc,if_neg (by omega),if_neg (by omega)]
   ·rw [if_neg e1];by_cases e2:r=t
    ·rw [if_pos e2,hu k c hk hc,if_neg (by omega),if_neg (by omega)]
    ·rw [if_neg e2];exact hu r c hr hc
  have hz:∀c,c < k→swapM M k t k c=0:=fun c hc=>by rw [us k c hk hc,if_neg (by omega)]
  have d:∀y,Zcv m (swapM M k t) y↔Zcv m M y:=fun y=>Zcv.swap hk h2
  generalize swapM M k t=N at *;obtain ⟨f,b⟩:∃f,N k k=f:=⟨_,rfl⟩;rw [b] at hp e;have g:∀c,c < k→scaleTo N k (m+1) f k c=0:=fun c hc=>by unfold scaleTo;rw [if_neg (by omega)];exact hz c hc
  have a:scaleTo N k (m+1) f k k=1:=by
   unfold scaleTo;rw [if_pos ⟨rfl,JY _,by omega⟩,b];rw [Rat.div_def];exact Rat.mul_inv_cancel f hp
  have u2:Zgi m k (scaleTo N k (m+1) f):=fun r c hr hc=>by
   unfold scaleTo;rw [if_neg (by omega)];exact us r c hr hc
  have h:∀y,Zcv m (scaleTo N k (m+1) f) y↔Zcv m N y:=fun y=>Zcv.scale hk hp hz
  generalize scaleTo N k (m+1) f=Q at *;subst e;refine ⟨fun r c hr hc=>?_,fun y=>(Zcv.elim hk g).trans ((h y).trans (d y))⟩;by_cases ec:c=k
  ·subst ec;by_cases er:r=c
   ·subst er;rw [Vw,a,if_pos rfl]
   ·unfold ZV;rw [if_pos ⟨er,hr,JY _,by omega⟩,a,if_neg er];grind
  ·unfold ZV;rw [if_neg (by omega)];exact u2 r c hr (by omega)
theorem Zuu {m:Nat} {M:Mx}:∀{k:Nat} {M':Mx},k≤m→gj M m k=some M'→Zgi m k M'∧∀y,Zcv m M' y↔Zcv m M y
 | 0,M',_,e=>by
  unfold gj at e
  injection e with e
  subst e
  exact ⟨fun r c _ hc=>by omega,fun y=>Iff.rfl⟩
 | k+1,M',hk,e=>by
  unfold gj at e
  cases hg:gj M m k with
  | none=>rw [hg] at e;cases e
  | some N=>
   rw [hg] at e
   obtain ⟨h1,h2⟩:=Zuu (by omega) hg
   obtain ⟨h3,h4⟩:=Zru (by omega) h1 e
   exact ⟨h3,fun y=>(h4 y).trans (h2 y)⟩
theorem Zyv {m:Nat} {M:Mx} (hu:Zgi m m M) (y:Nat→Rat):Zcv m M y↔∀r,r < m→y r=M r m:=by
 have a:∀r,r < m→Zgh m M y r=y r:=fun r hr=>by
  unfold Zgh;rw [Y9 hr fun i hi hne=>by rw [hu r i hr hi,if_neg (fun e=>hne e.symm)];grind,hu r r hr hr,if_pos rfl];grind
 exact ⟨fun h r hr=>by rw [← a r hr];exact h r hr,fun h r hr=>by rw [a r hr];exact h r hr⟩
def Xw (m:Nat) (cols:Mx) (y:Nat→Rat) (r:Nat):Rat:=ZZ (fun c=>cols c r * y c) m
theorem Zuv {m:Nat} {cols:Mx} {b y:Nat→Rat}:Zcv m (VN m cols b) y↔∀r,r < m→Xw m cols y r=b r:=by
 have d:∀r,Zgh m (VN m cols b) y r=Xw m cols y r:=fun r=>Zn fun c hc=>by unfold VN;rw [if_pos hc]
 have a:∀r,VN m cols b r m=b r:=fun r=>by unfold VN;rw [if_neg (by omega)]
 exact ⟨fun h r hr=>by rw [← d,h r hr,a],fun h r hr=>by rw [d,h r hr,a]⟩
theorem Ws {m:Nat} {cols:Mx} {b x:Nat→Rat} (h:YK m cols b=some x) (y:Nat→Rat):(∀r,r < m→Xw m cols y r=b r)↔∀k,k < m→y k=x k:=by
 unfold YK at h
 cases hg:gj (VN m cols b) m m with
 | none=>rw [hg] at h;cases h
 | some M=>
  rw [hg] at h;injection h with h;subst h;obtain ⟨h1,h2⟩:=Zuu (JY m) hg;rw [← Zuv,← h2 y,Zyv h1]
theorem Zuw (m:Nat) (cols:Mx) (r:Nat):Xw m cols (fun _=>0) r=0:=Vf fun c _=>by grind
def Xf (m:Nat) (cols:Mx):Prop:=∀y:Nat→Rat,(∀r,r < m→Xw m cols y r=0)→∀k,k < m→y k=0
theorem Zhx {m:Nat} {cols:Mx} {b x:Nat→Rat} (h:YK m cols b=some x):Xf m cols:=by
 have hs:=Zec (m:=m) (cols:=cols) b fun _=>0
 rw [h] at hs;obtain ⟨z,hz⟩:=Option.isSome_iff_exists.1 hs.symm;have h0:=(Ws hz fun _=>0).1 fun r _=>Zuw m cols r
 intro y hy k hk;rw [(Ws hz y).1 hy k hk,← h0 k hk]
theorem Zhy {m k:Nat} {M M':Mx} (h:∀r,r < m→M r m=0) (hk:k < m) (e:WB M k m=some M'):∀r,r < m→M' r m=0:=by
 unfold WB at e
 cases hf:Zap M k m with
 | none=>rw [hf] at e;cases e
 | some t=>
  rw [hf] at e;injection e with e;obtain ⟨h1,h2,h3⟩:=Zhs hf;have hs:∀r,r < m→swapM M k t r m=0:=fun r hr=>by
   unfold swapM;split
   ·exact h t h2
   ·split
    ·exact h k hk
    ·exact h r hr
  generalize swapM M k t=N at *;have hc:∀r,r < m→scaleTo N k (m+1) (N k k) r m=0:=fun r hr=>by
   unfold scaleTo;split
   ·rw [hs r hr];grind
   ·exact hs r hr
  generalize scaleTo N k (m+1) (N k k)=Q at *;subst e;intro r hr;unfold ZV;split
  ·rw [hc r hr,hc k hk];grind
  ·exact hc r hr
theorem Zux {m:Nat} {M:Mx} (h:∀r,r < m→M r m=0):∀{k:Nat} {M':Mx},k≤m→gj M m k=some M'→∀r,r < m→M' r m=0
 | 0,M',_,e=>by unfold gj at e;injection e with e;subst e;exact h
 | k+1,M',hk,e=>by
  unfold gj at e
  cases hg:gj M m k with
  | none=>rw [hg] at e;cases e
  | some N=>rw [hg] at e;exact Zhy (Zux h (by omega) hg) (by omega) e
theorem Zuy {m:Nat} {M:Mx}:∀{n:Nat},n≤m→gj M m n=none→∃k N,k < n∧gj M m k=some N∧Zap N k m=none
 | 0,_,e=>by unfold gj at e;cases e
 | n+1,hn,e=>by
  cases hg:gj M m n with
  | none=>
   obtain ⟨k,N,h1,h2,h3⟩:=Zuy (by omega) hg
   exact ⟨k,N,by omega,h2,h3⟩
  | some N=>
   refine ⟨n,N,by omega,hg,?_⟩
   unfold gj at e
   rw [hg] at e
   simp only at e
   unfold WB at e
   cases hf:Zap N n m with
   | none=>rfl
   | some t=>rw [hf] at e;cases e
theorem Znf {m:Nat} {cols:Mx} {b:Nat→Rat} (h:YK m cols b=none):¬Xf m cols:=by
 have hs:=Zec (m:=m) (cols:=cols) b fun _=>0
 rw [h] at hs;have h0:YK m cols (fun _=>0)=none:=by
  cases e:YK m cols (fun _=>0) with
  | none=>rfl
  | some x=>rw [e] at hs;cases hs
 unfold YK at h0;have hg:gj (VN m cols fun _=>0) m m=none:=by
  cases e:gj (VN m cols fun _=>0) m m with
  | none=>rfl
  | some x=>rw [e] at h0;cases h0
 obtain ⟨k,N,hk,hN,hf⟩:=Zuy (JY m) hg;obtain ⟨h1,h2⟩:=Zuu (by omega) hN;have hz:=Zrs hf;have hr:=Zux (fun r _=>by unfold VN;rw [if_neg (by omega)]) (by omega) hN;intro hi;have hy:Zcv m N (fun c=>if c < k then -(N c k) else if c=k then 1 else 0):=fun r hrm=>by
  rw [hr r hrm];show ZZ (fun c=>N r c * (if c < k then -(N c k) else if c=k then 1 else 0)) m=0;rw [Wl (n:=k+1) (by omega) fun i i1 i2=>by rw [if_neg (by omega),if_neg (by omega)];grind,ZH,if_neg (Nat.lt_irrefl k),if_pos rfl];rcases JX r k with hrk | hrk
  ·rw [Y9 hrk fun i hi2 hne=>by rw [h1 r i hrm hi2,if_neg (fun e=>hne e.symm)];grind,h1 r r hrm hrk,if_pos rfl,if_pos hrk];grind
  ·rw [Vf fun i hi2=>by rw [h1 r i hrm hi2,if_neg (by omega)];grind,hz r hrk hrm];grind
 have:=hi _ (Zuv.1 ((h2 _).1 hy)) k hk;simp at this
theorem XH {m:Nat} {cols:Mx} (h:Xf m cols) (b:Nat→Rat):∃x,YK m cols b=some x:=by
 cases e:YK m cols b with
 | none=>exact absurd h (Znf e)
 | some x=>exact ⟨x,rfl⟩
theorem Zau {m:Nat} {cols:Mx} {b x:Nat→Rat} (hi:Xf m cols) (hx:∀r,r < m→Xw m cols x r=b r):∃z,YK m cols b=some z∧∀k,k < m→z k=x k:=by
 obtain ⟨z,hz⟩:=XH hi b;exact ⟨z,hz,fun k hk=>((Ws hz x).1 hx k hk).symm⟩
end Pl
namespace Pl
theorem pigeon:∀(m n:Nat) (f:Nat→Nat),m < n→(∀k,k < n→f k < m)→∃i j,i < j∧j < n∧f i=f j
 | 0,n,f,h,hf=>absurd (hf 0 (by omega)) (by omega)
 | m+1,n,f,h,hf=>by
  by_cases hk:∃k,k < n∧f k=m
  ·obtain ⟨k,hkn,hfk⟩:=hk
   by_cases h2:∃l,l < n∧l≠k∧f l=m
   ·obtain ⟨l,hl,hne,hfl⟩:=h2
    rcases JX l k with e | e
    ·exact ⟨l,k,e,hkn,by rw [hfl,hfk]⟩
    ·exact ⟨k,l,by omega,hl,by rw [hfl,hfk]⟩
   ·obtain ⟨i,j,hij,hj,he⟩:=pigeon m (n - 1) (fun i=>if i < k then f i else f (i+1)) (by omega) fun i hi=>by
     by_cases e:i < k
     ·simp only [if_pos e]
      have:=hf i (by omega)
      have:f i≠m:=fun e'=>h2 ⟨i,by omega,by omega,e'⟩
      omega
     ·simp only [if_neg e]
      have:=hf (i+1) (by omega)
      have:f (i+1)≠m:=fun e'=>h2 ⟨i+1,by omega,by omega,e'⟩
      omega
    by_cases e1:i < k
    ·by_cases e2:j < k
     ·exact ⟨i,j,hij,by omega,by simpa only [if_pos e1,if_pos e2] using he⟩
     ·exact ⟨i,j+1,by omega,by omega,by simpa only [if_pos e1,if_neg e2] using he⟩
    ·exact ⟨i+1,j+1,by omega,by omega,by simpa only [if_neg e1,if_neg (show ¬j < k by omega)] using he⟩
  ·exact pigeon m n f (by omega) fun k hkn=>by
    have:=hf k hkn
    have:f k≠m:=fun e=>hk ⟨k,hkn,e⟩
    omega
def Inj (n t:Nat) (F:Nat→Nat):Prop:=(∀s,s < t→F s < n)∧∀s u,s < u→u < t→F s≠F u
theorem Inj.eq {n t:Nat} {F:Nat→Nat} (h:Inj n t F) {s u:Nat} (hs:s < t) (hu:u < t) (e:F s=F u):s=u:=by
 rcases Nat.lt_trichotomy s u with g | g | g
 ·exact absurd e (h.2 s u g hu)
 ·exact g
 ·exact absurd e.symm (h.2 u s g hs)
theorem Inj.onto {n:Nat} {F:Nat→Nat} (h:Inj n n F) {i:Nat} (hi:i < n):∃s,s < n∧F s=i:=by
 by_cases e:∃s,s < n∧F s=i
 ·exact e
 ·exfalso;obtain ⟨a,b,c,hb,he⟩:=pigeon n (n+1) (fun s=>if s < n then F s else i) (by omega) fun k _=>by
   by_cases e':k < n
   ·simp only [if_pos e'];exact h.1 k e'
   ·simp only [if_neg e'];exact hi
  by_cases e1:b < n
  ·exact h.2 a b c e1 (by simpa only [if_pos (show a < n by omega),if_pos e1] using he)
  ·exact e ⟨a,by omega,by simpa only [if_pos (show a < n by omega),if_neg e1] using he⟩
theorem Inj.free {n t:Nat} {F:Nat→Nat} (_h:Inj n t F) (ht:t < n):∃i,i < n∧∀s,s < t→F s≠i:=by
 by_cases e:∃i,i < n∧∀s,s < t→F s≠i
 ·exact e
 ·exfalso;have c:∀i,i < n→∃s,s < t∧F s=i:=fun i hi=>by
   by_cases e':∃s,s < t∧F s=i
   ·exact e'
   ·exact absurd ⟨i,hi,fun s hs he=>e' ⟨s,hs,he⟩⟩ e
  obtain ⟨a,b,d,hb,he⟩:=pigeon t n (fun i=>if hi:i < n then (c i hi).choose else 0) ht fun k hk=>by
   simp only [dif_pos hk];exact (c k hk).choose_spec.1
  simp only [dif_pos (show a < n by omega),dif_pos hb] at he;have h1:=(c a (by omega)).choose_spec.2;have h2:=(c b hb).choose_spec.2;rw [he] at h1;omega
theorem Zav {n:Nat} {F:Nat→Nat} (h:Inj n n F) (f:Nat→Rat):ZZ (fun k=>f (F k)) n=ZZ f n:=by
 have h1:ZZ (fun k=>f (F k)) n=ZZ (fun k=>ZZ (fun j=>if j=F k then f j else 0) n) n:=Zn fun k hk=>by
  rw [Y9 (h.1 k hk) fun i _ hne=>by rw [if_neg hne],if_pos rfl]
 rw [h1,Ub];exact Zn fun j hj=>by
  obtain ⟨s,hs,he⟩:=h.onto hj;rw [Y9 hs fun i hi hne=>if_neg fun e=>hne (h.eq hi hs (by omega)),if_pos he.symm]
structure UT (n t:Nat) (A a:Mx) (R C:Nat→Nat) (m:Mx):Prop where
 ri:Inj n t R
 ci:Inj n t C
 m0:∀s q,s < t→q≤s→m s (R q)=0
 piv:∀s,s < t→a (R s) (C s)≠0
 e1:∀i j,i < n→j < n→(∀s,s < t→R s≠i)→(∀s,s < t→C s≠j)→A i j=ZZ (fun s=>m s i * a (R s) j) t+a i j
 e2:∀i q,i < n→q < t→(∀s,s < t→R s≠i)→A i (C q)=ZZ (fun s=>m s i * a (R s) (C q)) (q+1)
 e3:∀p j,p < t→j < n→(∀s,s < p→C s≠j)→A (R p) j=ZZ (fun s=>m s (R p) * a (R s) j) p+a (R p) j
 e4:∀p q,p < t→q < p→A (R p) (C q)=ZZ (fun s=>m s (R p) * a (R s) (C q)) (q+1)
theorem UT.start (n:Nat) (A:Mx) (R C:Nat→Nat) (m:Mx):UT n 0 A A R C m where
 ri:=⟨fun s h=>absurd h (by omega),fun s u _ h=>absurd h (by omega)⟩
 ci:=⟨fun s h=>absurd h (by omega),fun s u _ h=>absurd h (by omega)⟩
 m0:=fun s q h=>absurd h (by omega)
 piv:=fun s h=>absurd h (by omega)
 e1:=fun i j _ _ _ _=>by rw [YS];grind
 e2:=fun i q _ h=>absurd h (by omega)
 e3:=fun p j h=>absurd h (by omega)
 e4:=fun p q h=>absurd h (by omega)
theorem UT.step {n t:Nat} {A a:Mx} {R C:Nat→Nat} {m:Mx} (h:UT n t A a R C m) {r c:Nat} (hr:r < n) (hc:c < n) (hrf:∀s,s < t→R s≠r) (hcf:∀s,s < t→C s≠c) (hp:a r c≠0)
 {a' m':Mx} {R' C':Nat→Nat} (hR:∀s,s < t→R' s=R s) (hRt:R' t=r) (hC:∀s,s < t→C' s=C s) (hCt:C' t=c)
 (hm:∀s i,s < t→m' s i=m s i) (hmt:∀i,i < n→m' t i=if (∀s,s < t→R s≠i)∧i≠r then a i c / a r c else 0)
 (ha:∀i j,i < n→j < n→a' i j=if ((∀s,s < t→R s≠i)∧i≠r)∧((∀s,s < t→C s≠j)∧j≠c) then a i j - m' t i * a r j else a i j):UT n (t+1) A a' R' C' m':=by
 have y:∀i,i < n→(∀s,s < t→R s≠i)→i≠r→m' t i * a r c=a i c:=fun i hi h1 h2=>by
  rw [hmt i hi,if_pos ⟨h1,h2⟩];exact Rat.div_mul_cancel hp
 have l:∀s,s < t+1→R' s < n:=fun s hs=>by
  rcases JX s t with e | e
  ·rw [hR s e];exact h.ri.1 s e
  ·obtain rfl:s=t:=by omega
   rw [hRt];exact hr
 have x:∀s,s < t+1→C' s < n:=fun s hs=>by
  rcases JX s t with e | e
  ·rw [hC s e];exact h.ci.1 s e
  ·obtain rfl:s=t:=by omega
   rw [hCt];exact hc
 -- rows that are taken do not change any more
 have d:∀s j,s < t+1→j < n→a' (R' s) j=a (R' s) j:=fun s j hs hj=>by
  rw [ha _ _ (l s hs) hj];refine if_neg fun e=>?_
  rcases JX s t with g | g
  ·exact e.1.1 s g (hR s g).symm
  ·obtain rfl:s=t:=by omega
   exact e.1.2 hRt
 have f:∀i,(∀s,s < t+1→R' s≠i)→(∀s,s < t→R s≠i)∧i≠r:=fun i hi=>⟨fun s hs e=>hi s (by omega) (by rw [hR s hs];exact e),fun e=>hi t (by omega) (by rw [hRt];exact e.symm)⟩
 have o:∀j,(∀s,s < t+1→C' s≠j)→(∀s,s < t→C s≠j)∧j≠c:=fun j hj=>⟨fun s hs e=>hj s (by omega) (by rw [hC s hs];exact e),fun e=>hj t (by omega) (by rw [hCt];exact e.symm)⟩
 have b:∀i j k,k≤t→j < n→ZZ (fun s=>m' s i * a' (R' s) j) k=ZZ (fun s=>m s i * a (R s) j) k:=fun i j k hk hj=>Zn fun s hs=>by
  rw [hm s i (by omega),d s j (by omega) hj,hR s (by omega)]
 refine ⟨⟨l,fun s u hsu hu=>?_⟩,⟨x,fun s u hsu hu=>?_⟩,fun s q hs hq=>?_,fun s hs=>?_,fun i j hi hj h1 h2=>?_,fun i q hi hq h1=>?_,fun p j hp' hj h1=>?_,fun p q hp' hq=>?_⟩
 ·rw [hR s (by omega)];rcases JX u t with e | e
  ·rw [hR u e];exact h.ri.2 s u hsu e
  ·obtain rfl:u=t:=by omega
   rw [hRt];exact hrf s hsu
 ·rw [hC s (by omega)];rcases JX u t with e | e
  ·rw [hC u e];exact h.ci.2 s u hsu e
  ·obtain rfl:u=t:=by omega
   rw [hCt];exact hcf s hsu
 ·rcases JX s t with e | e
  ·rw [hm s _ e,hR q (by omega)];exact h.m0 s q e hq
  ·obtain rfl:s=t:=by omega
   rw [hmt _ (l q (by omega))];refine if_neg fun e=>?_
   rcases JX q s with g | g
   ·exact e.1 q g (hR q g).symm
   ·obtain rfl:q=s:=by omega
    exact e.2 hRt
 ·rw [d s _ hs (x s hs)];rcases JX s t with e | e
  ·rw [hR s e,hC s e];exact h.piv s e
  ·obtain rfl:s=t:=by omega
   rw [hRt,hCt];exact hp
 ·obtain ⟨i1,i2⟩:=f i h1;obtain ⟨j1,j2⟩:=o j h2;rw [ZH,b i j t (JY _) hj,d t j (by omega) hj,hRt,ha i j hi hj,if_pos ⟨⟨i1,i2⟩,⟨j1,j2⟩⟩,h.e1 i j hi hj i1 j1];grind
 ·obtain ⟨i1,i2⟩:=f i h1;rcases JX q t with e | e
  ·rw [hC q e,b i _ (q+1) (by omega) (h.ci.1 q e)];exact h.e2 i q hi e i1
  ·obtain rfl:q=t:=by omega
   rw [hCt,ZH,b i c q (JY _) hc,d q c (by omega) hc,hRt,y i hi i1 i2,h.e1 i c hi hc i1 hcf]
 ·have z:=l p hp';rcases JX p t with e | e
  ·rw [d p j hp' hj,b _ j p (by omega) hj,hR p e];exact h.e3 p j e hj fun s hs=>by have:=h1 s hs;rwa [hC s (by omega)] at this
  ·obtain rfl:p=t:=by omega
   rw [d p j hp' hj,b _ j p (JY _) hj,hRt];exact h.e1 r j hr hj hrf fun s hs=>by have:=h1 s hs;rwa [hC s hs] at this
 ·have v:q < t:=by omega
  rw [hC q v,b _ _ (q+1) (by omega) (h.ci.1 q v)];rcases JX p t with e | e
  ·rw [hR p e];exact h.e4 p q e hq
  ·obtain rfl:p=t:=by omega
   rw [hRt];exact h.e2 r q hr v hrf
def luL (R:Nat→Nat) (m:Mx):Mx:=fun t p=>if p=t then 1 else if t < p then m t (R p) else 0
def luU (R C:Nat→Nat) (a:Mx):Mx:=fun k s=>if s≤k then a (R s) (C k) else 0
structure Zcw (n:Nat) (A:Mx) (R C:Nat→Nat) (L U:Mx):Prop where
 ri:Inj n n R
 ci:Inj n n C
 l0:∀t p,t < n→p < n→p < t→L t p=0
 l1:∀t,t < n→L t t=1
 u0:∀k s,k < n→s < n→k < s→U k s=0
 u1:∀k,k < n→U k k≠0
 eq:∀p k,p < n→k < n→A (R p) (C k)=ZZ (fun s=>L s p * U k s) n
theorem UT.fac {n:Nat} {A a:Mx} {R C:Nat→Nat} {m:Mx} (h:UT n n A a R C m):Zcw n A R C (luL R m) (luU R C a) where
 ri:=h.ri
 ci:=h.ci
 l0:=fun t p _ _ hpt=>by unfold luL;rw [if_neg (by omega),if_neg (by omega)]
 l1:=fun t _=>by unfold luL;rw [if_pos rfl]
 u0:=fun k s _ _ hks=>by unfold luU;rw [if_neg (by omega)]
 u1:=fun k hk=>by unfold luU;rw [if_pos (JY _)];exact h.piv k hk
 eq:=fun p k hp hk=>by
  rcases JX k p with e | e
  ·rw [h.e4 p k hp e,Wl (n:=k+1) (m:=n) (by omega) fun i h1 h2=>by unfold luU;rw [if_neg (by omega)];grind]
   exact Zn fun s hs=>by unfold luL luU;rw [if_neg (by omega),if_pos (by omega),if_pos (by omega)]
  ·rw [h.e3 p (C k) hp (h.ci.1 k hk) fun s hs=>h.ci.2 s k (by omega) hk,Wl (n:=p+1) (m:=n) (by omega) fun i h1 h2=>by unfold luL;rw [if_neg (by omega),if_neg (by omega)];grind,ZH]
   have e2:luL R m p p * luU R C a k p=a (R p) (C k):=by unfold luL luU;rw [if_pos rfl,if_pos e];grind
   rw [e2,Zn (f:=fun s=>luL R m s p * luU R C a k s) (g:=fun s=>m s (R p) * a (R s) (C k)) fun s hs=>by unfold luL luU;rw [if_neg (by omega),if_pos (by omega),if_pos (by omega)]]
def trM (A:Mx):Mx:=fun c r=>A r c
theorem Uc {n m:Nat} {f g:Nat→Rat} {h:Nat→Nat→Rat} (e:∀j,j < n→f j=ZZ (fun s=>g s * h s j) m) (y:Nat→Rat):ZZ (fun j=>f j * y j) n=ZZ (fun s=>g s * ZZ (fun j=>h s j * y j) n) m:=by
 rw [Zn (g:=fun j=>ZZ (fun s=>g s * (h s j * y j)) m) fun j hj=>by
  rw [e j hj,Rat.mul_comm,← Xo];exact Zn fun s _=>by grind]
 rw [Ub];exact Zn fun s _=>Xo _ _ _
theorem UT.dep {n t:Nat} {A a:Mx} {R C:Nat→Nat} {m:Mx} (h:UT n t A a R C m) (ht:t < n) (hz:∀i j,i < n→j < n→(∀s,s < t→R s≠i)→(∀s,s < t→C s≠j)→a i j=0):¬Xf n (trM A):=by
 obtain ⟨j0,H,l⟩:=h.ci.free ht
 -- row s of the triangle,with the columns that were taken before it left out
 have hw:∃W:Mx,(∀s j,(∀u,u < s→C u≠j)→W s j=a (R s) j)∧∀s u,u < s→W s (C u)=0:=by
  refine ⟨fun s j=>if ∀u,u < s→C u≠j then a (R s) j else 0,fun s j hs=>if_pos hs,fun s u hu=>if_neg fun g=>g u hu rfl⟩
 obtain ⟨W,d,o⟩:=hw;have F:∀k,k≤t→∃y:Nat→Rat,y j0=1∧(∀s,s < t - k→y (C s)=0)∧∀s,t - k≤s→s < t→ZZ (fun j=>W s j * y j) n=0:=by
  intro k
  induction k with
  | zero=>exact fun _=>⟨fun j=>if j=j0 then 1 else 0,if_pos rfl,fun s hs=>if_neg fun e=>l s (by omega) e,fun s h1 h2=>by omega⟩
  | succ k ih=>
   intro hk;obtain ⟨y,y1,y2,y3⟩:=ih (by omega);obtain ⟨s0,I⟩:∃s0,s0+1=t - k:=⟨t - k - 1,by omega⟩;have b:s0 < t:=(by omega);have G:=h.ci.1 s0 b;obtain ⟨q,hq⟩:∃q,q= -(ZZ (fun j=>W s0 j * y j) n) / a (R s0) (C s0):=⟨_,rfl⟩;have x:∀s,ZZ (fun j=>W s j * (if j=C s0 then q else y j)) n=ZZ (fun j=>W s j * y j) n+W s (C s0) * (q - y (C s0)):=fun s=>by
    have e:ZZ (fun j=>W s j * (if j=C s0 then q else y j)) n=ZZ (fun j=>W s j * y j+(if j=C s0 then W s (C s0) * (q - y (C s0)) else 0)) n:=Zn fun j _=>by
     by_cases e:j=C s0
     ·rw [if_pos e,if_pos e,e];grind
     ·rw [if_neg e,if_neg e];grind
    rw [e,WR,WS G]
   refine ⟨fun j=>if j=C s0 then q else y j,?_,fun s hs=>?_,fun s h1 h2=>?_⟩
   ·show (if j0=C s0 then q else y j0)=1;rw [if_neg fun e=>l s0 b e.symm];exact y1
   ·show (if C s=C s0 then q else y (C s))=0;rw [if_neg (h.ci.2 s s0 (by omega) b)];exact y2 s (by omega)
   ·rw [x s];rcases JX s0 s with e | e
    ·rw [o s s0 e,y3 s (by omega) h2];grind
    ·obtain rfl:s=s0:=by omega
     rw [d s (C s) fun u hu=>h.ci.2 u s hu b,y2 s (by omega),hq];have hp:=h.piv s b;have e2: -(ZZ (fun j=>W s j * y j) n) / a (R s) (C s) * a (R s) (C s)= -(ZZ (fun j=>W s j * y j) n):=Rat.div_mul_cancel hp;grind
 obtain ⟨y,y1,_,y3⟩:=F t (JY _);have hy:∀s,s < t→ZZ (fun j=>W s j * y j) n=0:=fun s hs=>y3 s (by omega) hs
 intro hi;have z:∀r,r < n→Xw n (trM A) y r=0:=fun r hr=>by
  show ZZ (fun c=>A r c * y c) n=0;by_cases hp:∃p,p < t∧R p=r
  ·obtain ⟨p,B,rfl⟩:=hp;have e:∀j,j < n→A (R p) j=ZZ (fun s=>(if s=p then 1 else m s (R p)) * W s j) (p+1):=fun j hj=>by
    rw [ZH,if_pos rfl];have e0:ZZ (fun s=>(if s=p then 1 else m s (R p)) * W s j) p=ZZ (fun s=>m s (R p) * W s j) p:=Zn fun s hs=>by rw [if_neg (by omega)]
    rw [e0];by_cases hq:∃q,q < p∧C q=j
    ·obtain ⟨q,D,rfl⟩:=hq;rw [o p q D,h.e4 p q B D,Wl (f:=fun s=>m s (R p) * W s (C q)) (n:=q+1) (m:=p) (by omega) fun s h1 h2=>by rw [o s q (by omega)];grind];have e1:ZZ (fun s=>m s (R p) * a (R s) (C q)) (q+1)=ZZ (fun s=>m s (R p) * W s (C q)) (q+1):=Zn fun s hs=>by rw [d s (C q) fun u hu=>h.ci.2 u q (by omega) (by omega)]
     rw [e1];grind
    ·have hn:∀u,u < p→C u≠j:=fun u hu e=>hq ⟨u,hu,e⟩
     rw [h.e3 p j B hj hn,d p j hn];have e1:ZZ (fun s=>m s (R p) * a (R s) j) p=ZZ (fun s=>m s (R p) * W s j) p:=Zn fun s hs=>by rw [d s j fun u hu=>hn u (by omega)]
     rw [e1];grind
   rw [Uc e];exact Vf fun s hs=>by rw [hy s (by omega)];grind
  ·have v:∀s,s < t→R s≠r:=fun s hs e=>hp ⟨s,hs,e⟩
   have e:∀j,j < n→A r j=ZZ (fun s=>m s r * W s j) t:=fun j hj=>by
    by_cases hq:∃q,q < t∧C q=j
    ·obtain ⟨q,E,rfl⟩:=hq;rw [h.e2 r q hr E v,Wl (f:=fun s=>m s r * W s (C q)) (n:=q+1) (m:=t) (by omega) fun s h1 h2=>by rw [o s q (by omega)];grind];exact Zn fun s hs=>by rw [d s (C q) fun u hu=>h.ci.2 u q (by omega) E]
    ·have hn:∀u,u < t→C u≠j:=fun u hu e=>hq ⟨u,hu,e⟩
     rw [h.e1 r j hr hj v hn,hz r j hr hj v hn];have e1:ZZ (fun s=>m s r * a (R s) j) t=ZZ (fun s=>m s r * W s j) t:=Zn fun s hs=>by rw [d s j fun u hu=>hn u (by omega)]
     rw [e1];grind
   rw [Uc e];exact Vf fun s hs=>by rw [hy s hs];grind
 have:=hi y z j0 H;rw [y1] at this;exact absurd this (by decide)
theorem Zrv {n:Nat} {L:Mx} (h0:∀t p,t < n→p < n→p < t→L t p=0) (h1:∀t,t < n→L t t=1) {z:Nat→Rat} (hz:∀p,p < n→ZZ (fun s=>L s p * z s) n=0):∀p,p < n→z p=0:=by
 intro p
 induction p using Nat.strongRecOn with
 | _ p ih=>
  intro hp;have:=hz p hp;rw [Y9 hp fun i hi hne=>by
   rcases JX i p with e | e
   ·rw [ih i e hi];grind
   ·rw [h0 i p hi hp (by omega)];grind,h1 p hp] at this
  grind
theorem Zrw {n:Nat} {U:Mx} (h0:∀k s,k < n→s < n→k < s→U k s=0) (h1:∀k,k < n→U k k≠0) {w:Nat→Rat} (hw:∀s,s < n→ZZ (fun k=>U k s * w k) n=0):∀k,k < n→w k=0:=by
 have a:∀d k,k+d+1=n→w k=0:=by
  intro d
  induction d using Nat.strongRecOn with
  | _ d ih=>
   intro k hk;have:=hw k (by omega);rw [Y9 (show k < n by omega) fun i hi hne=>by
    rcases JX i k with e | e
    ·rw [h0 i k hi (by omega) e];grind
    ·rw [ih (n - 1 - i) (by omega) i (by omega)];grind] at this
   rcases Rat.mul_eq_zero.1 this with e | e
   ·exact absurd e (h1 k (by omega))
   ·exact e
 exact fun k hk=>a (n - 1 - k) k (by omega)
theorem Zcw.solve {n:Nat} {A:Mx} {R C:Nat→Nat} {L U:Mx} (h:Zcw n A R C L U) {b z x:Nat→Rat} (hz:∀p,p < n→ZZ (fun s=>L s p * z s) n=b (R p)) (hx:∀s,s < n→ZZ (fun k=>U k s * x (C k)) n=z s):∀r,r < n→Xw n (trM A) x r=b r:=by
 intro r hr;obtain ⟨p,hp,rfl⟩:=h.ri.onto hr;show ZZ (fun c=>A (R p) c * x c) n=b (R p);rw [← Zav h.ci (fun c=>A (R p) c * x c),Uc (f:=fun k=>A (R p) (C k)) (g:=fun s=>L s p) (h:=fun s k=>U k s) (m:=n) (fun k hk=>h.eq p k hp hk) (fun k=>x (C k)),← hz p hp];exact Zn fun s hs=>by rw [hx s hs]
theorem Zcw.solveT {n:Nat} {A:Mx} {R C:Nat→Nat} {L U:Mx} (h:Zcw n A R C L U) {d v y:Nat→Rat} (hv:∀k,k < n→ZZ (fun s=>U k s * v s) n=d (C k)) (hy:∀s,s < n→ZZ (fun p=>L s p * y (R p)) n=v s):∀c,c < n→Xw n A y c=d c:=by
 intro c hc;obtain ⟨k,hk,rfl⟩:=h.ci.onto hc;show ZZ (fun r=>A r (C k) * y r) n=d (C k);rw [← Zav h.ri (fun r=>A r (C k) * y r),Uc (f:=fun p=>A (R p) (C k)) (g:=fun s=>U k s) (h:=fun s p=>L s p) (m:=n) (fun p hp=>by rw [h.eq p k hp hk];exact Zn fun s _=>by grind) (fun p=>y (R p)),← hv k hk];exact Zn fun s hs=>by rw [hy s hs]
theorem Zcw.indep {n:Nat} {A:Mx} {R C:Nat→Nat} {L U:Mx} (h:Zcw n A R C L U):Xf n (trM A):=by
 intro y hy;have h1:∀p,p < n→ZZ (fun s=>L s p * ZZ (fun k=>U k s * y (C k)) n) n=0:=fun p hp=>by
  rw [← Uc (f:=fun k=>A (R p) (C k)) (g:=fun s=>L s p) (h:=fun s k=>U k s) (m:=n) (fun k hk=>h.eq p k hp hk) (fun k=>y (C k)),Zav h.ci (fun c=>A (R p) c * y c)];exact hy (R p) (h.ri.1 p hp)
 have h2:=Zrv h.l0 h.l1 h1;have h3:=Zrw h.u0 h.u1 (w:=fun k=>y (C k)) h2;intro c hc;obtain ⟨k,hk,rfl⟩:=h.ci.onto hc;exact h3 k hk
def Zbm (cols:Mx) (k:Nat) (v:Nat→Rat):Mx:=fun c=>if c=k then v else cols c
theorem Zhz {n k:Nat} {cols:Mx} {v im x c:Nat→Rat} (hk:k < n) (him:∀r,r < n→Xw n cols im r=v r) (h0:im k≠0) (hx:∀r,r < n→Xw n cols x r=c r) {x':Nat→Rat} (hxk:x' k=x k / im k) (hxi:∀i,i < n→i≠k→x' i=x i - im i * x' k):
 ∀r,r < n→Xw n (Zbm cols k v) x' r=c r:=by
 intro r hr;have hd:x' k * im k=x k:=by rw [hxk];exact Rat.div_mul_cancel h0
 have e:Xw n (Zbm cols k v) x' r=ZZ (fun i=>cols i r * x i - x' k * (cols i r * im i)+(if i=k then v r * x' k else 0)) n:=Zn fun i hi=>by
  unfold Zbm;by_cases e:i=k
  ·subst e;rw [if_pos rfl,if_pos rfl];grind
  ·rw [if_neg e,if_neg e,hxi i hi e];grind
 rw [e,WR,Zpo,Xo,WS hk];have h1:ZZ (fun i=>cols i r * x i) n=c r:=hx r hr;have h2:ZZ (fun i=>cols i r * im i) n=v r:=him r hr;rw [h1,h2];grind
theorem Zej {n k:Nat} {cols:Mx} {v im:Nat→Rat} (hk:k < n) (hi:Xf n cols) (him:∀r,r < n→Xw n cols im r=v r) (h0:im k≠0):Xf n (Zbm cols k v):=by
 intro y hy;have h1:∀r,r < n→Xw n cols (fun i=>(if i=k then 0 else y i)+y k * im i) r=0:=fun r hr=>by
  have e:Xw n cols (fun i=>(if i=k then 0 else y i)+y k * im i) r=ZZ (fun i=>(Zbm cols k v i r * y i - (if i=k then v r * y k else 0))+y k * (cols i r * im i)) n:=Zn fun i _=>by
   unfold Zbm;by_cases e:i=k
   ·subst e;simp only [if_pos];grind
   ·simp only [if_neg e];grind
  rw [e,WR,Zpo,Xo,WS hk];have h2:ZZ (fun i=>Zbm cols k v i r * y i) n=0:=hy r hr;have h3:ZZ (fun i=>cols i r * im i) n=v r:=him r hr;rw [h2,h3];grind
 have h2:=hi _ h1;have h3:y k=0:=by
  have:=h2 k hk;simp only [if_pos] at this;have e:y k * im k=0:=by grind
  rcases Rat.mul_eq_zero.1 e with g | g
  ·exact g
  ·exact absurd g h0
 intro i a;by_cases e:i=k
 ·rw [e];exact h3
 ·have:=h2 i a;simp only [if_neg e,h3] at this;grind
end Pl
namespace Pl
def UW (L:Mx) (b:Nat→Rat):Nat→Nat→Rat
 | 0=>b
 | j+1=>fun i=>if j < i then UW L b j i - L j i * UW L b j j else UW L b j i
theorem Zel (L:Mx) (b:Nat→Rat) (j i:Nat):UW L b (j+1) i=if j < i then UW L b j i - L j i * UW L b j j else UW L b j i:=rfl
theorem Zkw (L:Mx) (b:Nat→Rat) (i:Nat):∀d,UW L b (i+d) i=UW L b i i
 | 0=>rfl
 | d+1=>by rw [← Nat.add_assoc,Zel,if_neg (by omega)];exact Zkw L b i d
theorem Zib {L:Mx} {b:Nat→Rat} {i j:Nat} (h:i≤j):UW L b j i=UW L b i i:=by
 have:=Zkw L b i (j - i)
 rwa [show i+(j - i)=j by omega] at this
theorem Zic (L:Mx) (b:Nat→Rat) (i:Nat):∀j,j≤i→UW L b j i=b i - ZZ (fun s=>L s i * UW L b s s) j
 | 0,_=>by rw [YS];show b i=_;grind
 | j+1,h=>by rw [Zel,if_pos (by omega),ZH,Zic L b i j (by omega)];grind
theorem Zng {n:Nat} {L:Mx} {b:Nat→Rat} (h0:∀t p,t < n→p < n→p < t→L t p=0) (h1:∀t,t < n→L t t=1):∀p,p < n→ZZ (fun s=>L s p * UW L b n s) n=b p:=by
 intro p hp;rw [Wl (n:=p+1) (by omega) fun i h1' h2=>by rw [h0 i p h2 hp (by omega)];grind,ZH,h1 p hp,Zib (show p≤n by omega),Zic L b p p (JY _)];rw [Zn (g:=fun s=>L s p * UW L b s s) fun s hs=>by rw [Zib (show s≤n by omega)]];grind
def U3 (n:Nat) (U:Mx) (z:Nat→Rat):Nat→Nat→Rat
 | 0=>z
 | j+1=>fun i=>if i=n - 1 - j then U3 n U z j i / U i i else if i < n - 1 - j then U3 n U z j i - U (n - 1 - j) i * (U3 n U z j (n - 1 - j) / U (n - 1 - j) (n - 1 - j)) else U3 n U z j i
theorem Zaw (n:Nat) (U:Mx) (z:Nat→Rat) (j i:Nat):U3 n U z (j+1) i=if i=n - 1 - j then U3 n U z j i / U i i else if i < n - 1 - j then U3 n U z j i - U (n - 1 - j) i * (U3 n U z j (n - 1 - j) / U (n - 1 - j) (n - 1 - j)) else U3 n U z j i:=rfl
theorem Zkx (n:Nat) (U:Mx) (z:Nat→Rat) (i:Nat) (hi:i < n):∀d,d≤i→U3 n U z (n - i+d) i=U3 n U z (n - i) i
 | 0,_=>rfl
 | d+1,h=>by rw [← Nat.add_assoc,Zaw,if_neg (by omega),if_neg (by omega)];exact Zkx n U z i hi d (by omega)
theorem Zbv {n:Nat} {U:Mx} {z:Nat→Rat} {i j:Nat} (hi:i < n) (h:n - i≤j) (hj:j≤n):U3 n U z j i=U3 n U z (n - i) i:=by
 have:=Zkx n U z i hi (j - (n - i)) (by omega)
 rwa [show n - i+(j - (n - i))=j by omega] at this
theorem Zpp {n:Nat} {U:Mx} {z:Nat→Rat} {i:Nat} (hi:i < n):U3 n U z (n - i) i=U3 n U z (n - 1 - i) i / U i i:=by
 rw [show n - i=(n - 1 - i)+1 by omega,Zaw,if_pos (by omega)]
theorem Zid (n:Nat) (U:Mx) (z:Nat→Rat) (i:Nat):∀j,j+i < n→U3 n U z j i=z i - ZZ (fun t=>U (n - 1 - t) i * U3 n U z n (n - 1 - t)) j
 | 0,_=>by rw [YS];show z i=_;grind
 | j+1,h=>by
  rw [Zaw,if_neg (by omega),if_pos (by omega),ZH,Zid n U z i j (by omega)]
  have e:U3 n U z n (n - 1 - j)=U3 n U z j (n - 1 - j) / U (n - 1 - j) (n - 1 - j):=by
   rw [Zbv (i:=n - 1 - j) (by omega) (by omega) (JY _),Zpp (by omega),show n - 1 - (n - 1 - j)=j by omega]
  rw [e];grind
theorem Zyw (f:Nat→Rat):∀n,ZZ (fun t=>f (n - 1 - t)) n=ZZ f n:=by
 intro n;have h:Inj n n (fun t=>n - 1 - t):=⟨fun s hs=>by show n - 1 - s < n;omega,fun s u h1 h2 e=>by have e':n - 1 - s=n - 1 - u:=e;omega⟩;exact Zav h f
theorem Zem {n:Nat} {U:Mx} {z:Nat→Rat} (h0:∀k s,k < n→s < n→k < s→U k s=0) (h1:∀k,k < n→U k k≠0):∀s,s < n→ZZ (fun k=>U k s * U3 n U z n k) n=z s:=by
 intro s hs;rw [← Zyw,Wl (n:=n - 1 - s+1) (m:=n) (by omega) fun i h1' h2=>by
  show U (n - 1 - i) s * _=0;rw [h0 (n - 1 - i) s (by omega) hs (by omega)];grind,ZH,show n - 1 - (n - 1 - s)=s by omega,Zbv hs (show n - s≤n by omega) (JY _),Zpp hs,Zid n U z s (n - 1 - s) (by omega)]
 have e:=Rat.div_mul_cancel (a:=z s - ZZ (fun t=>U (n - 1 - t) s * U3 n U z n (n - 1 - t)) (n - 1 - s)) (h1 s hs);grind
def utN (U:Mx) (d:Nat→Rat):Nat→Nat→Rat
 | 0=>fun _=>0
 | k+1=>fun i=>if i=k then (d k - ZZ (fun s=>U k s * utN U d k s) k) / U k k else utN U d k i
theorem Zie (U:Mx) (d:Nat→Rat) (k i:Nat):utN U d (k+1) i=if i=k then (d k - ZZ (fun s=>U k s * utN U d k s) k) / U k k else utN U d k i:=rfl
theorem Zen {U:Mx} {d:Nat→Rat} {i:Nat}:∀{j:Nat},i < j→utN U d j i=utN U d (i+1) i
 | 0,h=>by omega
 | j+1,h=>by
  by_cases e:i=j
  ·rw [e]
  ·rw [Zie,if_neg e];exact Zen (by omega)
theorem Zrx {n:Nat} {U:Mx} {d:Nat→Rat} (h0:∀k s,k < n→s < n→k < s→U k s=0) (h1:∀k,k < n→U k k≠0):∀k,k < n→ZZ (fun s=>U k s * utN U d n s) n=d k:=by
 intro k hk;rw [Wl (n:=k+1) (by omega) fun i h1' h2=>by rw [h0 k i hk h2 (by omega)];grind,ZH,Zen hk,Zie,if_pos rfl];rw [Zn (g:=fun s=>U k s * utN U d k s) fun s hs=>by rw [Zen (show s < n by omega),← Zen hs]];have e:=Rat.div_mul_cancel (a:=d k - ZZ (fun s=>U k s * utN U d k s) k) (h1 k hk);grind
def ltN (n:Nat) (L:Mx) (w:Nat→Rat):Nat→Nat→Rat
 | 0=>w
 | j+1=>fun i=>if i=n - 1 - j then ltN n L w j i - ZZ (fun p=>if p=i then 0 else L i p * ltN n L w j p) n else ltN n L w j i
theorem Zax (n:Nat) (L:Mx) (w:Nat→Rat) (j i:Nat):ltN n L w (j+1) i=if i=n - 1 - j then ltN n L w j i - ZZ (fun p=>if p=i then 0 else L i p * ltN n L w j p) n else ltN n L w j i:=rfl
theorem Zeo {n:Nat} {L:Mx} {w:Nat→Rat} {i:Nat}:∀{j:Nat},j+i < n→ltN n L w j i=w i
 | 0,_=>rfl
 | j+1,h=>by rw [Zax,if_neg (by omega)];exact Zeo (by omega)
theorem Zcr {n:Nat} {L:Mx} {w:Nat→Rat} {i:Nat} (hi:i < n):∀{j:Nat},n - i≤j→j≤n→ltN n L w j i=ltN n L w (n - i) i
 | 0,h,_=>by omega
 | j+1,h,hj=>by
  by_cases e:n - i=j+1
  ·rw [e]
  ·rw [Zax,if_neg (by omega)];exact Zcr hi (by omega) (by omega)
theorem Zgk {n:Nat} {L:Mx} {w:Nat→Rat} (h0:∀t p,t < n→p < n→p < t→L t p=0) (h1:∀t,t < n→L t t=1):∀s,s < n→ZZ (fun p=>L s p * ltN n L w n p) n=w s:=by
 intro s hs;have e1:ZZ (fun p=>L s p * ltN n L w n p) n=ZZ (fun p=>(if p=s then 0 else L s p * ltN n L w (n - 1 - s) p)+(if p=s then ltN n L w n s else 0)) n:=Zn fun p hp=>by
  by_cases e:p=s
  ·rw [if_pos e,if_pos e,e,h1 s hs];grind
  ·rw [if_neg e,if_neg e];rcases JX p s with g | g
   ·rw [h0 s p hs hp g];grind
   ·rw [Zcr hp (show n - p≤n by omega) (JY _),← Zcr hp (show n - p≤n - 1 - s by omega) (by omega)];grind
 rw [e1,WR,WS hs,Zcr hs (show n - s≤n by omega) (JY _),show n - s=(n - 1 - s)+1 by omega,Zax,if_pos (by omega),Zeo (by omega)];grind
end Pl
end Go.Proofs.YtncmobkhenfhpaaGreat
