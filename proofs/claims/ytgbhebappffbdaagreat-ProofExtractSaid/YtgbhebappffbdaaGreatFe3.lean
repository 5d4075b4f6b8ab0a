/- Lemmas of the claim; no condition. -/
import Derived.Test.YtgbhebappffbdaaGreatFe4
set_option linter.all false
set_option maxRecDepth 100000
set_option maxHeartbeats 40000000
namespace Go.Proofs.YtgbhebappffbdaaGreat
open Go.RowKit
open Pl
attribute [local go_sem ↓] Go.wp_at_zero Go.wp_at_succ
theorem rvalidate_any (v:Value) (p:LPd) (K:Nat) (w:World) (h:LpM w v p) (ok:p.Ok K) (hK:K≤34359738368):
 Calls Tryz.prog 68 #[v] w fun e w'=>e= .returned (.int .i64 (lpErr p))∧Below w.heap.size w w':=by
 obtain ⟨A,n,c,A',n',c',u,a,x,rfl,hc,hv,hr⟩:=h;obtain ⟨W,hW,hX,f⟩:=Y6 w (.slice A n c) (.slice A' n' c') (.slice u a x);obtain ⟨x0,x1,x2⟩:=hX.three;obtain ⟨l1,l2,l3⟩:=hc.len;obtain ⟨m1,m2,m3⟩:=hv.len;obtain ⟨r1,r2,r3⟩:=hr.len;have z:=JZ l1;have l:=JZ m1;have s:=JZ r1;clear l1 m1 r1;by_cases E:64 < a
 ·have HV:Hid (lpErr p=10):=JZ (Zde (.inl (by rw [← s.out];exact E)));have g:(64:Int) < a:=by omega
  go_enter Tryz.func68,Tryz.ntmps68;go_wp2;go_ret;exact ⟨by rw [HV.out];rfl,f⟩
 ·by_cases y:1200 < n'
  ·have HV:Hid (lpErr p=10):=JZ (Zde (.inr (by rw [← l.out];exact y)));have g:decide ((64:Int) < a)=false:=(by simp;omega);have j:(1200:Int) < n':=(by omega);go_enter Tryz.func68,Tryz.ntmps68;go_wp2;go_ret;exact ⟨by rw [HV.out];rfl,f⟩
  ·have HB:Hid (¬(64 < p.right.length∨1200 < p.cols.length)):=JZ (by rw [← s.out,← l.out];omega);have g:decide ((64:Int) < a)=false:=(by simp;omega);have j:decide ((1200:Int) < n')=false:=(by simp;omega);by_cases q:n=n'
   ·have t:=Zqf HB.out (by rw [← z.out,← l.out];exact q);rw [← s.out] at t;subst q;generalize lpErr p=r at *;have HV:=JZ t;clear t;go_enter Tryz.func68,Tryz.ntmps68;go_wp2;clear hW g j
    go_loopw [3] (fun i wr=>∃k:Nat,k≤n∧i= .int .i64 k∧Below w.heap.size w wr∧Bk wr w.heap.size 26 [.slice A n c,.slice A' n c',.slice u a x]∧r=Xi (a:Int) (p.cols.drop k)) (fun i _=>n - (intOf i).toNat)
    case atStart=>exact ⟨0,by omega,rfl,f,hX,HV.out⟩
    case round=>
     obtain ⟨k,hk,rfl,f,hX,C⟩:=hrel;have HE:=JZ C;clear C HV x0 x1 x2;obtain ⟨x0,x1,x2⟩:=hX.three;rcases JX k n with hkl | hkl
     ·obtain ⟨es,he⟩:=Xb (cs:=p.cols) (i:=k) (by rw [← l.out];exact hkl);obtain ⟨b,D,A1,c1,rfl,J,o,hm⟩:=hv.elem f he;have HO:=JZ (ok.2.2 k es he);have G:(k:Int) < n:=(by omega);have B:=JZ (Zjh (n:=(a:Int)) he);have H:=Ztr es (a:Int);clear he;go_wp2_with fail;refine wp_region_noPanic ?_;refine Zcf (S:=fun w'=>w'.cell? ⟨w.heap.size,1,none⟩=some (.slice (some ⟨b,D,none⟩) n c')∧w'.cell? ⟨w.heap.size,2,none⟩=some (.slice u a x)∧w'.cell? ⟨b,D+k,none⟩=some (.slice A1 es.length c1)) (n:=9) (by kernel_rfl) ?_ (fun hHeld=>?_)
      ·exact ⟨x1,x2,o⟩
      refine Zy (i:=0) (v:=?_) rfl (by kernel_rfl) (by kernel_rfl) (by kernel_rfl) (by kernel_rfl) (fun _ _ _ h=>h) (Or.inl ⟨by rfl,?y1⟩) (by assumption) ?_
      case y1=>(intro _ d;(try dsimp only at d);go_simp;(try with_reducible rfl))
      (try simp only [Act.put,List.setIfInBounds_toArray,List.set_cons_zero,List.set_cons_succ]);refine Zy (i:=1) (v:=?_) rfl (by kernel_rfl) (by kernel_rfl) (by kernel_rfl) (by kernel_rfl) (fun _ _ _ h=>h) (Or.inl ⟨by rfl,?y2⟩) (by assumption) ?_
      case y2=>(intro _ d;(try dsimp only at d);go_simp;(try with_reducible rfl))
      (try simp only [Act.put,List.setIfInBounds_toArray,List.set_cons_zero,List.set_cons_succ]);refine Zy (i:=2) (v:=?_) rfl (by kernel_rfl) (by kernel_rfl) (by kernel_rfl) (by kernel_rfl) (fun _ _ _ h=>h) (Or.inl ⟨by rfl,?y3⟩) (by assumption) ?_
      case y3=>(intro _ d;(try dsimp only at d);go_simp;(try with_reducible rfl))
      (try simp only [Act.put,List.setIfInBounds_toArray,List.set_cons_zero,List.set_cons_succ]);refine Zy (i:=3) (v:=?_) rfl (by kernel_rfl) (by kernel_rfl) (by kernel_rfl) (by kernel_rfl) (fun _ _ _ h=>h) (Or.inl ⟨by rfl,?y4⟩) (by assumption) ?_
      case y4=>(intro _ d;(try dsimp only at d);go_simp;(try with_reducible rfl))
      (try simp only [Act.put,List.setIfInBounds_toArray,List.set_cons_zero,List.set_cons_succ]);refine Zy (i:=4) (v:=?_) rfl (by kernel_rfl) (by kernel_rfl) (by kernel_rfl) (by kernel_rfl) (fun _ _ _ h=>h) (Or.inl ⟨by rfl,?y5⟩) (by assumption) ?_
      case y5=>(intro _ d;(try dsimp only at d);go_simp;(try with_reducible rfl))
      (try simp only [Act.put,List.setIfInBounds_toArray,List.set_cons_zero,List.set_cons_succ]);refine Zy (i:=5) (v:=?_) rfl (by kernel_rfl) (by kernel_rfl) (by kernel_rfl) (by kernel_rfl) (fun _ _ _ h=>h) (Or.inl ⟨by rfl,?y6⟩) (by assumption) ?_
      case y6=>(intro _ d;(try dsimp only at d);go_simp;(try with_reducible rfl))
      (try simp only [Act.put,List.setIfInBounds_toArray,List.set_cons_zero,List.set_cons_succ]);refine Zy (i:=6) (v:=?_) rfl (by kernel_rfl) (by kernel_rfl) (by kernel_rfl) (by kernel_rfl) (fun _ _ _ h=>h) (Or.inl ⟨by rfl,?y7⟩) (by assumption) ?_
      case y7=>(intro _ d;(try dsimp only at d);go_simp;(try with_reducible rfl))
      (try simp only [Act.put,List.setIfInBounds_toArray,List.set_cons_zero,List.set_cons_succ]);refine Zy (i:=7) (v:=?_) rfl (by kernel_rfl) (by kernel_rfl) (by kernel_rfl) (by kernel_rfl) (fun _ _ _ h=>h) (Or.inl ⟨by rfl,?y8⟩) (by assumption) ?_
      case y8=>(intro _ d;(try dsimp only at d);go_simp;(try with_reducible rfl))
      (try simp only [Act.put,List.setIfInBounds_toArray,List.set_cons_zero,List.set_cons_succ]);refine Wj (i:=8) (by kernel_rfl) rfl (fun KR hKR=>?_);go_simp;(with_reducible refine (vector_any _ es (a:Int) _ (hm.below (Zj _)) (fun k e he=>(HO.out.2 k e he).sh hK) HO.out.1 (by omega) (by omega)).mono ?_);rintro _ w2 ⟨rfl,m⟩;refine hKR.out _ _ ?_ (fun hHeld=>?_)
      ·exact ⟨Zf m x1,Zf m x2,Zf m o⟩
      clear hKR KR;(try simp only [Act.put,List.setIfInBounds_toArray,List.set_cons_zero,List.set_cons_succ]);refine Zdd (i:=9) (by kernel_rfl) rfl (by decide) (fun KR hKR=>?_);go_simp;refine hKR.out _ _ ?_;clear hKR KR;(try simp only [Act.put,List.setIfInBounds_toArray,List.set_cons_zero,List.set_cons_succ]);refine UY (by kernel_rfl) (NoPanic.normal ?_) _;by_cases hz:vecErr es (a:Int)=0
      ·have HR:Hid (r=Xi (a:Int) (p.cols.drop (k+1))):=JZ (by rw [HE.out,B.out,if_pos hz]);go_wp2;go_roundw
       case rel=>exact ⟨k+1,by omega,by go_num,Za f.drew m f.size,hX.drew.later m,HR.out⟩
       case measure=>simp [intOf];omega
      ·have HR:Hid (r=vecErr es (a:Int)):=JZ (by rw [HE.out,B.out,if_neg hz]);have I:(vecErr es (a:Int) !=0)=true:=(by simpa using hz);generalize vecErr es (a:Int)=ER at *;clear hz;go_wp2;go_ret;exact ⟨by rw [HR.out];rfl,Za f.drew m f.size⟩
     ·have HR:Hid (r=0):=JZ (HE.out.trans (Zmb (by rw [← l.out];omega)));go_wp2;go_ret;exact ⟨by rw [HR.out];rfl,f⟩
   ·have HV:Hid (lpErr p=12):=JZ (Zmc HB.out (by rw [← z.out,← l.out];exact q));have F:((n:Int) !=(n':Int))=true:=(by simp;omega);clear q;go_enter Tryz.func68,Tryz.ntmps68;go_wp2;go_ret;exact ⟨by rw [HV.out];rfl,f⟩
namespace Pl
def redL (p:LPd) (s:LSt):List RF:=Yj p.cols.length fun j=>Zeu p s (j:Int)
theorem min_rows {p:LPd} {K:Nat} (F:p.Fit K) (s:LSt):min (XU p s).length p.right.length≤64:=JW (Nat.min_le_right _ _) F.rows
theorem dot_bound {p:LPd} {K:Nat} (F:p.Fit K) (s:LSt):1+min (XU p s).length p.right.length * (2 * (5^p.right.length * K)+1)≤129 * (5^p.right.length * K)+65:=by
 have h:=JS (2 * (5^p.right.length * K)+1) (min_rows F s);omega
theorem col_B {p:LPd} {K:Nat} (F:p.Fit K) (j:Int):RsL (5^p.right.length * K) (Yj p.right.length (p.col j)):=Zbc fun i _=>(LPd.Sz_col F.ok F.k1 j i).mono F.le
theorem Sz_red {p:LPd} {K:Nat} (F:p.Fit K) (s:LSt) (j:Int):Sz (130 * (5^p.right.length * K)+100) (Zeu p s j):=by
 have h1:=Zmn F.ok F.k1 s.phase j;have h2:=Ztq (n:=min (XU p s).length p.right.length) (Zmo F s) (col_B F j) (JW F.k1 F.le);have:=dot_bound F s;have:=F.le;exact (Zcy h1 h2).mono (by omega)
end Pl
theorem rreduced_own (v1 v2:Value) (p:LPd) (s:LSt) (K:Nat) (w:World) (h:LpM w v1 p) (h2:StM w v2 s) (F:p.Fit K) (S:s.Fit p):
 Calls Tryz.prog 82 #[v1,v2] w fun e w'=>∃v',e= .returned v'∧Z4 w.heap.size w' v' (redL p s)∧Below w.heap.size w w':=by
 obtain ⟨A,n,c,A',n',c',a5,a6,a7,rfl,hc,hv,hr⟩:=id h;obtain ⟨Ab,nb,cb,rfl,hI⟩:=id h2;obtain ⟨W,hW,a8,r⟩:=Y6 w (.slice A n c) (.slice A' n' c') (.slice a5 a6 a7);obtain ⟨W1,am,d,t⟩:=Zea W (.int .i64 s.phase) (.slice Ab nb cb) (.int .i64 s.pivots);have hX:=a8.later t;have b:=Za r t r.size;obtain ⟨b1,b2,b3⟩:=hI.len;have ab:W.heap.size=w.heap.size+1:=by rw [← hW];simp
 rw [ab] at d;have C:=JZ h;have ac:=JZ h2;have HI:=JZ hI;have a:=JZ F;have ad:=JZ S;have ap:=JZ b1;have ae:Hid (nb=p.right.length):=JZ (by rw [b1];exact S.2);have aq:nb≤64:=by rw [ae.out];exact F.2.2.1
 obtain ⟨x0,x1,x2⟩:=hX.three;obtain ⟨y0,y1,y2⟩:=d.three;obtain ⟨m1,m2,m3⟩:=hv.len;have D:=JZ m1;clear h h2 hc hv hr b1 hI a8 r t F S;clear m1;have ar:n'≤1200:=by rw [D.out];exact a.out.cols
 have y:Hid (130 * (5^p.right.length * K)+200≤8589934592):=JZ a.out.2.2.2.2.2.2;have M:Hid (1≤5^p.right.length * K):=JZ (JW a.out.k1 a.out.le);have N:=JZ (Zmo a.out s);have O:Hid (1+min (XU p s).length (Yj p.right.length (p.col 0)).length * (2 * (5^p.right.length * K)+1)≤34359738368):=JZ (by rw [Zm];have:=dot_bound a.out s;have:=y.out;omega);have af:Hid (2 * (5^p.right.length * K)≤34359738368):=JZ (by have:=y.out;omega);go_enter Tryz.func82,Tryz.ntmps82;go_wp2_with fail;clear hW am;refine (rdual_own _ _ p s K _ (C.out.below b) (ac.out.below b) a.out ad.out).mono ?_;rintro _ w3 ⟨v3,rfl,e3,B⟩;have P:=hX.later B;have R:=d.later B;have m:=Za b B b.size;have HY:=JZ e3.frs;clear e3 B hX d x0 x1 x2 y0 y1 y2 b;go_wp2
 go_loopw [6,7] (fun u i wr=>∃k:Nat,k≤n'∧i= .int .i64 k∧Below w.heap.size w wr∧Below w3.heap.size w3 wr∧Bk wr w.heap.size 26 [.slice A n c,.slice A' n' c',.slice a5 a6 a7]∧Bk wr (w.heap.size+1) 29 [.int .i64 s.phase,.slice Ab nb cb,.int .i64 s.pivots]∧Z4 w3.heap.size wr u (Yj k fun j=>Zeu p s (j:Int))) (fun _ i _=>n' - (intOf i).toNat)
 case atStart=>exact ⟨0,by omega,rfl,m,JR _ _,P,R,Z4.nil _ _⟩
 case round=>
  have T:=m.size;clear m P R;obtain ⟨k,hk,rfl,b,g,hX,hS,hO⟩:=hrel;obtain ⟨x0,x1,x2⟩:=hX.three;obtain ⟨y0,y1,y2⟩:=hS.three;rcases JX k n' with hkl | hkl
  ·have U:Hid ((k:Int) < p.cols.length):=JZ (by rw [← D.out];omega);have ag:Hid ((k:Int) < p.cost.length):=JZ (by rw [a.out.cl];exact U.out);have V:=JZ (col_B a.out (k:Int));have O:Hid (1+min (XU p s).length (Yj p.right.length (p.col (k:Int))).length * (2 * (5^p.right.length * K)+1)≤34359738368):=JZ (by rw [Zm];have:=dot_bound a.out s;have:=y.out;omega);have ah:Hid (canF (VL p s.phase (k:Int) - Zbb (XU p s) (Yj p.right.length (p.col (k:Int))) (min (XU p s).length p.right.length))=canF (Zeu p s (k:Int))):=JZ rfl;have ai:Hid ((canF (VL p s.phase (k:Int))).Sh):=JZ ((Zmn a.out.ok a.out.k1 _ _).sh a.out.kb);have X:Hid ((canF (Zbb (XU p s) (Yj p.right.length (p.col (k:Int))) (min (XU p s).length p.right.length))).Sh):=JZ ((Ztq N.out V.out M.out).sh (by have:=dot_bound a.out s;have:=y.out;omega));have au:(k:Int) < n':=(by omega);have Y:(Yj k fun j=>Zeu p s (j:Int)).length+1≤1099511627776:=(by rw [Zm];omega);go_wp2_with fail;have C0:=Zp x0;have C1:=Zp x1;have C2:=Zp x2;have D0:=Zp y0;have D1:=Zp y1;have d:=Zj wr;clear x0 x1 x2 y0 y1 y2;refine Zq 12 [0,1,2,3,4,6,7,8,5,9,10,11,12,13,14] (by kernel_rfl) (by kernel_rfl) ?_;repeat ((first | (refine Zc (v:=?_) rfl rfl rfl ?_ ?_;rotate_left;(· (intro _ l;go_simp;(try go_bits);(try with_reducible rfl)))) | (refine Zg (v:=?_) rfl rfl rfl ?_ ?_;rotate_left;(· (intro _ l;go_simp;(try go_bits);(try with_reducible rfl)))) | refine Zh rfl rfl rfl ?_);(try simp only [Act.put,pu1,pu2,pu3,pu4,pu5,pu6]))
   refine Zd rfl rfl (fun KR hKR=>?_);go_simp;(with_reducible refine (rcost_own _ p K s.phase (k:Int) _ ((C.out.below b).below d) a.out ag.out).mono ?_);rintro _ w5 ⟨v5,rfl,e5,a9⟩;have o:=Za d a9 d.size;have Z:=e5.frac;clear e5;refine hKR.out _ _ (Or.inr o) ?_;clear hKR KR;(try simp only [Act.put,pu1,pu2,pu3,pu4,pu5,pu6]);repeat ((first | (refine Zc (v:=?_) rfl rfl rfl ?_ ?_;rotate_left;(· (intro _ l;go_simp;(try go_bits);(try with_reducible rfl)))) | (refine Zg (v:=?_) rfl rfl rfl ?_ ?_;rotate_left;(· (intro _ l;go_simp;(try go_bits);(try with_reducible rfl)))) | refine Zh rfl rfl rfl ?_);(try simp only [Act.put,pu1,pu2,pu3,pu4,pu5,pu6]))
   refine Zd rfl rfl (fun KR hKR=>?_);go_simp;(with_reducible refine (rcolumn_any _ p K (k:Int) _ ((C.out.below b).below o) a.out.ok a.out.kb a.out.in_ (by omega) U.out a.out.rows).mono ?_);rintro _ w6 ⟨v6,rfl,e6,H⟩;have q:=Za o H o.size;have a0:=Z.below H;have a1:=e6.frs;clear e6 Z;refine hKR.out _ _ (Or.inr q) ?_;clear hKR KR;(try simp only [Act.put,pu1,pu2,pu3,pu4,pu5,pu6]);repeat ((first | (refine Zc (v:=?_) rfl rfl rfl ?_ ?_;rotate_left;(· (intro _ l;go_simp;(try go_bits);(try with_reducible rfl)))) | (refine Zg (v:=?_) rfl rfl rfl ?_ ?_;rotate_left;(· (intro _ l;go_simp;(try go_bits);(try with_reducible rfl)))) | refine Zh rfl rfl rfl ?_);(try simp only [Act.put,pu1,pu2,pu3,pu4,pu5,pu6]))
   refine Zd rfl rfl (fun KR hKR=>?_);go_simp;(with_reducible refine (rdot_own _ _ (XU p s) (Yj p.right.length (p.col (k:Int))) (5^p.right.length * K) _ ((HY.out.below g).below q) a1 M.out N.out V.out O.out af.out).mono ?_);rw [Zm];rintro _ w7 ⟨v7,rfl,e7,I⟩;have z:=Za q I q.size;have a2:=a0.below I;have a3:=e7;clear e7 a0 a1;refine hKR.out _ _ (Or.inr z) ?_;clear hKR KR;(try simp only [Act.put,pu1,pu2,pu3,pu4,pu5,pu6]);repeat ((first | (refine Zc (v:=?_) rfl rfl rfl ?_ ?_;rotate_left;(· (intro _ l;go_simp;(try go_bits);(try with_reducible rfl)))) | (refine Zg (v:=?_) rfl rfl rfl ?_ ?_;rotate_left;(· (intro _ l;go_simp;(try go_bits);(try with_reducible rfl)))) | refine Zh rfl rfl rfl ?_);(try simp only [Act.put,pu1,pu2,pu3,pu4,pu5,pu6]))
   refine Zd rfl rfl (fun KR hKR=>?_);go_simp;(with_reducible refine (rsubF_own _ _ (canF (VL p s.phase (k:Int))) (canF (Zbb (XU p s) (Yj p.right.length (p.col (k:Int))) (min (XU p s).length p.right.length))) _ a2 a3 ai.out X.out).mono ?_);rw [Zu,Zu,ah.out];rintro _ w8 ⟨v8,rfl,e8,aa⟩;have f:=Za z aa z.size;have HF:=JZ e8.frac;have HO:=JZ (hO.below f);have aj:w3.heap.size≤w8.heap.size:=(by have:=g.size;have:=f.size;omega);obtain ⟨E,l9,k9,E',an,ao,rfl,_,_⟩:=id e8.frac;clear e8 a2 a3;generalize hQ:canF (Zeu p s (k:Int))=Q at *;refine hKR.out _ _ (Or.inr f) ?_;clear hKR KR;(try simp only [Act.put,pu1,pu2,pu3,pu4,pu5,pu6]);refine Zd rfl rfl (fun KR hKR=>?_);go_simp;refine hKR.out _ _ (Or.inl (by decide)) ?_;clear hKR KR;(try simp only [Act.put,pu1,pu2,pu3,pu4,pu5,pu6]);refine VJ rfl rfl rfl (by decide) (.tmp 18) (.tmp 30) rfl w8 w3.heap.size u6 (Yj k fun j=>Zeu p s (j:Int)) rfl HO.out _ _ E E' l9 k9 an ao Q HF.out rfl Y aj ?_;intro v' w9 x J L;rw [← hQ,canL_succ k fun j=>Zeu p s (j:Int)] at x;(try simp only [Act.put,pu1,pu2,pu3,pu4,pu5,pu6]);refine Zd rfl rfl (fun KR hKR=>?_);go_simp;refine hKR.out _ _ (Or.inl (by decide)) ?_;clear hKR KR;(try simp only [Act.put,pu1,pu2,pu3,pu4,pu5,pu6]);refine Zz ?_;have ak:=J.bk (hX.later f) (by decide);have al:=J.bk (hS.later f) (by decide);have a4:=(Za b f b.size).trans (L.mono T);have G:=(Za g f g.size).trans L;clear C0 C1 C2 D0 D1 hX hS b g d o q z f a9 H I aa hO HO HF J L hQ;go_wp2;go_roundw
   case rel=>exact ⟨k+1,by omega,by go_num,a4,G,ak,al,x⟩
   case measure=>simp [intOf];omega
  ·obtain rfl:k=n':=by omega
   go_wp2;go_ret;refine ⟨_,rfl,?_,b⟩;unfold redL;rw [← D.out];obtain ⟨cs,ho,hf⟩:=hO;exact ⟨cs,Wy ho T,hf⟩
section
namespace Pl
section
variable {p:LPd} {s:LSt}
theorem zL_at (h:zOk p s=true) {i:Nat} (hi:i < p.right.length):(zL p s)[i]? =some (canF (qAt (zL p s) i)):=by
 unfold zOk at h;obtain ⟨x,hx⟩:=Option.isSome_iff_exists.1 h;unfold zL;rw [Zeb hx,ZK hi,YH hi]
theorem zL_len (h:zOk p s=true):(zL p s).length=p.right.length:=by
 unfold zOk at h;obtain ⟨x,hx⟩:=Option.isSome_iff_exists.1 h;unfold zL;rw [Zeb hx,Zm]
end
end Pl
theorem XE.all {w:World} {A:Option Addr} {n c:Nat} {zs:List Int} (h:XE w (.slice A n c) zs) (hn:0 < n):∃b off,A=some ⟨b,off,none⟩∧∀i,i < n→w.cell? ⟨b,off+i,none⟩=some (.int .i64 (zs.getD i 0)):=by
 obtain ⟨a,cap,h1,h2,h3,h4,h5⟩:=h;injection h1 with e1 e2 e3;subst e1 e2;obtain ⟨b,off,g1,g2⟩:=h4 hn;exact ⟨b,off,g1,g2⟩
theorem rvalidateState_any (v1 v2:Value) (p:LPd) (s:LSt) (K:Nat) (w:World) (h:LpM w v1 p) (h2:StM w v2 s) (F:p.Fit K) (hz:lpErr p=0):
 Calls Tryz.prog 39 #[v1,v2] w fun e w'=>e= .returned (.int .i64 (vsErr p s))∧Below w.heap.size w w':=by
 obtain ⟨A,n,c,A',n',c',J,R,L,rfl,hc,hv,hr⟩:=id h;obtain ⟨Ab,nb,cb,rfl,hI⟩:=id h2;obtain ⟨W,hW,ac,M⟩:=Y6 w (.slice A n c) (.slice A' n' c') (.slice J R L);obtain ⟨W1,aw,S,g⟩:=Zea W (.int .i64 s.phase) (.slice Ab nb cb) (.int .i64 s.pivots);have hX:=ac.later g;have d:=Za M g M.size;obtain ⟨b1,b2,b3⟩:=hI.len;have ag:W.heap.size=w.heap.size+1:=by rw [← hW];simp
 rw [ag] at S;have a0:=JZ h;have a1:=JZ h2;have HI:=JZ hI;have x:=JZ F;have a2:=JZ b1;obtain ⟨x0,x1,x2⟩:=hX.three;obtain ⟨y0,y1,y2⟩:=S.three;obtain ⟨m1,m2,m3⟩:=hv.len;obtain ⟨r1,r2,r3⟩:=hr.len;have X:=JZ m1;have l:=JZ r1;have ah:=JZ hz;clear hz m1 r1;clear h h2 hc hv hr b1 hI ac M g F;have b0:n'≤1200:=by rw [X.out];exact x.out.cols
 have b4:R≤64:=by rw [l.out];exact x.out.rows
 have a3:Hid (∀(i:Nat) (f:RF),(zL p s)[i]? =some f→f.Sh):=JZ fun i f hf=>(Ygw x.out s i f hf).sh (by have:=x.out.ks;omega)
 go_enter Tryz.func39,Tryz.ntmps39;go_wp2_with fail;clear hW aw;refine (rvalidate_any _ p K _ (a0.out.below d) x.out.ok x.out.kb).mono ?_;rw [ah.out];rintro _ w1 ⟨rfl,T⟩;have C:=hX.later T;have E:=S.later T;have g:=Za d T d.size;obtain ⟨x0,x1,x2⟩:=C.three;clear hX S d T;go_wp2_with fail;have C0:=Zp x0;have C1:=Zp x1;have C2:=Zp x2;refine Zq 8 [0,1,2,3,4,5,6,7] (by kernel_rfl) (by kernel_rfl) ?_;repeat ((first | (refine Zc (v:=?_) rfl rfl rfl ?_ ?_;rotate_left;(· (intro _ O;go_simp;(try go_bits);(try with_reducible rfl)))) | (refine Zg (v:=?_) rfl rfl rfl ?_ ?_;rotate_left;(· (intro _ O;go_simp;(try go_bits);(try with_reducible rfl)))) | refine Zh rfl rfl rfl ?_);(try simp only [Act.put,pu1,pu2,pu3,pu4,pu5,pu6]))
 refine Zz ?_;clear C0 C1 C2 x0 x1 x2;replace C:=C.drew;replace E:=E.drew;replace g:=g.drew;generalize w1.drew=wd at *;obtain ⟨x0,x1,x2⟩:=C.three;obtain ⟨y0,y1,y2⟩:=E.three;by_cases hl:nb=R
 ·have m:Hid (s.basis.length=p.right.length):=JZ (by rw [← a2.out,← l.out];exact hl);subst hl;have a4:s.phase < 1∨2 < s.phase∨s.pivots < 0∨(1≤s.phase∧s.phase≤2∧0≤s.pivots):=by omega
  rcases a4 with hq | hq | hq | ⟨ha1,ha2,ha3⟩
  ·have HR:=JZ (Yff m.out (.inl hq));go_wp2;go_ret;exact ⟨Zak HR.out,g⟩
  ·have HR:=JZ (Yff m.out (.inr (.inl hq)));have b5:¬s.phase < 1:=(by omega);go_wp2;go_ret;exact ⟨Zak HR.out,g⟩
  ·have HR:=JZ (Yff m.out (.inr (.inr hq)));rcases Int.lt_or_le s.phase 1 with hp1 | hp1
   ·go_wp2;go_ret;exact ⟨Zak HR.out,g⟩
   ·rcases Int.lt_or_le 2 s.phase with u | u
    ·go_wp2;go_ret;exact ⟨Zak HR.out,g⟩
    ·go_wp2;go_ret;exact ⟨Zak HR.out,g⟩
  ·have r:Hid (¬(s.phase < 1∨2 < s.phase∨s.pivots < 0)):=JZ (by omega);go_wp2;clear x0 x1 x2 y0 y1 y2
   go_loopw [8] (fun i wr=>∃k:Nat,k≤nb∧i= .int .i64 k∧Below w.heap.size w wr∧Bk wr w.heap.size 26 [.slice A n c,.slice A' n' c',.slice J nb L]∧Bk wr (w.heap.size+1) 29 [.int .i64 s.phase,.slice Ab nb cb,.int .i64 s.pivots]∧∀i,i < k→ -(nb:Int)≤s.at_ i∧s.at_ i < n') (fun i _=>nb - (intOf i).toNat)
   case atStart=>exact ⟨0,by omega,rfl,g,C,E,fun i hi=>by omega⟩
   case round=>
    clear g C E;obtain ⟨k,hk,rfl,d,hX,hS,hg⟩:=hrel;have HG:=JZ hg;clear hg;obtain ⟨x0,x1,x2⟩:=hX.three;obtain ⟨y0,y1,y2⟩:=hS.three;rcases JX k nb with hkl | hkl
    ·obtain ⟨bb,bo,z,rfl,b9,o,z0,z1⟩:=(HI.out.below d).at_ hkl;have Y:=JZ (LSt.at_eq o);have ai:(k:Int) < nb:=(by omega);clear o;rcases Int.lt_or_le z (-(nb:Int)) with h1 | h1
     ·have HR:Hid (vsErr p s=5):=JZ (Yaj m.out r.out fun hr=>by have:=(hr k (by rw [← l.out];exact hkl)).1;rw [Y.out,← l.out] at this;omega);go_wp2;go_ret;exact ⟨Zak HR.out,d⟩
     ·rcases Int.lt_or_le z n' with h2 | h2
      ·have D:Hid (∀i,i < k+1→ -(nb:Int)≤s.at_ i∧s.at_ i < n'):=JZ fun i hi=>by
        rcases JX i k with h | h
        ·exact HG.out i h
        ·obtain rfl:i=k:=by omega
         rw [Y.out];exact ⟨h1,h2⟩
       go_wp2;go_roundw
       case rel=>exact ⟨k+1,by omega,by go_num,d,hX,hS,D.out⟩
       case measure=>simp [intOf];omega
      ·have HR:Hid (vsErr p s=5):=JZ (Yaj m.out r.out fun hr=>by have:=(hr k (by rw [← l.out];exact hkl)).2;rw [Y.out,← X.out] at this;omega);go_wp2;go_ret;exact ⟨Zak HR.out,d⟩
    ·obtain rfl:nb=k:=by omega
     have y:Hid (Zpb p s):=JZ fun i hi=>by rw [← l.out] at hi ⊢;rw [← X.out];exact HG.out i hi
     clear HG x0 x1 x2 y0 y1 y2;go_wp2
     go_loopw [9] (fun i wr=>∃a:Nat,a≤nb∧i= .int .i64 a∧Below w.heap.size w wr∧Bk wr w.heap.size 26 [.slice A n c,.slice A' n' c',.slice J nb L]∧Bk wr (w.heap.size+1) 29 [.int .i64 s.phase,.slice Ab nb cb,.int .i64 s.pivots]∧∀i,i < a→∀j,j < i→s.at_ i≠s.at_ j) (fun i _=>nb - (intOf i).toNat)
     case atStart=>exact ⟨0,by omega,rfl,d,hX,hS,fun i hi=>by omega⟩
     case round=>
      clear d hX hS;obtain ⟨a,ba,rfl,d,hX,hS,hg⟩:=hrel;have HG:=JZ hg;clear hg;rcases JX a nb with hal | hal
      ·go_wp2
       go_loopw [10] (fun i wr=>∃b:Nat,b≤a∧i= .int .i64 b∧Below w.heap.size w wr∧Bk wr w.heap.size 26 [.slice A n c,.slice A' n' c',.slice J nb L]∧Bk wr (w.heap.size+1) 29 [.int .i64 s.phase,.slice Ab nb cb,.int .i64 s.pivots]∧∀j,j < b→s.at_ a≠s.at_ j) (fun i _=>a - (intOf i).toNat)
       case atStart=>exact ⟨0,by omega,rfl,d,hX,hS,fun j hj=>by omega⟩
       case round=>
        clear d hX hS;obtain ⟨b,bc,rfl,d,hX,hS,hg⟩:=hrel;have D:=JZ hg;clear hg;rcases JX b a with hba | hba
        ·obtain ⟨bb,bo,rfl,N⟩:=(HI.out.below d).all (show 0 < nb by omega);have c1:wr.cell? ⟨bb,bo+a,none⟩=some (.int .i64 (s.at_ a)):=N a hal;have c2:wr.cell? ⟨bb,bo+b,none⟩=some (.int .i64 (s.at_ b)):=N b (by omega);obtain ⟨y0,y1,y2⟩:=hS.three;have b6:(a:Int) < nb:=(by omega);have b7:(b:Int) < nb:=(by omega);have ay:(b:Int) < a:=(by omega);clear N;generalize ae:s.at_ a=za at *;generalize af:s.at_ b=zb at *;have a5:=JZ ae;have a6:=JZ af;clear ae af;have aj:=hX.drew;have ak:=hS.drew;have V:=d.drew;by_cases he:za=zb
         ·have al:(za==zb)=true:=(by simpa using he);have HR:Hid (vsErr p s=7):=JZ (Yfg m.out r.out y.out fun hd=>hd a (by rw [← l.out];exact hal) b hba (by rw [a5.out,a6.out,he]));clear he;go_wp2_with fail;have C0:=Zp y0;have C1:=Zp y1;have C2:=Zp y2;have D1:=Zp c1;have D2:=Zp c2;clear y0 y1 y2 c1 c2;refine Zq 11 [0,1,2,3,4,5,6,7,8,9,10] (by kernel_rfl) (by kernel_rfl) ?_;repeat ((first | (refine Zc (v:=?_) rfl rfl rfl ?_ ?_;rotate_left;(· (intro _ O;go_simp;(try go_bits);(try with_reducible rfl)))) | (refine Zg (v:=?_) rfl rfl rfl ?_ ?_;rotate_left;(· (intro _ O;go_simp;(try go_bits);(try with_reducible rfl)))) | refine Zh rfl rfl rfl ?_);(try simp only [Act.put,pu1,pu2,pu3,pu4,pu5,pu6]))
          refine Zz ?_;go_wp2;go_ret;exact ⟨Zak HR.out,V⟩
         ·have al:(za==zb)=false:=(by simpa using he);have a7:Hid (∀j,j < b+1→za≠s.at_ j):=JZ fun j hj=>by
           rcases JX j b with h | h
           ·exact D.out j h
           ·obtain rfl:j=b:=by omega
            rw [a6.out];exact he
          have am:Hid (∀j,j < b+1→s.at_ a≠s.at_ j):=JZ fun j hj=>by rw [a5.out];exact a7.out j hj
          clear he;go_wp2_with fail;have C0:=Zp y0;have C1:=Zp y1;have C2:=Zp y2;have D1:=Zp c1;have D2:=Zp c2;clear y0 y1 y2 c1 c2;refine Zq 11 [0,1,2,3,4,5,6,7,8,9,10] (by kernel_rfl) (by kernel_rfl) ?_;repeat ((first | (refine Zc (v:=?_) rfl rfl rfl ?_ ?_;rotate_left;(· (intro _ O;go_simp;(try go_bits);(try with_reducible rfl)))) | (refine Zg (v:=?_) rfl rfl rfl ?_ ?_;rotate_left;(· (intro _ O;go_simp;(try go_bits);(try with_reducible rfl)))) | refine Zh rfl rfl rfl ?_);(try simp only [Act.put,pu1,pu2,pu3,pu4,pu5,pu6]))
          refine Zz ?_;clear C0 C1 C2 D1 D2;go_wp2;go_roundw
          case rel=>exact ⟨b+1,by omega,by go_num,V,aj,ak,by first | exact am.out | exact a7.out⟩
          case measure=>simp [intOf];omega
        ·obtain rfl:a=b:=by omega
         have an:Hid (∀i,i < a+1→∀j,j < i→s.at_ i≠s.at_ j):=JZ fun i hi j hj=>by
          rcases JX i a with h | h
          ·exact HG.out i h j hj
          ·obtain rfl:i=a:=by omega
           exact D.out j hj
         go_wp2;go_roundw
         case rel=>exact ⟨a+1,by omega,by go_num,d,hX,hS,an.out⟩
         case measure=>simp [intOf];omega
      ·obtain rfl:nb=a:=by omega
       have G:Hid (Zvi p s):=JZ fun i hi=>by rw [← l.out] at hi;exact HG.out i hi
       have ao:=JZ (Ydf m.out y.out);obtain ⟨x0,x1,x2⟩:=hX.three;obtain ⟨y0,y1,y2⟩:=hS.three;clear HG;go_wp2_with fail;refine (rbasic_own _ _ p s K _ (a0.out.below d) (a1.out.below d) x.out ao.out).mono ?_;rintro _ w5 ⟨v5,rfl,e5,U⟩;have a8:=hX.later U;have a9:=hS.later U;have H:=Za d U d.size;have P:=e5.frs;clear x0 x1 x2 y0 y1 y2 hX hS d U e5
       cases hzk:zOk p s with
       | false=>
        have HR:=JZ (Yde m.out r.out y.out G.out hzk);go_wp2;go_ret;exact ⟨Zak HR.out,H⟩
       | true=>
        have I:=JZ hzk;have aa:Hid ((zL p s).length=nb):=JZ (by rw [zL_len hzk,l.out]);obtain ⟨Az,cz,rfl,ax,bd⟩:=P.shape;rw [aa.out] at ax P ⊢;clear hzk;go_wp2
        go_loopw [13] (fun i wr=>∃k:Nat,k≤nb∧i= .int .i64 k∧Below w.heap.size w wr∧Bk wr w.heap.size 26 [.slice A n c,.slice A' n' c',.slice J nb L]∧Bk wr (w.heap.size+1) 29 [.int .i64 s.phase,.slice Ab nb cb,.int .i64 s.pivots]∧Xh wr (.slice Az nb cz) (zL p s)∧∀i,i < k→¬qAt (zL p s) i < 0) (fun i _=>nb - (intOf i).toNat)
        case atStart=>exact ⟨0,by omega,rfl,H,a8,a9,P,fun i hi=>by omega⟩
        case round=>
         clear H a8 a9 P;obtain ⟨k,hk,rfl,d,hX,hS,hz,hg⟩:=hrel;have HG:=JZ hg;clear hg;rcases JX k nb with hkl | hkl
         ·have o:=zL_at I.out (show k < p.right.length by rw [← l.out];exact hkl);obtain ⟨b',az,B1,n1,k1,B2,n2,k2,rfl,be,⟨q0,q1,q2,q3⟩,ad⟩:=hz.elem (JR _ _) o;have ap:=a3.out k _ o;have ai:(k:Int) < nb:=(by omega);generalize hq:qAt (zL p s) k=q at *;have HQ:=JZ hq;clear hq o;go_wp2_with fail;refine (rsignF_any _ (canF q) _ ad ap).mono ?_;rw [Zu];rintro _ w7 ⟨rfl,B⟩;have aq:=hX.later B;have ar:=hS.later B;have au:=hz.below B;have t:=Za d B d.size;clear q0 q1 q2 q3 ad hX hS hz d B;rcases Int.lt_or_le (qs q) 0 with hqs | hqs
          ·have HR:Hid (vsErr p s=16):=JZ (Yak m.out r.out y.out G.out I.out fun hp=>hp k (by rw [← l.out];exact hkl) (by rw [HQ.out];exact Zjn.1 hqs));go_wp2;go_ret;exact ⟨Zak HR.out,t⟩
          ·have D:Hid (∀i,i < k+1→¬qAt (zL p s) i < 0):=JZ fun i hi=>by
            rcases JX i k with h | h
            ·exact HG.out i h
            ·obtain rfl:i=k:=by omega
             rw [HQ.out];intro h9;have:=Zjn.2 h9;omega
           go_wp2;go_roundw
           case rel=>exact ⟨k+1,by omega,by go_num,t,aq,ar,au,D.out⟩
           case measure=>simp [intOf];omega
         ·obtain rfl:nb=k:=by omega
          have Z:Hid (Zze p s):=JZ fun i hi=>by rw [← l.out] at hi;exact HG.out i hi
          obtain ⟨y0,y1,y2⟩:=hS.three;clear HG;by_cases u:s.phase=2
          ·have ab:(s.phase==2)=true:=(by simpa using u);have av:=JZ u;clear u;go_wp2_with fail;refine (rartificial_any _ _ s (zL p s) _ (a1.out.below d) hz (by rw [aa.out,m.out,l.out];exact JY _) a3.out).mono ?_;rintro _ w7 ⟨rfl,B⟩;have t:=Za d B d.size
           cases ha:Zby s (zL p s) (zL p s).length with
           | true=>
            have HR:=JZ (Yfh m.out r.out y.out G.out I.out Z.out ⟨av.out,ha⟩);clear ha;go_wp2;go_ret;exact ⟨Zak HR.out,t⟩
           | false=>
            have HR:=JZ (Yfi m.out r.out y.out G.out I.out Z.out (fun h=>by rw [ha] at h;exact absurd h.2 (by decide)));clear ha;go_wp2;go_ret;exact ⟨Zak HR.out,t⟩
          ·have ab:(s.phase==2)=false:=(by simpa using u);have HR:=JZ (Yfi m.out r.out y.out G.out I.out Z.out (fun h=>u h.1));clear u;go_wp2;go_ret;exact ⟨Zak HR.out,d⟩
 ·have HR:Hid (vsErr p s=12):=JZ (Yfe (by rw [← a2.out,← l.out];exact hl));have b8:((nb:Int) !=(R:Int))=true:=by simp;omega
  go_wp2;go_ret;exact ⟨Zak HR.out,g⟩
end
theorem rstatus_own (v1 v2:Value) (p:LPd) (s:LSt) (K:Nat) (w:World) (h:LpM w v1 p) (h2:StM w v2 s) (F:p.Fit K) (S:s.Fit p):
 Calls Tryz.prog 41 #[v1,v2] w fun e w'=>∃v',e= .returned (.tuple #[.int .i64 (YR p s),.int .i64 (UA p s),v'])∧Z4 w.heap.size w' v' (VO p s)∧Below w.heap.size w w':=by
 obtain ⟨A,n,c,A',n',c',ae,af,ag,rfl,hc,hv,hr⟩:=id h;obtain ⟨Ab,nb,cb,rfl,hI⟩:=id h2;obtain ⟨W,hW,az,O⟩:=Y6 w (.slice A n c) (.slice A' n' c') (.slice ae af ag);obtain ⟨W1,bq,t,P⟩:=Zea W (.int .i64 s.phase) (.slice Ab nb cb) (.int .i64 s.pivots);have hX:=az.later P;have a:=Za O P O.size;obtain ⟨b1,b2,b3⟩:=hI.len;have b7:W.heap.size=w.heap.size+1:=by rw [← hW];simp
 rw [b7] at t;have aa:=JZ h;have ai:=JZ h2;have HI:=JZ hI;have d:=JZ F;have ab:=JZ S;have b8:=JZ b1;have aj:Hid (nb=p.right.length):=JZ (by rw [b1];exact S.2);have bv:nb≤64:=by rw [aj.out];exact F.2.2.1
 obtain ⟨x0,x1,x2⟩:=hX.three;obtain ⟨y0,y1,y2⟩:=t.three;obtain ⟨m1,m2,m3⟩:=hv.len;have U:=JZ m1;clear h h2 hc hv hr b1 hI az O P F S;clear m1;have bw:n'≤1200:=by rw [U.out];exact d.out.cols
 have b9:Hid (s.basis.length≤1000):=JZ (by rw [← b8.out];omega);have ba:Hid (p.right.length≤1000):=JZ (by have:=d.out.rows;omega);have ak:Hid (130 * (5^p.right.length * K)+200≤8589934592):=JZ d.out.2.2.2.2.2.2;go_enter Tryz.func41,Tryz.ntmps41;go_wp2_with fail;clear hW bq;refine (rreduced_own _ _ p s K _ (aa.out.below a) (ai.out.below a) d.out ab.out).mono ?_;unfold redL;rw [← U.out];rintro _ w3 ⟨v3,rfl,e3,a2⟩;have al:=hX.later a2;have am:=t.later a2;have a3:=Za a a2 a.size;have V:=e3.frs;obtain ⟨Ar,cr,rfl,br,c3⟩:=V.shape;rw [Zm] at br V ⊢;clear e3 a2 hX t x0 x1 x2 y0 y1 y2 a;go_wp2
 go_loopw [8] (fun i wr=>∃j:Nat,j≤n'∧i= .int .i64 j∧Below w.heap.size w wr∧Bk wr w.heap.size 26 [.slice A n c,.slice A' n' c',.slice ae af ag]∧Bk wr (w.heap.size+1) 29 [.int .i64 s.phase,.slice Ab nb cb,.int .i64 s.pivots]∧Xh wr (.slice Ar n' cr) (Yj n' fun j=>Zeu p s (j:Int))∧∀i:Nat,i < j→¬Zeu p s (i:Int) < 0) (fun i _=>n' - (intOf i).toNat)
 case atStart=>exact ⟨0,by omega,rfl,a3,al,am,V,fun i hi=>by omega⟩
 case round=>
  clear a3 al am V;obtain ⟨j,hj,rfl,a,hX,hS,hR,hg⟩:=hrel;have HG:=JZ hg;clear hg;rcases JX j n' with hjl | hjl
  ·have a4:=ZK (f:=fun j:Nat=>Zeu p s (j:Int)) hjl;obtain ⟨b',b0,B1,n1,k1,B2,n2,k2,rfl,bs,⟨q0,q1,q2,q3⟩,E⟩:=hR.elem (JR _ _) a4;have X:(canF (Zeu p s (j:Int))).Sh:=(Sz_red d.out s (j:Int)).sh (by have:=ak.out;omega);have an:Hid ((j:Int) < p.cols.length):=JZ (by rw [← U.out];omega);have bx:(j:Int) < n':=(by omega);generalize hq:Zeu p s (j:Int)=q at *;have HQ:=JZ hq;clear hq a4;go_wp2_with fail;refine (rsignF_any _ (canF q) _ E X).mono ?_;rw [Zu];rintro _ w4 ⟨rfl,R⟩;have Y:=hX.later R;have Z:=hS.later R;have ao:=hR.below R;have H:=Za a R a.size;clear q0 q1 q2 q3 E hX hS hR a R;rcases Int.lt_or_le (qs q) 0 with hqs | hqs
   ·have bc:Hid (Zvj p s=some j):=JZ (Zap (Nat.zero_le _) (by have:=an.out;omega) (by show Zeu p s (j:Int) < 0;rw [HQ.out];exact Zjn.1 hqs) fun i _ hi=>HG.out i hi);have bd:Hid (RsL K (Yj p.right.length (p.col (j:Int)))):=JZ (Zbc fun i _=>LPd.Sz_col d.out.ok d.out.k1 _ _);have be:Hid ((Yj p.right.length (p.col (j:Int))).length=p.right.length):=JZ (Zm _ _);obtain ⟨x0,x1,x2⟩:=Y.three;obtain ⟨y0,y1,y2⟩:=Z.three;have a:=H;clear H ao HG HQ;go_wp2_with fail;have C0:=Zp x0;have C1:=Zp x1;have C2:=Zp x2;have D0:=Zp y0;have D1:=Zp y1;have D2:=Zp y2;have t:=Zj w4;clear x0 x1 x2 y0 y1 y2;refine Zq 12 [0,1,3,4,2,5,6,7,8,9,10,11] (by kernel_rfl) (by kernel_rfl) ?_;repeat ((first | (refine Zc (v:=?_) rfl rfl rfl ?_ ?_;rotate_left;(· (intro _ C;go_simp;(try go_bits);(try with_reducible rfl)))) | (refine Zg (v:=?_) rfl rfl rfl ?_ ?_;rotate_left;(· (intro _ C;go_simp;(try go_bits);(try with_reducible rfl)))) | refine Zh rfl rfl rfl ?_);(try simp only [Act.put,pu1,pu2,pu3,pu4,pu5,pu6]))
    refine Zd rfl rfl (fun KR hKR=>?_);go_simp;(with_reducible refine (rmatrix_own _ _ p s K _ ((aa.out.below a).below t) ((ai.out.below a).below t) d.out.ok d.out.kb d.out.in_ ab.out.in_ d.out.rows b9.out).mono ?_);rw [ab.out.len];rintro _ w5 ⟨v5,rfl,e5,b4⟩;have I:=Za t b4 t.size;refine hKR.out _ _ (Or.inr I) ?_;clear hKR KR;(try simp only [Act.put,pu1,pu2,pu3,pu4,pu5,pu6]);repeat ((first | (refine Zc (v:=?_) rfl rfl rfl ?_ ?_;rotate_left;(· (intro _ C;go_simp;(try go_bits);(try with_reducible rfl)))) | (refine Zg (v:=?_) rfl rfl rfl ?_ ?_;rotate_left;(· (intro _ C;go_simp;(try go_bits);(try with_reducible rfl)))) | refine Zh rfl rfl rfl ?_);(try simp only [Act.put,pu1,pu2,pu3,pu4,pu5,pu6]))
    refine Zd rfl rfl (fun KR hKR=>?_);go_simp;(with_reducible refine (rcolumn_any _ p K (j:Int) _ ((aa.out.below a).below I) d.out.ok d.out.kb d.out.in_ (by omega) an.out d.out.rows).mono ?_);rintro _ w6 ⟨v6,rfl,e6,ah⟩;have J:=Za I ah I.size;have ap:=e5.below ah;have aq:=e6.frs;clear e5 e6;refine hKR.out _ _ (Or.inr J) ?_;clear hKR KR;(try simp only [Act.put,pu1,pu2,pu3,pu4,pu5,pu6]);repeat ((first | (refine Zc (v:=?_) rfl rfl rfl ?_ ?_;rotate_left;(· (intro _ C;go_simp;(try go_bits);(try with_reducible rfl)))) | (refine Zg (v:=?_) rfl rfl rfl ?_ ?_;rotate_left;(· (intro _ C;go_simp;(try go_bits);(try with_reducible rfl)))) | refine Zh rfl rfl rfl ?_);(try simp only [Act.put,pu1,pu2,pu3,pu4,pu5,pu6]))
    refine Zd rfl rfl (fun KR hKR=>?_);go_simp;(with_reducible refine (rsolve_own _ _ p.right.length (s.mat p) (Yj p.right.length (p.col (j:Int))) K _ ap aq be.out (fun r c _ _=>Sz_mat d.out s c r) bd.out d.out.k1 d.out.ks ba.out).mono ?_);rintro _ w7 ⟨v7,rfl,e7,b5⟩;have L:=Za J b5 J.size;refine hKR.out _ _ (Or.inr L) ?_;clear hKR KR;(try simp only [Act.put,pu1,pu2,pu3,pu4,pu5,pu6]);repeat ((first | (refine Zc (v:=?_) rfl rfl rfl ?_ ?_;rotate_left;(· (intro _ C;go_simp;(try go_bits);(try with_reducible rfl)))) | (refine Zg (v:=?_) rfl rfl rfl ?_ ?_;rotate_left;(· (intro _ C;go_simp;(try go_bits);(try with_reducible rfl)))) | refine Zh rfl rfl rfl ?_);(try simp only [Act.put,pu1,pu2,pu3,pu4,pu5,pu6]))
    refine Zz ?_;clear C0 C1 C2 D0 D1 D2;have ar:=Y.later L;have ac:=Z.later L;have a5:=Za a L a.size;have bt:=J.size;have bz:=a.size;have ad:Z4 w.heap.size w7 v7 (dirL p s (j:Int)):=(by obtain ⟨cs,ho,hf⟩:=e7;exact ⟨cs,Wy ho (by omega),hf⟩);have bf:=JZ (Yal d.out s (j:Int));obtain ⟨g,l,m⟩:=XP bc.out;have a6:=JZ g;have u:=JZ l;have x:=JZ m;have bg:Hid ((dirL p s (j:Int)).length≤nb):=JZ (by rw [aj.out];exact Zyp);clear e7 ap aq Y Z t I J L b4 ah b5 a g l m;generalize dirL p s (j:Int)=D at *;obtain ⟨Ad,cd,rfl,c4,c5⟩:=ad.frs.shape;generalize b6:D.length=N at *;have bh:=JZ b6;have c0:N≤nb:=bg.out;clear b6;obtain ⟨y0,y1,y2⟩:=ac.three;have a7:decide (s.phase=2)=Vq s D 0:=rfl;go_wp2;clear y0 y1 y2
    go_loopw [11,12] (fun b i wx=>∃k:Nat,k≤N∧i= .int .i64 k∧b= .bool (Vq s D k)∧Below w.heap.size w wx∧Bk wx w.heap.size 26 [.slice A n c,.slice A' n' c',.slice ae af ag]∧Bk wx (w.heap.size+1) 29 [.int .i64 s.phase,.slice Ab nb cb,.int .i64 s.pivots]∧Z4 w.heap.size wx (.slice Ad N cd) D) (fun _ i _=>N - (intOf i).toNat)
    case atStart=>exact ⟨0,by omega,rfl,by rw [← a7];congr 1,a5,ar,ac,ad⟩
    case round=>
     clear a5 ar ac ad a7;obtain ⟨k,hk,rfl,rfl,a,hX,hS,hD⟩:=hrel;rcases JX k N with hkl | hkl
     ·obtain ⟨f,hf⟩:=Yb (fs:=D) (i:=k) (by rw [bh.out];exact hkl);obtain ⟨b',b0,B1,n1,k1,B2,n2,k2,rfl,bs,⟨q0,q1,q2,q3⟩,E⟩:=hD.frs.elem (JR _ _) hf;have X:f.Sh:=(bf.out k f hf).sh (by have:=ak.out;omega);obtain ⟨bb,bo,rfl,a9⟩:=(HI.out.below a).all (show 0 < nb by omega);have c1:wr.cell? ⟨bb,bo+k,none⟩=some (.int .i64 (s.at_ k)):=a9 k (by omega);obtain ⟨y0,y1,y2⟩:=hS.three;have HQ:=JZ (Yo hf);have c2:(k:Int) < N:=(by omega);have bu:(k:Int) < nb:=(by omega);generalize hz:s.at_ k=z at *;have HZ:=JZ hz;clear hf a9 hz;go_wp2_with fail;refine (rsignF_any _ f _ E X).mono ?_;rintro _ w8 ⟨rfl,o⟩;have a0:=hX.later o;have M:=hS.later o;have a1:=hD.below o;have y:=Za a o a.size;have au:=E.below o;have bi:=cell_later o c1;have bj:=cell_later o q0;have bk:=cell_later o q1;have bl:=cell_later o q2;have bm:=cell_later o q3;obtain ⟨z0,z1,z2⟩:=M.three;clear q0 q1 q2 q3 E c1 y0 y1 y2 hX hS hD a o;rcases Int.lt_or_le 0 (qs f.q) with hp | hp
      ·have B:Hid (Vq s D (k+1)=false):=JZ (by unfold Vq;rw [if_pos (.inl (by rw [HQ.out];exact Zjo.1 hp))]);go_wp2;go_roundw
       case rel=>exact ⟨k+1,by omega,by go_num,by rw [B.out],y,a0,M,a1⟩
       case measure=>simp [intOf];omega
      ·rcases Int.lt_or_le z 0 with hz0 | hz0
       ·go_wp2_with fail;refine (rsignF_any _ f _ au X).mono ?_;rintro _ w9 ⟨rfl,T⟩;have av:=a0.later T;have aw:=M.later T;have ax:=a1.below T;have a8:=Za y T y.size;clear a0 M a1 y T bi bj bk bl bm z0 z1 z2 au;by_cases G:f.q=0
        ·have ay:(qs f.q !=0)=false:=(by rw [G];decide);have B:Hid (Vq s D (k+1)=Vq s D k):=JZ (by rw [Vq,if_neg (by rw [HQ.out,G];intro h;rcases h with h | h;exact absurd h (by decide);exact h.2 rfl)]);clear G;go_wp2;go_roundw
         case rel=>exact ⟨k+1,by omega,by go_num,by rw [B.out],a8,av,aw,ax⟩
         case measure=>simp [intOf];omega
        ·have ay:(qs f.q !=0)=true:=(by simpa using fun e=>G (Yp.1 e));have B:Hid (Vq s D (k+1)=false):=JZ (by unfold Vq;rw [if_pos (.inr ⟨by rw [HZ.out];exact hz0,by rw [HQ.out];exact G⟩)]);clear G;go_wp2;go_roundw
         case rel=>exact ⟨k+1,by omega,by go_num,by rw [B.out],a8,av,aw,ax⟩
         case measure=>simp [intOf];omega
       ·have B:Hid (Vq s D (k+1)=Vq s D k):=JZ (by rw [Vq,if_neg (by rw [HQ.out,HZ.out];intro h;rcases h with h | h;have:=Zjo.2 h;omega;omega)]);go_wp2;go_roundw
        case rel=>exact ⟨k+1,by omega,by go_num,by rw [B.out],y,a0,M,a1⟩
        case measure=>simp [intOf];omega
     ·obtain rfl:N=k:=by omega
      cases hsk:Vq s D N with
      | true=>
       have HR:Hid (YR p s=3):=JZ (by rw [a6.out,hsk];rfl);go_wp2;(try simp only [Exit.inBlock,Exit.then]);refine bodyPost_ret (results_tmp3 rfl _ _ _) rfl ?_;exact ⟨_,by rw [HR.out,u.out];rfl,by rw [x.out];exact hD,a⟩
      | false=>
       have HR:Hid (YR p s=0):=JZ (by rw [a6.out,hsk];rfl);go_wp2;(try simp only [Exit.inBlock,Exit.then]);refine bodyPost_ret (results_tmp3 rfl _ _ _) rfl ?_;exact ⟨_,by rw [HR.out,u.out];rfl,by rw [x.out];exact hD,a⟩
   ·have bn:Hid (∀i:Nat,i < j+1→¬Zeu p s (i:Int) < 0):=JZ fun i hi=>by
     rcases JX i j with h | h
     ·exact HG.out i h
     ·obtain rfl:i=j:=by omega
      rw [HQ.out];intro h9;have:=Zjn.2 h9;omega
    go_wp2;go_roundw
    case rel=>exact ⟨j+1,by omega,by go_num,H,Y,Z,ao,bn.out⟩
    case measure=>simp [intOf];omega
  ·obtain rfl:n'=j:=by omega
   obtain ⟨g,l,m⟩:=WU (p:=p) (s:=s) (Zao fun i _ hi=>HG.out i (by rw [U.out];omega));obtain ⟨y0,y1,y2⟩:=hS.three;by_cases hp:s.phase=1
   ·have bp:(s.phase==1)=true:=(by simpa using hp);have HR:Hid (YR p s=2):=JZ (by rw [g,if_pos hp]);have u:=JZ l;have x:=JZ m;clear g l m hp;go_wp2;(try simp only [Exit.inBlock,Exit.then]);refine bodyPost_ret (results_tmp3 rfl _ _ _) rfl ?_;exact ⟨_,by rw [HR.out,u.out];rfl,by rw [x.out];exact Z4.nil _ _,a⟩
   ·have bp:(s.phase==1)=false:=(by simpa using hp);have HR:Hid (YR p s=1):=JZ (by rw [g,if_neg hp]);have u:=JZ l;have x:=JZ m;clear g l m hp;go_wp2;(try simp only [Exit.inBlock,Exit.then]);refine bodyPost_ret (results_tmp3 rfl _ _ _) rfl ?_;exact ⟨_,by rw [HR.out,u.out];rfl,by rw [x.out];exact Z4.nil _ _,a⟩
end Go.Proofs.YtgbhebappffbdaaGreat
