/- Contracts that the claim is built on; no condition. -/
import Derived.Test.YtncmobkhenfhpaaGreatFn2
set_option linter.unusedVariables false
set_option linter.unusedSimpArgs false
set_option maxRecDepth 100000
set_option maxHeartbeats 40000000
namespace Go.Proofs.YtncmobkhenfhpaaGreat
open Go.RowKit
open Pl
attribute [local go_sem ↓] Go.wp_at_zero Go.wp_at_succ
theorem Bk.far4' {w:World} {g g':Nat} {t:TypeId} {cs:List Value} (h:Bk w g t cs) (hne:g≠g') (i j k l:Nat) (x y z u:Value):Bk ((((w.setCell ⟨g',i,none⟩ x).setCell ⟨g',j,none⟩ y).setCell ⟨g',k,none⟩ z).setCell ⟨g',l,none⟩ u) g t cs:=
 (((h.far (p:=⟨g',i,none⟩) hne x).far (p:=⟨g',j,none⟩) hne y).far (p:=⟨g',k,none⟩) hne z).far (p:=⟨g',l,none⟩) hne u
namespace Pl
theorem gj_fail {M:Mx} {m k:Nat} (h:gj M m k=none):∀d,gj M m (k+d)=none
 | 0=>h
 | d+1=>by rw [← Nat.add_assoc];unfold gj;rw [gj_fail h d]
theorem solveQ_fail {m k:Nat} {cols:Mx} {b:Nat→Rat} {M:Mx} (hk:k < m) (h:gj (Zhy m cols b) m k=some M) (hf:Zgl M k m=none):Y4 m cols b=none:=by
 have h1:gj (Zhy m cols b) m (k+1)=none:=by unfold gj;rw [h];show VK M k m=none;unfold VK;rw [hf]
 have h2:=gj_fail h1 (m - (k+1));rw [show k+1+(m - (k+1))=m by omega] at h2;unfold Y4;rw [h2];rfl
theorem solveQ_done {m:Nat} {cols:Mx} {b:Nat→Rat} {M:Mx} (h:gj (Zhy m cols b) m m=some M):Y4 m cols b=some fun k=>M k m:=by unfold Y4;rw [h];rfl
theorem gj_next {m k t:Nat} {A M:Mx} (h:gj A m k=some M) (hf:Zgl M k m=some t):gj A m (k+1)=some (Xa (scaleTo (swapM M k t) k (m+1) (swapM M k t k k)) k m m):=by
 unfold gj;rw [h];show VK M k m=_;unfold VK;rw [hf]
theorem pow5_le {k m K:Nat} (h:k < m):5 * (5^k * K)≤5^m * K:=by
 have h1:5^(k+1)≤5^m:=Nat.pow_le_pow_right (by decide) h;have h2:=Nat.mul_le_mul_right K h1;rw [Nat.pow_succ] at h2;grind
end Pl
theorem rsolve_own (v1 v2:Value) (m:Nat) (cols:Mx) (rs:List RF) (K:Nat) (w:World) (h1:ColsM w v1 m m cols) (h2:WL w v2 rs) (hl:rs.length=m) (hc:∀r c,r < m→c < m→Sz K (cols c r)) (hr:RsL K rs) (hK:1≤K) (hs:5^m * K≤8589934592) (hm:m≤1000):
 Calls Tryz.prog 96 #[v1,v2] w fun e w'=>∃v',e= .returned (.tuple #[v',.bool (Y4 m cols (qAt rs)).isSome])∧Yi w.heap.size w' v' (Zkh m cols (qAt rs))∧Below w.heap.size w w':=by
 obtain ⟨A,c,rfl,e7,eb⟩:=h1.shape;obtain ⟨Ar,cr,rfl,dk,ec⟩:=h2.shape;rw [hl] at dk h2 ⊢;have cy:Hid (MB m (m+1) K (Zhy m cols (qAt rs))):=Lib.hid (Ydr hc fun r _=>hr.qAt hK r);have cz:=Lib.hid hr;have HL:=Lib.hid hl;have HS:=Lib.hid hs;have d0:Hid (K≤8589934592):=Lib.hid (by have:=Nat.mul_le_mul_right K (Nat.pow_le_pow_right (show 0 < 5 by decide) (Nat.zero_le m));simp at this;omega);have H1:=Lib.hid h1;have H2:=Lib.hid h2;clear hc hr hl hs h1 h2;generalize hb:qAt rs=b at *;have HB:=Lib.hid hb;clear hb;go_enter Tryz.func96,Tryz.ntmps96;go_wp2
 go_loopw [7,8] (fun s i wr=>∃(r:Nat) (G C:Nat→Nat),r≤m∧i= .int .i64 r∧Below w.heap.size w wr∧MatG w.heap.size wr s r (m+1) (Zhy m cols b) G C) (fun _ i _=>m - (intOf i).toNat)
 case atStart=>exact ⟨0,fun _=>0,fun _=>0,by omega,rfl,Below.refl _ _,MatG.nil _ _ _ _ _ _⟩
 case round=>
  obtain ⟨r,G,C,hr,rfl,d,hM⟩:=hrel;obtain ⟨wO,rfl⟩:∃x,x=wr:=⟨_,rfl⟩;rcases Nat.lt_or_ge r m with hrm | hrm
  ·go_wp2
   go_loopw [9,10] (fun s i wx=>∃k:Nat,k≤m∧i= .int .i64 k∧Yi wO.heap.size wx s (Yl k (Zhy m cols b r))∧Below wO.heap.size wO wx) (fun _ i _=>m - (intOf i).toNat)
   case atStart=>exact ⟨0,by omega,rfl,Yi.nil _ _,Below.refl _ _⟩
   case round=>
    obtain ⟨k,hk,rfl,hF,l⟩:=hrel;have az:=l.size;rcases Nat.lt_or_ge k m with aa | aa
    ·obtain ⟨bb,ed,B,cB,b',ch,A1,n1,c1,A2,n2,c2,rfl,ee,a4,e0,e1,_,⟨q0,q1,q2,q3⟩,al⟩:=H1.out.at_ (Za d l d.size) aa hrm;have HF:=Lib.hid hF;have a9:=Lib.hid al;have S:(Yl k (Zhy m cols b r)).length+1≤1099511627776:=(by rw [Zn];omega);have HE:Hid (canF (cols k r)=canF (Zhy m cols b r k)):=Lib.hid (by unfold Zhy;rw [if_pos aa]);have b0:(k:Int) < m:=(by omega);have d1:(r:Int) < m:=(by omega);clear hF al;go_wp2_with (at_builtin;refine wpList_append_frac rfl (.tmp 33) (.tmp 41) rfl wr wO.heap.size u9 (Yl k (Zhy m cols b r)) rfl HF.out _ _ A1 A2 n1 c1 n2 c2 (canF (cols k r)) a9.out rfl S az ?_);intro v' w4 J dt bi;rw [HE.out,canL_succ] at J;go_wp2;go_roundw
     case rel=>exact ⟨k+1,by omega,by go_num,J,l.trans bi⟩
     case measure=>simp [intOf];omega
    ·obtain rfl:k=m:=by omega
     obtain ⟨f,hf⟩:=Yt (fs:=rs) (i:=r) (by rw [HL.out];exact hrm);obtain ⟨b',ch,B1,n1,k1,B2,n2,k2,rfl,_,⟨q0,q1,q2,q3⟩,al⟩:=H2.out.elem (Za d l d.size) hf;have d2:f.Sh:=(cz.out r f hf).sh (by have:=d0.out;omega);have HE:Hid (canF f.q=canF (Zhy k cols b r k)):=Lib.hid (by unfold Zhy;rw [if_neg (by omega),← HB.out,Yv hf]);have d1:(r:Int) < k:=(by omega);clear hf;go_wp2_with fail;refine (Zey _ f _ al d2).mono ?_;rw [HE.out];rintro _ w5 ⟨v5,rfl,e5,o⟩;have D:=Za l o l.size;have bk:=D.size;have HF:=Lib.hid (hF.below o);have a9:=Lib.hid e5.frac;have S:(Yl k (Zhy k cols b r)).length+1≤1099511627776:=(by rw [Zn];omega);generalize hQ:canF (Zhy k cols b r k)=Q at *;obtain ⟨E,l9,k9,E',a5,a6,rfl,_,_⟩:=id a9.out;clear hF al q0 q1 q2 q3 e5 l;go_wp2_with (at_builtin;refine wpList_append_frac rfl (.tmp 44) (.tmp 50) rfl w5 wO.heap.size u9 (Yl k (Zhy k cols b r)) rfl HF.out _ _ E E' l9 k9 a5 a6 Q a9.out rfl S bk ?_);intro v' w6 L du ct;rw [← hQ,canL_succ] at L;clear hQ;have ad:=D.trans ct;obtain ⟨g,cg,rfl,ef,eg,dl,eh⟩:=L.shape (by rw [Zn];omega);rw [Zn] at L dl;have HM:=Lib.hid (hM.below ad);have y:=Za d ad d.size;have bl:=y.size;have d3:Hid (Yi w.heap.size w6 (.slice (some ⟨g,0,none⟩) (k+1) cg) (Yl (k+1) (Zhy k cols b r))):=Lib.hid (by obtain ⟨cs,ho,hf⟩:=L;exact ⟨cs,Vi ho d.size,hf⟩);have d4:Hid (∀s,s < r→G s≠g):=Lib.hid fun s hs=>by have:=(hM.lt hs (by omega)).2.1;omega
     clear hM L D ad o ct du;rw [Zn];go_wp2_with (at_builtin;refine wpList_append_mat rfl (.tmp 43) (.tmp 52) rfl w6 w.heap.size u7 r (k+1) (Zhy k cols b) G C rfl HM.out g cg d3.out d4.out rfl (by omega) bl ?_);intro v' w7 bj ej dv;go_wp2;go_roundw
     case rel=>exact ⟨r+1,_,_,by omega,by go_num,y.trans dv,bj⟩
     case measure=>simp [intOf];omega
  ·obtain rfl:r=m:=by omega
   obtain ⟨Aa,ca,rfl,ci,e2⟩:=hM.shape;generalize dw:Value.slice Aa r ca=va at *;go_wp2
   go_loopw [11] (fun i wr=>∃(k:Nat) (M:Mx) (G C:Nat→Nat),k≤r∧i= .int .i64 k∧Below w.heap.size w wr∧gj (Zhy r cols b) r k=some M∧MatG w.heap.size wr va r (r+1) M G C) (fun i _=>r - (intOf i).toNat)
   case atStart=>exact ⟨0,_,G,C,by omega,rfl,d,rfl,hM⟩
   case round=>
    clear d hM;obtain ⟨k,M,G,C,hk,rfl,d,cj,hM⟩:=hrel;have ae:=Lib.hid cj;clear cj;subst dw;rcases Nat.lt_or_ge k r with hkr | hkr
    ·obtain ⟨go,co,bf,am,ck,cl,cm,a4⟩:=hM.outer (by omega);injection bf with hv1 hv2 hv3;subst hv1 hv3;have b3:=Lib.hid (Yeb cy.out hk ae.out);have hκ:5 * (5^k * K)≤8589934592:=Nat.le_trans (pow5_le hkr) HS.out;generalize dx:5^k * K=κ at *;clear dx ci;obtain ⟨wP,rfl⟩:∃x,x=wr:=⟨_,rfl⟩;go_wp2
     go_loopw [12,13] (fun a i wx=>∃t:Nat,a= .int .i64 (-1)∧k≤t∧t≤r∧i= .int .i64 t∧Below wP.heap.size wP wx∧∀s,k≤s→s < t→M s k=0) (fun _ i _=>r - (intOf i).toNat)
     case atStart=>exact ⟨k,rfl,by omega,by omega,rfl,Below.refl _ _,fun s h1 h2=>by omega⟩
     case round=>
      obtain ⟨t,rfl,dm,ei,rfl,l,hz⟩:=hrel;have HZ:=Lib.hid hz;clear hz;rcases Nat.lt_or_ge t r with htl | htl
      ·have Z:=hM.below l;have y0:=(Z.cellAt htl).1;obtain ⟨A1,n1,c1,A2,n2,c2,⟨q0,q1,q2,q3⟩,hQ⟩:=Z.at_ htl (show k < r+1 by omega);have bm:(canF (M t k)).Sh:=(b3.out t k htl (by omega)).sh (by omega);simp only [U3] at y0;generalize hq:M t k=q at *;have b4:=Lib.hid hq;clear hq;have b0:(k:Int) < ((r+1:Nat):Int):=(by omega);have ap:(k:Int) < (r:Int)+1:=(by omega);have e3:(t:Int) < r:=(by omega);go_wp2_with fail;refine (rsignF_any _ (canF q) _ hQ bm).mono ?_;rw [Zt];rintro _ w5 ⟨rfl,o⟩;clear y0 q0 q1 q2 q3 hQ Z;have D:=Za l o l.size;by_cases F:q=0
       ·have b5:(qs q !=0)=false:=(by rw [F];decide);have d5:Hid (∀s,k≤s→s < t+1→M s k=0):=Lib.hid fun s h1 h2=>by
         rcases Nat.lt_or_ge s t with h | h
         ·exact HZ.out s h1 h
         ·obtain rfl:s=t:=by omega
          rw [b4.out,F]
        clear F;go_wp2;go_roundw
        case rel=>exact ⟨t+1,rfl,by omega,by omega,by go_num,D,d5.out⟩
        case measure=>simp [intOf];omega
       ·have b5:(qs q !=0)=true:=(by simpa using fun e=>F (Z7.1 e));have bn:Hid (Zgl M k r=some t):=Lib.hid (findP_some dm htl (by rw [b4.out];exact F) HZ.out);have N:=hM.below D;have af:=N.below (Ze w5);obtain ⟨n,cn⟩:=af.swap hkr htl;obtain ⟨y1,cp,ay⟩:=af.swap1 (u:=U3 (r+1) G C t) htl (k:=k);obtain ⟨a1,dn⟩:=af.cellAt hkr;obtain ⟨a2,dp⟩:=af.cellAt htl;have b1:=(N.cellAt hkr).1;have b2:=(N.cellAt htl).1;have T:=Lib.hid (b3.out.swap hkr htl);simp only [U3] at n cn cp ay a1 a2 b1 b2;generalize cu:swapM M k t=M1 at *;generalize swapF G k t=G1 at *;generalize swapF C k t=C1 at *;have bo:=Lib.hid cu;have H:=Za d D d.size;have ag:=H.drew;clear cu F af N hM l o D HZ b4 bm d;go_wp2_with fail;have C0:=Zm b1;have d6:=Zm b2;clear b1 b2;refine Zo 13 [0,1,2,3,4,5,6,7,8,9,10,11,12,13,14,15] (by kernel_rfl) (by kernel_rfl) ?_;generalize dy:w5.drew=wD at *;clear dy;repeat ((first | (refine Zc (v:=?_) rfl rfl rfl ?_ ?_;rotate_left;(· (intro _ n;go_simp;(try go_bits);(try with_reducible rfl)))) | (refine Zg (v:=?_) rfl rfl rfl ?_ ?_;rotate_left;(· (intro _ n;go_simp;(try go_bits);(try with_reducible rfl)))) | refine Zh rfl rfl rfl ?_);(try simp only [Act.put,pu1,pu2,pu3,pu4,pu5,pu6]))
        refine Zf rfl rfl (fun KR hKR=>?_);go_simp;refine hKR.out _ _ (Or.inl (by decide)) ?_;clear hKR KR;(try simp only [Act.put,pu1,pu2,pu3,pu4,pu5,pu6]);generalize cv:wD.setCell ⟨go,k,none⟩ (.slice (some ⟨G t,0,none⟩) (r+1) (C t))=W1 at *;refine Zf rfl rfl (fun KR hKR=>?_);go_simp;refine hKR.out _ _ (Or.inl (by decide)) ?_;clear hKR KR;(try simp only [Act.put,pu1,pu2,pu3,pu4,pu5,pu6]);refine Zf rfl rfl (fun KR hKR=>?_);go_simp;refine hKR.out _ _ (Or.inl (by decide)) ?_;clear hKR KR;(try simp only [Act.put,pu1,pu2,pu3,pu4,pu5,pu6]);refine Zy ?_;have ah:=(ag.setCell (p:=⟨go,k,none⟩) am (.slice (some ⟨G t,0,none⟩) (r+1) (C t)));rw [cv] at ah;have y:=ah.setCell (p:=⟨go,t,none⟩) am (.slice (some ⟨G k,0,none⟩) (r+1) (C k));clear C0 d6 ah H ag cn cp ay a1 a2 dn dp cv;generalize W1.setCell ⟨go,t,none⟩ (.slice (some ⟨G k,0,none⟩) (r+1) (C k))=W2 at *;have y0:=(n.cellAt hkr).1;obtain ⟨A1,n1,c1,A2,n2,c2,⟨q0,q1,q2,q3⟩,hQ⟩:=n.at_ hkr (show k < r+1 by omega);have bp:=T.out k k hkr (show k < r+1 by omega);simp only [U3] at y0;generalize cw:M1 k k=qf at *;have bq:=Lib.hid cw;have a8:=Lib.hid bp;have d7:Hid (∀s,s < r→G1 s < W2.heap.size):=Lib.hid fun s hs=>(n.lt hs (by omega)).2.1
        clear cw bp;obtain ⟨W3,dq,V,P⟩:=YZ W2 (.bool (canF qf).num.neg) (.slice A1 n1 c1) (.bool (canF qf).den.neg) (.slice A2 n2 c2);have br:=n.below P;have bs:=hQ.below P;have aq:=Za y P y.size;have ar:MatG w.heap.size W3 (.slice (some ⟨go,0,none⟩) r ca) r (r+1) (scaleTo M1 k k qf) G1 C1:=(by rw [scaleTo_start];exact br);have d8:W2.heap.size < W3.heap.size:=V.lt;go_wp2;clear dq y0 q0 q1 q2 q3 hQ n y P br
        go_loopw [15] (fun i wx=>∃c':Nat,k≤c'∧c'≤r+1∧i= .int .i64 c'∧Below w.heap.size w wx∧MatG w.heap.size wx (.slice (some ⟨go,0,none⟩) r ca) r (r+1) (scaleTo M1 k c' qf) G1 C1∧Bk wx W2.heap.size 48 [.bool (canF qf).num.neg,.slice A1 n1 c1,.bool (canF qf).den.neg,.slice A2 n2 c2]∧Zv wx (.agg #[.bool (canF qf).num.neg,.slice A1 n1 c1,.bool (canF qf).den.neg,.slice A2 n2 c2]) (canF qf)) (fun i _=>r+1 - (intOf i).toNat)
        case atStart=>exact ⟨k,by omega,by omega,rfl,aq,ar,V,bs⟩
        case round=>
         clear aq ar V bs d8;obtain ⟨c',bg,dr,rfl,d,hM,V,ao⟩:=hrel;rcases Nat.lt_or_ge c' (r+1) with hcm | hcm
         ·have y0:=(hM.cellAt hkr).1;obtain ⟨A3,n3,c3,A4,n4,c4,⟨q0,q1,q2,q3⟩,ab⟩:=hM.at_ hkr hcm;obtain ⟨z0,z1,z2,z3⟩:=V.four;have b6:(canF (scaleTo M1 k c' qf k c')).Sh:=(Zrs T.out a8.out hkr hcm).sh (by omega);have d9:(canF qf).Sh:=a8.out.sh (by omega);have ai:=Lib.hid (scaleTo_next (M:=M1) (f:=qf) bg);simp only [U3] at y0;generalize dz:scaleTo M1 k c' qf k c'=qa at *;clear dz;have da:(c':Int) < ((r+1:Nat):Int):=(by omega);have bt:(c':Int) < (r:Int)+1:=(by omega);have bu:(c':Int)≤r:=(by omega);go_wp2_with fail;have Y0:=Zm y0;have Q0:=Zm q0;have Q1:=Zm q1;have Q2:=Zm q2;have Q3:=Zm q3;have Z0:=Zm z0;have Z1:=Zm z1;have Z2:=Zm z2;have Z3:=Zm z3;have I:=Ze wr;have aa:=hkr;clear y0 q0 q1 q2 q3 z0 z1 z2 z3;refine Zo 15 [0,1,2,3,4,5,6,7,8,9,10,11,12,13,14,15] (by kernel_rfl) (by kernel_rfl) ?_;repeat ((first | (refine Zc (v:=?_) rfl rfl rfl ?_ ?_;rotate_left;(· (intro _ n;go_simp;(try go_bits);(try with_reducible rfl)))) | (refine Zg (v:=?_) rfl rfl rfl ?_ ?_;rotate_left;(· (intro _ n;go_simp;(try go_bits);(try with_reducible rfl)))) | refine Zh rfl rfl rfl ?_);(try simp only [Act.put,pu1,pu2,pu3,pu4,pu5,pu6]))
          refine Zf rfl rfl (fun KR hKR=>?_);go_simp;(with_reducible refine (Zrt _ _ (canF qa) (canF qf) _ (ab.below I) (ao.below I) b6 d9).mono ?_);rw [Zt,Zt];rintro _ w9 ⟨v9,rfl,e9,an⟩;have z:=Za I an I.size;have O:=hM.below z;have a0:=e9.frac;obtain ⟨E,l9,k9,E',a5,a6,rfl,_,_⟩:=id a0;obtain ⟨f0,f1,f2,f3⟩:=O.frozen aa hcm;obtain ⟨_,_,_,_,_,_,⟨t0,t1,t2,t3⟩,_⟩:=O.at_ aa hcm;refine hKR.out _ _ (Or.inr z) ?_;clear hKR KR;(try simp only [Act.put,pu1,pu2,pu3,pu4,pu5,pu6]);repeat ((first | (refine Zc (v:=?_) rfl rfl rfl ?_ ?_;rotate_left;(· (intro _ n;go_simp;(try go_bits);(try with_reducible rfl)))) | (refine Zg (v:=?_) rfl rfl rfl ?_ ?_;rotate_left;(· (intro _ n;go_simp;(try go_bits);(try with_reducible rfl)))) | refine Zh rfl rfl rfl ?_);(try simp only [Act.put,pu1,pu2,pu3,pu4,pu5,pu6]))
          refine Zf rfl rfl (fun KR hKR=>?_);go_simp;refine hKR.out _ _ (Or.inl (by decide)) ?_;clear hKR KR;(try simp only [Act.put,pu1,pu2,pu3,pu4,pu5,pu6]);refine Zy ?_;obtain ⟨X,Y⟩:=O.set_ hkr hcm a0;rw [ai.out] at X;have U:=Za d z d.size;have a3:=ZA U (show w.heap.size≤G1 k from (hM.lt hkr (by omega)).1) (c' * 4) (c' * 4+1) (c' * 4+2) (c' * 4+3) (.bool (canF (qa / qf)).num.neg) (.slice E l9 k9) (.bool (canF (qa / qf)).den.neg) (.slice E' a5 a6);have b7:=(V.later z).far4' (show W2.heap.size≠G1 k by have:=d7.out k hkr;omega) (c' * 4) (c' * 4+1) (c' * 4+2) (c' * 4+3) (.bool (canF (qa / qf)).num.neg) (.slice E l9 k9) (.bool (canF (qa / qf)).den.neg) (.slice E' a5 a6);have b8:=(ao.below z).keep (Y.keep (by decide));clear Y0 Q0 Q1 Q2 Q3 Z0 Z1 Z2 Z3 hM V ao O I z an a0 e9 f0 f1 f2 f3 t0 t1 t2 t3 ab d U Y;go_wp2;go_roundw
          case rel=>exact ⟨c'+1,by omega,by omega,by go_num,a3,X,b7,b8⟩
          case measure=>simp [intOf];omega
         ·have aj:c'=r+1:=(by omega);rw [aj] at hM;clear V ao aj;have au:Hid (∀s c,s < r→c < r+1→s≠k→Sz κ (scaleTo M1 k (r+1) qf s c)):=Lib.hid fun s c h1 h2 h3=>Zld T.out h1 h2 h3
          have bv:Hid (∀c,c < r+1→Sz (2 * κ) (scaleTo M1 k (r+1) qf k c)):=Lib.hid fun c h2=>Zrs T.out a8.out hkr h2
          have db:Hid (gj (Zhy r cols b) r (k+1)=some (Xa (scaleTo M1 k (r+1) qf) k r r)):=Lib.hid (by rw [gj_next ae.out bn.out,bo.out,bq.out]);generalize scaleTo M1 k (r+1) qf=M2 at *;have bw:MatG w.heap.size wr (.slice (some ⟨go,0,none⟩) r ca) r (r+1) (Xa M2 k 0 r) G1 C1:=(by rw [elimAll_start];exact hM);clear hM b3 T bq a8 ae bn bo;go_wp2;rw [show decide (c'≤r)=false from by simp;omega]
          go_loopw [16] (fun i wx=>∃s:Nat,s≤r∧i= .int .i64 s∧Below w.heap.size w wx∧MatG w.heap.size wx (.slice (some ⟨go,0,none⟩) r ca) r (r+1) (Xa M2 k s r) G1 C1) (fun i _=>r - (intOf i).toNat)
          case atStart=>exact ⟨0,by omega,rfl,d,bw⟩
          case round=>
           clear d bw;obtain ⟨s,hs,rfl,d,hM⟩:=hrel;rcases Nat.lt_or_ge s r with hsm | hsm
           ·by_cases ac:s=k
            ·have b9:=Lib.hid (elimAll_skip (M:=M2) (m:=r) (Or.inl ac:s=k∨M2 s k=0));have bx:=hM;rw [b9.out] at bx;have bz:((s:Int)==(k:Int))=true:=(by simp;omega);go_wp2;go_roundw
             case rel=>exact ⟨s+1,by omega,by go_num,d,bx⟩
             case measure=>simp [intOf];omega
            ·have bz:((s:Int)==(k:Int))=false:=(by simp;omega);have y0:=(hM.cellAt hsm).1;obtain ⟨A3,n3,c3,A4,n4,c4,⟨q0,q1,q2,q3⟩,R⟩:=hM.at_ hsm (show k < r+1 by omega);have ba:=au.out s k hsm (by omega) ac;rw [elimAll_at] at q0 q2 R;simp only [U3] at y0;have av:=Lib.hid (elimAll_next (M:=M2) (m:=r) ac);rw [elimAll_at] at av;generalize cx:M2 s k=qg at *;have dc:=Lib.hid cx;clear cx;have c0:(canF qg).Sh:=ba.sh (by omega);have c9:=Lib.hid ba;clear ba;have b0:(k:Int) < ((r+1:Nat):Int):=(by omega);have ap:(k:Int) < (r:Int)+1:=(by omega);have e4:(s:Int) < r:=(by omega);go_wp2_with fail;refine (rsignF_any _ (canF qg) _ R c0).mono ?_;rw [Zt];rintro _ w5 ⟨rfl,o⟩;have N:=hM.below o;have H:=Za d o d.size;by_cases F:qg=0
             ·have b5:(qs qg==0)=true:=(by rw [F];decide);have b9:=Lib.hid (elimAll_skip (M:=M2) (m:=r) (Or.inr (by rw [dc.out,F]):s=k∨M2 s k=0));rw [b9.out] at N;clear F;go_wp2;go_roundw
              case rel=>exact ⟨s+1,by omega,by go_num,H,N⟩
              case measure=>simp [intOf];omega
             ·have b5:(qs qg==0)=false:=(by simpa using fun e=>F (Z7.1 e));clear F;have aw:=R.below o;have dd:=cell_later o y0;have de:=cell_later o q0;have df:=cell_later o q1;have dg:=cell_later o q2;have dh:=cell_later o q3;have cb:Hid (∀s,s < r→G1 s < w5.heap.size):=Lib.hid fun s hs=>(N.lt hs (by omega)).2.1
              clear y0 q0 q1 q2 q3 R hM d o;obtain ⟨W6,ds,a7,P⟩:=YZ w5 (.bool (canF qg).num.neg) (.slice A3 n3 c3) (.bool (canF qg).den.neg) (.slice A4 n4 c4);have cc:=N.below P;have cd:=aw.below P;have y:=Za H P H.size;have ax:MatG w.heap.size W6 (.slice (some ⟨go,0,none⟩) r ca) r (r+1) (elimTo (Xa M2 k s r) k s k qg) G1 C1:=(by rw [elimTo_start];exact cc);go_wp2;clear ds dd de df dg dh aw N cc P H
              go_loopw [18] (fun i wx=>∃c':Nat,k≤c'∧c'≤r+1∧i= .int .i64 c'∧Below w.heap.size w wx∧MatG w.heap.size wx (.slice (some ⟨go,0,none⟩) r ca) r (r+1) (elimTo (Xa M2 k s r) k s c' qg) G1 C1∧Bk wx w5.heap.size 48 [.bool (canF qg).num.neg,.slice A3 n3 c3,.bool (canF qg).den.neg,.slice A4 n4 c4]∧Zv wx (.agg #[.bool (canF qg).num.neg,.slice A3 n3 c3,.bool (canF qg).den.neg,.slice A4 n4 c4]) (canF qg)) (fun i _=>r+1 - (intOf i).toNat)
              case atStart=>exact ⟨k,by omega,by omega,rfl,y,ax,a7,cd⟩
              case round=>
               clear y ax a7 cd;obtain ⟨c',bg,dr,rfl,d,hM,a7,R⟩:=hrel;rcases Nat.lt_or_ge c' (r+1) with hcm | hcm
               ·have y0:=(hM.cellAt hsm).1;have x0:=(hM.cellAt hkr).1;obtain ⟨A5,n5,c5,A6,n6,c6,⟨q0,q1,q2,q3⟩,ab⟩:=hM.at_ hsm hcm;obtain ⟨A7,n7,c7,A8,n8,c8,⟨p0,p1,p2,p3⟩,bh⟩:=hM.at_ hkr hcm;obtain ⟨z0,z1,z2,z3⟩:=a7.four;have ai:=Lib.hid (elimTo_next (M:=Xa M2 k s r) (g:=qg) bg ac);have ea:elimTo (Xa M2 k s r) k s c' qg s c'=M2 s c':=(by unfold elimTo;rw [if_neg (by omega),elimAll_at]);have ek:elimTo (Xa M2 k s r) k s c' qg k c'=M2 k c':=(by rw [elimTo_row ac,Zct]);rw [ea] at q0 q2 ab ai;rw [ek] at p0 p2 bh ai;have ce:=au.out s c' hsm hcm ac;have bc:=bv.out c' hcm;have cf:=We c9.out bc;simp only [U3] at y0 x0;generalize M2 s c'=qa at *;generalize M2 k c'=qk at *;have b6:(canF qa).Sh:=ce.sh (by omega);have di:(canF qk).Sh:=bc.sh (by omega);have dj:(canF (qg * qk)).Sh:=cf.sh (by omega);have da:(c':Int) < ((r+1:Nat):Int):=(by omega);have bt:(c':Int) < (r:Int)+1:=(by omega);have bu:(c':Int)≤r:=(by omega);clear ce bc cf ea ek;go_wp2_with fail;have Y0:=Zm y0;have X0:=Zm x0;have Q0:=Zm q0;have Q1:=Zm q1;have Q2:=Zm q2;have Q3:=Zm q3;have P0:=Zm p0;have P1:=Zm p1;have P2:=Zm p2;have P3:=Zm p3;have Z0:=Zm z0;have Z1:=Zm z1;have Z2:=Zm z2;have Z3:=Zm z3;have I:=Ze wr;clear y0 x0 q0 q1 q2 q3 p0 p1 p2 p3 z0 z1 z2 z3;refine Zo 23 [0,1,2,3,4,5,6,7,8,9,10,11,12,13,14,15,16,17,18,19,20,21,22,23] (by kernel_rfl) (by kernel_rfl) ?_;repeat ((first | (refine Zc (v:=?_) rfl rfl rfl ?_ ?_;rotate_left;(· (intro _ n;go_simp;(try go_bits);(try with_reducible rfl)))) | (refine Zg (v:=?_) rfl rfl rfl ?_ ?_;rotate_left;(· (intro _ n;go_simp;(try go_bits);(try with_reducible rfl)))) | refine Zh rfl rfl rfl ?_);(try simp only [Act.put,pu1,pu2,pu3,pu4,pu5,pu6]))
                refine Zf rfl rfl (fun KR hKR=>?_);go_simp;(with_reducible refine (rmulF_own _ _ (canF qg) (canF qk) _ (R.below I) (bh.below I) c0 di).mono ?_);rw [Zt,Zt];rintro _ w8 ⟨v8,rfl,e8,cq⟩;have ak:=Za I cq I.size;refine hKR.out _ _ (Or.inr ak) ?_;clear hKR KR;(try simp only [Act.put,pu1,pu2,pu3,pu4,pu5,pu6]);repeat ((first | (refine Zc (v:=?_) rfl rfl rfl ?_ ?_;rotate_left;(· (intro _ n;go_simp;(try go_bits);(try with_reducible rfl)))) | (refine Zg (v:=?_) rfl rfl rfl ?_ ?_;rotate_left;(· (intro _ n;go_simp;(try go_bits);(try with_reducible rfl)))) | refine Zh rfl rfl rfl ?_);(try simp only [Act.put,pu1,pu2,pu3,pu4,pu5,pu6]))
                refine Zf rfl rfl (fun KR hKR=>?_);go_simp;(with_reducible refine (rsubF_own _ _ (canF qa) (canF (qg * qk)) _ (ab.below ak) e8.frac b6 dj).mono ?_);rw [Zt,Zt];rintro _ w9 ⟨v9,rfl,e9,an⟩;have z:=Za ak an ak.size;have O:=hM.below z;have a0:=e9.frac;obtain ⟨E,l9,k9,E',a5,a6,rfl,_,_⟩:=id a0;obtain ⟨f0,f1,f2,f3⟩:=O.frozen hsm hcm;obtain ⟨_,_,_,_,_,_,⟨t0,t1,t2,t3⟩,_⟩:=O.at_ hsm hcm;refine hKR.out _ _ (Or.inr z) ?_;clear hKR KR;(try simp only [Act.put,pu1,pu2,pu3,pu4,pu5,pu6]);repeat ((first | (refine Zc (v:=?_) rfl rfl rfl ?_ ?_;rotate_left;(· (intro _ n;go_simp;(try go_bits);(try with_reducible rfl)))) | (refine Zg (v:=?_) rfl rfl rfl ?_ ?_;rotate_left;(· (intro _ n;go_simp;(try go_bits);(try with_reducible rfl)))) | refine Zh rfl rfl rfl ?_);(try simp only [Act.put,pu1,pu2,pu3,pu4,pu5,pu6]))
                refine Zf rfl rfl (fun KR hKR=>?_);go_simp;refine hKR.out _ _ (Or.inl (by decide)) ?_;clear hKR KR;(try simp only [Act.put,pu1,pu2,pu3,pu4,pu5,pu6]);refine Zy ?_;obtain ⟨X,Y⟩:=O.set_ hsm hcm a0;rw [ai.out] at X;have U:=Za d z d.size;have a3:=ZA U (show w.heap.size≤G1 s from (hM.lt hsm (by omega)).1) (c' * 4) (c' * 4+1) (c' * 4+2) (c' * 4+3) (.bool (canF (qa - qg * qk)).num.neg) (.slice E l9 k9) (.bool (canF (qa - qg * qk)).den.neg) (.slice E' a5 a6);have bd:=(a7.later z).far4' (show w5.heap.size≠G1 s by have:=cb.out s hsm;omega) (c' * 4) (c' * 4+1) (c' * 4+2) (c' * 4+3) (.bool (canF (qa - qg * qk)).num.neg) (.slice E l9 k9) (.bool (canF (qa - qg * qk)).den.neg) (.slice E' a5 a6);have be:=(R.below z).keep (Y.keep (by decide));clear Y0 X0 Q0 Q1 Q2 Q3 P0 P1 P2 P3 Z0 Z1 Z2 Z3 hM a7 R O I ak z cq an a0 e8 e9 f0 f1 f2 f3 t0 t1 t2 t3 ab bh d U Y;go_wp2;go_roundw
                case rel=>exact ⟨c'+1,by omega,by omega,by go_num,a3,X,bd,be⟩
                case measure=>simp [intOf];omega
               ·have aj:c'=r+1:=(by omega);rw [aj,av.out] at hM;clear a7 R aj;go_wp2;go_roundw
                case rel=>exact ⟨s+1,by omega,by go_num,d,hM⟩
                case measure=>simp [intOf];omega
           ·obtain rfl:s=r:=by omega
            go_wp2;go_roundw
            case rel=>exact ⟨k+1,_,G1,C1,by omega,by go_num,d,db.out,hM⟩
            case measure=>simp [intOf];omega
      ·obtain rfl:t=r:=by omega
       have HN:Hid (Y4 t cols b=none):=Lib.hid (solveQ_fail hkr ae.out (findP_none HZ.out));go_wp2;go_ret2;exact ⟨_,by rw [HN.out];rfl,by rw [Zsq HN.out];exact Yi.nil _ _,Za d l d.size⟩
    ·obtain rfl:k=r:=by omega
     obtain ⟨wP,rfl⟩:∃x,x=wr:=⟨_,rfl⟩;have HD:=Lib.hid (solveQ_done ae.out);go_wp2
     go_loopw [19,20] (fun s i wx=>∃j:Nat,j≤k∧i= .int .i64 j∧Yi wP.heap.size wx s (Yl j fun j=>M j k)∧Below wP.heap.size wP wx) (fun _ i _=>k - (intOf i).toNat)
     case atStart=>exact ⟨0,by omega,rfl,Yi.nil _ _,Below.refl _ _⟩
     case round=>
      obtain ⟨j,hj,rfl,hF,l⟩:=hrel;have az:=l.size;rcases Nat.lt_or_ge j k with hjk | hjk
      ·have Z:=hM.below l;obtain ⟨go,co,bf,am,ck,cl,cm,a4⟩:=Z.outer (by omega);injection bf with hv1 hv2 hv3;subst hv1 hv3;have y0:=(Z.cellAt hjk).1;obtain ⟨A1,n1,c1,A2,n2,c2,⟨q0,q1,q2,q3⟩,hQ⟩:=Z.at_ hjk (show k < k+1 by omega);simp only [U3] at y0;have HF:=Lib.hid hF;have a9:=Lib.hid hQ;have S:(Yl j fun j=>M j k).length+1≤1099511627776:=(by rw [Zn];omega);have e6:(j:Int) < k:=(by omega);have b0:(k:Int) < ((k+1:Nat):Int):=(by omega);have ap:(k:Int) < (k:Int)+1:=(by omega);clear hF hQ a4;go_wp2_with (at_builtin;refine wpList_append_frac rfl (.tmp 179) (.tmp 187) rfl wr wP.heap.size u19 (Yl j fun j=>M j k) rfl HF.out _ _ A1 A2 n1 c1 n2 c2 (canF (M j k)) a9.out rfl S az ?_);intro v' w4 J dt bi;rw [canL_succ j fun j=>M j k] at J;go_wp2;go_roundw
       case rel=>exact ⟨j+1,by omega,by go_num,J,l.trans bi⟩
       case measure=>simp [intOf];omega
      ·obtain rfl:j=k:=by omega
       go_wp2;go_ret2;refine ⟨_,by rw [HD.out];rfl,?_,Za d l d.size⟩;rw [Zds HD.out];obtain ⟨cs,ho,hf⟩:=hF;exact ⟨cs,Vi ho d.size,hf⟩
namespace Pl
theorem LPd.Fit.ks {p:LPd} {K:Nat} (h:p.Fit K):5^p.right.length * K≤8589934592:=by
 have h2:=h.2.2.2.2.2.2;omega
theorem LPd.Fit.in_ {p:LPd} {K:Nat} (h:p.Fit K):p.In:=h.2.1
theorem LPd.Fit.rows {p:LPd} {K:Nat} (h:p.Fit K):p.right.length≤64:=h.2.2.1
theorem Sz_mat {p:LPd} {K:Nat} (h:p.Fit K) (s:LSt) (i r:Nat):Sz K (s.mat p i r):=LPd.Sz_col h.ok h.k1 _ _
theorem artN_next {s:LSt} {zs:List RF} {k:Nat} (h:Zbm s zs k=false) (h2:¬s.at_ k < 0∨qAt zs k=0):Zbm s zs (k+1)=false:=by
 unfold Zbm;rw [h];rcases h2 with e | e
 ·simp [e]
 ·simp [e]
theorem solF_len {m:Nat} {cols:Mx} {b:Nat→Rat}:(Zkh m cols b).length≤m:=by
 unfold Zkh;split
 ·rw [Zn];exact Nat.le_refl _
 ·simp
end Pl
theorem rartificial_any (v1 v2:Value) (s:LSt) (zs:List RF) (w:World) (h1:StM w v1 s) (h2:WL w v2 zs) (hl:zs.length≤s.basis.length) (hz:∀(i:Nat) (f:RF),zs[i]? =some f→f.Sh):
 Calls Tryz.prog 74 #[v1,v2] w fun e w'=>e= .returned (.bool (Zbm s zs zs.length))∧Below w.heap.size w w':=by
 obtain ⟨Ab,nb,cb,rfl,hI⟩:=id h1;obtain ⟨W,hW,hS,a⟩:=Vu w (.int .i64 s.phase) (.slice Ab nb cb) (.int .i64 s.pivots);obtain ⟨b1,b2,b3⟩:=hI.len;obtain ⟨Az,cz,rfl,u,v⟩:=h2.shape;have HI:=Lib.hid hI;have H2:=Lib.hid h2;have HZ:=Lib.hid hz;generalize hn:zs.length=N at *;have HN:=Lib.hid hn;have r:N≤nb:=by omega
 clear h1 h2 hI hz hn hl b1;go_enter Tryz.func74,Tryz.ntmps74;go_wp2;clear hW
 go_loopw [5] (fun i wr=>∃k:Nat,k≤N∧i= .int .i64 k∧Below w.heap.size w wr∧Bk wr w.heap.size 29 [.int .i64 s.phase,.slice Ab nb cb,.int .i64 s.pivots]∧Zbm s zs k=false) (fun i _=>N - (intOf i).toNat)
 case atStart=>exact ⟨0,by omega,rfl,a,hS,rfl⟩
 case round=>
  clear a hS;obtain ⟨k,hk,rfl,a,hS,ha⟩:=hrel;have HA:=Lib.hid ha;clear ha;obtain ⟨y0,y1,y2⟩:=hS.three;rcases Nat.lt_or_ge k N with hkl | hkl
  ·obtain ⟨bb,bo,z,rfl,x,g,z0,z1⟩:=(HI.out.below a).at_ (show k < nb by omega);obtain ⟨f,hf⟩:=Yt (fs:=zs) (i:=k) (by rw [HN.out];exact hkl);obtain ⟨b,y,B1,n1,k1,B2,n2,k2,rfl,A,⟨q0,q1,q2,q3⟩,o⟩:=H2.out.elem a hf;have l:=HZ.out k f hf;have h:=Lib.hid (LSt.at_eq g);have HQ:=Lib.hid (Yv hf);have t:(k:Int) < nb:=(by omega);have p:(k:Int) < N:=(by omega);clear g hf;rcases Int.lt_or_le z 0 with hz0 | hz0
   ·go_wp2_with fail;refine (rsignF_any _ f _ o l).mono ?_;rintro _ w5 ⟨rfl,j⟩;have m:=hS.later j;have d:=Za a j a.size;by_cases hq:f.q=0
    ·have n:(qs f.q !=0)=false:=(by rw [hq];decide);have c:=Lib.hid (artN_next HA.out (Or.inr (by rw [HQ.out,hq])));clear hq;go_wp2;go_roundw
     case rel=>exact ⟨k+1,by omega,by go_num,d,m,c.out⟩
     case measure=>simp [intOf];omega
    ·have n:(qs f.q !=0)=true:=(by simpa using fun e=>hq (Z7.1 e));have c:Hid (Zbm s zs N=true):=Lib.hid (Zdu (by rw [h.out];exact hz0) (by rw [HQ.out];exact hq) hkl);clear hq;go_wp2;go_ret;exact ⟨by rw [c.out];rfl,d⟩
   ·have c:=Lib.hid (artN_next (zs:=zs) HA.out (Or.inl (by rw [h.out];omega)));go_wp2;go_roundw
    case rel=>exact ⟨k+1,by omega,by go_num,a,hS,c.out⟩
    case measure=>simp [intOf];omega
  ·obtain rfl:k=N:=by omega
   go_wp2;go_ret;exact ⟨by rw [HA.out];rfl,a⟩
theorem rbasic_own (v1 v2:Value) (p:LPd) (s:LSt) (K:Nat) (w:World) (h:LpM w v1 p) (h2:StM w v2 s) (F:p.Fit K) (S:s.Fit p):
 Calls Tryz.prog 60 #[v1,v2] w fun e w'=>∃v',e= .returned (.tuple #[v',.bool (zOk p s)])∧Yi w.heap.size w' v' (zL p s)∧Below w.heap.size w w':=by
 obtain ⟨A,n,c,A',n',c',D,E,G,rfl,hc,hv,hr⟩:=id h;obtain ⟨Ab,nb,cb,rfl,hI⟩:=id h2;obtain ⟨W,hW,m,g⟩:=UV w (.slice A n c) (.slice A' n' c') (.slice D E G);obtain ⟨W1,H,b,i⟩:=Vu W (.int .i64 s.phase) (.slice Ab nb cb) (.int .i64 s.pivots);have hX:=m.later i;have d:=Za g i g.size;obtain ⟨b1,b2,b3⟩:=hI.len;have o:W.heap.size=w.heap.size+1:=by rw [← hW];simp
 rw [o] at b;have q:=Lib.hid h;have t:=Lib.hid h2;have HI:=Lib.hid hI;have a:=Lib.hid F;have k:=Lib.hid S;have u:=Lib.hid b1;have x:Hid (nb=p.right.length):=Lib.hid (by rw [b1];exact S.2);have L:nb≤64:=by rw [x.out];exact F.2.2.1
 obtain ⟨x0,x1,x2⟩:=hX.three;obtain ⟨y0,y1,y2⟩:=b.three;have y:=Lib.hid hr;clear h h2 hc hv hr b1 hI m g i F S;have z:Hid (s.basis.length≤1000):=Lib.hid (by rw [← u.out];omega);have B:Hid (p.right.length≤1000):=Lib.hid (by have:=a.out.rows;omega);go_enter Tryz.func60,Tryz.ntmps60;go_wp2_with fail;clear hW H;have C0:=Zm x0;have C1:=Zm x1;have C2:=Zm x2;have D0:=Zm y0;have D1:=Zm y1;have D2:=Zm y2;have b:=Ze W1;clear x0 x1 x2 y0 y1 y2;refine Zo 10 [0,1,3,4,2,5,6,7,8,9] (by kernel_rfl) (by kernel_rfl) ?_;repeat ((first | (refine Zc (v:=?_) rfl rfl rfl ?_ ?_;rotate_left;(· (intro _ j;go_simp;(try go_bits);(try with_reducible rfl)))) | (refine Zg (v:=?_) rfl rfl rfl ?_ ?_;rotate_left;(· (intro _ j;go_simp;(try go_bits);(try with_reducible rfl)))) | refine Zh rfl rfl rfl ?_);(try simp only [Act.put,pu1,pu2,pu3,pu4,pu5,pu6]))
 refine Zf rfl rfl (fun KR hKR=>?_);go_simp;with_reducible refine (rmatrix_own _ _ p s K _ ((q.out.below d).below b) ((t.out.below d).below b) a.out.ok a.out.kb a.out.in_ k.out.in_ a.out.rows z.out).mono ?_
 rw [k.out.len];rintro _ w5 ⟨v5,rfl,e5,I⟩;have f:=Za b I b.size;refine hKR.out _ _ (Or.inr f) ?_;clear hKR KR;(try simp only [Act.put,pu1,pu2,pu3,pu4,pu5,pu6]);repeat ((first | (refine Zc (v:=?_) rfl rfl rfl ?_ ?_;rotate_left;(· (intro _ j;go_simp;(try go_bits);(try with_reducible rfl)))) | (refine Zg (v:=?_) rfl rfl rfl ?_ ?_;rotate_left;(· (intro _ j;go_simp;(try go_bits);(try with_reducible rfl)))) | refine Zh rfl rfl rfl ?_);(try simp only [Act.put,pu1,pu2,pu3,pu4,pu5,pu6]))
 refine Zf rfl rfl (fun KR hKR=>?_);go_simp;with_reducible refine (rsolve_own _ _ p.right.length (s.mat p) p.right K _ e5 ((y.out.below d).below f) rfl (fun r c _ _=>Sz_mat a.out s c r) a.out.rs a.out.k1 a.out.ks B.out).mono ?_
 rintro _ w6 ⟨v6,rfl,e6,J⟩;have l:=Za f J f.size;refine hKR.out _ _ (Or.inr l) ?_;clear hKR KR;(try simp only [Act.put,pu1,pu2,pu3,pu4,pu5,pu6]);repeat ((first | (refine Zc (v:=?_) rfl rfl rfl ?_ ?_;rotate_left;(· (intro _ j;go_simp;(try go_bits);(try with_reducible rfl)))) | (refine Zg (v:=?_) rfl rfl rfl ?_ ?_;rotate_left;(· (intro _ j;go_simp;(try go_bits);(try with_reducible rfl)))) | refine Zh rfl rfl rfl ?_);(try simp only [Act.put,pu1,pu2,pu3,pu4,pu5,pu6]))
 refine Zy ?_;clear C0 C1 C2 D0 D1 D2;have C:=Za d l d.size;have M:=f.size;go_wp2;go_ret2;refine ⟨_,rfl,?_,C⟩;obtain ⟨cs,ho,hf⟩:=e6;exact ⟨cs,Vi ho (by have:=d.size;omega),hf⟩
section
namespace Pl
section
variable {p:LPd} {s:LSt}
theorem zL_at (h:zOk p s=true) {i:Nat} (hi:i < p.right.length):(zL p s)[i]? =some (canF (qAt (zL p s) i)):=by
 unfold zOk at h;obtain ⟨x,hx⟩:=Option.isSome_iff_exists.1 h;unfold zL;rw [Zds hx,ZC hi,YL hi]
theorem zL_len (h:zOk p s=true):(zL p s).length=p.right.length:=by
 unfold zOk at h;obtain ⟨x,hx⟩:=Option.isSome_iff_exists.1 h;unfold zL;rw [Zds hx,Zn]
end
end Pl
theorem Xu.all {w:World} {A:Option Addr} {n c:Nat} {zs:List Int} (h:Xu w (.slice A n c) zs) (hn:0 < n):∃b off,A=some ⟨b,off,none⟩∧∀i,i < n→w.cell? ⟨b,off+i,none⟩=some (.int .i64 (zs.getD i 0)):=by
 obtain ⟨a,cap,h1,h2,h3,h4,h5⟩:=h;injection h1 with e1 e2 e3;subst e1 e2;obtain ⟨b,off,g1,g2⟩:=h4 hn;exact ⟨b,off,g1,g2⟩
theorem rvalidateState_any (v1 v2:Value) (p:LPd) (s:LSt) (K:Nat) (w:World) (h:LpM w v1 p) (h2:StM w v2 s) (F:p.Fit K) (hz:lpErr p=0):
 Calls Tryz.prog 39 #[v1,v2] w fun e w'=>e= .returned (.int .i64 (vsErr p s))∧Below w.heap.size w w':=by
 obtain ⟨A,n,c,A',n',c',J,R,L,rfl,hc,hv,hr⟩:=id h;obtain ⟨Ab,nb,cb,rfl,hI⟩:=id h2;obtain ⟨W,hW,ac,M⟩:=UV w (.slice A n c) (.slice A' n' c') (.slice J R L);obtain ⟨W1,aw,S,g⟩:=Vu W (.int .i64 s.phase) (.slice Ab nb cb) (.int .i64 s.pivots);have hX:=ac.later g;have d:=Za M g M.size;obtain ⟨b1,b2,b3⟩:=hI.len;have ag:W.heap.size=w.heap.size+1:=by rw [← hW];simp
 rw [ag] at S;have a0:=Lib.hid h;have a1:=Lib.hid h2;have HI:=Lib.hid hI;have x:=Lib.hid F;have a2:=Lib.hid b1;obtain ⟨x0,x1,x2⟩:=hX.three;obtain ⟨y0,y1,y2⟩:=S.three;obtain ⟨m1,m2,m3⟩:=hv.len;obtain ⟨r1,r2,r3⟩:=hr.len;have X:=Lib.hid m1;have l:=Lib.hid r1;have ah:=Lib.hid hz;clear hz m1 r1;clear h h2 hc hv hr b1 hI ac M g F;have b0:n'≤1200:=by rw [X.out];exact x.out.cols
 have b4:R≤64:=by rw [l.out];exact x.out.rows
 have a3:Hid (∀(i:Nat) (f:RF),(zL p s)[i]? =some f→f.Sh):=Lib.hid fun i f hf=>(Ycm x.out s i f hf).sh (by have:=x.out.ks;omega)
 go_enter Tryz.func39,Tryz.ntmps39;go_wp2_with fail;clear hW aw;refine (rvalidate_any _ p K _ (a0.out.below d) x.out.ok x.out.kb).mono ?_;rw [ah.out];rintro _ w1 ⟨rfl,T⟩;have C:=hX.later T;have E:=S.later T;have g:=Za d T d.size;obtain ⟨x0,x1,x2⟩:=C.three;clear hX S d T;go_wp2_with fail;have C0:=Zm x0;have C1:=Zm x1;have C2:=Zm x2;refine Zo 8 [0,1,2,3,4,5,6,7] (by kernel_rfl) (by kernel_rfl) ?_;repeat ((first | (refine Zc (v:=?_) rfl rfl rfl ?_ ?_;rotate_left;(· (intro _ O;go_simp;(try go_bits);(try with_reducible rfl)))) | (refine Zg (v:=?_) rfl rfl rfl ?_ ?_;rotate_left;(· (intro _ O;go_simp;(try go_bits);(try with_reducible rfl)))) | refine Zh rfl rfl rfl ?_);(try simp only [Act.put,pu1,pu2,pu3,pu4,pu5,pu6]))
 refine Zy ?_;clear C0 C1 C2 x0 x1 x2;replace C:=C.drew;replace E:=E.drew;replace g:=g.drew;generalize w1.drew=wd at *;obtain ⟨x0,x1,x2⟩:=C.three;obtain ⟨y0,y1,y2⟩:=E.three;by_cases hl:nb=R
 ·have m:Hid (s.basis.length=p.right.length):=Lib.hid (by rw [← a2.out,← l.out];exact hl);subst hl;have a4:s.phase < 1∨2 < s.phase∨s.pivots < 0∨(1≤s.phase∧s.phase≤2∧0≤s.pivots):=by omega
  rcases a4 with hq | hq | hq | ⟨ha1,ha2,ha3⟩
  ·have HR:=Lib.hid (Ycv m.out (.inl hq));go_wp2;go_ret;exact ⟨ret_int' HR.out,g⟩
  ·have HR:=Lib.hid (Ycv m.out (.inr (.inl hq)));have b5:¬s.phase < 1:=(by omega);go_wp2;go_ret;exact ⟨ret_int' HR.out,g⟩
  ·have HR:=Lib.hid (Ycv m.out (.inr (.inr hq)));rcases Int.lt_or_le s.phase 1 with hp1 | hp1
   ·go_wp2;go_ret;exact ⟨ret_int' HR.out,g⟩
   ·rcases Int.lt_or_le 2 s.phase with u | u
    ·go_wp2;go_ret;exact ⟨ret_int' HR.out,g⟩
    ·go_wp2;go_ret;exact ⟨ret_int' HR.out,g⟩
  ·have r:Hid (¬(s.phase < 1∨2 < s.phase∨s.pivots < 0)):=Lib.hid (by omega);go_wp2;clear x0 x1 x2 y0 y1 y2
   go_loopw [8] (fun i wr=>∃k:Nat,k≤nb∧i= .int .i64 k∧Below w.heap.size w wr∧Bk wr w.heap.size 26 [.slice A n c,.slice A' n' c',.slice J nb L]∧Bk wr (w.heap.size+1) 29 [.int .i64 s.phase,.slice Ab nb cb,.int .i64 s.pivots]∧∀i,i < k→ -(nb:Int)≤s.at_ i∧s.at_ i < n') (fun i _=>nb - (intOf i).toNat)
   case atStart=>exact ⟨0,by omega,rfl,g,C,E,fun i hi=>by omega⟩
   case round=>
    clear g C E;obtain ⟨k,hk,rfl,d,hX,hS,hg⟩:=hrel;have HG:=Lib.hid hg;clear hg;obtain ⟨x0,x1,x2⟩:=hX.three;obtain ⟨y0,y1,y2⟩:=hS.three;rcases Nat.lt_or_ge k nb with hkl | hkl
    ·obtain ⟨bb,bo,z,rfl,b9,o,z0,z1⟩:=(HI.out.below d).at_ hkl;have Y:=Lib.hid (LSt.at_eq o);have ai:(k:Int) < nb:=(by omega);clear o;rcases Int.lt_or_le z (-(nb:Int)) with h1 | h1
     ·have HR:Hid (vsErr p s=5):=Lib.hid (Zye m.out r.out fun hr=>by have:=(hr k (by rw [← l.out];exact hkl)).1;rw [Y.out,← l.out] at this;omega);go_wp2;go_ret;exact ⟨ret_int' HR.out,d⟩
     ·rcases Int.lt_or_le z n' with h2 | h2
      ·have D:Hid (∀i,i < k+1→ -(nb:Int)≤s.at_ i∧s.at_ i < n'):=Lib.hid fun i hi=>by
        rcases Nat.lt_or_ge i k with h | h
        ·exact HG.out i h
        ·obtain rfl:i=k:=by omega
         rw [Y.out];exact ⟨h1,h2⟩
       go_wp2;go_roundw
       case rel=>exact ⟨k+1,by omega,by go_num,d,hX,hS,D.out⟩
       case measure=>simp [intOf];omega
      ·have HR:Hid (vsErr p s=5):=Lib.hid (Zye m.out r.out fun hr=>by have:=(hr k (by rw [← l.out];exact hkl)).2;rw [Y.out,← X.out] at this;omega);go_wp2;go_ret;exact ⟨ret_int' HR.out,d⟩
    ·obtain rfl:nb=k:=by omega
     have y:Hid (Zns p s):=Lib.hid fun i hi=>by rw [← l.out] at hi ⊢;rw [← X.out];exact HG.out i hi
     clear HG x0 x1 x2 y0 y1 y2;go_wp2
     go_loopw [9] (fun i wr=>∃a:Nat,a≤nb∧i= .int .i64 a∧Below w.heap.size w wr∧Bk wr w.heap.size 26 [.slice A n c,.slice A' n' c',.slice J nb L]∧Bk wr (w.heap.size+1) 29 [.int .i64 s.phase,.slice Ab nb cb,.int .i64 s.pivots]∧∀i,i < a→∀j,j < i→s.at_ i≠s.at_ j) (fun i _=>nb - (intOf i).toNat)
     case atStart=>exact ⟨0,by omega,rfl,d,hX,hS,fun i hi=>by omega⟩
     case round=>
      clear d hX hS;obtain ⟨a,ba,rfl,d,hX,hS,hg⟩:=hrel;have HG:=Lib.hid hg;clear hg;rcases Nat.lt_or_ge a nb with hal | hal
      ·go_wp2
       go_loopw [10] (fun i wr=>∃b:Nat,b≤a∧i= .int .i64 b∧Below w.heap.size w wr∧Bk wr w.heap.size 26 [.slice A n c,.slice A' n' c',.slice J nb L]∧Bk wr (w.heap.size+1) 29 [.int .i64 s.phase,.slice Ab nb cb,.int .i64 s.pivots]∧∀j,j < b→s.at_ a≠s.at_ j) (fun i _=>a - (intOf i).toNat)
       case atStart=>exact ⟨0,by omega,rfl,d,hX,hS,fun j hj=>by omega⟩
       case round=>
        clear d hX hS;obtain ⟨b,bc,rfl,d,hX,hS,hg⟩:=hrel;have D:=Lib.hid hg;clear hg;rcases Nat.lt_or_ge b a with hba | hba
        ·obtain ⟨bb,bo,rfl,N⟩:=(HI.out.below d).all (show 0 < nb by omega);have c1:wr.cell? ⟨bb,bo+a,none⟩=some (.int .i64 (s.at_ a)):=N a hal;have c2:wr.cell? ⟨bb,bo+b,none⟩=some (.int .i64 (s.at_ b)):=N b (by omega);obtain ⟨y0,y1,y2⟩:=hS.three;have b6:(a:Int) < nb:=(by omega);have b7:(b:Int) < nb:=(by omega);have ay:(b:Int) < a:=(by omega);clear N;generalize ae:s.at_ a=za at *;generalize af:s.at_ b=zb at *;have a5:=Lib.hid ae;have a6:=Lib.hid af;clear ae af;have aj:=hX.drew;have ak:=hS.drew;have V:=d.drew;by_cases he:za=zb
         ·have al:(za==zb)=true:=(by simpa using he);have HR:Hid (vsErr p s=7):=Lib.hid (Ycw m.out r.out y.out fun hd=>hd a (by rw [← l.out];exact hal) b hba (by rw [a5.out,a6.out,he]));clear he;go_wp2_with fail;have C0:=Zm y0;have C1:=Zm y1;have C2:=Zm y2;have D1:=Zm c1;have D2:=Zm c2;clear y0 y1 y2 c1 c2;refine Zo 11 [0,1,2,3,4,5,6,7,8,9,10] (by kernel_rfl) (by kernel_rfl) ?_;repeat ((first | (refine Zc (v:=?_) rfl rfl rfl ?_ ?_;rotate_left;(· (intro _ O;go_simp;(try go_bits);(try with_reducible rfl)))) | (refine Zg (v:=?_) rfl rfl rfl ?_ ?_;rotate_left;(· (intro _ O;go_simp;(try go_bits);(try with_reducible rfl)))) | refine Zh rfl rfl rfl ?_);(try simp only [Act.put,pu1,pu2,pu3,pu4,pu5,pu6]))
          refine Zy ?_;go_wp2;go_ret;exact ⟨ret_int' HR.out,V⟩
         ·have al:(za==zb)=false:=(by simpa using he);have a7:Hid (∀j,j < b+1→za≠s.at_ j):=Lib.hid fun j hj=>by
           rcases Nat.lt_or_ge j b with h | h
           ·exact D.out j h
           ·obtain rfl:j=b:=by omega
            rw [a6.out];exact he
          have am:Hid (∀j,j < b+1→s.at_ a≠s.at_ j):=Lib.hid fun j hj=>by rw [a5.out];exact a7.out j hj
          clear he;go_wp2_with fail;have C0:=Zm y0;have C1:=Zm y1;have C2:=Zm y2;have D1:=Zm c1;have D2:=Zm c2;clear y0 y1 y2 c1 c2;refine Zo 11 [0,1,2,3,4,5,6,7,8,9,10] (by kernel_rfl) (by kernel_rfl) ?_;repeat ((first | (refine Zc (v:=?_) rfl rfl rfl ?_ ?_;rotate_left;(· (intro _ O;go_simp;(try go_bits);(try with_reducible rfl)))) | (refine Zg (v:=?_) rfl rfl rfl ?_ ?_;rotate_left;(· (intro _ O;go_simp;(try go_bits);(try with_reducible rfl)))) | refine Zh rfl rfl rfl ?_);(try simp only [Act.put,pu1,pu2,pu3,pu4,pu5,pu6]))
          refine Zy ?_;clear C0 C1 C2 D1 D2;go_wp2;go_roundw
          case rel=>exact ⟨b+1,by omega,by go_num,V,aj,ak,by first | exact am.out | exact a7.out⟩
          case measure=>simp [intOf];omega
        ·obtain rfl:a=b:=by omega
         have an:Hid (∀i,i < a+1→∀j,j < i→s.at_ i≠s.at_ j):=Lib.hid fun i hi j hj=>by
          rcases Nat.lt_or_ge i a with h | h
          ·exact HG.out i h j hj
          ·obtain rfl:i=a:=by omega
           exact D.out j hj
         go_wp2;go_roundw
         case rel=>exact ⟨a+1,by omega,by go_num,d,hX,hS,an.out⟩
         case measure=>simp [intOf];omega
      ·obtain rfl:nb=a:=by omega
       have G:Hid (Ztf p s):=Lib.hid fun i hi=>by rw [← l.out] at hi;exact HG.out i hi
       have ao:=Lib.hid (Yax m.out y.out);obtain ⟨x0,x1,x2⟩:=hX.three;obtain ⟨y0,y1,y2⟩:=hS.three;clear HG;go_wp2_with fail;refine (rbasic_own _ _ p s K _ (a0.out.below d) (a1.out.below d) x.out ao.out).mono ?_;rintro _ w5 ⟨v5,rfl,e5,U⟩;have a8:=hX.later U;have a9:=hS.later U;have H:=Za d U d.size;have P:=e5.frs;clear x0 x1 x2 y0 y1 y2 hX hS d U e5
       cases hzk:zOk p s with
       | false=>
        have HR:=Lib.hid (Yaw m.out r.out y.out G.out hzk);go_wp2;go_ret;exact ⟨ret_int' HR.out,H⟩
       | true=>
        have I:=Lib.hid hzk;have aa:Hid ((zL p s).length=nb):=Lib.hid (by rw [zL_len hzk,l.out]);obtain ⟨Az,cz,rfl,ax,bd⟩:=P.shape;rw [aa.out] at ax P ⊢;clear hzk;go_wp2
        go_loopw [13] (fun i wr=>∃k:Nat,k≤nb∧i= .int .i64 k∧Below w.heap.size w wr∧Bk wr w.heap.size 26 [.slice A n c,.slice A' n' c',.slice J nb L]∧Bk wr (w.heap.size+1) 29 [.int .i64 s.phase,.slice Ab nb cb,.int .i64 s.pivots]∧WL wr (.slice Az nb cz) (zL p s)∧∀i,i < k→¬qAt (zL p s) i < 0) (fun i _=>nb - (intOf i).toNat)
        case atStart=>exact ⟨0,by omega,rfl,H,a8,a9,P,fun i hi=>by omega⟩
        case round=>
         clear H a8 a9 P;obtain ⟨k,hk,rfl,d,hX,hS,hz,hg⟩:=hrel;have HG:=Lib.hid hg;clear hg;rcases Nat.lt_or_ge k nb with hkl | hkl
         ·have o:=zL_at I.out (show k < p.right.length by rw [← l.out];exact hkl);obtain ⟨b',az,B1,n1,k1,B2,n2,k2,rfl,be,⟨q0,q1,q2,q3⟩,ad⟩:=hz.elem (Below.refl _ _) o;have ap:=a3.out k _ o;have ai:(k:Int) < nb:=(by omega);generalize hq:qAt (zL p s) k=q at *;have HQ:=Lib.hid hq;clear hq o;go_wp2_with fail;refine (rsignF_any _ (canF q) _ ad ap).mono ?_;rw [Zt];rintro _ w7 ⟨rfl,B⟩;have aq:=hX.later B;have ar:=hS.later B;have au:=hz.below B;have t:=Za d B d.size;clear q0 q1 q2 q3 ad hX hS hz d B;rcases Int.lt_or_le (qs q) 0 with hqs | hqs
          ·have HR:Hid (vsErr p s=16):=Lib.hid (Zyf m.out r.out y.out G.out I.out fun hp=>hp k (by rw [← l.out];exact hkl) (by rw [HQ.out];exact Zda.1 hqs));go_wp2;go_ret;exact ⟨ret_int' HR.out,t⟩
          ·have D:Hid (∀i,i < k+1→¬qAt (zL p s) i < 0):=Lib.hid fun i hi=>by
            rcases Nat.lt_or_ge i k with h | h
            ·exact HG.out i h
            ·obtain rfl:i=k:=by omega
             rw [HQ.out];intro h9;have:=Zda.2 h9;omega
           go_wp2;go_roundw
           case rel=>exact ⟨k+1,by omega,by go_num,t,aq,ar,au,D.out⟩
           case measure=>simp [intOf];omega
         ·obtain rfl:nb=k:=by omega
          have Z:Hid (Zwx p s):=Lib.hid fun i hi=>by rw [← l.out] at hi;exact HG.out i hi
          obtain ⟨y0,y1,y2⟩:=hS.three;clear HG;by_cases u:s.phase=2
          ·have ab:(s.phase==2)=true:=(by simpa using u);have av:=Lib.hid u;clear u;go_wp2_with fail;refine (rartificial_any _ _ s (zL p s) _ (a1.out.below d) hz (by rw [aa.out,m.out,l.out];exact Nat.le_refl _) a3.out).mono ?_;rintro _ w7 ⟨rfl,B⟩;have t:=Za d B d.size
           cases ha:Zbm s (zL p s) (zL p s).length with
           | true=>
            have HR:=Lib.hid (Ycx m.out r.out y.out G.out I.out Z.out ⟨av.out,ha⟩);clear ha;go_wp2;go_ret;exact ⟨ret_int' HR.out,t⟩
           | false=>
            have HR:=Lib.hid (Ycy m.out r.out y.out G.out I.out Z.out (fun h=>by rw [ha] at h;exact absurd h.2 (by decide)));clear ha;go_wp2;go_ret;exact ⟨ret_int' HR.out,t⟩
          ·have ab:(s.phase==2)=false:=(by simpa using u);have HR:=Lib.hid (Ycy m.out r.out y.out G.out I.out Z.out (fun h=>u h.1));clear u;go_wp2;go_ret;exact ⟨ret_int' HR.out,d⟩
 ·have HR:Hid (vsErr p s=12):=Lib.hid (Ycu (by rw [← a2.out,← l.out];exact hl));have b8:((nb:Int) !=(R:Int))=true:=by simp;omega
  go_wp2;go_ret;exact ⟨ret_int' HR.out,g⟩
end
namespace Pl
def primN (s:LSt) (Z:List RF):Nat→Nat→Rat
 | 0=>fun _=>0
 | k+1=>fun j=>if s.at_ k=(j:Int) then qAt Z k else primN s Z k j
theorem primN_succ (s:LSt) (Z:List RF) (k j:Nat):primN s Z (k+1) j=if s.at_ k=(j:Int) then qAt Z k else primN s Z k j:=rfl
def primL (p:LPd) (s:LSt):List RF:=Yl p.cols.length (primN s (zL p s) (zL p s).length)
theorem primN_B {s:LSt} {Z:List RF} {K:Nat} (h:RsL K Z) (hK:1≤K):∀(k j:Nat),Sz K (primN s Z k j)
 | 0,j=>Sz_zero.mono hK
 | k+1,j=>by
  unfold primN
  split
  ·exact h.qAt hK k
  ·exact primN_B h hK k j
theorem primL_B {p:LPd} {K:Nat} (F:p.Fit K) (s:LSt):RsL (5^p.right.length * K) (primL p s):=Zgn fun i _=>primN_B (Ycm F s) (Nat.le_trans F.k1 F.le) _ i
end Pl
theorem rprimal_own (v1 v2:Value) (p:LPd) (s:LSt) (K:Nat) (w:World) (h:LpM w v1 p) (h2:StM w v2 s) (F:p.Fit K) (S:s.Fit p):
 Calls Tryz.prog 64 #[v1,v2] w fun e w'=>∃v',e= .returned v'∧Yi w.heap.size w' v' (primL p s)∧Below w.heap.size w w':=by
 obtain ⟨A,n,c,A',n',c',a3,a4,a5,rfl,hc,hv,hr⟩:=id h;obtain ⟨Ab,nb,cb,rfl,hI⟩:=id h2;obtain ⟨W,hW,a6,q⟩:=UV w (.slice A n c) (.slice A' n' c') (.slice a3 a4 a5);obtain ⟨W1,ap,u,r⟩:=Vu W (.int .i64 s.phase) (.slice Ab nb cb) (.int .i64 s.pivots);have hX:=a6.later r;have b:=Za q r q.size;obtain ⟨b1,b2,b3⟩:=hI.len;have ac:W.heap.size=w.heap.size+1:=by rw [← hW];simp
 rw [ac] at u;have ad:=Lib.hid h;have ae:=Lib.hid h2;have HI:=Lib.hid hI;have G:=Lib.hid F;have H:=Lib.hid S;have af:=Lib.hid b1;have I:Hid (nb=p.right.length):=Lib.hid (by rw [b1];exact S.2);have az:nb≤64:=by rw [I.out];exact F.2.2.1
 obtain ⟨x0,x1,x2⟩:=hX.three;obtain ⟨y0,y1,y2⟩:=u.three;obtain ⟨m1,m2,m3⟩:=hv.len;have C:=Lib.hid m1;clear h h2 hc hv hr b1 hI a6 q r F S;clear m1;have b0:n'≤1200:=by rw [C.out];exact G.out.cols
 go_enter Tryz.func64,Tryz.ntmps64;go_wp2_with fail;clear hW ap;refine (rbasic_own _ _ p s K _ (ad.out.below b) (ae.out.below b) G.out H.out).mono ?_;rintro _ w3 ⟨v3,rfl,e3,l⟩;have o:=hX.later l;have J:=u.later l;have m:=Za b l b.size;have D:=e3.frs;obtain ⟨Az,cz,rfl,b7,b8⟩:=D.shape;have ag:Hid ((zL p s).length≤nb):=Lib.hid (by rw [I.out];exact solF_len);have L:Hid (∀(k:Nat) (f:RF),(zL p s)[k]? =some f→f=canF (qAt (zL p s) k)):=Lib.hid fun k f hf=>Znt hf
 generalize aa:zL p s=Z at *;have ah:=Lib.hid aa;clear aa;generalize ab:Z.length=N at *;have M:=Lib.hid ab;have b4:N≤nb:=ag.out;clear ab;clear x0 x1 x2 y0 y1 y2;obtain ⟨x0,x1,x2⟩:=o.three;clear e3 l hX u b;go_wp2_with fail;refine (zeros_own n' _ (by omega)).mono ?_;rw [canL_zero,show (Yl n' fun _=>0)=Yl n' (primN s Z 0) from rfl];rintro _ w5 ⟨v5,rfl,e5,t⟩;have O:=o.later t;have P:=J.later t;have y:=Za m t m.size;have ai:=m.size;have aj:=Lib.hid D;have R:Hid (∃a d,v5= .slice a n' d∧n'≤d∧d≤9223372036854775807):=Lib.hid (by
  have:=e5.frs.shape;rw [Zn] at this;exact this)
 obtain ⟨A5,c5,rfl,aw,ax⟩:=R.out;clear x0 x1 x2 o J m D R;go_wp2
 go_loopw [8] (fun i wr=>∃k:Nat,k≤N∧i= .int .i64 k∧Below w.heap.size w wr∧Below w3.heap.size w3 wr∧Bk wr w.heap.size 26 [.slice A n c,.slice A' n' c',.slice a3 a4 a5]∧Bk wr (w.heap.size+1) 29 [.int .i64 s.phase,.slice Ab nb cb,.int .i64 s.pivots]∧Yi w3.heap.size wr (.slice A5 n' c5) (Yl n' (primN s Z k))) (fun i _=>N - (intOf i).toNat)
 case atStart=>exact ⟨0,by omega,rfl,y,t,O,P,e5⟩
 case round=>
  clear y t O P e5;obtain ⟨k,hk,rfl,b,l,hX,hS,hO⟩:=hrel;rcases Nat.lt_or_ge k N with hkl | hkl
  ·obtain ⟨f,hf⟩:=Yt (fs:=Z) (i:=k) (by rw [M.out];exact hkl);obtain ⟨bb,bo,rfl,B⟩:=(HI.out.below b).all (show 0 < nb by omega);have c1:wr.cell? ⟨bb,bo+k,none⟩=some (.int .i64 (s.at_ k)):=B k (by omega);obtain ⟨z',x⟩:∃z,s.basis[k]? =some z:=⟨_,List.getElem?_eq_getElem (by rw [← af.out];omega)⟩;obtain ⟨i0,i1⟩:=H.out.1 k z' x;rw [LSt.at_eq x] at c1;have T:=Lib.hid (LSt.at_eq x);obtain ⟨y0,y1,y2⟩:=hS.three;have b5:(k:Int) < N:=(by omega);have av:(k:Int) < nb:=(by omega);clear B x;rcases Int.lt_or_le z' 0 with hz0 | hz0
   ·have HP:Hid (Yl n' (primN s Z k)=Yl n' (primN s Z (k+1))):=Lib.hid (Z4 fun j _=>by rw [primN_succ,T.out,if_neg (by omega)]);have U:=hO;rw [HP.out] at U;go_wp2;go_roundw
    case rel=>exact ⟨k+1,by omega,by go_num,b,l,hX,hS,U⟩
    case measure=>simp [intOf];omega
   ·obtain ⟨b',ay,B1,n1,k1,B2,n2,k2,rfl,b9,⟨q0,q1,q2,q3⟩,aq⟩:=aj.out.elem l hf;obtain ⟨jn,rfl⟩:=Int.eq_ofNat_of_zero_le hz0;have E:jn < n':=(by have:=C.out;omega);have b6:(jn:Int) < n':=(by omega);have ak:=Lib.hid (L.out k f hf);obtain ⟨g,cg,a7,ar,ba,bc,bd⟩:=hO.shape (by rw [Zn];omega);rw [Zn] at a7;injection a7 with e1 e2 e3;subst e1 e3;have V:=hO.below (Ze wr);obtain ⟨_,_,_,_,⟨t0,t1,t2,t3⟩,⟨f0,f1,f2,f3⟩,_⟩:=V.at_ (ZC E);have al:=aq.below (Ze wr);have am:=hX.drew;have an:=hS.drew;have X:=b.drew;have Y:=l.drew;clear hf
    go_upto_region 7 with (fail)
    have C0:=Zm y0;have C1:=Zm y1;have C2:=Zm y2;have D1:=Zm c1;have Q0:=Zm q0;have Q1:=Zm q1;have Q2:=Zm q2;have Q3:=Zm q3;clear y0 y1 y2 c1 q0 q1 q2 q3;refine Zo 11 [0,1,2,3,4,5,6,7,8,9,10,11] (by kernel_rfl) (by kernel_rfl) ?_;generalize wr.drew=wD at *;repeat ((first | (refine Zc (v:=?_) rfl rfl rfl ?_ ?_;rotate_left;(· (intro _ au;go_simp;(try go_bits);(try with_reducible rfl)))) | (refine Zg (v:=?_) rfl rfl rfl ?_ ?_;rotate_left;(· (intro _ au;go_simp;(try go_bits);(try with_reducible rfl)))) | refine Zh rfl rfl rfl ?_);(try simp only [Act.put,pu1,pu2,pu3,pu4,pu5,pu6]))
    refine Zf rfl rfl (fun KR hKR=>?_);go_simp;refine hKR.out _ _ (Or.inl (by decide)) ?_;clear hKR KR;(try simp only [Act.put,pu1,pu2,pu3,pu4,pu5,pu6]);refine Zy ?_;obtain ⟨a8,a9⟩:=V.set_ (k:=jn) (by rw [Zn];exact E) al;have a0:Hid ((Yl n' (primN s Z k)).set jn f=Yl n' (primN s Z (k+1))):=Lib.hid (by
     rw [ak.out,Vh E];exact Z4 fun j _=>by
      rw [primN_succ,T.out];by_cases e:j=jn
      ·rw [if_pos e,if_pos (by omega)]
      ·rw [if_neg e,if_neg (by omega)])
    rw [a0.out] at a8;have o:=a9.bk am (by decide);have ao:=a9.bk an (by decide);have a1:=ZA X (show w.heap.size≤g by omega) (jn * 4) (jn * 4+1) (jn * 4+2) (jn * 4+3);have a2:=ZA Y ar (jn * 4) (jn * 4+1) (jn * 4+2) (jn * 4+3);go_wp2;go_roundw
    case rel=>exact ⟨k+1,by omega,by go_num,a1 _ _ _ _,a2 _ _ _ _,o,ao,a8⟩
    case measure=>simp [intOf];omega
  ·obtain rfl:N=k:=by omega
   go_wp2;go_ret;refine ⟨_,rfl,?_,b⟩;unfold primL;rw [ah.out,← C.out,M.out];obtain ⟨cs,ho,hf⟩:=hO;exact ⟨cs,Vi ho ai,hf⟩
namespace Pl
def rayN (t:LSt) (D:List RF) (j:Int):Nat→Nat→Rat
 | 0=>fun i=>if j=(i:Int) then 1 else 0
 | k+1=>fun i=>if t.at_ k=(i:Int) then -qAt D k else rayN t D j k i
def rayL (p:LPd) (t:LSt):List RF:=Yl p.cols.length (rayN t (Zau p t) (U9 p t) (Zau p t).length)
def extP (p:LPd) (t:LSt):Prf:=if XD p t=1 then ⟨1,primL p t,Ww p t,[]⟩ else if XD p t=2 then ⟨2,[],Ww p t,[]⟩ else if XD p t=3 then ⟨3,primL p t,[],rayL p t⟩ else ⟨0,[],[],[]⟩
def extE (p:LPd) (t:LSt):Int:=if XD p t=0 then 16 else 0
theorem statQ_cases (p:LPd) (t:LSt):XD p t=0∨XD p t=1∨XD p t=2∨XD p t=3:=by
 cases he:Zwy p t with
 | none=>rw [(Zaa he).1];split <;> omega
 | some j=>rw [(VT he).1];split <;> omega
theorem ext_2 {p:LPd} {t:LSt} (h:XD p t=2):extP p t=⟨2,[],Ww p t,[]⟩∧extE p t=0:=by unfold extP extE;rw [h];exact ⟨rfl,rfl⟩
end Pl
end Go.Proofs.YtncmobkhenfhpaaGreat
