/- Lemmas of the claim; no condition. -/
import Derived.Test.YtgbhebappffbdaaGreatFe2
set_option linter.all false
set_option maxRecDepth 100000
set_option maxHeartbeats 40000000
namespace Go.Proofs.YtgbhebappffbdaaGreat
open Go.RowKit
open Pl
attribute [local go_sem ↓] Go.wp_at_zero Go.wp_at_succ
theorem Bk.far4' {w:World} {g g':Nat} {t:TypeId} {cs:List Value} (h:Bk w g t cs) (hne:g≠g') (i j k l:Nat) (x y z u:Value):Bk ((((w.setCell ⟨g',i,none⟩ x).setCell ⟨g',j,none⟩ y).setCell ⟨g',k,none⟩ z).setCell ⟨g',l,none⟩ u) g t cs:=
 (((h.far (p:=⟨g',i,none⟩) hne x).far (p:=⟨g',j,none⟩) hne y).far (p:=⟨g',k,none⟩) hne z).far (p:=⟨g',l,none⟩) hne u
namespace Pl
theorem gj_fail {M:Mx} {m k:Nat} (h:gj M m k=none):∀d,gj M m (k+d)=none
 | 0=>h
 | d+1=>by rw [← Nat.add_assoc];unfold gj;rw [gj_fail h d]
theorem solveQ_fail {m k:Nat} {cols:Mx} {b:Nat→Rat} {M:Mx} (hk:k < m) (h:gj (Zie m cols b) m k=some M) (hf:Zgt M k m=none):Xa m cols b=none:=by
 have h1:gj (Zie m cols b) m (k+1)=none:=by unfold gj;rw [h];show VE M k m=none;unfold VE;rw [hf]
 have h2:=gj_fail h1 (m - (k+1));rw [show k+1+(m - (k+1))=m by omega] at h2;unfold Xa;rw [h2];rfl
theorem solveQ_done {m:Nat} {cols:Mx} {b:Nat→Rat} {M:Mx} (h:gj (Zie m cols b) m m=some M):Xa m cols b=some fun k=>M k m:=by unfold Xa;rw [h];rfl
theorem gj_next {m k t:Nat} {A M:Mx} (h:gj A m k=some M) (hf:Zgt M k m=some t):gj A m (k+1)=some (Xg (scaleTo (swapM M k t) k (m+1) (swapM M k t k k)) k m m):=by
 unfold gj;rw [h];show VE M k m=_;unfold VE;rw [hf]
theorem pow5_le {k m K:Nat} (h:k < m):5 * (5^k * K)≤5^m * K:=by
 have h1:5^(k+1)≤5^m:=Nat.pow_le_pow_right (by decide) h;have h2:=JS K h1;rw [Nat.pow_succ] at h2;grind
end Pl
theorem rsolve_own (v1 v2:Value) (m:Nat) (cols:Mx) (rs:List RF) (K:Nat) (w:World) (h1:ColsM w v1 m m cols) (h2:Xh w v2 rs) (hl:rs.length=m) (hc:∀r c,r < m→c < m→Sz K (cols c r)) (hr:RsL K rs) (hK:1≤K) (hs:5^m * K≤8589934592) (hm:m≤1000):
 Calls Tryz.prog 83 #[v1,v2] w fun e w'=>∃v',e= .returned (.tuple #[v',.bool (Xa m cols (qAt rs)).isSome])∧Z4 w.heap.size w' v' (Zif m cols (qAt rs))∧Below w.heap.size w w':=by
 obtain ⟨A,c,rfl,e7,eb⟩:=h1.shape;obtain ⟨Ar,cr,rfl,dk,ec⟩:=h2.shape;rw [hl] at dk h2 ⊢;have cy:Hid (MB m (m+1) K (Zie m cols (qAt rs))):=JZ (Ygg hc fun r _=>hr.qAt hK r);have cz:=JZ hr;have HL:=JZ hl;have HS:=JZ hs;have d0:Hid (K≤8589934592):=JZ (by have:=JS K (Nat.pow_le_pow_right (show 0 < 5 by decide) (Nat.zero_le m));simp at this;omega);have H1:=JZ h1;have H2:=JZ h2;clear hc hr hl hs h1 h2;generalize hb:qAt rs=b at *;have HB:=JZ hb;clear hb;go_enter Tryz.func83,Tryz.ntmps83;go_wp2
 go_loopw [7,8] (fun s i wr=>∃(r:Nat) (G C:Nat→Nat),r≤m∧i= .int .i64 r∧Below w.heap.size w wr∧MatG w.heap.size wr s r (m+1) (Zie m cols b) G C) (fun _ i _=>m - (intOf i).toNat)
 case atStart=>exact ⟨0,fun _=>0,fun _=>0,by omega,rfl,JR _ _,MatG.nil _ _ _ _ _ _⟩
 case round=>
  obtain ⟨r,G,C,hr,rfl,d,hM⟩:=hrel;obtain ⟨wO,rfl⟩:∃x,x=wr:=⟨_,rfl⟩;rcases JX r m with hrm | hrm
  ·go_wp2
   go_loopw [9,10] (fun s i wx=>∃k:Nat,k≤m∧i= .int .i64 k∧Z4 wO.heap.size wx s (Yj k (Zie m cols b r))∧Below wO.heap.size wO wx) (fun _ i _=>m - (intOf i).toNat)
   case atStart=>exact ⟨0,by omega,rfl,Z4.nil _ _,JR _ _⟩
   case round=>
    obtain ⟨k,hk,rfl,hF,l⟩:=hrel;have az:=l.size;rcases JX k m with aa | aa
    ·obtain ⟨bb,ed,B,cB,b',ch,A1,n1,c1,A2,n2,c2,rfl,ee,a4,e0,e1,_,⟨q0,q1,q2,q3⟩,al⟩:=H1.out.at_ (Za d l d.size) aa hrm;have HF:=JZ hF;have a9:=JZ al;have S:(Yj k (Zie m cols b r)).length+1≤1099511627776:=(by rw [Zm];omega);have HE:Hid (canF (cols k r)=canF (Zie m cols b r k)):=JZ (by unfold Zie;rw [if_pos aa]);have b0:(k:Int) < m:=(by omega);have d1:(r:Int) < m:=(by omega);clear hF al;go_wp2_with (at_builtin;refine wpList_append_frac rfl (.tmp 33) (.tmp 41) rfl wr wO.heap.size u9 (Yj k (Zie m cols b r)) rfl HF.out _ _ A1 A2 n1 c1 n2 c2 (canF (cols k r)) a9.out rfl S az ?_);intro v' w4 J dt bi;rw [HE.out,canL_succ] at J;go_wp2;go_roundw
     case rel=>exact ⟨k+1,by omega,by go_num,J,l.trans bi⟩
     case measure=>simp [intOf];omega
    ·obtain rfl:k=m:=by omega
     obtain ⟨f,hf⟩:=Yb (fs:=rs) (i:=r) (by rw [HL.out];exact hrm);obtain ⟨b',ch,B1,n1,k1,B2,n2,k2,rfl,_,⟨q0,q1,q2,q3⟩,al⟩:=H2.out.elem (Za d l d.size) hf;have d2:f.Sh:=(cz.out r f hf).sh (by have:=d0.out;omega);have HE:Hid (canF f.q=canF (Zie k cols b r k)):=JZ (by unfold Zie;rw [if_neg (by omega),← HB.out,Yo hf]);have d1:(r:Int) < k:=(by omega);clear hf;go_wp2_with fail;refine (Zfo _ f _ al d2).mono ?_;rw [HE.out];rintro _ w5 ⟨v5,rfl,e5,o⟩;have D:=Za l o l.size;have bk:=D.size;have HF:=JZ (hF.below o);have a9:=JZ e5.frac;have S:(Yj k (Zie k cols b r)).length+1≤1099511627776:=(by rw [Zm];omega);generalize hQ:canF (Zie k cols b r k)=Q at *;obtain ⟨E,l9,k9,E',a5,a6,rfl,_,_⟩:=id a9.out;clear hF al q0 q1 q2 q3 e5 l;go_wp2_with (at_builtin;refine wpList_append_frac rfl (.tmp 44) (.tmp 50) rfl w5 wO.heap.size u9 (Yj k (Zie k cols b r)) rfl HF.out _ _ E E' l9 k9 a5 a6 Q a9.out rfl S bk ?_);intro v' w6 L du ct;rw [← hQ,canL_succ] at L;clear hQ;have ad:=D.trans ct;obtain ⟨g,cg,rfl,ef,eg,dl,eh⟩:=L.shape (by rw [Zm];omega);rw [Zm] at L dl;have HM:=JZ (hM.below ad);have y:=Za d ad d.size;have bl:=y.size;have d3:Hid (Z4 w.heap.size w6 (.slice (some ⟨g,0,none⟩) (k+1) cg) (Yj (k+1) (Zie k cols b r))):=JZ (by obtain ⟨cs,ho,hf⟩:=L;exact ⟨cs,Wy ho d.size,hf⟩);have d4:Hid (∀s,s < r→G s≠g):=JZ fun s hs=>by have:=(hM.lt hs (by omega)).2.1;omega
     clear hM L D ad o ct du;rw [Zm];go_wp2_with (at_builtin;refine wpList_append_mat rfl (.tmp 43) (.tmp 52) rfl w6 w.heap.size u7 r (k+1) (Zie k cols b) G C rfl HM.out g cg d3.out d4.out rfl (by omega) bl ?_);intro v' w7 bj ej dv;go_wp2;go_roundw
     case rel=>exact ⟨r+1,_,_,by omega,by go_num,y.trans dv,bj⟩
     case measure=>simp [intOf];omega
  ·obtain rfl:r=m:=by omega
   obtain ⟨Aa,ca,rfl,ci,e2⟩:=hM.shape;generalize dw:Value.slice Aa r ca=va at *;go_wp2
   go_loopw [11] (fun i wr=>∃(k:Nat) (M:Mx) (G C:Nat→Nat),k≤r∧i= .int .i64 k∧Below w.heap.size w wr∧gj (Zie r cols b) r k=some M∧MatG w.heap.size wr va r (r+1) M G C) (fun i _=>r - (intOf i).toNat)
   case atStart=>exact ⟨0,_,G,C,by omega,rfl,d,rfl,hM⟩
   case round=>
    clear d hM;obtain ⟨k,M,G,C,hk,rfl,d,cj,hM⟩:=hrel;have ae:=JZ cj;clear cj;subst dw;rcases JX k r with hkr | hkr
    ·obtain ⟨go,co,bf,am,ck,cl,cm,a4⟩:=hM.outer (by omega);injection bf with hv1 hv2 hv3;subst hv1 hv3;have b3:=JZ (Ygq cy.out hk ae.out);have hκ:5 * (5^k * K)≤8589934592:=JW (pow5_le hkr) HS.out;generalize dx:5^k * K=κ at *;clear dx ci;obtain ⟨wP,rfl⟩:∃x,x=wr:=⟨_,rfl⟩;go_wp2
     go_loopw [12,13] (fun a i wx=>∃t:Nat,a= .int .i64 (-1)∧k≤t∧t≤r∧i= .int .i64 t∧Below wP.heap.size wP wx∧∀s,k≤s→s < t→M s k=0) (fun _ i _=>r - (intOf i).toNat)
     case atStart=>exact ⟨k,rfl,by omega,by omega,rfl,JR _ _,fun s h1 h2=>by omega⟩
     case round=>
      obtain ⟨t,rfl,dm,ei,rfl,l,hz⟩:=hrel;have HZ:=JZ hz;clear hz;rcases JX t r with htl | htl
      ·have Z:=hM.below l;have y0:=(Z.cellAt htl).1;obtain ⟨A1,n1,c1,A2,n2,c2,⟨q0,q1,q2,q3⟩,hQ⟩:=Z.at_ htl (show k < r+1 by omega);have bm:(canF (M t k)).Sh:=(b3.out t k htl (by omega)).sh (by omega);simp only [Zai] at y0;generalize hq:M t k=q at *;have b4:=JZ hq;clear hq;have b0:(k:Int) < ((r+1:Nat):Int):=(by omega);have ap:(k:Int) < (r:Int)+1:=(by omega);have e3:(t:Int) < r:=(by omega);go_wp2_with fail;refine (rsignF_any _ (canF q) _ hQ bm).mono ?_;rw [Zu];rintro _ w5 ⟨rfl,o⟩;clear y0 q0 q1 q2 q3 hQ Z;have D:=Za l o l.size;by_cases F:q=0
       ·have b5:(qs q !=0)=false:=(by rw [F];decide);have d5:Hid (∀s,k≤s→s < t+1→M s k=0):=JZ fun s h1 h2=>by
         rcases JX s t with h | h
         ·exact HZ.out s h1 h
         ·obtain rfl:s=t:=by omega
          rw [b4.out,F]
        clear F;go_wp2;go_roundw
        case rel=>exact ⟨t+1,rfl,by omega,by omega,by go_num,D,d5.out⟩
        case measure=>simp [intOf];omega
       ·have b5:(qs q !=0)=true:=(by simpa using fun e=>F (Yp.1 e));have bn:Hid (Zgt M k r=some t):=JZ (findP_some dm htl (by rw [b4.out];exact F) HZ.out);have N:=hM.below D;have af:=N.below (Zj w5);obtain ⟨n,cn⟩:=af.swap hkr htl;obtain ⟨y1,cp,ay⟩:=af.swap1 (u:=Zai (r+1) G C t) htl (k:=k);obtain ⟨a1,dn⟩:=af.cellAt hkr;obtain ⟨a2,dp⟩:=af.cellAt htl;have b1:=(N.cellAt hkr).1;have b2:=(N.cellAt htl).1;have T:=JZ (b3.out.swap hkr htl);simp only [Zai] at n cn cp ay a1 a2 b1 b2;generalize cu:swapM M k t=M1 at *;generalize swapF G k t=G1 at *;generalize swapF C k t=C1 at *;have bo:=JZ cu;have H:=Za d D d.size;have ag:=H.drew;clear cu F af N hM l o D HZ b4 bm d;go_wp2_with fail;have C0:=Zp b1;have d6:=Zp b2;clear b1 b2;refine Zq 13 [0,1,2,3,4,5,6,7,8,9,10,11,12,13,14,15] (by kernel_rfl) (by kernel_rfl) ?_;generalize dy:w5.drew=wD at *;clear dy;repeat ((first | (refine Zc (v:=?_) rfl rfl rfl ?_ ?_;rotate_left;(· (intro _ n;go_simp;(try go_bits);(try with_reducible rfl)))) | (refine Zg (v:=?_) rfl rfl rfl ?_ ?_;rotate_left;(· (intro _ n;go_simp;(try go_bits);(try with_reducible rfl)))) | refine Zh rfl rfl rfl ?_);(try simp only [Act.put,pu1,pu2,pu3,pu4,pu5,pu6]))
        refine Zd rfl rfl (fun KR hKR=>?_);go_simp;refine hKR.out _ _ (Or.inl (by decide)) ?_;clear hKR KR;(try simp only [Act.put,pu1,pu2,pu3,pu4,pu5,pu6]);generalize cv:wD.setCell ⟨go,k,none⟩ (.slice (some ⟨G t,0,none⟩) (r+1) (C t))=W1 at *;refine Zd rfl rfl (fun KR hKR=>?_);go_simp;refine hKR.out _ _ (Or.inl (by decide)) ?_;clear hKR KR;(try simp only [Act.put,pu1,pu2,pu3,pu4,pu5,pu6]);refine Zd rfl rfl (fun KR hKR=>?_);go_simp;refine hKR.out _ _ (Or.inl (by decide)) ?_;clear hKR KR;(try simp only [Act.put,pu1,pu2,pu3,pu4,pu5,pu6]);refine Zz ?_;have ah:=(ag.setCell (p:=⟨go,k,none⟩) am (.slice (some ⟨G t,0,none⟩) (r+1) (C t)));rw [cv] at ah;have y:=ah.setCell (p:=⟨go,t,none⟩) am (.slice (some ⟨G k,0,none⟩) (r+1) (C k));clear C0 d6 ah H ag cn cp ay a1 a2 dn dp cv;generalize W1.setCell ⟨go,t,none⟩ (.slice (some ⟨G k,0,none⟩) (r+1) (C k))=W2 at *;have y0:=(n.cellAt hkr).1;obtain ⟨A1,n1,c1,A2,n2,c2,⟨q0,q1,q2,q3⟩,hQ⟩:=n.at_ hkr (show k < r+1 by omega);have bp:=T.out k k hkr (show k < r+1 by omega);simp only [Zai] at y0;generalize cw:M1 k k=qf at *;have bq:=JZ cw;have a8:=JZ bp;have d7:Hid (∀s,s < r→G1 s < W2.heap.size):=JZ fun s hs=>(n.lt hs (by omega)).2.1
        clear cw bp;obtain ⟨W3,dq,V,P⟩:=YN W2 (.bool (canF qf).num.neg) (.slice A1 n1 c1) (.bool (canF qf).den.neg) (.slice A2 n2 c2);have br:=n.below P;have bs:=hQ.below P;have aq:=Za y P y.size;have ar:MatG w.heap.size W3 (.slice (some ⟨go,0,none⟩) r ca) r (r+1) (scaleTo M1 k k qf) G1 C1:=(by rw [scaleTo_start];exact br);have d8:W2.heap.size < W3.heap.size:=V.lt;go_wp2;clear dq y0 q0 q1 q2 q3 hQ n y P br
        go_loopw [15] (fun i wx=>∃c':Nat,k≤c'∧c'≤r+1∧i= .int .i64 c'∧Below w.heap.size w wx∧MatG w.heap.size wx (.slice (some ⟨go,0,none⟩) r ca) r (r+1) (scaleTo M1 k c' qf) G1 C1∧Bk wx W2.heap.size 46 [.bool (canF qf).num.neg,.slice A1 n1 c1,.bool (canF qf).den.neg,.slice A2 n2 c2]∧Zt wx (.agg #[.bool (canF qf).num.neg,.slice A1 n1 c1,.bool (canF qf).den.neg,.slice A2 n2 c2]) (canF qf)) (fun i _=>r+1 - (intOf i).toNat)
        case atStart=>exact ⟨k,by omega,by omega,rfl,aq,ar,V,bs⟩
        case round=>
         clear aq ar V bs d8;obtain ⟨c',bg,dr,rfl,d,hM,V,ao⟩:=hrel;rcases JX c' (r+1) with hcm | hcm
         ·have y0:=(hM.cellAt hkr).1;obtain ⟨A3,n3,c3,A4,n4,c4,⟨q0,q1,q2,q3⟩,ab⟩:=hM.at_ hkr hcm;obtain ⟨z0,z1,z2,z3⟩:=V.four;have b6:(canF (scaleTo M1 k c' qf k c')).Sh:=(Ztm T.out a8.out hkr hcm).sh (by omega);have d9:(canF qf).Sh:=a8.out.sh (by omega);have ai:=JZ (scaleTo_next (M:=M1) (f:=qf) bg);simp only [Zai] at y0;generalize dz:scaleTo M1 k c' qf k c'=qa at *;clear dz;have da:(c':Int) < ((r+1:Nat):Int):=(by omega);have bt:(c':Int) < (r:Int)+1:=(by omega);have bu:(c':Int)≤r:=(by omega);go_wp2_with fail;have Y0:=Zp y0;have Q0:=Zp q0;have Q1:=Zp q1;have Q2:=Zp q2;have Q3:=Zp q3;have Z0:=Zp z0;have Z1:=Zp z1;have Z2:=Zp z2;have Z3:=Zp z3;have I:=Zj wr;have aa:=hkr;clear y0 q0 q1 q2 q3 z0 z1 z2 z3;refine Zq 15 [0,1,2,3,4,5,6,7,8,9,10,11,12,13,14,15] (by kernel_rfl) (by kernel_rfl) ?_;repeat ((first | (refine Zc (v:=?_) rfl rfl rfl ?_ ?_;rotate_left;(· (intro _ n;go_simp;(try go_bits);(try with_reducible rfl)))) | (refine Zg (v:=?_) rfl rfl rfl ?_ ?_;rotate_left;(· (intro _ n;go_simp;(try go_bits);(try with_reducible rfl)))) | refine Zh rfl rfl rfl ?_);(try simp only [Act.put,pu1,pu2,pu3,pu4,pu5,pu6]))
          refine Zd rfl rfl (fun KR hKR=>?_);go_simp;(with_reducible refine (Ztn _ _ (canF qa) (canF qf) _ (ab.below I) (ao.below I) b6 d9).mono ?_);rw [Zu,Zu];rintro _ w9 ⟨v9,rfl,e9,an⟩;have z:=Za I an I.size;have O:=hM.below z;have a0:=e9.frac;obtain ⟨E,l9,k9,E',a5,a6,rfl,_,_⟩:=id a0;obtain ⟨f0,f1,f2,f3⟩:=O.frozen aa hcm;obtain ⟨_,_,_,_,_,_,⟨t0,t1,t2,t3⟩,_⟩:=O.at_ aa hcm;refine hKR.out _ _ (Or.inr z) ?_;clear hKR KR;(try simp only [Act.put,pu1,pu2,pu3,pu4,pu5,pu6]);repeat ((first | (refine Zc (v:=?_) rfl rfl rfl ?_ ?_;rotate_left;(· (intro _ n;go_simp;(try go_bits);(try with_reducible rfl)))) | (refine Zg (v:=?_) rfl rfl rfl ?_ ?_;rotate_left;(· (intro _ n;go_simp;(try go_bits);(try with_reducible rfl)))) | refine Zh rfl rfl rfl ?_);(try simp only [Act.put,pu1,pu2,pu3,pu4,pu5,pu6]))
          refine Zd rfl rfl (fun KR hKR=>?_);go_simp;refine hKR.out _ _ (Or.inl (by decide)) ?_;clear hKR KR;(try simp only [Act.put,pu1,pu2,pu3,pu4,pu5,pu6]);refine Zz ?_;obtain ⟨X,Y⟩:=O.set_ hkr hcm a0;rw [ai.out] at X;have U:=Za d z d.size;have a3:=Zw U (show w.heap.size≤G1 k from (hM.lt hkr (by omega)).1) (c' * 4) (c' * 4+1) (c' * 4+2) (c' * 4+3) (.bool (canF (qa / qf)).num.neg) (.slice E l9 k9) (.bool (canF (qa / qf)).den.neg) (.slice E' a5 a6);have b7:=(V.later z).far4' (show W2.heap.size≠G1 k by have:=d7.out k hkr;omega) (c' * 4) (c' * 4+1) (c' * 4+2) (c' * 4+3) (.bool (canF (qa / qf)).num.neg) (.slice E l9 k9) (.bool (canF (qa / qf)).den.neg) (.slice E' a5 a6);have b8:=(ao.below z).keep (Y.keep (by decide));clear Y0 Q0 Q1 Q2 Q3 Z0 Z1 Z2 Z3 hM V ao O I z an a0 e9 f0 f1 f2 f3 t0 t1 t2 t3 ab d U Y;go_wp2;go_roundw
          case rel=>exact ⟨c'+1,by omega,by omega,by go_num,a3,X,b7,b8⟩
          case measure=>simp [intOf];omega
         ·have aj:c'=r+1:=(by omega);rw [aj] at hM;clear V ao aj;have au:Hid (∀s c,s < r→c < r+1→s≠k→Sz κ (scaleTo M1 k (r+1) qf s c)):=JZ fun s c h1 h2 h3=>Zlz T.out h1 h2 h3
          have bv:Hid (∀c,c < r+1→Sz (2 * κ) (scaleTo M1 k (r+1) qf k c)):=JZ fun c h2=>Ztm T.out a8.out hkr h2
          have db:Hid (gj (Zie r cols b) r (k+1)=some (Xg (scaleTo M1 k (r+1) qf) k r r)):=JZ (by rw [gj_next ae.out bn.out,bo.out,bq.out]);generalize scaleTo M1 k (r+1) qf=M2 at *;have bw:MatG w.heap.size wr (.slice (some ⟨go,0,none⟩) r ca) r (r+1) (Xg M2 k 0 r) G1 C1:=(by rw [elimAll_start];exact hM);clear hM b3 T bq a8 ae bn bo;go_wp2;rw [show decide (c'≤r)=false from by simp;omega]
          go_loopw [16] (fun i wx=>∃s:Nat,s≤r∧i= .int .i64 s∧Below w.heap.size w wx∧MatG w.heap.size wx (.slice (some ⟨go,0,none⟩) r ca) r (r+1) (Xg M2 k s r) G1 C1) (fun i _=>r - (intOf i).toNat)
          case atStart=>exact ⟨0,by omega,rfl,d,bw⟩
          case round=>
           clear d bw;obtain ⟨s,hs,rfl,d,hM⟩:=hrel;rcases JX s r with hsm | hsm
           ·by_cases ac:s=k
            ·have b9:=JZ (elimAll_skip (M:=M2) (m:=r) (Or.inl ac:s=k∨M2 s k=0));have bx:=hM;rw [b9.out] at bx;have bz:((s:Int)==(k:Int))=true:=(by simp;omega);go_wp2;go_roundw
             case rel=>exact ⟨s+1,by omega,by go_num,d,bx⟩
             case measure=>simp [intOf];omega
            ·have bz:((s:Int)==(k:Int))=false:=(by simp;omega);have y0:=(hM.cellAt hsm).1;obtain ⟨A3,n3,c3,A4,n4,c4,⟨q0,q1,q2,q3⟩,R⟩:=hM.at_ hsm (show k < r+1 by omega);have ba:=au.out s k hsm (by omega) ac;rw [elimAll_at] at q0 q2 R;simp only [Zai] at y0;have av:=JZ (elimAll_next (M:=M2) (m:=r) ac);rw [elimAll_at] at av;generalize cx:M2 s k=qg at *;have dc:=JZ cx;clear cx;have c0:(canF qg).Sh:=ba.sh (by omega);have c9:=JZ ba;clear ba;have b0:(k:Int) < ((r+1:Nat):Int):=(by omega);have ap:(k:Int) < (r:Int)+1:=(by omega);have e4:(s:Int) < r:=(by omega);go_wp2_with fail;refine (rsignF_any _ (canF qg) _ R c0).mono ?_;rw [Zu];rintro _ w5 ⟨rfl,o⟩;have N:=hM.below o;have H:=Za d o d.size;by_cases F:qg=0
             ·have b5:(qs qg==0)=true:=(by rw [F];decide);have b9:=JZ (elimAll_skip (M:=M2) (m:=r) (Or.inr (by rw [dc.out,F]):s=k∨M2 s k=0));rw [b9.out] at N;clear F;go_wp2;go_roundw
              case rel=>exact ⟨s+1,by omega,by go_num,H,N⟩
              case measure=>simp [intOf];omega
             ·have b5:(qs qg==0)=false:=(by simpa using fun e=>F (Yp.1 e));clear F;have aw:=R.below o;have dd:=cell_later o y0;have de:=cell_later o q0;have df:=cell_later o q1;have dg:=cell_later o q2;have dh:=cell_later o q3;have cb:Hid (∀s,s < r→G1 s < w5.heap.size):=JZ fun s hs=>(N.lt hs (by omega)).2.1
              clear y0 q0 q1 q2 q3 R hM d o;obtain ⟨W6,ds,a7,P⟩:=YN w5 (.bool (canF qg).num.neg) (.slice A3 n3 c3) (.bool (canF qg).den.neg) (.slice A4 n4 c4);have cc:=N.below P;have cd:=aw.below P;have y:=Za H P H.size;have ax:MatG w.heap.size W6 (.slice (some ⟨go,0,none⟩) r ca) r (r+1) (elimTo (Xg M2 k s r) k s k qg) G1 C1:=(by rw [elimTo_start];exact cc);go_wp2;clear ds dd de df dg dh aw N cc P H
              go_loopw [18] (fun i wx=>∃c':Nat,k≤c'∧c'≤r+1∧i= .int .i64 c'∧Below w.heap.size w wx∧MatG w.heap.size wx (.slice (some ⟨go,0,none⟩) r ca) r (r+1) (elimTo (Xg M2 k s r) k s c' qg) G1 C1∧Bk wx w5.heap.size 46 [.bool (canF qg).num.neg,.slice A3 n3 c3,.bool (canF qg).den.neg,.slice A4 n4 c4]∧Zt wx (.agg #[.bool (canF qg).num.neg,.slice A3 n3 c3,.bool (canF qg).den.neg,.slice A4 n4 c4]) (canF qg)) (fun i _=>r+1 - (intOf i).toNat)
              case atStart=>exact ⟨k,by omega,by omega,rfl,y,ax,a7,cd⟩
              case round=>
               clear y ax a7 cd;obtain ⟨c',bg,dr,rfl,d,hM,a7,R⟩:=hrel;rcases JX c' (r+1) with hcm | hcm
               ·have y0:=(hM.cellAt hsm).1;have x0:=(hM.cellAt hkr).1;obtain ⟨A5,n5,c5,A6,n6,c6,⟨q0,q1,q2,q3⟩,ab⟩:=hM.at_ hsm hcm;obtain ⟨A7,n7,c7,A8,n8,c8,⟨p0,p1,p2,p3⟩,bh⟩:=hM.at_ hkr hcm;obtain ⟨z0,z1,z2,z3⟩:=a7.four;have ai:=JZ (elimTo_next (M:=Xg M2 k s r) (g:=qg) bg ac);have ea:elimTo (Xg M2 k s r) k s c' qg s c'=M2 s c':=(by unfold elimTo;rw [if_neg (by omega),elimAll_at]);have ek:elimTo (Xg M2 k s r) k s c' qg k c'=M2 k c':=(by rw [elimTo_row ac,Zdb]);rw [ea] at q0 q2 ab ai;rw [ek] at p0 p2 bh ai;have ce:=au.out s c' hsm hcm ac;have bc:=bv.out c' hcm;have cf:=XN c9.out bc;simp only [Zai] at y0 x0;generalize M2 s c'=qa at *;generalize M2 k c'=qk at *;have b6:(canF qa).Sh:=ce.sh (by omega);have di:(canF qk).Sh:=bc.sh (by omega);have dj:(canF (qg * qk)).Sh:=cf.sh (by omega);have da:(c':Int) < ((r+1:Nat):Int):=(by omega);have bt:(c':Int) < (r:Int)+1:=(by omega);have bu:(c':Int)≤r:=(by omega);clear ce bc cf ea ek;go_wp2_with fail;have Y0:=Zp y0;have X0:=Zp x0;have Q0:=Zp q0;have Q1:=Zp q1;have Q2:=Zp q2;have Q3:=Zp q3;have P0:=Zp p0;have P1:=Zp p1;have P2:=Zp p2;have P3:=Zp p3;have Z0:=Zp z0;have Z1:=Zp z1;have Z2:=Zp z2;have Z3:=Zp z3;have I:=Zj wr;clear y0 x0 q0 q1 q2 q3 p0 p1 p2 p3 z0 z1 z2 z3;refine Zq 23 [0,1,2,3,4,5,6,7,8,9,10,11,12,13,14,15,16,17,18,19,20,21,22,23] (by kernel_rfl) (by kernel_rfl) ?_;repeat ((first | (refine Zc (v:=?_) rfl rfl rfl ?_ ?_;rotate_left;(· (intro _ n;go_simp;(try go_bits);(try with_reducible rfl)))) | (refine Zg (v:=?_) rfl rfl rfl ?_ ?_;rotate_left;(· (intro _ n;go_simp;(try go_bits);(try with_reducible rfl)))) | refine Zh rfl rfl rfl ?_);(try simp only [Act.put,pu1,pu2,pu3,pu4,pu5,pu6]))
                refine Zd rfl rfl (fun KR hKR=>?_);go_simp;(with_reducible refine (rmulF_own _ _ (canF qg) (canF qk) _ (R.below I) (bh.below I) c0 di).mono ?_);rw [Zu,Zu];rintro _ w8 ⟨v8,rfl,e8,cq⟩;have ak:=Za I cq I.size;refine hKR.out _ _ (Or.inr ak) ?_;clear hKR KR;(try simp only [Act.put,pu1,pu2,pu3,pu4,pu5,pu6]);repeat ((first | (refine Zc (v:=?_) rfl rfl rfl ?_ ?_;rotate_left;(· (intro _ n;go_simp;(try go_bits);(try with_reducible rfl)))) | (refine Zg (v:=?_) rfl rfl rfl ?_ ?_;rotate_left;(· (intro _ n;go_simp;(try go_bits);(try with_reducible rfl)))) | refine Zh rfl rfl rfl ?_);(try simp only [Act.put,pu1,pu2,pu3,pu4,pu5,pu6]))
                refine Zd rfl rfl (fun KR hKR=>?_);go_simp;(with_reducible refine (rsubF_own _ _ (canF qa) (canF (qg * qk)) _ (ab.below ak) e8.frac b6 dj).mono ?_);rw [Zu,Zu];rintro _ w9 ⟨v9,rfl,e9,an⟩;have z:=Za ak an ak.size;have O:=hM.below z;have a0:=e9.frac;obtain ⟨E,l9,k9,E',a5,a6,rfl,_,_⟩:=id a0;obtain ⟨f0,f1,f2,f3⟩:=O.frozen hsm hcm;obtain ⟨_,_,_,_,_,_,⟨t0,t1,t2,t3⟩,_⟩:=O.at_ hsm hcm;refine hKR.out _ _ (Or.inr z) ?_;clear hKR KR;(try simp only [Act.put,pu1,pu2,pu3,pu4,pu5,pu6]);repeat ((first | (refine Zc (v:=?_) rfl rfl rfl ?_ ?_;rotate_left;(· (intro _ n;go_simp;(try go_bits);(try with_reducible rfl)))) | (refine Zg (v:=?_) rfl rfl rfl ?_ ?_;rotate_left;(· (intro _ n;go_simp;(try go_bits);(try with_reducible rfl)))) | refine Zh rfl rfl rfl ?_);(try simp only [Act.put,pu1,pu2,pu3,pu4,pu5,pu6]))
                refine Zd rfl rfl (fun KR hKR=>?_);go_simp;refine hKR.out _ _ (Or.inl (by decide)) ?_;clear hKR KR;(try simp only [Act.put,pu1,pu2,pu3,pu4,pu5,pu6]);refine Zz ?_;obtain ⟨X,Y⟩:=O.set_ hsm hcm a0;rw [ai.out] at X;have U:=Za d z d.size;have a3:=Zw U (show w.heap.size≤G1 s from (hM.lt hsm (by omega)).1) (c' * 4) (c' * 4+1) (c' * 4+2) (c' * 4+3) (.bool (canF (qa - qg * qk)).num.neg) (.slice E l9 k9) (.bool (canF (qa - qg * qk)).den.neg) (.slice E' a5 a6);have bd:=(a7.later z).far4' (show w5.heap.size≠G1 s by have:=cb.out s hsm;omega) (c' * 4) (c' * 4+1) (c' * 4+2) (c' * 4+3) (.bool (canF (qa - qg * qk)).num.neg) (.slice E l9 k9) (.bool (canF (qa - qg * qk)).den.neg) (.slice E' a5 a6);have be:=(R.below z).keep (Y.keep (by decide));clear Y0 X0 Q0 Q1 Q2 Q3 P0 P1 P2 P3 Z0 Z1 Z2 Z3 hM a7 R O I ak z cq an a0 e8 e9 f0 f1 f2 f3 t0 t1 t2 t3 ab bh d U Y;go_wp2;go_roundw
                case rel=>exact ⟨c'+1,by omega,by omega,by go_num,a3,X,bd,be⟩
                case measure=>simp [intOf];omega
               ·have aj:c'=r+1:=(by omega);rw [aj,av.out] at hM;clear a7 R aj;go_wp2;go_roundw
                case rel=>exact ⟨s+1,by omega,by go_num,d,hM⟩
                case measure=>simp [intOf];omega
           ·obtain rfl:s=r:=by omega
            go_wp2;go_roundw
            case rel=>exact ⟨k+1,_,G1,C1,by omega,by go_num,d,db.out,hM⟩
            case measure=>simp [intOf];omega
      ·obtain rfl:t=r:=by omega
       have HN:Hid (Xa t cols b=none):=JZ (solveQ_fail hkr ae.out (findP_none HZ.out));go_wp2;go_ret2;exact ⟨_,by rw [HN.out];rfl,by rw [Zur HN.out];exact Z4.nil _ _,Za d l d.size⟩
    ·obtain rfl:k=r:=by omega
     obtain ⟨wP,rfl⟩:∃x,x=wr:=⟨_,rfl⟩;have HD:=JZ (solveQ_done ae.out);go_wp2
     go_loopw [19,20] (fun s i wx=>∃j:Nat,j≤k∧i= .int .i64 j∧Z4 wP.heap.size wx s (Yj j fun j=>M j k)∧Below wP.heap.size wP wx) (fun _ i _=>k - (intOf i).toNat)
     case atStart=>exact ⟨0,by omega,rfl,Z4.nil _ _,JR _ _⟩
     case round=>
      obtain ⟨j,hj,rfl,hF,l⟩:=hrel;have az:=l.size;rcases JX j k with hjk | hjk
      ·have Z:=hM.below l;obtain ⟨go,co,bf,am,ck,cl,cm,a4⟩:=Z.outer (by omega);injection bf with hv1 hv2 hv3;subst hv1 hv3;have y0:=(Z.cellAt hjk).1;obtain ⟨A1,n1,c1,A2,n2,c2,⟨q0,q1,q2,q3⟩,hQ⟩:=Z.at_ hjk (show k < k+1 by omega);simp only [Zai] at y0;have HF:=JZ hF;have a9:=JZ hQ;have S:(Yj j fun j=>M j k).length+1≤1099511627776:=(by rw [Zm];omega);have e6:(j:Int) < k:=(by omega);have b0:(k:Int) < ((k+1:Nat):Int):=(by omega);have ap:(k:Int) < (k:Int)+1:=(by omega);clear hF hQ a4;go_wp2_with (at_builtin;refine wpList_append_frac rfl (.tmp 179) (.tmp 187) rfl wr wP.heap.size u19 (Yj j fun j=>M j k) rfl HF.out _ _ A1 A2 n1 c1 n2 c2 (canF (M j k)) a9.out rfl S az ?_);intro v' w4 J dt bi;rw [canL_succ j fun j=>M j k] at J;go_wp2;go_roundw
       case rel=>exact ⟨j+1,by omega,by go_num,J,l.trans bi⟩
       case measure=>simp [intOf];omega
      ·obtain rfl:j=k:=by omega
       go_wp2;go_ret2;refine ⟨_,by rw [HD.out];rfl,?_,Za d l d.size⟩;rw [Zeb HD.out];obtain ⟨cs,ho,hf⟩:=hF;exact ⟨cs,Wy ho d.size,hf⟩
namespace Pl
theorem LPd.Fit.ks {p:LPd} {K:Nat} (h:p.Fit K):5^p.right.length * K≤8589934592:=by
 have h2:=h.2.2.2.2.2.2;omega
theorem LPd.Fit.in_ {p:LPd} {K:Nat} (h:p.Fit K):p.In:=h.2.1
theorem LPd.Fit.rows {p:LPd} {K:Nat} (h:p.Fit K):p.right.length≤64:=h.2.2.1
theorem Sz_mat {p:LPd} {K:Nat} (h:p.Fit K) (s:LSt) (i r:Nat):Sz K (s.mat p i r):=LPd.Sz_col h.ok h.k1 _ _
theorem artN_next {s:LSt} {zs:List RF} {k:Nat} (h:Zby s zs k=false) (h2:¬s.at_ k < 0∨qAt zs k=0):Zby s zs (k+1)=false:=by
 unfold Zby;rw [h];rcases h2 with e | e
 ·simp [e]
 ·simp [e]
end Pl
theorem rorder_any (v:Value) (p:LPd) (j:Int) (w:World) (h:LpM w v p) (h0: -1000000≤j) (h1:j≤1000000) (hn:p.cols.length≤1200):
 Calls Tryz.prog 120 #[v,.int .i64 j] w fun e w'=>e= .returned (.int .i64 (Ygt p j))∧Below w.heap.size w w':=by
 obtain ⟨A,n,c,A',n',c',b,d,f,rfl,hc,hv,hr⟩:=id h;obtain ⟨W,hW,hX,a⟩:=Y6 w (.slice A n c) (.slice A' n' c') (.slice b d f);obtain ⟨x0,x1,x2⟩:=hX.three;obtain ⟨m1,m2,m3⟩:=hv.len;have g:n'≤1200:=by omega
 rcases Int.lt_or_le j 0 with hj | hj
 ·have HQ:Hid (Ygt p j=n' - 1 - j):=JZ (by unfold Ygt;rw [if_neg (by omega),m1]);rw [HQ.out];clear hc hv hr h m1 HQ;go_enter Tryz.func120,Tryz.ntmps120;go_wp2;go_ret;exact ⟨by go_num,a⟩
 ·have HQ:Hid (Ygt p j=j):=JZ (by unfold Ygt;rw [if_pos hj]);rw [HQ.out];clear hc hv hr h m1 HQ;go_enter Tryz.func120,Tryz.ntmps120;go_wp2;go_ret;exact ⟨rfl,a⟩
theorem rcost_own (v:Value) (p:LPd) (K:Nat) (ph j:Int) (w:World) (h:LpM w v p) (F:p.Fit K) (hj:j < p.cost.length):
 Calls Tryz.prog 85 #[v,.int .i64 ph,.int .i64 j] w fun e w'=>∃v',e= .returned v'∧Wi w.heap.size w' v' (canF (VL p ph j))∧Below w.heap.size w w':=by
 obtain ⟨A,n,c,A',n',c',x,y,z,rfl,hc,hv,hr⟩:=id h;obtain ⟨W0,l,s,o⟩:=Y6 w (.slice A n c) (.slice A' n' c') (.slice x y z);obtain ⟨W,hW,hR,q⟩:=YN W0 (.bool false) (.slice none 0 0) (.bool false) (.slice none 0 0);have t:W0.heap.size=w.heap.size+1:=by rw [← l];simp
 rw [t] at hR;have hX:=s.later q;have g:=Za o q o.size;obtain ⟨x0,x1,x2⟩:=hX.three;clear s o q;by_cases h1:ph=1
 ·subst h1;rcases Int.lt_or_le j 0 with hj0 | hj0
  ·rw [Zus hj0];clear hc hv hr h F hj;go_enter Tryz.func85,Tryz.ntmps85;go_wp2_with fail;clear hW l;refine (Y4 1 _ (by omega) (by omega)).mono ?_;rw [show ((1:Int):Rat)=1 from rfl];rintro _ w1 ⟨v1,rfl,e1,k⟩;obtain ⟨B,m,d,B',m',d',rfl,_,_⟩:=id e1.frac;have a:=hR.later k;obtain ⟨c0,c1,c2,c3⟩:=a.four;obtain ⟨f0,f1,f2,f3⟩:=a.fourF;go_wp2;refine Zn Tryz.results85 Tryz.underlying46 (by kernel_rfl) rfl (a.set4 _ _ _ _) rfl ?_;exact WO a (e1.mono g.size) (Za g k g.size) (by omega)
  ·rw [Zqy (by omega) (by omega)];clear hc hv hr h F hj;go_enter Tryz.func85,Tryz.ntmps85;go_wp2_with fail;clear hW l;refine (Y4 0 _ (by omega) (by omega)).mono ?_;rw [show ((0:Int):Rat)=0 from rfl];rintro _ w1 ⟨v1,rfl,e1,k⟩;obtain ⟨B,m,d,B',m',d',rfl,_,_⟩:=id e1.frac;have a:=hR.later k;obtain ⟨c0,c1,c2,c3⟩:=a.four;obtain ⟨f0,f1,f2,f3⟩:=a.fourF;go_wp2;refine Zn Tryz.results85 Tryz.underlying46 (by kernel_rfl) rfl (a.set4 _ _ _ _) rfl ?_;exact WO a (e1.mono g.size) (Za g k g.size) (by omega)
 ·have D:(ph==1)=false:=by simpa using h1
  by_cases h2:ph=2
  ·subst h2;rcases Int.lt_or_le j 0 with hj0 | hj0
   ·rw [Zqy (by omega) (by omega)];clear hc hv hr h F hj;go_enter Tryz.func85,Tryz.ntmps85;go_wp2_with fail;clear hW l;refine (Y4 0 _ (by omega) (by omega)).mono ?_;rw [show ((0:Int):Rat)=0 from rfl];rintro _ w1 ⟨v1,rfl,e1,k⟩;obtain ⟨B,m,d,B',m',d',rfl,_,_⟩:=id e1.frac;have a:=hR.later k;obtain ⟨c0,c1,c2,c3⟩:=a.four;obtain ⟨f0,f1,f2,f3⟩:=a.fourF;go_wp2;refine Zn Tryz.results85 Tryz.underlying46 (by kernel_rfl) rfl (a.set4 _ _ _ _) rfl ?_;exact WO a (e1.mono g.size) (Za g k g.size) (by omega)
   ·rw [Zqx hj0];obtain ⟨jn,rfl⟩:=JT hj0;rw [JP];have r:jn < p.cost.length:=(by omega);obtain ⟨f,hf⟩:=Yb (fs:=p.cost) (i:=jn) r;obtain ⟨r1,r2,r3⟩:=hc.len;obtain ⟨b,H,B1,n1,k1,B2,n2,k2,rfl,I,⟨q0,q1,q2,q3⟩,C⟩:=hc.elem g hf;have u:f.Sh:=(F.1.1 jn f hf).sh F.kb;rw [Yo hf];have E:(jn:Int) < n:=(by omega);clear hv hr h F hj hf r hc r1;go_enter Tryz.func85,Tryz.ntmps85;go_wp2_with fail;clear hW l;refine (Zfo _ f _ C u).mono ?_;rintro _ w1 ⟨v1,rfl,e1,k⟩;obtain ⟨B,m,d,B',m',d',rfl,_,_⟩:=id e1.frac;have a:=hR.later k;obtain ⟨c0,c1,c2,c3⟩:=a.four;obtain ⟨f0,f1,f2,f3⟩:=a.fourF;go_wp2;refine Zn Tryz.results85 Tryz.underlying46 (by kernel_rfl) rfl (a.set4 _ _ _ _) rfl ?_;exact WO a (e1.mono g.size) (Za g k g.size) (by omega)
  ·have G:(ph==2)=false:=(by simpa using h2);rw [Zqy (by omega) (by omega)];clear hc hv hr h F hj h1 h2;go_enter Tryz.func85,Tryz.ntmps85;go_wp2_with fail;clear hW l;refine (Y4 0 _ (by omega) (by omega)).mono ?_;rw [show ((0:Int):Rat)=0 from rfl];rintro _ w1 ⟨v1,rfl,e1,k⟩;obtain ⟨B,m,d,B',m',d',rfl,_,_⟩:=id e1.frac;have a:=hR.later k;obtain ⟨c0,c1,c2,c3⟩:=a.four;obtain ⟨f0,f1,f2,f3⟩:=a.fourF;go_wp2;refine Zn Tryz.results85 Tryz.underlying46 (by kernel_rfl) rfl (a.set4 _ _ _ _) rfl ?_;exact WO a (e1.mono g.size) (Za g k g.size) (by omega)
theorem rartificial_any (v1 v2:Value) (s:LSt) (zs:List RF) (w:World) (h1:StM w v1 s) (h2:Xh w v2 zs) (hl:zs.length≤s.basis.length) (hz:∀(i:Nat) (f:RF),zs[i]? =some f→f.Sh):
 Calls Tryz.prog 81 #[v1,v2] w fun e w'=>e= .returned (.bool (Zby s zs zs.length))∧Below w.heap.size w w':=by
 obtain ⟨Ab,nb,cb,rfl,hI⟩:=id h1;obtain ⟨W,hW,hS,a⟩:=Zea w (.int .i64 s.phase) (.slice Ab nb cb) (.int .i64 s.pivots);obtain ⟨b1,b2,b3⟩:=hI.len;obtain ⟨Az,cz,rfl,u,v⟩:=h2.shape;have HI:=JZ hI;have H2:=JZ h2;have HZ:=JZ hz;generalize hn:zs.length=N at *;have HN:=JZ hn;have r:N≤nb:=by omega
 clear h1 h2 hI hz hn hl b1;go_enter Tryz.func81,Tryz.ntmps81;go_wp2;clear hW
 go_loopw [5] (fun i wr=>∃k:Nat,k≤N∧i= .int .i64 k∧Below w.heap.size w wr∧Bk wr w.heap.size 29 [.int .i64 s.phase,.slice Ab nb cb,.int .i64 s.pivots]∧Zby s zs k=false) (fun i _=>N - (intOf i).toNat)
 case atStart=>exact ⟨0,by omega,rfl,a,hS,rfl⟩
 case round=>
  clear a hS;obtain ⟨k,hk,rfl,a,hS,ha⟩:=hrel;have HA:=JZ ha;clear ha;obtain ⟨y0,y1,y2⟩:=hS.three;rcases JX k N with hkl | hkl
  ·obtain ⟨bb,bo,z,rfl,x,g,z0,z1⟩:=(HI.out.below a).at_ (show k < nb by omega);obtain ⟨f,hf⟩:=Yb (fs:=zs) (i:=k) (by rw [HN.out];exact hkl);obtain ⟨b,y,B1,n1,k1,B2,n2,k2,rfl,A,⟨q0,q1,q2,q3⟩,o⟩:=H2.out.elem a hf;have l:=HZ.out k f hf;have h:=JZ (LSt.at_eq g);have HQ:=JZ (Yo hf);have t:(k:Int) < nb:=(by omega);have p:(k:Int) < N:=(by omega);clear g hf;rcases Int.lt_or_le z 0 with hz0 | hz0
   ·go_wp2_with fail;refine (rsignF_any _ f _ o l).mono ?_;rintro _ w5 ⟨rfl,j⟩;have m:=hS.later j;have d:=Za a j a.size;by_cases hq:f.q=0
    ·have n:(qs f.q !=0)=false:=(by rw [hq];decide);have c:=JZ (artN_next HA.out (Or.inr (by rw [HQ.out,hq])));clear hq;go_wp2;go_roundw
     case rel=>exact ⟨k+1,by omega,by go_num,d,m,c.out⟩
     case measure=>simp [intOf];omega
    ·have n:(qs f.q !=0)=true:=(by simpa using fun e=>hq (Yp.1 e));have c:Hid (Zby s zs N=true):=JZ (Zec (by rw [h.out];exact hz0) (by rw [HQ.out];exact hq) hkl);clear hq;go_wp2;go_ret;exact ⟨by rw [c.out];rfl,d⟩
   ·have c:=JZ (artN_next (zs:=zs) HA.out (Or.inl (by rw [h.out];omega)));go_wp2;go_roundw
    case rel=>exact ⟨k+1,by omega,by go_num,a,hS,c.out⟩
    case measure=>simp [intOf];omega
  ·obtain rfl:k=N:=by omega
   go_wp2;go_ret;exact ⟨by rw [HA.out];rfl,a⟩
theorem rbasic_own (v1 v2:Value) (p:LPd) (s:LSt) (K:Nat) (w:World) (h:LpM w v1 p) (h2:StM w v2 s) (F:p.Fit K) (S:s.Fit p):
 Calls Tryz.prog 69 #[v1,v2] w fun e w'=>∃v',e= .returned (.tuple #[v',.bool (zOk p s)])∧Z4 w.heap.size w' v' (zL p s)∧Below w.heap.size w w':=by
 obtain ⟨A,n,c,A',n',c',D,E,G,rfl,hc,hv,hr⟩:=id h;obtain ⟨Ab,nb,cb,rfl,hI⟩:=id h2;obtain ⟨W,hW,m,g⟩:=Y6 w (.slice A n c) (.slice A' n' c') (.slice D E G);obtain ⟨W1,H,b,i⟩:=Zea W (.int .i64 s.phase) (.slice Ab nb cb) (.int .i64 s.pivots);have hX:=m.later i;have d:=Za g i g.size;obtain ⟨b1,b2,b3⟩:=hI.len;have o:W.heap.size=w.heap.size+1:=by rw [← hW];simp
 rw [o] at b;have q:=JZ h;have t:=JZ h2;have HI:=JZ hI;have a:=JZ F;have k:=JZ S;have u:=JZ b1;have x:Hid (nb=p.right.length):=JZ (by rw [b1];exact S.2);have L:nb≤64:=by rw [x.out];exact F.2.2.1
 obtain ⟨x0,x1,x2⟩:=hX.three;obtain ⟨y0,y1,y2⟩:=b.three;have y:=JZ hr;clear h h2 hc hv hr b1 hI m g i F S;have z:Hid (s.basis.length≤1000):=JZ (by rw [← u.out];omega);have B:Hid (p.right.length≤1000):=JZ (by have:=a.out.rows;omega);go_enter Tryz.func69,Tryz.ntmps69;go_wp2_with fail;clear hW H;have C0:=Zp x0;have C1:=Zp x1;have C2:=Zp x2;have D0:=Zp y0;have D1:=Zp y1;have D2:=Zp y2;have b:=Zj W1;clear x0 x1 x2 y0 y1 y2;refine Zq 10 [0,1,3,4,2,5,6,7,8,9] (by kernel_rfl) (by kernel_rfl) ?_;repeat ((first | (refine Zc (v:=?_) rfl rfl rfl ?_ ?_;rotate_left;(· (intro _ j;go_simp;(try go_bits);(try with_reducible rfl)))) | (refine Zg (v:=?_) rfl rfl rfl ?_ ?_;rotate_left;(· (intro _ j;go_simp;(try go_bits);(try with_reducible rfl)))) | refine Zh rfl rfl rfl ?_);(try simp only [Act.put,pu1,pu2,pu3,pu4,pu5,pu6]))
 refine Zd rfl rfl (fun KR hKR=>?_);go_simp;with_reducible refine (rmatrix_own _ _ p s K _ ((q.out.below d).below b) ((t.out.below d).below b) a.out.ok a.out.kb a.out.in_ k.out.in_ a.out.rows z.out).mono ?_
 rw [k.out.len];rintro _ w5 ⟨v5,rfl,e5,I⟩;have f:=Za b I b.size;refine hKR.out _ _ (Or.inr f) ?_;clear hKR KR;(try simp only [Act.put,pu1,pu2,pu3,pu4,pu5,pu6]);repeat ((first | (refine Zc (v:=?_) rfl rfl rfl ?_ ?_;rotate_left;(· (intro _ j;go_simp;(try go_bits);(try with_reducible rfl)))) | (refine Zg (v:=?_) rfl rfl rfl ?_ ?_;rotate_left;(· (intro _ j;go_simp;(try go_bits);(try with_reducible rfl)))) | refine Zh rfl rfl rfl ?_);(try simp only [Act.put,pu1,pu2,pu3,pu4,pu5,pu6]))
 refine Zd rfl rfl (fun KR hKR=>?_);go_simp;with_reducible refine (rsolve_own _ _ p.right.length (s.mat p) p.right K _ e5 ((y.out.below d).below f) rfl (fun r c _ _=>Sz_mat a.out s c r) a.out.rs a.out.k1 a.out.ks B.out).mono ?_
 rintro _ w6 ⟨v6,rfl,e6,J⟩;have l:=Za f J f.size;refine hKR.out _ _ (Or.inr l) ?_;clear hKR KR;(try simp only [Act.put,pu1,pu2,pu3,pu4,pu5,pu6]);repeat ((first | (refine Zc (v:=?_) rfl rfl rfl ?_ ?_;rotate_left;(· (intro _ j;go_simp;(try go_bits);(try with_reducible rfl)))) | (refine Zg (v:=?_) rfl rfl rfl ?_ ?_;rotate_left;(· (intro _ j;go_simp;(try go_bits);(try with_reducible rfl)))) | refine Zh rfl rfl rfl ?_);(try simp only [Act.put,pu1,pu2,pu3,pu4,pu5,pu6]))
 refine Zz ?_;clear C0 C1 C2 D0 D1 D2;have C:=Za d l d.size;have M:=f.size;go_wp2;go_ret2;refine ⟨_,rfl,?_,C⟩;obtain ⟨cs,ho,hf⟩:=e6;exact ⟨cs,Wy ho (by have:=d.size;omega),hf⟩
theorem rdual_own (v1 v2:Value) (p:LPd) (s:LSt) (K:Nat) (w:World) (h:LpM w v1 p) (h2:StM w v2 s) (F:p.Fit K) (S:s.Fit p):
 Calls Tryz.prog 43 #[v1,v2] w fun e w'=>∃v',e= .returned v'∧Z4 w.heap.size w' v' (XU p s)∧Below w.heap.size w w':=by
 obtain ⟨A,n,c,A',n',c',M,N,O,rfl,hc,hv,hr⟩:=id h;obtain ⟨Ab,nb,cb,rfl,hI⟩:=id h2;obtain ⟨W,hW,P,j⟩:=Y6 w (.slice A n c) (.slice A' n' c') (.slice M N O);obtain ⟨W1,a3,d,l⟩:=Zea W (.int .i64 s.phase) (.slice Ab nb cb) (.int .i64 s.pivots);have hX:=P.later l;have a:=Za j l j.size;obtain ⟨b1,b2,b3⟩:=hI.len;have R:W.heap.size=w.heap.size+1:=by rw [← hW];simp
 rw [R] at d;have G:=JZ h;have T:=JZ h2;have HI:=JZ hI;have b:=JZ F;have y:=JZ S;have U:=JZ b1;have H:Hid (nb=p.right.length):=JZ (by rw [b1];exact S.2);have a8:nb≤64:=by rw [H.out];exact F.2.2.1
 obtain ⟨x0,x1,x2⟩:=hX.three;obtain ⟨y0,y1,y2⟩:=d.three;clear h h2 hc hv hr b1 hI P j l F S;have V:Hid (s.basis.length≤1000):=JZ (by rw [← U.out];omega);have I:Hid (p.right.length≤1000):=JZ (by have:=b.out.rows;omega);have X:Hid (p.cost.length=p.cols.length):=JZ b.out.cl;go_enter Tryz.func43,Tryz.ntmps43;go_wp2;clear hW a3 x0 x1 x2 y0 y1 y2
 go_loopw [5,6] (fun u i wr=>∃k:Nat,k≤nb∧i= .int .i64 k∧Below w.heap.size w wr∧Bk wr w.heap.size 26 [.slice A n c,.slice A' n' c',.slice M N O]∧Bk wr (w.heap.size+1) 29 [.int .i64 s.phase,.slice Ab nb cb,.int .i64 s.pivots]∧Z4 w.heap.size wr u (Yj k fun i=>VL p s.phase (s.at_ i))) (fun _ i _=>nb - (intOf i).toNat)
 case atStart=>exact ⟨0,by omega,rfl,a,hX,d,Z4.nil _ _⟩
 case round=>
  clear a hX d;obtain ⟨k,hk,rfl,a,hX,hS,hO⟩:=hrel;obtain ⟨x0,x1,x2⟩:=hX.three;obtain ⟨y0,y1,y2⟩:=hS.three;rcases JX k nb with hkl | hkl
  ·obtain ⟨bb,bo,z,rfl,hz,m,z0,z1⟩:=(HI.out.below a).at_ hkl;have HZ:Hid (s.at_ k=z):=JZ (LSt.at_eq m);obtain ⟨i0,i1⟩:=y.out.in_ k z m;have a9:(k:Int) < nb:=(by omega);have J:(Yj k fun i=>VL p s.phase (s.at_ i)).length+1≤1099511627776:=(by rw [Zm];omega);clear m;go_wp2_with fail;have C0:=Zp x0;have C1:=Zp x1;have C2:=Zp x2;have D0:=Zp y0;have D1:=Zp y1;have E1:=Zp hz;have d:=Zj wr;clear x0 x1 x2 y0 y1 y2 hz;refine Zq 10 [0,1,2,3,4,5,6,7,8,9,10,11,12] (by kernel_rfl) (by kernel_rfl) ?_;repeat ((first | (refine Zc (v:=?_) rfl rfl rfl ?_ ?_;rotate_left;(· (intro _ a7;go_simp;(try go_bits);(try with_reducible rfl)))) | (refine Zg (v:=?_) rfl rfl rfl ?_ ?_;rotate_left;(· (intro _ a7;go_simp;(try go_bits);(try with_reducible rfl)))) | refine Zh rfl rfl rfl ?_);(try simp only [Act.put,pu1,pu2,pu3,pu4,pu5,pu6]))
   refine Zd rfl rfl (fun KR hKR=>?_);go_simp;(with_reducible refine (rcost_own _ p K s.phase z _ ((G.out.below a).below d) b.out (X.out▸i1)).mono ?_);rw [← HZ.out];rintro _ w5 ⟨v5,rfl,e5,o⟩;have g:=Za d o d.size;obtain ⟨E,l9,k9,E',a4,a5,rfl,_,_⟩:=id e5.frac;have HF:=JZ e5.frac;have HO:=JZ (hO.below g);have Y:w.heap.size≤w5.heap.size:=(by have:=a.size;have:=g.size;omega);clear e5;generalize hQ:canF (VL p s.phase (s.at_ k))=Q at *;refine hKR.out _ _ (Or.inr g) ?_;clear hKR KR;(try simp only [Act.put,pu1,pu2,pu3,pu4,pu5,pu6]);refine Zd rfl rfl (fun KR hKR=>?_);go_simp;refine hKR.out _ _ (Or.inl (by decide)) ?_;clear hKR KR;(try simp only [Act.put,pu1,pu2,pu3,pu4,pu5,pu6]);refine VJ rfl rfl rfl (by decide) (.tmp 16) (.tmp 26) rfl w5 w.heap.size u5 (Yj k fun i=>VL p s.phase (s.at_ i)) rfl HO.out _ _ E E' l9 k9 a4 a5 Q HF.out rfl J Y ?_;intro v' w6 q D t;rw [← hQ,canL_succ k fun i=>VL p s.phase (s.at_ i)] at q;(try simp only [Act.put,pu1,pu2,pu3,pu4,pu5,pu6]);refine Zd rfl rfl (fun KR hKR=>?_);go_simp;refine hKR.out _ _ (Or.inl (by decide)) ?_;clear hKR KR;(try simp only [Act.put,pu1,pu2,pu3,pu4,pu5,pu6]);refine Zz ?_;have Z:=D.bk (hX.later g) (by decide);have a0:=D.bk (hS.later g) (by decide);have f:=(Za a g a.size).trans t;clear C0 C1 C2 D0 D1 E1 hX hS a d g o hO HO HF D t hQ;go_wp2;go_roundw
   case rel=>exact ⟨k+1,by omega,by go_num,f,Z,a0,q⟩
   case measure=>simp [intOf];omega
  ·obtain rfl:k=nb:=by omega
   have a1:=H;go_wp2_with fail;refine (rmatrix_own _ _ p s K _ (G.out.below a) (T.out.below a) b.out.ok b.out.kb b.out.in_ y.out.in_ b.out.rows V.out).mono ?_;rw [y.out.len];rintro _ w5 ⟨v5,rfl,e5,o⟩;go_wp2_with fail;refine (rrows_own _ p.right.length (s.mat p) _ e5 I.out).mono ?_;rintro _ w6 ⟨v6,rfl,e6,t⟩;have x:=Za o t o.size;have B:=hO.below x;have f:=Za a x a.size;have aa:=JZ B.frs;have C:=B.frs;rw [a1.out] at C;have a2:=JZ C;clear x0 x1 x2 y0 y1 y2 hO B C e5 hX hS;go_wp2_with fail;refine (rsolve_own _ _ p.right.length (fun r k=>s.mat p k r) (Yj p.right.length fun i=>VL p s.phase (s.at_ i)) K _ e6 a2.out (Zm _ _) (fun r c _ _=>Sz_mat b.out s r c) (Zbc fun i _=>Zmn b.out.ok b.out.k1 _ _) b.out.k1 b.out.ks I.out).mono ?_;rintro _ w7 ⟨v7,rfl,e7,a6⟩;have L:=Za f a6 f.size;go_wp2;go_ret;refine ⟨_,rfl,?_,L⟩;obtain ⟨cs,ho,hf⟩:=e7;exact ⟨cs,Wy ho (by have:=f.size;omega),hf⟩
theorem run_append_copyI (ty:TypeId) (W:World) (v:Value) (zs:List Int) (h:XE W v zs) (hn:zs.length≤1099511627776):
 ∃v' w',(Builtin.append_ #[22,22] ty #[.slice none 0 0,v]).run Tryz.prog W= .ok v' w'∧ZN W.heap.size w' v' zs∧Below W.heap.size W w':=by
 obtain ⟨A,c,rfl,hc,hm,a,i⟩:=h;obtain ⟨i0,hi,f,l,m⟩:=info_parts info_intT
 cases A with
 | none=>
  have h0:zs.length=0:=by
   rcases JV zs.length with e | e
   ·exact e
   ·obtain ⟨b,n,e1,_⟩:=a e;cases e1
  have g:zs=[]:=List.eq_nil_of_length_eq_zero h0;subst g;refine ⟨_,_,?_,ZN.nil _ _,JR _ _⟩;simp [Builtin.append_,run_underlying Tryz.underlying22,sizeOf,typeInfo,zeroValue,hi,f,Builtin.lenOf,run_firstCells_none]
 | some ad=>
  obtain ⟨v',w',hr,g1,g2,_,_⟩:=run_append_own_at (P:=Tryz.prog) W W.heap.size 22 ty 3 i0 _ 1 8 Tryz.underlying22 hi f l m rfl (by decide) (.slice none 0 0) 0 [] (World.ownsRow_nil _ _ _ _) ad zs.length c (zs.map fun z=>Value.int .i64 z) (by simp) (fun j u hj=>by
   have d:j < zs.length:=(by have h9:=(List.getElem?_eq_some_iff.1 hj).1;simpa using h9);obtain ⟨b,n,e,hx⟩:=a (by omega);have e:=Option.some.inj e;rw [e,Zuu,hx j d];simp [JQ d] at hj;rw [← hj];simp [List.getD,JQ d]) (fun u hu=>by simp at hu;obtain ⟨z,_,rfl⟩:=hu;rfl) (by unfold maxLen;omega) (by omega) (JY _)
  refine ⟨v',w',hr,⟨by simpa using g1,i⟩,?_⟩;exact (JR _ _).grown g2 (JY _) (fun k hk=>by simp [Value.ownBlock] at hk)
theorem op_append_run {o:Oper} {a:Act} {w w':World} {v x y:Value} {K:Act→World→Prop} {Q:Exit→Act→World→Prop} {ops:Array Oper} {t:TypeId} (s1 s2:Operand) (hgd:o.guard=none) (ho:o.op= .call { callee:= .builtin .append,args:=#[s1,s2],argTypes:=#[t,t] }) (h1:a.eval s1=x) (h2:a.eval s2=y)
 (hrun:(Builtin.append_ #[t,t] o.type #[x,y]).run Tryz.prog w= .ok v w') (h:K (a.put o.dst v) w'):if Region.wanted o (yielded ops a.tmps)=true then Oper.wp Tryz.prog o a w K Q else K (a.put o.dst undef) w:=by
 rw [if_pos (by simp [Region.wanted,hgd])];unfold Oper.wp execOp;simp only [ho,resolve,invoke,builtin,Sem.run_bind,Sem.run_pure,Result.andThen_ok,List.map_toArray,List.map_cons,List.map_nil,h1,h2,hrun];exact h
def SetAt (U:World) (s:LSt) (s7:Value) (wx:World):Prop:=
 ∃g A n c,s7= .pointer (some ⟨g,0,none⟩)∧U.heap.size≤g∧Bk wx g 29 [.int .i64 s.phase,.slice A n c,.int .i64 s.pivots]∧ZN U.heap.size wx (.slice A n c) s.basis∧Below U.heap.size U wx
theorem SetAt.mk {U w:World} {g:Nat} {s:LSt} {x y z:Value} {A:Option Addr} {n c:Nat} (hB:Bk w g 29 [x,y,z]) (hI:ZN U.heap.size w (.slice A n c) s.basis) (hb:Below U.heap.size U w) (hg:U.heap.size≤g):
 SetAt U s (.pointer (some ⟨g,0,none⟩)) (((w.setCell ⟨g,0,none⟩ (.int .i64 s.phase)).setCell ⟨g,1,none⟩ (.slice A n c)).setCell ⟨g,2,none⟩ (.int .i64 s.pivots)):=by
 have k1:=Ze.setCell hB 0 (.int .i64 s.phase);have k2:=Ze.setCell (hB.set_ 0 (.int .i64 s.phase)) 1 (.slice A n c);have k3:=Ze.setCell ((hB.set_ 0 (.int .i64 s.phase)).set_ 1 (.slice A n c)) 2 (.int .i64 s.pivots);have k4:=(k1.trans k2).trans k3;exact ⟨g,A,n,c,rfl,hg,((hB.set_ 0 _).set_ 1 _).set_ 2 _,hI.but k4 (by decide),((hb.setCell (p:=⟨g,0,none⟩) hg _).setCell (p:=⟨g,1,none⟩) hg _).setCell (p:=⟨g,2,none⟩) hg _⟩
theorem rsettle_own (v1 v2:Value) (p:LPd) (s:LSt) (K:Nat) (w:World) (h:LpM w v1 p) (h2:StM w v2 s) (F:p.Fit K) (S:s.Fit p):
 Calls Tryz.prog 40 #[v1,v2] w fun e w'=>∃v',e= .returned v'∧StO w.heap.size w' v' (ZB p s)∧Below w.heap.size w w':=by
 obtain ⟨A,n,c,A',n',c',al,am,an,rfl,hc,hv,hr⟩:=id h;obtain ⟨Ab,nb,cb,rfl,hI⟩:=id h2;obtain ⟨W,hW,aa,y⟩:=Y6 w (.slice A n c) (.slice A' n' c') (.slice al am an);obtain ⟨W1,ab,a,z⟩:=Zea W (.int .i64 s.phase) (.slice Ab nb cb) (.int .i64 s.pivots);have hX:=aa.later z;have J:=Za y z y.size;obtain ⟨b1,b2,b3⟩:=hI.len;have Y:W.heap.size=w.heap.size+1:=by rw [← hW];simp
 rw [Y] at a;have ad:=JZ h;have Z:=JZ h2;have HI:=JZ hI;have L:=JZ F;have a0:=JZ S;have a1:=JZ b1;have ae:Hid (nb=p.right.length):=JZ (by rw [b1];exact S.2);have ap:nb≤64:=by rw [ae.out];exact F.2.2.1
 obtain ⟨x0,x1,x2⟩:=hX.three;obtain ⟨y0,y1,y2⟩:=a.three;clear h h2 hc hv hr b1 hI aa y z F S;obtain ⟨W2,ao,hR,l⟩:=Zea W1 (.int .i64 0) (.slice none 0 0) (.int .i64 0);have M:=hX.later l;have N:=a.later l;have r:=Za J l J.size;have a2:W1.heap.size=w.heap.size+1+1:=by rw [← ab];simp [Y]
 rw [a2] at hR;obtain ⟨x0,x1,x2⟩:=M.three;obtain ⟨y0,y1,y2⟩:=N.three;have af:Hid (∀(i:Nat) (f:RF),(zL p s)[i]? =some f→f.Sh):=JZ fun i f hf=>(Ygw L.out s i f hf).sh (by have:=L.out.ks;omega)
 have ag:Hid ((zL p s).length≤s.basis.length):=JZ (by rw [a0.out.len];exact Zyp);clear hX a J l;go_enter Tryz.func40,Tryz.ntmps40;go_wp2_with fail;clear hW ab ao;refine (rbasic_own _ _ p s K _ (ad.out.below r) (Z.out.below r) L.out a0.out).mono ?_;rintro _ w5 ⟨v5,rfl,e5,C⟩;have a3:=M.later C;have O:=N.later C;have P:=hR.later C;have t:=Za r C r.size;have a4:=e5.frs;obtain ⟨Az,nz,cz,rfl⟩:=e5.sliceN;clear e5 M N hR x0 x1 x2 y0 y1 y2 r C
 go_upto_region 2 with (fail)
 go_cut [7] (fun s7 wx=>SetAt w5 s s7 wx)
 case first=>
  obtain ⟨y0,y1,y2⟩:=O.three;have C0:=Zp y0;have C1:=Zp y1;have C2:=Zp y2;have a:=Zj w5;clear y0 y1 y2;refine XF 9 (.go 0 (.go 1 (.go 2 (.go 3 (.go 5 (.go 6 (.fork 4 (.go 7 (.go 8 (.go 9 .done))) 8 (.go 4 (.go 7 (.go 9 .done)))))))))) (by kernel_rfl) (by kernel_rfl) ?_;repeat ((first | (refine Z6 (v:=?_) rfl rfl rfl ?_ ?_;rotate_left;(· (intro _ E;go_simp;(try go_bits);(try with_reducible rfl)))) | (refine Yr (v:=?_) rfl rfl rfl ?_ ?_;rotate_left;(· (intro _ E;go_simp;(try go_bits);(try with_reducible rfl)))) | refine Yt rfl rfl rfl ?_ | refine Z8 rfl rfl rfl (by assumption) ?_);(try simp only [Act.put,pu1,pu2,pu3,pu4,pu5,pu6]))
  refine WT rfl rfl (fun KR hKR=>?_) (fun KR hKR=>?_)
  ·obtain ⟨vc,wc,j,B,H⟩:=run_append_copyI 22 w5.drew (.slice Ab nb cb) s.basis ((HI.out.below t).below a) (by rw [← a1.out];omega);obtain ⟨Ac,nc,cc,rfl⟩:=B.sliceN;have k:=Za a H a.size;refine op_append_run _ _ rfl rfl rfl rfl j ?_;refine hKR.out _ _ (Or.inr k) ?_;clear hKR KR j;(try simp only [Act.put,pu1,pu2,pu3,pu4,pu5,pu6]);have R:=B.monoB a.size;repeat ((first | (refine Z6 (v:=?_) rfl rfl rfl ?_ ?_;rotate_left;(· (intro _ E;go_simp;(try go_bits);(try with_reducible rfl)))) | (refine Yr (v:=?_) rfl rfl rfl ?_ ?_;rotate_left;(· (intro _ E;go_simp;(try go_bits);(try with_reducible rfl)))) | refine Yt rfl rfl rfl ?_ | refine Z8 rfl rfl rfl (by assumption) ?_);(try simp only [Act.put,pu1,pu2,pu3,pu4,pu5,pu6]))
   obtain ⟨WG,X,o,I⟩:=Zea wc (.int .i64 0) (.slice none 0 0) (.int .i64 0);refine ZA rfl rfl (fun KR hKR=>?_);go_simp;have T:=k.size;have b:=Za k I k.size;refine hKR.out _ _ (Or.inr b) ?_;clear hKR KR X;(try simp only [Act.put,pu1,pu2,pu3,pu4,pu5,pu6]);have ah:=R.below I;obtain ⟨t0,t1,t2⟩:=o.three;obtain ⟨f0,f1,f2⟩:=o.threeF;refine ZA rfl rfl (fun KR hKR=>?_);go_simp;refine hKR.out _ _ (Or.inl (by decide)) ?_;clear hKR KR;(try simp only [Act.put,pu1,pu2,pu3,pu4,pu5,pu6]);refine YM ?_;go_wp2_with fail
   go_meet
   exact SetAt.mk o ah b T
  ·obtain ⟨WG,X,o,I⟩:=Zea w5.drew (.int .i64 0) (.slice none 0 0) (.int .i64 0);go_simp;have T:=a.size;have b:=Za a I a.size;refine hKR.out _ _ (Or.inr b) ?_;clear hKR KR X;(try simp only [Act.put,pu1,pu2,pu3,pu4,pu5,pu6])
   change Bk WG w5.heap.size 29 _ at o
   obtain ⟨vc,wc,j,B,H⟩:=run_append_copyI 22 WG (.slice Ab nb cb) s.basis ((HI.out.below t).below b) (by rw [← a1.out];omega);obtain ⟨Ac,nc,cc,rfl⟩:=B.sliceN;have k:=Za b H b.size;refine ZA rfl rfl (fun KR hKR=>?_);refine op_append_run _ _ rfl rfl rfl rfl j ?_;refine hKR.out _ _ (Or.inr k) ?_;clear hKR KR j;(try simp only [Act.put,pu1,pu2,pu3,pu4,pu5,pu6]);have R:=B.monoB b.size;have U:=o.later H;repeat ((first | (refine Z6 (v:=?_) rfl rfl rfl ?_ ?_;rotate_left;(· (intro _ E;go_simp;(try go_bits);(try with_reducible rfl)))) | (refine Yr (v:=?_) rfl rfl rfl ?_ ?_;rotate_left;(· (intro _ E;go_simp;(try go_bits);(try with_reducible rfl)))) | refine Yt rfl rfl rfl ?_ | refine Z8 rfl rfl rfl (by assumption) ?_);(try simp only [Act.put,pu1,pu2,pu3,pu4,pu5,pu6]))
   obtain ⟨t0,t1,t2⟩:=U.three;obtain ⟨f0,f1,f2⟩:=U.threeF;refine ZA rfl rfl (fun KR hKR=>?_);go_simp;refine hKR.out _ _ (Or.inl (by decide)) ?_;clear hKR KR;(try simp only [Act.put,pu1,pu2,pu3,pu4,pu5,pu6]);refine YM ?_;go_wp2_with fail
   go_meet
   exact SetAt.mk U R k T
 case rest=>
  obtain ⟨g,A1,n1,c1,rfl,hg,hB,ac,q⟩:=hcut;have ai:=a3.later q;have a5:=O.later q;have a6:=P.later q;have G:=Za t q t.size;have a7:=a4.below q;have aq:w.heap.size+1+1 < g:=by have:=P.lt;omega
  have a8:=t.size;obtain ⟨y0,y1,y2⟩:=a5.three;clear a3 O P a4;go_wp2_with fail;refine (rartificial_any _ _ s (zL p s) _ (Z.out.below G) a7 ag.out af.out).mono ?_;rintro _ w7 ⟨rfl,D⟩;have u:=hB.later D;have d:=a6.later D;have V:=ac.below D;have x:=Za G D G.size;clear y0 y1 y2 ai a5 a7 hB a6 ac G D q;obtain ⟨q0,q1,q2⟩:=u.three;obtain ⟨g0,g1,g2⟩:=u.threeF
  cases ha:Zby s (zL p s) (zL p s).length with
  | true=>
   have HQ:Hid (ZB p s=⟨s.phase,s.basis,s.pivots⟩):=JZ (by unfold ZB;rw [ha];rfl);obtain ⟨r0,r1,r2⟩:=d.three;obtain ⟨f0,f1,f2⟩:=d.threeF;go_wp2;refine Zn Tryz.results40 Tryz.underlying29 (by kernel_rfl) rfl (((d.set_ 0 _).set_ 1 _).set_ 2 _) rfl ?_;rw [HQ.out];have k4:=((Ze.setCell d 0 (.int .i64 s.phase)).trans (Ze.setCell (d.set_ 0 (.int .i64 s.phase)) 1 (.slice A1 n1 c1))).trans (Ze.setCell ((d.set_ 0 (.int .i64 s.phase)).set_ 1 (.slice A1 n1 c1)) 2 (.int .i64 s.pivots));exact ⟨_,rfl,⟨A1,n1,c1,rfl,(V.but k4 (by decide)).monoB a8⟩,((x.setCell (p:=⟨w.heap.size+1+1,0,none⟩) (by simp;omega) _).setCell (p:=⟨w.heap.size+1+1,1,none⟩) (by simp;omega) _).setCell (p:=⟨w.heap.size+1+1,2,none⟩) (by simp;omega) _⟩
  | false=>
   have HQ:Hid (ZB p s=⟨2,s.basis,s.pivots⟩):=JZ (by unfold ZB;rw [ha];rfl)
   go_upto_region 5 with (fail)
   have aj:Bk (w7.setCell ⟨g,0,none⟩ (.int .i64 2)) g 29 [.int .i64 2,.slice A1 n1 c1,.int .i64 s.pivots]:=u.set_ 0 (.int .i64 2);have ak:=V.but (Ze.setCell u 0 (.int .i64 2)) (by decide);have m:=d.far (p:=⟨g,0,none⟩) (show w.heap.size+1+1≠g by omega) (.int .i64 2);have a9:=x.setCell (p:=⟨g,0,none⟩) (show w.heap.size≤g by omega) (.int .i64 2);clear q0 q1 q2 g0 g1 g2 u V d x;generalize w7.setCell ⟨g,0,none⟩ (.int .i64 2)=W8 at *;obtain ⟨q0,q1,q2⟩:=aj.three;obtain ⟨r0,r1,r2⟩:=m.three;obtain ⟨f0,f1,f2⟩:=m.threeF;go_wp2;refine Zn Tryz.results40 Tryz.underlying29 (by kernel_rfl) rfl (((m.set_ 0 _).set_ 1 _).set_ 2 _) rfl ?_;rw [HQ.out];have k4:=((Ze.setCell m 0 (.int .i64 2)).trans (Ze.setCell (m.set_ 0 (.int .i64 2)) 1 (.slice A1 n1 c1))).trans (Ze.setCell ((m.set_ 0 (.int .i64 2)).set_ 1 (.slice A1 n1 c1)) 2 (.int .i64 s.pivots));exact ⟨_,rfl,⟨A1,n1,c1,rfl,(ak.but k4 (by decide)).monoB a8⟩,((a9.setCell (p:=⟨w.heap.size+1+1,0,none⟩) (by simp;omega) _).setCell (p:=⟨w.heap.size+1+1,1,none⟩) (by simp;omega) _).setCell (p:=⟨w.heap.size+1+1,2,none⟩) (by simp;omega) _⟩
end Go.Proofs.YtgbhebappffbdaaGreat
