/- Lemmas of the claim; no condition. -/
import Derived.OpenShut
import Derived.Test.YtgbhebappffbdaaGreatW4
set_option linter.all false
set_option maxRecDepth 100000
set_option maxHeartbeats 40000000
namespace Go.Proofs.YtgbhebappffbdaaGreat
open Go.RowKit
open Pl
attribute [local go_sem ↓] Go.wp_at_zero Go.wp_at_succ
namespace Pl
def V9 (es:List En) (ys:List RF) (k:Nat):Rat:=ZN (fun i=>match es[i]? with | some e=>e.f.q * qAt ys e.idx.toNat | none=>0) k
theorem Zbu {es:List En} {k:Nat} {e:En} (h:es[k]? =some e) (ys:List RF):V9 es ys (k+1)=V9 es ys k+e.f.q * qAt ys e.idx.toNat:=by
 unfold V9;rw [ZC,h]
theorem Zme {es:List En} {ys:List RF} {K:Nat} (he:∀(k:Nat) (e:En),es[k]? =some e→e.f.Rs K) (hy:RsL K ys) (hK:1≤K) (k:Nat):Sz (1+k * (2 * K+1)) (V9 es ys k):=
 Zkk fun i _=>by
  split
  ·rename_i e h
   exact (XO ((he i e h).sz hK) (hy.qAt hK _)).mono (by omega)
  ·exact Sz_zero.mono (by omega)
end Pl
theorem Zdq (w:World):Calls Tryz.prog 35 #[.int .i64 0,.int .i64 1] w fun e w'=>∃v',e= .returned (.tuple #[v',.int .i64 0])∧Zw w' v' (canF 0)∧Below w.heap.size w w':=by
 refine (VJ 0 1 w (by omega) (by omega) (by omega) (by omega)).mono ?_;rintro e w' ⟨v',h1,h2,h3⟩;rw [if_neg (by omega)] at h1 h2;rw [Rat.zero_divInt] at h2;exact ⟨v',h1,h2,h3⟩
def Yev (q:Rat) (w:World) (g:Nat) (wr:World):Prop:=
 ∃(A A':Option Addr) (n c n' c':Nat),Bk wr g 46 [.bool (canF q).num.neg,.slice A n c,.bool (canF q).den.neg,.slice A' n' c']∧Zw wr (.agg #[.bool (canF q).num.neg,.slice A n c,.bool (canF q).den.neg,.slice A' n' c']) (canF q)∧
  Bk wr w.heap.size 46 [.bool false,.slice none 0 0,.bool false,.slice none 0 0]∧Below w.heap.size w wr∧w.heap.size < g
theorem Uu (v1 v2:Value) (xs ys:List RF) (K:Nat) (w:World) (h1:Y1 w v1 xs) (h2:Y1 w v2 ys) (hlen:xs.length≤ys.length) (hK:1≤K) (ha:RsL K xs) (hb:RsL K ys) (hs:1+xs.length * (2 * K+1)≤34359738368) (hs2:2 * K≤34359738368):
 Calls Tryz.prog 52 #[v1,v2] w fun e w'=>∃v',e= .returned v'∧Zw w' v' (canF (Xv xs ys xs.length))∧Below w.heap.size w w':=by
 obtain ⟨A,c,rfl,aa,ab⟩:=h1.shape;obtain ⟨A',c',rfl,ac,ad⟩:=h2.shape;generalize hn:xs.length=l at *;generalize hm:ys.length=m at *;have HN:=JZ hn;have HM:=JZ hm;have HA:=JZ ha;have HB:=JZ hb;have HS:=JZ hs;obtain ⟨TQ,y⟩:∃TQ:Nat→Rat,TQ=Xv xs ys:=⟨_,rfl⟩;rw [← y];have I:=JZ y;have R:Hid ((0:Rat)=TQ 0):=JZ (by rw [y];rfl);clear hn hm ha hb hs y;obtain ⟨W,hW,hR,j⟩:=YR w (.bool false) (.slice none 0 0) (.bool false) (.slice none 0 0);go_enter Tryz.func52,Tryz.ntmps52;go_wp2_with fail;clear hW;refine (Zdq _).mono ?_;rw [R.out];rintro e w1 ⟨v1,rfl,e1,F⟩;obtain ⟨B,l0,d,B',z,d',rfl,_,_⟩:=id e1;have hX:=Bk.new w1 46 [.bool (canF (TQ 0)).num.neg,.slice B l0 d,.bool (canF (TQ 0)).den.neg,.slice B' z d'];have bn:=Zi w1 (.cells [.bool (canF (TQ 0)).num.neg,.slice B l0 d,.bool (canF (TQ 0)).den.neg,.slice B' z d'].toArray 46);have b1:=Za j F j.size;have start:Yev (TQ 0) w w1.heap.size (w1.alloc (.cells #[.bool (canF (TQ 0)).num.neg,.slice B l0 d,.bool (canF (TQ 0)).den.neg,.slice B' z d'] 46)):=
  ⟨B,B',l0,d,z,d',hX,e1.below bn,(hR.later F).later bn,Za b1 bn b1.size,(hR.later F).lt⟩
 have ST:=JZ start;clear start hX bn b1 hR j F e1;generalize canF (TQ 0)=D0 at *;go_wp2
 go_loopw [15] (fun i wr=>∃k:Nat,k≤l∧i= .int .i64 k∧Yev (TQ k) w w1.heap.size wr) (fun i _=>l - (intOf i).toNat)
 case atStart=>exact ⟨0,by omega,rfl,ST.out⟩
 case round=>
  obtain ⟨k,hk,rfl,C,C',p,q,p',q',hX,hF,hR,j,hg⟩:=hrel;rcases JX k l with hkl | hkl
  ·obtain ⟨f,hf⟩:=ZH (fs:=xs) (i:=k) (by rw [HN.out];exact hkl);obtain ⟨f',D⟩:=ZH (fs:=ys) (i:=k) (by rw [HM.out];omega);obtain ⟨b,ae,A1,n1,k1,A2,n2,k2,rfl,af,a3,N⟩:=h1.elem j hf;obtain ⟨x1,x2,x3,x4⟩:=a3;obtain ⟨W1,a4,hV,x⟩:=YR wr (.bool f.num.neg) (.slice A1 n1 k1) (.bool f.den.neg) (.slice A2 n2 k2);have t:=Za j x j.size;obtain ⟨b',r,A3,n3,k3,A4,n4,k4,rfl,a7,H,O⟩:=h2.elem t D;have T:=N.below x;have s:=hX.later x;have U:=hR.later x;have V:=hF.below x;have a8:(k:Int) < l:=(by omega);have a9:(k:Int) < m:=(by omega);have G:=HA.out k f hf;have u:=HB.out k f' D;have X:=G.sm (by omega);have J:=u.sm (by omega);have Y:(canF (f.q * f'.q)).Sm:=((XO (G.sz hK) (u.sz hK)).sh (by omega)).sm;have Z:(canF (TQ k)).Sm:=by
    rw [I.out];refine ((Zfx HA.out HB.out hK).sh ?_).sm;have:=JS (2 * K+1) hk;have:=HS.out;omega
   have HV:Hid ((canF (TQ k)).q+(canF (f.q * f'.q)).q=TQ (k+1)):=JZ (by rw [Zr,Zr,I.out,Zon,ZF hf,ZF D]);generalize canF (TQ k)=DK at *;clear hf D hX hR hF j N;go_wp2_with fail;clear a4;refine wp_region_noPanic ?_;refine Us (S:=fun w'=>(w'.cell? ⟨w1.heap.size,0,none⟩=some (.bool DK.num.neg)∧w'.cell? ⟨w1.heap.size,1,none⟩=some (.slice C p q)∧w'.cell? ⟨w1.heap.size,2,none⟩=some (.bool DK.den.neg)∧w'.cell? ⟨w1.heap.size,3,none⟩=some (.slice C' p' q'))∧(w'.cell? ⟨wr.heap.size,0,none⟩=some (.bool f.num.neg)∧w'.cell? ⟨wr.heap.size,1,none⟩=some (.slice A1 n1 k1)∧w'.cell? ⟨wr.heap.size,2,none⟩=some (.bool f.den.neg)∧w'.cell? ⟨wr.heap.size,3,none⟩=some (.slice A2 n2 k2))∧(w'.cell? ⟨b',r+k * 4,none⟩=some (.bool f'.num.neg)∧w'.cell? ⟨b',r+k * 4+1,none⟩=some (.slice A3 n3 k3)∧w'.cell? ⟨b',r+k * 4+2,none⟩=some (.bool f'.den.neg)∧w'.cell? ⟨b',r+k * 4+3,none⟩=some (.slice A4 n4 k4))) (n:=8) (by kernel_rfl) ?_ (fun hHeld=>?_)
   ·exact ⟨s.drew.four,hV.drew.four,H⟩
   refine Zo (i:=0) (v:=?_) rfl (by kernel_rfl) (by kernel_rfl) (by kernel_rfl) (by kernel_rfl) (fun _ _ _ h=>h) (Or.inl ⟨by rfl,?y1⟩) (by assumption) ?_
   case y1=>(intro _ g;(try dsimp only at g);go_simp;(try with_reducible rfl))
   (try simp only [pu]);refine Zo (i:=1) (v:=?_) rfl (by kernel_rfl) (by kernel_rfl) (by kernel_rfl) (by kernel_rfl) (fun _ _ _ h=>h) (Or.inl ⟨by rfl,?y2⟩) (by assumption) ?_
   case y2=>(intro _ g;(try dsimp only at g);go_simp;(try with_reducible rfl))
   (try simp only [pu]);refine Zo (i:=2) (v:=?_) rfl (by kernel_rfl) (by kernel_rfl) (by kernel_rfl) (by kernel_rfl) (fun _ _ _ h=>h) (Or.inl ⟨by rfl,?y3⟩) (by assumption) ?_
   case y3=>(intro _ g;(try dsimp only at g);go_simp;(try with_reducible rfl))
   (try simp only [pu]);refine Zo (i:=3) (v:=?_) rfl (by kernel_rfl) (by kernel_rfl) (by kernel_rfl) (by kernel_rfl) (fun _ _ _ h=>h) (Or.inl ⟨by rfl,?y4⟩) (by assumption) ?_
   case y4=>(intro _ g;(try dsimp only at g);go_simp;(try with_reducible rfl))
   (try simp only [pu]);refine Zo (i:=4) (v:=?_) rfl (by kernel_rfl) (by kernel_rfl) (by kernel_rfl) (by kernel_rfl) (fun _ _ _ h=>h) (Or.inl ⟨by rfl,?y5⟩) (by assumption) ?_
   case y5=>(intro _ g;(try dsimp only at g);go_simp;(try with_reducible rfl))
   (try simp only [pu]);refine Zo (i:=5) (v:=?_) rfl (by kernel_rfl) (by kernel_rfl) (by kernel_rfl) (by kernel_rfl) (fun _ _ _ h=>h) (Or.inl ⟨by rfl,?y6⟩) (by assumption) ?_
   case y6=>(intro _ g;(try dsimp only at g);go_simp;(try with_reducible rfl))
   (try simp only [pu]);refine XD (i:=6) (by kernel_rfl) rfl (fun _ kq=>?_);go_simp;(with_reducible refine (WL _ _ f f' _ (T.keep (ZG.drew _)) (O.keep (ZG.drew _)) X J).mono ?_);rintro e w8 ⟨v8,rfl,e8,a⟩;refine kq.out _ _ ?_ (fun hHeld=>?_)
   ·exact ⟨(s.drew.later a).four,(hV.drew.later a).four,ZB a H⟩
   clear kq;(try simp only [pu]);refine XD (i:=7) (by kernel_rfl) rfl (fun _ kq=>?_);go_simp;(with_reducible refine (Zas _ _ DK (canF (f.q * f'.q)) _ ((V.keep (ZG.drew _)).below a) e8 Z Y).mono ?_);rw [HV.out];rintro e w9 ⟨v9,rfl,e9,o⟩;obtain ⟨E,l9,k9,E',a5,a6,rfl,_,_⟩:=id e9;obtain ⟨c0,c1,c2,c3⟩:=((s.drew.later a).later o).four;obtain ⟨f0,f1,f2,f3⟩:=((s.drew.later a).later o).fourF;refine kq.out _ _ ?_ (fun hHeld=>?_)
   ·exact ⟨((s.drew.later a).later o).four,((hV.drew.later a).later o).four,ZB o (ZB a H)⟩
   clear kq;(try simp only [pu]);refine V6 (i:=8) (by kernel_rfl) rfl (by decide) (fun _ kq=>?_);go_simp;refine kq.out _ _ ?_;clear kq;(try simp only [pu]);refine Vu (by kernel_rfl) (NoPanic.normal ?_) _;have L:=(s.drew.later a).later o;have M:=Za t.drew a t.size;have a0:=Za M o M.size;have a1:=((U.drew.later a).later o).far4 (show w.heap.size≠w1.heap.size by omega);go_wp2;go_roundw
   case rel=>exact ⟨k+1,by omega,by go_num,E,E',l9,k9,a5,a6,L.set4 _ _ _ _,e9.keep (L.keep4 (by decide) _ _ _ _),a1 _ _ _ _,ZI a0 (by omega) _ _ _ _,hg⟩
   case measure=>simp [intOf];omega
  ·obtain rfl:k=l:=by omega
   obtain ⟨x1,x2,x3,x4⟩:=hX.four;obtain ⟨c0,c1,c2,c3⟩:=hR.four;obtain ⟨f0,f1,f2,f3⟩:=hR.fourF;generalize P:canF (TQ k)=DK at *;have a2:=JZ P;clear P;go_wp2;refine Zp Tryz.results52 Tryz.underlying46 (by kernel_rfl) rfl (hR.set4 _ _ _ _) rfl ?_;rw [a2.out];exact Yk hR hF j (JY _)
theorem Zop (v1 v2:Value) (es:List En) (ys:List RF) (K:Nat) (w:World) (h1:V7 w v1 es) (h2:Y1 w v2 ys) (hin:inR ys.length es) (hK:1≤K) (ha:∀(k:Nat) (e:En),es[k]? =some e→e.f.Rs K) (hb:RsL K ys) (hs:1+es.length * (2 * K+1)≤34359738368) (hs2:2 * K≤34359738368):
 Calls Tryz.prog 51 #[v1,v2] w fun e w'=>∃v',e= .returned v'∧Zw w' v' (canF (V9 es ys es.length))∧Below w.heap.size w w':=by
 obtain ⟨A,c,rfl,ac,ad⟩:=h1.shape;obtain ⟨A',c',rfl,ae,af⟩:=h2.shape;generalize hn:es.length=l at *;generalize hm:ys.length=m at *;have HN:=JZ hn;have HM:=JZ hm;have HA:=JZ ha;have HB:=JZ hb;have HS:=JZ hs;have HI:=JZ hin;obtain ⟨TQ,z⟩:∃TQ:Nat→Rat,TQ=V9 es ys:=⟨_,rfl⟩;rw [← z];have J:=JZ z;have T:Hid ((0:Rat)=TQ 0):=JZ (by rw [z];rfl);clear hn hm ha hb hs z hin;obtain ⟨W,hW,hR,o⟩:=YR w (.bool false) (.slice none 0 0) (.bool false) (.slice none 0 0);go_enter Tryz.func51,Tryz.ntmps51;go_wp2_with fail;clear hW;refine (Zdq _).mono ?_;rw [T.out];rintro e w1 ⟨v1,rfl,e1,G⟩;obtain ⟨B,l0,d,B',D,d',rfl,_,_⟩:=id e1;have hX:=Bk.new w1 46 [.bool (canF (TQ 0)).num.neg,.slice B l0 d,.bool (canF (TQ 0)).den.neg,.slice B' D d'];have bn:=Zi w1 (.cells [.bool (canF (TQ 0)).num.neg,.slice B l0 d,.bool (canF (TQ 0)).den.neg,.slice B' D d'].toArray 46);have b1:=Za o G o.size;have start:Yev (TQ 0) w w1.heap.size (w1.alloc (.cells #[.bool (canF (TQ 0)).num.neg,.slice B l0 d,.bool (canF (TQ 0)).den.neg,.slice B' D d'] 46)):=
  ⟨B,B',l0,d,D,d',hX,e1.below bn,(hR.later G).later bn,Za b1 bn b1.size,(hR.later G).lt⟩
 have ST:=JZ start;clear start hX bn b1 hR o G e1;generalize canF (TQ 0)=D0 at *;go_wp2
 go_loopw [15] (fun i wr=>∃k:Nat,k≤l∧i= .int .i64 k∧Yev (TQ k) w w1.heap.size wr) (fun i _=>l - (intOf i).toNat)
 case atStart=>exact ⟨0,by omega,rfl,ST.out⟩
 case round=>
  obtain ⟨k,hk,rfl,C,C',p,q,p',q',hX,hF,hR,o,hg⟩:=hrel;rcases JX k l with hkl | hkl
  ·obtain ⟨e,he⟩:=Y3 (es:=es) (i:=k) (by rw [HN.out];exact hkl);obtain ⟨b,ag,A1,n1,k1,A2,n2,k2,rfl,ah,a5,O⟩:=h1.elem o he;obtain ⟨i0,i1⟩:=HI.out k e he;obtain ⟨j,hj⟩:=JT i0;obtain ⟨f',F⟩:=ZH (fs:=ys) (i:=j) (by rw [HM.out];omega);have U:=JZ (Zbu he ys);have H:=HA.out k e he;obtain ⟨ei,f⟩:=e;simp only at *;subst hj;obtain ⟨x0,x1,x2,x3,x4⟩:=a5;obtain ⟨W1,a6,hV,y⟩:=Zdo wr (.int .i64 (j:Int)) (.bool f.num.neg) (.slice A1 n1 k1) (.bool f.den.neg) (.slice A2 n2 k2);have u:=Za o y o.size;obtain ⟨b',s,A3,n3,k3,A4,n4,k4,rfl,a9,I,P⟩:=h2.elem u F;have V:=O.below y;have t:=hX.later y;have X:=hR.later y;have Y:=hF.below y;have aa:(k:Int) < l:=(by omega);have ab:(j:Int) < m:=(by omega);have x:=HB.out j f' F;have Z:=H.sm (by omega);have L:=x.sm (by omega);have a0:(canF (f.q * f'.q)).Sm:=((XO (H.sz hK) (x.sz hK)).sh (by omega)).sm;have a1:(canF (TQ k)).Sm:=by
    rw [J.out];refine ((Zme HA.out HB.out hK k).sh ?_).sm;have:=JS (2 * K+1) hk;have:=HS.out;omega
   have HV:Hid ((canF (TQ k)).q+(canF (f.q * f'.q)).q=TQ (k+1)):=JZ (by rw [Zr,Zr,J.out,U.out,JP,ZF F]);generalize canF (TQ k)=DK at *;clear he F hX hR hF o O;go_wp2_with fail;clear a6;refine wp_region_noPanic ?_;refine Us (S:=fun w'=>(w'.cell? ⟨w1.heap.size,0,none⟩=some (.bool DK.num.neg)∧w'.cell? ⟨w1.heap.size,1,none⟩=some (.slice C p q)∧w'.cell? ⟨w1.heap.size,2,none⟩=some (.bool DK.den.neg)∧w'.cell? ⟨w1.heap.size,3,none⟩=some (.slice C' p' q'))∧(w'.cell? ⟨wr.heap.size,0,none⟩=some (.int .i64 (j:Int))∧w'.cell? ⟨wr.heap.size,1,none⟩=some (.bool f.num.neg)∧w'.cell? ⟨wr.heap.size,2,none⟩=some (.slice A1 n1 k1)∧w'.cell? ⟨wr.heap.size,3,none⟩=some (.bool f.den.neg)∧w'.cell? ⟨wr.heap.size,4,none⟩=some (.slice A2 n2 k2))∧(w'.cell? ⟨b',s+j * 4,none⟩=some (.bool f'.num.neg)∧w'.cell? ⟨b',s+j * 4+1,none⟩=some (.slice A3 n3 k3)∧w'.cell? ⟨b',s+j * 4+2,none⟩=some (.bool f'.den.neg)∧w'.cell? ⟨b',s+j * 4+3,none⟩=some (.slice A4 n4 k4))) (n:=10) (by kernel_rfl) ?_ (fun hHeld=>?_)
   ·exact ⟨t.drew.four,hV.drew.five,I⟩
   refine Zo (i:=0) (v:=?_) rfl (by kernel_rfl) (by kernel_rfl) (by kernel_rfl) (by kernel_rfl) (fun _ _ _ h=>h) (Or.inl ⟨by rfl,?y7⟩) (by assumption) ?_
   case y7=>(intro _ a;(try dsimp only at a);go_simp;(try with_reducible rfl))
   (try simp only [pu]);refine Zo (i:=1) (v:=?_) rfl (by kernel_rfl) (by kernel_rfl) (by kernel_rfl) (by kernel_rfl) (fun _ _ _ h=>h) (Or.inl ⟨by rfl,?y8⟩) (by assumption) ?_
   case y8=>(intro _ a;(try dsimp only at a);go_simp;(try with_reducible rfl))
   (try simp only [pu]);refine Zo (i:=2) (v:=?_) rfl (by kernel_rfl) (by kernel_rfl) (by kernel_rfl) (by kernel_rfl) (fun _ _ _ h=>h) (Or.inl ⟨by rfl,?y9⟩) (by assumption) ?_
   case y9=>(intro _ a;(try dsimp only at a);go_simp;(try with_reducible rfl))
   (try simp only [pu]);refine Zo (i:=3) (v:=?_) rfl (by kernel_rfl) (by kernel_rfl) (by kernel_rfl) (by kernel_rfl) (fun _ _ _ h=>h) (Or.inl ⟨by rfl,?y10⟩) (by assumption) ?_
   case y10=>(intro _ a;(try dsimp only at a);go_simp;(try with_reducible rfl))
   (try simp only [pu]);refine Zo (i:=4) (v:=?_) rfl (by kernel_rfl) (by kernel_rfl) (by kernel_rfl) (by kernel_rfl) (fun _ _ _ h=>h) (Or.inl ⟨by rfl,?y11⟩) (by assumption) ?_
   case y11=>(intro _ a;(try dsimp only at a);go_simp;(try with_reducible rfl))
   (try simp only [pu]);refine Zo (i:=5) (v:=?_) rfl (by kernel_rfl) (by kernel_rfl) (by kernel_rfl) (by kernel_rfl) (fun _ _ _ h=>h) (Or.inl ⟨by rfl,?y12⟩) (by assumption) ?_
   case y12=>(intro _ a;(try dsimp only at a);go_simp;(try with_reducible rfl))
   (try simp only [pu]);refine Zo (i:=6) (v:=?_) rfl (by kernel_rfl) (by kernel_rfl) (by kernel_rfl) (by kernel_rfl) (fun _ _ _ h=>h) (Or.inl ⟨by rfl,?y13⟩) (by assumption) ?_
   case y13=>(intro _ a;(try dsimp only at a);go_simp;(try with_reducible rfl))
   (try simp only [pu]);refine Zo (i:=7) (v:=?_) rfl (by kernel_rfl) (by kernel_rfl) (by kernel_rfl) (by kernel_rfl) (fun _ _ _ h=>h) (Or.inl ⟨by rfl,?y14⟩) (by assumption) ?_
   case y14=>(intro _ a;(try dsimp only at a);go_simp;(try with_reducible rfl))
   (try simp only [pu]);refine XD (i:=8) (by kernel_rfl) rfl (fun _ kq=>?_);go_simp;(with_reducible refine (WL _ _ f f' _ (V.keep (ZG.drew _)) (P.keep (ZG.drew _)) Z L).mono ?_);rintro e w8 ⟨v8,rfl,e8,g⟩;refine kq.out _ _ ?_ (fun hHeld=>?_)
   ·exact ⟨(t.drew.later g).four,(hV.drew.later g).five,ZB g I⟩
   clear kq;(try simp only [pu]);refine XD (i:=9) (by kernel_rfl) rfl (fun _ kq=>?_);go_simp;(with_reducible refine (Zas _ _ DK (canF (f.q * f'.q)) _ ((Y.keep (ZG.drew _)).below g) e8 a1 a0).mono ?_);rw [HV.out];rintro e w9 ⟨v9,rfl,e9,r⟩;obtain ⟨E,l9,k9,E',a7,a8,rfl,_,_⟩:=id e9;obtain ⟨c0,c1,c2,c3⟩:=((t.drew.later g).later r).four;obtain ⟨f0,f1,f2,f3⟩:=((t.drew.later g).later r).fourF;refine kq.out _ _ ?_ (fun hHeld=>?_)
   ·exact ⟨((t.drew.later g).later r).four,((hV.drew.later g).later r).five,ZB r (ZB g I)⟩
   clear kq;(try simp only [pu]);refine V6 (i:=10) (by kernel_rfl) rfl (by decide) (fun _ kq=>?_);go_simp;refine kq.out _ _ ?_;clear kq;(try simp only [pu]);refine Vu (by kernel_rfl) (NoPanic.normal ?_) _;have M:=(t.drew.later g).later r;have N:=Za u.drew g u.size;have a2:=Za N r N.size;have a3:=((X.drew.later g).later r).far4 (show w.heap.size≠w1.heap.size by omega);go_wp2;go_roundw
   case rel=>exact ⟨k+1,by omega,by go_num,E,E',l9,k9,a7,a8,M.set4 _ _ _ _,e9.keep (M.keep4 (by decide) _ _ _ _),a3 _ _ _ _,ZI a2 (by omega) _ _ _ _,hg⟩
   case measure=>simp [intOf];omega
  ·obtain rfl:k=l:=by omega
   obtain ⟨x1,x2,x3,x4⟩:=hX.four;obtain ⟨c0,c1,c2,c3⟩:=hR.four;obtain ⟨f0,f1,f2,f3⟩:=hR.fourF;generalize R:canF (TQ k)=DK at *;have a4:=JZ R;clear R;go_wp2;refine Zp Tryz.results51 Tryz.underlying46 (by kernel_rfl) rfl (hR.set4 _ _ _ _) rfl ?_;rw [a4.out];exact Yk hR hF o (JY _)
namespace Pl
theorem Wi (f g:Nat→Rat) (n:Nat):ZN (fun i=>f i+g i) n=ZN f n+ZN g n:=by
 induction n with
 | zero=>simp [Y2,Rat.add_zero]
 | succ n ih=>rw [ZC,ZC,ZC,ih];grind
theorem YG (c:Rat) (f:Nat→Rat) (n:Nat):ZN (fun i=>c * f i) n=c * ZN f n:=by
 induction n with
 | zero=>simp [Y2,Rat.mul_zero]
 | succ n ih=>rw [ZC,ZC,ih];grind
theorem XY (n:Nat):ZN (fun _=>0) n=0:=by
 induction n with
 | zero=>rfl
 | succ n ih=>rw [ZC,ih,Rat.add_zero]
theorem WO (f:Nat→Nat→Rat) (n m:Nat):ZN (fun i=>ZN (fun j=>f i j) m) n=ZN (fun j=>ZN (fun i=>f i j) n) m:=by
 induction n with
 | zero=>simp only [Y2];rw [XY]
 | succ n ih=>
  rw [ZC,ih,← Wi];rfl
theorem Zif {f g:Nat→Rat} {n:Nat} (h:∀i,i < n→f i≤g i):ZN f n≤ZN g n:=by
 induction n with
 | zero=>exact Rat.le_refl
 | succ n ih=>
  have h1:=ih fun i hi=>h i (by omega)
  have h2:=h n (by omega);rw [ZC,ZC];grind
theorem Zrw {f:Nat→Rat} {n:Nat} (h:∀i,i < n→0≤f i):0≤ZN f n:=by
 have:=Zif h
 rwa [XY] at this
theorem XU {n k:Nat} (hk:k < n) (c:Rat):ZN (fun i=>if i=k then c else 0) n=c:=by
 induction n with
 | zero=>omega
 | succ n ih=>
  rw [ZC];by_cases h:n=k
  ·subst h;rw [if_pos rfl,Zh (g:=fun _=>0) (fun i hi=>if_neg (by omega)),XY,Rat.zero_add]
  ·rw [if_neg h,ih (by omega),Rat.add_zero]
def Zgf (ys:List RF) (f:Nat→Rat) (m:Nat):Rat:=ZN (fun i=>qAt ys i * f i) m
theorem Zig {ys:List RF} {f:Nat→Rat} {m:Nat}:Xv ys (ZQ m f) m=Zgf ys f m:=Zh fun i hi=>by rw [Yr hi]
theorem Zih {es:List En} {ys:List RF} {m:Nat} (hin:inR m es) (hinc:Inc none es):∀k,k≤es.length→V9 es ys k=Zgf ys (dQ (es.take k) fun _=>0) m:=by
 intro k
 induction k with
 | zero=>
  intro _;show 0=_;unfold Zgf;rw [Zh (g:=fun _=>0) (fun i _=>by simp [dQ,Rat.mul_zero]),XY]
 | succ k ih=>
  intro hk;obtain ⟨e,he⟩:∃e,es[k]? =some e:=⟨es[k],JQ (by omega)⟩;obtain ⟨h0,h1⟩:=hin k e he;obtain ⟨d,hd⟩:=JT h0;have a:d < m:=by omega
  rw [Zbu he,ih (by omega),Zrt he];have hf:dQ (es.take k) (fun _=>0) d=0:=Zul hinc he hd;have:Zgf ys (fun i=>if e.idx=(i:Int) then e.f.q else dQ (es.take k) (fun _=>0) i) m=ZN (fun i=>qAt ys i * dQ (es.take k) (fun _=>0) i+if i=d then qAt ys d * e.f.q else 0) m:=Zh fun i _=>by
   show qAt ys i * (if e.idx=(i:Int) then e.f.q else dQ (es.take k) (fun _=>0) i)=_;by_cases hi:i=d
   ·subst hi;rw [if_pos hd,if_pos rfl,hf];grind
   ·rw [if_neg (show ¬e.idx=(i:Int) by omega),if_neg hi,Rat.add_zero]
  rw [this,Wi,XU a];unfold Zgf;rw [hd,JP,Rat.mul_comm e.f.q]
theorem Zkp {es:List En} {ys:List RF} {m:Nat} (hin:inR m es) (hinc:Inc none es):V9 es ys es.length=Zgf ys (Vj es) m:=by
 rw [Zih hin hinc _ (JY _),List.take_length];rfl
def Zgg (p:LPd) (ys:List RF) (k:Nat):Prop:=∀j,j < k→Zgf ys (p.col (j:Int)) p.right.length≤qAt p.cost j
instance (p:LPd) (ys:List RF) (k:Nat):Decidable (Zgg p ys k):=by unfold Zgg;infer_instance
def Zgh (p:LPd) (ys:List RF):Bool:=decide (lpErr p=0) && (decide (ys.length=p.right.length) && decide (Zgg p ys p.cols.length))
theorem Ymd {p:LPd} {ys:List RF} (h:lpErr p≠0):Zgh p ys=false:=by simp [Zgh,h]
theorem Yme {p:LPd} {ys:List RF} (h:ys.length≠p.right.length):Zgh p ys=false:=by simp [Zgh,h]
theorem Ymf {p:LPd} {ys:List RF} {j:Nat} (hj:j < p.cols.length) (h:¬Zgf ys (p.col (j:Int)) p.right.length≤qAt p.cost j):Zgh p ys=false:=by
 have:¬Zgg p ys p.cols.length:=fun g=>h (g j hj)
 simp [Zgh,this]
theorem Yaf {p:LPd} {ys:List RF} (h1:lpErr p=0) (h2:ys.length=p.right.length) (h:Zgg p ys p.cols.length):Zgh p ys=true:=by
 unfold Zgh;rw [decide_eq_true h1,decide_eq_true h2,decide_eq_true h];rfl
theorem Zor {p:LPd} {ys:List RF} (h:Zgh p ys=true):lpErr p=0∧ys.length=p.right.length∧Zgg p ys p.cols.length:=by
 simpa [Zgh] using h
theorem Zwx (p:LPd) (ys:List RF):Zgg p ys 0:=fun j h=>by omega
theorem Zwy {p:LPd} {ys:List RF} {k:Nat} (h:Zgg p ys k) (h1:Zgf ys (p.col (k:Int)) p.right.length≤qAt p.cost k):Zgg p ys (k+1):=fun j hj=>by
 rcases Nat.eq_or_lt_of_le (Nat.le_of_lt_succ hj) with e | e
 ·subst e;exact h1
 ·exact h j e
theorem Wj {q:Rat}:qs q < 0↔q < 0:=by
 have h:qs q < 0↔q.num < 0:=by unfold qs sgn;split <;> rename_i h <;> (try split) <;> omega
 rw [h,← Rat.not_le,← Rat.num_nonneg];omega
theorem Wl {q:Rat}:0 < qs q↔0 < q:=by
 have h:0 < qs q↔0 < q.num:=by unfold qs sgn;split <;> rename_i h <;> (try split) <;> omega
 have h2:q.num=0↔q=0:=Rat.num_eq_zero;have h3:0≤q.num↔0≤q:=Rat.num_nonneg;rw [h];constructor
 ·intro g;have:q≠0:=fun e=>by have:=h2.2 e;omega
  have:=h3.1 (by omega);grind
 ·intro g;have h4:q.num≠0:=fun e=>by have:=h2.1 e;grind
  have:=h3.2 (by grind);omega
theorem Ymg {q:Rat}:qs q≤0↔q≤0:=by
 have:=@Wl q;rw [← Rat.not_lt,← this];omega
theorem Zev {a b:Rat}:0 < qs (a - b)↔¬a≤b:=by rw [Wl];grind
theorem weak {p:LPd} {xs ys:List RF} (hlow:Zgg p ys p.cols.length) (hx:∀j,j < p.cols.length→0≤qAt xs j) (hr:∀i,i < p.right.length→Ym p xs p.cols.length i=qAt p.right i):
 Xv ys p.right p.right.length≤Xv p.cost xs p.cols.length:=by
 have h1:Xv ys p.right p.right.length=ZN (fun i=>ZN (fun j=>qAt ys i * (qAt xs j * p.col (j:Int) i)) p.cols.length) p.right.length:=Zh fun i hi=>by
  show qAt ys i * qAt p.right i=_;rw [← hr i hi,YG];rfl
 rw [h1,WO];refine Zif fun j hj=>?_
 have h2:ZN (fun i=>qAt ys i * (qAt xs j * p.col (j:Int) i)) p.right.length=qAt xs j * Zgf ys (p.col (j:Int)) p.right.length:=by
  unfold Zgf;rw [← YG];exact Zh fun i _=>by grind
 rw [h2,Rat.mul_comm (qAt p.cost j)];exact Rat.mul_le_mul_of_nonneg_left (hlow j hj) (hx j hj)
end Pl
namespace Pl
theorem Zgq (f g:Nat→Rat) (n:Nat):ZN (fun i=>f i - g i) n=ZN f n - ZN g n:=by
 induction n with
 | zero=>rw [Y2,Y2,Y2];grind
 | succ n ih=>rw [ZC,ZC,ZC,ih];grind
theorem WP {f:Nat→Rat} {n:Nat} (h:∀i,i < n→f i=0):ZN f n=0:=by
 rw [Zh h];exact XY n
theorem Xj {f:Nat→Rat} {n k:Nat} (hk:k < n) (h:∀i,i < n→i≠k→f i=0):ZN f n=f k:=by
 rw [Zh (g:=fun i=>if i=k then f k else 0) fun i hi=>?_]
 ·exact XU hk (f k)
 ·by_cases e:i=k
  ·rw [if_pos e,e]
  ·rw [if_neg e,h i hi e]
theorem Ve {f:Nat→Rat} {n m:Nat} (hm:n≤m) (h:∀i,n≤i→i < m→f i=0):ZN f m=ZN f n:=by
 induction m with
 | zero=>
  obtain rfl:n=0:=by omega
  rfl
 | succ m ih=>
  rcases JX n (m+1) with e | e
  ·rw [ZC,h m (by omega) (by omega),ih (by omega) fun i h1 h2=>h i h1 (by omega)];grind
  ·obtain rfl:n=m+1:=by omega
   rfl
def Zkq (m:Nat) (M:Mx) (y:Nat→Rat) (r:Nat):Rat:=ZN (fun c=>M r c * y c) m
def Zgi (m:Nat) (M:Mx) (y:Nat→Rat):Prop:=∀r,r < m→Zkq m M y r=M r m
def Zkr (m k:Nat) (M:Mx):Prop:=∀r c,r < m→c < k→M r c=if r=c then 1 else 0
theorem Zos {m:Nat} {A B C:Mx} {y:Nat→Rat} {r s t:Nat} {a b:Rat} (h:∀c,c < m→A r c=a * B s c+b * C t c):Zkq m A y r=a * Zkq m B y s+b * Zkq m C y t:=by
 unfold Zkq;rw [← YG,← YG,← Wi];exact Zh fun c hc=>by rw [h c hc];grind
theorem Zgi.swap {m k t:Nat} {M:Mx} {y:Nat→Rat} (hk:k < m) (ht:t < m):Zgi m (swapM M k t) y↔Zgi m M y:=by
 have a:∀N:Mx,Zgi m N y→Zgi m (swapM N k t) y:=fun N h r hr=>by
  unfold Zkq swapM;by_cases e1:r=k
  ·simp only [if_pos e1];exact h t ht
  ·by_cases e2:r=t
   ·simp only [if_neg e1,if_pos e2];exact h k hk
   ·simp only [if_neg e1,if_neg e2];exact h r hr
 refine ⟨fun h=>?_,a M⟩;have:=a _ h;have e:swapM (swapM M k t) k t=M:=by
  funext r c
  unfold swapM;by_cases e1:r=k
  ·subst e1;simp only [if_pos];by_cases e2:t=r
   ·subst e2;simp
   ·simp [e2]
  ·by_cases e2:r=t
   ·subst e2;simp [e1]
   ·simp [e1,e2]
 rwa [e] at this
theorem Zgi.scale {m k:Nat} {M:Mx} {y:Nat→Rat} {f:Rat} (hk:k < m) (hf:f≠0) (hz:∀c,c < k→M k c=0):Zgi m (scaleTo M k (m+1) f) y↔Zgi m M y:=by
 have d:∀r,r < m→r≠k→∀c,scaleTo M k (m+1) f r c=M r c:=fun r _ hne c=>by unfold scaleTo;rw [if_neg (by omega)]
 have g:∀c,c < m+1→scaleTo M k (m+1) f k c=M k c / f:=fun c hc=>by
  unfold scaleTo;by_cases e:k≤c
  ·rw [if_pos ⟨rfl,e,hc⟩]
  ·rw [if_neg (by omega),hz c (by omega)];grind
 have hs:Zkq m (scaleTo M k (m+1) f) y k=Zkq m M y k / f:=by
  rw [Zos (B:=M) (C:=M) (s:=k) (t:=k) (a:=1 / f) (b:=0) fun c hc=>by rw [g c (by omega)];grind];grind
 constructor
 ·intro h r hr;by_cases e:r=k
  ·subst e;have:=h r hr;rw [hs,g m (by omega)] at this;have h2:Zkq m M y r / f * f=M r m / f * f:=by rw [this]
   rwa [Rat.div_mul_cancel hf,Rat.div_mul_cancel hf] at h2
  ·have:=h r hr;rw [d r hr e] at this;rw [← this];unfold Zkq;exact Zh fun c _=>by rw [d r hr e]
 ·intro h r hr;by_cases e:r=k
  ·subst e;rw [hs,g m (by omega),h r hr]
  ·rw [d r hr e,← h r hr];unfold Zkq;exact Zh fun c _=>by rw [d r hr e]
theorem Zgi.elim {m k:Nat} {M:Mx} {y:Nat→Rat} (hk:k < m) (hz:∀c,c < k→M k c=0):Zgi m (Yb M k m m) y↔Zgi m M y:=by
 have d:∀c,Yb M k m m k c=M k c:=fun c=>Uq c
 have f:∀r,r < m→r≠k→∀c,c≤m→Yb M k m m r c=M r c - M r k * M k c:=fun r hr hne c hc=>by
  unfold Yb;by_cases e:k≤c
  ·rw [if_pos ⟨hne,hr,e,hc⟩]
  ·rw [if_neg (by omega),hz c (by omega)];grind
 have hs:∀r,r < m→r≠k→Zkq m (Yb M k m m) y r=Zkq m M y r - M r k * Zkq m M y k:=fun r hr hne=>by
  rw [Zos (B:=M) (C:=M) (s:=r) (t:=k) (a:=1) (b:= -(M r k)) fun c hc=>by rw [f r hr hne c (by omega)];grind];grind
 have g:Zkq m (Yb M k m m) y k=Zkq m M y k:=Zh fun c _=>by rw [d]
 constructor
 ·intro h;have h0:Zkq m M y k=M k m:=by rw [← g,h k hk,d]
  intro r hr;by_cases e:r=k
  ·subst e;exact h0
  ·have:=h r hr;rw [hs r hr e,f r hr e m (JY _),h0] at this;grind
 ·intro h r hr;by_cases e:r=k
  ·subst e;rw [g,d];exact h r hr
  ·rw [hs r hr e,f r hr e m (JY _),h r hr,h k hk]
theorem Zwz {m k:Nat} {M M':Mx} (hk:k < m) (hu:Zkr m k M) (e:Vt M k m=some M'):Zkr m (k+1) M'∧∀y,Zgi m M' y↔Zgi m M y:=by
 unfold Vt at e
 cases hf:Zdh M k m with
 | none=>rw [hf] at e;cases e
 | some t=>
  rw [hf] at e;injection e with e;obtain ⟨h1,h2,h3⟩:=Zlx hf;have hS:∀c,swapM M k t k c=M t c:=fun c=>by unfold swapM;rw [if_pos rfl]
  have hp:swapM M k t k k≠0:=by rw [hS];exact h3
  have us:Zkr m k (swapM M k t):=fun r c hr hc=>by
   unfold swapM;by_cases e1:r=k
   ·rw [if_pos e1,hu t c h2 hc,if_neg (by omega),if_neg (by omega)]
   ·rw [if_neg e1];by_cases e2:r=t
    ·rw [if_pos e2,hu k c hk hc,if_neg (by omega),if_neg (by omega)]
    ·rw [if_neg e2];exact hu r c hr hc
  have hz:∀c,c < k→swapM M k t k c=0:=fun c hc=>by rw [us k c hk hc,if_neg (by omega)]
  have d:∀y,Zgi m (swapM M k t) y↔Zgi m M y:=fun y=>Zgi.swap hk h2
  generalize swapM M k t=N at *;obtain ⟨f,b⟩:∃f,N k k=f:=⟨_,rfl⟩;rw [b] at hp e;have g:∀c,c < k→scaleTo N k (m+1) f k c=0:=fun c hc=>by unfold scaleTo;rw [if_neg (by omega)];exact hz c hc
  have a:scaleTo N k (m+1) f k k=1:=by
   unfold scaleTo;rw [if_pos ⟨rfl,JY _,by omega⟩,b];rw [Rat.div_def];exact Rat.mul_inv_cancel f hp
  have u2:Zkr m k (scaleTo N k (m+1) f):=fun r c hr hc=>by
   unfold scaleTo;rw [if_neg (by omega)];exact us r c hr hc
  have h:∀y,Zgi m (scaleTo N k (m+1) f) y↔Zgi m N y:=fun y=>Zgi.scale hk hp hz
  generalize scaleTo N k (m+1) f=Q at *;subst e;refine ⟨fun r c hr hc=>?_,fun y=>(Zgi.elim hk g).trans ((h y).trans (d y))⟩;by_cases ec:c=k
  ·subst ec;by_cases er:r=c
   ·subst er;rw [Uq,a,if_pos rfl]
   ·unfold Yb;rw [if_pos ⟨er,hr,JY _,by omega⟩,a,if_neg er];grind
  ·unfold Yb;rw [if_neg (by omega)];exact u2 r c hr (by omega)
theorem Yag {m:Nat} {M:Mx}:∀{k:Nat} {M':Mx},k≤m→gj M m k=some M'→Zkr m k M'∧∀y,Zgi m M' y↔Zgi m M y
 | 0,M',_,e=>by
  unfold gj at e
  injection e with e
  subst e
  exact ⟨fun r c _ hc=>by omega,fun y=>Iff.rfl⟩
 | k+1,M',hk,e=>by
  unfold gj at e
  cases hg:gj M m k with
  | none=>rw [hg] at e;cases e
  | some N=>
   rw [hg] at e
   obtain ⟨h1,h2⟩:=Yag (by omega) hg
   obtain ⟨h3,h4⟩:=Zwz (by omega) h1 e
   exact ⟨h3,fun y=>(h4 y).trans (h2 y)⟩
theorem Yew {m:Nat} {M:Mx} (hu:Zkr m m M) (y:Nat→Rat):Zgi m M y↔∀r,r < m→y r=M r m:=by
 have a:∀r,r < m→Zkq m M y r=y r:=fun r hr=>by
  unfold Zkq;rw [Xj hr fun i hi hne=>by rw [hu r i hr hi,if_neg (fun e=>hne e.symm)];grind,hu r r hr hr,if_pos rfl];grind
 exact ⟨fun h r hr=>by rw [← a r hr];exact h r hr,fun h r hr=>by rw [a r hr];exact h r hr⟩
def X6 (m:Nat) (cols:Mx) (y:Nat→Rat) (r:Nat):Rat:=ZN (fun c=>cols c r * y c) m
theorem Yah {m:Nat} {cols:Mx} {b y:Nat→Rat}:Zgi m (UH m cols b) y↔∀r,r < m→X6 m cols y r=b r:=by
 have d:∀r,Zkq m (UH m cols b) y r=X6 m cols y r:=fun r=>Zh fun c hc=>by unfold UH;rw [if_pos hc]
 have a:∀r,UH m cols b r m=b r:=fun r=>by unfold UH;rw [if_neg (by omega)]
 exact ⟨fun h r hr=>by rw [← d,h r hr,a],fun h r hr=>by rw [d,h r hr,a]⟩
theorem Vk {m:Nat} {cols:Mx} {b x:Nat→Rat} (h:YS m cols b=some x) (y:Nat→Rat):(∀r,r < m→X6 m cols y r=b r)↔∀k,k < m→y k=x k:=by
 unfold YS at h
 cases hg:gj (UH m cols b) m m with
 | none=>rw [hg] at h;cases h
 | some M=>
  rw [hg] at h;injection h with h;subst h;obtain ⟨h1,h2⟩:=Yag (JY m) hg;rw [← Yah,← h2 y,Yew h1]
theorem Yai (m:Nat) (cols:Mx) (r:Nat):X6 m cols (fun _=>0) r=0:=WP fun c _=>by grind
def Wm (m:Nat) (cols:Mx):Prop:=∀y:Nat→Rat,(∀r,r < m→X6 m cols y r=0)→∀k,k < m→y k=0
theorem Zmf {m:Nat} {cols:Mx} {b x:Nat→Rat} (h:YS m cols b=some x):Wm m cols:=by
 have hs:=Zbt (m:=m) (cols:=cols) b fun _=>0
 rw [h] at hs;obtain ⟨z,hz⟩:=Option.isSome_iff_exists.1 hs.symm;have h0:=(Vk hz fun _=>0).1 fun r _=>Yai m cols r
 intro y hy k hk;rw [(Vk hz y).1 hy k hk,← h0 k hk]
theorem Zmg {m k:Nat} {M M':Mx} (h:∀r,r < m→M r m=0) (hk:k < m) (e:Vt M k m=some M'):∀r,r < m→M' r m=0:=by
 unfold Vt at e
 cases hf:Zdh M k m with
 | none=>rw [hf] at e;cases e
 | some t=>
  rw [hf] at e;injection e with e;obtain ⟨h1,h2,h3⟩:=Zlx hf;have hs:∀r,r < m→swapM M k t r m=0:=fun r hr=>by
   unfold swapM;split
   ·exact h t h2
   ·split
    ·exact h k hk
    ·exact h r hr
  generalize swapM M k t=N at *;have hc:∀r,r < m→scaleTo N k (m+1) (N k k) r m=0:=fun r hr=>by
   unfold scaleTo;split
   ·rw [hs r hr];grind
   ·exact hs r hr
  generalize scaleTo N k (m+1) (N k k)=Q at *;subst e;intro r hr;unfold Yb;split
  ·rw [hc r hr,hc k hk];grind
  ·exact hc r hr
theorem Yaj {m:Nat} {M:Mx} (h:∀r,r < m→M r m=0):∀{k:Nat} {M':Mx},k≤m→gj M m k=some M'→∀r,r < m→M' r m=0
 | 0,M',_,e=>by unfold gj at e;injection e with e;subst e;exact h
 | k+1,M',hk,e=>by
  unfold gj at e
  cases hg:gj M m k with
  | none=>rw [hg] at e;cases e
  | some N=>rw [hg] at e;exact Zmg (Yaj h (by omega) hg) (by omega) e
theorem Yak {m:Nat} {M:Mx}:∀{n:Nat},n≤m→gj M m n=none→∃k N,k < n∧gj M m k=some N∧Zdh N k m=none
 | 0,_,e=>by unfold gj at e;cases e
 | n+1,hn,e=>by
  cases hg:gj M m n with
  | none=>
   obtain ⟨k,N,h1,h2,h3⟩:=Yak (by omega) hg
   exact ⟨k,N,by omega,h2,h3⟩
  | some N=>
   refine ⟨n,N,by omega,hg,?_⟩
   unfold gj at e
   rw [hg] at e
   simp only at e
   unfold Vt at e
   cases hf:Zdh N n m with
   | none=>rfl
   | some t=>rw [hf] at e;cases e
theorem Zrx {m:Nat} {cols:Mx} {b:Nat→Rat} (h:YS m cols b=none):¬Wm m cols:=by
 have hs:=Zbt (m:=m) (cols:=cols) b fun _=>0
 rw [h] at hs;have h0:YS m cols (fun _=>0)=none:=by
  cases e:YS m cols (fun _=>0) with
  | none=>rfl
  | some x=>rw [e] at hs;cases hs
 unfold YS at h0;have hg:gj (UH m cols fun _=>0) m m=none:=by
  cases e:gj (UH m cols fun _=>0) m m with
  | none=>rfl
  | some x=>rw [e] at h0;cases h0
 obtain ⟨k,N,hk,hN,hf⟩:=Yak (JY m) hg;obtain ⟨h1,h2⟩:=Yag (by omega) hN;have hz:=Zwo hf;have hr:=Yaj (fun r _=>by unfold UH;rw [if_neg (by omega)]) (by omega) hN;intro hi;have hy:Zgi m N (fun c=>if c < k then -(N c k) else if c=k then 1 else 0):=fun r hrm=>by
  rw [hr r hrm];show ZN (fun c=>N r c * (if c < k then -(N c k) else if c=k then 1 else 0)) m=0;rw [Ve (n:=k+1) (by omega) fun i i1 i2=>by rw [if_neg (by omega),if_neg (by omega)];grind,ZC,if_neg (Nat.lt_irrefl k),if_pos rfl];rcases JX r k with hrk | hrk
  ·rw [Xj hrk fun i hi2 hne=>by rw [h1 r i hrm hi2,if_neg (fun e=>hne e.symm)];grind,h1 r r hrm hrk,if_pos rfl,if_pos hrk];grind
  ·rw [WP fun i hi2=>by rw [h1 r i hrm hi2,if_neg (by omega)];grind,hz r hrk hrm];grind
 have:=hi _ (Yah.1 ((h2 _).1 hy)) k hk;simp at this
theorem Wn {m:Nat} {cols:Mx} (h:Wm m cols) (b:Nat→Rat):∃x,YS m cols b=some x:=by
 cases e:YS m cols b with
 | none=>exact absurd h (Zrx e)
 | some x=>exact ⟨x,rfl⟩
theorem Zot {m:Nat} {cols:Mx} {b x:Nat→Rat} (hi:Wm m cols) (hx:∀r,r < m→X6 m cols x r=b r):∃z,YS m cols b=some z∧∀k,k < m→z k=x k:=by
 obtain ⟨z,hz⟩:=Wn hi b;exact ⟨z,hz,fun k hk=>((Vk hz x).1 hx k hk).symm⟩
end Pl
namespace Pl
theorem pigeon:∀(m n:Nat) (f:Nat→Nat),m < n→(∀k,k < n→f k < m)→∃i j,i < j∧j < n∧f i=f j
 | 0,n,f,h,hf=>absurd (hf 0 (by omega)) (by omega)
 | m+1,n,f,h,hf=>by
  by_cases hk:∃k,k < n∧f k=m
  ·obtain ⟨k,hkn,hfk⟩:=hk
   by_cases h2:∃l,l < n∧l≠k∧f l=m
   ·obtain ⟨l,hl,hne,hfl⟩:=h2
    rcases JX l k with e | e
    ·exact ⟨l,k,e,hkn,by rw [hfl,hfk]⟩
    ·exact ⟨k,l,by omega,hl,by rw [hfl,hfk]⟩
   ·obtain ⟨i,j,hij,hj,he⟩:=pigeon m (n - 1) (fun i=>if i < k then f i else f (i+1)) (by omega) fun i hi=>by
     by_cases e:i < k
     ·simp only [if_pos e]
      have:=hf i (by omega)
      have:f i≠m:=fun e'=>h2 ⟨i,by omega,by omega,e'⟩
      omega
     ·simp only [if_neg e]
      have:=hf (i+1) (by omega)
      have:f (i+1)≠m:=fun e'=>h2 ⟨i+1,by omega,by omega,e'⟩
      omega
    by_cases e1:i < k
    ·by_cases e2:j < k
     ·exact ⟨i,j,hij,by omega,by simpa only [if_pos e1,if_pos e2] using he⟩
     ·exact ⟨i,j+1,by omega,by omega,by simpa only [if_pos e1,if_neg e2] using he⟩
    ·exact ⟨i+1,j+1,by omega,by omega,by simpa only [if_neg e1,if_neg (show ¬j < k by omega)] using he⟩
  ·exact pigeon m n f (by omega) fun k hkn=>by
    have:=hf k hkn
    have:f k≠m:=fun e=>hk ⟨k,hkn,e⟩
    omega
def Inj (n t:Nat) (F:Nat→Nat):Prop:=(∀s,s < t→F s < n)∧∀s u,s < u→u < t→F s≠F u
theorem Inj.eq {n t:Nat} {F:Nat→Nat} (h:Inj n t F) {s u:Nat} (hs:s < t) (hu:u < t) (e:F s=F u):s=u:=by
 rcases Nat.lt_trichotomy s u with g | g | g
 ·exact absurd e (h.2 s u g hu)
 ·exact g
 ·exact absurd e.symm (h.2 u s g hs)
theorem Inj.onto {n:Nat} {F:Nat→Nat} (h:Inj n n F) {i:Nat} (hi:i < n):∃s,s < n∧F s=i:=by
 by_cases e:∃s,s < n∧F s=i
 ·exact e
 ·exfalso;obtain ⟨a,b,c,hb,he⟩:=pigeon n (n+1) (fun s=>if s < n then F s else i) (by omega) fun k _=>by
   by_cases e':k < n
   ·simp only [if_pos e'];exact h.1 k e'
   ·simp only [if_neg e'];exact hi
  by_cases e1:b < n
  ·exact h.2 a b c e1 (by simpa only [if_pos (show a < n by omega),if_pos e1] using he)
  ·exact e ⟨a,by omega,by simpa only [if_pos (show a < n by omega),if_neg e1] using he⟩
theorem Inj.free {n t:Nat} {F:Nat→Nat} (_h:Inj n t F) (ht:t < n):∃i,i < n∧∀s,s < t→F s≠i:=by
 by_cases e:∃i,i < n∧∀s,s < t→F s≠i
 ·exact e
 ·exfalso;have c:∀i,i < n→∃s,s < t∧F s=i:=fun i hi=>by
   by_cases e':∃s,s < t∧F s=i
   ·exact e'
   ·exact absurd ⟨i,hi,fun s hs he=>e' ⟨s,hs,he⟩⟩ e
  obtain ⟨a,b,d,hb,he⟩:=pigeon t n (fun i=>if hi:i < n then (c i hi).choose else 0) ht fun k hk=>by
   simp only [dif_pos hk];exact (c k hk).choose_spec.1
  simp only [dif_pos (show a < n by omega),dif_pos hb] at he;have h1:=(c a (by omega)).choose_spec.2;have h2:=(c b hb).choose_spec.2;rw [he] at h1;omega
theorem Zds {n:Nat} {F:Nat→Nat} (h:Inj n n F) (f:Nat→Rat):ZN (fun k=>f (F k)) n=ZN f n:=by
 have h1:ZN (fun k=>f (F k)) n=ZN (fun k=>ZN (fun j=>if j=F k then f j else 0) n) n:=Zh fun k hk=>by
  rw [Xj (h.1 k hk) fun i _ hne=>by rw [if_neg hne],if_pos rfl]
 rw [h1,WO];exact Zh fun j hj=>by
  obtain ⟨s,hs,he⟩:=h.onto hj;rw [Xj hs fun i hi hne=>if_neg fun e=>hne (h.eq hi hs (by omega)),if_pos he.symm]
structure Zbw (n t:Nat) (A a:Mx) (R C:Nat→Nat) (m:Mx):Prop where
 ri:Inj n t R
 ci:Inj n t C
 m0:∀s q,s < t→q≤s→m s (R q)=0
 piv:∀s,s < t→a (R s) (C s)≠0
 e1:∀i j,i < n→j < n→(∀s,s < t→R s≠i)→(∀s,s < t→C s≠j)→A i j=ZN (fun s=>m s i * a (R s) j) t+a i j
 e2:∀i q,i < n→q < t→(∀s,s < t→R s≠i)→A i (C q)=ZN (fun s=>m s i * a (R s) (C q)) (q+1)
 e3:∀p j,p < t→j < n→(∀s,s < p→C s≠j)→A (R p) j=ZN (fun s=>m s (R p) * a (R s) j) p+a (R p) j
 e4:∀p q,p < t→q < p→A (R p) (C q)=ZN (fun s=>m s (R p) * a (R s) (C q)) (q+1)
theorem Zbw.start (n:Nat) (A:Mx) (R C:Nat→Nat) (m:Mx):Zbw n 0 A A R C m where
 ri:=⟨fun s h=>absurd h (by omega),fun s u _ h=>absurd h (by omega)⟩
 ci:=⟨fun s h=>absurd h (by omega),fun s u _ h=>absurd h (by omega)⟩
 m0:=fun s q h=>absurd h (by omega)
 piv:=fun s h=>absurd h (by omega)
 e1:=fun i j _ _ _ _=>by rw [Y2];grind
 e2:=fun i q _ h=>absurd h (by omega)
 e3:=fun p j h=>absurd h (by omega)
 e4:=fun p q h=>absurd h (by omega)
theorem Zbw.step {n t:Nat} {A a:Mx} {R C:Nat→Nat} {m:Mx} (h:Zbw n t A a R C m) {r c:Nat} (hr:r < n) (hc:c < n) (hrf:∀s,s < t→R s≠r) (hcf:∀s,s < t→C s≠c) (hp:a r c≠0)
 {a' m':Mx} {R' C':Nat→Nat} (hR:∀s,s < t→R' s=R s) (hRt:R' t=r) (hC:∀s,s < t→C' s=C s) (hCt:C' t=c)
 (hm:∀s i,s < t→m' s i=m s i) (hmt:∀i,i < n→m' t i=if (∀s,s < t→R s≠i)∧i≠r then a i c / a r c else 0)
 (ha:∀i j,i < n→j < n→a' i j=if ((∀s,s < t→R s≠i)∧i≠r)∧((∀s,s < t→C s≠j)∧j≠c) then a i j - m' t i * a r j else a i j):Zbw n (t+1) A a' R' C' m':=by
 have y:∀i,i < n→(∀s,s < t→R s≠i)→i≠r→m' t i * a r c=a i c:=fun i hi h1 h2=>by
  rw [hmt i hi,if_pos ⟨h1,h2⟩];exact Rat.div_mul_cancel hp
 have l:∀s,s < t+1→R' s < n:=fun s hs=>by
  rcases JX s t with e | e
  ·rw [hR s e];exact h.ri.1 s e
  ·obtain rfl:s=t:=by omega
   rw [hRt];exact hr
 have x:∀s,s < t+1→C' s < n:=fun s hs=>by
  rcases JX s t with e | e
  ·rw [hC s e];exact h.ci.1 s e
  ·obtain rfl:s=t:=by omega
   rw [hCt];exact hc
 -- rows that are taken do not change any more
 have d:∀s j,s < t+1→j < n→a' (R' s) j=a (R' s) j:=fun s j hs hj=>by
  rw [ha _ _ (l s hs) hj];refine if_neg fun e=>?_
  rcases JX s t with g | g
  ·exact e.1.1 s g (hR s g).symm
  ·obtain rfl:s=t:=by omega
   exact e.1.2 hRt
 have f:∀i,(∀s,s < t+1→R' s≠i)→(∀s,s < t→R s≠i)∧i≠r:=fun i hi=>⟨fun s hs e=>hi s (by omega) (by rw [hR s hs];exact e),fun e=>hi t (by omega) (by rw [hRt];exact e.symm)⟩
 have o:∀j,(∀s,s < t+1→C' s≠j)→(∀s,s < t→C s≠j)∧j≠c:=fun j hj=>⟨fun s hs e=>hj s (by omega) (by rw [hC s hs];exact e),fun e=>hj t (by omega) (by rw [hCt];exact e.symm)⟩
 have b:∀i j k,k≤t→j < n→ZN (fun s=>m' s i * a' (R' s) j) k=ZN (fun s=>m s i * a (R s) j) k:=fun i j k hk hj=>Zh fun s hs=>by
  rw [hm s i (by omega),d s j (by omega) hj,hR s (by omega)]
 refine ⟨⟨l,fun s u hsu hu=>?_⟩,⟨x,fun s u hsu hu=>?_⟩,fun s q hs hq=>?_,fun s hs=>?_,fun i j hi hj h1 h2=>?_,fun i q hi hq h1=>?_,fun p j hp' hj h1=>?_,fun p q hp' hq=>?_⟩
 ·rw [hR s (by omega)];rcases JX u t with e | e
  ·rw [hR u e];exact h.ri.2 s u hsu e
  ·obtain rfl:u=t:=by omega
   rw [hRt];exact hrf s hsu
 ·rw [hC s (by omega)];rcases JX u t with e | e
  ·rw [hC u e];exact h.ci.2 s u hsu e
  ·obtain rfl:u=t:=by omega
   rw [hCt];exact hcf s hsu
 ·rcases JX s t with e | e
  ·rw [hm s _ e,hR q (by omega)];exact h.m0 s q e hq
  ·obtain rfl:s=t:=by omega
   rw [hmt _ (l q (by omega))];refine if_neg fun e=>?_
   rcases JX q s with g | g
   ·exact e.1 q g (hR q g).symm
   ·obtain rfl:q=s:=by omega
    exact e.2 hRt
 ·rw [d s _ hs (x s hs)];rcases JX s t with e | e
  ·rw [hR s e,hC s e];exact h.piv s e
  ·obtain rfl:s=t:=by omega
   rw [hRt,hCt];exact hp
 ·obtain ⟨i1,i2⟩:=f i h1;obtain ⟨j1,j2⟩:=o j h2;rw [ZC,b i j t (JY _) hj,d t j (by omega) hj,hRt,ha i j hi hj,if_pos ⟨⟨i1,i2⟩,⟨j1,j2⟩⟩,h.e1 i j hi hj i1 j1];grind
 ·obtain ⟨i1,i2⟩:=f i h1;rcases JX q t with e | e
  ·rw [hC q e,b i _ (q+1) (by omega) (h.ci.1 q e)];exact h.e2 i q hi e i1
  ·obtain rfl:q=t:=by omega
   rw [hCt,ZC,b i c q (JY _) hc,d q c (by omega) hc,hRt,y i hi i1 i2,h.e1 i c hi hc i1 hcf]
 ·have z:=l p hp';rcases JX p t with e | e
  ·rw [d p j hp' hj,b _ j p (by omega) hj,hR p e];exact h.e3 p j e hj fun s hs=>by have:=h1 s hs;rwa [hC s (by omega)] at this
  ·obtain rfl:p=t:=by omega
   rw [d p j hp' hj,b _ j p (JY _) hj,hRt];exact h.e1 r j hr hj hrf fun s hs=>by have:=h1 s hs;rwa [hC s hs] at this
 ·have v:q < t:=by omega
  rw [hC q v,b _ _ (q+1) (by omega) (h.ci.1 q v)];rcases JX p t with e | e
  ·rw [hR p e];exact h.e4 p q e hq
  ·obtain rfl:p=t:=by omega
   rw [hRt];exact h.e2 r q hr v hrf
def luL (R:Nat→Nat) (m:Mx):Mx:=fun t p=>if p=t then 1 else if t < p then m t (R p) else 0
def luU (R C:Nat→Nat) (a:Mx):Mx:=fun k s=>if s≤k then a (R s) (C k) else 0
structure Zgj (n:Nat) (A:Mx) (R C:Nat→Nat) (L U:Mx):Prop where
 ri:Inj n n R
 ci:Inj n n C
 l0:∀t p,t < n→p < n→p < t→L t p=0
 l1:∀t,t < n→L t t=1
 u0:∀k s,k < n→s < n→k < s→U k s=0
 u1:∀k,k < n→U k k≠0
 eq:∀p k,p < n→k < n→A (R p) (C k)=ZN (fun s=>L s p * U k s) n
theorem Zbw.fac {n:Nat} {A a:Mx} {R C:Nat→Nat} {m:Mx} (h:Zbw n n A a R C m):Zgj n A R C (luL R m) (luU R C a) where
 ri:=h.ri
 ci:=h.ci
 l0:=fun t p _ _ hpt=>by unfold luL;rw [if_neg (by omega),if_neg (by omega)]
 l1:=fun t _=>by unfold luL;rw [if_pos rfl]
 u0:=fun k s _ _ hks=>by unfold luU;rw [if_neg (by omega)]
 u1:=fun k hk=>by unfold luU;rw [if_pos (JY _)];exact h.piv k hk
 eq:=fun p k hp hk=>by
  rcases JX k p with e | e
  ·rw [h.e4 p k hp e,Ve (n:=k+1) (m:=n) (by omega) fun i h1 h2=>by unfold luU;rw [if_neg (by omega)];grind]
   exact Zh fun s hs=>by unfold luL luU;rw [if_neg (by omega),if_pos (by omega),if_pos (by omega)]
  ·rw [h.e3 p (C k) hp (h.ci.1 k hk) fun s hs=>h.ci.2 s k (by omega) hk,Ve (n:=p+1) (m:=n) (by omega) fun i h1 h2=>by unfold luL;rw [if_neg (by omega),if_neg (by omega)];grind,ZC]
   have e2:luL R m p p * luU R C a k p=a (R p) (C k):=by unfold luL luU;rw [if_pos rfl,if_pos e];grind
   rw [e2,Zh (f:=fun s=>luL R m s p * luU R C a k s) (g:=fun s=>m s (R p) * a (R s) (C k)) fun s hs=>by unfold luL luU;rw [if_neg (by omega),if_pos (by omega),if_pos (by omega)]]
def trM (A:Mx):Mx:=fun c r=>A r c
theorem Zad {n m:Nat} {f g:Nat→Rat} {h:Nat→Nat→Rat} (e:∀j,j < n→f j=ZN (fun s=>g s * h s j) m) (y:Nat→Rat):ZN (fun j=>f j * y j) n=ZN (fun s=>g s * ZN (fun j=>h s j * y j) n) m:=by
 rw [Zh (g:=fun j=>ZN (fun s=>g s * (h s j * y j)) m) fun j hj=>by
  rw [e j hj,Rat.mul_comm,← YG];exact Zh fun s _=>by grind]
 rw [WO];exact Zh fun s _=>YG _ _ _
theorem Zbw.dep {n t:Nat} {A a:Mx} {R C:Nat→Nat} {m:Mx} (h:Zbw n t A a R C m) (ht:t < n) (hz:∀i j,i < n→j < n→(∀s,s < t→R s≠i)→(∀s,s < t→C s≠j)→a i j=0):¬Wm n (trM A):=by
 obtain ⟨j0,H,l⟩:=h.ci.free ht
 -- row s of the triangle,with the columns that were taken before it left out
 have hw:∃W:Mx,(∀s j,(∀u,u < s→C u≠j)→W s j=a (R s) j)∧∀s u,u < s→W s (C u)=0:=by
  refine ⟨fun s j=>if ∀u,u < s→C u≠j then a (R s) j else 0,fun s j hs=>if_pos hs,fun s u hu=>if_neg fun g=>g u hu rfl⟩
 obtain ⟨W,d,o⟩:=hw;have F:∀k,k≤t→∃y:Nat→Rat,y j0=1∧(∀s,s < t - k→y (C s)=0)∧∀s,t - k≤s→s < t→ZN (fun j=>W s j * y j) n=0:=by
  intro k
  induction k with
  | zero=>exact fun _=>⟨fun j=>if j=j0 then 1 else 0,if_pos rfl,fun s hs=>if_neg fun e=>l s (by omega) e,fun s h1 h2=>by omega⟩
  | succ k ih=>
   intro hk;obtain ⟨y,y1,y2,y3⟩:=ih (by omega);obtain ⟨s0,I⟩:∃s0,s0+1=t - k:=⟨t - k - 1,by omega⟩;have b:s0 < t:=(by omega);have G:=h.ci.1 s0 b;obtain ⟨q,hq⟩:∃q,q= -(ZN (fun j=>W s0 j * y j) n) / a (R s0) (C s0):=⟨_,rfl⟩;have x:∀s,ZN (fun j=>W s j * (if j=C s0 then q else y j)) n=ZN (fun j=>W s j * y j) n+W s (C s0) * (q - y (C s0)):=fun s=>by
    have e:ZN (fun j=>W s j * (if j=C s0 then q else y j)) n=ZN (fun j=>W s j * y j+(if j=C s0 then W s (C s0) * (q - y (C s0)) else 0)) n:=Zh fun j _=>by
     by_cases e:j=C s0
     ·rw [if_pos e,if_pos e,e];grind
     ·rw [if_neg e,if_neg e];grind
    rw [e,Wi,XU G]
   refine ⟨fun j=>if j=C s0 then q else y j,?_,fun s hs=>?_,fun s h1 h2=>?_⟩
   ·show (if j0=C s0 then q else y j0)=1;rw [if_neg fun e=>l s0 b e.symm];exact y1
   ·show (if C s=C s0 then q else y (C s))=0;rw [if_neg (h.ci.2 s s0 (by omega) b)];exact y2 s (by omega)
   ·rw [x s];rcases JX s0 s with e | e
    ·rw [o s s0 e,y3 s (by omega) h2];grind
    ·obtain rfl:s=s0:=by omega
     rw [d s (C s) fun u hu=>h.ci.2 u s hu b,y2 s (by omega),hq];have hp:=h.piv s b;have e2: -(ZN (fun j=>W s j * y j) n) / a (R s) (C s) * a (R s) (C s)= -(ZN (fun j=>W s j * y j) n):=Rat.div_mul_cancel hp;grind
 obtain ⟨y,y1,_,y3⟩:=F t (JY _);have hy:∀s,s < t→ZN (fun j=>W s j * y j) n=0:=fun s hs=>y3 s (by omega) hs
 intro hi;have z:∀r,r < n→X6 n (trM A) y r=0:=fun r hr=>by
  show ZN (fun c=>A r c * y c) n=0;by_cases hp:∃p,p < t∧R p=r
  ·obtain ⟨p,B,rfl⟩:=hp;have e:∀j,j < n→A (R p) j=ZN (fun s=>(if s=p then 1 else m s (R p)) * W s j) (p+1):=fun j hj=>by
    rw [ZC,if_pos rfl];have e0:ZN (fun s=>(if s=p then 1 else m s (R p)) * W s j) p=ZN (fun s=>m s (R p) * W s j) p:=Zh fun s hs=>by rw [if_neg (by omega)]
    rw [e0];by_cases hq:∃q,q < p∧C q=j
    ·obtain ⟨q,D,rfl⟩:=hq;rw [o p q D,h.e4 p q B D,Ve (f:=fun s=>m s (R p) * W s (C q)) (n:=q+1) (m:=p) (by omega) fun s h1 h2=>by rw [o s q (by omega)];grind];have e1:ZN (fun s=>m s (R p) * a (R s) (C q)) (q+1)=ZN (fun s=>m s (R p) * W s (C q)) (q+1):=Zh fun s hs=>by rw [d s (C q) fun u hu=>h.ci.2 u q (by omega) (by omega)]
     rw [e1];grind
    ·have hn:∀u,u < p→C u≠j:=fun u hu e=>hq ⟨u,hu,e⟩
     rw [h.e3 p j B hj hn,d p j hn];have e1:ZN (fun s=>m s (R p) * a (R s) j) p=ZN (fun s=>m s (R p) * W s j) p:=Zh fun s hs=>by rw [d s j fun u hu=>hn u (by omega)]
     rw [e1];grind
   rw [Zad e];exact WP fun s hs=>by rw [hy s (by omega)];grind
  ·have v:∀s,s < t→R s≠r:=fun s hs e=>hp ⟨s,hs,e⟩
   have e:∀j,j < n→A r j=ZN (fun s=>m s r * W s j) t:=fun j hj=>by
    by_cases hq:∃q,q < t∧C q=j
    ·obtain ⟨q,E,rfl⟩:=hq;rw [h.e2 r q hr E v,Ve (f:=fun s=>m s r * W s (C q)) (n:=q+1) (m:=t) (by omega) fun s h1 h2=>by rw [o s q (by omega)];grind];exact Zh fun s hs=>by rw [d s (C q) fun u hu=>h.ci.2 u q (by omega) E]
    ·have hn:∀u,u < t→C u≠j:=fun u hu e=>hq ⟨u,hu,e⟩
     rw [h.e1 r j hr hj v hn,hz r j hr hj v hn];have e1:ZN (fun s=>m s r * a (R s) j) t=ZN (fun s=>m s r * W s j) t:=Zh fun s hs=>by rw [d s j fun u hu=>hn u (by omega)]
     rw [e1];grind
   rw [Zad e];exact WP fun s hs=>by rw [hy s hs];grind
 have:=hi y z j0 H;rw [y1] at this;exact absurd this (by decide)
theorem Zxa {n:Nat} {L:Mx} (h0:∀t p,t < n→p < n→p < t→L t p=0) (h1:∀t,t < n→L t t=1) {z:Nat→Rat} (hz:∀p,p < n→ZN (fun s=>L s p * z s) n=0):∀p,p < n→z p=0:=by
 intro p
 induction p using Nat.strongRecOn with
 | _ p ih=>
  intro hp;have:=hz p hp;rw [Xj hp fun i hi hne=>by
   rcases JX i p with e | e
   ·rw [ih i e hi];grind
   ·rw [h0 i p hi hp (by omega)];grind,h1 p hp] at this
  grind
theorem Zxb {n:Nat} {U:Mx} (h0:∀k s,k < n→s < n→k < s→U k s=0) (h1:∀k,k < n→U k k≠0) {w:Nat→Rat} (hw:∀s,s < n→ZN (fun k=>U k s * w k) n=0):∀k,k < n→w k=0:=by
 have a:∀d k,k+d+1=n→w k=0:=by
  intro d
  induction d using Nat.strongRecOn with
  | _ d ih=>
   intro k hk;have:=hw k (by omega);rw [Xj (show k < n by omega) fun i hi hne=>by
    rcases JX i k with e | e
    ·rw [h0 i k hi (by omega) e];grind
    ·rw [ih (n - 1 - i) (by omega) i (by omega)];grind] at this
   rcases Rat.mul_eq_zero.1 this with e | e
   ·exact absurd e (h1 k (by omega))
   ·exact e
 exact fun k hk=>a (n - 1 - k) k (by omega)
theorem Zgj.solve {n:Nat} {A:Mx} {R C:Nat→Nat} {L U:Mx} (h:Zgj n A R C L U) {b z x:Nat→Rat} (hz:∀p,p < n→ZN (fun s=>L s p * z s) n=b (R p)) (hx:∀s,s < n→ZN (fun k=>U k s * x (C k)) n=z s):∀r,r < n→X6 n (trM A) x r=b r:=by
 intro r hr;obtain ⟨p,hp,rfl⟩:=h.ri.onto hr;show ZN (fun c=>A (R p) c * x c) n=b (R p);rw [← Zds h.ci (fun c=>A (R p) c * x c),Zad (f:=fun k=>A (R p) (C k)) (g:=fun s=>L s p) (h:=fun s k=>U k s) (m:=n) (fun k hk=>h.eq p k hp hk) (fun k=>x (C k)),← hz p hp];exact Zh fun s hs=>by rw [hx s hs]
theorem Zgj.solveT {n:Nat} {A:Mx} {R C:Nat→Nat} {L U:Mx} (h:Zgj n A R C L U) {d v y:Nat→Rat} (hv:∀k,k < n→ZN (fun s=>U k s * v s) n=d (C k)) (hy:∀s,s < n→ZN (fun p=>L s p * y (R p)) n=v s):∀c,c < n→X6 n A y c=d c:=by
 intro c hc;obtain ⟨k,hk,rfl⟩:=h.ci.onto hc;show ZN (fun r=>A r (C k) * y r) n=d (C k);rw [← Zds h.ri (fun r=>A r (C k) * y r),Zad (f:=fun p=>A (R p) (C k)) (g:=fun s=>U k s) (h:=fun s p=>L s p) (m:=n) (fun p hp=>by rw [h.eq p k hp hk];exact Zh fun s _=>by grind) (fun p=>y (R p)),← hv k hk];exact Zh fun s hs=>by rw [hy s hs]
theorem Zgj.indep {n:Nat} {A:Mx} {R C:Nat→Nat} {L U:Mx} (h:Zgj n A R C L U):Wm n (trM A):=by
 intro y hy;have h1:∀p,p < n→ZN (fun s=>L s p * ZN (fun k=>U k s * y (C k)) n) n=0:=fun p hp=>by
  rw [← Zad (f:=fun k=>A (R p) (C k)) (g:=fun s=>L s p) (h:=fun s k=>U k s) (m:=n) (fun k hk=>h.eq p k hp hk) (fun k=>y (C k)),Zds h.ci (fun c=>A (R p) c * y c)];exact hy (R p) (h.ri.1 p hp)
 have h2:=Zxa h.l0 h.l1 h1;have h3:=Zxb h.u0 h.u1 (w:=fun k=>y (C k)) h2;intro c hc;obtain ⟨k,hk,rfl⟩:=h.ci.onto hc;exact h3 k hk
def Zou (cols:Mx) (k:Nat) (v:Nat→Rat):Mx:=fun c=>if c=k then v else cols c
theorem Zum {n k:Nat} {cols:Mx} {v im x c:Nat→Rat} (hk:k < n) (him:∀r,r < n→X6 n cols im r=v r) (h0:im k≠0) (hx:∀r,r < n→X6 n cols x r=c r) {x':Nat→Rat} (hxk:x' k=x k / im k) (hxi:∀i,i < n→i≠k→x' i=x i - im i * x' k):
 ∀r,r < n→X6 n (Zou cols k v) x' r=c r:=by
 intro r hr;have hd:x' k * im k=x k:=by rw [hxk];exact Rat.div_mul_cancel h0
 have e:X6 n (Zou cols k v) x' r=ZN (fun i=>cols i r * x i - x' k * (cols i r * im i)+(if i=k then v r * x' k else 0)) n:=Zh fun i hi=>by
  unfold Zou;by_cases e:i=k
  ·subst e;rw [if_pos rfl,if_pos rfl];grind
  ·rw [if_neg e,if_neg e,hxi i hi e];grind
 rw [e,Wi,Zgq,YG,XU hk];have h1:ZN (fun i=>cols i r * x i) n=c r:=hx r hr;have h2:ZN (fun i=>cols i r * im i) n=v r:=him r hr;rw [h1,h2];grind
theorem Zov {n k:Nat} {cols:Mx} {v im:Nat→Rat} (hk:k < n) (hi:Wm n cols) (him:∀r,r < n→X6 n cols im r=v r) (h0:im k≠0):Wm n (Zou cols k v):=by
 intro y hy;have h1:∀r,r < n→X6 n cols (fun i=>(if i=k then 0 else y i)+y k * im i) r=0:=fun r hr=>by
  have e:X6 n cols (fun i=>(if i=k then 0 else y i)+y k * im i) r=ZN (fun i=>(Zou cols k v i r * y i - (if i=k then v r * y k else 0))+y k * (cols i r * im i)) n:=Zh fun i _=>by
   unfold Zou;by_cases e:i=k
   ·subst e;simp only [if_pos];grind
   ·simp only [if_neg e];grind
  rw [e,Wi,Zgq,YG,XU hk];have h2:ZN (fun i=>Zou cols k v i r * y i) n=0:=hy r hr;have h3:ZN (fun i=>cols i r * im i) n=v r:=him r hr;rw [h2,h3];grind
 have h2:=hi _ h1;have h3:y k=0:=by
  have:=h2 k hk;simp only [if_pos] at this;have e:y k * im k=0:=by grind
  rcases Rat.mul_eq_zero.1 e with g | g
  ·exact g
  ·exact absurd g h0
 intro i a;by_cases e:i=k
 ·rw [e];exact h3
 ·have:=h2 i a;simp only [if_neg e,h3] at this;grind
end Pl
namespace Pl
def spV (f:Nat→Rat):Nat→List En
 | 0=>[]
 | n+1=>if f n=0 then spV f n else spV f n++[⟨(n:Int),canF (f n)⟩]
theorem XV {f:Nat→Rat} {n:Nat} (h:f n=0):spV f (n+1)=spV f n:=by unfold spV;rw [if_pos h];cases n <;> rfl
theorem Wo {f:Nat→Rat} {n:Nat} (h:f n≠0):spV f (n+1)=spV f n++[⟨(n:Int),canF (f n)⟩]:=by rw [spV,if_neg h]
theorem Vw {f g:Nat→Rat}:∀{n:Nat},(∀i,i < n→f i=g i)→spV f n=spV g n
 | 0,_=>rfl
 | n+1,h=>by rw [spV,spV,h n (by omega),Vw fun i hi=>h i (by omega)]
theorem Ua {f:Nat→Rat}:∀(n:Nat),(spV f n).length≤n
 | 0=>JY _
 | n+1=>by
  have:=Ua (f:=f) n
  by_cases h:f n=0
  ·rw [XV h];omega
  ·rw [Wo h,List.length_append];simp;omega
theorem Zbx {f:Nat→Rat}:∀{n k:Nat} {e:En},(spV f n)[k]? =some e→∃i:Nat,i < n∧e.idx=(i:Int)∧e.f=canF (f i)∧f i≠0
 | 0,k,e,h=>by simp [spV] at h
 | n+1,k,e,h=>by
  by_cases h0:f n=0
  ·rw [XV h0] at h
   obtain ⟨i,h1,h2⟩:=Zbx h
   exact ⟨i,by omega,h2⟩
  ·rw [Wo h0] at h
   rcases JX k (spV f n).length with hk | hk
   ·rw [List.getElem?_append_left hk] at h
    obtain ⟨i,h1,h2⟩:=Zbx h
    exact ⟨i,by omega,h2⟩
   ·rw [List.getElem?_append_right hk] at h
    have hk':k - (spV f n).length=0:=by
     rcases JV (k - (spV f n).length) with e | e
     ·exact e
     ·rw [JU (by simp;omega)] at h;cases h
    rw [hk'] at h;simp at h;subst h;exact ⟨n,by omega,rfl,rfl,h0⟩
theorem Zii (f:Nat→Rat) (n:Nat):inR n (spV f n):=fun k e h=>by
 obtain ⟨i,h1,h2,_⟩:=Zbx h
 omega
theorem Zij (f:Nat→Rat):∀(n i:Nat),Vj (spV f n) i=if i < n then f i else 0
 | 0,i=>by rw [if_neg (by omega)];rfl
 | n+1,i=>by
  have ih:=Zij f n i
  by_cases h0:f n=0
  ·rw [XV h0,ih]
   by_cases e:i < n
   ·rw [if_pos e,if_pos (by omega)]
   ·rw [if_neg e]
    by_cases e2:i=n
    ·subst e2;rw [if_pos (by omega),h0]
    ·rw [if_neg (by omega)]
  ·rw [Wo h0]
   unfold Vj at ih ⊢
   rw [Zmd]
   simp only
   by_cases e:(n:Int)=(i:Int)
   ·obtain rfl:n=i:=by omega
    rw [if_pos e,if_pos (by omega),Zr]
   ·rw [if_neg e,ih]
    by_cases e2:i < n
    ·rw [if_pos e2,if_pos (by omega)]
    ·rw [if_neg e2,if_neg (by omega)]
def Good (n:Nat) (es:List En):Prop:=inR n es∧Inc none es∧∀(k:Nat) (e:En),es[k]? =some e→e.f.q≠0
theorem Yjo {p:Option Int} {es:List En} {e:En} (h:Inc p es) (h1:leP p e.idx=false) (h2:∀(k:Nat) (d:En),es[k]? =some d→d.idx < e.idx):Inc p (es++[e]):=by
 induction es generalizing p with
 | nil=>exact ⟨h1,trivial⟩
 | cons d es ih=>
  refine ⟨h.1,ih h.2 ?_ fun k d' hd=>h2 (k+1) d' (by simpa using hd)⟩;have:=h2 0 d rfl;simp [leP];omega
theorem Zmh (f:Nat→Rat):∀(n:Nat),Inc none (spV f n)
 | 0=>trivial
 | n+1=>by
  by_cases h0:f n=0
  ·rw [XV h0];exact Zmh f n
  ·rw [Wo h0]
   exact Yjo (Zmh f n) rfl fun k d hd=>by
    obtain ⟨i,h1,h2,_⟩:=Zbx hd
    show d.idx < (n:Int)
    omega
theorem Zdt (f:Nat→Rat) (n:Nat):Good n (spV f n):=⟨Zii f n,Zmh f n,fun k e h=>by
 obtain ⟨i,h1,h2,h3,h4⟩:=Zbx h
 rw [h3,Zr];exact h4⟩
theorem Yal {n:Int} {es:List En} {p:Option Int} (h1:∀(k:Nat) (e:En),es[k]? =some e→0≤e.idx∧e.idx < n) (h2:Inc p es) (h3:∀(k:Nat) (e:En),es[k]? =some e→e.f.q≠0):Zaw n es p=0:=by
 induction es generalizing p with
 | nil=>rfl
 | cons e es ih=>
  have a:=h1 0 e rfl;rw [Zaw,if_neg (by omega),if_neg (by rw [h2.1];decide),if_neg (h3 0 e rfl)];exact ih (fun k d hd=>h1 (k+1) d (by simpa using hd)) h2.2 fun k d hd=>h3 (k+1) d (by simpa using hd)
theorem Good.err {n:Nat} {es:List En} (h:Good n es) (hn:n≤4096):vecErr es (n:Int)=0:=by
 unfold vecErr;rw [if_neg (by omega)];exact Yal h.1 h.2.1 h.2.2
theorem Zdu {f:Nat→Rat} {n K:Nat} (h:∀i,i < n→Sz K (f i)):∀(k:Nat) (e:En),(spV f n)[k]? =some e→e.f.Rs K:=fun k e he=>by
 obtain ⟨i,h1,h2,h3,h4⟩:=Zbx he
 rw [h3];exact (h i h1).rs
end Pl
namespace Pl
def Zby (L:Mx) (b:Nat→Rat):Nat→Nat→Rat
 | 0=>b
 | j+1=>fun i=>if j < i then Zby L b j i - L j i * Zby L b j j else Zby L b j i
theorem Zik (L:Mx) (b:Nat→Rat) (j i:Nat):Zby L b (j+1) i=if j < i then Zby L b j i - L j i * Zby L b j j else Zby L b j i:=rfl
theorem Zow (L:Mx) (b:Nat→Rat) (i:Nat):∀d,Zby L b (i+d) i=Zby L b i i
 | 0=>rfl
 | d+1=>by rw [← Nat.add_assoc,Zik,if_neg (by omega)];exact Zow L b i d
theorem Zmi {L:Mx} {b:Nat→Rat} {i j:Nat} (h:i≤j):Zby L b j i=Zby L b i i:=by
 have:=Zow L b i (j - i)
 rwa [show i+(j - i)=j by omega] at this
theorem Zmj (L:Mx) (b:Nat→Rat) (i:Nat):∀j,j≤i→Zby L b j i=b i - ZN (fun s=>L s i * Zby L b s s) j
 | 0,_=>by rw [Y2];show b i=_;grind
 | j+1,h=>by rw [Zik,if_pos (by omega),ZC,Zmj L b i j (by omega)];grind
theorem Zry {n:Nat} {L:Mx} {b:Nat→Rat} (h0:∀t p,t < n→p < n→p < t→L t p=0) (h1:∀t,t < n→L t t=1):∀p,p < n→ZN (fun s=>L s p * Zby L b n s) n=b p:=by
 intro p hp;rw [Ve (n:=p+1) (by omega) fun i h1' h2=>by rw [h0 i p h2 hp (by omega)];grind,ZC,h1 p hp,Zmi (show p≤n by omega),Zmj L b p p (JY _)];rw [Zh (g:=fun s=>L s p * Zby L b s s) fun s hs=>by rw [Zmi (show s≤n by omega)]];grind
def Zcn (n:Nat) (U:Mx) (z:Nat→Rat):Nat→Nat→Rat
 | 0=>z
 | j+1=>fun i=>if i=n - 1 - j then Zcn n U z j i / U i i else if i < n - 1 - j then Zcn n U z j i - U (n - 1 - j) i * (Zcn n U z j (n - 1 - j) / U (n - 1 - j) (n - 1 - j)) else Zcn n U z j i
theorem Zdv (n:Nat) (U:Mx) (z:Nat→Rat) (j i:Nat):Zcn n U z (j+1) i=if i=n - 1 - j then Zcn n U z j i / U i i else if i < n - 1 - j then Zcn n U z j i - U (n - 1 - j) i * (Zcn n U z j (n - 1 - j) / U (n - 1 - j) (n - 1 - j)) else Zcn n U z j i:=rfl
theorem Zox (n:Nat) (U:Mx) (z:Nat→Rat) (i:Nat) (hi:i < n):∀d,d≤i→Zcn n U z (n - i+d) i=Zcn n U z (n - i) i
 | 0,_=>rfl
 | d+1,h=>by rw [← Nat.add_assoc,Zdv,if_neg (by omega),if_neg (by omega)];exact Zox n U z i hi d (by omega)
theorem Zew {n:Nat} {U:Mx} {z:Nat→Rat} {i j:Nat} (hi:i < n) (h:n - i≤j) (hj:j≤n):Zcn n U z j i=Zcn n U z (n - i) i:=by
 have:=Zox n U z i hi (j - (n - i)) (by omega)
 rwa [show n - i+(j - (n - i))=j by omega] at this
theorem Zun {n:Nat} {U:Mx} {z:Nat→Rat} {i:Nat} (hi:i < n):Zcn n U z (n - i) i=Zcn n U z (n - 1 - i) i / U i i:=by
 rw [show n - i=(n - 1 - i)+1 by omega,Zdv,if_pos (by omega)]
theorem Zmk (n:Nat) (U:Mx) (z:Nat→Rat) (i:Nat):∀j,j+i < n→Zcn n U z j i=z i - ZN (fun t=>U (n - 1 - t) i * Zcn n U z n (n - 1 - t)) j
 | 0,_=>by rw [Y2];show z i=_;grind
 | j+1,h=>by
  rw [Zdv,if_neg (by omega),if_pos (by omega),ZC,Zmk n U z i j (by omega)]
  have e:Zcn n U z n (n - 1 - j)=Zcn n U z j (n - 1 - j) / U (n - 1 - j) (n - 1 - j):=by
   rw [Zew (i:=n - 1 - j) (by omega) (by omega) (JY _),Zun (by omega),show n - 1 - (n - 1 - j)=j by omega]
  rw [e];grind
theorem Yex (f:Nat→Rat):∀n,ZN (fun t=>f (n - 1 - t)) n=ZN f n:=by
 intro n;have h:Inj n n (fun t=>n - 1 - t):=⟨fun s hs=>by show n - 1 - s < n;omega,fun s u h1 h2 e=>by have e':n - 1 - s=n - 1 - u:=e;omega⟩;exact Zds h f
theorem Zil {n:Nat} {U:Mx} {z:Nat→Rat} (h0:∀k s,k < n→s < n→k < s→U k s=0) (h1:∀k,k < n→U k k≠0):∀s,s < n→ZN (fun k=>U k s * Zcn n U z n k) n=z s:=by
 intro s hs;rw [← Yex,Ve (n:=n - 1 - s+1) (m:=n) (by omega) fun i h1' h2=>by
  show U (n - 1 - i) s * _=0;rw [h0 (n - 1 - i) s (by omega) hs (by omega)];grind,ZC,show n - 1 - (n - 1 - s)=s by omega,Zew hs (show n - s≤n by omega) (JY _),Zun hs,Zmk n U z s (n - 1 - s) (by omega)]
 have e:=Rat.div_mul_cancel (a:=z s - ZN (fun t=>U (n - 1 - t) s * Zcn n U z n (n - 1 - t)) (n - 1 - s)) (h1 s hs);grind
def utN (U:Mx) (d:Nat→Rat):Nat→Nat→Rat
 | 0=>fun _=>0
 | k+1=>fun i=>if i=k then (d k - ZN (fun s=>U k s * utN U d k s) k) / U k k else utN U d k i
theorem Zml (U:Mx) (d:Nat→Rat) (k i:Nat):utN U d (k+1) i=if i=k then (d k - ZN (fun s=>U k s * utN U d k s) k) / U k k else utN U d k i:=rfl
theorem Zim {U:Mx} {d:Nat→Rat} {i:Nat}:∀{j:Nat},i < j→utN U d j i=utN U d (i+1) i
 | 0,h=>by omega
 | j+1,h=>by
  by_cases e:i=j
  ·rw [e]
  ·rw [Zml,if_neg e];exact Zim (by omega)
theorem Zxc {n:Nat} {U:Mx} {d:Nat→Rat} (h0:∀k s,k < n→s < n→k < s→U k s=0) (h1:∀k,k < n→U k k≠0):∀k,k < n→ZN (fun s=>U k s * utN U d n s) n=d k:=by
 intro k hk;rw [Ve (n:=k+1) (by omega) fun i h1' h2=>by rw [h0 k i hk h2 (by omega)];grind,ZC,Zim hk,Zml,if_pos rfl];rw [Zh (g:=fun s=>U k s * utN U d k s) fun s hs=>by rw [Zim (show s < n by omega),← Zim hs]];have e:=Rat.div_mul_cancel (a:=d k - ZN (fun s=>U k s * utN U d k s) k) (h1 k hk);grind
def ltN (n:Nat) (L:Mx) (w:Nat→Rat):Nat→Nat→Rat
 | 0=>w
 | j+1=>fun i=>if i=n - 1 - j then ltN n L w j i - ZN (fun p=>if p=i then 0 else L i p * ltN n L w j p) n else ltN n L w j i
theorem Zdw (n:Nat) (L:Mx) (w:Nat→Rat) (j i:Nat):ltN n L w (j+1) i=if i=n - 1 - j then ltN n L w j i - ZN (fun p=>if p=i then 0 else L i p * ltN n L w j p) n else ltN n L w j i:=rfl
theorem Zin {n:Nat} {L:Mx} {w:Nat→Rat} {i:Nat}:∀{j:Nat},j+i < n→ltN n L w j i=w i
 | 0,_=>rfl
 | j+1,h=>by rw [Zdw,if_neg (by omega)];exact Zin (by omega)
theorem Zga {n:Nat} {L:Mx} {w:Nat→Rat} {i:Nat} (hi:i < n):∀{j:Nat},n - i≤j→j≤n→ltN n L w j i=ltN n L w (n - i) i
 | 0,h,_=>by omega
 | j+1,h,hj=>by
  by_cases e:n - i=j+1
  ·rw [e]
  ·rw [Zdw,if_neg (by omega)];exact Zga hi (by omega) (by omega)
theorem Zks {n:Nat} {L:Mx} {w:Nat→Rat} (h0:∀t p,t < n→p < n→p < t→L t p=0) (h1:∀t,t < n→L t t=1):∀s,s < n→ZN (fun p=>L s p * ltN n L w n p) n=w s:=by
 intro s hs;have e1:ZN (fun p=>L s p * ltN n L w n p) n=ZN (fun p=>(if p=s then 0 else L s p * ltN n L w (n - 1 - s) p)+(if p=s then ltN n L w n s else 0)) n:=Zh fun p hp=>by
  by_cases e:p=s
  ·rw [if_pos e,if_pos e,e,h1 s hs];grind
  ·rw [if_neg e,if_neg e];rcases JX p s with g | g
   ·rw [h0 s p hs hp g];grind
   ·rw [Zga hp (show n - p≤n by omega) (JY _),← Zga hp (show n - p≤n - 1 - s by omega) (by omega)];grind
 rw [e1,Wi,XU hs,Zga hs (show n - s≤n by omega) (JY _),show n - s=(n - 1 - s)+1 by omega,Zdw,if_pos (by omega),Zin (by omega)];grind
end Pl
namespace Pl
def Zmm (p:LPd) (ys:List RF):RF:=if Zgh p ys=true then canF (Xv ys p.right p.right.length) else zeroF
theorem Zmn {p:LPd} {ys:List RF} (h:Zgh p ys=false):Zmm p ys=zeroF:=by simp [Zmm,h]
theorem Zdx {p:LPd} {ys:List RF} (h:Zgh p ys=true):Zmm p ys=canF (Xv ys p.right p.right.length):=by simp [Zmm,h]
end Pl
def Yao (p:LPd) (ys:List RF) (w:World) (e:Ending) (w':World):Prop:=
 ∃v',e= .returned (.tuple #[v',.bool (Zgh p ys)])∧Zw w' v' (Zmm p ys)∧Below w.heap.size w w'
theorem Zmo {w w2:World} {g:Nat} {x y z u b s b' s':Value} {a:RF} {p:LPd} {ys:List RF} {ok:Bool} (hR:Bk w2 g 46 [x,y,z,u]) (d:Zw w2 (.agg #[b,s,b',s']) a) (hbe:Below w.heap.size w w2) (hg:w.heap.size≤g) (h:Zgh p ys=ok∧Zmm p ys=a):
 Yao p ys w (.returned (.tuple #[.agg [b,s,b',s'].toArray,.bool ok])) ((((w2.setCell ⟨g,0,none⟩ b).setCell ⟨g,1,none⟩ s).setCell ⟨g,2,none⟩ b').setCell ⟨g,3,none⟩ s'):=by
 obtain ⟨v',q1,q2,q3⟩:=Yk hR d hbe hg;injection q1 with q1;subst q1;rw [← h.2] at q2;exact ⟨_,by rw [h.1],q2,q3⟩
theorem YJ (v1 v2:Value) (p:LPd) (ys:List RF) (K:Nat) (w:World) (h:LpM w v1 p) (h2:Y1 w v2 ys) (ok:p.Ok K) (hy:RsL K ys) (hK:1≤K) (hlen:∀(j:Nat) (c:List En),p.cols[j]? =some c→c.length≤64) (hs:1+64 * (2 * K+1)≤34359738368):
 Calls Tryz.prog 15 #[v1,v2] w (Yao p ys w):=by
 have P:2 * K≤34359738368:=by omega
 obtain ⟨A,n,c,A',N,c',a1,m,a2,rfl,hc,hv,hr⟩:=id h;obtain ⟨W,hW,hX,x⟩:=Yc w (.slice A n c) (.slice A' N c') (.slice a1 m a2);obtain ⟨W1,ag,hR,e⟩:=YR W (.bool false) (.slice none 0 0) (.bool false) (.slice none 0 0);have hX:=hX.later e;have a:=Za x e x.size;have R:W.heap.size=w.heap.size+1:=by rw [← hW];simp
 rw [R] at hR;obtain ⟨x0,x1,x2⟩:=hX.three;obtain ⟨m1,m2,m3⟩:=hv.len;obtain ⟨r1,r2,r3⟩:=hr.len;obtain ⟨k1,k2,k3⟩:=hc.len;obtain ⟨Ay,cy,rfl,ao,ap⟩:=h2.shape;have t:=JZ m1;have S:=JZ r1;have a5:=JZ k1;have y:=JZ ok;have T:=JZ hlen;generalize a4:ys.length=L at *;have U:=JZ a4;clear m1 r1 k1 a4 ok hlen x e;go_enter Tryz.func15,Tryz.ntmps15;go_wp2_with fail;clear hW ag R x0 x1 x2;refine (VK _ p K _ (h.below a) y.out).mono ?_;rintro _ w1 ⟨rfl,H⟩;have z:=hX.later H;have l:=hR.later H;have e:=Za a H a.size;clear hX hR a H;by_cases hz:lpErr p=0;rotate_left
 ·have V:(lpErr p !=0)=true:=by simpa using hz
  have k:=JZ (Ymd (ys:=ys) hz);clear hz;obtain ⟨c0,c1,c2,c3⟩:=l.four;obtain ⟨f0,f1,f2,f3⟩:=l.fourF;go_wp2;refine YX Tryz.results15 Tryz.underlying46 (by kernel_rfl) rfl (g:=w.heap.size+1) (l.set4 _ _ _ _) rfl ?_;exact Zmo l (Zw.zero w1) e (by omega) ⟨k.out,Zmn k.out⟩
 have V:(lpErr p !=0)=false:=by simpa using hz
 have HZ:=JZ hz;clear hz;by_cases hl:L=m;rotate_left
 ·have X:((L:Int) !=(m:Int))=true:=by simp;omega
  have k:Hid (Zgh p ys=false):=JZ (Yme (by rw [U.out,← S.out];exact hl));clear hl;obtain ⟨x0,x1,x2⟩:=z.three;obtain ⟨c0,c1,c2,c3⟩:=l.four;obtain ⟨f0,f1,f2,f3⟩:=l.fourF;go_wp2;refine YX Tryz.results15 Tryz.underlying46 (by kernel_rfl) rfl (g:=w.heap.size+1) (l.set4 _ _ _ _) rfl ?_;exact Zmo l (Zw.zero w1) e (by omega) ⟨k.out,Zmn k.out⟩
 have X:((L:Int) !=(m:Int))=false:=by simp;omega
 have u:Hid (ys.length=p.right.length):=JZ (by rw [U.out,← S.out];exact hl);clear hl;obtain ⟨x0,x1,x2⟩:=z.three;go_wp2;clear x0 x1 x2 X V
 go_loopw [23] (fun i wr=>∃j:Nat,j≤N∧i= .int .i64 j∧Below w.heap.size w wr∧Bk wr w.heap.size 26 [.slice A n c,.slice A' N c',.slice a1 m a2]∧Bk wr (w.heap.size+1) 46 [.bool false,.slice none 0 0,.bool false,.slice none 0 0]∧Zgg p ys j) (fun i _=>N - (intOf i).toNat)
 case atStart=>exact ⟨0,by omega,rfl,e,z,l,Zwx _ _⟩
 case round=>
  clear e z l;obtain ⟨j,hj,rfl,a,hX,hR,M⟩:=hrel;have I:=JZ M;clear M;rcases JX j N with hjl | hjl
  ·obtain ⟨es,o⟩:=Xm (cs:=p.cols) (i:=j) (by rw [← t.out];exact hjl);obtain ⟨z1,z2,z3,z4,z5⟩:=YU HZ.out;obtain ⟨bc,am,Ac,cc,rfl,a3,r,ah⟩:=hv.elem (JR _ _) o;have C:=Zk a r;obtain ⟨f,hf⟩:=ZH (fs:=p.cost) (i:=j) (by rw [z3,← t.out];exact hjl);obtain ⟨b,aq,A1,n1,k1,A2,n2,k2,rfl,ar,ai,aj⟩:=hc.elem a hf;have a6:inR ys.length es:=(by rw [u.out];exact z4 j es o);have Y:=(y.out.2.2 j es o).2;have Z:1+es.length * (2 * K+1)≤34359738368:=by
    have:=JS (2 * K+1) (T.out j es o);omega
   have a7:f.Sm:=(y.out.1 j f hf).sm (by omega);have a8:(canF (V9 es ys es.length)).Sm:=((Zme Y hy hK es.length).mono Z).rs.sm (JY _);have a9:Hid (V9 es ys es.length=Zgf ys (p.col (j:Int)) p.right.length):=JZ (by rw [LPd.col_pos o];exact Zkp (z4 j es o) (z5 j es o).2);have HQ:=JZ (ZF hf);have aa:(j:Int) < N:=(by omega);have an:(j:Int) < n:=(by rw [a5.out,z3,← t.out];exact aa);clear z1 z2 z3 z4 z5 o hf a3;obtain ⟨x0,x1,x2⟩:=hX.three;obtain ⟨b0,b1,b2,b3⟩:=ai;go_wp2_with fail;have C1:=Zl x0;have C2:=Zl b0;have C3:=Zl b1;have C4:=Zl b2;have C5:=Zl b3;have D:=Zj wr;clear x0 x1 x2 b0 b1 b2 b3 r C;refine Zn 10 [0,1,3,4,5,6,7,2,8,9] (by kernel_rfl) (by kernel_rfl) ?_;repeat ((first|(first|refine Zb (v:=?_) rfl rfl rfl ?_ ?_ |refine Zd (v:=?_) rfl rfl rfl ?_ ?_);rotate_left;·(intro _ _;go_simp;(try go_bits);(try with_reducible rfl))|refine Ze rfl rfl rfl ?_);(try simp only [pu]))
   refine Zf rfl rfl (fun _ kq=>?_);go_simp;(with_reducible refine (Zop _ _ es ys K _ ((ah.below a).below D) ((h2.below a).below D) a6 hK Y hy Z P).mono ?_);rintro _ w8 ⟨v8,rfl,e8,ak⟩;have E:=Za D ak D.size;refine kq.out _ _ (.inr E) ?_;clear kq;(try simp only [pu]);repeat ((first|(first|refine Zb (v:=?_) rfl rfl rfl ?_ ?_ |refine Zd (v:=?_) rfl rfl rfl ?_ ?_);rotate_left;·(intro _ _;go_simp;(try go_bits);(try with_reducible rfl))|refine Ze rfl rfl rfl ?_);(try simp only [pu]))
   refine Zf rfl rfl (fun _ kq=>?_);go_simp;(with_reducible refine (UZ _ _ _ f _ e8 (aj.below E) a8 a7).mono ?_);rw [Zr,a9.out];rintro _ w9 ⟨rfl,al⟩;have F:=Za E al E.size;refine kq.out _ _ (.inr F) ?_;clear kq;(try simp only [pu]);repeat ((first|(first|refine Zb (v:=?_) rfl rfl rfl ?_ ?_ |refine Zd (v:=?_) rfl rfl rfl ?_ ?_);rotate_left;·(intro _ _;go_simp;(try go_bits);(try with_reducible rfl))|refine Ze rfl rfl rfl ?_);(try simp only [pu]))
   refine Zv ?_;have ab:=hX.later F;have v:=hR.later F;have J:=Za a F a.size;clear C1 C2 C3 C4 C5;by_cases s:Zgf ys (p.col (j:Int)) p.right.length≤f.q
   ·have ac:qs (Zgf ys (p.col (j:Int)) p.right.length - f.q)≤0:=Int.not_lt.1 fun h=>(Zev.1 h) s
    have ad:=JZ (Zwy I.out (by rw [HQ.out];exact s));clear s;go_wp2;go_roundw
    case rel=>exact ⟨j+1,by omega,by go_num,J,ab,v,ad.out⟩
    case measure=>simp [intOf];omega
   ·have ac:0 < qs (Zgf ys (p.col (j:Int)) p.right.length - f.q):=Zev.2 s;have k:Hid (Zgh p ys=false):=JZ (Ymf (by rw [← t.out];exact hjl) (by rw [HQ.out];exact s));clear s;obtain ⟨c0,c1,c2,c3⟩:=v.four;obtain ⟨f0,f1,f2,f3⟩:=v.fourF;go_wp2;refine YX Tryz.results15 Tryz.underlying46 (by kernel_rfl) rfl (g:=w.heap.size+1) (v.set4 _ _ _ _) rfl ?_;exact Zmo v (Zw.zero w9) J (by omega) ⟨k.out,Zmn k.out⟩
  ·obtain rfl:j=N:=by omega
   have k:Hid (Zgh p ys=true):=JZ (Yaf HZ.out u.out (by rw [← t.out];exact I.out));obtain ⟨x0,x1,x2⟩:=hX.three;obtain ⟨z1,_,_,_,_⟩:=YU HZ.out;have ae:1+ys.length * (2 * K+1)≤34359738368:=by
    have:=JS (2 * K+1) (show ys.length≤64 by rw [u.out];exact z1);omega
   clear z1;go_wp2_with fail;refine (Uu _ _ ys p.right K _ (h2.below a) (hr.below a) (by rw [u.out];exact JY _) hK hy y.out.2.1 ae P).mono ?_;rintro _ w2 ⟨v2,rfl,e2,O⟩;rw [u.out] at e2;have G:=hR.later O;have a0:=Za a O a.size;clear hX hR a O x0 x1 x2;obtain ⟨B,q,d,B',q',d',rfl,_,_⟩:=id e2;have HE:=JZ e2;have af:=JZ (Zdx k.out);clear e2;generalize canF (Xv ys p.right p.right.length)=DF at *;obtain ⟨c0,c1,c2,c3⟩:=G.four;obtain ⟨f0,f1,f2,f3⟩:=G.fourF;go_wp2;refine YX Tryz.results15 Tryz.underlying46 (by kernel_rfl) rfl (g:=w.heap.size+1) (G.set4 _ _ _ _) rfl ?_;exact Zmo G HE.out a0 (by omega) ⟨k.out,af.out⟩
namespace Pl
theorem Zuq {p:LPd} {xs:List RF} (h:lpErr p=0):VW p xs=((decide (xs.length=p.cols.length) && nnB xs) && Zdr p.right.length (Ym p xs p.cols.length) p.right):=by
 unfold VW;rw [decide_eq_true h,Bool.true_and,Bool.and_assoc]
 congr 2
 unfold eqB Zdr;apply decide_eq_decide.2;rw [Zc];constructor
 ·intro g i hi;rw [← g.2 i hi,Yr hi]
 ·intro g;exact ⟨rfl,fun i hi=>by rw [Yr hi];exact g i hi⟩
end Pl
theorem Zae (v1 v2:Value) (p:LPd) (xs:List RF) (K:Nat) (w:World) (h:LpM w v1 p) (h2:Y1 w v2 xs) (ok:p.Ok K) (hx:RsL K xs) (hK:1≤K) (hz:lpErr p=0) (hs:1+1201 * (2 * K+1)≤34359738368):
 Calls Tryz.prog 66 #[v1,v2] w fun e w'=>e= .returned (.bool (VW p xs))∧Below w.heap.size w w':=by
 obtain ⟨A,n,c,A',N,c',v,m,x,rfl,hc,hv,hr⟩:=id h;obtain ⟨W,hW,hX,b⟩:=Yc w (.slice A n c) (.slice A' N c') (.slice v m x);obtain ⟨x0,x1,x2⟩:=hX.three;obtain ⟨m1,m2,m3⟩:=hv.len;obtain ⟨Ax,cx,rfl,y,z⟩:=h2.shape;obtain ⟨z1,z2,z3,z4,z5⟩:=YU hz;have r:1+(p.cols.length+1) * (2 * K+1)≤34359738368:=by
  have:=JS (2 * K+1) (show p.cols.length+1≤1201 by omega);omega
 have f:=JZ (Zuq (xs:=xs) hz);have g:=JZ ok;have HX:=JZ hx;have s:=JZ m1;have HZ:=JZ hz;have h':=h.below b;have i:=h2.below b;have t:=hr.below b;clear ok hx m1 hz z1 z2 z3 z4 z5 h h2 hr hc hv;generalize q:xs.length=L at *;have j:=JZ q;clear q;go_enter Tryz.func66,Tryz.ntmps66;go_wp2_with fail;clear hW x0 x1 x2;refine (Zkn _ xs N _ i (by omega)).mono ?_;rw [j.out,s.out];rintro _ w1 ⟨rfl,d⟩;have k:=hX.later d;have a:=Za b d b.size;obtain ⟨x0,x1,x2⟩:=k.three
 cases hnn:(decide (L=p.cols.length) && nnB xs)
 ·have HR:Hid (VW p xs=false):=JZ (by rw [f.out,hnn];rfl);clear hnn;go_wp2;go_ret;exact ⟨ZM HR.out,a⟩
 ·have HR:Hid (VW p xs=Zdr p.right.length (Ym p xs p.cols.length) p.right):=JZ (by rw [f.out,hnn];rfl);have u:Hid (xs.length=p.cols.length):=JZ (by rw [j.out];simpa using (Bool.and_eq_true_iff.1 hnn).1);clear hnn;go_wp2_with fail;refine (Zgb _ _ _ p xs p.right K _ (h'.below d) (i.below d) (t.below d) g.out HX.out g.out.2.1 hK HZ.out u.out (JY _) r (by omega)).mono ?_;rintro _ w2 ⟨rfl,o⟩;have l:=Za a o a.size;clear k hX a b d o x0 x1 x2;go_wp2;go_ret;exact ⟨ZM HR.out,l⟩
theorem Zjv (v1 v2:Value) (p:LPd) (xs:List RF) (K:Nat) (w:World) (h:LpM w v1 p) (h2:Y1 w v2 xs) (ok:p.Ok K) (hx:RsL K xs) (hK:1≤K) (hs:1+1201 * (2 * K+1)≤34359738368):
 Calls Tryz.prog 27 #[v1,v2] w fun e w'=>e= .returned (.bool (VW p xs))∧Below w.heap.size w w':=by
 obtain ⟨A,n,c,A',N,c',o,m,q,rfl,hc,hv,hr⟩:=id h;obtain ⟨W,hW,hX,b⟩:=Yc w (.slice A n c) (.slice A' N c') (.slice o m q);obtain ⟨x0,x1,x2⟩:=hX.three;obtain ⟨Ax,cx,rfl,s,t⟩:=h2.shape;have f:=JZ ok;have HX:=JZ hx;have h':=h.below b;have k:=h2.below b;clear ok hx h h2 hr hc hv;generalize r:xs.length=L at *;clear r;go_enter Tryz.func27,Tryz.ntmps27;go_wp2_with fail;clear hW x0 x1 x2;refine (VK _ p K _ h' f.out).mono ?_;rintro _ w1 ⟨rfl,d⟩;have g:=hX.later d;have a:=Za b d b.size;obtain ⟨x0,x1,x2⟩:=g.three;by_cases hz:lpErr p=0
 ·have HZ:=JZ hz;have l:(lpErr p==0)=true:=by simpa using hz
  clear hz;go_wp2_with fail;refine (Zae _ _ p xs K _ (h'.below d) (k.below d) f.out HX.out hK HZ.out hs).mono ?_;rintro _ w2 ⟨rfl,j⟩;have i:=Za a j a.size;clear g hX a b d j x0 x1 x2;go_wp2;go_ret;exact ⟨rfl,i⟩
 ·have HR:=JZ (Yjl (xs:=xs) hz);have l:(lpErr p==0)=false:=by simpa using hz
  clear hz;go_wp2;go_ret;exact ⟨ZM HR.out,a⟩
theorem Yfc (n:Int):bits .and .i64 n 3=n % 4:=by
 have hc:(BitVec.ofInt 64 3).toNat=2^2 - 1:=by decide
 have a:(BitVec.ofInt 64 n &&& BitVec.ofInt 64 3).toNat=(n % ((2^64:Nat):Int)).toNat % 2^2:=by
  rw [BitVec.toNat_and,BitVec.toNat_ofInt,hc,Nat.and_two_pow_sub_one_eq_mod]
 show IntKind.i64.wrap ((BitVec.ofInt 64 n &&& BitVec.ofInt 64 3).toNat:Nat)=n % 4;rw [a,IntKind.wrap_i64];omega
theorem Yap (n:Int):bits .and .i64 n 15=n % 16:=by
 have hc:(BitVec.ofInt 64 15).toNat=2^4 - 1:=by decide
 have a:(BitVec.ofInt 64 n &&& BitVec.ofInt 64 15).toNat=(n % ((2^64:Nat):Int)).toNat % 2^4:=by
  rw [BitVec.toNat_and,BitVec.toNat_ofInt,hc,Nat.and_two_pow_sub_one_eq_mod]
 show IntKind.i64.wrap ((BitVec.ofInt 64 n &&& BitVec.ofInt 64 15).toNat:Nat)=n % 16;rw [a,IntKind.wrap_i64];omega
theorem Zoy (n:Int):bits .and .i64 n 65535=n % 65536:=by
 have hc:(BitVec.ofInt 64 65535).toNat=2^16 - 1:=by decide
 have a:(BitVec.ofInt 64 n &&& BitVec.ofInt 64 65535).toNat=(n % ((2^64:Nat):Int)).toNat % 2^16:=by
  rw [BitVec.toNat_and,BitVec.toNat_ofInt,hc,Nat.and_two_pow_sub_one_eq_mod]
 show IntKind.i64.wrap ((BitVec.ofInt 64 n &&& BitVec.ofInt 64 65535).toNat:Nat)=n % 65536;rw [a,IntKind.wrap_i64];omega
def Xq (w:World) (v:Value) (zs:List Int):Prop:=
 ∃a cap,v= .slice a zs.length cap∧zs.length≤cap∧cap≤maxLen∧(0 < zs.length→∃b off,a=some ⟨b,off,none⟩∧∀i,i < zs.length→w.cell? ⟨b,off+i,none⟩=some (.int .i64 (zs.getD i 0)))∧∀z∈zs,-9223372036854775808≤z∧z≤9223372036854775807
theorem Xq.below {w w':World} {v:Value} {zs:List Int} (h:Xq w v zs) (hb:Below w.heap.size w w'):Xq w' v zs:=by
 obtain ⟨a,cap,h1,h2,h3,h4,h5⟩:=h;refine ⟨a,cap,h1,h2,h3,fun hp=>?_,h5⟩;obtain ⟨b,c,g1,g2⟩:=h4 hp;exact ⟨b,c,g1,fun i hi=>Zk hb (g2 i hi)⟩
theorem Xq.shape {w:World} {v:Value} {zs:List Int} (h:Xq w v zs):∃a cap,v= .slice a zs.length cap∧zs.length≤cap∧cap≤9223372036854775807:=by
 obtain ⟨a,cap,h1,h2,h3,h4,h5⟩:=h;unfold maxLen at h3;exact ⟨a,cap,h1,h2,by omega⟩
theorem Xq.at_ {w:World} {a:Option Addr} {n cap:Nat} {zs:List Int} (h:Xq w (.slice a n cap) zs) {i:Nat} (hi:i < n):
 ∃b off z,a=some ⟨b,off,none⟩∧w.cell? ⟨b,off+i,none⟩=some (.int .i64 z)∧zs[i]? =some z∧ -9223372036854775808≤z∧z≤9223372036854775807:=by
 obtain ⟨a',c,h1,h2,h3,h4,h5⟩:=h;injection h1 with e1 e2 e3;subst e1;obtain ⟨b,off,g1,g2⟩:=h4 (by omega);have hg:zs[i]? =some (zs.getD i 0):=by simp [List.getD,JQ (show i < zs.length by omega)]
 have hm:=h5 _ (List.mem_of_getElem? hg);exact ⟨b,off,_,g1,g2 i (by omega),hg,hm⟩
theorem Zkv (v:Value) (zs:List Int) (i:Nat) (w:World) (h:Xq w v zs) (hi:i≤1099511627776):
 Calls Tryz.prog 28 #[v,.int .i64 (i:Int)] w fun e w'=>∃z:Int,e= .returned (.int .i64 z)∧0≤z∧z≤65535+i∧Below w.heap.size w w':=by
 obtain ⟨a,cap,rfl,p,q⟩:=h.shape;generalize hn:zs.length=n at *;clear hn;have hm:=Zoy;rcases JV n with h0 | h0
 ·subst h0;go_enter Tryz.func28,Tryz.ntmps28;go_wp2;go_ret;exact ⟨_,rfl,by omega,by omega,JR _ _⟩
 ·have d:i % n < n:=Nat.mod_lt _ h0;obtain ⟨b,r,z,rfl,c,_,s,t⟩:=h.at_ d;have g:((n:Int)==0)=false:=by simp;omega
  have hq:i / n≤i:=Nat.div_le_self _ _;have j:¬n=0:=by omega
  have k:(i:Int) % n < n:=by omega
  have l:0≤(i:Int) % n:=by omega
  have m:(i:Int) / n≤i:=Int.ediv_le_self _ (by omega);have o:0≤(i:Int) / n:=Int.ediv_nonneg (by omega) (by omega);go_enter Tryz.func28,Tryz.ntmps28;go_wp2_with fail;have C1:=Zl c;refine Zn 14 [0,1,2,3,4,5,6,7,8,9,10,11,12,13] (by kernel_rfl) (by kernel_rfl) ?_;repeat (first | (refine Zb (v:=?_) rfl rfl rfl ?_ ?_;rotate_left;(· (intro _ f;go_simp;(try go_bits);(try with_reducible rfl)));(try simp only [Act.put,List.setIfInBounds_toArray,List.set_cons_zero,List.set_cons_succ,List.getElem_toArray,List.getElem_cons_zero,List.getElem_cons_succ])) | (refine Zd (v:=?_) rfl rfl rfl ?_ ?_;rotate_left;(· (intro _ f;go_simp;(try go_bits);(try with_reducible rfl)));(try simp only [Act.put,List.setIfInBounds_toArray,List.set_cons_zero,List.set_cons_succ,List.getElem_toArray,List.getElem_cons_zero,List.getElem_cons_succ])) | (refine Ze rfl rfl rfl ?_;(try simp only [Act.put,List.setIfInBounds_toArray,List.set_cons_zero,List.set_cons_succ,List.getElem_toArray,List.getElem_cons_zero,List.getElem_cons_succ])))
  refine Zv ?_;clear C1;go_wp2;go_ret;exact ⟨_,rfl,by omega,by omega,Zj _⟩
namespace Pl
theorem Zoz {z:Int} (h: -4294967296 < z) (h2:z < 4294967296):Sz 1 (z:Rat):=by
 unfold Sz;exact ⟨Xw (by rw [Rat.num_intCast];unfold B32;omega),Xw (by rw [Rat.den_intCast];decide)⟩
end Pl
theorem Zmp (n:Int) (w:World):
 Calls Tryz.prog 30 #[.int .i64 n] w fun e w'=>∃v' q,e= .returned v'∧Wz w.heap.size w' v' (canF q)∧Sz 2 q∧Below w.heap.size w w':=by
 obtain ⟨W,hW,hR,f⟩:=YR w (.bool false) (.slice none 0 0) (.bool false) (.slice none 0 0);have m1:=Yap;have m2:=Yfc;have r1:0≤n % 16:=by omega
 have r2:n % 16≤15:=by omega
 go_enter Tryz.func30,Tryz.ntmps30;go_wp2_with fail;clear hW;refine (Yl (n % 16 - 5) _ (by omega) (by omega)).mono ?_;rintro _ w1 ⟨v1,rfl,e1,g⟩;have r3:0≤n / 16 % 4:=by omega
 have r4:n / 16 % 4≤3:=by omega
 go_wp2_with fail;refine (Yl (1+n / 16 % 4) _ (by omega) (by omega)).mono ?_;rintro _ w2 ⟨v2,rfl,e2,h⟩;have a:=Za g h g.size;have s1:Sz 1 (((n % 16 - 5:Int)):Rat):=Zoz (by omega) (by omega);have s2:Sz 1 (((1+n / 16 % 4:Int)):Rat):=Zoz (by omega) (by omega);go_wp2_with fail;refine (V5 _ _ _ _ _ (e1.frac.below h) e2.frac (s1.sh (by decide)) (s2.sh (by decide))).mono ?_;rw [Zr,Zr];rintro _ w3 ⟨v3,rfl,e3,j⟩;have SQ:=JZ (Zdf s1 s2);clear s1 s2;generalize (((n % 16 - 5:Int)):Rat) / (((1+n / 16 % 4:Int)):Rat)=q at *;have c:=Za a j a.size;have b:=hR.later c;have i:=Za f c f.size;have k:=e3.mono (show w.heap.size≤w2.heap.size from by have:=f.size;have:=a.size;omega);obtain ⟨B,l,d,B',l',d',rfl,_,_⟩:=id e3.frac;obtain ⟨c0,c1,c2,c3⟩:=b.four;obtain ⟨f0,f1,f2,f3⟩:=b.fourF;clear e1 e2 e3 hR g h j a;generalize hQ:canF q=Q at *;have HQ:=JZ hQ;clear hQ;go_wp2;refine Zp Tryz.results30 Tryz.underlying46 (by kernel_rfl) rfl (b.set4 _ _ _ _) rfl ?_;obtain ⟨v',q1,q2,q3⟩:=YL b k i (JY _);exact ⟨v',q,q1,by rw [HQ.out];exact q2,SQ.out,q3⟩
theorem Zpp (b off j:Nat):(⟨b,off,none⟩:Addr).add j=⟨b,off+j,none⟩:=by
 unfold Addr.add;split
 ·rename_i h;subst h;rfl
 ·rfl
end Go.Proofs.YtgbhebappffbdaaGreat
