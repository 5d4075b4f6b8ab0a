/- Lemmas of the claim; no condition. -/
import Derived.StillTail
import Derived.Test.YtobadipflggkiaaGreatW6
set_option linter.all false
set_option maxRecDepth 100000
set_option maxHeartbeats 40000000
namespace Go.Proofs.YtobadipflggkiaaGreat
open Go.RowKit
open Pl Tryz
attribute [local go_sem ↓] Go.wp_at_zero Go.wp_at_succ
def Zui{O xs ys:List Nat}{k:Nat}{z:Int}(hO:O.length=k)(hz:0<=z)(hx:xs.length+1<=k)(hy:ys.length+1<=k)(okx:okD xs)(oky:okD ys)
 (h:(vt O k:Int)+z* ((B32^k:Nat):Int)=vt xs k+vt ys k):val O=val xs+val ys:=by
 rw[XU Qk,XU (show xs.length<=k by omega),XU (show ys.length<=k by omega)]at h;obtain⟨j,rfl⟩:∃j,k=j+1:=⟨k - 1,Qk⟩;have a1:=je (Zgz okx) (jS B32_pos (show xs.length<=j by omega));have a2:=je (Zgz oky) (jS B32_pos (show ys.length<=j by omega));rw[jf]at h;generalize B32^j=p at *;rcases iM hz with h1|h1
 ·have:1* ((p*B32:Nat):Int)<=z* ((p*B32:Nat):Int):=jJ Qk Qk;unfold B32 at *;omega
 ·subst h1;omega
def Zjp(v1 v2:Value)(xs ys:List Nat)(w:World)(h1:ZP w v1 xs)(h2:ZP w v2 ys)(hx:xs.length<=549755813888)(hy:ys.length<=549755813888):
 Calls prog 145 #[v1,v2] w λe w'=>∃v',e= .returned v'/\ZP w' v' (Zp (val xs+val ys))/\Below w.heap.size w w':=by
 obtain⟨A,l,c,rfl⟩:=h1.shape;obtain⟨hl,j,p,hc⟩:=h1.len;obtain⟨A2,l2,c2,rfl⟩:=h2.shape;obtain⟨kl,m,q,kc⟩:=h2.len;rcases JX l l2 with hll|hll
 ·have b:=YV (l2+1) Qk
  push_cast at b
  have HX:Hid (xs.length<=l2):=JZ Qk;have HY:Hid (ys.length<=l2):=JZ Qk;have n:(l2:Int)<=549755813888:=Qk
  have d:=h1.ok;have f:=h2.ok;clear hl j kl m hx hy;go_enter func145,ntmps145;go_wp2;clear b
  go_loopw [7,8] (λcy i wr=>∃(k:Nat) (O:List Nat) (z:Int),k<=l2+1/\i= .int .i64 k/\cy= .int .u64 z/\0<=z/\z<=1/\l2+1<=O.length/\O.length<=l2+1/\YU wr w.heap.size O/\okD O/\Below w.heap.size w wr/\
   (vt O k:Int)+z* ((B32^k:Nat):Int)=vt xs k+vt ys k) (λ_ i _=>l2+1 - (intOf i).toNat)
  case atStart=>exact⟨0,List.replicate (l2+1) 0,0,Qk,rfl,rfl,Qk,Qk,by simp,by simp,YU.zeros w _,ZJ _,(JR _ _).alloc (JY _) _,by simp[Y3]⟩
  case round=>
   obtain⟨k,O,z,hk,rfl,rfl,z0,z1,hO,g,hB,ok,a,h⟩:=hrel;have HE:=JZ h;clear h;rcases JX k (l2+1)with hkl|hkl
   ·have x0:=Zr xs k;have x1:=Yl d k;have y0:=Zr ys k;have y1:=Yl f k;go_wp2_with fail;refine(Wq _ xs k _ (h1.below a) Qk).mono ?_;rintro e w1 ⟨rfl,rfl⟩;go_wp2_with fail;refine(Wq _ ys k _ (h2.below a) Qk).mono ?_;rintro e w1 ⟨rfl,rfl⟩;have ho:=hB.cell (k:=k) Qk;have hf:=hB.frozen k;go_wp2;go_roundw
    case rel=>exact⟨k+1,O.set k ((z+di xs k+di ys k)%4294967296).toNat,_,Qk,by go_num,rfl,Qk,Qk,by simpa using hO,by simpa using g,hB.setI k Qk,ZK ok k (by unfold B32;omega),a.setCell (JY _) _,Ui Qk z0 rfl HE.out⟩
    case measure=>exact Qn
   ·obtain rfl:k=l2+1:=Qk
    have o:decide (((l2:Int)+1)< (l2:Int)+1)=false:=(by simp);go_wp2_with fail;refine(YN _ O _ ?_).mono ?_
    ·have:=hB.dig ok (c:=l2+1) g (by unfold maxLen;omega)
     rwa[show O.length=l2+1 from Qk]at this
    rintro e w1 ⟨v',rfl,hv,rfl⟩;go_wp2_with fail;go_ret;refine⟨_,rfl,?_,a⟩
    rwa[Zui (show O.length=l2+1 by omega) z0 (by have:=HX.out;omega) (by have:=HY.out;omega) d f HE.out]at hv
 ·have b:=YV (l+1) Qk
  push_cast at b
  have HX:Hid (xs.length<=l):=JZ Qk;have HY:Hid (ys.length<=l):=JZ Qk;have n:(l:Int)<=549755813888:=Qk
  have d:=h1.ok;have f:=h2.ok;clear hl j kl m hx hy;go_enter func145,ntmps145;go_wp2;clear b
  go_loopw [7,8] (λcy i wr=>∃(k:Nat) (O:List Nat) (z:Int),k<=l+1/\i= .int .i64 k/\cy= .int .u64 z/\0<=z/\z<=1/\l+1<=O.length/\O.length<=l+1/\YU wr w.heap.size O/\okD O/\Below w.heap.size w wr/\
   (vt O k:Int)+z* ((B32^k:Nat):Int)=vt xs k+vt ys k) (λ_ i _=>l+1 - (intOf i).toNat)
  case atStart=>exact⟨0,List.replicate (l+1) 0,0,Qk,rfl,rfl,Qk,Qk,by simp,by simp,YU.zeros w _,ZJ _,(JR _ _).alloc (JY _) _,by simp[Y3]⟩
  case round=>
   obtain⟨k,O,z,hk,rfl,rfl,z0,z1,hO,g,hB,ok,a,h⟩:=hrel;have HE:=JZ h;clear h;rcases JX k (l+1)with hkl|hkl
   ·have x0:=Zr xs k;have x1:=Yl d k;have y0:=Zr ys k;have y1:=Yl f k;go_wp2_with fail;refine(Wq _ xs k _ (h1.below a) Qk).mono ?_;rintro e w1 ⟨rfl,rfl⟩;go_wp2_with fail;refine(Wq _ ys k _ (h2.below a) Qk).mono ?_;rintro e w1 ⟨rfl,rfl⟩;have ho:=hB.cell (k:=k) Qk;have hf:=hB.frozen k;go_wp2;go_roundw
    case rel=>exact⟨k+1,O.set k ((z+di xs k+di ys k)%4294967296).toNat,_,Qk,by go_num,rfl,Qk,Qk,by simpa using hO,by simpa using g,hB.setI k Qk,ZK ok k (by unfold B32;omega),a.setCell (JY _) _,Ui Qk z0 rfl HE.out⟩
    case measure=>exact Qn
   ·obtain rfl:k=l+1:=Qk
    have o:decide (((l:Int)+1)< (l:Int)+1)=false:=(by simp);go_wp2_with fail;refine(YN _ O _ ?_).mono ?_
    ·have:=hB.dig ok (c:=l+1) g (by unfold maxLen;omega)
     rwa[show O.length=l+1 from Qk]at this
    rintro e w1 ⟨v',rfl,hv,rfl⟩;go_wp2_with fail;go_ret;refine⟨_,rfl,?_,a⟩
    rwa[Zui (show O.length=l+1 by omega) z0 (by have:=HX.out;omega) (by have:=HY.out;omega) d f HE.out]at hv
def Zcp(v1 v2:Value)(a b:RI)(w:World)(h1:Yp w v1 a)(h2:Yp w v2 b)(hs:a.ds.length+b.ds.length<=549755813888):
 Calls prog 81 #[v1,v2] w λe w'=>∃v',e= .returned v'/\Yp w' v' (canI (a.z*b.z))/\Below w.heap.size w w':=by
 obtain⟨A,n,c,rfl,hd⟩:=h1.shape;obtain⟨A',n',c',rfl,i⟩:=h2.shape;obtain⟨W,hW,hX,hY,hR,g⟩:=Ykx w (.bool a.neg) (.slice A n c) (.bool b.neg) (.slice A' n' c');have d1:=hd.below g;have d2:=i.below g;have h:(Zp (val a.ds*val b.ds)).length<=549755813888:=by
  have q1:=Vj hd.ok;have q2:=Vj i.ok;exact JW (XP _ _) Qk
 go_enter func81,ntmps81;go_wp2_with fail;clear hW;have j:w.heap.size≠w.heap.size+1+1:=Qk
 have k:w.heap.size+1≠w.heap.size+1+1:=Qk
 go_region_held3(λw'=>(w'.cell? ⟨w.heap.size,0,none⟩=some (.bool a.neg)/\w'.cell? ⟨w.heap.size,1,none⟩=some (.slice A n c))/\(w'.cell? ⟨w.heap.size+1,0,none⟩=some (.bool b.neg)/\w'.cell? ⟨w.heap.size+1,1,none⟩=some (.slice A' n' c')))
  (first|with_reducible exact⟨hX.drew.pair,hY.drew.pair⟩|with_reducible exact⟨(hX.drew.later d).pair,(hY.drew.later d).pair⟩|with_reducible exact⟨((hX.drew.later d).later f).pair,((hY.drew.later d).later f).pair⟩|with_reducible exact⟨((hX.drew.later d).later f).two_far j _ _,((hY.drew.later d).later f).two_far k _ _⟩)
  (first
   |(go_at_call 118;refine(Zjq _ _ a.ds b.ds _ (d1.keep (ZI.drew _)) (d2.keep (ZI.drew _)) Qk).mono ?_;rintro e w1 ⟨v1,rfl,e1,d⟩)
   |(go_at_call 80;refine(Uo (a.neg !=b.neg) _ _ _ e1 h).mono ?_;rintro e w2 ⟨v2,rfl,e2,f⟩;obtain⟨A3,n3,k3,rfl,_⟩:=e2.shape;obtain⟨c0,c1,f0,f1⟩:=((hR.drew.later d).later f).two))
 go_wp2;refine Zq results81 underlying47 Qm rfl (((hR.drew.later d).later f).set2 _ _) rfl ?_;rw[RI.z_eq,RI.z_eq,<-Ykz];exact YX ((hR.drew.later d).later f) e2 (Za (Za g.drew d g.size) f (JW g.size d.size)) Qk
def Ygs(v1 v2:Value)(a b:RI)(w:World)(h1:Yp w v1 a)(h2:Yp w v2 b)(hs:a.ds.length<=274877906944)(hs2:b.ds.length<=274877906944):
 Calls prog 114 #[v1,v2] w λe w'=>∃v',e= .returned v'/\Yp w' v' (canI (a.z+b.z))/\Below w.heap.size w w':=by
 obtain⟨A,n,c,rfl,hd⟩:=h1.shape;obtain⟨A',n',c',rfl,B⟩:=h2.shape;obtain⟨W,hW,hX,hY,hR,j⟩:=Ykx w (.bool a.neg) (.slice A n c) (.bool b.neg) (.slice A' n' c');have d1:=hd.below j;have d2:=B.below j;have q1:=Vj hd.ok;have q2:=Vj B.ok;have r:w.heap.size≠w.heap.size+1+1:=Qk
 have s:w.heap.size+1≠w.heap.size+1+1:=Qk
 obtain⟨x0,x1,_,_⟩:=hX.two;obtain⟨y0,y1,_,_⟩:=hY.two;by_cases q:(a.neg==b.neg)=true
 ·have h:b.neg=a.neg:=(BP.1 q).symm;have m:(Zp (val a.ds+val b.ds)).length<=549755813888:=JW (Yau _ _ 274877906944 Qk Qk) Ql;have p:=JZ h;clear h;go_enter func114,ntmps114;go_wp2_with fail;clear hW q
  go_region_held3(λw'=>(w'.cell? ⟨w.heap.size,0,none⟩=some (.bool a.neg)/\w'.cell? ⟨w.heap.size,1,none⟩=some (.slice A n c))/\(w'.cell? ⟨w.heap.size+1,0,none⟩=some (.bool b.neg)/\w'.cell? ⟨w.heap.size+1,1,none⟩=some (.slice A' n' c')))
   (first|with_reducible exact⟨hX.drew.pair,hY.drew.pair⟩|with_reducible exact⟨(hX.drew.later d).pair,(hY.drew.later d).pair⟩|with_reducible exact⟨((hX.drew.later d).later f).pair,((hY.drew.later d).later f).pair⟩|with_reducible exact⟨((hX.drew.later d).later f).two_far r _ _,((hY.drew.later d).later f).two_far s _ _⟩)
   (first
    |(go_at_call 145;refine(Zjp _ _ a.ds b.ds _ (d1.keep (ZI.drew _)) (d2.keep (ZI.drew _)) Qk Qk).mono ?_;rintro e w1 ⟨v1,rfl,e1,d⟩)
    |(go_at_call 80;refine(Uo a.neg _ _ _ e1 m).mono ?_;rintro e w2 ⟨v2,rfl,e2,f⟩;obtain⟨A3,n3,k3,rfl,_⟩:=e2.shape;obtain⟨c0,c1,f0,f1⟩:=((hR.drew.later d).later f).two))
  go_wp2;refine Zq results114 underlying47 Qm rfl (((hR.drew.later d).later f).set2 _ _) rfl ?_;rw[RI.z_eq,RI.z_eq,p.out,Zhf];exact YX ((hR.drew.later d).later f) e2 (Za (Za j.drew d j.size) f (JW j.size d.size)) Qk
 ·have h:(a.neg==b.neg)=false:=by simpa using q
  clear q;have C:=Zrg (val a.ds) (val b.ds);rcases JX (val a.ds) (val b.ds)with hlt|hge
  ·have hc:cmpN (val a.ds) (val b.ds)= -1:=UL hlt;have m:(Zp (val b.ds - val a.ds)).length<=549755813888:=JW (Zu (Nat.sub_le _ _)) Qk;have t:(Zp (val a.ds)).length<=b.ds.length:=JW (Zu (jZ hlt)) q2;have x:=JZ hlt;clear hlt C;go_enter func114,ntmps114;go_wp2_with fail;clear hW;refine(YO _ _ a.ds b.ds _ d1 d2).mono ?_;rw[hc];rintro e w0 ⟨rfl,g⟩;have k:=hX.later g;have l:=hY.later g;have o:=hR.later g;have u:=d1.below g;have v:=d2.below g;have i:=Za j g j.size;clear hX hY hR d1 d2 j hc x0 x1 y0 y1;have p:=JZ h;clear h;go_wp2_with fail
   go_region_held3(λw'=>(w'.cell? ⟨w.heap.size,0,none⟩=some (.bool a.neg)/\w'.cell? ⟨w.heap.size,1,none⟩=some (.slice A n c))/\(w'.cell? ⟨w.heap.size+1,0,none⟩=some (.bool b.neg)/\w'.cell? ⟨w.heap.size+1,1,none⟩=some (.slice A' n' c')))
    (first|with_reducible exact⟨k.drew.pair,l.drew.pair⟩|with_reducible exact⟨(k.drew.later d).pair,(l.drew.later d).pair⟩|with_reducible exact⟨((k.drew.later d).later f).pair,((l.drew.later d).later f).pair⟩|with_reducible exact⟨((k.drew.later d).later f).two_far r _ _,((l.drew.later d).later f).two_far s _ _⟩)
    (first
     |(go_at_call 115;refine(YN _ a.ds _ (u.keep (ZI.drew _))).mono ?_;rintro e w3 ⟨v3,rfl,e3,rfl⟩)
     |(go_at_call 146;refine(Zbd _ _ b.ds (Zp (val a.ds)) _ (v.keep (ZI.drew _)) e3 (by rw[Zn];exact jZ x.out) t Qk).mono ?_;rw[Zn];rintro e w1 ⟨v1,rfl,e1,d⟩)
     |(go_at_call 80;refine(Uo b.neg _ _ _ e1 m).mono ?_;rintro e w2 ⟨v2,rfl,e2,f⟩;obtain⟨A3,n3,k3,rfl,_⟩:=e2.shape;obtain⟨c0,c1,f0,f1⟩:=((o.drew.later d).later f).two))
   go_wp2;refine Zq results114 underlying47 Qm rfl (((o.drew.later d).later f).set2 _ _) rfl ?_;rw[RI.z_eq,RI.z_eq,Zue p.out (jZ x.out)];exact YX ((o.drew.later d).later f) e2 (Za (Za i.drew d i.size) f (JW i.size d.size)) Qk
  ·have hc:0<=cmpN (val a.ds) (val b.ds):=(by unfold cmpN;split;omega;split <;> omega);have m:(Zp (val a.ds - val b.ds)).length<=549755813888:=JW (Zu (Nat.sub_le _ _)) Qk;have t:(Zp (val b.ds)).length<=a.ds.length:=JW (Zu hge) q1;have y:=JZ hge;clear hge;go_enter func114,ntmps114;go_wp2_with fail;clear hW;refine(YO _ _ a.ds b.ds _ d1 d2).mono ?_;rintro e w0 ⟨rfl,g⟩;generalize cmpN (val a.ds) (val b.ds)=cc at *;have k:=hX.later g;have l:=hY.later g;have o:=hR.later g;have u:=d1.below g;have v:=d2.below g;have i:=Za j g j.size;clear hX hY hR d1 d2 j x0 x1 y0 y1;have p:=JZ h;clear h;go_wp2_with fail
   go_region_held3(λw'=>(w'.cell? ⟨w.heap.size,0,none⟩=some (.bool a.neg)/\w'.cell? ⟨w.heap.size,1,none⟩=some (.slice A n c))/\(w'.cell? ⟨w.heap.size+1,0,none⟩=some (.bool b.neg)/\w'.cell? ⟨w.heap.size+1,1,none⟩=some (.slice A' n' c')))
    (first|with_reducible exact⟨k.drew.pair,l.drew.pair⟩|with_reducible exact⟨(k.drew.later d).pair,(l.drew.later d).pair⟩|with_reducible exact⟨((k.drew.later d).later f).pair,((l.drew.later d).later f).pair⟩|with_reducible exact⟨((k.drew.later d).later f).two_far r _ _,((l.drew.later d).later f).two_far s _ _⟩)
    (first
     |(go_at_call 115;refine(YN _ b.ds _ (v.keep (ZI.drew _))).mono ?_;rintro e w3 ⟨v3,rfl,e3,rfl⟩)
     |(go_at_call 146;refine(Zbd _ _ a.ds (Zp (val b.ds)) _ (u.keep (ZI.drew _)) e3 (by rw[Zn];exact y.out) t Qk).mono ?_;rw[Zn];rintro e w1 ⟨v1,rfl,e1,d⟩)
     |(go_at_call 80;refine(Uo a.neg _ _ _ e1 m).mono ?_;rintro e w2 ⟨v2,rfl,e2,f⟩;obtain⟨A3,n3,k3,rfl,_⟩:=e2.shape;obtain⟨c0,c1,f0,f1⟩:=((o.drew.later d).later f).two))
   go_wp2;refine Zq results114 underlying47 Qm rfl (((o.drew.later d).later f).set2 _ _) rfl ?_;rw[RI.z_eq,RI.z_eq,Zud p.out y.out];exact YX ((o.drew.later d).later f) e2 (Za (Za i.drew d i.size) f (JW i.size d.size)) Qk
def Zuk(z:Int):(canI z).ds.length=(Zp z.natAbs).length:=rfl
def Ybb(v1 v2:Value)(a b:RF)(w:World)(h1:Zx w v1 a)(h2:Zx w v2 b)(hs:a.Sh)(hs2:b.Sh):
 Calls prog 42 #[v1,v2] w λe w'=>∃v',e= .returned v'/\WM w.heap.size w' v' (canF (a.q/b.q))/\Below w.heap.size w w':=by
 obtain⟨A,n,c,A',n',c',rfl,_,_⟩:=id h1;obtain⟨B,m,d,B',m',d',rfl,_,_⟩:=id h2;obtain⟨W,hW,hX,hY,hR,p⟩:=Zru w (.bool a.num.neg) (.slice A n c) (.bool a.den.neg) (.slice A' n' c') (.bool b.num.neg) (.slice B m d) (.bool b.den.neg) (.slice B' m' d');have i1:=h1.below p;have i2:=h2.below p;have J:w.heap.size≠w.heap.size+1:=Qk
 have y:w.heap.size+1+1≠w.heap.size:=Qk
 have D:w.heap.size+1+1≠w.heap.size+1:=Qk
 have o:True:=trivial;obtain⟨p1,p2,p3,p4⟩:=hX.four;obtain⟨q1,q2,q3,q4⟩:=hY.four;go_enter func42,ntmps42;go_wp2_with fail;clear hW
 go_upto_region 1 with(fail)
 go_cut [] (λwx=>∃(A A' B B':Option Addr) (n c n' c' m d m' d':Nat),Yqp a.q b.q w wx A A' B B' n c n' c' m d m' d')
 case first=>
  go_region_with (first
   |(go_at_call 73;have _t:=o;refine(V8 _ a _ (i1.keep (ZI.drew _)) hs).mono ?_;clear o _t;rintro e w6 ⟨v6,rfl,e6,j⟩;obtain⟨A6,n6,k6,M,N,O,rfl,_,_⟩:=id e6.1;obtain⟨V,X,Y,Z⟩:=(hY.drew.later j).four)
   |(go_at_call 73;refine(V8 _ b _ ((i2.keep (ZI.drew _)).below j) hs2).mono ?_;rintro e w7 ⟨v7,rfl,e7,k⟩;obtain⟨A7,n7,k7,R,S,T,rfl,_,_⟩:=id e7.1;obtain⟨c0,c1,c2,c3⟩:=((hX.drew.later j).later k).four;obtain⟨r0,r1,r2,r3⟩:=((hX.drew.later j).later k).fourF;obtain⟨a0,a7,a8,a9⟩:=((hY.drew.later j).later k).four;obtain⟨aa,ab,ac,ad⟩:=((hY.drew.later j).later k).fourF))
  all_goals
   go_wp2_with fail
   go_meet
   have b1:=Za p.drew j p.size;obtain⟨a1,a2,a3,a4,a5,a6⟩:=Yaz ((hX.drew.later j).later k) ((hY.drew.later j).later k) ((hR.drew.later j).later k) J y D (e6.below k).1 e7.1 (Za b1 k b1.size) Qk Qk _ rfl;exact⟨A6,M,A7,R,n6,k6,N,O,n7,k7,S,T,a1,a2,a3,a4,a5,a6⟩
 case rest=>
  obtain⟨A,A',B,B',n,c,n',c',m,d,m',d',bX,bY,bR,fX,fY,be⟩:=hcut;clear p1 p2 p3 p4 q1 q2 q3 q4 hX hY hR p i1 i2 h1 h2 o;have r:=hs.sz;have s:=hs2.sz;obtain⟨l1,l2⟩:=szI r;obtain⟨l3,l4⟩:=szI s;have E:=zN a.q;have F:=zD a.q;have G:=zN b.q;have H:=zD b.q;generalize canF a.q=P at *;generalize canF b.q=Q at *;have t:=JZ E;have u:=JZ F;have v:=JZ G;have x:=JZ H;clear E F G H;obtain⟨iN,iD⟩:=fX.num;obtain⟨jN,jD⟩:=fY.num;have o:True:=trivial;have U:True:=trivial;have K:(Zp (val (canI (P.num.z*Q.den.z)).ds)).length<=137438953472:=(szV (by rw[t.out,x.out,kD];exact JW (XP _ _) (JW (ic r.1 s.2) Ql)));have L:(Zp (val (canI (P.den.z*Q.num.z)).ds)).length<=137438953472:=(szV (by rw[u.out,v.out,kD];exact JW (XP _ _) (JW (ic r.2 s.1) Ql)));have HV:Hid (Rat.divInt (P.num.z*Q.den.z) (P.den.z*Q.num.z)=a.q/b.q):=JZ (by rw[t.out,u.out,v.out,x.out];exact Yld _ _);clear r s hs hs2 t u v x;go_wp2_with fail
  go_region_held3(λw'=>(w'.cell? ⟨w.heap.size,0,none⟩=some (.bool P.num.neg)/\w'.cell? ⟨w.heap.size,1,none⟩=some (.slice A n c)/\w'.cell? ⟨w.heap.size,2,none⟩=some (.bool P.den.neg)/\w'.cell? ⟨w.heap.size,3,none⟩=some (.slice A' n' c'))/\(w'.cell? ⟨w.heap.size+1,0,none⟩=some (.bool Q.num.neg)/\w'.cell? ⟨w.heap.size+1,1,none⟩=some (.slice B m d)/\w'.cell? ⟨w.heap.size+1,2,none⟩=some (.bool Q.den.neg)/\w'.cell? ⟨w.heap.size+1,3,none⟩=some (.slice B' m' d')))
   (first|with_reducible exact⟨bX.drew.four,bY.drew.four⟩|with_reducible exact⟨(bX.drew.later g).four,(bY.drew.later g).four⟩|with_reducible exact⟨((bX.drew.later g).later i).four,((bY.drew.later g).later i).four⟩|with_reducible exact⟨(((bX.drew.later g).later i).later h).four,(((bY.drew.later g).later i).later h).four⟩|with_reducible exact⟨((((bX.drew.later g).later i).later h).far4 (bL y) _ _ _ _).four,((((bY.drew.later g).later i).later h).far4 (bL D) _ _ _ _).four⟩)
   (first
    |(go_at_call 81;have _t:=o;refine(Zcp _ _ P.num Q.den _ (iN.keep (ZI.drew _)) (jD.keep (ZI.drew _)) Qk).mono ?_;clear o _t;rintro e w8 ⟨v8,rfl,e8,g⟩)
    |(go_at_call 81;refine(Zcp _ _ P.den Q.num _ ((iD.keep (ZI.drew _)).below g) ((jN.keep (ZI.drew _)).below g) Qk).mono ?_;rintro e w9 ⟨v9,rfl,e9,i⟩)
    |(go_at_call 40;refine(Zcs _ _ (canI (P.num.z*Q.den.z)) (canI (P.den.z*Q.num.z)) _ (e8.below i) e9 K L).mono ?_;rw[ZM,ZM,HV.out];rintro e ae ⟨af,rfl,I,h⟩;obtain⟨C,l,f,C',l',f',rfl,_,_⟩:=id I.1;obtain⟨c0,c1,c2,c3⟩:=(((bR.drew.later g).later i).later h).four;obtain⟨f0,f1,f2,f3⟩:=(((bR.drew.later g).later i).later h).fourF))
  go_wp2;refine Zq results42 underlying49 Qm rfl ((((bR.drew.later g).later i).later h).set4 _ _ _ _) rfl ?_;have b0:=be.drew;have b1:=Za b0 g b0.size;have b2:=Za b1 i b1.size;have b3:=Za b2 h b2.size;exact WB (((bR.drew.later g).later i).later h) (I.mono b2.size) b3 Qk
def Ybc(v1 v2:Value)(a b:RF)(w:World)(h1:Zx w v1 a)(h2:Zx w v2 b)(hs:a.Sh)(hs2:b.Sh):
 Calls prog 74 #[v1,v2] w λe w'=>∃v',e= .returned v'/\WM w.heap.size w' v' (canF (a.q+b.q))/\Below w.heap.size w w':=by
 obtain⟨A,n,c,A',n',c',rfl,_,_⟩:=id h1;obtain⟨B,m,d,B',m',d',rfl,_,_⟩:=id h2;obtain⟨W,hW,hX,hY,hR,u⟩:=Zru w (.bool a.num.neg) (.slice A n c) (.bool a.den.neg) (.slice A' n' c') (.bool b.num.neg) (.slice B m d) (.bool b.den.neg) (.slice B' m' d');have i1:=h1.below u;have i2:=h2.below u;have M:w.heap.size≠w.heap.size+1:=Qk
 have F:w.heap.size+1+1≠w.heap.size:=Qk
 have G:w.heap.size+1+1≠w.heap.size+1:=Qk
 have r:True:=trivial;obtain⟨p1,p2,p3,p4⟩:=hX.four;obtain⟨q1,q2,q3,q4⟩:=hY.four;go_enter func74,ntmps74;go_wp2_with fail;clear hW
 go_upto_region 1 with(fail)
 go_cut [] (λwx=>∃(A A' B B':Option Addr) (n c n' c' m d m' d':Nat),Yqp a.q b.q w wx A A' B B' n c n' c' m d m' d')
 case first=>
  go_region_with (first
   |(go_at_call 73;have _t:=r;refine(V8 _ a _ (i1.keep (ZI.drew _)) hs).mono ?_;clear r _t;rintro e w6 ⟨v6,rfl,e6,o⟩;obtain⟨A6,n6,k6,T,U,V,rfl,_,_⟩:=id e6.1;obtain⟨a8,a9,aa,ab⟩:=(hY.drew.later o).four)
   |(go_at_call 73;refine(V8 _ b _ ((i2.keep (ZI.drew _)).below o) hs2).mono ?_;rintro e w7 ⟨v7,rfl,e7,p⟩;obtain⟨A7,n7,k7,X,Y,Z,rfl,_,_⟩:=id e7.1;obtain⟨c0,c1,c2,c3⟩:=((hX.drew.later o).later p).four;obtain⟨r0,r1,r2,r3⟩:=((hX.drew.later o).later p).fourF;obtain⟨ac,ad,ae,af⟩:=((hY.drew.later o).later p).four;obtain⟨ag,ah,ai,aj⟩:=((hY.drew.later o).later p).fourF))
  all_goals
   go_wp2_with fail
   go_meet
   have b1:=Za u.drew o u.size;obtain⟨a1,a2,a3,a4,a5,a6⟩:=Yaz ((hX.drew.later o).later p) ((hY.drew.later o).later p) ((hR.drew.later o).later p) M F G (e6.below p).1 e7.1 (Za b1 p b1.size) Qk Qk _ rfl;exact⟨A6,T,A7,X,n6,k6,U,V,n7,k7,Y,Z,a1,a2,a3,a4,a5,a6⟩
 case rest=>
  obtain⟨A,A',B,B',n,c,n',c',m,d,m',d',bX,bY,bR,fX,fY,be⟩:=hcut;clear p1 p2 p3 p4 q1 q2 q3 q4 hX hY hR u i1 i2 h1 h2 r;have s:=hs.sz;have t:=hs2.sz;obtain⟨l1,l2⟩:=szI s;obtain⟨l3,l4⟩:=szI t;have H:=zN a.q;have I:=zD a.q;have J:=zN b.q;have K:=zD b.q;generalize canF a.q=P at *;generalize canF b.q=Q at *;have D:=JZ H;have v:=JZ I;have E:=JZ J;have x:=JZ K;clear H I J K;obtain⟨iN,iD⟩:=fX.num;obtain⟨jN,jD⟩:=fY.num;have r:True:=trivial;have y:True:=trivial;have N:(Zp (P.num.z*Q.den.z).natAbs).length<=68719476736:=by rw[D.out,x.out,kD];exact JW (XP _ _) (ic s.1 t.2)
  have O:(Zp (Q.num.z*P.den.z).natAbs).length<=68719476736:=by rw[E.out,v.out,kD];exact JW (XP _ _) (ic t.1 s.2)
  have R:(Zp (val (canI (P.num.z*Q.den.z+Q.num.z*P.den.z)).ds)).length<=137438953472:=szV (JW (Zcm N O) Ql);have S:(Zp (val (canI (P.den.z*Q.den.z)).ds)).length<=137438953472:=szV (by rw[v.out,x.out,kD];exact JW (XP _ _) (JW (ic s.2 t.2) Ql));have HV:Hid (Rat.divInt (P.num.z*Q.den.z+Q.num.z*P.den.z) (P.den.z*Q.den.z)=a.q+b.q):=JZ (by rw[D.out,v.out,E.out,x.out];exact Yle _ _);clear s t hs hs2 D v E x;go_wp2_with fail
  go_region_held3(λw'=>(w'.cell? ⟨w.heap.size,0,none⟩=some (.bool P.num.neg)/\w'.cell? ⟨w.heap.size,1,none⟩=some (.slice A n c)/\w'.cell? ⟨w.heap.size,2,none⟩=some (.bool P.den.neg)/\w'.cell? ⟨w.heap.size,3,none⟩=some (.slice A' n' c'))/\(w'.cell? ⟨w.heap.size+1,0,none⟩=some (.bool Q.num.neg)/\w'.cell? ⟨w.heap.size+1,1,none⟩=some (.slice B m d)/\w'.cell? ⟨w.heap.size+1,2,none⟩=some (.bool Q.den.neg)/\w'.cell? ⟨w.heap.size+1,3,none⟩=some (.slice B' m' d')))
   (first|with_reducible exact⟨bX.drew.four,bY.drew.four⟩|with_reducible exact⟨(bX.drew.later h).four,(bY.drew.later h).four⟩|with_reducible exact⟨((bX.drew.later h).later j).four,((bY.drew.later h).later j).four⟩|with_reducible exact⟨(((bX.drew.later h).later j).later g).four,(((bY.drew.later h).later j).later g).four⟩|with_reducible exact⟨((((bX.drew.later h).later j).later g).later i).four,((((bY.drew.later h).later j).later g).later i).four⟩|with_reducible exact⟨(((((bX.drew.later h).later j).later g).later i).later k).four,(((((bY.drew.later h).later j).later g).later i).later k).four⟩|with_reducible exact⟨((((((bX.drew.later h).later j).later g).later i).later k).far4 (bL F) _ _ _ _).four,((((((bY.drew.later h).later j).later g).later i).later k).far4 (bL G) _ _ _ _).four⟩)
   (first
    |(go_at_call 81;have _t:=r;refine(Zcp _ _ P.num Q.den _ (iN.keep (ZI.drew _)) (jD.keep (ZI.drew _)) Qk).mono ?_;clear r _t;rintro e w8 ⟨v8,rfl,e8,h⟩)
    |(go_at_call 81;have _t:=y;refine(Zcp _ _ Q.num P.den _ ((jN.keep (ZI.drew _)).below h) ((iD.keep (ZI.drew _)).below h) Qk).mono ?_;clear y _t;rintro e w9 ⟨v9,rfl,e9,j⟩)
    |(go_at_call 114;refine(Ygs _ _ (canI (P.num.z*Q.den.z)) (canI (Q.num.z*P.den.z)) _ (e8.below j) e9 (by rw[Zuk];omega) (by rw[Zuk];omega)).mono ?_;rw[ZM,ZM];rintro e ak ⟨al,rfl,a0,g⟩)
    |(go_at_call 81;refine(Zcp _ _ P.den Q.den _ ((((iD.keep (ZI.drew _)).below h).below j).below g) ((((jD.keep (ZI.drew _)).below h).below j).below g) Qk).mono ?_;rintro e am ⟨an,rfl,a7,i⟩)
    |(go_at_call 40;refine(Zcs _ _ (canI (P.num.z*Q.den.z+Q.num.z*P.den.z)) (canI (P.den.z*Q.den.z)) _ (a0.below i) a7 R S).mono ?_;rw[ZM,ZM,HV.out];rintro e ao ⟨ap,rfl,L,k⟩;obtain⟨C,l,f,C',l',f',rfl,_,_⟩:=id L.1;obtain⟨c0,c1,c2,c3⟩:=(((((bR.drew.later h).later j).later g).later i).later k).four;obtain⟨f0,f1,f2,f3⟩:=(((((bR.drew.later h).later j).later g).later i).later k).fourF))
  go_wp2;refine Zq results74 underlying49 Qm rfl ((((((bR.drew.later h).later j).later g).later i).later k).set4 _ _ _ _) rfl ?_;have b0:=be.drew;have b1:=Za b0 h b0.size;have b2:=Za b1 j b1.size;have b3:=Za b2 g b2.size;have b4:=Za b3 i b3.size;have b5:=Za b4 k b4.size;exact WB (((((bR.drew.later h).later j).later g).later i).later k) (L.mono b4.size) b5 Qk
def WM.frac{base:Nat}{w:World}{v:Value}{f:RF}(h:WM base w v f):Zx w v f:=h.1
def Ybd(v1 v2:Value)(a b:RF)(w:World)(h1:Zx w v1 a)(h2:Zx w v2 b)(hs:a.Sh)(hs2:b.Sh):
 Calls prog 39 #[v1,v2] w λe w'=>∃v',e= .returned v'/\WM w.heap.size w' v' (canF (a.q - b.q))/\Below w.heap.size w w':=by
 obtain⟨A,n,c,A',n',c',rfl,_,_⟩:=id h1;obtain⟨B,m,d,B',m',d',rfl,_,_⟩:=id h2;obtain⟨W,hW,hX,hY,hR,i⟩:=Zru w (.bool a.num.neg) (.slice A n c) (.bool a.den.neg) (.slice A' n' c') (.bool b.num.neg) (.slice B m d) (.bool b.den.neg) (.slice B' m' d');have i1:=h1.below i;have i2:=h2.below i;have j:w.heap.size≠w.heap.size+1+1:=Qk
 have k:w.heap.size+1≠w.heap.size+1+1:=Qk
 have o:(canF (-b.q)).Sh:=(Zuo hs2.sz).sh (JY _);have HV:Hid (a.q+(canF (-b.q)).q=a.q - b.q):=JZ (by rw[Zv,fQ]);go_enter func39,ntmps39;go_wp2_with fail;clear hW
 go_region_held3(λw'=>(w'.cell? ⟨w.heap.size,0,none⟩=some (.bool a.num.neg)/\w'.cell? ⟨w.heap.size,1,none⟩=some (.slice A n c)/\w'.cell? ⟨w.heap.size,2,none⟩=some (.bool a.den.neg)/\w'.cell? ⟨w.heap.size,3,none⟩=some (.slice A' n' c'))/\(w'.cell? ⟨w.heap.size+1,0,none⟩=some (.bool b.num.neg)/\w'.cell? ⟨w.heap.size+1,1,none⟩=some (.slice B m d)/\w'.cell? ⟨w.heap.size+1,2,none⟩=some (.bool b.den.neg)/\w'.cell? ⟨w.heap.size+1,3,none⟩=some (.slice B' m' d')))
  (first|with_reducible exact⟨hX.drew.four,hY.drew.four⟩|with_reducible exact⟨(hX.drew.later g).four,(hY.drew.later g).four⟩|with_reducible exact⟨((hX.drew.later g).later h).four,((hY.drew.later g).later h).four⟩|with_reducible exact⟨(((hX.drew.later g).later h).far4 j _ _ _ _).four,(((hY.drew.later g).later h).far4 k _ _ _ _).four⟩)
  (first
   |(go_at_call 75;(with_reducible refine(Zop _ b _ (i2.keep (ZI.drew _)) hs2).mono ?_);rintro e w8 ⟨v8,rfl,e8,g⟩)
   |(go_at_call 74;(with_reducible refine(Ybc _ _ a (canF (-b.q)) _ ((i1.keep (ZI.drew _)).below g) e8.frac hs o).mono ?_);rw[HV.out];rintro e w9 ⟨v9,rfl,e9,h⟩;obtain⟨C,l,f,C',l',f',rfl,_,_⟩:=id e9.1;obtain⟨c0,c1,c2,c3⟩:=((hR.drew.later g).later h).four;obtain⟨f0,f1,f2,f3⟩:=((hR.drew.later g).later h).fourF))
 go_wp2;refine Zq results39 underlying49 Qm rfl (((hR.drew.later g).later h).set4 _ _ _ _) rfl ?_;have b1:=Za i.drew g i.size;exact WB ((hR.drew.later g).later h) (e9.mono b1.size) (Za b1 h b1.size) Qk
def ShH(f:RF):Prop:=(Zp (val f.num.ds)).length<=8589934592/\(Zp (val f.den.ds)).length<=8589934592
def ShH.sh{f:RF}(h:ShH f):f.Sh:=by unfold ShH at h;unfold RF.Sh;omega
def ShH.sz{f:RF}(h:ShH f):Sz 8589934592 f.q:=V7 (by rw[ZT];exact h.1) (by rw[ZT];exact h.2) Ql
def Sz.shH{k:Nat}{q:Rat}(h:Sz k q)(hk:k<=8589934592):ShH (canF q):=by
 unfold ShH canF;simp only[YM];exact⟨JW h.1 hk,JW h.2 hk⟩
def Ynd(q:Rat):qs (canF q).q=qs q:=by rw[Zv]
def Zly(v1 v2:Value)(a b:RF)(w:World)(h1:Zx w v1 a)(h2:Zx w v2 b)(hs:ShH a)(hs2:ShH b):
 Calls prog 14 #[v1,v2] w λe w'=>e= .returned (.int .i64 (qs (a.q - b.q)))/\Below w.heap.size w w':=by
 obtain⟨A,n,c,A',n',c',rfl,_,_⟩:=id h1;obtain⟨B,m,d,B',m',d',rfl,_,_⟩:=id h2;obtain⟨W,hW,h,hX,hY,f⟩:=Zoe w (.bool a.num.neg) (.slice A n c) (.bool a.den.neg) (.slice A' n' c') (.bool b.num.neg) (.slice B m d) (.bool b.den.neg) (.slice B' m' d');have i1:=h1.below f;have i2:=h2.below f;obtain⟨p1,p2,p3,p4⟩:=hX.four;obtain⟨q1,q2,q3,q4⟩:=hY.four;have g:(canF (a.q - b.q)).Sh:=(Zfm hs.sz hs2.sz).sh Ql;have HQ:=JZ (Ynd (a.q - b.q));clear h;go_enter func14,ntmps14;go_wp2_with fail;clear hW;refine(Ybd _ _ a b _ i1 i2 hs.sh hs2.sh).mono ?_;rintro e w1 ⟨v1,rfl,e1,i⟩;generalize canF (a.q - b.q)=DF at *;go_wp2_with fail;refine(Zxj _ DF _ e1.1 g).mono ?_;rw[HQ.out];rintro e w2 ⟨rfl,j⟩;go_wp2;go_ret;have b1:=Za f i f.size;exact⟨rfl,Za b1 j b1.size⟩
def FrC(w:World)(cs:List Value)(fs:List RF):Prop:=
 cs.length=fs.length*4/\∀k f,fs[k]? =some f->∃x y z u,cs[k*4]? =some x/\cs[k*4+1]? =some y/\cs[k*4+2]? =some z/\cs[k*4+3]? =some u/\Zx w (.agg #[x,y,z,u]) f
def FrC.keep{w w':World}{cs:List Value}{fs:List RF}(h:FrC w cs fs)(hk:ZI w w'):FrC w' cs fs:=
 ⟨h.1,λk f hf=>by
  obtain⟨x,y,z,u,h1,h2,h3,h4,h5⟩:=h.2 k f hf
  exact⟨x,y,z,u,h1,h2,h3,h4,h5.keep hk⟩⟩
def FrC.nil(w:World):FrC w [] []:=⟨rfl,λk f h=>by simp at h⟩
def FrC.snoc{w:World}{cs:List Value}{fs:List RF}(h:FrC w cs fs){x y z u:Value}{f:RF}(hf:Zx w (.agg #[x,y,z,u]) f):FrC w (cs++[x,y,z,u]) (fs++[f]):=by
 refine⟨by simp[h.1];omega,λk g hg=>?_⟩;have hl:=h.1;rcases JX k fs.length with hk|hk
 ·rw[jI hk]at hg;obtain⟨x',y',z',u',h1,h2,h3,h4,h5⟩:=h.2 k g hg;refine⟨x',y',z',u',?_,?_,?_,?_,h5⟩
  ·rw[jI Qk];exact h1
  ·rw[jI Qk];exact h2
  ·rw[jI Qk];exact h3
  ·rw[jI Qk];exact h4
 ·rw[jH hk]at hg;have a:k - fs.length=0:=by
   rcases JV (k - fs.length)with e|e
   ·exact e
   ·rw[JU (by simp;omega)]at hg;cases hg
  rw[a]at hg;simp at hg;subst hg;obtain rfl:k=fs.length:=Qk
  refine⟨x,y,z,u,?_,?_,?_,?_,hf⟩
  ·rw[jH Qk,show fs.length*4 - cs.length=0 by omega];rfl
  ·rw[jH Qk,show fs.length*4+1 - cs.length=1 by omega];rfl
  ·rw[jH Qk,show fs.length*4+2 - cs.length=2 by omega];rfl
  ·rw[jH Qk,show fs.length*4+3 - cs.length=3 by omega];rfl
def Zxl(cs:List Value)(j:Nat)(x y z u:Value):List Value:=(((cs.set j x).set (j+1) y).set (j+2) z).set (j+3) u
def FrC.set_{w:World}{cs:List Value}{fs:List RF}(h:FrC w cs fs){k:Nat}(hk:k<fs.length){x y z u:Value}{f:RF}(hf:Zx w (.agg #[x,y,z,u]) f):FrC w (Zxl cs (k*4) x y z u) (fs.set k f):=by
 have hl:=h.1;refine⟨by simp[Zxl,hl],λj g hg=>?_⟩;rcases kF j k with hjk|hjk|hjk
 ·rw[jE Qk]at hg;obtain⟨x',y',z',u',h1,h2,h3,h4,h5⟩:=h.2 j g hg;refine⟨x',y',z',u',?_,?_,?_,?_,h5⟩ <;> unfold Zxl <;> rw[jE Qk,jE Qk,jE Qk,jE Qk] <;> assumption
 ·subst hjk;rw[jM hk]at hg;injection hg with hg;subst hg;refine⟨x,y,z,u,?_,?_,?_,?_,hf⟩ <;> unfold Zxl
  ·rw[jE Qk,jE Qk,jE Qk,jM Qk]
  ·rw[jE Qk,jE Qk,jM (by simp;omega)]
  ·rw[jE Qk,jM (by simp;omega)]
  ·rw[jM (by simp;omega)]
 ·rw[jE Qk]at hg;obtain⟨x',y',z',u',h1,h2,h3,h4,h5⟩:=h.2 j g hg;refine⟨x',y',z',u',?_,?_,?_,?_,h5⟩ <;> unfold Zxl <;> rw[jE Qk,jE Qk,jE Qk,jE Qk] <;> assumption
def VC(w:World)(t:TypeId)(s:Nat)(v:Value)(n:Nat)(xs:List Value):Prop:=
 ∃A c,v= .slice A n c/\xs.length=n*s/\n<=c/\c<=maxLen/\(0<n->∃b off cs fz,A=some ⟨b,off,none⟩/\w.heap[b]? =some (.cells cs t fz)/\∀j u,xs[j]? =some u->cs[off+j]? =some u)
def VC.below{w w':World}{t:TypeId}{s n:Nat}{v:Value}{xs:List Value}(h:VC w t s v n xs)(hb:Below w.heap.size w w'):VC w' t s v n xs:=by
 obtain⟨A,c,h1,h2,h3,h4,h5⟩:=h;refine⟨A,c,h1,h2,h3,h4,λhp=>?_⟩;obtain⟨b,a,cs,fz,hA,hc,hx⟩:=h5 hp;exact⟨b,a,cs,fz,hA,(hb.block b (ZU hc)).trans hc,hx⟩
def VC.shape{w:World}{t:TypeId}{s n:Nat}{v:Value}{xs:List Value}(h:VC w t s v n xs):∃A c,v= .slice A n c/\n<=c/\c<=9223372036854775807:=by
 obtain⟨A,c,h1,h2,h3,h4,h5⟩:=h;unfold maxLen at h4;exact⟨A,c,h1,h3,Qk⟩
def VC.at_{w:World}{t:TypeId}{s n c:Nat}{A:Option Addr}{xs:List Value}(h:VC w t s (.slice A n c) n xs)(hn:0<n):
 ∃b off,A=some ⟨b,off,none⟩/\b<w.heap.size/\∀j u,xs[j]? =some u->w.cell? ⟨b,off+j,none⟩=some u:=by
 obtain⟨A',c',hv,h2,h3,h4,h5⟩:=h;injection hv with e1 e2 e3;subst e1;obtain⟨b,off,cs,fz,hA,hc,hx⟩:=h5 hn;exact⟨b,off,hA,ZU hc,λj u hj=>by rw[eB w b (off+j) cs _ fz hc,hx j u hj]⟩
def VC.len{w:World}{t:TypeId}{s n m c:Nat}{A:Option Addr}{xs:List Value}(h:VC w t s (.slice A n c) m xs):n=m:=by
 obtain⟨A',c',hv,_⟩:=h;injection hv
def VC.of_own{w:World}{base:Nat}{t:TypeId}{s n:Nat}{v:Value}{xs:List Value}(h:w.ownsRow base t s v n xs):VC w t s v n xs:=by
 rcases h.2 with⟨rfl,h0⟩|⟨g,cap,cur,rfl,hb,hg,hnc,hcm,hcs,htake⟩
 ·have hl:=h.1;have hx:n=0\/s=0:=by
   subst h0;exact Or.inl rfl
  subst h0;exact⟨none,0,rfl,hl,JY _,by simp,λhp=>Qk⟩
 ·refine⟨_,cap,rfl,h.1,hnc,hcm,λ_=>⟨g,0,cur,(0,0),rfl,hg,λj u hj=>?_⟩⟩;rw[<-htake,iZ]at hj;split at hj
  ·simpa using hj
  ·cases hj
def VC.nil(w:World)(t:TypeId)(s:Nat)(A:Option Addr)(c:Nat)(hm:c<=maxLen):VC w t s (.slice A 0 c) 0 []:=⟨A,c,rfl,by simp,iI _,hm,λh=>Qk⟩
def UY(w:World)(v:Value)(fs:List RF):Prop:=∃cs,VC w 49 4 v fs.length cs/\FrC w cs fs
def UY.below{w w':World}{v:Value}{fs:List RF}(h:UY w v fs)(hb:Below w.heap.size w w'):UY w' v fs:=by
 obtain⟨cs,h1,h2⟩:=h;exact⟨cs,h1.below hb,h2.keep (ZI.of_below hb)⟩
def UY.shape{w:World}{v:Value}{fs:List RF}(h:UY w v fs):∃A c,v= .slice A fs.length c/\fs.length<=c/\c<=9223372036854775807:=by
 obtain⟨cs,h1,h2⟩:=h;exact h1.shape
def UY.at_{w:World}{A:Option Addr}{n c:Nat}{fs:List RF}(h:UY w (.slice A n c) fs){k:Nat}{f:RF}(hf:fs[k]? =some f):
 ∃b off x y z u,A=some ⟨b,off,none⟩/\b<w.heap.size/\w.cell? ⟨b,off+k*4,none⟩=some x/\w.cell? ⟨b,off+k*4+1,none⟩=some y/\w.cell? ⟨b,off+k*4+2,none⟩=some z/\w.cell? ⟨b,off+k*4+3,none⟩=some u/\Zx w (.agg #[x,y,z,u]) f:=by
 obtain⟨cs,h1,h2⟩:=h;obtain⟨x,y,z,u,c1,c2,c3,c4,hm⟩:=h2.2 k f hf;have hk:k<fs.length:=(JO.1 hf).1;have hn:=h1.len;subst hn;obtain⟨b,off,hA,hb,hc⟩:=h1.at_ Qk;exact⟨b,off,x,y,z,u,hA,hb,hc _ _ c1,hc _ _ c2,hc _ _ c3,hc _ _ c4,hm⟩
def Yy(base:Nat)(w:World)(v:Value)(fs:List RF):Prop:=∃cs,w.ownsRow base 49 4 v fs.length cs/\FrC w cs fs
def Yy.frs{base:Nat}{w:World}{v:Value}{fs:List RF}(h:Yy base w v fs):UY w v fs:=by
 obtain⟨cs,h1,h2⟩:=h;exact⟨cs,VC.of_own h1,h2⟩
def own_below{w w':World}{base:Nat}{t:TypeId}{s n:Nat}{v:Value}{xs:List Value}(h:w.ownsRow base t s v n xs)(hb:Below w.heap.size w w'):w'.ownsRow base t s v n xs:=by
 refine⟨h.1,?_⟩;rcases h.2 with hn|⟨g,cap,cur,rfl,hb',hgg,rest⟩
 ·exact .inl hn
 ·exact .inr ⟨g,cap,cur,rfl,hb',(hb.block g (ZU hgg)).trans hgg,rest⟩
def Yy.below{base:Nat}{w w':World}{v:Value}{fs:List RF}(h:Yy base w v fs)(hb:Below w.heap.size w w'):Yy base w' v fs:=by
 obtain⟨cs,h1,h2⟩:=h;exact⟨cs,own_below h1 hb,h2.keep (ZI.of_below hb)⟩
def Yy.nil(base:Nat)(w:World):Yy base w (.slice none 0 0) []:=⟨[],kY _ _ _ _,FrC.nil _⟩
def info_frac:(prog.info? 49).map (λi=>(i.zero,i.size,i.bytes))=some (some (.agg #[.bool false,.slice none 0 0,.bool false,.slice none 0 0]),4,64):=Qm
def Zf(e:TypeId)(w w':World):Prop:=∀(b:Nat) (cs:Array Value) (t:TypeId) (fz:Nat × Nat),t≠e->w.heap[b]? =some (.cells cs t fz)->w'.heap[b]? =some (.cells cs t fz)
def Zf.keep{e:TypeId}{w w':World}(h:Zf e w w')(he:71≠e):ZI w w':=λb cs fz hb=>h b cs _ fz he hb
def Zf.bk{e:TypeId}{w w':World}{g:Nat}{t:TypeId}{cs:List Value}(h:Zf e w w')(hb:Bk w g t cs)(ht:t≠e):Bk w' g t cs:=h g _ t _ ht hb
def Zf.own{e:TypeId}{w w':World}{base:Nat}{t:TypeId}{s n:Nat}{v:Value}{xs:List Value}(h:Zf e w w')(ho:w.ownsRow base t s v n xs)(ht:t≠e):w'.ownsRow base t s v n xs:=by
 refine⟨ho.1,?_⟩;rcases ho.2 with hn|⟨g,cap,cur,rfl,hb',hgg,rest⟩
 ·exact .inl hn
 ·exact .inr ⟨g,cap,cur,rfl,hb',h g _ t _ ht hgg,rest⟩
def Zf.row{e:TypeId}{w w':World}{t:TypeId}{s n:Nat}{v:Value}{xs:List Value}(h:Zf e w w')(hr:VC w t s v n xs)(ht:t≠e):VC w' t s v n xs:=by
 obtain⟨A,c,h1,h2,h3,h4,h5⟩:=hr;refine⟨A,c,h1,h2,h3,h4,λhp=>?_⟩;obtain⟨b,a,cs,fz,hA,hc,hx⟩:=h5 hp;exact⟨b,a,cs,fz,hA,h b cs t fz ht hc,hx⟩
def Zf.trans{e:TypeId}{a b c:World}(h:Zf e a b)(k:Zf e b c):Zf e a c:=λx cs t fz ht hx=>k x cs t fz ht (h x cs t fz ht hx)
def Zf.setCell{w:World}{g:Nat}{cs:Array Value}{e:TypeId}{fz:Nat × Nat}(h:w.heap[g]? =some (.cells cs e fz))(i:Nat)(u:Value):Zf e w (w.setCell ⟨g,i,none⟩ u):=by
 intro b c t d ht hb;have a:b≠g:=by
  rintro rfl;rw[h]at hb;injection hb with hb;injection hb with _ h2 _;exact ht h2.symm
 rw[vH w _ _ _ a];exact hb
def Zjs(ty t e:TypeId)(i:TypeInfo)(z:Value)(size bytes:Nat)(ht:prog.underlying t=some (.slice e))(hi:prog.info? e=some i)(hz:i.zero=some z)
 (hsize:i.size=size) (hby:i.bytes=bytes) (hzs:z.cells.size=size) (hsz:0<size) (W:World) (base:Nat) (v:Value) (n:Nat) (xs news:List Value) (hown:W.ownsRow base e size v n xs)
 (hl:news.length=size) (h1:∀u∈news,u.oneCell'=true) (hn:n+1<=maxLen) (hb:(n+1)*bytes<=140737488355328) (hbase:base<=W.heap.size):
 ∃v' w',(Builtin.append_ #[t,t] ty #[v,.slice (some ⟨W.heap.size,0,none⟩) 1 1]).run prog (W.alloc (.cells news.toArray e))= .ok v' w'/\w'.ownsRow base e size v' (n+1) (xs++news)/\Zf e W w'/\Below base W w':=by
 have a:Bk (W.alloc (.cells news.toArray e)) W.heap.size e news:=Bk.new W e news;obtain⟨v',w',c,h2,h3,_,_⟩:=aM (P:=prog) (W.alloc (.cells news.toArray e)) base t ty e i z size bytes ht hi hz hsize hby hzs hsz v n xs (hown.alloc _) ⟨W.heap.size,0,none⟩ 1 1 news Qk (λj u hj=>by rw[addr_add,ji,a.cell];exact hj) h1 hn hb (by simp;omega);refine⟨v',w',c,h2,?_,?_⟩
 ·intro b cs t' fz f hc;have d:=ZU hc;refine(h3.block b (by simp;omega) ?_).trans ((eO W _ b d).trans hc);intro e1;rcases hown.2 with⟨rfl,_⟩|⟨g,cap,cur,rfl,_,hg,_⟩
  ·simp[Value.ownBlock]at e1
  ·simp[Value.ownBlock]at e1;subst e1;rw[hg]at hc;injection hc with hc;injection hc with _ h2 _;exact f h2.symm
 ·refine((JR _ _).alloc hbase _).grown h3 (by simp;omega) (λk hk=>?_);exact(hown.lt k hk).1
 where
  addr_add (g j:Nat):(⟨g,0,none⟩:Addr).add j=⟨g,0+j,none⟩:=by
   unfold Addr.add;split
   ·rename_i h;subst h;rfl
   ·rfl
def V9{ops:Array Oper}{rest:List Oper}{o:Oper}{a:Act}{Q:Exit->Act->World->Prop}(hgd:o.guard=none)(s x:Operand)(t:TypeId)
 (ho:o.op= .call { callee:= .builtin .append,args:=#[s,x],argTypes:=#[t,t] })
 (e:TypeId) (i:TypeInfo) (z:Value) (size bytes:Nat) (ht:prog.underlying t=some (.slice e)) (hi:prog.info? e=some i) (hz:i.zero=some z)
 (hsize:i.size=size) (hby:i.bytes=bytes) (hzs:z.cells.size=size) (hsz:0<size) (W:World) (base:Nat) (v:Value) (n:Nat) (xs news:List Value) (hs:a.eval s=v) (hown:W.ownsRow base e size v n xs)
 (hx:a.eval x= .slice (some ⟨W.heap.size,0,none⟩) 1 1) (hl:news.length=size) (h1:∀u∈news,u.oneCell'=true) (hn:n+1<=maxLen) (hb:(n+1)*bytes<=140737488355328) (hbase:base<=W.heap.size)
 (h:∀v' w',w'.ownsRow base e size v' (n+1) (xs++news)->Zf e W w'->Below base W w'->wpList prog ops Q rest (a.put o.dst v') w'):
 wpList prog ops Q (o::rest) a (W.alloc (.cells news.toArray e)):=by
 refine eP hgd λK hK=>?_
 obtain⟨v',w',hr,h2,h3,h4⟩:=Zjs o.type t e i z size bytes ht hi hz hsize hby hzs hsz W base v n xs news hown hl h1 hn hb hbase;unfold Oper.wp execOp;simp only[ho,resolve,invoke,builtin,vP,bP,vD,vL,kM,gG,hs,hx,hr];exact hK _ _ (h v' w' h2 h3 h4)
def Zoq{x y:Bool}{A A':Option Addr}{n c n' c':Nat}:∀u∈[Value.bool x,.slice A n c,.bool y,.slice A' n' c'],u.oneCell'=true:=by
 intro u hu;simp at hu;rcases hu with rfl|rfl|rfl|rfl <;> rfl
def Xh{w:World}{base:Nat}{e:TypeId}{size n c g:Nat}{xs:List Value}(h:w.ownsRow base e size (.slice (some ⟨g,0,none⟩) n c) n xs)(j:Nat)(u:Value)(hj:j<xs.length):
 (w.setCell ⟨g,j,none⟩ u).ownsRow base e size (.slice (some ⟨g,0,none⟩) n c) n (xs.set j u):=by
 refine⟨by rw[jd];exact h.1,?_⟩;rcases h.2 with⟨h0,_⟩|⟨g',cap,cur,hv,hb,hg,hnc,hcm,hcs,htake⟩
 ·injection h0 with h0;cases h0
 ·injection hv with e1 e2 e3;injection e1 with e1;injection e1 with e1;subst e1 e3;refine .inr ⟨g,c,cur.setIfInBounds j u,rfl,hb,?_,hnc,hcm,by simpa using hcs,?_⟩
  ·rw[Ba w g j _ e u hg]
  ·rw[Array.toList_setIfInBounds,List.take_set,htake]
def ZN{w:World}{base:Nat}{e:TypeId}{size n c g:Nat}{xs:List Value}(h:w.ownsRow base e size (.slice (some ⟨g,0,none⟩) n c) n xs){j:Nat}{u:Value}(hj:xs[j]? =some u):w.cell? ⟨g,j,none⟩=some u/\w.frozen? ⟨g,j,none⟩=false:=by
 rcases h.2 with⟨h0,_⟩|⟨g',cap,cur,hv,hb,hg,hnc,hcm,hcs,htake⟩
 ·injection h0 with h0;cases h0
 ·injection hv with e1 e2 e3;injection e1 with e1;injection e1 with e1;subst e1 e3;refine⟨?_,frozen_of_row w g j _ _ hg⟩;rw[eB w g j _ _ _ hg];rw[<-htake,iZ]at hj;split at hj
  ·simpa using hj
  ·cases hj
def Z0{w:World}{base:Nat}{e:TypeId}{size n c g:Nat}{xs:List Value}(h:w.ownsRow base e size (.slice (some ⟨g,0,none⟩) n c) n xs):∃cur,w.heap[g]? =some (.cells cur e (0,0))/\base<=g:=by
 rcases h.2 with⟨h0,_⟩|⟨g',cap,cur,hv,hb,hg,hnc,hcm,hcs,htake⟩
 ·injection h0 with h0;cases h0
 ·injection hv with e1 e2 e3;injection e1 with e1;injection e1 with e1;subst e1;exact⟨cur,hg,hb⟩
def Yy.shape{base:Nat}{w:World}{v:Value}{fs:List RF}(h:Yy base w v fs)(hp:0<fs.length):∃g c,v= .slice (some ⟨g,0,none⟩) fs.length c/\base<=g/\g<w.heap.size/\fs.length<=c/\c<=9223372036854775807:=by
 obtain⟨cs,h1,h2⟩:=h;rcases h1.2 with⟨rfl,h0⟩|⟨g,cap,cur,rfl,hb,hg,hnc,hcm,hcs,htake⟩
 ·have:=h2.1;rw[h0]at this;simp at this;omega
 ·unfold maxLen at hcm;exact⟨g,cap,rfl,hb,ZU hg,hnc,Qk⟩
def Yy.at_{base:Nat}{w:World}{g n c:Nat}{fs:List RF}(h:Yy base w (.slice (some ⟨g,0,none⟩) n c) fs){k:Nat}{f:RF}(hf:fs[k]? =some f):
 ∃x y z u,(w.cell? ⟨g,k*4,none⟩=some x/\w.cell? ⟨g,k*4+1,none⟩=some y/\w.cell? ⟨g,k*4+2,none⟩=some z/\w.cell? ⟨g,k*4+3,none⟩=some u)/\(w.frozen? ⟨g,k*4,none⟩=false/\w.frozen? ⟨g,k*4+1,none⟩=false/\w.frozen? ⟨g,k*4+2,none⟩=false/\w.frozen? ⟨g,k*4+3,none⟩=false)/\Zx w (.agg #[x,y,z,u]) f:=by
 obtain⟨cs,h1,h2⟩:=h;have hn:n=fs.length:=(VC.of_own h1).len;subst hn;obtain⟨x,y,z,u,c1,c2,c3,c4,hm⟩:=h2.2 k f hf;exact⟨x,y,z,u,⟨(ZN h1 c1).1,(ZN h1 c2).1,(ZN h1 c3).1,(ZN h1 c4).1⟩,⟨(ZN h1 c1).2,(ZN h1 c2).2,(ZN h1 c3).2,(ZN h1 c4).2⟩,hm⟩
def Yy.set_{base:Nat}{w:World}{g n c:Nat}{fs:List RF}(h:Yy base w (.slice (some ⟨g,0,none⟩) n c) fs){k:Nat}(hk:k<fs.length){x y z u:Value}{f:RF}(hf:Zx w (.agg #[x,y,z,u]) f):
 Yy base ((((w.setCell ⟨g,k*4,none⟩ x).setCell ⟨g,k*4+1,none⟩ y).setCell ⟨g,k*4+2,none⟩ z).setCell ⟨g,k*4+3,none⟩ u) (.slice (some ⟨g,0,none⟩) n c) (fs.set k f)/\
 Zf 49 w ((((w.setCell ⟨g,k*4,none⟩ x).setCell ⟨g,k*4+1,none⟩ y).setCell ⟨g,k*4+2,none⟩ z).setCell ⟨g,k*4+3,none⟩ u):=by
 obtain⟨cs,h1,h2⟩:=h;have hn:n=fs.length:=(VC.of_own h1).len;subst hn;have hl:=h2.1;have o1:=Xh h1 (k*4) x Qk;have o2:=Xh o1 (k*4+1) y (by simp;omega);have o3:=Xh o2 (k*4+2) z (by simp;omega);have o4:=Xh o3 (k*4+3) u (by simp;omega);obtain⟨_,b0,_⟩:=Z0 h1;obtain⟨_,b1,_⟩:=Z0 o1;obtain⟨_,b2,_⟩:=Z0 o2;obtain⟨_,b3,_⟩:=Z0 o3;have kp:=(((Zf.setCell b0 (k*4) x).trans (Zf.setCell b1 (k*4+1) y)).trans (Zf.setCell b2 (k*4+2) z)).trans (Zf.setCell b3 (k*4+3) u);have kd:=kp.keep Ql;refine⟨⟨Zxl cs (k*4) x y z u,by rw[jd];exact o4,?_⟩,kp⟩;exact(h2.keep kd).set_ hk (hf.keep kd)
namespace Pl
def RF.Rs(k:Nat)(f:RF):Prop:=(Zp (val f.num.ds)).length<=k/\(Zp (val f.den.ds)).length<=k
def RF.Rs.mono{j k:Nat}{f:RF}(h:f.Rs j)(hk:j<=k):f.Rs k:=⟨JW h.1 hk,JW h.2 hk⟩
def RF.Rs.sh{k:Nat}{f:RF}(h:f.Rs k)(hk:k<=34359738368):f.Sh:=h.mono hk
def RF.Rs.sm{k:Nat}{f:RF}(h:f.Rs k)(hk:k<=34359738368):f.Sm:=(h.sh hk).sm
def Sz.rs{k:Nat}{q:Rat}(h:Sz k q):(canF q).Rs k:=by
 unfold RF.Rs canF;simp only[YM];exact h
def RF.Rs.sz{k:Nat}{f:RF}(h:f.Rs k)(hk:1<=k):Sz k f.q:=V7 (by rw[ZT];exact h.1) (by rw[ZT];exact h.2) hk
def qAt(fs:List RF)(i:Nat):Rat:=match fs[i]? with|some f=>f.q|none=>0
def YW{fs:List RF}{i:Nat}{f:RF}(h:fs[i]? =some f):qAt fs i=f.q:=by simp[qAt,h]
def Ygx{fs:List RF}{i:Nat}(h:fs.length<=i):qAt fs i=0:=by simp[qAt,JU h]
def ZF(f:Nat->Rat):Nat->Rat
 |0=>0
 |n+1=>ZF f n+f n
def Yz(f:Nat->Rat):ZF f 0=0:=rfl
def Zz(f:Nat->Rat)(n:Nat):ZF f (n+1)=ZF f n+f n:=rfl
def Zk{f g:Nat->Rat}{n:Nat}(h:∀i,i<n->f i=g i):ZF f n=ZF g n:=by
 induction n with
 |zero=>rfl
 |succ n ih=>rw[Zz,Zz,ih (λi hi=>h i Qk),h n Qk]
def Zor{f:Nat->Rat}{K n:Nat}(h:∀i,i<n->Sz K (f i)):Sz (1+n* (K+1)) (ZF f n):=by
 induction n with
 |zero=>exact Sz_zero.mono Qk
 |succ n ih=>
  rw[Zz];exact(Ylf (ih λi hi=>h i Qk) (h n Qk)).mono (by rw[kV n 1];omega)
def Zxm(xs ys:List RF)(n:Nat):Rat:=ZF (λi=>qAt xs i*qAt ys i) n
def RsL(k:Nat)(fs:List RF):Prop:=∀(i:Nat) (f:RF),fs[i]? =some f->f.Rs k
def RsL.qAt{k:Nat}{fs:List RF}(h:RsL k fs)(hk:1<=k)(i:Nat):Sz k (qAt fs i):=by
 unfold Pl.qAt;split
 ·rename_i f hf;exact(h i f hf).sz hk
 ·exact Sz_zero.mono hk
def Yg{q:Rat}:qs q=0↔q=0:=by
 unfold qs;rw[Un];exact BC
def YJ{fs:List RF}{i:Nat}(h:i<fs.length):∃f,fs[i]? =some f:=⟨fs[i],JQ h⟩
end Pl
def Zbq{w w':World}{b o:Nat}{x y z u:Value}(hb:Below w.heap.size w w')(h:w.cell? ⟨b,o,none⟩=some x/\w.cell? ⟨b,o+1,none⟩=some y/\w.cell? ⟨b,o+2,none⟩=some z/\w.cell? ⟨b,o+3,none⟩=some u):
 w'.cell? ⟨b,o,none⟩=some x/\w'.cell? ⟨b,o+1,none⟩=some y/\w'.cell? ⟨b,o+2,none⟩=some z/\w'.cell? ⟨b,o+3,none⟩=some u:=
 ⟨Zi hb h.1,Zi hb h.2.1,Zi hb h.2.2.1,Zi hb h.2.2.2⟩
def UY.elem{w wr:World}{A:Option Addr}{n c:Nat}{fs:List RF}(h:UY w (.slice A n c) fs)(hb:Below w.heap.size w wr){k:Nat}{f:RF}(hf:fs[k]? =some f):
 ∃b off A1 n1 c1 A2 n2 c2,A=some ⟨b,off,none⟩/\b<w.heap.size/\(wr.cell? ⟨b,off+k*4,none⟩=some (.bool f.num.neg)/\wr.cell? ⟨b,off+k*4+1,none⟩=some (.slice A1 n1 c1)/\wr.cell? ⟨b,off+k*4+2,none⟩=some (.bool f.den.neg)/\wr.cell? ⟨b,off+k*4+3,none⟩=some (.slice A2 n2 c2))/\
  Zx wr (.agg #[.bool f.num.neg,.slice A1 n1 c1,.bool f.den.neg,.slice A2 n2 c2]) f:=by
 obtain⟨b,off,x,y,z,u,hA,a,c1,c2,c3,c4,hm⟩:=h.at_ hf;obtain⟨A1,n1,k1,A2,n2,k2,hv,d1,d2⟩:=id hm;simp at hv;obtain⟨rfl,rfl,rfl,rfl⟩:=hv;exact⟨b,off,A1,n1,k1,A2,n2,k2,hA,a,Zbq hb ⟨c1,c2,c3,c4⟩,hm.below hb⟩
section
namespace Pl
structure En where
 idx:Int
 f:RF
structure LPd where
 cost:List RF
 cols:List (List En)
 right:List RF
def leP(p:Option Int)(i:Int):Bool:=match p with|some j=>decide (i<=j)|none=>false
def Zcu(n:Int):List En->Option Int->Int
 | [],_=>0
 |e::es,p=>if e.idx<0\/n<=e.idx then 5 else if leP p e.idx=true then 8 else if e.f.q=0 then 11 else Zcu n es (some e.idx)
def vecErr(es:List En)(n:Int):Int:=if n<0\/4096<n then 5 else Zcu n es none
def VD(es:List En)(k:Nat):Option Int:=match k with|0=>none|k+1=>(es[k]?).map (·.idx)
def Zcv{n:Int}{es:List En}{k:Nat}{e:En}(h:es[k]? =some e):
 Zcu n (es.drop k) (VD es k)=if e.idx<0\/n<=e.idx then 5 else if leP (VD es k) e.idx=true then 8 else if e.f.q=0 then 11 else Zcu n (es.drop (k+1)) (VD es (k+1)):=by
 have hk:k<es.length:=(JO.1 h).1;have he:es[k]=e:=(JO.1 h).2;rw[iK hk,he,Zcu];rw[show VD es (k+1)=some e.idx from by simp[VD,h]]
def Ygy{n:Int}{es:List En}{k:Nat}(h:es.length<=k):Zcu n (es.drop k) (VD es k)=0:=by
 rw[kX h,Zcu]
def X0(n:Int):List (List En)->Int
 | []=>0
 |c::cs=>if vecErr c n=0 then X0 n cs else vecErr c n
def Zos{n:Int}{cs:List (List En)}{k:Nat}{c:List En}(h:cs[k]? =some c):X0 n (cs.drop k)=if vecErr c n=0 then X0 n (cs.drop (k+1))else vecErr c n:=by
 have hk:k<cs.length:=(JO.1 h).1;have he:cs[k]=c:=(JO.1 h).2;rw[iK hk,he,X0]
def Zrx{n:Int}{cs:List (List En)}{k:Nat}(h:cs.length<=k):X0 n (cs.drop k)=0:=by
 rw[kX h,X0]
def lpErr(p:LPd):Int:=if 64<p.right.length\/1200<p.cols.length then 10 else if p.cost.length≠p.cols.length then 12 else X0 (p.right.length:Int) p.cols
def Zxn(n:Int)(p:Option Int)(es:List En):Zcu n es p=0\/Zcu n es p=5\/Zcu n es p=8\/Zcu n es p=11:=by
 induction es generalizing p with
 |nil=>left;rfl
 |cons e es ih=>
  rw[Zcu];split
  ·simp
  ·split
   ·simp
   ·split
    ·simp
    ·exact ih _
def Ybe(es:List En)(n:Int):0<=vecErr es n/\vecErr es n<=11:=by
 unfold vecErr;split
 ·omega
 ·rcases Zxn n none es with h|h|h|h <;> omega
end Pl
def EnC(w:World)(cs:List Value)(es:List En):Prop:=
 cs.length=es.length*5/\∀k e,es[k]? =some e->∃x y z u,cs[k*5]? =some (.int .i64 e.idx)/\cs[k*5+1]? =some x/\cs[k*5+2]? =some y/\cs[k*5+3]? =some z/\cs[k*5+4]? =some u/\Zx w (.agg #[x,y,z,u]) e.f
def EnC.keep{w w':World}{cs:List Value}{es:List En}(h:EnC w cs es)(hk:ZI w w'):EnC w' cs es:=
 ⟨h.1,λk f hf=>by
  obtain⟨x,y,z,u,h0,h1,h2,h3,h4,h5⟩:=h.2 k f hf
  exact⟨x,y,z,u,h0,h1,h2,h3,h4,h5.keep hk⟩⟩
def EnC.nil(w:World):EnC w [] []:=⟨rfl,λk f h=>by simp at h⟩
def EnC.snoc{w:World}{cs:List Value}{es:List En}(h:EnC w cs es){x y z u:Value}{e:En}(hf:Zx w (.agg #[x,y,z,u]) e.f):EnC w (cs++[.int .i64 e.idx,x,y,z,u]) (es++[e]):=by
 refine⟨by simp[h.1];omega,λk g hg=>?_⟩;have hl:=h.1;rcases JX k es.length with hk|hk
 ·rw[jI hk]at hg;obtain⟨x',y',z',u',h0,h1,h2,h3,h4,h5⟩:=h.2 k g hg;refine⟨x',y',z',u',?_,?_,?_,?_,?_,h5⟩
  ·rw[jI Qk];exact h0
  ·rw[jI Qk];exact h1
  ·rw[jI Qk];exact h2
  ·rw[jI Qk];exact h3
  ·rw[jI Qk];exact h4
 ·rw[jH hk]at hg;have a:k - es.length=0:=by
   rcases JV (k - es.length)with e|e
   ·exact e
   ·rw[JU (by simp;omega)]at hg;cases hg
  rw[a]at hg;simp at hg;subst hg;obtain rfl:k=es.length:=Qk
  refine⟨x,y,z,u,?_,?_,?_,?_,?_,hf⟩
  ·rw[jH Qk,show es.length*5 - cs.length=0 by omega];rfl
  ·rw[jH Qk,show es.length*5+1 - cs.length=1 by omega];rfl
  ·rw[jH Qk,show es.length*5+2 - cs.length=2 by omega];rfl
  ·rw[jH Qk,show es.length*5+3 - cs.length=3 by omega];rfl
  ·rw[jH Qk,show es.length*5+4 - cs.length=4 by omega];rfl
def Ur(w:World)(v:Value)(es:List En):Prop:=∃cs,VC w 86 5 v es.length cs/\EnC w cs es
def Ur.below{w w':World}{v:Value}{es:List En}(h:Ur w v es)(hb:Below w.heap.size w w'):Ur w' v es:=by
 obtain⟨cs,h1,h2⟩:=h;exact⟨cs,h1.below hb,h2.keep (ZI.of_below hb)⟩
def Ur.but{w w':World}{e:TypeId}{v:Value}{es:List En}(h:Ur w v es)(hk:Zf e w w')(h1:86≠e)(h2:71≠e):Ur w' v es:=by
 obtain⟨cs,g1,g2⟩:=h;exact⟨cs,hk.row g1 h1,g2.keep (hk.keep h2)⟩
def Yy.but{base:Nat}{w w':World}{e:TypeId}{v:Value}{fs:List RF}(h:Yy base w v fs)(hk:Zf e w w')(h1:49≠e)(h2:71≠e):Yy base w' v fs:=by
 obtain⟨cs,g1,g2⟩:=h;exact⟨cs,hk.own g1 h1,g2.keep (hk.keep h2)⟩
def Ur.shape{w:World}{v:Value}{es:List En}(h:Ur w v es):∃A c,v= .slice A es.length c/\es.length<=c/\c<=9223372036854775807:=by
 obtain⟨cs,h1,h2⟩:=h;exact h1.shape
def Ur.elem{w wr:World}{A:Option Addr}{n c:Nat}{es:List En}(h:Ur w (.slice A n c) es)(hb:Below w.heap.size w wr){k:Nat}{e:En}(he:es[k]? =some e):
 ∃b off A1 n1 c1 A2 n2 c2,A=some ⟨b,off,none⟩/\b<w.heap.size/\(wr.cell? ⟨b,off+k*5,none⟩=some (.int .i64 e.idx)/\wr.cell? ⟨b,off+k*5+1,none⟩=some (.bool e.f.num.neg)/\wr.cell? ⟨b,off+k*5+2,none⟩=some (.slice A1 n1 c1)/\wr.cell? ⟨b,off+k*5+3,none⟩=some (.bool e.f.den.neg)/\wr.cell? ⟨b,off+k*5+4,none⟩=some (.slice A2 n2 c2))/\
  Zx wr (.agg #[.bool e.f.num.neg,.slice A1 n1 c1,.bool e.f.den.neg,.slice A2 n2 c2]) e.f:=by
 obtain⟨cs,h1,h2⟩:=h;obtain⟨x,y,z,u,c0,c1,c2,c3,c4,hm⟩:=h2.2 k e he;have hk:k<es.length:=(JO.1 he).1;have hn:=h1.len;subst hn;obtain⟨b,off,hA,a,hc⟩:=h1.at_ Qk;obtain⟨A1,n1,k1,A2,n2,k2,hv,d1,d2⟩:=id hm;simp at hv;obtain⟨rfl,rfl,rfl,rfl⟩:=hv;exact⟨b,off,A1,n1,k1,A2,n2,k2,hA,a,⟨Zi hb (hc _ _ c0),Zi hb (hc _ _ c1),Zi hb (hc _ _ c2),Zi hb (hc _ _ c3),Zi hb (hc _ _ c4)⟩,hm.below hb⟩
def VE(w:World)(v:Value)(cols:List (List En)):Prop:=∃cs,VC w 88 1 v cols.length cs/\∀(k:Nat) (c:List En),cols[k]? =some c->∃u,cs[k]? =some u/\Ur w u c
def VE.below{w w':World}{v:Value}{cols:List (List En)}(h:VE w v cols)(hb:Below w.heap.size w w'):VE w' v cols:=by
 obtain⟨cs,h1,h2⟩:=h;exact⟨cs,h1.below hb,λk c hc=>by obtain⟨u,g1,g2⟩:=h2 k c hc;exact⟨u,g1,g2.below hb⟩⟩
def VE.shape{w:World}{v:Value}{cols:List (List En)}(h:VE w v cols):∃A c,v= .slice A cols.length c/\cols.length<=c/\c<=9223372036854775807:=by
 obtain⟨cs,h1,h2⟩:=h;exact h1.shape
def VE.elem{w wr:World}{A:Option Addr}{n c:Nat}{cols:List (List En)}(h:VE w (.slice A n c) cols)(hb:Below w.heap.size w wr){k:Nat}{es:List En}(he:cols[k]? =some es):
 ∃b off A1 c1,A=some ⟨b,off,none⟩/\b<w.heap.size/\wr.cell? ⟨b,off+k,none⟩=some (.slice A1 es.length c1)/\Ur wr (.slice A1 es.length c1) es:=by
 obtain⟨cs,h1,h2⟩:=h;obtain⟨u,hu,hv⟩:=h2 k es he;have hk:k<cols.length:=(JO.1 he).1;have hn:=h1.len;subst hn;obtain⟨b,off,hA,a,hc⟩:=h1.at_ Qk;obtain⟨A1,c1,rfl,_,_⟩:=hv.shape;exact⟨b,off,A1,c1,hA,a,Zi hb (hc _ _ hu),hv.below hb⟩
def LpM(w:World)(v:Value)(p:LPd):Prop:=
 ∃A n c A' n' c' A'' n'' c'',v= .agg #[.slice A n c,.slice A' n' c',.slice A'' n'' c'']/\UY w (.slice A n c) p.cost/\VE w (.slice A' n' c') p.cols/\UY w (.slice A'' n'' c'') p.right
def LpM.below{w w':World}{v:Value}{p:LPd}(h:LpM w v p)(hb:Below w.heap.size w w'):LpM w' v p:=by
 obtain⟨A,n,c,A',n',c',a,b,d,h1,h2,h3,h4⟩:=h;exact⟨A,n,c,A',n',c',a,b,d,h1,h2.below hb,h3.below hb,h4.below hb⟩
def UY.len{w:World}{A:Option Addr}{n c:Nat}{fs:List RF}(h:UY w (.slice A n c) fs):n=fs.length/\n<=c/\c<=9223372036854775807:=by
 obtain⟨A',c',e,h1,h2⟩:=h.shape;injection e with _ e2 e3;subst e2 e3;exact⟨rfl,h1,h2⟩
def Ur.len{w:World}{A:Option Addr}{n c:Nat}{fs:List En}(h:Ur w (.slice A n c) fs):n=fs.length/\n<=c/\c<=9223372036854775807:=by
 obtain⟨A',c',e,h1,h2⟩:=h.shape;injection e with _ e2 e3;subst e2 e3;exact⟨rfl,h1,h2⟩
def VE.len{w:World}{A:Option Addr}{n c:Nat}{fs:List (List En)}(h:VE w (.slice A n c) fs):n=fs.length/\n<=c/\c<=9223372036854775807:=by
 obtain⟨A',c',e,h1,h2⟩:=h.shape;injection e with _ e2 e3;subst e2 e3;exact⟨rfl,h1,h2⟩
section
variable {w:World} {g:Nat} {t:TypeId} {a b c:Value}
def Bk.three(h:Bk w g t [a,b,c]):w.cell? ⟨g,0,none⟩=some a/\w.cell? ⟨g,1,none⟩=some b/\w.cell? ⟨g,2,none⟩=some c:=⟨h.cellAt 0 rfl,h.cellAt 1 rfl,h.cellAt 2 rfl⟩
def Bk.five{d e:Value}(h:Bk w g t [a,b,c,d,e]):w.cell? ⟨g,0,none⟩=some a/\w.cell? ⟨g,1,none⟩=some b/\w.cell? ⟨g,2,none⟩=some c/\w.cell? ⟨g,3,none⟩=some d/\w.cell? ⟨g,4,none⟩=some e:=⟨h.cellAt 0 rfl,h.cellAt 1 rfl,h.cellAt 2 rfl,h.cellAt 3 rfl,h.cellAt 4 rfl⟩
end
end
namespace Pl
def Zke{n:Int}{es:List En}{k:Nat}{e:En}(h:es[k]? =some e)(h2:e.idx<0\/n<=e.idx):Zcu n (es.drop k) (VD es k)=5:=by rw[Zcv h,jB h2]
def Zxo{n:Int}{es:List En}{k:Nat}{e p:En}(h:es[k+1]? =some e)(hp:es[k]? =some p)(h2:¬(e.idx<0\/n<=e.idx))(h3:e.idx<=p.idx):Zcu n (es.drop (k+1)) (VD es (k+1))=8:=by
 rw[Zcv h,jA h2,jB (by simp[VD,hp,leP,h3])]
def Zot{n:Int}{es:List En}{k:Nat}{e:En}(h:es[k]? =some e)(h2:¬(e.idx<0\/n<=e.idx))(h3:leP (VD es k) e.idx=false)(h4:e.f.q=0):Zcu n (es.drop k) (VD es k)=11:=by
 rw[Zcv h,jA h2,jA (by simp[h3]),jB h4]
def Zou{n:Int}{es:List En}{k:Nat}{e:En}(h:es[k]? =some e)(h2:¬(e.idx<0\/n<=e.idx))(h3:leP (VD es k) e.idx=false)(h4:e.f.q≠0):Zcu n (es.drop k) (VD es k)=Zcu n (es.drop (k+1)) (VD es (k+1)):=by
 rw[Zcv h,jA h2,jA (by simp[h3]),jA h4]
def Ygz{es:List En}{k:Nat}{p:En}(hp:es[k]? =some p){i:Int}(h:¬i<=p.idx):leP (VD es (k+1)) i=false:=by simp[VD,hp,leP];omega
def X3{es:List En}{i:Nat}(h:i<es.length):∃f,es[i]? =some f:=⟨es[i],JQ h⟩
def EnI(es:List En):Prop:=∀(k:Nat) (e:En),es[k]? =some e-> -9223372036854775808<=e.idx/\e.idx<=9223372036854775807
end Pl
def Zkf(w:World)(x0 x1 x2 x3 x4:Value):∃W,w.alloc (.cells #[x0,x1,x2,x3,x4] 86)=W/\Bk W w.heap.size 86 [x0,x1,x2,x3,x4]/\Below w.heap.size w W:=
 ⟨_,rfl,Bk.new w _ [x0,x1,x2,x3,x4],Ze w _⟩
def X4(v:Value)(es:List En)(n:Int)(w:World)(h:Ur w v es)(hi:EnI es)(h0: -9223372036854775808<=n)(h1:n<=9223372036854775807):
 Calls prog 53 #[v,.int .i64 n] w λe w'=>e= .returned (.int .i64 (vecErr es n))/\Below w.heap.size w w':=by
 obtain⟨A,c,rfl,N,O⟩:=h.shape;generalize hl:es.length=l at *;have HL:=JZ hl;have HI:=JZ hi;clear hl hi;by_cases r:n<0
 ·have HV:Hid (vecErr es n=5):=JZ (by unfold vecErr;rw[jB (.inl r)]);go_enter func53,ntmps53;go_wp2;go_ret;exact⟨by rw[HV.out];rfl,JR _ _⟩
 ·by_cases s:4096<n
  ·have HV:Hid (vecErr es n=5):=JZ (by unfold vecErr;rw[jB (.inr s)]);go_enter func53,ntmps53;go_wp2;go_ret;exact⟨by rw[HV.out];rfl,JR _ _⟩
  ·have hv:vecErr es n=Zcu n (es.drop 0) (VD es 0):=by
    unfold vecErr;rw[jA Qk];rfl
   generalize vecErr es n=d at *;have HV:=JZ hv;clear hv;have D:decide (n<0)=false:=(by simpa using r);have E:decide (4096<n)=false:=(by simpa using s);clear r s;go_enter func53,ntmps53;go_wp2;clear D E
   go_loopw [15] (λi wr=>∃k:Nat,k<=l/\i= .int .i64 k/\Below w.heap.size w wr/\d=Zcu n (es.drop k) (VD es k)) (λi _=>l - (intOf i).toNat)
   case atStart=>exact⟨0,Qk,rfl,JR _ _,HV.out⟩
   case round=>
    obtain⟨k,hk,rfl,x,G⟩:=hrel;have HE:=JZ G;clear G HV;rcases JX k l with hkl|hkl
    ·obtain⟨e,he⟩:=X3 (es:=es) (i:=k) (by rw[HL.out];exact hkl);obtain⟨b,P,A1,n1,c1,A2,n2,c2,rfl,R,g,hm⟩:=h.elem x he;obtain⟨x0,x1,x2,x3,x4⟩:=g;obtain⟨i0,i1⟩:=HI.out k e he;obtain⟨W,hW,hX,H⟩:=Zkf wr (.int .i64 e.idx) (.bool e.f.num.neg) (.slice A1 n1 c1) (.bool e.f.den.neg) (.slice A2 n2 c2);obtain⟨z0,z1,z2,z3,z4⟩:=hX.five;have a:=Za x H x.size;have u:=hm.below H;by_cases t:e.idx<0
     ·have HR:Hid (d=5):=JZ (HE.out.trans (Zke he (.inl t)));clear he;go_wp2;go_ret;exact⟨by rw[HR.out];rfl,a⟩
     ·by_cases C:n<=e.idx
      ·have HR:Hid (d=5):=JZ (HE.out.trans (Zke he (.inr C)));clear he;go_wp2;go_ret;exact⟨by rw[HR.out];rfl,a⟩
      ·have F:¬(e.idx<0\/n<=e.idx):=Qk;have o:=JZ F;have D:decide (e.idx<0)=false:=(by simpa using t);have E:decide (n<=e.idx)=false:=(by simpa using C);clear F t C;by_cases y:k=0
       ·have HP:Hid (leP (VD es k) e.idx=false):=JZ (by rw[y];rfl);have hg:decide ((0:Int)< (k:Int))=false:=(by simp;omega);have I:decide (0<k)=false:=(by simp;omega);clear y;by_cases hz:e.f.q=0
        ·have B:qs e.f.q=0:=Yg.2 hz;have HR:Hid (d=11):=JZ (HE.out.trans (Zot he o.out HP.out hz));clear he hz;go_wp2
         go_quiet (fail)
         go_wp2_with fail;refine(Zy _ e.f _ (u.keep (ZI.drewN _ _))).mono ?_;rintro _ w2 ⟨rfl,m⟩;go_wp2;go_ret;exact⟨by rw[HR.out];rfl,Za (aB a _) m a.size⟩
        ·have B:(qs e.f.q==0)=false:=(by simpa using λh=>hz (Yg.1 h));have HR:Hid (d=Zcu n (es.drop (k+1)) (VD es (k+1))):=JZ (HE.out.trans (Zou he o.out HP.out hz));clear he hz;go_wp2
         go_quiet (fail)
         go_wp2_with fail;refine(Zy _ e.f _ (u.keep (ZI.drewN _ _))).mono ?_;rintro _ w2 ⟨rfl,m⟩;go_wp2;go_roundw
         case rel=>exact⟨k+1,Qk,by go_num,Za (aB a _) m a.size,HR.out⟩
         case measure=>exact Qn
       ·obtain⟨j,hj⟩:∃j,k=j+1:=⟨k - 1,Qk⟩;have L:(k:Int) - 1=(j:Int):=Qk;have hg:(0:Int)< (k:Int):=Qk;have I:0<k:=Qk;have HJ:=JZ hj;obtain⟨p,hp⟩:=X3 (es:=es) (i:=j) (by rw[HL.out];omega);obtain⟨b2,K,B1,m1,d1,B2,m2,d2,hA,_,g,_⟩:=h.elem a hp;injection hA with hA;injection hA with hA1 hA2;subst hA1 hA2;obtain⟨y0,_,_,_,_⟩:=g;obtain⟨j0,j1⟩:=HI.out j p hp;have M:(j:Int)<l:=Qk;by_cases z:e.idx<=p.idx
        ·have HR:Hid (d=8):=JZ (HE.out.trans (by rw[HJ.out]at he⊢;exact Zxo he hp o.out z));clear he hp y hj;go_wp2
         go_quiet (fail)
         go_wp2;go_ret;exact⟨by rw[HR.out];rfl,aB a _⟩
        ·have HP:Hid (leP (VD es k) e.idx=false):=JZ (by rw[HJ.out];exact Ygz hp z);have J:decide (e.idx<=p.idx)=false:=(by simpa using z);clear hp y hj z;by_cases hz:e.f.q=0
         ·have B:qs e.f.q=0:=Yg.2 hz;have HR:Hid (d=11):=JZ (HE.out.trans (Zot he o.out HP.out hz));clear he hz;go_wp2
          go_quiet (fail)
          go_wp2_with fail;refine(Zy _ e.f _ (u.keep (ZI.drewN _ _))).mono ?_;rintro _ w2 ⟨rfl,m⟩;go_wp2;go_ret;exact⟨by rw[HR.out];rfl,Za (aB a _) m a.size⟩
         ·have B:(qs e.f.q==0)=false:=(by simpa using λh=>hz (Yg.1 h));have HR:Hid (d=Zcu n (es.drop (k+1)) (VD es (k+1))):=JZ (HE.out.trans (Zou he o.out HP.out hz));clear he hz;go_wp2
          go_quiet (fail)
          go_wp2_with fail;refine(Zy _ e.f _ (u.keep (ZI.drewN _ _))).mono ?_;rintro _ w2 ⟨rfl,m⟩;go_wp2;go_roundw
          case rel=>exact⟨k+1,Qk,by go_num,Za (aB a _) m a.size,HR.out⟩
          case measure=>exact Qn
    ·have HR:Hid (d=0):=JZ (HE.out.trans (Ygy (by rw[HL.out];omega)));go_wp2;go_ret;exact⟨by rw[HR.out];rfl,x⟩
namespace Pl
def LPd.Ok(K:Nat)(p:LPd):Prop:=RsL K p.cost/\RsL K p.right/\∀(j:Nat) (c:List En),p.cols[j]? =some c->EnI c/\∀(k:Nat) (e:En),c[k]? =some e->e.f.Rs K
def Zhn{p:LPd}(h:64<p.right.length\/1200<p.cols.length):lpErr p=10:=by unfold lpErr;rw[jB h]
def Zry{p:LPd}(h:¬(64<p.right.length\/1200<p.cols.length))(h2:p.cost.length≠p.cols.length):lpErr p=12:=by unfold lpErr;rw[jA h,jB h2]
def Zxp{p:LPd}(h:¬(64<p.right.length\/1200<p.cols.length))(h2:p.cost.length=p.cols.length):lpErr p=X0 (p.right.length:Int) (p.cols.drop 0):=by unfold lpErr;rw[jA h,jA Qk];rfl
def WC{cs:List (List En)}{i:Nat}(h:i<cs.length):∃f,cs[i]? =some f:=⟨cs[i],JQ h⟩
end Pl
def Zc(w:World):Below w.heap.size w w.drew:=(JR _ _).drew
def Zfn(w:World)(x y z:Value):∃W,w.alloc (.cells #[x,y,z] 37)=W/\Bk W w.heap.size 37 [x,y,z]/\Below w.heap.size w W:=⟨_,rfl,Bk.new w _ [x,y,z],Ze w _⟩
def Zfo(v:Value)(p:LPd)(K:Nat)(w:World)(h:LpM w v p)(ok:p.Ok K):
 Calls prog 30 #[v] w λe w'=>e= .returned (.int .i64 (lpErr p))/\Below w.heap.size w w':=by
 obtain⟨A,n,c,A',n',c',x,a,y,rfl,hc,hv,hr⟩:=h;obtain⟨W,hW,hX,d⟩:=Zfn w (.slice A n c) (.slice A' n' c') (.slice x a y);obtain⟨x0,x1,x2⟩:=hX.three;obtain⟨l1,l2,l3⟩:=hc.len;obtain⟨m1,m2,m3⟩:=hv.len;obtain⟨r1,r2,r3⟩:=hr.len;have t:=JZ l1;have j:=JZ m1;have o:=JZ r1;clear l1 m1 r1;by_cases B:64<a
 ·have HV:Hid (lpErr p=10):=JZ (Zhn (.inl (by rw[<-o.out];exact B)));have f:(64:Int)<a:=Qk
  go_enter func30,ntmps30;go_wp2;go_ret;exact⟨by rw[HV.out];rfl,d⟩
 ·by_cases s:1200<n'
  ·have HV:Hid (lpErr p=10):=JZ (Zhn (.inr (by rw[<-j.out];exact s)));have f:decide ((64:Int)<a)=false:=(by simp;omega);have g:(1200:Int)<n':=Qk;go_enter func30,ntmps30;go_wp2;go_ret;exact⟨by rw[HV.out];rfl,d⟩
  ·have HB:Hid (¬(64<p.right.length\/1200<p.cols.length)):=JZ (by rw[<-o.out,<-j.out];omega);have f:decide ((64:Int)<a)=false:=(by simp;omega);have g:decide ((1200:Int)<n')=false:=(by simp;omega);by_cases l:n=n'
   ·have q:=Zxp HB.out (by rw[<-t.out,<-j.out];exact l);rw[<-o.out]at q;subst l;generalize lpErr p=m at *;have HV:=JZ q;clear q;go_enter func30,ntmps30;go_wp2;clear hW f g
    go_loopw [26] (λi wr=>∃k:Nat,k<=n/\i= .int .i64 k/\Below w.heap.size w wr/\Bk wr w.heap.size 37 [.slice A n c,.slice A' n c',.slice x a y]/\m=X0 (a:Int) (p.cols.drop k)) (λi _=>n - (intOf i).toNat)
    case atStart=>exact⟨0,Qk,rfl,d,hX,HV.out⟩
    case round=>
     obtain⟨k,hk,rfl,d,hX,z⟩:=hrel;have HE:=JZ z;clear z HV x0 x1 x2;obtain⟨x0,x1,x2⟩:=hX.three;rcases JX k n with hkl|hkl
     ·obtain⟨es,he⟩:=WC (cs:=p.cols) (i:=k) (by rw[<-j.out];exact hkl);obtain⟨b,H,A1,c1,rfl,I,C,hm⟩:=hv.elem d he;have HO:=JZ (ok.2.2 k es he);have E:(k:Int)<n:=Qk;have u:=JZ (Zos (n:=(a:Int)) he);have F:=Ybe es (a:Int);clear he;go_wp2_with fail;refine(X4 _ es (a:Int) _ hm HO.out.1 Qk Qk).mono ?_;rintro _ w2 ⟨rfl,r⟩;by_cases hz:vecErr es (a:Int)=0
      ·have HR:Hid (m=X0 (a:Int) (p.cols.drop (k+1))):=JZ (by rw[HE.out,u.out,jB hz]);go_wp2;go_roundw
       case rel=>exact⟨k+1,Qk,by go_num,Za d r d.size,hX.later r,HR.out⟩
       case measure=>exact Qn
      ·have HR:Hid (m=vecErr es (a:Int)):=JZ (by rw[HE.out,u.out,jA hz]);have G:(vecErr es (a:Int) !=0)=true:=(by simpa using hz);generalize vecErr es (a:Int)=ER at *;clear hz;go_wp2;go_ret;exact⟨by rw[HR.out];rfl,Za d r d.size⟩
     ·have HR:Hid (m=0):=JZ (HE.out.trans (Zrx (by rw[<-j.out];omega)));go_wp2;go_ret;exact⟨by rw[HR.out];rfl,d⟩
   ·have HV:Hid (lpErr p=12):=JZ (Zry HB.out (by rw[<-t.out,<-j.out];exact l));have D:((n:Int) !=(n':Int))=true:=(by simp;omega);clear l;go_enter func30,ntmps30;go_wp2;go_ret;exact⟨by rw[HV.out];rfl,d⟩
end Go.Proofs.YtobadipflggkiaaGreat
