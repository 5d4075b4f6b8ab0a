/- Lemmas of the claim; no condition. -/
import Derived.Test.YtgbhebappffbdaaGreatP29
set_option linter.all false
set_option maxRecDepth 100000
set_option maxHeartbeats 40000000
namespace Go.Proofs.YtgbhebappffbdaaGreat
open Go.RowKit
open Pl
attribute [local go_sem ↓] Go.wp_at_zero Go.wp_at_succ
theorem Zrw (e:Nat) (p:LPd) (s:LSt) (K:Nat) (w:World) (h:Zvw w e p s K) (F:p.Ft K) (hrg:Zpb p s):
 Calls Tryz.prog 71 #[.pointer (some ⟨e,0,none⟩)] w fun o w'=>∃v',o= .returned v'∧Z4 w.heap.size w' v' (Zef p s)∧Below w.heap.size w w':=by
 obtain ⟨Ab,cb,base,bi,gB,vz,hM,hI,-,hZ⟩:=id h;obtain ⟨A,n,c,A',n',c',a2,a3,a4,hE,g1,g2,g3⟩:=id hM;obtain ⟨m1,m2,m3⟩:=g2.len;obtain ⟨b1,b2,b3⟩:=hI.len;have D:=JZ m1;have P:=JZ hrg;have r:=Zrr h.reg;have E:=JZ r;have G:Hid (∀(k:Nat) (f:RF),(zL p s)[k]? =some f→f=canF (qAt (zL p s) k)):=JZ fun k f hf=>Zhy hf
 obtain ⟨Az,cz,L,U,a5⟩:=hZ.shape;rw [r] at L U;subst L;have Z:n'≤1200:=by rw [m1];exact F.1.cols
 have a0:p.right.length≤7:=F.2.1;have HE:=JZ hE;have HI:=JZ hI;have R:=JZ hZ;have a1:=Y1 n' (by omega);have t:=Z4.zeros w n' (by unfold maxLen;omega);have H:=Zb w (.cells (zfc n') 46);rw [← Uw (w:=fun _=>0)] at t;have q1:=hE.cellAt 1 rfl;clear h hM g1 g2 g3 m1 b1 r hrg hZ hI hE F;go_enter Tryz.func71,Tryz.ntmps71;go_wp2;clear q1;generalize w.alloc (.cells (zfc n') 46)=W at *
 go_loopw [16] (fun x wr=>∃k:Nat,k≤n'∧x= .int .i64 k∧Z4 w.heap.size wr (.slice (some ⟨w.heap.size,0,none⟩) n' n') (Yz n' k fun _=>0)∧Below w.heap.size w wr) (fun x _=>n' - (intOf x).toNat)
 case atStart=>exact ⟨0,by omega,rfl,t,H⟩
 case round=>
  clear t H;obtain ⟨k,hk,rfl,hO,a⟩:=hrel;rcases JX k n' with hkl | hkl
  ·have S:(k:Int) < n':=(by omega);go_wp2_with fail;refine (Zen 0 _ (by omega) (by omega)).mono ?_;rintro _ w1 ⟨v1,f1,rfl,hm,rfl,C⟩;rw [show ((0:Int):Rat)=0 from rfl] at hm;obtain ⟨B,m,d,B',m',d',rfl,_,_⟩:=id hm;have u:=hO.below C;have g:=Za a C a.size;have l:(Yz n' k fun _=>0)[k]? =some zeroF:=(by unfold Yz;rw [Yi hkl,if_neg (by omega)]);obtain ⟨_,_,_,_,⟨t0,t1,t2,t3⟩,⟨f0,f1,f2,f3⟩,_⟩:=u.at_ l;obtain ⟨M,V⟩:=u.set_ (k:=k) (by rw [Xw];exact hkl) hm;rw [show (canF 0)=canF ((fun _=>0:Nat→Rat) k) from rfl,Ux hkl] at M;have b:=Zw g (JY _) (k * 4) (k * 4+1) (k * 4+2) (k * 4+3);clear hO a l hm C u g V;go_wp2;go_roundw
   case rel=>exact ⟨k+1,by omega,by go_num,M,b _ _ _ _⟩
   case measure=>simp [intOf];omega
  ·obtain rfl:n'=k:=by omega
   rw [Zbf,show (Yj n' fun _=>0)=Yj n' (Zbz s (zL p s) 0) from rfl] at hO;have q4:=(HE.out.later a).cellAt 4 rfl;go_wp2;clear q4
   go_loopw [29] (fun x wr=>∃k:Nat,k≤p.right.length∧x= .int .i64 k∧Z4 w.heap.size wr (.slice (some ⟨w.heap.size,0,none⟩) n' n') (Yj n' (Zbz s (zL p s) k))∧Below w.heap.size w wr) (fun x _=>p.right.length - (intOf x).toNat)
   case atStart=>exact ⟨0,by omega,rfl,hO,a⟩
   case round=>
    clear hO a;obtain ⟨k,hk,rfl,hO,a⟩:=hrel;rcases JX k p.right.length with hkl | hkl
    ·have S:(k:Int) < p.right.length:=(by omega);obtain ⟨bb,ob,z,hA,z0,y,z1,z2⟩:=HI.out.at_ hkl;subst hA;have z3:=Zf a z0;have I:=P.out k hkl;rw [LSt.at_eq y] at I;have J:Hid (s.at_ k=z):=JZ (LSt.at_eq y);obtain ⟨r0,r1⟩:=I;have r2:z < n':=(by rw [D.out];exact r1);clear r1 z0 y;rcases Int.lt_or_le z 0 with hz0 | hz0
     ·have HP:Yj n' (Zbz s (zL p s) k)=Yj n' (Zbz s (zL p s) (k+1)):=ZT fun j _=>by rw [Zgg,J.out,if_neg (by omega)]
      rw [HP] at hO;clear HP;go_wp2;go_roundw
      case rel=>exact ⟨k+1,by omega,by go_num,hO,a⟩
      case measure=>simp [intOf];omega
     ·obtain ⟨f,hf⟩:=Yb (fs:=zL p s) (i:=k) (by rw [E.out];exact hkl);obtain ⟨b5,o5,A5,n5,c5,A6,n6,c6,X,_,⟨x0,x1,x2,x3⟩,N⟩:=R.out.elem a hf;subst X;obtain ⟨jn,rfl⟩:=JT hz0;have v:jn < n':=(by omega);have T:=JZ (G.out k f hf);have q7:=(HE.out.later a).cellAt 7 rfl;obtain ⟨_,_,_,_,⟨t0,t1,t2,t3⟩,⟨f0,f1,f2,f3⟩,_⟩:=hO.at_ (ZK v);obtain ⟨O,Y⟩:=hO.set_ (k:=jn) (by rw [Zm];exact v) N;have q:(Yj n' (Zbz s (zL p s) k)).set jn f=Yj n' (Zbz s (zL p s) (k+1)):=by
       rw [T.out,Vg v];exact ZT fun j _=>by
        rw [Zgg,J.out];by_cases e:j=jn
        ·rw [if_pos e,if_pos (by omega)]
        ·rw [if_neg e,if_neg (by omega)]
      rw [q] at O;have b:=Zw a (JY _) (jn * 4) (jn * 4+1) (jn * 4+2) (jn * 4+3);clear hf N hO q Y;go_wp2;go_roundw
      case rel=>exact ⟨k+1,by omega,by go_num,O,b _ _ _ _⟩
      case measure=>simp [intOf];omega
    ·obtain rfl:k=p.right.length:=by omega
     go_wp2;go_ret;refine ⟨_,rfl,?_,a⟩;unfold Zef;rw [← D.out,E.out];exact hO
namespace Pl
def YC (p:LPd) (s:LSt):Int:=if lpErr p=0 then vsErr p s else lpErr p
theorem Zcl {p:LPd} {s:LSt} (h:lpErr p≠0):YC p s=lpErr p:=if_neg h
def Ygo (p:LPd) (s:LSt):List RF:=if YC p s=0 then Zef p (ZB p s) else []
theorem Zwc {p:LPd} {s:LSt} (h:YC p s≠0):Ygo p s=[]:=if_neg h
theorem Zph {p:LPd} {s:LSt} (h:YC p s=0):Ygo p s=Zef p (ZB p s):=if_pos h
def Ygp (p:LPd) (s:LSt):List RF:=if YC p s=0 then XU p (ZB p s) else []
theorem Zwd {p:LPd} {s:LSt} (h:YC p s≠0):Ygp p s=[]:=if_neg h
theorem Zpi {p:LPd} {s:LSt} (h:YC p s=0):Ygp p s=XU p (ZB p s):=if_pos h
def Yfw (p:LPd) (s:LSt):Int × Int:=if YC p s=0 then (YR p (ZB p s),UA p (ZB p s)) else (0,0)
theorem Znh {p:LPd} {s:LSt} (h:YC p s≠0):Yfw p s=(0,0):=if_neg h
theorem Zpj {p:LPd} {s:LSt} (h:YC p s=0):Yfw p s=(YR p (ZB p s),UA p (ZB p s)):=if_pos h
theorem Ydn {p:LPd} {s:LSt} (S:s.Fit p):Zpb p s:=fun i hi=>by
 obtain ⟨z,hz⟩:∃z,s.basis[i]? =some z:=⟨_,JQ (by have:=S.2;omega)⟩
 rw [LSt.at_eq hz]
 exact S.1 i z hz
theorem Vo {p:LPd} {s:LSt} (h:lpErr p=0):YC p s=vsErr p s:=if_pos h
end Pl
theorem Zep (v1 v2:Value) (p:LPd) (s:LSt) (K:Nat) (w:World) (h:LpM w v1 p) (h2:StM w v2 s) (ok:p.Ok K) (hF:lpErr p=0→p.Ft K) (hbl:s.basis.length≤1099511627776) (hrg:∀z∈s.basis,-9223372036854775808≤z∧z≤9223372036854775807):
 Calls Tryz.prog 33 #[v1,v2] w fun o w'=>∃v',o= .returned (.tuple #[v',.int .i64 (YC p s)])∧Z4 w.heap.size w' v' (Ygo p s)∧Below w.heap.size w w':=by
 obtain ⟨A,n,c,A',n',c',y,B,C,rfl,hc,hv,hr⟩:=id h;obtain ⟨Ab,nb,cb,rfl,hI⟩:=id h2;obtain ⟨W,hW,l,f⟩:=Y6 w (.slice A n c) (.slice A' n' c') (.slice y B C);obtain ⟨W1,D,j,g⟩:=Zea W (.int .i64 s.phase) (.slice Ab nb cb) (.int .i64 s.pivots);have hX:=l.later g;have b:=Za f g f.size;have m:W.heap.size=w.heap.size+1:=by rw [← hW];simp
 rw [m] at j;have q:=JZ h;have t:=JZ h2;have d:=JZ (⟨ok,hF,hbl,hrg⟩:p.Ok K∧(lpErr p=0→p.Ft K)∧s.basis.length≤1099511627776∧∀z∈s.basis,-9223372036854775808≤z∧z≤9223372036854775807);obtain ⟨x0,x1,x2⟩:=hX.three;obtain ⟨y0,y1,y2⟩:=j.three;clear h h2 hc hv hr hI l f g hX j ok hF hbl hrg;go_enter Tryz.func33,Tryz.ntmps33;go_wp2_with fail;clear hW D;refine (Zck _ _ p s K _ (q.out.below b) (t.out.below b) d.out.1 d.out.2.1 d.out.2.2.1 d.out.2.2.2).mono ?_;intro o w2 ho;obtain ⟨i,ho⟩:=ho;have a:=Za b i b.size;clear b x0 x1 x2 y0 y1 y2;rcases ho with ⟨he,rfl⟩ | ⟨hz,he,rfl⟩ | ⟨hz,he,e,rfl,hE⟩
 ·have hS:YC p s=lpErr p:=Zcl he;have u:(lpErr p !=0)=true:=by simpa using he
  have HS:=JZ hS;have HE:=JZ he;clear hS he i;generalize lpErr p=L at *;go_wp2;go_ret2;exact ⟨_,by rw [HS.out];rfl,by rw [Zwc (by rw [HS.out];exact HE.out)];exact Z4.nil _ _,a⟩
 ·have hS:YC p s=vsErr p s:=Vo hz;have u:(vsErr p s !=0)=true:=by simpa using he
  have HS:=JZ hS;have HE:=JZ he;clear hS he hz i;generalize vsErr p s=L at *;go_wp2;go_ret2;exact ⟨_,by rw [HS.out];rfl,by rw [Zwc (by rw [HS.out];exact HE.out)];exact Z4.nil _ _,a⟩
 ·have HS:Hid (YC p s=0):=JZ (by rw [Vo hz];exact he);have HV:=JZ (Zkv he);have v:=JZ (d.out.2.1 hz);have x:=JZ hE.r;clear hz he i hE;go_wp2_with fail;refine (Zrw e p (ZB p s) K _ x.out v.out (Ydn HV.out.settle.fit)).mono ?_;rintro _ w3 ⟨v3,rfl,e3,E⟩;have k:=Za a E a.size;go_wp2;go_ret2;exact ⟨_,by rw [HS.out];rfl,by rw [Zph HS.out];exact e3.monoB a.size,k⟩
theorem Zlc (v1 v2:Value) (p:LPd) (s:LSt) (K:Nat) (w:World) (h:LpM w v1 p) (h2:StM w v2 s) (ok:p.Ok K) (hF:lpErr p=0→p.Ft K) (hbl:s.basis.length≤1099511627776) (hrg:∀z∈s.basis,-9223372036854775808≤z∧z≤9223372036854775807):
 Calls Tryz.prog 34 #[v1,v2] w fun o w'=>∃v',o= .returned (.tuple #[v',.int .i64 (YC p s)])∧Z4 w.heap.size w' v' (Ygp p s)∧Below w.heap.size w w':=by
 obtain ⟨A,n,c,A',n',c',y,B,C,rfl,hc,hv,hr⟩:=id h;obtain ⟨Ab,nb,cb,rfl,hI⟩:=id h2;obtain ⟨W,hW,l,f⟩:=Y6 w (.slice A n c) (.slice A' n' c') (.slice y B C);obtain ⟨W1,D,j,g⟩:=Zea W (.int .i64 s.phase) (.slice Ab nb cb) (.int .i64 s.pivots);have hX:=l.later g;have b:=Za f g f.size;have m:W.heap.size=w.heap.size+1:=by rw [← hW];simp
 rw [m] at j;have q:=JZ h;have t:=JZ h2;have d:=JZ (⟨ok,hF,hbl,hrg⟩:p.Ok K∧(lpErr p=0→p.Ft K)∧s.basis.length≤1099511627776∧∀z∈s.basis,-9223372036854775808≤z∧z≤9223372036854775807);obtain ⟨x0,x1,x2⟩:=hX.three;obtain ⟨y0,y1,y2⟩:=j.three;clear h h2 hc hv hr hI l f g hX j ok hF hbl hrg;go_enter Tryz.func34,Tryz.ntmps34;go_wp2_with fail;clear hW D;refine (Zck _ _ p s K _ (q.out.below b) (t.out.below b) d.out.1 d.out.2.1 d.out.2.2.1 d.out.2.2.2).mono ?_;intro o w2 ho;obtain ⟨i,ho⟩:=ho;have a:=Za b i b.size;clear b x0 x1 x2 y0 y1 y2;rcases ho with ⟨he,rfl⟩ | ⟨hz,he,rfl⟩ | ⟨hz,he,e,rfl,hE⟩
 ·have hS:YC p s=lpErr p:=Zcl he;have u:(lpErr p !=0)=true:=by simpa using he
  have HS:=JZ hS;have HE:Hid (YC p s≠0):=JZ (by rw [hS];exact he);clear hS he i;generalize lpErr p=L at *;go_wp2;go_ret2;exact ⟨_,by rw [HS.out];rfl,by rw [Zwd HE.out];exact Z4.nil _ _,a⟩
 ·have hS:YC p s=vsErr p s:=Vo hz;have u:(vsErr p s !=0)=true:=by simpa using he
  have HS:=JZ hS;have HE:Hid (YC p s≠0):=JZ (by rw [hS];exact he);clear hS he hz i;generalize vsErr p s=L at *;go_wp2;go_ret2;exact ⟨_,by rw [HS.out];rfl,by rw [Zwd HE.out];exact Z4.nil _ _,a⟩
 ·have HS:Hid (YC p s=0):=JZ (by rw [Vo hz];exact he);have HV:=JZ (Zkv he);have v:=JZ (d.out.2.1 hz);have x:=JZ hE.r;clear hz he i hE;go_wp2_with fail;refine (Zla e p (ZB p s) K _ x.out HV.out.settle.fit v.out).mono ?_;rintro _ w3 ⟨v3,rfl,e3,E⟩;have k:=Za a E a.size;go_wp2;go_ret2;exact ⟨_,by rw [HS.out];rfl,by rw [Zpi HS.out];exact e3.monoB a.size,k⟩
theorem Zeq (v1 v2:Value) (p:LPd) (s:LSt) (K:Nat) (w:World) (h:LpM w v1 p) (h2:StM w v2 s) (ok:p.Ok K) (hF:lpErr p=0→p.Ft K) (hbl:s.basis.length≤1099511627776) (hrg:∀z∈s.basis,-9223372036854775808≤z∧z≤9223372036854775807):
 Calls Tryz.prog 21 #[v1,v2] w fun o w'=>o= .returned (.tuple #[.int .i64 (Yfw p s).1,.int .i64 (Yfw p s).2,.int .i64 (YC p s)])∧Below w.heap.size w w':=by
 obtain ⟨A,n,c,A',n',c',y,B,C,rfl,hc,hv,hr⟩:=id h;obtain ⟨Ab,nb,cb,rfl,hI⟩:=id h2;obtain ⟨W,hW,l,f⟩:=Y6 w (.slice A n c) (.slice A' n' c') (.slice y B C);obtain ⟨W1,D,j,g⟩:=Zea W (.int .i64 s.phase) (.slice Ab nb cb) (.int .i64 s.pivots);have hX:=l.later g;have b:=Za f g f.size;have m:W.heap.size=w.heap.size+1:=by rw [← hW];simp
 rw [m] at j;have q:=JZ h;have t:=JZ h2;have d:=JZ (⟨ok,hF,hbl,hrg⟩:p.Ok K∧(lpErr p=0→p.Ft K)∧s.basis.length≤1099511627776∧∀z∈s.basis,-9223372036854775808≤z∧z≤9223372036854775807);obtain ⟨x0,x1,x2⟩:=hX.three;obtain ⟨y0,y1,y2⟩:=j.three;clear h h2 hc hv hr hI l f g hX j ok hF hbl hrg;go_enter Tryz.func21,Tryz.ntmps21;go_wp2_with fail;clear hW D;refine (Zck _ _ p s K _ (q.out.below b) (t.out.below b) d.out.1 d.out.2.1 d.out.2.2.1 d.out.2.2.2).mono ?_;intro o w2 ho;obtain ⟨i,ho⟩:=ho;have a:=Za b i b.size;clear b x0 x1 x2 y0 y1 y2;rcases ho with ⟨he,rfl⟩ | ⟨hz,he,rfl⟩ | ⟨hz,he,e,rfl,hE⟩
 ·have hS:YC p s=lpErr p:=Zcl he;have u:(lpErr p !=0)=true:=by simpa using he
  have HS:=JZ hS;have HE:Hid (YC p s≠0):=JZ (by rw [hS];exact he);clear hS he i;generalize lpErr p=L at *;go_wp2;refine bodyPost_ret (results_tmp3 rfl _ _ _) rfl ?_;exact ⟨by rw [Znh HE.out,HS.out];rfl,a⟩
 ·have hS:YC p s=vsErr p s:=Vo hz;have u:(vsErr p s !=0)=true:=by simpa using he
  have HS:=JZ hS;have HE:Hid (YC p s≠0):=JZ (by rw [hS];exact he);clear hS he hz i;generalize vsErr p s=L at *;go_wp2;refine bodyPost_ret (results_tmp3 rfl _ _ _) rfl ?_;exact ⟨by rw [Znh HE.out,HS.out];rfl,a⟩
 ·have HS:Hid (YC p s=0):=JZ (by rw [Vo hz];exact he);have HV:=JZ (Zkv he);have v:=JZ (d.out.2.1 hz);have x:=JZ hE.r;have HZ:=JZ hz;clear hz he i hE;go_wp2_with fail;refine (Zng e p (ZB p s) K _ x.out HV.out.settle.fit v.out HZ.out HV.out.settle.ph).mono ?_;rintro _ w3 ⟨v3,rfl,e3,E⟩;have k:=Za a E a.size;go_wp2;refine bodyPost_ret (results_tmp3 rfl _ _ _) rfl ?_;exact ⟨by rw [Zpj HS.out,HS.out];rfl,k⟩
namespace Pl
theorem Zwe {p:LPd} {s:LSt} (h:YC p s=0):lpErr p=0∧vsErr p s=0:=by
 by_cases hz:lpErr p=0
 ·exact ⟨hz,by rw [← Vo hz];exact h⟩
 ·rw [Zcl hz] at h;exact absurd h hz
end Pl
theorem Zfg (v1 v2:Value) (p:LPd) (s:LSt) (K j:Nat) (w:World) (h:LpM w v1 p) (h2:StM w v2 s) (ok:p.Ok K) (hF:lpErr p=0→p.Ft K) (hbl:s.basis.length≤1099511627776) (hrg:∀z∈s.basis,-9223372036854775808≤z∧z≤9223372036854775807) (he0:YC p s=0) (hj:j < p.cols.length):
 Calls Tryz.prog 36 #[v1,v2,.int .i64 (j:Int)] w fun o w'=>∃v',o= .returned (.tuple #[v',.int .i64 0])∧Z4 w.heap.size w' v' (dirL p (ZB p s) (j:Int))∧Below w.heap.size w w':=by
 obtain ⟨hz,q⟩:=Zwe he0;have HZ:=JZ hz;have u:=JZ q;have L:Hid (p.cost.length=p.cols.length):=JZ (hF hz).1.cl;clear he0 hz q;have l:=JZ hj;obtain ⟨A,n,c,A',n',c',F,G,H,rfl,hc,hv,hr⟩:=id h;obtain ⟨Ab,nb,cb,rfl,hI⟩:=id h2;obtain ⟨W,hW,t,f⟩:=Y6 w (.slice A n c) (.slice A' n' c') (.slice F G H);obtain ⟨W1,I,i,g⟩:=Zea W (.int .i64 s.phase) (.slice Ab nb cb) (.int .i64 s.pivots);have hX:=t.later g;have a:=Za f g f.size;have v:W.heap.size=w.heap.size+1:=by rw [← hW];simp
 rw [v] at i;have x:=JZ h;have y:=JZ h2;have b:=JZ (⟨ok,hF,hbl,hrg⟩:p.Ok K∧(lpErr p=0→p.Ft K)∧s.basis.length≤1099511627776∧∀z∈s.basis,-9223372036854775808≤z∧z≤9223372036854775807);obtain ⟨x0,x1,x2⟩:=hX.three;obtain ⟨y0,y1,y2⟩:=i.three;obtain ⟨l1,l2,l3⟩:=hv.len;have B:=JZ l1;have M:j < n':=by rw [B.out];exact l.out
 have HX:=JZ hX;clear l1 h h2 hc hv hr hI t f g hX i ok hF hbl hrg hj;go_enter Tryz.func36,Tryz.ntmps36;go_wp2_with fail;clear hW I;refine (Zck _ _ p s K _ (x.out.below a) (y.out.below a) b.out.1 b.out.2.1 b.out.2.2.1 b.out.2.2.2).mono ?_;intro o w2 ho;obtain ⟨k,ho⟩:=ho;have d:=Za a k a.size;have C:=HX.out.later k;clear a x0 x1 x2 y0 y1 y2;rcases ho with ⟨he,rfl⟩ | ⟨hz,he,rfl⟩ | ⟨hz,he,e,rfl,hE⟩
 ·exact absurd HZ.out he
 ·exact absurd u.out he
 ·have HV:=JZ (Zkv he);have D:=JZ (b.out.2.1 hz);have E:=JZ hE.r;obtain ⟨q0,q1,q2⟩:=C.three;clear hz he k hE;go_wp2_with fail;refine (Zar e p (ZB p s) K j _ E.out D.out HZ.out l.out).mono ?_;rintro _ w3 ⟨v3,rfl,e3,J⟩;have m:=Za d J d.size;go_wp2;go_ret2;exact ⟨_,rfl,e3.monoB d.size,m⟩
theorem Zfh (v:Value) (fs:List RF) (K:Nat) (w:World) (h:Xh w v fs) (hl:fs.length≤4096) (hk:RsL K fs) (hK1:1≤K) (hK:K≤34359738368):
 Calls Tryz.prog 38 #[v] w fun e w'=>∃v',e= .returned v'∧Z4 w.heap.size w' v' (Yj fs.length (qAt fs))∧Below w.heap.size w w':=by
 obtain ⟨A,c,rfl,j,k⟩:=h.shape;have H:=JZ h;have HK:=JZ hk;have HL:=JZ hl;have b:=hl;obtain ⟨n,hn⟩:∃n,fs.length=n:=⟨_,rfl⟩;rw [hn] at j b ⊢;have HN:=JZ hn;rw [hn] at H;clear h hk hn hl;go_enter Tryz.func38,Tryz.ntmps38;go_wp2_with fail;refine (YI _ fs K _ H.out HL.out HK.out hK).mono ?_;rw [HN.out];rintro _ w1 ⟨v1,rfl,e1,a⟩;obtain ⟨A1,n1,c1,rfl⟩:∃A n c,v1= .slice A n c:=by obtain ⟨A,c,e,_⟩:=e1.vec.shape;exact ⟨A,_,c,e⟩
 go_wp2_with fail;refine (Wo _ (spV (qAt fs) n) n K _ e1.vec b (Zaf fun i _=>HK.out.qAt hK1 i) hK (Zae _ n)).mono ?_;rw [ZT (g:=qAt fs) fun i hi=>by rw [Zdm,if_pos hi]];rintro _ w2 ⟨v2,rfl,e2,d⟩;have f:=Za a d a.size;obtain ⟨A2,n2,c2,rfl⟩:=e2.sliceN;have e3:=e2.monoB a.size;clear e1 e2 a d;go_wp2;go_ret;exact ⟨_,rfl,e3,f⟩
namespace Pl
def exP (p:LPd) (s:LSt):Prf:=if YC p s=0 then Zkx p (ZB p s) else ⟨0,[],[],[]⟩
def exE (p:LPd) (s:LSt):Int:=if YC p s=0 then Zvt p (ZB p s) else YC p s
theorem Yaq {p:LPd} {s:LSt} (h:YC p s≠0):exP p s=⟨0,[],[],[]⟩∧exE p s=YC p s:=⟨if_neg h,if_neg h⟩
theorem Zwf {p:LPd} {s:LSt} (h:YC p s=0):exP p s=Zkx p (ZB p s)∧exE p s=Zvt p (ZB p s):=⟨if_pos h,if_pos h⟩
end Pl
theorem Zni (v1 v2:Value) (p:LPd) (s:LSt) (K:Nat) (w:World) (h:LpM w v1 p) (h2:StM w v2 s) (ok:p.Ok K) (hF:lpErr p=0→p.Ft K) (hbl:s.basis.length≤1099511627776) (hrg:∀z∈s.basis,-9223372036854775808≤z∧z≤9223372036854775807) (hse:YC p s=0):
 Calls Tryz.prog 10 #[v1,v2] w fun o w'=>∃v',o= .returned (.tuple #[v',.int .i64 (Zvt p (ZB p s))])∧Zle w' v' (Zkx p (ZB p s))∧Below w.heap.size w w':=by
 obtain ⟨br,cl⟩:=Zwe hse;have ds:=JZ br;have HV:=JZ (Zkv cl);have a6:=JZ hse;have ab:=JZ (hF br);have bv:=JZ (Zpj hse);have bc:=JZ (Zph hse);have bd:=JZ (Zpi hse);have ar:Hid (s.basis=(ZB p s).basis):=JZ (by unfold ZB;split <;> rfl);have be:=JZ HV.out.settle.fit;have bw:=JZ HV.out.settle;clear br cl hse;obtain ⟨t,ht⟩:∃t,ZB p s=t:=⟨_,rfl⟩;rw [ht] at bv bc bd ar be bw ⊢;have HT:=JZ ht;clear ht;obtain ⟨A,n,c,A',n',c',dh,di,dj,rfl,hc,hv,hr⟩:=id h;obtain ⟨Ab,nb,cb,rfl,hI⟩:=id h2;obtain ⟨W,hW,cm,aj⟩:=Y6 w (.slice A n c) (.slice A' n' c') (.slice dh di dj);obtain ⟨W1,cn,bs,ak⟩:=Zea W (.int .i64 s.phase) (.slice Ab nb cb) (.int .i64 s.pivots);have bx:=cm.later ak;have a7:=Za aj ak aj.size;have bz:W.heap.size=w.heap.size+1:=by rw [← hW];simp
 rw [bz] at bs;obtain ⟨W2,dk,bt,a3⟩:=XV W1 (.int .i64 0) (.slice none 0 0) (.slice none 0 0) (.slice none 0 0);have bf:=bx.later a3;have bg:=bs.later a3;have ac:=Za a7 a3 a7.size;have c0:W1.heap.size=w.heap.size+1+1:=by rw [← cn];simp [bz]
 rw [c0] at bt;have a8:=JZ h;have a9:=JZ h2;have d5:=JZ hI;have l:=JZ (⟨ok,hF,hbl,hrg⟩:p.Ok K∧(lpErr p=0→p.Ft K)∧s.basis.length≤1099511627776∧∀z∈s.basis,-9223372036854775808≤z∧z≤9223372036854775807);obtain ⟨l1,l2,l3⟩:=hv.len;have bh:=JZ l1;have dt:n'≤1200:=by rw [l1];exact ab.out.1.cols
 obtain ⟨b1,b2,b3⟩:=hI.len;have d6:=JZ b1;obtain ⟨x0,x1,x2⟩:=bf.three;obtain ⟨y0,y1,y2⟩:=bg.three;clear l1 b1 h h2 hc hv hr hI cm bx a7 aj ak a3 bs ok hF hbl hrg;go_enter Tryz.func10,Tryz.ntmps10;go_wp2_with fail;clear hW cn dk;refine (Zeq _ _ p s K _ (a8.out.below ac) (a9.out.below ac) l.out.1 l.out.2.1 l.out.2.2.1 l.out.2.2.2).mono ?_;rw [bv.out,a6.out];have b4:=Zem p t;generalize cz:YR p t=q at b4 ⊢;generalize d0:UA p t=j;have HQ:=JZ cz;have HJ:=JZ d0;clear cz d0;rintro _ w3 ⟨rfl,P⟩;have c1:=bf.later P;have c2:=bg.later P;have bi:=bt.later P;have ad:=Za ac P ac.size;clear x0 x1 x2 y0 y1 y2 bf bg bt ac P;obtain ⟨W7,dl,al,am⟩:=XV w3 (.int .i64 0) (.slice none 0 0) (.slice none 0 0) (.slice none 0 0);have c3:=c1.later am;have c4:=c2.later am;have c7:=bi.later am;have b6:=Za ad am ad.size;have d7:w.heap.size+1+1 < w3.heap.size:=bi.lt_;obtain ⟨gx,a4⟩:∃gx,gx=w3.heap.size:=⟨_,rfl⟩;rw [← a4] at al d7;clear c1 c2 bi ad am;obtain ⟨p0,p1,p2,p3⟩:=al.four;obtain ⟨g0,g1,g2,g3⟩:=al.fourF;obtain ⟨k1,k2,k3,k4⟩:=WV (B:=w.heap.size) (w0:=w) al b6 (by omega) (.int .i64 q) (.slice none 0 0) (.slice none 0 0) (.slice none 0 0);rw [a4] at p0 p1 p2 p3 g0 g1 g2 g3
 go_upto_region 5 with (fail)
 rw [← a4];clear a4 dl p0 p1 p2 p3 g0 g1 g2 g3;have S:=k4 _ _ _ (by omega) c3;have T:=k4 _ _ _ (by omega) c4;have U:=k4 _ _ _ (by omega) c7;clear c3 c4 c7 b6 k2 k4;generalize (((W7.setCell ⟨gx,0,none⟩ (.int .i64 q)).setCell ⟨gx,1,none⟩ (.slice none 0 0)).setCell ⟨gx,2,none⟩ (.slice none 0 0)).setCell ⟨gx,3,none⟩ (.slice none 0 0)=W8 at *;have Z:=k1;have d:=k3;clear k1 k3 al;rcases b4 with rfl | rfl | rfl | rfl
 ·obtain ⟨M,N⟩:=Yfn HQ.out;have a0:=JZ M;have a1:=JZ N;clear M N;obtain ⟨r0,r1,r2,r3⟩:=U.four;obtain ⟨f0,f1,f2,f3⟩:=U.fourF;obtain ⟨p0,p1,p2,p3⟩:=Z.four;go_wp2;obtain ⟨k1,k2,k3,k4⟩:=WV (B:=w.heap.size) (w0:=w) U d (by omega) (.int .i64 0) (.slice none 0 0) (.slice none 0 0) (.slice none 0 0);refine Y5 Tryz.results10 Tryz.underlying33 (by kernel_rfl) rfl k1 rfl ?_;exact ⟨_,by rw [a1.out];rfl,by rw [a0.out];exact ⟨none,0,0,none,0,0,none,0,0,rfl,WL _,WL _,WL _,by simp,by simp⟩,k3⟩
 ·obtain ⟨M,N⟩:=Yfo HQ.out;have a0:=JZ M;have a1:=JZ N;clear M N;obtain ⟨x0,x1,x2⟩:=S.three;obtain ⟨y0,y1,y2⟩:=T.three;go_wp2_with fail;refine (Zep _ _ p s K _ (a8.out.below d) (a9.out.below d) l.out.1 l.out.2.1 l.out.2.2.1 l.out.2.2.2).mono ?_;rw [a6.out,bc.out];rintro _ u9 ⟨v9,rfl,e9,H⟩;obtain ⟨A9,n9,c9,rfl⟩:=e9.sliceN;have a:=Z.later H;have C:=U.later H;have I:=S.later H;have J:=T.later H;have E:=Za d H d.size;obtain ⟨p0,p1,p2,p3⟩:=a.four;obtain ⟨g0,g1,g2,g3⟩:=a.fourF;have kb:=Ze.setCell a 1 (.slice A9 n9 c9);have au:=a.set_ 1 (.slice A9 n9 c9);have av:=C.set_other (g:=gx) (by omega) 1 (.slice A9 n9 c9);have aa:=I.set_other (g:=gx) (by omega) 1 (.slice A9 n9 c9);have ae:=J.set_other (g:=gx) (by omega) 1 (.slice A9 n9 c9);have v:=E.setCell (p:=⟨gx,1,none⟩) (by simp;omega) (.slice A9 n9 c9);have aw:=e9.frs.but kb (by decide) (by decide)
  go_upto_region 9 with (fail)
  clear x0 x1 x2 y0 y1 y2 p0 p1 p2 p3 g0 g1 g2 g3 a C I J E kb e9 H Z U S T d;generalize u9.setCell ⟨gx,1,none⟩ (.slice A9 n9 c9)=W9 at *;obtain ⟨x0,x1,x2⟩:=aa.three;obtain ⟨y0,y1,y2⟩:=ae.three;go_wp2_with fail;refine (Zlc _ _ p s K _ (a8.out.below v) (a9.out.below v) l.out.1 l.out.2.1 l.out.2.2.1 l.out.2.2.2).mono ?_;rw [a6.out,bd.out];rintro _ ap ⟨cy,rfl,O,b⟩;obtain ⟨m,r,u,rfl⟩:=O.sliceN;have a:=au.later b;have C:=av.later b;have I:=aa.later b;have J:=ae.later b;have E:=Za v b v.size;obtain ⟨p0,p1,p2,p3⟩:=a.four;obtain ⟨g0,g1,g2,g3⟩:=a.fourF;have kb:=Ze.setCell a 2 (.slice m r u);have V:=a.set_ 2 (.slice m r u);have y:=C.set_other (g:=gx) (by omega) 2 (.slice m r u);have c8:=I.set_other (g:=gx) (by omega) 2 (.slice m r u);have ca:=J.set_other (g:=gx) (by omega) 2 (.slice m r u);have L:=E.setCell (p:=⟨gx,2,none⟩) (by simp;omega) (.slice m r u);have X:=O.frs.but kb (by decide) (by decide);have af:=(aw.below b).but kb (by decide) (by decide)
  go_upto_region 24 with (fail)
  clear x0 x1 x2 y0 y1 y2 p0 p1 p2 p3 g0 g1 g2 g3 a C I J E kb O b au av aa ae v aw;generalize ap.setCell ⟨gx,2,none⟩ (.slice m r u)=d3 at *;obtain ⟨r0,r1,r2,r3⟩:=y.four;obtain ⟨f0,f1,f2,f3⟩:=y.fourF;obtain ⟨p0,p1,p2,p3⟩:=V.four;go_wp2;obtain ⟨k1,k2,k3,k4⟩:=WV (B:=w.heap.size) (w0:=w) y L (by omega) (.int .i64 1) (.slice A9 n9 c9) (.slice m r u) (.slice none 0 0);refine Y5 Tryz.results10 Tryz.underlying33 (by kernel_rfl) rfl k1 rfl ?_;exact ⟨_,by rw [a1.out];rfl,by rw [a0.out];exact ⟨_,_,_,_,_,_,_,_,_,rfl,af.but k2 (by decide) (by decide),X.but k2 (by decide) (by decide),WL _,by simp,by simp⟩,k3⟩
 ·obtain ⟨M,N⟩:=Yfp HQ.out;have a0:=JZ M;have a1:=JZ N;clear M N;obtain ⟨x0,x1,x2⟩:=S.three;obtain ⟨y0,y1,y2⟩:=T.three;go_wp2_with fail;refine (Zlc _ _ p s K _ (a8.out.below d) (a9.out.below d) l.out.1 l.out.2.1 l.out.2.2.1 l.out.2.2.2).mono ?_;rw [a6.out,bd.out];rintro _ ap ⟨cy,rfl,O,b⟩;obtain ⟨m,r,u,rfl⟩:=O.sliceN;have a:=Z.later b;have C:=U.later b;have I:=S.later b;have J:=T.later b;have E:=Za d b d.size;obtain ⟨p0,p1,p2,p3⟩:=a.four;obtain ⟨g0,g1,g2,g3⟩:=a.fourF;have kb:=Ze.setCell a 2 (.slice m r u);have V:=a.set_ 2 (.slice m r u);have y:=C.set_other (g:=gx) (by omega) 2 (.slice m r u);have c8:=I.set_other (g:=gx) (by omega) 2 (.slice m r u);have ca:=J.set_other (g:=gx) (by omega) 2 (.slice m r u);have L:=E.setCell (p:=⟨gx,2,none⟩) (by simp;omega) (.slice m r u);have X:=O.frs.but kb (by decide) (by decide)
  go_upto_region 24 with (fail)
  clear x0 x1 x2 y0 y1 y2 p0 p1 p2 p3 g0 g1 g2 g3 a C I J E kb O b Z U S T d;generalize ap.setCell ⟨gx,2,none⟩ (.slice m r u)=d3 at *;obtain ⟨r0,r1,r2,r3⟩:=y.four;obtain ⟨f0,f1,f2,f3⟩:=y.fourF;obtain ⟨p0,p1,p2,p3⟩:=V.four;go_wp2;obtain ⟨k1,k2,k3,k4⟩:=WV (B:=w.heap.size) (w0:=w) y L (by omega) (.int .i64 2) (.slice none 0 0) (.slice m r u) (.slice none 0 0);refine Y5 Tryz.results10 Tryz.underlying33 (by kernel_rfl) rfl k1 rfl ?_;exact ⟨_,by rw [a1.out];rfl,by rw [a0.out];exact ⟨_,_,_,_,_,_,_,_,_,rfl,WL _,X.but k2 (by decide) (by decide),WL _,by simp,by simp⟩,k3⟩
 ·obtain ⟨M,N⟩:=Yfq HQ.out;have a0:=JZ M;have a1:=JZ N;obtain ⟨jn,an,co,cp⟩:=Zky HQ.out;have d8:=JZ an;have ax:jn < n':=by rw [bh.out];exact an
  obtain rfl:j=(jn:Int):=by rw [← HJ.out];exact co
  have du:(jn:Int) < n':=by omega
  obtain ⟨D,hD⟩:∃D,VO p t=D:=⟨_,rfl⟩;have bj:Hid (dirL p t (jn:Int)=D):=JZ (by rw [← cp,hD]);have bk:Hid (D.length=nb):=JZ (by rw [← bj.out,Znc bw.out.reg,d6.out,ar.out,be.out.len]);have cc:Hid (RsL (5^p.right.length * K) D):=JZ (by rw [← bj.out];exact Yal ab.out.1 t _);have ag:Hid (1≤5^p.right.length * K∧5^p.right.length * K≤4000000):=JZ ⟨JW ab.out.1.k1 ab.out.1.le,ab.out.2.2⟩;have d9:Hid (Ydm p t=Yj n' (Zlh t D (jn:Int) nb)):=JZ (by unfold Ydm;rw [HJ.out,bh.out,hD,bk.out]);have da:Hid (∀k i,Sz (5^p.right.length * K) (Zlh t D (jn:Int) k i)):=JZ (fun k i=>Zvu cc.out ag.out.1 k i);clear M N an co cp hD;obtain ⟨x0,x1,x2⟩:=S.three;obtain ⟨y0,y1,y2⟩:=T.three;go_wp2_with fail;refine (Zep _ _ p s K _ (a8.out.below d) (a9.out.below d) l.out.1 l.out.2.1 l.out.2.2.1 l.out.2.2.2).mono ?_;rw [a6.out,bc.out];rintro _ u9 ⟨v9,rfl,e9,H⟩;obtain ⟨A9,n9,c9,rfl⟩:=e9.sliceN;have a:=Z.later H;have C:=U.later H;have I:=S.later H;have J:=T.later H;have E:=Za d H d.size;obtain ⟨p0,p1,p2,p3⟩:=a.four;obtain ⟨g0,g1,g2,g3⟩:=a.fourF;have kb:=Ze.setCell a 1 (.slice A9 n9 c9);have au:=a.set_ 1 (.slice A9 n9 c9);have av:=C.set_other (g:=gx) (by omega) 1 (.slice A9 n9 c9);have aa:=I.set_other (g:=gx) (by omega) 1 (.slice A9 n9 c9);have ae:=J.set_other (g:=gx) (by omega) 1 (.slice A9 n9 c9);have v:=E.setCell (p:=⟨gx,1,none⟩) (by simp;omega) (.slice A9 n9 c9);have aw:=e9.frs.but kb (by decide) (by decide);have db:=Y1 n' (by omega)
  go_upto_region 14 with (fail)
  clear x0 x1 x2 y0 y1 y2 p0 p1 p2 p3 g0 g1 g2 g3 a C I J E kb e9 H Z U S T d;generalize u9.setCell ⟨gx,1,none⟩ (.slice A9 n9 c9)=W9 at *;obtain ⟨x0,x1,x2⟩:=aa.three;have hO:=Z4.zeros W9 n' (by unfold maxLen;omega);have G:=Zb W9 (.cells (zfc n') 46);go_wp2_with fail;clear db x0 x1 x2;obtain ⟨gr,ay⟩:∃gr,W9.heap.size=gr:=⟨_,rfl⟩;rw [ay] at hO G ⊢;have ah:=JZ ay;have dv:w.heap.size≤gr:=by rw [← ay];exact v.size
  clear ay;generalize W9.alloc (.cells (zfc n') 46)=d3 at *;refine (VN _).mono ?_;rintro _ dr ⟨dy,rfl,bu,aq⟩;obtain ⟨B1,m1,d1,B2,m2,d2,rfl,_,_⟩:=id bu;have bl:=hO.below aq;have b7:=Za G aq (by have:=G.size;rw [ah.out] at this;exact this);obtain ⟨_,_,_,_,⟨t0,t1,t2,t3⟩,⟨f0,f1,f2,f3⟩,_⟩:=bl.at_ (show (List.replicate n' zeroF)[jn]? =some zeroF by simp [ax]);obtain ⟨cq,dm⟩:=bl.set_ (k:=jn) (by simpa using ax) bu;have F:=Zw b7 (JY _) (jn * 4) (jn * 4+1) (jn * 4+2) (jn * 4+3);clear hO G aq bl b7 dm bu
  go_upto_region 16 with (fail)
  clear t0 t1 t2 t3 f0 f1 f2 f3;have bm:XA gr n' (5^p.right.length * K) (Zlh t D (jn:Int) 0) _ (.slice (some ⟨gr,0,none⟩) n' n'):=⟨_,cq,by simp,fun i hi=>by
   unfold Zlh qAt;by_cases e:jn=i
   ·subst e;rw [List.getElem?_set_self (by simpa using ax),if_pos rfl];exact Zu 1
   ·rw [List.getElem?_set_ne e,if_neg (by omega)];simp [hi,zeroF_q],fun i f hf=>by
   by_cases e:jn=i
   ·subst e;rw [List.getElem?_set_self (by simpa using ax)] at hf;injection hf with hf;subst hf;exact (Sz_one.mono ag.out.1).rs
   ·rw [List.getElem?_set_ne e] at hf;exact Zdi _ n' i f hf⟩
  have F:=F (.bool (canF 1).num.neg) (.slice B1 m1 d1) (.bool (canF 1).den.neg) (.slice B2 m2 d2);clear cq;generalize (((dr.setCell ⟨gr,jn * 4,none⟩ (.bool (canF 1).num.neg)).setCell ⟨gr,jn * 4+1,none⟩ (.slice B1 m1 d1)).setCell ⟨gr,jn * 4+2,none⟩ (.bool (canF 1).den.neg)).setCell ⟨gr,jn * 4+3,none⟩ (.slice B2 m2 d2)=d4 at *;rw [← ah.out] at F;have b8:=aa.later F;have ai:=ae.later F;have a2:=Za v F v.size;obtain ⟨x0,x1,x2⟩:=b8.three;obtain ⟨y0,y1,y2⟩:=ai.three;have ce:gr < d4.heap.size:=by obtain ⟨fs,⟨cs,h9,_⟩,h8,_,_⟩:=bm;exact (h9.lt gr rfl).2
  go_wp2_with fail;refine (Zfg _ _ p s K jn _ (a8.out.below a2) (a9.out.below a2) l.out.1 l.out.2.1 l.out.2.2.1 l.out.2.2.2 a6.out d8.out).mono ?_;rw [HT.out,bj.out];rintro _ dz ⟨e0,rfl,b0,a5⟩;obtain ⟨Ad,nd,cd,rfl⟩:=b0.sliceN;have cf:=bk.out;obtain ⟨_,_,cr,dn,dx⟩:=b0.frs.shape;rw [cf] at cr dn;injection cr with q1 q2 q3;subst q1 q2 q3;have R:=Za F a5 F.size;have bn:=Za v R v.size;have b9:=bm.below a5;have ba:=ai.later a5;rw [← ah.out] at ce;clear x0 x1 x2 y0 y1 y2 b8 ai F a2 bm a5 cf;obtain ⟨y0,y1,y2⟩:=ba.three;go_wp2;clear y0 y1 y2 ba
  go_loopw [85] (fun x wr=>∃k:Nat,k≤nd∧x= .int .i64 k∧XA gr n' (5^p.right.length * K) (Zlh t D (jn:Int) k) wr (.slice (some ⟨gr,0,none⟩) n' n')∧Below W9.heap.size W9 wr∧Z4 d4.heap.size wr (.slice Ad nd cd) D) (fun x _=>nd - (intOf x).toNat)
  case atStart=>exact ⟨0,by omega,rfl,b9,R,b0⟩
  case round=>
   clear R bn b9 b0;obtain ⟨k,hk,rfl,hS,G,ao⟩:=hrel;have a7:=Za v G v.size;rcases JX k nd with hkl | hkl
   ·have dw:(k:Int) < nd:=(by omega);obtain ⟨bb,ob,z,hA,z0,az,z1,z2⟩:=d5.out.at_ hkl;subst hA;have z3:=Zf a7 z0;have bo:Hid (t.at_ k=z):=JZ (by rw [ar.out] at az;exact LSt.at_eq az);have r2:z < n':=by
     have h9:=(be.out.1 k z (by rw [← ar.out];exact az)).2;rw [bh.out];exact h9
    clear z0 az;rcases Int.lt_or_le z 0 with hz0 | hz0
    ·have dc:=hS.to (g:=Zlh t D (jn:Int) (k+1)) (JY _) fun i _=>by rw [Zel,bo.out,if_neg (by omega)]
     clear hS;go_wp2;go_roundw
     case rel=>exact ⟨k+1,by omega,by go_num,dc,G,ao⟩
     case measure=>simp [intOf];omega
    ·obtain ⟨zn,rfl⟩:=JT hz0;have cg:zn < n':=(by omega);obtain ⟨f,hf⟩:=Yb (fs:=D) (i:=k) (by rw [bk.out];exact hkl);obtain ⟨b5,o5,A5,n5,c5,A6,n6,c6,dp,_,⟨x0,x1,x2,x3⟩,ct⟩:=ao.frs.elem (JR _ _) hf;subst dp;have bp:Hid (qAt D k=f.q):=JZ (Yo hf);have dd:f.Sm:=(cc.out k f hf).sm (by have:=ag.out;omega);have de:=JZ (da.out (k+1) zn);clear hf;go_wp2_with fail;refine (Zzk _ f _ ct dd).mono ?_;rintro _ u3 ⟨v3,rfl,e3,P⟩;obtain ⟨C1,i1,l1,C2,i2,l2,rfl,_,_⟩:=id e3;have bq:=hS.below P;have R:=Za G P G.size;have ch:=ao.below P;have ci:Hid (Zlh t D (jn:Int) (k+1) zn= -f.q):=JZ (by rw [Zel,bo.out,if_pos rfl,bp.out]);obtain ⟨_,_,_,_,_,_,_,⟨t0,t1,t2,t3⟩,⟨f0,f1,f2,f3⟩,_⟩:=bq.at_ cg;obtain ⟨dq,cu⟩:=bq.set_ (f':=Zlh t D (jn:Int) (k+1)) cg e3 (by rw [← ci.out];exact de.out) ci.out (fun i _ hne=>by rw [Zel,bo.out,if_neg (by omega)]) _ rfl;have cj:=Zw R (Nat.le_of_eq ah.out) (zn * 4) (zn * 4+1) (zn * 4+2) (zn * 4+3);have df:=ch.far4 (by rw [← ah.out];exact ce) _ rfl cu;clear hS G a7 ao ct P bq R ch x0 x1 x2 x3 e3 cu;go_wp2;go_roundw
     case rel=>exact ⟨k+1,by omega,by go_num,dq,cj _ _ _ _,df⟩
     case measure=>simp [intOf];omega
   ·obtain rfl:nd=k:=by omega
    obtain ⟨fs,hO,cv,cw,cx⟩:=hS;have ck:=JZ cv;have dg:=JZ cx;have bp:=JZ cw;clear cv cx cw ao;go_wp2_with fail;refine (Zfh _ fs _ _ hO.frs (by rw [ck.out];omega) dg.out ag.out.1 (by have:=ag.out;omega)).mono ?_;rw [ck.out,ZT (g:=Zlh t D (jn:Int) nd) fun i hi=>bp.out i hi,← d9.out];rintro _ ap ⟨cy,rfl,O,b⟩;obtain ⟨m,r,u,rfl⟩:=O.sliceN;have Y:=Za G b G.size;have a:=au.later Y;have C:=av.later Y;have E:=Za v Y v.size;obtain ⟨p0,p1,p2,p3⟩:=a.four;obtain ⟨g0,g1,g2,g3⟩:=a.fourF;have kb:=Ze.setCell a 3 (.slice m r u);have V:=a.set_ 3 (.slice m r u);have y:=C.set_other (g:=gx) (by omega) 3 (.slice m r u);have L:=E.setCell (p:=⟨gx,3,none⟩) (by simp;omega) (.slice m r u);have X:=O.frs.but kb (by decide) (by decide);have af:=(aw.below Y).but kb (by decide) (by decide)
    go_upto_region 24 with (fail)
    clear p0 p1 p2 p3 g0 g1 g2 g3 a C E kb O b G Y hO;generalize ap.setCell ⟨gx,3,none⟩ (.slice m r u)=e1 at *;obtain ⟨r0,r1,r2,r3⟩:=y.four;obtain ⟨f0,f1,f2,f3⟩:=y.fourF;obtain ⟨p0,p1,p2,p3⟩:=V.four;go_wp2;obtain ⟨k1,k2,k3,k4⟩:=WV (B:=w.heap.size) (w0:=w) y L (by omega) (.int .i64 3) (.slice A9 n9 c9) (.slice none 0 0) (.slice m r u);refine Y5 Tryz.results10 Tryz.underlying33 (by kernel_rfl) rfl k1 rfl ?_;exact ⟨_,by rw [a1.out];rfl,by rw [a0.out];exact ⟨_,_,_,_,_,_,_,_,_,rfl,af.but k2 (by decide) (by decide),WL _,X.but k2 (by decide) (by decide),by simp,by simp⟩,k3⟩
theorem Zld (v1 v2:Value) (p:LPd) (s:LSt) (K:Nat) (w:World) (h:LpM w v1 p) (h2:StM w v2 s) (ok:p.Ok K) (hF:lpErr p=0→p.Ft K) (hbl:s.basis.length≤1099511627776) (hrg:∀z∈s.basis,-9223372036854775808≤z∧z≤9223372036854775807) (hse:YC p s≠0):
 Calls Tryz.prog 10 #[v1,v2] w fun o w'=>o= .returned (.tuple #[.agg #[.int .i64 0,.slice none 0 0,.slice none 0 0,.slice none 0 0],.int .i64 (YC p s)])∧Below w.heap.size w w':=by
 have q:=Znh hse;have F:=JZ q;have O:=JZ hse;obtain ⟨er,j⟩:∃x,YC p s=x:=⟨_,rfl⟩;rw [j] at hse ⊢;have G:=JZ j;have P:(er !=0)=true:=by simpa using hse
 clear q hse j;obtain ⟨A,n,c,A',n',c',J,L,M,rfl,hc,hv,hr⟩:=id h;obtain ⟨Ab,nb,cb,rfl,hI⟩:=id h2;obtain ⟨W,hW,D,d⟩:=Y6 w (.slice A n c) (.slice A' n' c') (.slice J L M);obtain ⟨W1,E,k,e⟩:=Zea W (.int .i64 s.phase) (.slice Ab nb cb) (.int .i64 s.pivots);have r:=D.later e;have g:=Za d e d.size;have t:W.heap.size=w.heap.size+1:=by rw [← hW];simp
 rw [t] at k;obtain ⟨W2,N,l,a⟩:=XV W1 (.int .i64 0) (.slice none 0 0) (.slice none 0 0) (.slice none 0 0);have u:=r.later a;have v:=k.later a;have b:=Za g a g.size;have y:W1.heap.size=w.heap.size+1+1:=by rw [← E];simp [t]
 rw [y] at l;have H:=JZ h;have I:=JZ h2;have f:=JZ (⟨ok,hF,hbl,hrg⟩:p.Ok K∧(lpErr p=0→p.Ft K)∧s.basis.length≤1099511627776∧∀z∈s.basis,-9223372036854775808≤z∧z≤9223372036854775807);obtain ⟨x0,x1,x2⟩:=u.three;obtain ⟨y0,y1,y2⟩:=v.three;clear h h2 hc hv hr hI D r g d e a k ok hF hbl hrg;go_enter Tryz.func10,Tryz.ntmps10;go_wp2_with fail;clear hW E N;refine (Zeq _ _ p s K _ (H.out.below b) (I.out.below b) f.out.1 f.out.2.1 f.out.2.2.1 f.out.2.2.2).mono ?_;rw [F.out,G.out];rintro _ w3 ⟨rfl,m⟩;have i:=l.later m;have C:=Za b m b.size;clear x0 x1 x2 y0 y1 y2 u v l b m;obtain ⟨r0,r1,r2,r3⟩:=i.four;obtain ⟨f0,f1,f2,f3⟩:=i.fourF;go_wp2;obtain ⟨k1,k2,k3,k4⟩:=WV (B:=w.heap.size) (w0:=w) i C (by omega) (.int .i64 0) (.slice none 0 0) (.slice none 0 0) (.slice none 0 0);refine Y5 Tryz.results10 Tryz.underlying33 (by kernel_rfl) rfl k1 rfl ?_;exact ⟨rfl,k3⟩
theorem Yar (v1 v2:Value) (p:LPd) (s:LSt) (K:Nat) (w:World) (h:LpM w v1 p) (h2:StM w v2 s) (ok:p.Ok K) (hF:lpErr p=0→p.Ft K) (hbl:s.basis.length≤1099511627776) (hrg:∀z∈s.basis,-9223372036854775808≤z∧z≤9223372036854775807):
 Calls Tryz.prog 10 #[v1,v2] w fun o w'=>∃v',o= .returned (.tuple #[v',.int .i64 (exE p s)])∧Zle w' v' (exP p s)∧Below w.heap.size w w':=by
 by_cases a:YC p s=0
 ·rw [(Zwf a).1,(Zwf a).2];exact Zni v1 v2 p s K w h h2 ok hF hbl hrg a
 ·rw [(Yaq a).1,(Yaq a).2];refine (Zld v1 v2 p s K w h h2 ok hF hbl hrg a).mono ?_;rintro _ w' ⟨rfl,hb⟩;exact ⟨_,rfl,⟨none,0,0,none,0,0,none,0,0,rfl,WL _,WL _,WL _,by simp,by simp⟩,hb⟩
end Go.Proofs.YtgbhebappffbdaaGreat
