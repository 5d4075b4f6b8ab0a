/- Lemmas of the claim; no condition. -/
import Derived.Great.BuildSlice
import Derived.Test.YtncmobkhenfhpaaGreatE22
set_option linter.all false
set_option maxRecDepth 100000
set_option maxHeartbeats 40000000
namespace Go.Proofs.YtncmobkhenfhpaaGreat
open Go.RowKit
open Pl
attribute [local go_sem ↓] Go.wp_at_zero Go.wp_at_succ
namespace Pl
def YZ (p:LPd) (s:LSt):Int:=if lpErr p=0 then vsErr p s else lpErr p
theorem Zje {p:LPd} {s:LSt} (h:lpErr p≠0):YZ p s=lpErr p:=if_neg h
def Ydy (p:LPd) (s:LSt):Int × Int:=if YZ p s=0 then (WL p (Zy p s),Zcd p (Zy p s)) else (0,0)
theorem Zwu {p:LPd} {s:LSt} (h:YZ p s≠0):Ydy p s=(0,0):=if_neg h
theorem Zqq {p:LPd} {s:LSt} (h:YZ p s=0):Ydy p s=(WL p (Zy p s),Zcd p (Zy p s)):=if_pos h
theorem Ydz {p:LPd} {s:LSt} (S:s.Fit p):Zqj p s:=fun i hi=>by
 obtain ⟨z,hz⟩:∃z,s.basis[i]? =some z:=⟨_,JQ (by have:=S.2;omega)⟩
 rw [LSt.at_eq hz]
 exact S.1 i z hz
theorem WX {p:LPd} {s:LSt} (h:lpErr p=0):YZ p s=vsErr p s:=if_pos h
end Pl
theorem Zoi [Old] (v1 v2:Value) (p:LPd) (s:LSt) (K:Nat) (w:World) (h:LpM w v1 p) (h2:StM w v2 s) (ok:p.Ok K) (hF:lpErr p=0→p.Ft K) (hbl:s.basis.length≤1099511627776) (hrg:∀z∈s.basis,-9223372036854775808≤z∧z≤9223372036854775807) (hOl:Zb w:=by (repeat (first | assumption | exact Zb.up (by assumption) hOl | exact Zb.up (Hid.out (by assumption)) hOl | with_reducible refine Zb.set ?_ _ _ | with_reducible refine Zb.mk_ ?_ _ | with_reducible refine Zb.dr ?_ | with_reducible refine Zb.drN ?_ | refine Zb.up (by assumption) ?_ | refine Zb.up (Hid.out (by assumption)) ?_))):
 Calls Tryz.prog 20 #[v1,v2] w fun o w'=>o= .returned (.tuple #[.int .i64 (Ydy p s).1,.int .i64 (Ydy p s).2,.int .i64 (YZ p s)])∧Below w.heap.size w w':=by
 have G:=hOl.le;obtain ⟨A,n,c,A',n',c',y,B,C,rfl,hc,hv,hr⟩:=id h;obtain ⟨Ab,nb,cb,rfl,hI⟩:=id h2;obtain ⟨W,hW,l,f⟩:=X9 w (.slice A n c) (.slice A' n' c') (.slice y B C);obtain ⟨W1,D,j,g⟩:=Xa W (.int .i64 s.phase) (.slice Ab nb cb) (.int .i64 s.pivots);have hX:=l.later g;have b:=Za f g f.size;have m:W.heap.size=w.heap.size+1:=by rw [← hW];simp
 rw [m] at j;have q:=JZ h;have t:=JZ h2;have d:=JZ (⟨ok,hF,hbl,hrg⟩:p.Ok K∧(lpErr p=0→p.Ft K)∧s.basis.length≤1099511627776∧∀z∈s.basis,-9223372036854775808≤z∧z≤9223372036854775807);obtain ⟨x0,x1,x2⟩:=hX.three;obtain ⟨y0,y1,y2⟩:=j.three;clear h h2 hc hv hr hI l f g hX j ok hF hbl hrg;go_enter Tryz.func20,Tryz.ntmps20;go_wp2_with fail;clear hW D;have F:=Zb.up b hOl;refine (Zdj _ _ p s K _ (q.out.below b) (t.out.below b) d.out.1 d.out.2.1 d.out.2.2.1 d.out.2.2.2).mono ?_;intro o w2 ho;obtain ⟨i,ho⟩:=ho;have a:=Za b i b.size;clear b x0 x1 x2 y0 y1 y2;rcases ho with ⟨he,rfl⟩ | ⟨hz,he,rfl⟩ | ⟨hz,he,e,rfl,hE⟩
 ·have hS:YZ p s=lpErr p:=Zje he;have u:(lpErr p !=0)=true:=by simpa using he
  have HS:=JZ hS;have HE:Hid (YZ p s≠0):=JZ (by rw [hS];exact he);clear hS he i;generalize lpErr p=L at *;go_wp2;refine bodyPost_ret (results_tmp3 rfl _ _ _) rfl ?_;exact ⟨by rw [Zwu HE.out,HS.out];rfl,a⟩
 ·have hS:YZ p s=vsErr p s:=WX hz;have u:(vsErr p s !=0)=true:=by simpa using he
  have HS:=JZ hS;have HE:Hid (YZ p s≠0):=JZ (by rw [hS];exact he);clear hS he hz i;generalize vsErr p s=L at *;go_wp2;refine bodyPost_ret (results_tmp3 rfl _ _ _) rfl ?_;exact ⟨by rw [Zwu HE.out,HS.out];rfl,a⟩
 ·have HS:Hid (YZ p s=0):=JZ (by rw [WX hz];exact he);have HV:=JZ (Zwk he);have v:=JZ (d.out.2.1 hz);have x:=JZ hE.r;have HZ:=JZ hz;clear hz he i hE;go_wp2_with fail;refine (Zfk e p (Zy p s) K _ x.out HV.out.settle.fit v.out HZ.out HV.out.settle.ph).mono ?_;rintro _ w3 ⟨v3,rfl,e3,E⟩;have k:=Za a E a.size;go_wp2;refine bodyPost_ret (results_tmp3 rfl _ _ _) rfl ?_;exact ⟨by rw [Zqq HS.out,HS.out];rfl,k⟩
namespace Pl
def Yef (p:LPd) (s:LSt):RF:=if YZ p s=0 then canF (Yfs p 2 (Zy p s)) else zeroF
theorem Zwv {p:LPd} {s:LSt} (h:YZ p s≠0):Yef p s=zeroF:=if_neg h
theorem Zqr {p:LPd} {s:LSt} (h:YZ p s=0):Yef p s=canF (Yfs p 2 (Zy p s)):=if_pos h
end Pl
theorem Zsu [Old] (v1 v2:Value) (p:LPd) (s:LSt) (K:Nat) (w:World) (h:LpM w v1 p) (h2:StM w v2 s) (ok:p.Ok K) (hF:lpErr p=0→p.Ft K) (hbl:s.basis.length≤1099511627776) (hrg:∀z∈s.basis,-9223372036854775808≤z∧z≤9223372036854775807) (hOl:Zb w:=by (repeat (first | assumption | exact Zb.up (by assumption) hOl | exact Zb.up (Hid.out (by assumption)) hOl | with_reducible refine Zb.set ?_ _ _ | with_reducible refine Zb.mk_ ?_ _ | with_reducible refine Zb.dr ?_ | with_reducible refine Zb.drN ?_ | refine Zb.up (by assumption) ?_ | refine Zb.up (Hid.out (by assumption)) ?_))):
 Calls Tryz.prog 26 #[v1,v2] w fun o w'=>∃v',o= .returned (.tuple #[v',.int .i64 (YZ p s)])∧Zt w' v' (Yef p s)∧Below w.heap.size w w':=by
 have T:=hOl.le;obtain ⟨A,n,c,A',n',c',M,N,O,rfl,hc,hv,hr⟩:=id h;obtain ⟨Ab,nb,cb,rfl,hI⟩:=id h2;obtain ⟨W,hW,y,j⟩:=X9 w (.slice A n c) (.slice A' n' c') (.slice M N O);obtain ⟨W1,P,v,k⟩:=Xa W (.int .i64 s.phase) (.slice Ab nb cb) (.int .i64 s.pivots);obtain ⟨W2,R,B,t⟩:=Y7 W1 (.bool false) (.slice none 0 0) (.bool false) (.slice none 0 0);have hX:=(y.later k).later t;have b:=Za j k j.size;have g:=Za b t b.size;have E:W.heap.size=w.heap.size+1:=by rw [← hW];simp
 rw [E] at v;have F:=JZ h;have G:=JZ h2;have i:=JZ (⟨ok,hF,hbl,hrg⟩:p.Ok K∧(lpErr p=0→p.Ft K)∧s.basis.length≤1099511627776∧∀z∈s.basis,-9223372036854775808≤z∧z≤9223372036854775807);obtain ⟨x0,x1,x2⟩:=hX.three;obtain ⟨y0,y1,y2⟩:=(v.later t).three;have u:w.heap.size≤W1.heap.size:=b.size;clear b t h h2 hc hv hr hI y j k hX v ok hF hbl hrg;go_enter Tryz.func26,Tryz.ntmps26;go_wp2_with fail;clear hW P R;have S:=Zb.up g hOl;refine (Zdj _ _ p s K _ (F.out.below g) (G.out.below g) i.out.1 i.out.2.1 i.out.2.2.1 i.out.2.2.2).mono ?_;intro o w2 ho;obtain ⟨m,ho⟩:=ho;have d:=Za g m g.size;have a:=B.later m;clear B;generalize W1.heap.size=gr at *;clear g x0 x1 x2 y0 y1 y2;rcases ho with ⟨he,rfl⟩ | ⟨hz,he,rfl⟩ | ⟨hz,he,e,rfl,hE⟩
 ·have hS:YZ p s=lpErr p:=Zje he;have H:(lpErr p !=0)=true:=by simpa using he
  have HS:=JZ hS;have HE:Hid (YZ p s≠0):=JZ (by rw [hS];exact he);clear hS he m;generalize lpErr p=L at *;obtain ⟨c0,c1,c2,c3⟩:=a.four;obtain ⟨f0,f1,f2,f3⟩:=a.fourF;go_wp2;refine YR Tryz.results26 Tryz.underlying48 (by kernel_rfl) rfl (a.set4 _ _ _ _) rfl ?_;exact ⟨_,by rw [HS.out];rfl,by rw [Zwv HE.out];exact Zt.zero _,ZE d u _ _ _ _⟩
 ·have hS:YZ p s=vsErr p s:=WX hz;have H:(vsErr p s !=0)=true:=by simpa using he
  have HS:=JZ hS;have HE:Hid (YZ p s≠0):=JZ (by rw [hS];exact he);clear hS he hz m;generalize vsErr p s=L at *;obtain ⟨c0,c1,c2,c3⟩:=a.four;obtain ⟨f0,f1,f2,f3⟩:=a.fourF;go_wp2;refine YR Tryz.results26 Tryz.underlying48 (by kernel_rfl) rfl (a.set4 _ _ _ _) rfl ?_;exact ⟨_,by rw [HS.out];rfl,by rw [Zwv HE.out];exact Zt.zero _,ZE d u _ _ _ _⟩
 ·have HS:Hid (YZ p s=0):=JZ (by rw [WX hz];exact he);have HV:=JZ (Zwk he);have I:=JZ (i.out.2.1 hz);have J:=JZ hE.r;clear hz he m hE;go_wp2_with fail;refine (Zwt e p (Zy p s) K _ J.out I.out (Ydz HV.out.settle.fit)).mono ?_;rintro _ w3 ⟨v3,rfl,e3,D⟩;obtain ⟨C,l,f,C',l',f',rfl,_,_⟩:=id e3;have x:=Za d D d.size;have q:=a.later D;obtain ⟨c0,c1,c2,c3⟩:=q.four;obtain ⟨f0,f1,f2,f3⟩:=q.fourF;clear a;go_wp2;refine YR Tryz.results26 Tryz.underlying48 (by kernel_rfl) rfl (q.set4 _ _ _ _) rfl ?_;exact ⟨_,by rw [HS.out];rfl,by rw [Zqr HS.out];exact e3.keep (q.keep4 (by decide) _ _ _ _),ZE x u _ _ _ _⟩
namespace Pl
def stL (m k:Nat):List Int:=(List.range m).map fun i:Nat=>if i < k then -1 - (i:Int) else 0
theorem Zhd {m k:Nat}:(stL m k).length=m:=by simp [stL]
theorem Zzv {m:Nat}:stL m 0=List.replicate m 0:=by simp [stL,List.map_const']
theorem Zzw {m k:Nat}:(stL m k).set k (-1 - (k:Int))=stL m (k+1):=by
 refine List.ext_getElem (by simp [stL]) fun i h1 h2=>?_
 simp only [stL,List.getElem_set,List.getElem_map,List.getElem_range];by_cases e:k=i
 ·subst e;simp
 ·rw [if_neg e];by_cases g:i < k
  ·rw [if_pos g,if_pos (by omega)]
  ·rw [if_neg g,if_neg (by omega)]
theorem Yea {m:Nat}:stL m m=Ziu m:=by
 unfold stL Ziu;exact List.map_congr_left fun i hi=>by rw [if_pos (List.mem_range.1 hi)]
def Zoj (p:LPd):LSt:=if lpErr p=0 then Zy p (Yx p) else ⟨0,[],0⟩
theorem Zjf {p:LPd} (h:lpErr p≠0):Zoj p=⟨0,[],0⟩:=if_neg h
theorem Zbj {p:LPd} (h:lpErr p=0):Zoj p=Zy p (Yx p):=if_pos h
end Pl
theorem Zhe [Old] (v1:Value) (p:LPd) (K:Nat) (w:World) (h:LpM w v1 p) (ok:p.Ok K) (hF:lpErr p=0→p.Ft K) (hOl:Zb w:=by (repeat (first | assumption | exact Zb.up (by assumption) hOl | exact Zb.up (Hid.out (by assumption)) hOl | with_reducible refine Zb.set ?_ _ _ | with_reducible refine Zb.mk_ ?_ _ | with_reducible refine Zb.dr ?_ | with_reducible refine Zb.drN ?_ | refine Zb.up (by assumption) ?_ | refine Zb.up (Hid.out (by assumption)) ?_))):
 Calls Tryz.prog 16 #[v1] w fun o w'=>∃v',o= .returned (.tuple #[v',.int .i64 (lpErr p)])∧StO w.heap.size w' v' (Zoj p)∧Below w.heap.size w w':=by
 have an:=hOl.le;obtain ⟨A,n,c,A',n',c',a0,m,a1,rfl,hc,hv,hr⟩:=id h;obtain ⟨W,hW,a2,i⟩:=X9 w (.slice A n c) (.slice A' n' c') (.slice a0 m a1);obtain ⟨W1,ai,a3,r⟩:=Xa W (.int .i64 0) (.slice none 0 0) (.int .i64 0);have hX:=a2.later r;have a:=Za i r i.size;obtain ⟨r1,r2,r3⟩:=hr.len;have J:=JZ h;have u:=JZ (⟨ok,hF⟩:p.Ok K∧(lpErr p=0→p.Ft K));have HM:=JZ r1;obtain ⟨x0,x1,x2⟩:=hX.three;have j:w.heap.size≤W.heap.size:=i.size;clear h hc hv hr r1 a2 i r ok hF;go_enter Tryz.func16,Tryz.ntmps16;go_wp2_with fail;clear hW ai;refine (Ua _ p K _ (J.out.below a) u.out.1).mono ?_;rintro _ w3 ⟨rfl,C⟩;have v:=hX.later C;have d:=a3.later C;have b:=Za a C a.size;have a7:W.heap.size < w3.heap.size:=d.lt_;generalize W.heap.size=gr at *;clear x0 x1 x2 hX a3 a C;by_cases hz:lpErr p=0
 ·rw [hz];have HZ:=JZ hz;have M:=JZ (u.out.2 hz);have hm:m≤7:=by rw [HM.out];exact M.out.2.1
  have a8:Hid (vsErr p (Yx p)=0):=JZ (Zfh p).vs;have ao:=Zfc m (by omega);have F:=ZI.zeros w3 m (by unfold maxLen;omega);have l:=Zc w3 (.cells (zic m) 3);obtain ⟨W4,a4⟩:∃W4,w3.alloc (.cells (zic m) 3)=W4:=⟨_,rfl⟩;rw [a4] at F l;obtain ⟨W5,aj,s,t⟩:=Xa W4 (.int .i64 1) (.slice (some ⟨w3.heap.size,0,none⟩) m m) (.int .i64 0);have f:=Za b l b.size;have D:=Za f t f.size;have N:=(v.later l).later t;have O:=(d.later l).later t;have G:=(F.below t).monoB b.size;rw [← Zzv] at G;obtain ⟨x0,x1,x2⟩:=v.three;obtain ⟨y0,y1,y2⟩:=s.three;obtain ⟨f0,f1,f2⟩:=s.threeF;have a9:w.heap.size≤w3.heap.size:=b.size;have aa:w.heap.size≤W4.heap.size:=f.size;have al:w3.heap.size≤W4.heap.size:=l.size;clear hz F l t f v d b;go_wp2;clear a4 aj x0 x1 x2 y0 y1 y2 f0 f1 f2;generalize W4.heap.size=gs at *;generalize w3.heap.size=gz at *;have kk:=Ze.setCell s 2 (.int .i64 0);have P:=s.set_ 2 (.int .i64 0);have E:=D.setCell (p:=⟨gs,2,none⟩) aa (.int .i64 0);have R:=N.set_other (g:=gs) (by omega) 2 (.int .i64 0);have S:=O.set_other (g:=gs) (by omega) 2 (.int .i64 0);have T:=G.but kk (by decide);clear N O G D kk s;generalize W5.setCell ⟨gs,2,none⟩ (.int .i64 0)=W6 at *
  go_loopw [23] (fun x wr=>∃k:Nat,k≤m∧x= .int .i64 k∧Below w.heap.size w wr∧Bk wr w.heap.size 26 [.slice A n c,.slice A' n' c',.slice a0 m a1]∧Bk wr gr 29 [.int .i64 0,.slice none 0 0,.int .i64 0]∧Bk wr gs 29 [.int .i64 1,.slice (some ⟨gz,0,none⟩) m m,.int .i64 0]∧ZI w.heap.size wr (.slice (some ⟨gz,0,none⟩) m m) (stL m k)) (fun x _=>m - (intOf x).toNat)
  case atStart=>exact ⟨0,by omega,rfl,E,R,S,P,T⟩
  case round=>
   clear E R S P T;obtain ⟨k,hk,rfl,a,hX,hR,hS,hO⟩:=hrel;obtain ⟨y0,y1,y2⟩:=hS.three;rcases JX k m with hkl | hkl
   ·have ap:(k:Int) < m:=(by omega);have U: -9223372036854775808≤(-1 - (k:Int))∧(-1 - (k:Int))≤9223372036854775807:=(by omega);obtain ⟨t0,t1,-,-⟩:=hO.at_ (JQ (show k < (stL m k).length by rw [Zhd];exact hkl));obtain ⟨a5,B⟩:=hO.set_ (k:=k) (by rw [Zhd];exact hkl) U.1 U.2;rw [Zzw] at a5;have ab:=B.bk hX (by decide);have ac:=B.bk hR (by decide);have ad:=B.bk hS (by decide);have V:=a.setCell (p:=⟨gz,k,none⟩) a9 (.int .i64 (-1 - (k:Int)));clear hX hR hS hO a B;go_wp2;go_roundw
    case rel=>exact ⟨k+1,by omega,by go_num,V,ab,ac,ad,a5⟩
    case measure=>simp [intOf];omega
   ·obtain rfl:m=k:=by omega
    rw [Yea] at hO;have X:StM wr (.agg #[.int .i64 1,.slice (some ⟨gz,0,none⟩) m m,.int .i64 0]) (Yx p):=⟨_,_,_,rfl,by show X6 _ _ (Ziu p.right.length);rw [← HM.out];exact hO.ints⟩;have ae:=JZ X;have af:Hid (∀z∈(Yx p).basis,-9223372036854775808≤z∧z≤9223372036854775807):=JZ (by show ∀z∈Ziu p.right.length,_;rw [← HM.out];exact hO.2);obtain ⟨x0,x1,x2⟩:=hX.three;clear X hkl hk;go_wp2_with fail;have am:=Zb.up a hOl;refine (Zdj _ _ p (Yx p) K _ (J.out.below a) ae.out u.out.1 u.out.2 (by show (Ziu p.right.length).length≤_;rw [VH,← HM.out];omega) af.out).mono ?_;rintro o w8 ⟨I,ho⟩;rcases ho with ⟨he,-⟩ | ⟨-,he,-⟩ | ⟨-,-,e,rfl,hE⟩
    ·exact absurd HZ.out he
    ·exact absurd a8.out he
    ·have q:=Za a I a.size;have Y:=hR.later I;have HE:=JZ hE;clear hE hX hR hS hO x0 x1 x2 y0 y1 y2 I a;go_wp2_with fail;refine (Zbi _ e p (Zy p (Yx p)) K _ HE.out M.out (Zfh p).settle.fit).mono ?_;rintro _ w9 ⟨v9,rfl,e9,a6⟩;obtain ⟨A9,n9,c9,rfl,ak⟩:=e9;have Z:=Za q a6 q.size;have y:=Y.later a6;obtain ⟨c0,c1,c2⟩:=y.three;obtain ⟨f0,f1,f2⟩:=y.threeF;have HS:=JZ (Zbj HZ.out);clear Y;have k0:=Ze.setCell y 0 (.int .i64 (Zy p (Yx p)).phase);have g0:=y.set_ 0 (.int .i64 (Zy p (Yx p)).phase);have k1:=Ze.setCell g0 1 (.slice A9 n9 c9);have g1:=g0.set_ 1 (.slice A9 n9 c9);have k2:=Ze.setCell g1 2 (.int .i64 (Zy p (Yx p)).pivots);have g2:=g1.set_ 2 (.int .i64 (Zy p (Yx p)).pivots);have ag:=ak.but ((k0.trans k1).trans k2) (by decide);have H:=((Z.setCell (p:=⟨gr,0,none⟩) j (.int .i64 (Zy p (Yx p)).phase)).setCell (p:=⟨gr,1,none⟩) j (.slice A9 n9 c9)).setCell (p:=⟨gr,2,none⟩) j (.int .i64 (Zy p (Yx p)).pivots);go_wp2;refine YR Tryz.results16 Tryz.underlying29 (by kernel_rfl) rfl g2 rfl ?_;exact ⟨_,by rw [HZ.out];rfl,by rw [HS.out];exact ⟨A9,n9,c9,rfl,ag.monoB q.size⟩,H⟩
 ·have ah:(lpErr p !=0)=true:=by simpa using hz
  have HS:=JZ (Zjf hz);obtain ⟨c0,c1,c2⟩:=d.three;obtain ⟨f0,f1,f2⟩:=d.threeF;clear hz v a7 HM;obtain ⟨L,hL⟩:∃L,lpErr p=L:=⟨_,rfl⟩;have HL:=JZ hL;rw [hL] at ah ⊢;clear hL;have k0:=Ze.setCell d 0 (.int .i64 0);have g0:=d.set_ 0 (.int .i64 0);have g1:=g0.set_ 1 (.slice none 0 0);have g2:=g1.set_ 2 (.int .i64 0);have H:=((b.setCell (p:=⟨gr,0,none⟩) j (.int .i64 0)).setCell (p:=⟨gr,1,none⟩) j (.slice none 0 0)).setCell (p:=⟨gr,2,none⟩) j (.int .i64 0);go_wp2;refine YR Tryz.results16 Tryz.underlying29 (by kernel_rfl) rfl g2 rfl ?_;exact ⟨_,by rw [HL.out];rfl,by rw [HS.out];exact ⟨none,0,0,rfl,ZI.nil _ _⟩,H⟩
namespace Pl
def Zsv (p:LPd) (s:LSt) (N:Nat):LSt:=if YZ p s=0 then Zgz p N (Zy p s) else ⟨0,[],0⟩
theorem Zqs {p:LPd} {s:LSt} {N:Nat} (h:YZ p s≠0):Zsv p s N=⟨0,[],0⟩:=if_neg h
theorem Zbk {p:LPd} {s:LSt} {N:Nat} (h:YZ p s=0):Zsv p s N=Zgz p N (Zy p s):=if_pos h
end Pl
theorem Zzx [Old] (v1 v2:Value) (p:LPd) (s:LSt) (K:Nat) (w:World) (h:LpM w v1 p) (h2:StM w v2 s) (ok:p.Ok K) (hF:lpErr p=0→p.Ft K) (hbl:s.basis.length≤1099511627776) (hrg:∀z∈s.basis,-9223372036854775808≤z∧z≤9223372036854775807) (N:Nat) (hN:N≤9223372036854775807) (hpv:YZ p s=0→s.pivots+N≤9223372036854775807) (hOl:Zb w:=by (repeat (first | assumption | exact Zb.up (by assumption) hOl | exact Zb.up (Hid.out (by assumption)) hOl | with_reducible refine Zb.set ?_ _ _ | with_reducible refine Zb.mk_ ?_ _ | with_reducible refine Zb.dr ?_ | with_reducible refine Zb.drN ?_ | refine Zb.up (by assumption) ?_ | refine Zb.up (Hid.out (by assumption)) ?_))):
 Calls Tryz.prog 18 #[v1,v2,.int .i64 (N:Int)] w fun o w'=>∃v',o= .returned (.tuple #[v',.int .i64 (YZ p s)])∧StO w.heap.size w' v' (Zsv p s N)∧Below w.heap.size w w':=by
 have az:=hOl.le;have ad:=JZ hpv;clear hpv;obtain ⟨A,n,c,A',n',c',aq,ar,au,rfl,hc,hv,hr⟩:=id h;obtain ⟨Ab,nb,cb,rfl,hI⟩:=id h2;obtain ⟨W,hW,a9,J⟩:=X9 w (.slice A n c) (.slice A' n' c') (.slice aq ar au);obtain ⟨W1,av,a1,M⟩:=Xa W (.int .i64 s.phase) (.slice Ab nb cb) (.int .i64 s.pivots);obtain ⟨W2,aw,aa,U⟩:=Xa W1 (.int .i64 0) (.slice none 0 0) (.int .i64 0);have hX:=(a9.later M).later U;have v:=Za J M J.size;have m:=Za v U v.size;have ae:W.heap.size=w.heap.size+1:=by rw [← hW];simp
 rw [ae] at a1;have af:=JZ h;have ag:=JZ h2;have D:=JZ (⟨ok,hF,hbl,hrg⟩:p.Ok K∧(lpErr p=0→p.Ft K)∧s.basis.length≤1099511627776∧∀z∈s.basis,-9223372036854775808≤z∧z≤9223372036854775807);obtain ⟨x0,x1,x2⟩:=hX.three;obtain ⟨y0,y1,y2⟩:=(a1.later U).three;have a:w.heap.size≤W1.heap.size:=v.size;have b0:0≤(N:Int):=by omega
 clear v U h h2 hc hv hr hI a9 J M hX a1 ok hF hbl hrg;go_enter Tryz.func18,Tryz.ntmps18;go_wp2_with fail;clear hW av aw;have E:=Zb.up m hOl;refine (Zdj _ _ p s K _ (af.out.below m) (ag.out.below m) D.out.1 D.out.2.1 D.out.2.2.1 D.out.2.2.2).mono ?_;intro o w2 ho;obtain ⟨B,ho⟩:=ho;have X:=Za m B m.size;have y:=JZ m;have F:=JZ aa;clear m aa x0 x1 x2 y0 y1 y2;generalize W1.heap.size=gr at *;rcases ho with ⟨he,rfl⟩ | ⟨hz,he,rfl⟩ | ⟨hz,he,e,rfl,hE⟩
 ·have hS:YZ p s=lpErr p:=Zje he;have ah:(lpErr p !=0)=true:=by simpa using he
  have HS:=JZ hS;have HE:Hid (YZ p s≠0):=JZ (by rw [hS];exact he);have Y:=JZ B;clear hS he B;generalize lpErr p=L at *;have q:=F.out.later Y.out;obtain ⟨c0,c1,c2⟩:=q.three;obtain ⟨f0,f1,f2⟩:=q.threeF;have g0:=q.set_ 0 (.int .i64 0);have g1:=g0.set_ 1 (.slice none 0 0);have g2:=g1.set_ 2 (.int .i64 0);have g:=((X.setCell (p:=⟨gr,0,none⟩) a (.int .i64 0)).setCell (p:=⟨gr,1,none⟩) a (.slice none 0 0)).setCell (p:=⟨gr,2,none⟩) a (.int .i64 0);go_wp2;refine YR Tryz.results18 Tryz.underlying29 (by kernel_rfl) rfl g2 rfl ?_;exact ⟨_,by rw [HS.out];rfl,by rw [Zqs HE.out];exact ⟨none,0,0,rfl,ZI.nil _ _⟩,g⟩
 ·have hS:YZ p s=vsErr p s:=WX hz;have ah:(vsErr p s !=0)=true:=by simpa using he
  have HS:=JZ hS;have HE:Hid (YZ p s≠0):=JZ (by rw [hS];exact he);have Y:=JZ B;clear hS he hz B;generalize vsErr p s=L at *;have q:=F.out.later Y.out;obtain ⟨c0,c1,c2⟩:=q.three;obtain ⟨f0,f1,f2⟩:=q.threeF;have g0:=q.set_ 0 (.int .i64 0);have g1:=g0.set_ 1 (.slice none 0 0);have g2:=g1.set_ 2 (.int .i64 0);have g:=((X.setCell (p:=⟨gr,0,none⟩) a (.int .i64 0)).setCell (p:=⟨gr,1,none⟩) a (.slice none 0 0)).setCell (p:=⟨gr,2,none⟩) a (.int .i64 0);go_wp2;refine YR Tryz.results18 Tryz.underlying29 (by kernel_rfl) rfl g2 rfl ?_;exact ⟨_,by rw [HS.out];rfl,by rw [Zqs HE.out];exact ⟨none,0,0,rfl,ZI.nil _ _⟩,g⟩
 ·have HS:Hid (YZ p s=0):=JZ (by rw [WX hz];exact he);have HV:=JZ (Zwk he);have G:=JZ (D.out.2.1 hz);have ai:=JZ hE.r;have HZ:=JZ hz;have a3:=JZ hE;have aj:=JZ (ad.out HS.out);have R:Hid (Zy p s=Zy p s):=JZ rfl;have a4:=JZ HV.out.settle;have Z:Hid ((Zy p s).pivots=s.pivots∧0≤s.pivots):=JZ ⟨rfl,HV.out.pv⟩;obtain ⟨t0,a2⟩:∃t0,t0=Zy p s:=⟨_,rfl⟩;replace R:Hid (Zy p s=t0):=JZ a2.symm;rw [← a2] at a3 a4 Z;clear hz he B hE ai a2;go_wp2
  go_loopw [27] (fun x wr=>∃(n:Nat) (t:LSt),n≤N∧x= .int .i64 n∧Zly W2 wr e p t K∧Val p t∧Zgz p (N - n) t=Zgz p N t0∧0≤t.pivots∧t.pivots≤s.pivots+n) (fun x _=>N - (intOf x).toNat)
  case atStart=>exact ⟨0,t0,by omega,rfl,a3.out,a4.out,rfl,by have:=Z.out;omega,by have:=Z.out;omega⟩
  case round=>
   obtain ⟨n,t,hn,rfl,hE,ab,ac,ax,b4⟩:=hrel;have u:=JZ ab;have S:=JZ ac;clear ab ac;have b1:=Zb.up hE.bel E;rcases JX n N with hnl | hnl
   ·have a5:(n:Int) < N:=(by omega);have ak:=JZ hE;go_wp2_with fail;refine (Zfk e p t K _ hE.r u.out.fit G.out HZ.out u.out.ph).mono ?_;rintro _ w5 ⟨v5,rfl,e5,P⟩;obtain ⟨Ad,nd,cd,rfl⟩:=e5.sliceN;have T:=hE.below P;by_cases hq:WL p t=0
    ·obtain ⟨j,ay,hj,hJ,hD⟩:=Zwe hq;rw [hq,hJ];rw [hD] at e5;have al:=JZ hq;have a6:=JZ hD;have am:=JZ hJ;have a7:t.pivots+1≤9223372036854775807:=(by have:=aj.out;omega);clear hq hJ ay hD T;go_wp2_with fail;refine (Zws W2 _ e p t K j _ _ ak.out P e5 hj u.out.fit G.out HZ.out ax a7).mono ?_;rintro o6 w6 (⟨i,hl,rfl,C⟩ | ⟨hl,rfl,C⟩)
     ·have a8:Vk p t (zL p t) (Zce p t)=some i:=(by rw [a6.out];exact hl);obtain ⟨t',V⟩:∃t',t'=Zy p (Zlv t i (j:Int)):=⟨_,rfl⟩;rw [← V] at C;have a0:Zsr p t=some t':=(by rw [Ybb al.out a8,am.out,V];rfl);have an:Val p t':=Zqn u.out a0;have ao:Zgz p (N - (n+1)) t'=Zgz p N t0:=by
       rw [← S.out,show N - n=(N - (n+1))+1 by omega,Zlt a0]
      have b2:t'.pivots=t.pivots+1:=(by rw [V];rfl);clear hE e5 hl a8 P V a0;go_wp2;go_roundw
      case rel=>exact ⟨n+1,t',by omega,by go_num,C,an,ao,by omega,by omega⟩
      case measure=>simp [intOf];omega
     ·have H:Hid (Zgz p N t0=t):=JZ (by rw [← S.out];exact Zff (Yba (by rw [a6.out];exact hl)) _);have d:=JZ C;have ap:=Zb.up C.bel E;clear hE e5 hl P C hn hnl a5;go_wp2_with fail;refine (Zbi _ e p t K _ d.out G.out u.out.fit).mono ?_;rintro _ w9 ⟨v9,rfl,e9,l⟩;obtain ⟨A9,n9,c9,rfl,O⟩:=e9;have f:=Za y.out d.out.bel y.out.size;have k:=Za f l f.size;have b:=(F.out.later d.out.bel).later l;obtain ⟨c0,c1,c2⟩:=b.three;obtain ⟨f0,f1,f2⟩:=b.threeF;have k0:=Ze.setCell b 0 (.int .i64 t.phase);have g0:=b.set_ 0 (.int .i64 t.phase);have k1:=Ze.setCell g0 1 (.slice A9 n9 c9);have g1:=g0.set_ 1 (.slice A9 n9 c9);have k2:=Ze.setCell g1 2 (.int .i64 t.pivots);have g2:=g1.set_ 2 (.int .i64 t.pivots);have I:=O.but ((k0.trans k1).trans k2) (by decide);have g:=((k.setCell (p:=⟨gr,0,none⟩) a (.int .i64 t.phase)).setCell (p:=⟨gr,1,none⟩) a (.slice A9 n9 c9)).setCell (p:=⟨gr,2,none⟩) a (.int .i64 t.pivots);go_wp2;refine YR Tryz.results18 Tryz.underlying29 (by kernel_rfl) rfl g2 rfl ?_;exact ⟨_,by rw [HS.out];rfl,by rw [Zbk HS.out,R.out,H.out];exact ⟨A9,n9,c9,rfl,I.monoB f.size⟩,g⟩
    ·have H:Hid (Zgz p N t0=t):=JZ (by rw [← S.out];exact Zff (Yaz hq) _);have b3:(WL p t !=0)=true:=(by simpa using hq);have d:=JZ T;have ap:=Zb.up T.bel E;clear hE e5 P T hn hnl a5 hq;go_wp2_with fail;refine (Zbi _ e p t K _ d.out G.out u.out.fit).mono ?_;rintro _ w9 ⟨v9,rfl,e9,l⟩;obtain ⟨A9,n9,c9,rfl,O⟩:=e9;have f:=Za y.out d.out.bel y.out.size;have k:=Za f l f.size;have b:=(F.out.later d.out.bel).later l;obtain ⟨c0,c1,c2⟩:=b.three;obtain ⟨f0,f1,f2⟩:=b.threeF;have k0:=Ze.setCell b 0 (.int .i64 t.phase);have g0:=b.set_ 0 (.int .i64 t.phase);have k1:=Ze.setCell g0 1 (.slice A9 n9 c9);have g1:=g0.set_ 1 (.slice A9 n9 c9);have k2:=Ze.setCell g1 2 (.int .i64 t.pivots);have g2:=g1.set_ 2 (.int .i64 t.pivots);have I:=O.but ((k0.trans k1).trans k2) (by decide);have g:=((k.setCell (p:=⟨gr,0,none⟩) a (.int .i64 t.phase)).setCell (p:=⟨gr,1,none⟩) a (.slice A9 n9 c9)).setCell (p:=⟨gr,2,none⟩) a (.int .i64 t.pivots);go_wp2;refine YR Tryz.results18 Tryz.underlying29 (by kernel_rfl) rfl g2 rfl ?_;exact ⟨_,by rw [HS.out];rfl,by rw [Zbk HS.out,R.out,H.out];exact ⟨A9,n9,c9,rfl,I.monoB f.size⟩,g⟩
   ·obtain rfl:N=n:=by omega
    have H:Hid (Zgz p N t0=t):=JZ (by rw [← S.out,Nat.sub_self];rfl);have d:=JZ hE;clear hE hn hnl;go_wp2_with fail;refine (Zbi _ e p t K _ d.out G.out u.out.fit).mono ?_;rintro _ w9 ⟨v9,rfl,e9,l⟩;obtain ⟨A9,n9,c9,rfl,O⟩:=e9;have f:=Za y.out d.out.bel y.out.size;have k:=Za f l f.size;have b:=(F.out.later d.out.bel).later l;obtain ⟨c0,c1,c2⟩:=b.three;obtain ⟨f0,f1,f2⟩:=b.threeF;have k0:=Ze.setCell b 0 (.int .i64 t.phase);have g0:=b.set_ 0 (.int .i64 t.phase);have k1:=Ze.setCell g0 1 (.slice A9 n9 c9);have g1:=g0.set_ 1 (.slice A9 n9 c9);have k2:=Ze.setCell g1 2 (.int .i64 t.pivots);have g2:=g1.set_ 2 (.int .i64 t.pivots);have I:=O.but ((k0.trans k1).trans k2) (by decide);have g:=((k.setCell (p:=⟨gr,0,none⟩) a (.int .i64 t.phase)).setCell (p:=⟨gr,1,none⟩) a (.slice A9 n9 c9)).setCell (p:=⟨gr,2,none⟩) a (.int .i64 t.pivots);go_wp2;refine YR Tryz.results18 Tryz.underlying29 (by kernel_rfl) rfl g2 rfl ?_;exact ⟨_,by rw [HS.out];rfl,by rw [Zbk HS.out,R.out,H.out];exact ⟨A9,n9,c9,rfl,I.monoB f.size⟩,g⟩
theorem Zjg [Old] (v1 v2:Value) (s:LSt) (w:World) (h:StM w v1 s) (h2:StM w v2 s) (hl:s.basis.length≤1099511627776) (hOl:Zb w:=by (repeat (first | assumption | exact Zb.up (by assumption) hOl | exact Zb.up (Hid.out (by assumption)) hOl | with_reducible refine Zb.set ?_ _ _ | with_reducible refine Zb.mk_ ?_ _ | with_reducible refine Zb.dr ?_ | with_reducible refine Zb.drN ?_ | refine Zb.up (by assumption) ?_ | refine Zb.up (Hid.out (by assumption)) ?_))):
 Calls Tryz.prog 22 #[v1,v2] w fun o w'=>o= .returned (.bool true)∧Below w.heap.size w w':=by
 have u:=hOl.le;obtain ⟨A,n,c,rfl,hI⟩:=id h;obtain ⟨B,n',d,rfl,hJ⟩:=id h2;obtain ⟨b1,b2,b3⟩:=hI.len;obtain ⟨d1,d2,d3⟩:=hJ.len;have p:n'=n:=by omega
 subst p;obtain ⟨W,hW,j,a⟩:=Xa w (.int .i64 s.phase) (.slice A n' c) (.int .i64 s.pivots);obtain ⟨W1,r,i,b⟩:=Xa W (.int .i64 s.phase) (.slice B n' d) (.int .i64 s.pivots);have hX:=j.later b;have g:=Za a b a.size;have HX:=JZ hX;have HY:=JZ i;have HI:=JZ (hI.below g);have HJ:=JZ (hJ.below g);have HN:=JZ b1;obtain ⟨x0,x1,x2⟩:=hX.three;obtain ⟨y0,y1,y2⟩:=i.three;have hn:n'≤1099511627776:=by omega
 clear h h2 hI hJ j a b hX i b1 d1 hl;go_enter Tryz.func22,Tryz.ntmps22;go_wp2;clear hW r
 go_loopw [5] (fun x wr=>∃k:Nat,k≤n'∧x= .int .i64 k∧Below W1.heap.size W1 wr) (fun x _=>n' - (intOf x).toNat)
 case atStart=>exact ⟨0,by omega,rfl,JR _ _⟩
 case round=>
  obtain ⟨k,hk,rfl,hb⟩:=hrel;clear x0 x1 x2 y0 y1 y2;obtain ⟨x0,x1,x2⟩:=(HX.out.later hb).three;obtain ⟨y0,y1,y2⟩:=(HY.out.later hb).three;rcases JX k n' with hkl | hkl
  ·have y:(k:Int) < n':=(by omega);obtain ⟨bb,ob,z,hA,z0,l,z1,z2⟩:=HI.out.at_ hkl;obtain ⟨bc,oc,z',hB,m,f,-,-⟩:=HJ.out.at_ hkl;obtain rfl:z'=z:=by rw [l] at f;injection f with e;exact e.symm
   subst hA hB;have q0:=Zg hb z0;have q1:=Zg hb m;clear l f z0 m
   go_upto_region 6 with (fail)
   have C0:=Zm x1;have C1:=Zm y1;have C2:=Zm q0;have C3:=Zm q1;clear x0 x1 x2 y0 y1 y2 q0 q1;refine Zp 11 [0,1,2,3,4,5,6,7,8,9,10] (by kernel_rfl) (by kernel_rfl) ?_;repeat ((first | (refine Zd (v:=?_) rfl rfl rfl ?_ ?_;rotate_left;(· (intro _ t;go_simp;(try go_bits);(try with_reducible rfl)))) | (refine Zj (v:=?_) rfl rfl rfl ?_ ?_;rotate_left;(· (intro _ t;go_simp;(try go_bits);(try with_reducible rfl)))) | refine Zk rfl rfl rfl ?_);(try simp only [Act.put,pu1,pu2,pu3,pu4,pu5,pu6]))
   refine Zx ?_;have q:=hb.drew;clear C0 C1 C2 C3 hb;go_wp2;go_roundw
   case rel=>exact ⟨k+1,by omega,by go_num,q⟩
   case measure=>simp [intOf];omega
  ·obtain rfl:n'=k:=by omega
   go_wp2;go_ret;exact ⟨rfl,Za g hb g.size⟩
namespace Pl
theorem Yfx {m:Nat} (h:m≤3):5^m * 32≤4000:=by
 have:m=0∨m=1∨m=2∨m=3:=by omega
 rcases this with rfl | rfl | rfl | rfl <;> decide
theorem Ycs.ft {p:LPd} (hok:Ycs p) (hr:RsL 32 p.right):p.Ft 32:=by
 have h1:=hok.2.1;have h2:=hok.2.2.1;have h3:=Yfx h1;exact ⟨⟨hok.ok (by decide) hr,(Wq hok.err).2.2.2.1,by omega,hok.2.2.2.1,by omega,by decide,by omega⟩,by omega,by omega⟩
def knP:LPd:=⟨[canF (-1),canF 0],[[⟨0,canF 1⟩],[⟨0,canF 1⟩]],[canF 4]⟩
theorem ke_err:lpErr knP=0:=by decide+kernel
theorem ke_start:(Zy knP (Yx knP)).phase=1∧(Zy knP (Yx knP)).basis=[-1]∧(Zy knP (Yx knP)).pivots=0:=by decide+kernel
theorem ke_run:(Zgz knP 1 ⟨1,[-1],0⟩).phase=2∧(Zgz knP 1 ⟨1,[-1],0⟩).basis=[0]∧(Zgz knP 1 ⟨1,[-1],0⟩).pivots=1:=by decide+kernel
theorem ke_set:(Zy knP ⟨2,[0],1⟩).phase=2:=by decide+kernel
theorem ke_stat:WL knP ⟨2,[0],1⟩=1∧Zcd knP ⟨2,[0],1⟩= -1:=by decide+kernel
theorem ke_val:Yfs knP 2 ⟨2,[0],1⟩= -4:=by decide+kernel
theorem ke_ok:Ycs knP:=by
 have e1:RsL 1 knP.cost:=((RsL.nil 1).snoc (Sz.rs (Zps (z:= -1) (by decide) (by decide)))).snoc (Sz.rs (Zps (z:=0) (by decide) (by decide)));have c1:Zbw 1 ([]++[⟨((0:Nat):Int),canF ((1:Int):Rat)⟩]):=Zbw.nil.snoc (by decide) (by decide) (by decide);exact ⟨by decide,by decide,by decide,rfl,e1,Zky (cols:=[[⟨0,canF 1⟩]]) (Zky (cols:=[]) (fun j c h=>by simp at h) c1) c1⟩
theorem ke_rs:RsL 32 knP.right:=((RsL.nil 1).snoc (Sz.rs (Zps (z:=4) (by decide) (by decide)))).mono (by decide)
theorem ke_ft:knP.Ft 32:=ke_ok.ft ke_rs
theorem Zww {s:LSt} {a:Int} {b:List Int} {c:Int} (h:s.phase=a∧s.basis=b∧s.pivots=c):s=⟨a,b,c⟩:=by cases s;obtain ⟨rfl,rfl,rfl⟩:=h;rfl
theorem ke_s:Zy knP (Yx knP)=⟨1,[-1],0⟩:=Zww ke_start
theorem ke_t:Zgz knP 1 ⟨1,[-1],0⟩=⟨2,[0],1⟩:=Zww ke_run
theorem ke_st:Zy knP ⟨2,[0],1⟩=⟨2,[0],1⟩:=Zww ⟨ke_set,rfl,rfl⟩
theorem ke_v1:Val knP ⟨1,[-1],0⟩:=by rw [← ke_s];exact (Zfh knP).settle
theorem ke_v2:Val knP ⟨2,[0],1⟩:=by rw [← ke_t];exact Zqo ke_v1
theorem ke_e1:YZ knP ⟨1,[-1],0⟩=0:=by rw [WX ke_err];exact ke_v1.vs
theorem ke_e2:YZ knP ⟨2,[0],1⟩=0:=by rw [WX ke_err];exact ke_v2.vs
theorem ke_ru:Zsv knP ⟨1,[-1],0⟩ 1=⟨2,[0],1⟩:=by rw [Zbk ke_e1,← ke_s,settle_twice,ke_s,ke_t]
theorem ke_sm:Ydy knP ⟨2,[0],1⟩=(1,-1):=by rw [Zqq ke_e2,ke_st,ke_stat.1,ke_stat.2]
theorem ke_va:Yef knP ⟨2,[0],1⟩=canF (-4):=by rw [Zqr ke_e2,ke_st,ke_val]
end Pl
section
section
variable {P:Program} {ops:Array Oper} {Q:Exit→Act→World→Prop} {S:World→Prop} {n:Nat}
def Zbl (a:Act) (l:List (Nat × Nat)) (s:Nat→Value):Act:=l.foldl (fun a x=>a.put (some x.2) (s x.1)) a
def Zsw (s:Nat→Value) (i:Nat) (v:Value):Nat→Value:=fun k=>if k=i then v else s k
def Grow (P:Program) (ops:Array Oper) (Q:Exit→Act→World→Prop) (S:World→Prop) (n:Nat) (l:List (Nat × Nat)) (a:Act) (U:World) (Good:Nat→World→Value→Prop) (i:Nat):Prop:=
 ∀s w,(∀k∈l.map (·.1),Yee ops i k=true→Good k w (s k))→Below U.heap.size U w→YQ P ops Q S n i (fun a' w'=>Below w.heap.size w w'∧∃v,a'=Zbl a l (Zsw s i v)∧Good i w' v) (Zbl a l s) w
theorem Zwx {l:List (Nat × Nat)} {is:List Nat} {p:UK} {a:Act} {w:World} (U:World) (Good:Nat→World→Value→Prop) (s0:Nat→Value) (his:l.map (·.1)=is) (ha:a=Zbl a l s0) (hl:is.Nodup) (hU:Below U.heap.size U w)
 (hg:∀k w w' v,Good k w v→Below w.heap.size w w'→Good k w' v) (hs:∀i∈is,Grow P ops Q S n l a U Good i)
 (h1:∀s w,(∀k∈is,Good k w (s k))→Below U.heap.size U w→Yg P ops Q S n p (Zbl a l s) w):Yg P ops Q S n (.bag is p) a w:=by
 subst his;refine Zpy (fun D a' w=>∃s,a'=Zbl a l s∧Below U.heap.size U w∧∀k∈l.map (·.1),D k→Good k w (s k)) hl ⟨s0,ha,hU,fun _ _ h=>h.elim⟩ ?_ ?_
 ·rintro D a' w i oi hi hn ho hd ⟨s,rfl,hb,hG⟩;refine (hs i hi s w (fun k hk hb=>hG k hk ?_) hb).mono ?_
  ·unfold Yee at hb;rw [ho] at hb;simp only [Array.any_eq_true,Bool.and_eq_true,beq_iff_eq] at hb;obtain ⟨j,hj,h1,h2⟩:=hb;subst h2;exact hd _ (Array.getElem_mem hj) h1 hk
  ·rintro a' w' ⟨hw,v,rfl,hv⟩;refine ⟨_,rfl,Za hb hw hb.size,fun k hk hd=>?_⟩;unfold Zsw;by_cases e:k=i
   ·rw [if_pos e,e];exact hv
   ·rw [if_neg e];exact hg _ _ _ _ (hG k hk (hd.resolve_right e)) hw
 ·rintro D a' w hd ⟨s,rfl,hb,hG⟩;exact h1 s w (fun k hk=>hG k hk (hd k hk)) hb
theorem Grow.mk {l:List (Nat × Nat)} {a:Act} {U:World} {Good:Nat→World→Value→Prop} {i:Nat} {o:Oper} (ho:ops[i]? =some o)
 (h:∀s w b,b=Zbl a l s→(∀k∈l.map (·.1),Yee ops i k=true→Good k w (s k))→Below U.heap.size U w→∀K':Act→World→Prop,Shut (∀a' w',(n≤i∨S w')→(Below w.heap.size w w'∧∃v,a'=Zbl a l (Zsw s i v)∧Good i w' v)→K' a' w')→if Region.wanted o (yielded ops b.tmps)=true then Oper.wp P o b w K' Q else K' (b.put o.dst undef) w):Grow P ops Q S n l a U Good i:=
 fun s w hd hb=>Vh ho (h s w _ rfl hd hb)
end
theorem Zjh [Old] (w:World) (t:TypeId) (s n:Nat) (cs:List Value) (hl:cs.length=n * s) (hn:n≤maxLen):Vv (w.alloc (.cells cs.toArray t)) t s (.slice (some ⟨w.heap.size,0,none⟩) n n) n cs:=
 ⟨_,n,rfl,hl,JY _,hn,fun _=>⟨w.heap.size,0,cs.toArray,_,_,rfl,Or.inl rfl,heap_alloc_new w _,fun j u h=>by simpa using h⟩⟩
theorem Zzy [Old] {w:World} {x y z u:Value} {f:RF} (h:Zt w (.agg #[x,y,z,u]) f):WA (w.alloc (.cells #[x,y,z,u] 48)) (.slice (some ⟨w.heap.size,0,none⟩) 1 1) [f]:=
 ⟨[x,y,z,u],Zjh w 48 4 1 _ rfl (by decide),rfl,fun k g hg=>by
  match k,hg with
  | 0,hg=>injection hg with e;subst e;exact ⟨x,y,z,u,rfl,rfl,rfl,rfl,h.below (Zc w _)⟩
  | k+1,hg=>simp at hg⟩
theorem Zzz [Old] {w:World} {x y z u x' y' z' u':Value} {f f':RF} (h:Zt w (.agg #[x,y,z,u]) f) (h':Zt w (.agg #[x',y',z',u']) f'):WA (w.alloc (.cells #[x,y,z,u,x',y',z',u'] 48)) (.slice (some ⟨w.heap.size,0,none⟩) 2 2) [f,f']:=
 ⟨[x,y,z,u,x',y',z',u'],Zjh w 48 4 2 _ rfl (by decide),rfl,fun k g hg=>by
  match k,hg with
  | 0,hg=>injection hg with e;subst e;exact ⟨x,y,z,u,rfl,rfl,rfl,rfl,h.below (Zc w _)⟩
  | 1,hg=>injection hg with e;subst e;exact ⟨x',y',z',u',rfl,rfl,rfl,rfl,h'.below (Zc w _)⟩
  | k+2,hg=>simp at hg⟩
theorem Zqt [Old] {w:World} {x y z u:Value} {i:Int} {f:RF} (h:Zt w (.agg #[x,y,z,u]) f):Wp (w.alloc (.cells #[.int .i64 i,x,y,z,u] 87)) (.slice (some ⟨w.heap.size,0,none⟩) 1 1) [⟨i,f⟩]:=
 ⟨[.int .i64 i,x,y,z,u],Zjh w 87 5 1 _ rfl (by decide),rfl,fun k g hg=>by
  match k,hg with
  | 0,hg=>injection hg with e;subst e;exact ⟨x,y,z,u,rfl,rfl,rfl,rfl,rfl,h.below (Zc w _)⟩
  | k+1,hg=>simp at hg⟩
theorem Zwy [Old] {w:World} {a b:Value} {c d:List En} (h:Wp w a c) (h':Wp w b d):Xz (w.alloc (.cells #[a,b] 72)) (.slice (some ⟨w.heap.size,0,none⟩) 2 2) [c,d]:=
 ⟨[a,b],Zjh w 72 1 2 _ rfl (by decide),fun k g hg=>by
  match k,hg with
  | 0,hg=>injection hg with e;subst e;exact ⟨a,rfl,h.below (Zc w _)⟩
  | 1,hg=>injection hg with e;subst e;exact ⟨b,rfl,h'.below (Zc w _)⟩
  | k+2,hg=>simp at hg⟩
end
section
def Ygt (md:Region.Mode) (ops:Array Oper) (n:Nat) (K:Array Bool→Bool) (L:Array Bool) (rem:List Nat):Bool:=
 match rem with
 | []=>K L
 | _::_=>rem.all (fun k=>L.getD k true==false) && (!(Region.ready md ops L).isEmpty && (Region.ready md ops L).all fun i=>rem.contains i && decide (i < n))
def Zfm (md:Region.Mode) (ops:Array Oper) (n:Nat) (K:Array Bool→Bool):List Nat→Array Bool→List Nat→Bool
 | [],L,rem=>Ygt md ops n K L rem
 | i::is,L,rem=>Zfm md ops n K is L rem && Zfm md ops n K is (L.setIfInBounds i true) (rem.erase i)
section
variable {md:Region.Mode} {ops:Array Oper} {n:Nat} {K:Array Bool→Bool}
def setL (L:Array Bool) (D:List Nat):Array Bool:=D.foldl (fun L i=>L.setIfInBounds i true) L
def Zta (r D:List Nat):List Nat:=D.foldl (fun r i=>r.erase i) r
theorem Yaa (L:Array Bool) (i j:Nat):(L.setIfInBounds i true).setIfInBounds j true=(L.setIfInBounds j true).setIfInBounds i true:=by
 have hk:∀k,k < L.size→k < ((L.setIfInBounds i true)).size:=fun k h=>by simpa using h
 refine Array.ext (by simp) fun k h1 h2=>?_
 have h0:k < L.size:=by simpa using h1
 have h3:k < (L.setIfInBounds i true).size:=by simpa using h1
 have h4:k < (L.setIfInBounds j true).size:=by simpa using h1
 rw [Array.getElem_setIfInBounds h3,Array.getElem_setIfInBounds h4,Array.getElem_setIfInBounds h0,Array.getElem_setIfInBounds h0];by_cases a:i=k <;> by_cases b:j=k <;> simp [a,b]
theorem Zwz {D E:List Nat} (h:D.Perm E) (L:Array Bool):setL L D=setL L E:=h.foldl_eq' (fun x _ y _ z=>Yaa z x y) L
theorem Zxa {D E:List Nat} (h:D.Perm E) (r:List Nat):Zta r D=Zta r E:=h.foldl_eq' (fun x _ y _ z=>List.erase_comm x y) r
theorem bagSub_all:∀(l:List Nat) (L:Array Bool) (r:List Nat),Zfm md ops n K l L r=true→∀D:List Nat,D.Nodup→(∀x∈D,x∈l)→Ygt md ops n K (setL L D) (Zta r D)=true
 | [],L,r,h,D,_,hD=>by
  cases D with
  | nil=>exact h
  | cons x D=>exact absurd (hD x (by simp)) (by simp)
 | i::is,L,r,h,D,hn,hD=>by
  unfold Zfm at h
  rw [Bool.and_eq_true] at h
  by_cases hi:i∈D
  ·have hp:=List.perm_cons_erase hi
   rw [Zwz hp,Zxa hp]
   refine bagSub_all is _ _ h.2 (D.erase i) (hn.erase i) fun x hx=>?_
   have:=(hn.mem_erase_iff).1 hx
   rcases List.mem_cons.1 (hD x this.2) with e | e
   ·exact absurd e this.1
   ·exact e
  ·refine bagSub_all is _ _ h.1 D hn fun x hx=>?_
   rcases List.mem_cons.1 (hD x hx) with e | e
   ·subst e;exact absurd hx hi
   ·exact e
theorem Zqu {l:List Nat}:∀(D:List Nat) (r:List Nat),r.Nodup→∀x,x∈Zta r D↔x∈r∧x ∉ D
 | [],r,_,x=>by simp [Zta]
 | i::D,r,hr,x=>by
  show x∈Zta (r.erase i) D↔_
  rw [Zqu (l:=l) D _ (hr.erase i) x,hr.mem_erase_iff]
  simp only [List.mem_cons,not_or]
  constructor
  ·rintro ⟨⟨a,b⟩,c⟩;exact ⟨b,a,c⟩
  ·rintro ⟨b,a,c⟩;exact ⟨⟨a,b⟩,c⟩
theorem Zma {l:List Nat} {L:Array Bool} (hl:l.Nodup) (h:Zfm md ops n K l L l=true):∀(m:Nat) (D:List Nat),D.Nodup→(∀x∈D,x∈l)→(Zta l D).length=m→Zfw md ops n K m (Zta l D) (setL L D)=true
 | 0,D,hn,hD,hm=>by
  have c:=bagSub_all l L l h D hn hD
  rw [List.length_eq_zero_iff.1 hm] at c
  exact c
 | m+1,D,hn,hD,hm=>by
  have c:=bagSub_all l L l h D hn hD
  cases e:Zta l D with
  | nil=>rw [e] at hm;cases hm
  | cons y ys=>
   rw [e] at c
   unfold Ygt at c
   unfold Zfw
   simp only [Bool.and_eq_true,List.all_eq_true] at c ⊢
   refine ⟨c.1,c.2.1,fun i hi=>⟨c.2.2 i hi,?_⟩⟩
   have hiy:i∈y::ys:=by have:=(c.2.2 i hi).1;simpa using this
   have hq:=(Zqu (l:=l) D l hl i).1 (by rw [e];exact hiy)
   have e1:(y::ys).erase i=Zta l (D++[i]):=by unfold Zta;rw [List.foldl_append];show _=(Zta l D).erase i;rw [e]
   have e2:(setL L D).setIfInBounds i true=setL L (D++[i]):=by unfold setL;rw [List.foldl_append];rfl
   rw [e1,e2]
   refine Zma hl h m (D++[i]) ?_ ?_ ?_
   ·rw [List.nodup_append]
    exact ⟨hn,by simp,fun a ha b hb=>by simp at hb;subst hb;intro q;subst q;exact hq.2 ha⟩
   ·intro x hx
    rcases List.mem_append.1 hx with q | q
    ·exact hD x q
    ·simp at q;subst q;exact hq.1
   ·rw [← e1,List.length_erase_of_mem hiy,← e,hm];rfl
theorem Zxb {l:List Nat} {L:Array Bool} (hl:l.Nodup) (h:Zfm md ops n K l L l=true):Zfw md ops n K l.length l L=true:=Zma hl h l.length [] List.nodup_nil (fun x hx=>by cases hx) rfl
end
def VJ (md:Region.Mode) (ops:Array Oper) (n:Nat):Bool→UK→Array Bool→Bool
 | _,.done,listed=>Region.ready md ops listed==[]
 | d,.go i p,listed=>Zva md ops n listed i && (!(d && (YY ops n i && !Zcx ops i)) && VJ md ops n (d || decide (n≤i)) p (listed.setIfInBounds i true))
 | d,.fork i p j q,listed=>(!YY ops n i && !YY ops n j) && (Region.ready md ops listed==[i,j] && (VJ md ops n (d || decide (n≤i)) p (listed.setIfInBounds i true) && VJ md ops n (d || decide (n≤j)) q (listed.setIfInBounds j true)))
 | d,.bag l p,listed=> !d && (decide l.Nodup && Zfm md ops n (fun b=>VJ md ops n false p b) l listed l)
theorem Zhf {md:Region.Mode} {ops:Array Oper} {n:Nat} {K K':Array Bool→Bool} (h:∀b,K b=true→K' b=true):∀(m:Nat) (l:List Nat) (L:Array Bool),Zfw md ops n K m l L=true→Zfw md ops n K' m l L=true
 | 0,_,L,g=>h L g
 | m+1,l,L,g=>by
  unfold Zfw at g ⊢
  simp only [Bool.and_eq_true,List.all_eq_true] at g ⊢
  exact ⟨g.1,g.2.1,fun i hi=>⟨(g.2.2 i hi).1,Zhf h m _ _ (g.2.2 i hi).2⟩⟩
theorem Vm {md:Region.Mode} {ops:Array Oper} {n:Nat}:∀(p:UK) (d:Bool) (L:Array Bool),VJ md ops n d p L=true→WH md ops n d p L=true
 | .done,_,_,h=>h
 | .go i p,d,L,h=>by
  unfold VJ at h
  unfold WH
  simp only [Bool.and_eq_true] at h ⊢
  exact ⟨h.1,h.2.1,Vm p _ _ h.2.2⟩
 | .fork i p j q,d,L,h=>by
  unfold VJ at h
  unfold WH
  simp only [Bool.and_eq_true] at h ⊢
  exact ⟨h.1,h.2.1,Vm p _ _ h.2.2.1,Vm q _ _ h.2.2.2⟩
 | .bag l p,d,L,h=>by
  unfold VJ at h
  unfold WH
  simp only [Bool.and_eq_true,decide_eq_true_eq] at h ⊢
  exact ⟨h.1,Zhf (fun b=>Vm p false b) _ _ _ (Zxb h.2.1 h.2.2)⟩
def Zxc (md:Region.Mode) (ops:Array Oper) (n:Nat) (p:UK):Bool:=Region.noSelect ops && (VJ md ops n false p (Array.replicate ops.size false) && (p.even && decide (p.len=ops.size)))
theorem Zsx {md:Region.Mode} {ops:Array Oper} {n:Nat} {p:UK} (h:Zxc md ops n p=true):Zpx md ops n p=true:=by
 unfold Zxc at h;unfold Zpx;rw [Bool.and_eq_true,Bool.and_eq_true] at h ⊢;exact ⟨h.1,Vm p _ _ h.2.1,h.2.2⟩
end
section
namespace Pl
theorem Yab {a b c d q:RF} {p:LPd} (ha:a=canF ((-1:Int):Rat)) (hb:b=canF ((0:Int):Rat)) (hc:c=canF ((1:Int):Rat)) (hd:d=canF ((4:Int):Rat)) (hq:q=canF ((-4:Int):Rat)) (hp:p=⟨[a,b],[[⟨0,c⟩],[⟨0,c⟩]],[d]⟩):
 p.Ft 32∧lpErr p=0∧Zy p (Yx p)=⟨1,[-1],0⟩∧(YZ p ⟨1,[-1],0⟩=0∧Zsv p ⟨1,[-1],0⟩ 1=⟨2,[0],1⟩)∧YZ p ⟨2,[0],1⟩=0∧Ydy p ⟨2,[0],1⟩=(1,-1)∧Yef p ⟨2,[0],1⟩=q:=by
 have e1:((-1:Int):Rat)= -1:=by decide
 have e2:((0:Int):Rat)=0:=by decide
 have e3:((1:Int):Rat)=1:=by decide
 have e4:((4:Int):Rat)=4:=by decide
 have e5:((-4:Int):Rat)= -4:=by decide
 have e:p=knP:=by rw [hp,ha,hb,hc,hd,e1,e2,e3,e4];unfold knP;rfl
 rw [e,hq,e5];exact ⟨ke_ft,ke_err,ke_s,⟨ke_e1,ke_ru⟩,ke_e2,ke_sm,ke_va⟩
end Pl
def KeH [Old] (U:World) (a b c d:RF) (p:LPd) (k:Nat) (w:World) (v:Value):Prop:=match k with
 | 0=>Zt w v a
 | 1=>Zt w v b
 | 2=>WA w v [a,b]
 | 5=>Wp w v [⟨0,c⟩]
 | 8=>Wp w v [⟨0,c⟩]
 | 9=>Xz w v [[⟨0,c⟩],[⟨0,c⟩]]
 | 10=>Zt w v d
 | 11=>WA w v [d]
 | 12=>LpM w v p
 | 13=>∃g,v= .pointer (some ⟨g,0,none⟩)∧U.heap.size≤g∧Bk w g 26 [.slice none 0 0,.slice none 0 0,.slice none 0 0]
 | _=>True
theorem KeH.later [Old] {U:World} {a b c d:RF} {p:LPd} (k:Nat) (w w':World) (v:Value) (h:KeH U a b c d p k w v) (hb:Below w.heap.size w w'):KeH U a b c d p k w' v:=by
 unfold KeH at *;split at h;all_goals first | exact Zt.below h hb | exact WA.below h hb | exact Wp.below h hb | exact Xz.below h hb | exact LpM.below h hb | (obtain ⟨g,e,h1,h2⟩:=h;exact ⟨g,e,h1,h2.later hb⟩) | trivial
attribute [local irreducible] YQ
theorem Zmb [Old] (w:World) (hOl:Zb w:=by (repeat (first | assumption | exact Zb.up (by assumption) hOl | exact Zb.up (Hid.out (by assumption)) hOl | with_reducible refine Zb.set ?_ _ _ | with_reducible refine Zb.mk_ ?_ _ | with_reducible refine Zb.dr ?_ | with_reducible refine Zb.drN ?_ | refine Zb.up (by assumption) ?_ | refine Zb.up (Hid.out (by assumption)) ?_))):
 Calls Tryz.prog 23 #[] w fun o w'=>o= .returned (.bool true)∧Below w.heap.size w w':=by
 have bq:=hOl.le;obtain ⟨a,ha⟩:∃a:RF,a=canF ((-1:Int):Rat):=⟨_,rfl⟩;obtain ⟨b0,a4⟩:∃b:RF,b=canF ((0:Int):Rat):=⟨_,rfl⟩;obtain ⟨c1,a5⟩:∃c:RF,c=canF ((1:Int):Rat):=⟨_,rfl⟩;obtain ⟨d4,a6⟩:∃d:RF,d=canF ((4:Int):Rat):=⟨_,rfl⟩;obtain ⟨q,hq⟩:∃q:RF,q=canF ((-4:Int):Rat):=⟨_,rfl⟩;obtain ⟨p,hp⟩:∃p:LPd,p=⟨[a,b0],[[⟨0,c1⟩],[⟨0,c1⟩]],[d4]⟩:=⟨_,rfl⟩;obtain ⟨z1,z2,z3,z4,z5⟩:=Yab ha a4 a5 a6 hq hp;have HA:=JZ ha;have HB:=JZ a4;have HC:=JZ a5;have HD:=JZ a6;have HQ:=JZ hq;have HP:=JZ hp;have m:=JZ z1;have aj:=JZ z2;have b9:=JZ z3;have ak:=JZ z4;have al:=JZ z5;clear ha a4 a5 a6 hq hp z1 z2 z3 z4 z5;go_enter Tryz.func23,Tryz.ntmps23;go_wp2_with fail;refine (WQ 1 _ (by decide) (by decide)).mono ?_;rintro _ w1 ⟨v1,rfl,e1,ae⟩;have T:Zt w1 v1 c1:=by rw [HC.out];exact e1.1
 obtain ⟨A,n,c,A',n',c',rfl,_,_⟩:=id T;obtain ⟨W,hW,hX,a7⟩:=Y7 w1 (.bool c1.num.neg) (.slice A n c) (.bool c1.den.neg) (.slice A' n' c');have N:=Za ae a7 ae.size;have HO:=JZ (T.below a7);obtain ⟨x0,x1,x2,x3⟩:=hX.four;clear e1 T ae a7;generalize bn:c1.num.neg=q0 at *;generalize bo:c1.den.neg=q1 at *;clear bn bo;go_wp2_with fail;clear hW;have C0:=Zm x0;have C1:=Zm x1;have C2:=Zm x2;have C3:=Zm x3;clear x0 x1 x2 x3;refine YC 14 (.go 3 (.go 4 (.go 6 (.go 7 (.bag [0,1,2,5,8,9,10,11,12,13] (.go 14 .done)))))) (by kernel_rfl) (Zsx (by kernel_rfl)) ?_;repeat ((first | (refine ZJ (v:=?_) rfl rfl rfl ?_ ?_;rotate_left;(· (intro _ f;go_simp;(try go_bits);(try with_reducible rfl)))) | (refine ZT (v:=?_) rfl rfl rfl ?_ ?_;rotate_left;(· (intro _ f;go_simp;(try go_bits);(try with_reducible rfl)))) | refine ZU rfl rfl rfl ?_ | refine ZK rfl rfl rfl (by assumption) ?_);(try simp only [Act.put,pu1,pu2,pu3,pu4,pu5,pu6]))
 refine Zwx (l:=[(0,13),(1,14),(2,15),(5,18),(8,21),(9,22),(10,23),(11,24),(12,25),(13,2)]) W (KeH W a b0 c1 d4 p) (fun _=>undef) rfl ?_ (by decide) (Zf W) KeH.later (List.forall_mem_cons.2 ⟨?_,List.forall_mem_cons.2 ⟨?_,List.forall_mem_cons.2 ⟨?_,List.forall_mem_cons.2 ⟨?_,List.forall_mem_cons.2 ⟨?_,List.forall_mem_cons.2 ⟨?_,List.forall_mem_cons.2 ⟨?_,List.forall_mem_cons.2 ⟨?_,List.forall_mem_cons.2 ⟨?_,List.forall_mem_cons.2 ⟨?_,List.forall_mem_nil _⟩⟩⟩⟩⟩⟩⟩⟩⟩⟩) ?_
 ·simp only [Zbl,List.foldl_cons,List.foldl_nil,Act.put,List.setIfInBounds_toArray,List.set_cons_zero,List.set_cons_succ]
 ·refine Grow.mk rfl fun s wx b hbb hd hb KR hKR=>?_
  simp only [Zbl,List.foldl_cons,List.foldl_nil,Act.put,List.setIfInBounds_toArray,List.set_cons_zero,List.set_cons_succ] at hbb;subst hbb;go_simp;refine (WQ (-1) _ (by decide) (by decide)).mono ?_;rintro _ w' ⟨v',rfl,e',r⟩;exact hKR.out _ _ (Or.inr (Za hb r hb.size)) ⟨r,v',by simp [Zbl,Zsw,Act.put],by rw [HA.out];exact e'.1⟩
 ·refine Grow.mk rfl fun s wx b hbb hd hb KR hKR=>?_
  simp only [Zbl,List.foldl_cons,List.foldl_nil,Act.put,List.setIfInBounds_toArray,List.set_cons_zero,List.set_cons_succ] at hbb;subst hbb;go_simp;refine (WQ (0) _ (by decide) (by decide)).mono ?_;rintro _ w' ⟨v',rfl,e',r⟩;exact hKR.out _ _ (Or.inr (Za hb r hb.size)) ⟨r,v',by simp [Zbl,Zsw,Act.put],by rw [HB.out];exact e'.1⟩
 ·refine Grow.mk rfl fun s wx b hbb hd hb KR hKR=>?_
  have d0:Zt wx (s 0) a:=hd 0 (by decide) (by kernel_rfl);have d1:Zt wx (s 1) b0:=hd 1 (by decide) (by kernel_rfl);clear hd;obtain ⟨B,k,d,B',k',d',h0,_,_⟩:=id d0;obtain ⟨E,j,e,E',j',e',h1,_,_⟩:=id d1;rw [h0] at d0;rw [h1] at d1;simp only [Zbl,List.foldl_cons,List.foldl_nil,Act.put,List.setIfInBounds_toArray,List.set_cons_zero,List.set_cons_succ] at hbb;subst hbb;rw [h0,h1];go_simp;exact hKR.out _ _ (Or.inr (Za hb (Zc wx _) hb.size)) ⟨Zc _ _,_,by simp [Zbl,Zsw,Act.put,h0,h1],Zzz d0 d1⟩
 ·refine Grow.mk rfl fun s wx b hbb hd hb KR hKR=>?_
  clear hd;simp only [Zbl,List.foldl_cons,List.foldl_nil,Act.put,List.setIfInBounds_toArray,List.set_cons_zero,List.set_cons_succ] at hbb;subst hbb;go_simp;exact hKR.out _ _ (Or.inr (Za hb (Zc wx _) hb.size)) ⟨Zc _ _,_,by simp [Zbl,Zsw,Act.put],Zqt (HO.out.below hb)⟩
 ·refine Grow.mk rfl fun s wx b hbb hd hb KR hKR=>?_
  clear hd;simp only [Zbl,List.foldl_cons,List.foldl_nil,Act.put,List.setIfInBounds_toArray,List.set_cons_zero,List.set_cons_succ] at hbb;subst hbb;go_simp;exact hKR.out _ _ (Or.inr (Za hb (Zc wx _) hb.size)) ⟨Zc _ _,_,by simp [Zbl,Zsw,Act.put],Zqt (HO.out.below hb)⟩
 ·refine Grow.mk rfl fun s wx b hbb hd hb KR hKR=>?_
  have d0:Wp wx (s 5) [⟨0,c1⟩]:=hd 5 (by decide) (by kernel_rfl);have d1:Wp wx (s 8) [⟨0,c1⟩]:=hd 8 (by decide) (by kernel_rfl);clear hd;obtain ⟨B,k,h0,_,_⟩:=d0.shape;obtain ⟨E,j,h1,_,_⟩:=d1.shape;rw [h0] at d0;rw [h1] at d1;simp only [Zbl,List.foldl_cons,List.foldl_nil,Act.put,List.setIfInBounds_toArray,List.set_cons_zero,List.set_cons_succ] at hbb;subst hbb;rw [h0,h1];go_simp;exact hKR.out _ _ (Or.inr (Za hb (Zc wx _) hb.size)) ⟨Zc _ _,_,by simp [Zbl,Zsw,Act.put,h0,h1],Zwy d0 d1⟩
 ·refine Grow.mk rfl fun s wx b hbb hd hb KR hKR=>?_
  simp only [Zbl,List.foldl_cons,List.foldl_nil,Act.put,List.setIfInBounds_toArray,List.set_cons_zero,List.set_cons_succ] at hbb;subst hbb;go_simp;refine (WQ (4) _ (by decide) (by decide)).mono ?_;rintro _ w' ⟨v',rfl,e',r⟩;exact hKR.out _ _ (Or.inr (Za hb r hb.size)) ⟨r,v',by simp [Zbl,Zsw,Act.put],by rw [HD.out];exact e'.1⟩
 ·refine Grow.mk rfl fun s wx b hbb hd hb KR hKR=>?_
  have d0:Zt wx (s 10) d4:=hd 10 (by decide) (by kernel_rfl);clear hd;obtain ⟨B,k,d,B',k',d',h0,_,_⟩:=id d0;rw [h0] at d0;simp only [Zbl,List.foldl_cons,List.foldl_nil,Act.put,List.setIfInBounds_toArray,List.set_cons_zero,List.set_cons_succ] at hbb;subst hbb;rw [h0];go_simp;exact hKR.out _ _ (Or.inr (Za hb (Zc wx _) hb.size)) ⟨Zc _ _,_,by simp [Zbl,Zsw,Act.put,h0],Zzy d0⟩
 ·refine Grow.mk rfl fun s wx b hbb hd hb KR hKR=>?_
  have d2:WA wx (s 2) [a,b0]:=hd 2 (by decide) (by kernel_rfl);have d9:Xz wx (s 9) [[⟨0,c1⟩],[⟨0,c1⟩]]:=hd 9 (by decide) (by kernel_rfl);have am:WA wx (s 11) [d4]:=hd 11 (by decide) (by kernel_rfl);clear hd;obtain ⟨A1,c1,e1,_,_⟩:=d2.shape;obtain ⟨A2,c2,e2,_,_⟩:=d9.shape;obtain ⟨A3,c3,e3,_,_⟩:=am.shape;simp only [Zbl,List.foldl_cons,List.foldl_nil,Act.put,List.setIfInBounds_toArray,List.set_cons_zero,List.set_cons_succ] at hbb;subst hbb;go_simp;exact hKR.out _ _ (Or.inr hb) ⟨JR _ _,.agg #[s 2,s 9,s 11],by simp [Zbl,Zsw,Act.put,e1,e2,e3],_,_,_,_,_,_,_,_,_,by rw [e1,e2,e3],by rw [HP.out];exact e1▸d2,by rw [HP.out];exact e2▸d9,by rw [HP.out];exact e3▸am⟩
 ·refine Grow.mk rfl fun s wx b hbb hd hb KR hKR=>?_
  clear hd;simp only [Zbl,List.foldl_cons,List.foldl_nil,Act.put,List.setIfInBounds_toArray,List.set_cons_zero,List.set_cons_succ] at hbb;subst hbb;go_simp;exact hKR.out _ _ (Or.inr (Za hb (Zc wx _) hb.size)) ⟨Zc _ _,_,by simp [Zbl,Zsw,Act.put],_,rfl,hb.size,Bk.new wx 26 [.slice none 0 0,.slice none 0 0,.slice none 0 0]⟩
 ·intro s wx hG hb;have ba:LpM wx (s 12) p:=hG 12 (by decide);have bc:∃g,s 13= .pointer (some ⟨g,0,none⟩)∧W.heap.size≤g∧Bk wx g 26 [.slice none 0 0,.slice none 0 0,.slice none 0 0]:=hG 13 (by decide);obtain ⟨g,b4,M,hB⟩:=bc;clear hG C0 C1 C2 C3;simp only [Zbl,List.foldl_cons,List.foldl_nil,Act.put,List.setIfInBounds_toArray,List.set_cons_zero,List.set_cons_succ];obtain ⟨A1,n1,c1,A2,n2,c2,A3,n3,c3,b5,g2,g9,b6⟩:=ba;rw [b4,b5];clear b4 b5;generalize s 0=u0 at *;generalize s 1=u1 at *;generalize s 5=u5 at *;generalize s 8=u8 at *;generalize s 10=br at *;generalize s 2=v2 at *;generalize s 9=v9 at *;generalize s 11=bs at *;clear s;obtain ⟨t0,t1,t2⟩:=hB.three;obtain ⟨f0,f1,f2⟩:=hB.threeF;repeat ((first | (refine ZJ (v:=?_) rfl rfl rfl ?_ ?_;rotate_left;(· (intro _ f;go_simp;(try go_bits);(try with_reducible rfl)))) | (refine ZT (v:=?_) rfl rfl rfl ?_ ?_;rotate_left;(· (intro _ f;go_simp;(try go_bits);(try with_reducible rfl)))) | refine ZU rfl rfl rfl ?_ | refine ZK rfl rfl rfl (by assumption) ?_);(try simp only [Act.put,pu1,pu2,pu3,pu4,pu5,pu6]))
  refine ZB rfl rfl (fun KR hKR=>?_);go_simp;refine hKR.out _ _ (Or.inl (by decide)) ?_;clear hKR KR t0 t1 t2 f0 f1 f2;refine Yl ?_;have bp:Old.n≤g:=JW (Zb.up N hOl).le M;have k0:=Ze.setCell hB 0 (.slice A1 n1 c1);have b0:=hB.set_ 0 (.slice A1 n1 c1);have k1:=Ze.setCell b0 1 (.slice A2 n2 c2);have b1:=b0.set_ 1 (.slice A2 n2 c2);have k2:=Ze.setCell b1 2 (.slice A3 n3 c3);have b2:=b1.set_ 2 (.slice A3 n3 c3);have kk:=(k0.trans k1).trans k2;have an:=((hb.setCell (p:=⟨g,0,none⟩) M (.slice A1 n1 c1)).setCell (p:=⟨g,1,none⟩) M (.slice A2 n2 c2)).setCell (p:=⟨g,2,none⟩) M (.slice A3 n3 c3);have ao:LpM (((wx.setCell ⟨g,0,none⟩ (.slice A1 n1 c1)).setCell ⟨g,1,none⟩ (.slice A2 n2 c2)).setCell ⟨g,2,none⟩ (.slice A3 n3 c3)) (.agg #[.slice A1 n1 c1,.slice A2 n2 c2,.slice A3 n3 c3]) p:=
   ⟨_,_,_,_,_,_,_,_,_,rfl,g2.but kk (by decide) (by decide),g9.but kk (by decide) (by decide) (by decide),b6.but kk (by decide) (by decide)⟩
  have U:Bk (((wx.setCell ⟨g,0,none⟩ (.slice A1 n1 c1)).setCell ⟨g,1,none⟩ (.slice A2 n2 c2)).setCell ⟨g,2,none⟩ (.slice A3 n3 c3)) g 26 [.slice A1 n1 c1,.slice A2 n2 c2,.slice A3 n3 c3]:=b2;have x:=Za N an N.size;clear k0 k1 k2 kk b0 b1 b2 an g2 g9 b6 M hB hb hX HO N;generalize ((wx.setCell ⟨g,0,none⟩ (.slice A1 n1 c1)).setCell ⟨g,1,none⟩ (.slice A2 n2 c2)).setCell ⟨g,2,none⟩ (.slice A3 n3 c3)=W3 at *;obtain ⟨x0,x1,x2⟩:=U.three;have V:=JZ ao;clear ao;go_wp2_with fail;refine (Zhe _ p 32 _ V.out m.out.1.ok (fun _=>m.out)).mono ?_;rw [Zbj aj.out,aj.out];obtain ⟨s1,a8⟩:∃s1,s1=Zy p (Yx p):=⟨_,rfl⟩;have y:=JZ (a8.trans b9.out);rw [← a8];clear a8;rintro _ w4 ⟨v4,rfl,⟨A4,n4,c4,rfl,b7⟩,af⟩;obtain ⟨W4,bf,a9,aa⟩:=Xa w4 (.int .i64 s1.phase) (.slice A4 n4 c4) (.int .i64 s1.pivots);have O:=Za af aa af.size;have C:=Za x O x.size;have X:=U.later O;have D:=JZ (V.out.below O);have ap:Hid (StM W4 (.agg #[.int .i64 s1.phase,.slice A4 n4 c4,.int .i64 s1.pivots]) s1):=JZ ⟨A4,n4,c4,rfl,(b7.below aa).ints⟩;clear x0 x1 x2 U af aa O b7 V x;obtain ⟨x0,x1,x2⟩:=X.three;obtain ⟨y0,y1,y2⟩:=a9.three;go_wp2_with fail;clear bf;refine (Zzx _ _ p s1 32 _ D.out ap.out m.out.1.ok (fun _=>m.out) (by rw [y.out];decide) (by rw [y.out];intro z hz;simp at hz;omega) 1 (by decide) (fun _=>by rw [y.out];decide)).mono ?_;have Y:Hid (YZ p s1=0∧Zsv p s1 1=⟨2,[0],1⟩):=JZ (by rw [y.out];exact ak.out);obtain ⟨t,ht⟩:∃t:LSt,t=⟨2,[0],1⟩:=⟨_,rfl⟩;have HT:=JZ ht;rw [Y.out.1,Y.out.2,← ht];clear ht;rintro _ w5 ⟨v5,rfl,⟨A5,n5,c5,rfl,ag⟩,ah⟩;obtain rfl:n5=1:=by have:=ag.ints.len.1;rw [HT.out] at this;exact this
  obtain ⟨W5,bg,ab,ac⟩:=Xa w5 (.int .i64 t.phase) (.slice A5 1 c5) (.int .i64 t.pivots);have F:=Za ah ac ah.size;have G:=Za C F C.size;have Z:=X.later F;have aq:=a9.later F;have H:=JZ (D.out.below F);have I:=(ag.below ac).ints;have a0:Hid (StM W5 (.agg #[.int .i64 t.phase,.slice A5 1 c5,.int .i64 t.pivots]) t):=JZ ⟨A5,1,c5,rfl,I⟩;clear x0 x1 x2 y0 y1 y2 X a9 ah ac F ag D C ap Y;obtain ⟨x0,x1,x2⟩:=Z.three;obtain ⟨y0,y1,y2⟩:=ab.three;go_wp2_with fail;clear bg;have HR:Hid (t.basis.length≤1099511627776∧∀z∈t.basis,-9223372036854775808≤z∧z≤9223372036854775807):=JZ (by rw [HT.out];exact ⟨by decide,by intro z hz;simp at hz;omega⟩);refine (Zoi _ _ p t 32 _ H.out a0.out m.out.1.ok (fun _=>m.out) HR.out.1 HR.out.2).mono ?_;have J:Hid (YZ p t=0∧Ydy p t=(1,-1)∧Yef p t=q):=JZ (by rw [HT.out];exact al.out);rw [J.out.1,J.out.2.1];rintro _ w6 ⟨rfl,u⟩;have K:=Za G u G.size;have ar:=Z.later u;have au:=aq.later u;have a1:=ab.later u;have R:=JZ (H.out.below u);have av:=JZ (a0.out.below u);have aw:=I.below u;clear x0 x1 x2 y0 y1 y2 Z aq ab u H G a0 I;obtain ⟨x0,x1,x2⟩:=ar.three;obtain ⟨y0,y1,y2⟩:=a1.three;go_wp2_with fail;refine (Zsu _ _ p t 32 _ R.out av.out m.out.1.ok (fun _=>m.out) HR.out.1 HR.out.2).mono ?_;rw [J.out.1,J.out.2.2];rintro _ w7 ⟨v7,rfl,e7,ai⟩;obtain ⟨A7,n7,c7,bh,bi,bj,rfl,_,_⟩:=id e7;obtain ⟨W7,bk,bl,ad⟩:=Y7 w7 (.bool q.num.neg) (.slice A7 n7 c7) (.bool q.den.neg) (.slice bh bi bj);have L:=Za ai ad ai.size;have S:=Za K L K.size;have ax:=au.later L;have P:=a1.later L;have ay:=aw.below L;have bd:=JZ (e7.below ad);clear x0 x1 x2 y0 y1 y2 ar au a1 ai ad L aw R K av e7 J HR;go_wp2_with fail;clear bk;have x0:W7.cell? ⟨w4.heap.size,0,none⟩=some (.int .i64 1):=by have h:=ax.three.1;rw [y.out] at h;exact h
  have y0:W7.cell? ⟨w5.heap.size,0,none⟩=some (.int .i64 2):=by have h:=P.three.1;rw [HT.out] at h;exact h
  have y1:W7.cell? ⟨w5.heap.size,1,none⟩=some (.slice A5 1 c5):=P.three.2.1;have y2:W7.cell? ⟨w5.heap.size,2,none⟩=some (.int .i64 1):=by have h:=P.three.2.2;rw [HT.out] at h;exact h
  obtain ⟨bb,ob,z,rfl,z0,hz,_,_⟩:=ay.at_ (i:=0) (by decide);obtain rfl:z=0:=by rw [HT.out] at hz;injection hz with e;exact e.symm
  have z0:W7.cell? ⟨bb,ob,none⟩=some (.int .i64 0):=z0;obtain ⟨v0,v1,v2,v3⟩:=bl.four;have C0:=Zm x0;have C1:=Zm y0;have C2:=Zm y1;have C3:=Zm y2;have C4:=Zm z0;have C5:=Zm v0;have C6:=Zm v1;have C7:=Zm v2;have C8:=Zm v3;have a2:=Zf W7;clear x0 y0 y1 y2 z0 v0 v1 v2 v3 ax P ay hz;refine Zp 56 [0,1,2,3,4,5,6,7,8,9,10,11,12,13,14,15,16,17,18,19,20,21,22,23,24,25,26,27,28,29,30,31,32,33,34,35,36,37,38,39,40,41,42,43,44,45,46,47,48,49,50,51,52,53,54,55] (by kernel_rfl) (by kernel_rfl) ?_;repeat ((first | (refine Zd (v:=?_) rfl rfl rfl ?_ ?_;rotate_left;(· (intro _ f;go_simp;(try go_bits);(try with_reducible rfl)))) | (refine Zj (v:=?_) rfl rfl rfl ?_ ?_;rotate_left;(· (intro _ f;go_simp;(try go_bits);(try with_reducible rfl)))) | refine Zk rfl rfl rfl ?_ | refine Xl rfl rfl rfl (by assumption) ?_);(try simp only [Act.put,pu1,pu2,pu3,pu4,pu5,pu6]))
  refine Zh rfl rfl (fun KR hKR=>?_);go_simp;with_reducible refine (WQ (-4) _ (by decide) (by decide)).mono ?_
  rintro _ w8 ⟨v8,rfl,e8,b8⟩;have a3:=Za a2 b8 a2.size;have be:Zt w8 v8 q:=by rw [HQ.out];exact e8.1
  refine hKR.out _ _ (Or.inr a3) ?_;clear hKR KR;(try simp only [Act.put,pu1,pu2,pu3,pu4,pu5,pu6]);repeat ((first | (refine Zd (v:=?_) rfl rfl rfl ?_ ?_;rotate_left;(· (intro _ f;go_simp;(try go_bits);(try with_reducible rfl)))) | (refine Zj (v:=?_) rfl rfl rfl ?_ ?_;rotate_left;(· (intro _ f;go_simp;(try go_bits);(try with_reducible rfl)))) | refine Zk rfl rfl rfl ?_ | refine Xl rfl rfl rfl (by assumption) ?_);(try simp only [Act.put,pu1,pu2,pu3,pu4,pu5,pu6]))
  refine Zh rfl rfl (fun KR hKR=>?_);go_simp;with_reducible refine (Zuq _ _ q q _ ((bd.out.below a2).below b8) be).mono ?_
  rw [Zrk];rintro _ w9 ⟨rfl,bm⟩;have az:=Za a3 bm a3.size;refine hKR.out _ _ (Or.inr az) ?_;clear hKR KR;(try simp only [Act.put,pu1,pu2,pu3,pu4,pu5,pu6]);repeat ((first | (refine Zd (v:=?_) rfl rfl rfl ?_ ?_;rotate_left;(· (intro _ f;go_simp;(try go_bits);(try with_reducible rfl)))) | (refine Zj (v:=?_) rfl rfl rfl ?_ ?_;rotate_left;(· (intro _ f;go_simp;(try go_bits);(try with_reducible rfl)))) | refine Zk rfl rfl rfl ?_ | refine Xl rfl rfl rfl (by assumption) ?_);(try simp only [Act.put,pu1,pu2,pu3,pu4,pu5,pu6]))
  refine Zx ?_;have b3:=Za S az S.size;clear C0 C1 C2 C3 C4 C5 C6 C7 C8;go_wp2;go_ret;exact ⟨rfl,b3⟩
end
namespace Pl
def Uh (f:RF):Prop:=(f.num.ds.length≤2∧f.den.ds.length≤2)∧okD f.num.ds∧okD f.den.ds
def Zxd (c:List En):Prop:=c.length≤4∧∀(j:Nat) (e:En),c[j]? =some e→Uh e.f
def Zmc (p:LPd):Prop:=p.right.length≤3∧p.cols.length≤4∧p.cost.length≤5∧(∀(j:Nat) (c:List En),p.cols[j]? =some c→Zxd c)∧(∀(j:Nat) (f:RF),p.cost[j]? =some f→Uh f)∧∀(j:Nat) (f:RF),p.right[j]? =some f→Uh f
theorem Uy {α:Type} {l:List α} {G:α→Prop} {k:Nat} {x:α} (h:∀(j:Nat) (c:α),j < k→l[j]? =some c→G c) (hx:l[k]? =some x) (hg:G x):∀(j:Nat) (c:α),j < k+1→l[j]? =some c→G c:=by
 intro j c hj hc;rcases JX j k with h1 | h1
 ·exact h j c h1 hc
 ·obtain rfl:j=k:=by omega
  rw [hx] at hc;injection hc with hc;rw [← hc];exact hg
theorem Zji {α:Type} {l:List α} {j:Nat} {x:α} (h:l[j]? =some x):j < l.length:=(List.getElem?_eq_some_iff.1 h).1
theorem Uh.rs {f:RF} (h:Uh f):f.Rs 2:=⟨JW (Xr h.2.1) h.1.1,JW (Xr h.2.2) h.1.2⟩
theorem Zmc.ok {p:LPd} (h:Zmc p) (hi:∀(j:Nat) (c:List En),p.cols[j]? =some c→EnI c):p.Ok 2:=⟨fun j f hf=>(h.2.2.2.2.1 j f hf).rs,fun j f hf=>(h.2.2.2.2.2 j f hf).rs,fun j c hc=>⟨hi j c hc,fun k e he=>((h.2.2.2.1 j c hc).2 k e he).rs⟩⟩
end Pl
def Zxe (w:World) (p:LPd) (e:Ending) (w':World):Prop:=∃b,e= .returned (.bool b)∧(b=true→Zmc p)∧Below w.heap.size w w'
theorem Zmd [Old] (v:Value) (p:LPd) (w:World) (h:LpM w v p) (hOl:Zb w:=by (repeat (first | assumption | exact Zb.up (by assumption) hOl | exact Zb.up (Hid.out (by assumption)) hOl | with_reducible refine Zb.set ?_ _ _ | with_reducible refine Zb.mk_ ?_ _ | with_reducible refine Zb.dr ?_ | with_reducible refine Zb.drN ?_ | refine Zb.up (by assumption) ?_ | refine Zb.up (Hid.out (by assumption)) ?_))):
 Calls Tryz.prog 34 #[v] w (Zxe w p):=by
 have Y:=hOl.le;obtain ⟨A,n,c,A',n',c',y,d,z,rfl,hc,hv,hr⟩:=h;obtain ⟨W,hW,hX,a⟩:=X9 w (.slice A n c) (.slice A' n' c') (.slice y d z);obtain ⟨x0,x1,x2⟩:=hX.three;obtain ⟨l1,l2,l3⟩:=hc.len;obtain ⟨m1,m2,m3⟩:=hv.len;obtain ⟨r1,r2,r3⟩:=hr.len;have E:=JZ l1;have F:=JZ m1;have G:=JZ r1;clear l1 m1 r1;by_cases b1:3 < d
 ·have B:(3:Int) < d:=by omega
  go_enter Tryz.func34,Tryz.ntmps34;go_wp2;go_ret;exact ⟨_,rfl,by intro h;exact absurd h (by decide),a⟩
 ·by_cases b2:4 < n'
  ·have B:decide ((3:Int) < d)=false:=(by simp;omega);have H:(4:Int) < n':=(by omega);go_enter Tryz.func34,Tryz.ntmps34;go_wp2;go_ret;exact ⟨_,rfl,by intro h;exact absurd h (by decide),a⟩
  ·by_cases b3:5 < n
   ·have B:decide ((3:Int) < d)=false:=(by simp;omega);have H:decide ((4:Int) < n')=false:=(by simp;omega);have J:(5:Int) < n:=(by omega);go_enter Tryz.func34,Tryz.ntmps34;go_wp2;go_ret;exact ⟨_,rfl,by intro h;exact absurd h (by decide),a⟩
   ·have B:decide ((3:Int) < d)=false:=(by simp;omega);have H:decide ((4:Int) < n')=false:=(by simp;omega);have J:decide ((5:Int) < n)=false:=(by simp;omega);go_enter Tryz.func34,Tryz.ntmps34;go_wp2;clear hW B H J
    go_loopw [3] (fun i wr=>∃k:Nat,k≤n'∧i= .int .i64 k∧Below w.heap.size w wr∧Bk wr w.heap.size 26 [.slice A n c,.slice A' n' c',.slice y d z]∧∀(j:Nat) (c:List En),j < k→p.cols[j]? =some c→Zxd c) (fun i _=>n' - (intOf i).toNat)
    case atStart=>exact ⟨0,by omega,rfl,a,hX,fun j c h=>absurd h (Nat.not_lt_zero _)⟩
    case round=>
     clear hX a x0 x1 x2;obtain ⟨k,hk,rfl,a,hX,g⟩:=hrel;have K:=JZ g;clear g;obtain ⟨x0,x1,x2⟩:=hX.three;rcases JX k n' with hkl | hkl
     ·obtain ⟨es,he⟩:=Y8 (cs:=p.cols) (i:=k) (by rw [← F.out];exact hkl);obtain ⟨b,U,A1,c1,rfl,a0,q,hm⟩:=hv.elem a he;have HE:=JZ he;clear he;have Z:(k:Int) < n':=(by omega);obtain ⟨N,hN⟩:∃N,es.length=N:=⟨_,rfl⟩;have HN:=JZ hN;rw [hN] at q hm;obtain ⟨q1,q2,q3⟩:=hm.len;clear q1 hN;by_cases b4:4 < N
      ·have L:(4:Int) < N:=(by omega);go_wp2;go_ret;exact ⟨_,rfl,by intro h;exact absurd h (by decide),a⟩
      ·have L:decide ((4:Int) < N)=false:=(by simp;omega);go_wp2;clear L q x0 x1 x2
       go_loopw [4] (fun i wr=>∃k2:Nat,k2≤N∧i= .int .i64 k2∧Below w.heap.size w wr∧Bk wr w.heap.size 26 [.slice A n c,.slice (some ⟨b,U,none⟩) n' c',.slice y d z]∧∀(j:Nat) (e:En),j < k2→es[j]? =some e→Uh e.f) (fun i _=>N - (intOf i).toNat)
       case atStart=>exact ⟨0,by omega,rfl,a,hX,fun j c h=>absurd h (Nat.not_lt_zero _)⟩
       case round=>
        clear a hX;obtain ⟨k2,S,rfl,a,hX,g⟩:=hrel;have M:=JZ g;clear g;obtain ⟨x0,x1,x2⟩:=hX.three;obtain ⟨b',V,a1,a2,e0,X,q,I⟩:=hv.elem a HE.out;injection e0 with e0;injection e0 with e1 e2;subst e1 e2;rw [HN.out] at q;rcases JX k2 N with hkl2 | hkl2
        ·obtain ⟨e,l⟩:=YJ (es:=es) (i:=k2) (by rw [HN.out];exact hkl2);obtain ⟨be,C,A3,n3,k3,A4,n4,k4,rfl,D,⟨y0,y1,y2,y3,y4⟩,r⟩:=I.elem (JR _ _) l;have s:=JZ l;clear l I;have O:(k2:Int) < N:=(by omega);obtain ⟨_,_,_,_,_,_,e3,m,o⟩:=id r;injection e3 with e3;simp at e3;obtain ⟨⟨rfl,rfl,rfl⟩,⟨rfl,rfl,rfl⟩⟩:=e3;obtain ⟨t1,t2,t3,t4⟩:=m.len;obtain ⟨u1,u2,u3,u4⟩:=o.len;have HT:=JZ (show _∧_∧_∧_∧_∧_ from ⟨t1,t2,u1,u2,m.ok,o.ok⟩);clear t1 t2 u1 u2 m o r;by_cases d1:2 < n3
         ·have t:(2:Int) < n3:=(by omega);go_wp2;go_ret;exact ⟨_,rfl,by intro h;exact absurd h (by decide),a⟩
         ·have t:decide ((2:Int) < n3)=false:=(by simp;omega);by_cases d2:2 < n4
          ·have u:(2:Int) < n4:=(by omega);go_wp2;go_ret;exact ⟨_,rfl,by intro h;exact absurd h (by decide),a⟩
          ·have u:decide ((2:Int) < n4)=false:=(by simp;omega);have x:Hid (∀(j:Nat) (e:En),j < k2+1→es[j]? =some e→Uh e.f):=JZ (Uy M.out s.out ⟨⟨by have:=HT.out;omega,by have:=HT.out;omega⟩,HT.out.2.2.2.2.1,HT.out.2.2.2.2.2⟩);clear d1 d2;go_wp2;go_roundw
           case rel=>exact ⟨k2+1,by omega,by go_num,a,hX,x.out⟩
           case measure=>simp [intOf];omega
        ·obtain rfl:k2=N:=by omega
         have T:Hid (∀(j:Nat) (c:List En),j < k+1→p.cols[j]? =some c→Zxd c):=JZ (Uy K.out HE.out ⟨by rw [HN.out];omega,fun j e he=>M.out j e (by rw [← HN.out];exact Zji he) he⟩);clear I;go_wp2;go_roundw
         case rel=>exact ⟨k+1,by omega,by go_num,a,hX,T.out⟩
         case measure=>simp [intOf];omega
     ·obtain rfl:n'=k:=by omega
      go_wp2;clear x0 x1 x2
      go_loopw [5] (fun i wr=>∃k:Nat,k≤n∧i= .int .i64 k∧Below w.heap.size w wr∧Bk wr w.heap.size 26 [.slice A n c,.slice A' n' c',.slice y d z]∧∀(j:Nat) (f:RF),j < k→p.cost[j]? =some f→Uh f) (fun i _=>n - (intOf i).toNat)
      case atStart=>exact ⟨0,by omega,rfl,a,hX,fun j c h=>absurd h (Nat.not_lt_zero _)⟩
      case round=>
       clear a hX;obtain ⟨k2,S,rfl,a,hX,g⟩:=hrel;have P:=JZ g;clear g;obtain ⟨x0,x1,x2⟩:=hX.three;rcases JX k2 n with hkl2 | hkl2
       ·obtain ⟨f,l⟩:∃f,p.cost[k2]? =some f:=⟨_,JQ (by rw [← E.out];exact hkl2)⟩;obtain ⟨be,C,A3,n3,k3,A4,n4,k4,rfl,D,⟨y0,y1,y2,y3⟩,r⟩:=hc.elem a l;have s:=JZ l;clear l;have O:(k2:Int) < n:=(by omega);obtain ⟨_,_,_,_,_,_,e3,m,o⟩:=id r;injection e3 with e3;simp at e3;obtain ⟨⟨rfl,rfl,rfl⟩,⟨rfl,rfl,rfl⟩⟩:=e3;obtain ⟨t1,t2,t3,t4⟩:=m.len;obtain ⟨u1,u2,u3,u4⟩:=o.len;have HT:=JZ (show _∧_∧_∧_∧_∧_ from ⟨t1,t2,u1,u2,m.ok,o.ok⟩);clear t1 t2 u1 u2 m o r;by_cases d1:2 < n3
        ·have t:(2:Int) < n3:=(by omega);go_wp2;go_ret;exact ⟨_,rfl,by intro h;exact absurd h (by decide),a⟩
        ·have t:decide ((2:Int) < n3)=false:=(by simp;omega);by_cases d2:2 < n4
         ·have u:(2:Int) < n4:=(by omega);go_wp2;go_ret;exact ⟨_,rfl,by intro h;exact absurd h (by decide),a⟩
         ·have u:decide ((2:Int) < n4)=false:=(by simp;omega);have x:Hid (∀(j:Nat) (f:RF),j < k2+1→p.cost[j]? =some f→Uh f):=JZ (Uy P.out s.out ⟨⟨by have:=HT.out;omega,by have:=HT.out;omega⟩,HT.out.2.2.2.2.1,HT.out.2.2.2.2.2⟩);clear d1 d2;go_wp2;go_roundw
          case rel=>exact ⟨k2+1,by omega,by go_num,a,hX,x.out⟩
          case measure=>simp [intOf];omega
       ·obtain rfl:n=k2:=by omega
        go_wp2;clear x0 x1 x2
        go_loopw [6] (fun i wr=>∃k:Nat,k≤d∧i= .int .i64 k∧Below w.heap.size w wr∧Bk wr w.heap.size 26 [.slice A n c,.slice A' n' c',.slice y d z]∧∀(j:Nat) (f:RF),j < k→p.right[j]? =some f→Uh f) (fun i _=>d - (intOf i).toNat)
        case atStart=>exact ⟨0,by omega,rfl,a,hX,fun j c h=>absurd h (Nat.not_lt_zero _)⟩
        case round=>
         clear a hX;obtain ⟨k2,S,rfl,a,hX,g⟩:=hrel;have R:=JZ g;clear g;obtain ⟨x0,x1,x2⟩:=hX.three;rcases JX k2 d with hkl2 | hkl2
         ·obtain ⟨f,l⟩:∃f,p.right[k2]? =some f:=⟨_,JQ (by rw [← G.out];exact hkl2)⟩;obtain ⟨be,C,A3,n3,k3,A4,n4,k4,rfl,D,⟨y0,y1,y2,y3⟩,r⟩:=hr.elem a l;have s:=JZ l;clear l;have O:(k2:Int) < d:=(by omega);obtain ⟨_,_,_,_,_,_,e3,m,o⟩:=id r;injection e3 with e3;simp at e3;obtain ⟨⟨rfl,rfl,rfl⟩,⟨rfl,rfl,rfl⟩⟩:=e3;obtain ⟨t1,t2,t3,t4⟩:=m.len;obtain ⟨u1,u2,u3,u4⟩:=o.len;have HT:=JZ (show _∧_∧_∧_∧_∧_ from ⟨t1,t2,u1,u2,m.ok,o.ok⟩);clear t1 t2 u1 u2 m o r;by_cases d1:2 < n3
          ·have t:(2:Int) < n3:=(by omega);go_wp2;go_ret;exact ⟨_,rfl,by intro h;exact absurd h (by decide),a⟩
          ·have t:decide ((2:Int) < n3)=false:=(by simp;omega);by_cases d2:2 < n4
           ·have u:(2:Int) < n4:=(by omega);go_wp2;go_ret;exact ⟨_,rfl,by intro h;exact absurd h (by decide),a⟩
           ·have u:decide ((2:Int) < n4)=false:=(by simp;omega);have x:Hid (∀(j:Nat) (f:RF),j < k2+1→p.right[j]? =some f→Uh f):=JZ (Uy R.out s.out ⟨⟨by have:=HT.out;omega,by have:=HT.out;omega⟩,HT.out.2.2.2.2.1,HT.out.2.2.2.2.2⟩);clear d1 d2;go_wp2;go_roundw
            case rel=>exact ⟨k2+1,by omega,by go_num,a,hX,x.out⟩
            case measure=>simp [intOf];omega
         ·obtain rfl:d=k2:=by omega
          go_wp2;go_ret;exact ⟨_,rfl,fun _=>⟨by rw [← G.out];omega,by rw [← F.out];omega,by rw [← E.out];omega,fun j c h=>K.out j c (by rw [F.out];exact Zji h) h,fun j c h=>P.out j c (by rw [E.out];exact Zji h) h,fun j c h=>R.out j c (by rw [G.out];exact Zji h) h⟩,a⟩
namespace Pl
theorem Zmc.ft {p:LPd} (h:Zmc p) (hi:∀(j:Nat) (c:List En),p.cols[j]? =some c→EnI c) (hz:lpErr p=0):p.Ft 2:=by
 have h1:=h.1;have h2:=h.2.1;have h3:5^p.right.length * 2≤250:=by
  have:p.right.length=0∨p.right.length=1∨p.right.length=2∨p.right.length=3:=by omega
  rcases this with e | e | e | e <;> rw [e] <;> decide
 obtain ⟨a1,a2,a3,a4,_⟩:=Wq hz;exact ⟨⟨h.ok hi,a4,by omega,a3,by omega,by decide,by omega⟩,by omega,by omega⟩
end Pl
namespace Pl
theorem Zxf {p:LPd} (h:p.right.length≤3):(Zoj p).basis.length≤1099511627776:=by
 by_cases hz:lpErr p=0
 ·rw [Zbj hz,(Zfb (Zcg p)).2];omega
 ·rw [Zjf hz];exact Nat.zero_le _
end Pl
theorem Zsy [Old] (v1:Value) (p:LPd) (K:Nat) (w:World) (h:LpM w v1 p) (ok:p.Ok K) (hK:K≤34359738368) (hz:lpErr p≠0) (hOl:Zb w:=by (repeat (first | assumption | exact Zb.up (by assumption) hOl | exact Zb.up (Hid.out (by assumption)) hOl | with_reducible refine Zb.set ?_ _ _ | with_reducible refine Zb.mk_ ?_ _ | with_reducible refine Zb.dr ?_ | with_reducible refine Zb.drN ?_ | refine Zb.up (by assumption) ?_ | refine Zb.up (Hid.out (by assumption)) ?_))):
 Calls Tryz.prog 17 #[v1] w fun e w'=>e= .returned (.tuple #[.agg #[.int .i64 0,.slice none 0 0,.int .i64 0],.int .i64 (lpErr p)])∧Below w.heap.size w w':=by
 have x:=hOl.le;obtain ⟨A,n,c,A',n',c',s,t,u,rfl,hc,hv,hr⟩:=id h;obtain ⟨W,hW,k,a⟩:=X9 w (.slice A n c) (.slice A' n' c') (.slice s t u);obtain ⟨W2,v,hR,b⟩:=Xa W (.int .i64 0) (.slice none 0 0) (.int .i64 0);have i:=k.later b;have d:=Za a b a.size;have l:W.heap.size=w.heap.size+1:=by rw [← hW];simp
 rw [l] at hR;have m:=JZ h;have o:=JZ ok;clear b h hc hv hr k a ok;obtain ⟨x0,x1,x2⟩:=i.three;obtain ⟨q,hq⟩:∃q,lpErr p=q:=⟨_,rfl⟩;rw [hq] at hz ⊢;have r:=JZ hq;clear hq;go_enter Tryz.func17,Tryz.ntmps17;go_wp2_with fail;clear hW v;refine (Vy _ p K _ (m.out.below d) o.out hK).mono ?_;rw [r.out];have y:(q !=0)=true:=by simpa using hz
 clear hz;rintro _ w3 ⟨rfl,g⟩;have f:=hR.later g;have j:=Za d g d.size;clear x0 x1 x2 i hR d g;obtain ⟨r0,r1,r2⟩:=f.three;obtain ⟨f0,f1,f2⟩:=f.threeF;go_wp2;obtain ⟨k1,k2,k3,k4⟩:=Ziv (B:=w.heap.size) (w0:=w) f j (by omega) (.int .i64 0) (.slice none 0 0) (.int .i64 0);refine YR Tryz.results17 Tryz.underlying29 (by kernel_rfl) rfl k1 rfl ?_;exact ⟨rfl,k3⟩
theorem Zok [Old] (v1:Value) (p:LPd) (K:Nat) (w:World) (h:LpM w v1 p) (ok:p.Ok K) (hK:K≤34359738368) (hF:lpErr p=0→p.Ft K) (hOl:Zb w:=by (repeat (first | assumption | exact Zb.up (by assumption) hOl | exact Zb.up (Hid.out (by assumption)) hOl | with_reducible refine Zb.set ?_ _ _ | with_reducible refine Zb.mk_ ?_ _ | with_reducible refine Zb.dr ?_ | with_reducible refine Zb.drN ?_ | refine Zb.up (by assumption) ?_ | refine Zb.up (Hid.out (by assumption)) ?_))):
 Calls Tryz.prog 17 #[v1] w fun o w'=>∃v',o= .returned (.tuple #[v',.int .i64 (lpErr p)])∧StO w.heap.size w' v' (Zoj p)∧Below w.heap.size w w':=by
 have a:=hOl.le;by_cases hz:lpErr p=0
 ·rw [Zbj hz,hz];exact Zsp v1 p K w h (hF hz).1 hz
 ·rw [Zjf hz];refine (Zsy v1 p K w h ok hK hz).mono ?_;rintro _ w' ⟨rfl,hb⟩;exact ⟨_,rfl,⟨none,0,0,rfl,ZI.nil _ _⟩,hb⟩
theorem Zck [Old] (v:Value) (p:LPd) (w:World) (h:LpM w v p) (hi:∀(j:Nat) (c:List En),p.cols[j]? =some c→EnI c) (hOl:Zb w:=by (repeat (first | assumption | exact Zb.up (by assumption) hOl | exact Zb.up (Hid.out (by assumption)) hOl | with_reducible refine Zb.set ?_ _ _ | with_reducible refine Zb.mk_ ?_ _ | with_reducible refine Zb.dr ?_ | with_reducible refine Zb.drN ?_ | refine Zb.up (by assumption) ?_ | refine Zb.up (Hid.out (by assumption)) ?_))):
 Calls Tryz.prog 10 #[v] w fun e w'=>e= .returned (.bool true)∧Below w.heap.size w w':=by
 have aj:=hOl.le;obtain ⟨A0,n0,c0,A1,n1,c1,A2,m,c2,rfl,_,_,_⟩:=id h;obtain ⟨ak,a8,X0,C⟩:=X9 w (.slice A0 n0 c0) (.slice A1 n1 c1) (.slice A2 m c2);have a1:=h.below C;clear h;go_enter Tryz.func10,Tryz.ntmps10;have o:=JZ a1;have r:=JZ X0;clear a1 X0;obtain ⟨k,l,n⟩:=r.out.three;go_wp2_with fail;clear a8;refine (Zmd _ p _ o.out).mono ?_;rintro _ am ⟨sb,rfl,ab,hb⟩;have hc:=hb;have b:=JZ (o.out.below hc);have i:=JZ (r.out.later hc);have a:=Za C hc C.size;clear k l n;clear o r C hc hb;have a2:=JZ ab;clear ab
 cases sb with
 | false=>
  go_wp2_with fail;refine (Zmb _).mono ?_;rintro _ T ⟨rfl,hb⟩;have hc:=hb;have f:=JZ (b.out.below hc);have q:=JZ (i.out.later hc);have d:=Za a hc a.size;clear b i a hc hb;go_wp2;go_ret;exact ⟨rfl,d⟩
 | true=>
  have J:=JZ (a2.out rfl);have A:=JZ (J.out.ok hi);have a3:Hid (lpErr p=0→p.Ft 2):=JZ (J.out.ft hi);have a4:Hid ((Zoj p).basis.length≤1099511627776):=JZ (Zxf J.out.1);clear hi a2;obtain ⟨k,l,n⟩:=i.out.three;go_wp2_with fail;refine (Zhe _ p 2 _ b.out A.out a3.out).mono ?_;obtain ⟨er,S⟩:∃er,er=lpErr p:=⟨_,rfl⟩;have K:=JZ S;rw [← S];clear S;obtain ⟨t,ht⟩:∃t,t=Zoj p:=⟨_,rfl⟩;rw [← ht] at a4 ⊢;have ad:=JZ ht;clear ht;rintro _ T ⟨an,rfl,⟨U,V,X,rfl,hI⟩,hb⟩;obtain ⟨al,a9,hB,hn⟩:=Xa T (.int .i64 t.phase) (.slice U V X) (.int .i64 t.pivots);have hc:=Za hb hn hb.size;have f:=JZ (b.out.below hc);have q:=JZ (i.out.later hc);have s:=JZ (StM.below ((⟨U,V,X,rfl,hI.ints⟩:StM T (.agg #[.int .i64 t.phase,.slice U V X,.int .i64 t.pivots]) t)) hn);have u:=JZ hB;have d:=Za a hc a.size;clear k l n;clear b i a hc hb hn hB;clear hI;obtain ⟨k,l,n⟩:=q.out.three;go_wp2_with fail;clear a9;refine (Zok _ p 2 _ f.out A.out (by decide) a3.out).mono ?_;rw [← K.out,← ad.out];rintro _ ac ⟨ao,rfl,⟨Y,Z,a0,rfl,hI⟩,hb⟩;obtain ⟨ae,aa,hB,hn⟩:=Xa ac (.int .i64 t.phase) (.slice Y Z a0) (.int .i64 t.pivots);have hc:=Za hb hn hb.size;have x:=JZ (f.out.below hc);have a5:=JZ (q.out.later hc);have L:=JZ (s.out.below hc);have M:=JZ (u.out.later hc);have N:=JZ (StM.below ((⟨Y,Z,a0,rfl,hI.ints⟩:StM ac (.agg #[.int .i64 t.phase,.slice Y Z a0,.int .i64 t.pivots]) t)) hn);have O:=JZ hB;have y:=Za d hc d.size;clear k l n;clear f q s u d hc hb hn hB;clear hI;obtain ⟨k,l,n⟩:=a5.out.three;obtain ⟨D,E,F⟩:=M.out.three;obtain ⟨G,H,I⟩:=O.out.three;go_wp2_with fail;clear aa;have D0:=Zm k;have D1:=Zm l;have D2:=Zm n;have D3:=Zm D;have D4:=Zm E;have D5:=Zm F;have D6:=Zm G;have D7:=Zm H;have D8:=Zm I;have P:=Zf ae;clear k l n D E F G H I;refine Zp 19 [0,2,1,3,4,5,6,7,8,9,10,11,12,13,14,15,16,17,18] (by kernel_rfl) (by kernel_rfl) ?_;repeat ((first | (refine Zd (v:=?_) rfl rfl rfl ?_ ?_;rotate_left;(· (intro _ g;go_simp;(try go_bits);(try with_reducible rfl)))) | (refine Zj (v:=?_) rfl rfl rfl ?_ ?_;rotate_left;(· (intro _ g;go_simp;(try go_bits);(try with_reducible rfl)))) | refine Zk rfl rfl rfl ?_ | refine Xl rfl rfl rfl (by assumption) ?_);(try simp only [Act.put,pu1,pu2,pu3,pu4,pu5,pu6]))
  refine Zh rfl rfl (fun KR hKR=>?_);go_simp;with_reducible refine (Ua _ p 2 _ (x.out.below P) A.out).mono ?_
  rw [← K.out];rintro _ x1 ⟨rfl,af⟩;have B:=Za P af P.size;refine hKR.out _ _ (Or.inr B) ?_;clear hKR KR;(try simp only [Act.put,pu1,pu2,pu3,pu4,pu5,pu6]);repeat ((first | (refine Zd (v:=?_) rfl rfl rfl ?_ ?_;rotate_left;(· (intro _ g;go_simp;(try go_bits);(try with_reducible rfl)))) | (refine Zj (v:=?_) rfl rfl rfl ?_ ?_;rotate_left;(· (intro _ g;go_simp;(try go_bits);(try with_reducible rfl)))) | refine Zk rfl rfl rfl ?_ | refine Xl rfl rfl rfl (by assumption) ?_);(try simp only [Act.put,pu1,pu2,pu3,pu4,pu5,pu6]))
  refine Zh rfl rfl (fun KR hKR=>?_);go_simp;with_reducible refine (Vy _ p 2 _ (x.out.below B) A.out (by decide)).mono ?_
  rw [← K.out];rintro _ x2 ⟨rfl,ag⟩;have z:=Za B ag B.size;refine hKR.out _ _ (Or.inr z) ?_;clear hKR KR;(try simp only [Act.put,pu1,pu2,pu3,pu4,pu5,pu6]);repeat ((first | (refine Zd (v:=?_) rfl rfl rfl ?_ ?_;rotate_left;(· (intro _ g;go_simp;(try go_bits);(try with_reducible rfl)))) | (refine Zj (v:=?_) rfl rfl rfl ?_ ?_;rotate_left;(· (intro _ g;go_simp;(try go_bits);(try with_reducible rfl)))) | refine Zk rfl rfl rfl ?_ | refine Xl rfl rfl rfl (by assumption) ?_);(try simp only [Act.put,pu1,pu2,pu3,pu4,pu5,pu6]))
  refine Zh rfl rfl (fun KR hKR=>?_);go_simp;with_reducible refine (Zjg _ _ t _ (L.out.below z) (N.out.below z) a4.out).mono ?_
  rintro _ x3 ⟨rfl,ah⟩;have R:=Za z ah z.size;refine hKR.out _ _ (Or.inr R) ?_;clear hKR KR;(try simp only [Act.put,pu1,pu2,pu3,pu4,pu5,pu6]);repeat ((first | (refine Zd (v:=?_) rfl rfl rfl ?_ ?_;rotate_left;(· (intro _ g;go_simp;(try go_bits);(try with_reducible rfl)))) | (refine Zj (v:=?_) rfl rfl rfl ?_ ?_;rotate_left;(· (intro _ g;go_simp;(try go_bits);(try with_reducible rfl)))) | refine Zk rfl rfl rfl ?_ | refine Xl rfl rfl rfl (by assumption) ?_);(try simp only [Act.put,pu1,pu2,pu3,pu4,pu5,pu6]))
  refine Zh rfl rfl (fun KR hKR=>?_);go_simp;with_reducible refine (Zmb _).mono ?_
  rintro _ x4 ⟨rfl,ai⟩;have a6:=Za R ai R.size;refine hKR.out _ _ (Or.inr a6) ?_;clear hKR KR;(try simp only [Act.put,pu1,pu2,pu3,pu4,pu5,pu6]);repeat ((first | (refine Zd (v:=?_) rfl rfl rfl ?_ ?_;rotate_left;(· (intro _ g;go_simp;(try go_bits);(try with_reducible rfl)))) | (refine Zj (v:=?_) rfl rfl rfl ?_ ?_;rotate_left;(· (intro _ g;go_simp;(try go_bits);(try with_reducible rfl)))) | refine Zk rfl rfl rfl ?_ | refine Xl rfl rfl rfl (by assumption) ?_);(try simp only [Act.put,pu1,pu2,pu3,pu4,pu5,pu6]))
  refine Zx ?_;have a7:=Za y a6 y.size;clear D0 D1 D2 D3 D4 D5 D6 D7 D8;go_wp2;go_ret;exact ⟨rfl,a7⟩
end Go.Proofs.YtncmobkhenfhpaaGreat
