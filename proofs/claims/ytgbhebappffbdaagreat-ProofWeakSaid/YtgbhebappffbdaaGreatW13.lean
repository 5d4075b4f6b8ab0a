/- Lemmas of the claim; no condition. -/
import Derived.Test.YtgbhebappffbdaaGreatW12
set_option linter.all false
set_option maxRecDepth 100000
set_option maxHeartbeats 40000000
namespace Go.Proofs.YtgbhebappffbdaaGreat
open Go.RowKit
open Pl
attribute [local go_sem ↓] Go.wp_at_zero Go.wp_at_succ
section
def Yhy (U w:World) (e:Nat) (p:LPd) (s:LSt) (K:Nat) (A:Option Addr) (n c:Nat) (A':Option Addr) (n' c':Nat) (A'':Option Addr) (n'' c'':Nat) (Ab:Option Addr) (cb gB:Nat) (vz:Value):Prop:=
 ∃bB bi,(Y1 U (.slice A n c) p.cost∧XW U (.slice A' n' c') p.cols∧Y1 U (.slice A'' n'' c'') p.right)∧(U.heap.size≤e∧U.heap.size≤bB∧bB≤w.heap.size∧bi≤w.heap.size)∧ZP U.heap.size w (.slice Ab p.right.length cb) s.basis∧(∀b,(Value.slice Ab p.right.length cb).ownBlock=some b→b < bB)∧
  Zsu bB bi w gB p.right.length K (s.mat p)∧ZU U.heap.size w vz (zL p s)∧(∀b,vz.ownBlock=some b→b < bi)∧Below U.heap.size U w
def Ycx (U w:World) (e:Nat) (p:LPd) (s:LSt) (K:Nat):Prop:=
 ∃A n c A' n' c' A'' n'' c'' Ab cb gB vz,Bk w e 129 [.slice A n c,.slice A' n' c',.slice A'' n'' c'',.int .i64 s.phase,.slice Ab p.right.length cb,.int .i64 s.pivots,.pointer (some ⟨gB,0,none⟩),vz]∧Yhy U w e p s K A n c A' n' c' A'' n'' c'' Ab cb gB vz
section
variable {U w w':World} {e:Nat} {p:LPd} {s:LSt} {K:Nat} {A:Option Addr} {n c:Nat} {A':Option Addr} {n' c':Nat} {A'':Option Addr} {n'' c'':Nat} {Ab:Option Addr} {cb gB:Nat} {vz:Value}
theorem Yhy.below (h:Yhy U w e p s K A n c A' n' c' A'' n'' c'' Ab cb gB vz) (hb:Below w.heap.size w w'):Yhy U w' e p s K A n c A' n' c' A'' n'' c'' Ab cb gB vz:=by
 obtain ⟨bB,bi,h1,⟨h2,h3,h4,h5⟩,h6,h7,h8,h9,b,a⟩:=h;have:=hb.size;exact ⟨bB,bi,h1,⟨h2,h3,by omega,by omega⟩,h6.below hb,h7,h8.below hb,h9.below hb,b,Za a hb a.size⟩
theorem Yhy.cell {cs:List Value} (h:Yhy U w e p s K A n c A' n' c' A'' n'' c'' Ab cb gB vz) (hB:Bk w e 129 cs) (i:Nat) (v:Value):Yhy U (w.setCell ⟨e,i,none⟩ v) e p s K A n c A' n' c' A'' n'' c'' Ab cb gB vz:=by
 obtain ⟨bB,bi,h1,⟨h2,h3,h4,h5⟩,h6,h7,h8,h9,a,b⟩:=h;have hk:=Zg.setCell hB i v;exact ⟨bB,bi,h1,⟨h2,h3,by simpa using h4,by simpa using h5⟩,h6.but hk (by decide),h7,h8.but hk (by decide) (by decide) (by decide) (by decide) (by decide) (by decide) (by decide),h9.but hk (by decide) (by decide),a,b.setCell (p:=⟨e,i,none⟩) h2 v⟩
theorem Ycx.below (h:Ycx U w e p s K) (hb:Below w.heap.size w w'):Ycx U w' e p s K:=by
 obtain ⟨A,n,c,A',n',c',a,b,d,Ab,cb,gB,vz,h1,h2⟩:=h;exact ⟨A,n,c,A',n',c',a,b,d,Ab,cb,gB,vz,h1.later hb,h2.below hb⟩
theorem Ycx.bel (h:Ycx U w e p s K):Below U.heap.size U w:=by
 obtain ⟨A,n,c,A',n',c',a,b,d,Ab,cb,gB,vz,h1,bB,bi,_,_,_,_,_,_,_,h2⟩:=h;exact h2
theorem Ycx.r (h:Ycx U w e p s K):Yct w e p s K:=by
 obtain ⟨A,n,c,A',n',c',a,b,d,Ab,cb,gB,vz,h1,bB,bi,⟨g1,g2,g3⟩,_,h6,_,h8,h9,_,f⟩:=h;have hb:Below U.heap.size U w:=f;exact ⟨Ab,cb,bB,bi,gB,vz,⟨A,n,c,A',n',c',a,b,d,h1,g1.below hb,g2.below hb,g3.below hb⟩,h6.ints,h8,h9.frs⟩
end
namespace Pl
theorem Ygl {p:LPd} {s:LSt} (h:s.phase=2):settleQ p s=s:=by
 obtain ⟨a,b,c⟩:=s;simp only at h;subst h;unfold settleQ;simp
theorem Zyi {p:LPd} {s:LSt} {k:Nat} (hk:k < (zL p s).length) (h1:s.at_ k < 0) (h2:qAt (zL p s) k≠0):settleQ p s=s:=by
 unfold settleQ;rw [Zea h1 h2 hk];rfl
theorem Ycy {p:LPd} {s:LSt} (h:∀k,k < (zL p s).length→s.at_ k < 0→qAt (zL p s) k=0):settleQ p s=⟨2,s.basis,s.pivots⟩:=by
 unfold settleQ;rw [Zfq h];rfl
end Pl
theorem Zyj (U:World) (e:Nat) (p:LPd) (s:LSt) (K:Nat) (w:World) (h:Ycx U w e p s K) (F:p.Ft K):
 Calls Tryz.prog 101 #[.pointer (some ⟨e,0,none⟩)] w fun o w'=>o= .returned (.tuple #[])∧Ycx U w' e p (settleQ p s) K:=by
 have HO:=JZ h;have HR:=JZ h.r.reg;obtain ⟨Ab,cb,base,bi,gB,vz,h1,h2,h3,h4⟩:=h.r;obtain ⟨y3,y4,-,-,y7⟩:=h1.cells;obtain ⟨ph,hp⟩:∃ph,ph=s.phase:=⟨_,rfl⟩;have J:=JZ hp;rw [← hp] at y3;obtain ⟨m,hm⟩:∃m,m=p.right.length:=⟨_,rfl⟩;have L:=JZ hm;rw [← hm] at y4;have a5:m≤7:=by rw [hm];exact F.2.1
 obtain ⟨-,E,a3⟩:=h2.len;rw [← hm] at E;have l:Hid ((zL p s).length=m):=JZ (by rw [hm];exact Zfn HR.out);obtain ⟨Az,cz,rfl,G,a4⟩:=h4.shape;rw [l.out] at h4 G y7;have HI:=JZ h2;have M:=JZ h4;have a6:=JZ y3;have a7:=JZ y4;have N:=JZ y7;clear h h1 h2 h3 h4 F hp hm;by_cases y:ph=2
 ·subst y;clear y4 y7;go_enter Tryz.func101,Tryz.ntmps101;go_wp2;refine bodyPost_ret (results_none rfl _ _ _) rfl ?_;exact ⟨rfl,by rw [Ygl J.out.symm];exact HO.out⟩
 ·have O:(ph==2)=false:=by simpa using y
  clear y7;go_enter Tryz.func101,Tryz.ntmps101;go_wp2;clear y3 y4 O y
  go_loopw [14] (fun x wr=>∃k:Nat,k≤m∧x= .int .i64 k∧Below w.heap.size w wr∧∀i,i < k→s.at_ i < 0→qAt (zL p s) i=0) (fun x _=>m - (intOf x).toNat)
  case atStart=>exact ⟨0,by omega,rfl,JR _ _,fun i hi=>absurd hi (by omega)⟩
  case round=>
   obtain ⟨k,hk,rfl,a,H⟩:=hrel;have u:=JZ H;clear H;rcases JX k m with hkl | hkl
   ·have a8:(k:Int) < m:=(by omega);obtain ⟨bb,ob,z,rfl,z0,I,-,-⟩:=HI.out.at_ (show k < p.right.length by rw [← L.out];exact hkl);have B:Hid (s.at_ k=z):=JZ (LSt.at_eq I);obtain ⟨f,hf⟩:=ZH (fs:=zL p s) (i:=k) (by rw [l.out];exact hkl);have HQ:Hid (qAt (zL p s) k=f.q):=JZ (ZF hf);have z1:=Zk a z0;clear I z0;by_cases a2:z < 0
    ·obtain ⟨b5,o5,A5,n5,c5,A6,n6,c6,rfl,_,⟨x0,x1,x2,x3⟩,t⟩:=M.out.elem a hf;have y7:=Zk a N.out;have C:qs f.q=0∨qs f.q=1∨qs f.q= -1:=(by have:=UY f.q;omega);clear hf;by_cases b:qs f.q=0
     ·have v:=JZ (Z5.1 b);clear C;go_wp2_with fail;refine (ZA _ f _ t).mono ?_;rw [b];rintro _ w3 ⟨rfl,j⟩;have d:=Za a j a.size;clear a j t x0 x1 x2 x3 y7 b z1;go_wp2;go_roundw
      case rel=>exact ⟨k+1,by omega,by go_num,d,fun i hi=>by
       by_cases g:i=k
       ·rw [g];exact fun _=>by rw [HQ.out];exact v.out
       ·exact u.out i (by omega)⟩
      case measure=>simp [intOf];omega
     ·have v:Hid (f.q≠0):=JZ fun g=>b (Z5.2 g)
      have a9:(qs f.q !=0)=true:=(by simpa using b);clear C b;go_wp2_with fail;refine (ZA _ f _ t).mono ?_;rintro _ w3 ⟨rfl,j⟩;have d:=Za a j a.size;have D:settleQ p s=s:=Zyi (k:=k) (by rw [l.out];exact hkl) (by rw [B.out];exact a2) (by rw [HQ.out];exact v.out);clear a j t x0 x1 x2 x3 y7 z1;go_wp2;refine bodyPost_ret (results_none rfl _ _ _) rfl ?_;exact ⟨rfl,by rw [D];exact HO.out.below d⟩
    ·have aa:0≤z:=(by omega);clear hf;go_wp2;go_roundw
     case rel=>exact ⟨k+1,by omega,by go_num,a,fun i hi=>by
      by_cases g:i=k
      ·rw [g,B.out];intro h;omega
      ·exact u.out i (by omega)⟩
     case measure=>simp [intOf];omega
   ·obtain rfl:m=k:=by omega
    obtain ⟨A,n,c,A',n',c',T,V,X,Y,Z,a0,a1,hB,hI⟩:=HO.out.below a;have t3:=hB.cellAt 3 rfl;have f3:=hB.frozen 3;have P:=hI.cell hB 3 (.int .i64 2);have R:=hB.set_ 3 (.int .i64 2);have S:Hid (settleQ p s=⟨2,s.basis,s.pivots⟩):=JZ (Ycy (by rw [l.out];exact u.out));clear hB hI;go_wp2
    go_end0
    exact ⟨rfl,by rw [S.out];exact ⟨A,n,c,A',n',c',T,V,X,Y,Z,a0,a1,R,P⟩⟩
end
theorem Xq.news {w:World} {ad:Addr} {n c:Nat} {zs:List Int} (h:Xq w (.slice (some ad) n c) zs):∀j u,(zs.map fun z=>Value.int .i64 z)[j]? =some u→w.cell? (ad.add j)=some u:=by
 obtain ⟨A,c',hv,hc,hm,d,f⟩:=h;injection hv with e1 e2 e3;subst e1;intro j u hj;have a:j < zs.length:=by have h9:=(List.getElem?_eq_some_iff.1 hj).1;simpa using h9
 obtain ⟨b,g,e,hx⟩:=d (by omega);have e:=Option.some.inj e;rw [e,Zpp,hx j a];simp [JQ a] at hj;rw [← hj];simp [List.getD,JQ a]
theorem Zyk (v:Value) (zs:List Int) (w:World) (h:Xq w v zs) (hs:zs.length≤1099511627776):
 Calls Tryz.prog 96 #[v] w fun o w'=>∃v',o= .returned v'∧ZP w.heap.size w' v' zs∧Below w.heap.size w w':=by
 have HI:=JZ h;obtain ⟨A,c,rfl,hc,hm⟩:=h.shape;obtain ⟨n,hn⟩:∃n,n=zs.length:=⟨_,rfl⟩;rw [← hn] at hc hs ⊢;have HN:=JZ hn;have i:Hid (∀z∈zs,-9223372036854775808≤z∧z≤9223372036854775807):=JZ (by obtain ⟨_,_,_,_,_,_,h⟩:=h;exact h);have d:=fun (W:World) (a:Option Addr)=>Go.Lib.run_eql_slice_nil (P:=Tryz.prog) W 22 3 a n c 0 0 Tryz.underlying22
 obtain ⟨i0,hi,l,m,p⟩:=info_parts info_intT
 cases A with
 | none=>
  have j:n=0:=by
   rcases JV n with e | e
   ·exact e
   ·obtain ⟨b,q,_,e1,_⟩:=h.at_ (show 0 < zs.length by omega);cases e1
  subst j;obtain rfl:zs=[]:=List.length_eq_zero_iff.1 HN.out.symm;have:=d w none;clear d h hn;go_enter Tryz.func96,Tryz.ntmps96;go_wp2;go_ret;exact ⟨_,rfl,ZP.nil _ _,JR _ _⟩
 | some ad=>
  have:=d w (some ad);clear d h hn;go_enter Tryz.func96,Tryz.ntmps96;go_wp2_with (at_builtin;refine wpList_append_own_at _ rfl (.tmp 5) (.tmp 6) _ rfl w.heap.size 3 i0 _ 1 8 Tryz.underlying22 hi l m p rfl (by decide) (.slice (some ⟨w.heap.size,0,none⟩) 0 0) 0 [] rfl ?c0 ad n c (zs.map fun z=>Value.int .i64 z) rfl ?c1 ?c2 ?c6 ?c3 ?c4 ?c5 ?_)
  case c0=>exact World.ownsRow_made w #[] 0 (JY _) (by simp) (by simp)
  case c1=>simp;have:=HN.out;omega
  case c2=>
   have:=(HI.out.below ((JR _ _).alloc (JY _) (.cells #[] 3))).news;exact this
  case c3=>unfold maxLen;omega
  case c4=>omega
  case c5=>simp
  case c6=>intro u hu;simp at hu;obtain ⟨z,_,rfl⟩:=hu;rfl
  ·intro v' w1 f g _ _;go_wp2;go_ret;refine ⟨_,rfl,⟨by have e:=HN.out;rw [e] at f;simpa using f,i.out⟩,((JR _ _).alloc (JY _) _).grown g (by simp) (fun k hk=>?_)⟩;simp [Value.ownBlock] at hk;omega
section
open Go.Maps (int_keyed keyOf_int_mk)
theorem Zft {e:TypeId} (he:Tryz.prog.underlying e=some .bool) {v:Value} {b:Bool} {ps:List MemPlace} (h:plainElem (H:=Unit) Tryz.prog e v=some (.lit (.bool b),ps)):v= .bool b:=by
 unfold plainElem at h;rw [he] at h
 cases v <;> simp at h
 rw [h.1]
def Zbo (w:World) (b n:Nat) (zs:List Int):Prop:=
 ∃D:DataW Unit,w.ownsMap Tryz.prog 3 (plainElem Tryz.prog 4) b n D∧Go.Maps.IsMap D∧∀z:Int,D.atKey (.int .i64 z) (.lit (.bool false))= .lit (.bool (decide (z∈zs)))
theorem Zbo.made (w:World):Zbo (w.alloc (.map #[] 0)) w.heap.size 0 []:=
 ⟨.map [],World.ownsMap_made w _ _ _,Go.Maps.isMap_empty,fun z=>by simp [DataW.atKey]⟩
theorem Yhz (z:Int) (h0: -9223372036854775808≤z) (h1:z≤9223372036854775807):keyOf Tryz.prog 3 (.int .i64 z)=some (.int .i64 z):=keyOf_int_mk Tryz.underlying3 (by
 have e1:IntKind.i64.min= -9223372036854775808:=by decide
 have e2:IntKind.i64.max=9223372036854775807:=by decide
 simp [Lit.wf,e1,e2];omega)
theorem Zbo.look {w:World} {b n:Nat} {zs:List Int} (h:Zbo w b n zs) (z:Int) (h0: -9223372036854775808≤z) (h1:z≤9223372036854775807):
 (Instr.lookup 125 (.map (some b)) (.int .i64 z) false).run Tryz.prog w= .ok (.bool (decide (z∈zs))) w:=by
 obtain ⟨D,ho,hm,hd⟩:=h;obtain ⟨v,ps,hr,hv⟩:=ho.lookup (int_keyed Tryz.underlying3) Tryz.underlying125 (z:= .bool false) (by kernel_rfl) (plainElem_bool Tryz.underlying4 false) (Yhz z h0 h1);rw [hd z] at hv;rw [hr,Zft Tryz.underlying4 hv]
theorem Zbo.put {w:World} {b n:Nat} {zs:List Int} (h:Zbo w b n zs) (hn:n < 1000) (z:Int) (h0: -9223372036854775808≤z) (h1:z≤9223372036854775807):
 ∃w',(Instr.mapUpdate 125 (.map (some b)) (.int .i64 z) (.bool true)).run Tryz.prog w= .ok () w'∧Zbo w' b (n+1) (z::zs)∧w.grownBy w' (some b):=by
 obtain ⟨D,ho,hm,hd⟩:=h;obtain ⟨w',hr,a,hg⟩:=ho.update (int_keyed Tryz.underlying3) Tryz.underlying125 (by unfold maxLen;omega) (Yhz z h0 h1) (plainElem_bool Tryz.underlying4 true);refine ⟨w',hr,⟨_,a,hm.put _ _,fun y=>?_⟩,hg⟩;by_cases e:y=z
 ·subst e;rw [Go.Maps.atKey_put_same hm (by trivial)];simp
 ·rw [Go.Maps.atKey_put_other (by intro g;injection g with _ g;exact e g),hd y];simp [e]
def Yol (w:World) (p:LPd) (s:LSt) (K:Nat) (o:Ending) (w':World):Prop:=
 Below w.heap.size w w'∧((lpErr p≠0∧o= .returned (.tuple #[.pointer none,.int .i64 (lpErr p)]))∨(lpErr p=0∧vsErr p s≠0∧o= .returned (.tuple #[.pointer none,.int .i64 (vsErr p s)]))∨
  (lpErr p=0∧vsErr p s=0∧∃e,o= .returned (.tuple #[.pointer (some ⟨e,0,none⟩),.int .i64 0])∧Ycx w w' e p (settleQ p s) K))
theorem Zha (v1 v2:Value) (p:LPd) (s:LSt) (K:Nat) (w:World) (h:LpM w v1 p) (h2:StM w v2 s) (ok:p.Ok K) (hF:lpErr p=0→p.Ft K) (hbl:s.basis.length≤1099511627776) (hrg:∀z∈s.basis,-9223372036854775808≤z∧z≤9223372036854775807):
 Calls Tryz.prog 54 #[v1,v2] w (Yol w p s K):=by
 obtain ⟨A,n,c,A',n',c',a0,ep,a1,rfl,hc,hv,hr⟩:=id h;obtain ⟨cr,ap,ct,rfl,hI⟩:=id h2;obtain ⟨l1,l2,l3⟩:=hv.len;obtain ⟨r1,r2,r3⟩:=hr.len;subst l1 r1;obtain ⟨W0,dy,cu,bl⟩:=Yc w (.slice A n c) (.slice A' p.cols.length c') (.slice a0 p.right.length a1);obtain ⟨W,hW,hT,V⟩:=YT W0 (.int .i64 s.phase) (.slice cr ap ct) (.int .i64 s.pivots);have D:=Za bl V bl.size;have hX:=cu.later V;have P:Hid (Y1 w (.slice A n c) p.cost∧XW w (.slice A' p.cols.length c') p.cols∧Y1 w (.slice a0 p.right.length a1) p.right):=JZ ⟨hc,hv,hr⟩;have db:=JZ h;have b8:Hid (True∧Xq w (.slice cr ap ct) s.basis):=JZ ⟨trivial,hI⟩;have eg:=JZ ok;have dc:=JZ hF;have eh:=JZ hrg;obtain ⟨cv,er,et⟩:=hI.len;have bq:=JZ cv;obtain ⟨x0,x1,x2⟩:=hX.three;obtain ⟨t0,t1,t2⟩:=hT.three;have dd:=JZ hX;have de:=JZ hT;have HK:Hid (p.Ok K):=JZ ok;clear h h2 hc hv hr hI ok hF hrg cu bl V cv hX hT;go_enter Tryz.func54,Tryz.ntmps54;go_wp2_with fail;clear hW dy x0 x1 x2 t0 t1 t2;refine (VK _ p K _ (db.out.below D) HK.out).mono ?_;rintro _ w1 ⟨rfl,V⟩;have a4:=Za D V D.size;have b9:=JZ (dd.out.later V);have ba:=JZ (de.out.later V);clear D V;by_cases hz:lpErr p=0
 ·rw [hz];have C:=JZ hz;have HF:=JZ (dc.out hz);have br:=HF.out.2.1;have ei:=HF.out.1.cols;obtain ⟨-,x1,x2⟩:=b9.out.three;obtain ⟨t0,t1,t2⟩:=ba.out.three;clear hz
  go_upto_region 4 with (fail)
  have C1:=Zl x1;have C2:=Zl x2;have E:=Zj w1;clear x1 x2 t0 t1 t2;refine Zn 8 [0,1,2,3,4,5,6,7] (by kernel_rfl) (by kernel_rfl) ?_;repeat ((first|(first|refine Zb (v:=?_) rfl rfl rfl ?_ ?_ |refine Zd (v:=?_) rfl rfl rfl ?_ ?_);rotate_left;·(intro _ _;go_simp;(try go_bits);(try with_reducible rfl))|refine Ze rfl rfl rfl ?_);(try simp only [py]))
  refine Zv ?_;clear C1 C2;have L:=Za a4 E a4.size;have bs:=JZ (b9.out.later E);have bc:=JZ (ba.out.later E);clear a4 E b9 ba;generalize w1.drew=w2 at *;obtain ⟨-,x1,x2⟩:=bs.out.three;obtain ⟨t0,t1,t2⟩:=bc.out.three;by_cases ai:s.basis.length=p.right.length
  ·have F:=JZ ai;have bt:ap=p.right.length:=(by rw [bq.out];exact ai);subst bt;clear ai;by_cases a7:s.phase < 1∨2 < s.phase∨s.pivots < 0
   ·have HV:=JZ (Zvj F.out a7);by_cases h1:s.phase=1
    ·have hA:(s.phase !=1)=false:=(by simpa using h1);have hP:s.pivots < 0:=(by omega);clear x1 x2;go_wp2;go_ret2;exact ⟨L,.inr (.inl ⟨C.out,by rw [HV.out];decide,by rw [HV.out];rfl⟩)⟩
    ·by_cases h2:s.phase=2
     ·have hA:(s.phase !=1)=true:=(by simpa using h1);have hB:(s.phase !=2)=false:=(by simpa using h2);have hP:s.pivots < 0:=(by omega);clear x1 x2;go_wp2;go_ret2;exact ⟨L,.inr (.inl ⟨C.out,by rw [HV.out];decide,by rw [HV.out];rfl⟩)⟩
     ·have hA:(s.phase !=1)=true:=(by simpa using h1);have hB:(s.phase !=2)=true:=(by simpa using h2);clear x1 x2;go_wp2;go_ret2;exact ⟨L,.inr (.inl ⟨C.out,by rw [HV.out];decide,by rw [HV.out];rfl⟩)⟩
   ·have v:=JZ a7;have bu:s.phase=1∨s.phase=2:=(by omega);have bv:=JZ bu;have ej:0≤s.pivots:=(by omega);rcases bu with h1 | h2
    case' inl=>
     have hA:(s.phase !=1)=false:=(by simpa using h1);clear h1 a7
     go_upto_region 9 with (fail)
    case' inr=>
     have hB:(s.phase !=2)=false:=(by simpa using h2);have hA:(s.phase !=1)=true:=(by simp;omega);clear h2 a7
     go_upto_region 9 with (fail)
     clear hB
    all_goals
     have y1:=bc.out.cellAt 1 rfl;clear x1 x2 t0 t1 t2 hA;go_wp2;clear y1
     go_loopw [57] (fun x wr=>∃k:Nat,k≤p.right.length∧x= .int .i64 k∧Below w2.heap.size w2 wr∧∀i,i < k→ -(p.right.length:Int)≤s.at_ i∧s.at_ i < p.cols.length) (fun x _=>p.right.length - (intOf x).toNat)
     case atStart=>exact ⟨0,by omega,rfl,JR _ _,fun i hi=>absurd hi (by omega)⟩
     case round=>
      obtain ⟨k,hk,rfl,hb,af⟩:=hrel;have J:=JZ af;have d:=Za L hb L.size;clear af;rcases JX k p.right.length with hkl | hkl
      ·have bd:(k:Int) < p.right.length:=(by omega);obtain ⟨bb,ob,z,hA,z0,u,z1,z2⟩:=b8.out.2.at_ hkl;subst hA;have z3:=Zk d z0;have G:Hid (s.at_ k=z):=JZ (LSt.at_eq u);clear u z0;by_cases d8:z < -(p.right.length:Int)
       ·have HV:=JZ (Zvk F.out v.out (fun g=>by have:=(g k hkl).1;rw [G.out] at this;omega));go_wp2;go_ret2;exact ⟨d,.inr (.inl ⟨C.out,by rw [HV.out];decide,by rw [HV.out];rfl⟩)⟩
       ·have bw: -(p.right.length:Int)≤z:=(by omega);by_cases d9:z < p.cols.length
        ·clear d8;go_wp2;go_roundw
         case rel=>exact ⟨k+1,by omega,by go_num,hb,fun i hi=>by
          by_cases g:i=k
          ·rw [g,G.out];exact ⟨bw,d9⟩
          ·exact J.out i (by omega)⟩
         case measure=>simp [intOf];omega
        ·have HV:=JZ (Zvk F.out v.out (fun g=>by have:=(g k hkl).2;rw [G.out] at this;omega));have ea:(p.cols.length:Int)≤z:=(by omega);clear d8 d9;go_wp2;go_ret2;exact ⟨d,.inr (.inl ⟨C.out,by rw [HV.out];decide,by rw [HV.out];rfl⟩)⟩
      ·obtain rfl:k=p.right.length:=by omega
       have H:Hid (Zsw p s):=JZ J.out;have be:=JZ (bc.out.later hb);have bx:=JZ (bs.out.later hb);have y1:=be.out.cellAt 1 rfl;have df:=@run_makeMap Tryz.prog;have bz:=Zbo.made wr;have a8:=Zi wr (.map #[] 0);have dg:=Zk a8 y1;have ek:=d.size;have el:=a8.size;have c0:=be.out.lt;have c1:=bx.out.lt;go_wp2;clear y1 dg df;have av:=Za d a8 d.size;have dh:=JZ (be.out.later a8);have di:=JZ (bx.out.later a8);clear a8 hb d;generalize wr.alloc (.map #[] 0)=W4 at *;generalize wr.heap.size=gm at *
       go_loopw [75] (fun x wr=>∃k:Nat,k≤p.right.length∧x= .int .i64 k∧Below w.heap.size w wr∧Below gm W4 wr∧Zbo wr gm k (s.basis.take k).reverse∧∀i,i < k→∀i',i' < i→s.at_ i≠s.at_ i') (fun x _=>p.right.length - (intOf x).toNat)
       case atStart=>exact ⟨0,by omega,rfl,av,JR _ _,by simpa using bz,fun i hi=>absurd hi (by omega)⟩
       case round=>
        clear bz av;obtain ⟨k,hk,rfl,M,ag,ah,cw⟩:=hrel;have c2:=JZ cw;clear cw;rcases JX k p.right.length with hkl | hkl
        ·have bd:(k:Int) < p.right.length:=(by omega);obtain ⟨bb,ob,z,hA,z0,u,z1,z2⟩:=b8.out.2.at_ hkl;subst hA;have z3:=Zk M z0;have G:Hid (s.at_ k=z):=JZ (LSt.at_eq u);have c3:=ah.look z z1 z2;by_cases a3:z∈(s.basis.take k).reverse
         ·have HV:=JZ (Yhr F.out v.out H.out (fun g=>by
           rw [List.mem_reverse] at a3;obtain ⟨i,dz,cx⟩:=List.getElem_of_mem a3;rw [List.length_take] at dz;have dj:s.basis[i]? =some z:=by
            rw [JQ (by omega)];rw [List.getElem_take] at cx;rw [cx]
           exact g k hkl i (by omega) (by rw [G.out,LSt.at_eq dj])))
          have d:=M;rw [decide_eq_true a3] at c3;clear u z0 ah a3;go_wp2;go_ret2;exact ⟨d,.inr (.inl ⟨C.out,by rw [HV.out];decide,by rw [HV.out];rfl⟩)⟩
         ·obtain ⟨w6,eu,b3,bm⟩:=ah.put (by omega) z z1 z2;rw [decide_eq_false a3] at c3;have R:=M.grown bm M.size (fun x hx=>by injection hx with hx;omega);have c4:=ag.grown bm (by have:=ag.size;omega) (fun x hx=>by injection hx with hx;omega);have dk:Hid (Zbo w6 gm (k+1) (s.basis.take (k+1)).reverse):=JZ (by rw [List.take_add_one,u];simpa using b3);have dl:Hid (∀i',i' < k→z≠s.at_ i'):=JZ fun i' hi' e=>a3 (by
           rw [List.mem_reverse];obtain ⟨y,hy⟩:=Wt (l:=s.basis) (i:=i') (by rw [F.out];omega);rw [LSt.at_eq hy] at e;subst e;exact List.mem_iff_getElem?.2 ⟨i',by rw [List.getElem?_take,if_pos hi'];exact hy⟩)
          clear u z0 ah b3 a3 bm;go_wp2;go_roundw
          case rel=>exact ⟨k+1,by omega,by go_num,R,c4,dk.out,fun i hi i' hi'=>by
           by_cases g:i=k
           ·rw [g,G.out];exact dl.out i' (by omega)
           ·exact c2.out i (by omega) i' hi'⟩
          case measure=>simp [intOf];omega
        ·obtain rfl:k=p.right.length:=by omega
         have S:Hid (Zyp p s):=JZ c2.out;have dm:=JZ (dh.out.below ag c0);have c7:=JZ (di.out.below ag c1);have ca:=c7.out.three;obtain ⟨x0,x1,x2⟩:=ca;obtain ⟨t0,t1,t2⟩:=dm.out.three;have D:=M;clear ah ag
         go_upto_region 23 with (fail)
         have C0:=Zl x0;have C1:=Zl x1;have C2:=Zl x2;have D0:=Zl t0;have D1:=Zl t1;have D2:=Zl t2;have E:=Zj wr;clear x0 x1 x2 t0 t1 t2;refine Zn 11 [0,1,2,3,4,6,7,5,8,9,10] (by kernel_rfl) (by kernel_rfl) ?_;repeat ((first|(first|refine Zb (v:=?_) rfl rfl rfl ?_ ?_ |refine Zd (v:=?_) rfl rfl rfl ?_ ?_);rotate_left;·(intro _ _;go_simp;(try go_bits);(try with_reducible rfl))|refine Ze rfl rfl rfl ?_);(try simp only [py]))
         refine Zf rfl rfl (fun _ kq=>?_);go_simp;(with_reducible refine (Zyk _ s.basis _ (b8.out.2.below (Za D E D.size)) hbl).mono ?_);rintro _ w6 ⟨v6,rfl,e6,ar⟩;have ak:=Za E ar E.size;obtain ⟨Ab,e0,cb,rfl⟩:=e6.sliceN;obtain rfl:e0=p.right.length:=by rw [← F.out];exact e6.len
         refine kq.out _ _ (.inr ak) ?_;clear kq;(try simp only [py]);repeat ((first|(first|refine Zb (v:=?_) rfl rfl rfl ?_ ?_ |refine Zd (v:=?_) rfl rfl rfl ?_ ?_);rotate_left;·(intro _ _;go_simp;(try go_bits);(try with_reducible rfl))|refine Ze rfl rfl rfl ?_);(try simp only [py]))
         obtain ⟨W7,e3,aq,ab⟩:∃W,w6.alloc (.cells #[.slice A n c,.slice A' p.cols.length c',.slice a0 p.right.length a1,.int .i64 s.phase,.slice Ab p.right.length cb,.int .i64 s.pivots,.pointer none,.slice none 0 0] 129)=W∧Bk W w6.heap.size 129 [.slice A n c,.slice A' p.cols.length c',.slice a0 p.right.length a1,.int .i64 s.phase,.slice Ab p.right.length cb,.int .i64 s.pivots,.pointer none,.slice none 0 0]∧Below w6.heap.size w6 W:=⟨_,rfl,Bk.new w6 _ _,Zi w6 _⟩;have al:=Za ak ab ak.size;refine Zf rfl rfl (fun _ kq=>?_);go_simp;refine kq.out _ _ (.inr al) ?_;clear kq e3;repeat ((first|(first|refine Zb (v:=?_) rfl rfl rfl ?_ ?_ |refine Zd (v:=?_) rfl rfl rfl ?_ ?_);rotate_left;·(intro _ _;go_simp;(try go_bits);(try with_reducible rfl))|refine Ze rfl rfl rfl ?_);(try simp only [py]))
         refine Zv ?_;clear C0 C1 C2 D0 D1 D2;have a:=Za D al D.size;have cc:=c7.out.later al;have am:=JZ (e6.below ab);have an:w.heap.size≤w6.heap.size:=JW D.size (JW E.size ar.size);have em:wr.heap.size≤w6.heap.size:=JW E.size ar.size;clear e6 ar ab ak al E M;generalize w6.heap.size=e at *;have cd:Ycs W7 e p s.phase s.pivots (.slice Ab p.right.length cb) (.pointer none) (.slice none 0 0):=⟨A,n,c,A',_,c',a0,_,a1,aq,P.out.1.below a,P.out.2.1.below a,P.out.2.2.below a⟩;have dn:=JZ cd;have dp:=JZ aq;have dq:=JZ cc;have en:=Ziv p.right.length (by omega);have ce:=YF.zeros W7 p.right.length (by unfold maxLen;omega);have o:=Zi W7 (.cells (zvc p.right.length) 66);have y4:=aq.cellAt 4 rfl;have dr:=Zk o y4;obtain ⟨-,ec,ed⟩:=am.out.ints.len;clear cc aq cd;go_wp2;clear y4 dr;generalize W7.alloc (.cells (zvc p.right.length) 66)=W8 at *
         go_loopw [102] (fun x wr=>∃k:Nat,k≤p.right.length∧x= .int .i64 k∧Below W7.heap.size W7 wr∧∃cols:List (List En),cols.length=p.right.length∧YF W7.heap.size wr (.slice (some ⟨W7.heap.size,0,none⟩) p.right.length p.right.length) cols∧∀i,i < k→∃es,cols[i]? =some es∧p.col (s.at_ i)=Vj es∧Pl.Good p.right.length es∧∀(k:Nat) (e:En),es[k]? =some e→e.f.Rs K) (fun x _=>p.right.length - (intOf x).toNat)
         case atStart=>exact ⟨0,by omega,rfl,o,_,by simp,ce,fun i hi=>absurd hi (by omega)⟩
         case round=>
          clear ce o;obtain ⟨k,hk,rfl,hb,cols,b4,hO,cy⟩:=hrel;have bf:=JZ cy;clear cy;rcases JX k p.right.length with hkl | hkl
          ·have bd:(k:Int) < p.right.length:=(by omega);obtain ⟨bb,ob,z,hA,z0,u,z1,z2⟩:=am.out.ints.at_ hkl;subst hA;have z3:=Zk hb z0;have bg:=H.out k hkl;rw [LSt.at_eq u] at bg;have G:Hid (s.at_ k=z):=JZ (LSt.at_eq u);clear u z0;go_wp2_with fail;refine (Ztc e p K s.phase s.pivots _ _ _ z _ (dn.out.below hb) HF.out C.out bg.1 bg.2).mono ?_;rintro _ w8 ⟨v8,es,rfl,bp,d4,d5,d6,o⟩;have t:=Za hb o hb.size;have bh:=hO.below o;obtain ⟨u0,d0⟩:=Xm (cs:=cols) (i:=k) (by omega);obtain ⟨_,m0,m1,-⟩:=bh.at_ d0;obtain ⟨e5,_⟩:=bh.set_ (k:=k) (by omega) bp;have B:=t.setCell (p:=⟨W7.heap.size,k,none⟩) (JY _) v8;obtain ⟨A8,n8,c8,rfl⟩:∃A n c,v8= .slice A n c:=by obtain ⟨A,c,e,_⟩:=bp.shape;exact ⟨A,_,c,e⟩
           have cf:Hid (p.col z=Vj es∧Pl.Good p.right.length es∧∀(k:Nat) (e:En),es[k]? =some e→e.f.Rs K):=JZ ⟨d4,d5,d6⟩;clear hb o t hO bh bp d4 d5 d6 d0 z3;go_wp2;go_roundw
           case rel=>exact ⟨k+1,by omega,by go_num,B,_,by rw [List.length_set];exact b4,e5,fun i hi=>by
            by_cases g:i=k
            ·subst g;exact ⟨es,List.getElem?_set_self (by omega),by rw [G.out];exact cf.out.1,cf.out.2⟩
            ·rw [List.getElem?_set_ne (Ne.symm g)];exact bf.out i (by omega)⟩
           case measure=>simp [intOf];omega
          ·obtain rfl:k=p.right.length:=by omega
           have a9:=Za a hb a.size;have cg:∀(k:Nat) (c:List En),cols[k]? =some c→Pl.Good p.right.length c∧∀(j:Nat) (e:En),c[j]? =some e→e.f.Rs K:=fun k c hc=>by
            obtain ⟨es,h1,h2,h3⟩:=bf.out k (by have:=(List.getElem?_eq_some_iff.1 hc).1;omega);rw [hc] at h1;injection h1 with h1;subst h1;exact h3
           have ch:∀(k:Nat) (c:List En),cols[k]? =some c→s.mat p k=Vj c:=fun k c hc=>by
            obtain ⟨es,h1,h2,h3⟩:=bf.out k (by have:=(List.getElem?_eq_some_iff.1 hc).1;omega);rw [hc] at h1;injection h1 with h1;subst h1;exact h2
           go_wp2_with fail;refine (Yfx _ p.right.length K cols (s.mat p) _ hO.vecs b4 br HF.out.1.k1 HF.out.2.2 cg ch).mono ?_;clear cg ch;rintro _ w8 ⟨o,⟨gB,rfl,b6,b7⟩ | ⟨rfl,d7⟩⟩
           ·have HR:=JZ (show Reg p s from b6);have a5:=JZ (Yck HR.out);have t:=Za hb o hb.size;have I:=Za a9 o a9.size;have T:=dp.out.later t;have ci:=dq.out.later t;have aw:=am.out.below t;have q6:=T.cellAt 6 rfl;have f6:=T.frozen 6;have k6:=Zg.setCell T 6 (.pointer (some ⟨gB,0,none⟩));have cj:=T.set_ 6 (.pointer (some ⟨gB,0,none⟩));have ck:=fun bi=>(b7 bi).but k6 (by decide) (by decide) (by decide) (by decide) (by decide) (by decide) (by decide)
            have cl:=k6.bk ci (by decide);have ax:=aw.but k6 (by decide);have N:=I.setCell (p:=⟨e,6,none⟩) an (.pointer (some ⟨gB,0,none⟩));have eb:wr.heap.size≤(w8.setCell ⟨e,6,none⟩ (.pointer (some ⟨gB,0,none⟩))).heap.size:=(by simpa using o.size);have cm:W7.heap.size≤wr.heap.size:=hb.size;clear hO b6 b7 T ci aw k6 hb o t I a9
            go_upto_region 34 with (fail)
            clear q6 f6;generalize w8.setCell ⟨e,6,none⟩ (.pointer (some ⟨gB,0,none⟩))=W8 at *;obtain ⟨-,-,x2⟩:=cl.three;go_wp2_with fail;clear x2;refine (Xk _ p.right K _ (P.out.2.2.below N) (by omega) HF.out.1.rs (by have:=HF.out.k;omega)).mono ?_;rintro _ w9 ⟨v9,rfl,e9,t⟩;obtain ⟨A9,n9,c9,rfl⟩:∃A n c,v9= .slice A n c:=by obtain ⟨A,c,e,_⟩:=e9.vec.shape;exact ⟨A,_,c,e⟩
            have ac:=cj.later t;have m:=Za N t N.size;have ay:=fun bi=>(ck bi).below t
            have ad:=ax.below t;have az:Ycs w9 e p s.phase s.pivots (.slice Ab p.right.length cb) (.pointer (some ⟨gB,0,none⟩)) (.slice none 0 0):=⟨A,n,c,A',_,c',a0,_,a1,ac,P.out.1.below m,P.out.2.1.below m,P.out.2.2.below m⟩;have b0:=JZ ay;clear cj cl ck ax ay;go_wp2_with fail;refine (Zlm e p K p.right.length cb wr.heap.size 0 gB (s.mat p) s.phase s.pivots Ab _ _ (spV (qAt p.right) p.right.length) _ az (b0.out 0) e9.vec (Zdt _ _) (Zdu fun i _=>HF.out.1.rs.qAt HF.out.1.k1 i) br HF.out.2.2).mono ?_;rintro _ au ⟨f0,x,rfl,hx,-,a2,B⟩;have cn:ZQ p.right.length x=zL p s:=by
             unfold zL;exact (Ztd HR.out fun r hr=>by have:=hx r hr;rw [Zij,if_pos hr] at this;exact this).symm
            rw [cn] at a2;have O:Hid ((zL p s).length=p.right.length):=JZ (Zfn HR.out);obtain ⟨Az,cz,d1⟩:=a2.slice;rw [O.out] at d1;subst d1;obtain ⟨-,ee,ef⟩:=a2.frs.len;have U:=ac.later B;have b1:=fun bi=>(b0.out bi).below B
            have X:=ad.below B;have Y:=Za m B m.size;have q7:=U.cellAt 7 rfl;have f7:=U.frozen 7;have k7:=Zg.setCell U 7 (.slice Az p.right.length cz);have a6:=U.set_ 7 (.slice Az p.right.length cz);have ae:=ZU.own_lt a2;have b2:Yhy w (au.setCell ⟨e,7,none⟩ (.slice Az p.right.length cz)) e p s K A n c A' p.cols.length c' a0 p.right.length a1 Ab cb gB (.slice Az p.right.length cz):=by
             refine ⟨wr.heap.size,au.heap.size,P.out,⟨an,?_,?_,by simp⟩,(X.but k7 (by decide)).monoB ?_,fun b hb=>?_,(b1 _).but k7 (by decide) (by decide) (by decide) (by decide) (by decide) (by decide) (by decide),(a2.but k7 (by decide) (by decide)).monoB m.size,fun b hb=>ae b hb,Y.setCell (p:=⟨e,7,none⟩) an _⟩
             ·exact JW a.size cm
             ·have:=t.size;have:=B.size;simp;omega
             ·exact D.size
             ·have:=Zci am.out.1 b hb;omega
            have ds:Hid (Ycx w (au.setCell ⟨e,7,none⟩ (.slice Az p.right.length cz)) e p s K):=JZ ⟨_,_,_,_,_,_,_,_,_,_,_,_,_,a6,b2⟩;have dt:=JZ (a2.but k7 (by decide) (by decide));have co:=JZ (X.but k7 (by decide));have du:=JZ a6;have I:=Y.setCell (p:=⟨e,7,none⟩) an (.slice Az p.right.length cz);have y7:=a6.cellAt 7 rfl;clear az e9 hx cn a2 ac U b1 ad X N m Y t B k7 a6 ae b2
            go_upto_region 36 with (fail)
            clear q7 f7;generalize au.setCell ⟨e,7,none⟩ (.slice Az p.right.length cz)=W9 at *;go_wp2;clear y7
            go_loopw [144] (fun x wr=>∃k:Nat,k≤p.right.length∧x= .int .i64 k∧Below W9.heap.size W9 wr∧∀i,i < k→¬qAt (zL p s) i < 0∧(s.phase=2→s.at_ i < 0→qAt (zL p s) i=0)) (fun x _=>p.right.length - (intOf x).toNat)
            case atStart=>exact ⟨0,by omega,rfl,JR _ _,fun i hi=>absurd hi (by omega)⟩
            case round=>
             obtain ⟨k,hk,rfl,hb,af⟩:=hrel;have J:=JZ af;clear af;have ao:=ds.out.below hb;obtain ⟨ev,ew,e7,ex,ey,ez,e1,e2,-,e4⟩:=ao.r;rcases JX k p.right.length with hkl | hkl
             ·have bd:(k:Int) < p.right.length:=(by omega);obtain ⟨f,hf⟩:=ZH (fs:=zL p s) (i:=k) (by rw [O.out];exact hkl);have HQ:Hid (qAt (zL p s) k=f.q):=JZ (ZF hf);obtain ⟨b5,o5,A5,n5,c5,A6,n6,c6,bn,-,⟨x0,x1,x2,x3⟩,d2⟩:=dt.out.frs.elem hb hf;subst bn;obtain ⟨W6,e8,d3,bo⟩:=YR wr (.bool f.num.neg) (.slice A5 n5 c5) (.bool f.den.neg) (.slice A6 n6 c6);obtain ⟨u0,u1,u2,u3⟩:=d3.four;have cp:=d2.below bo;have R:=Za hb bo hb.size;have dv:qs f.q=0∨qs f.q=1∨qs f.q= -1:=(by have:=UY f.q;omega);obtain ⟨bb,ob,z,bn,z0,u,-,-⟩:=co.out.ints.at_ hkl;subst bn;have G:Hid (s.at_ k=z):=JZ (LSt.at_eq u);clear hf d2 hb d3 bo u ao e1 e2 e4;go_wp2_with fail;clear e8;refine (ZA _ f _ cp).mono ?_;rintro _ w7 ⟨rfl,ab⟩;have a:=Za R ab R.size;have z1:=Zk a z0;have cq:=du.out.later a;have y3:=cq.cellAt 3 rfl;have y4:=cq.cellAt 4 rfl;clear cp R ab x0 x1 x2 x3 u0 u1 u2 u3 z0;rcases dv with hq | hq | hq
              ·rw [hq];have Z:Hid (¬qAt (zL p s) k < 0∧(s.phase=2→s.at_ k < 0→qAt (zL p s) k=0)):=JZ (by rw [HQ.out,Z5.1 hq];exact ⟨by decide,fun _ _=>rfl⟩);clear hq;rcases bv.out with hp | hp
               ·have bj:(s.phase==2)=false:=(by simp;omega);clear hp;go_wp2;go_roundw
                case rel=>exact ⟨k+1,by omega,by go_num,a,fun i hi=>by
                 by_cases g:i=k
                 ·rw [g];exact Z.out
                 ·exact J.out i (by omega)⟩
                case measure=>simp [intOf];omega
               ·have bj:(s.phase==2)=true:=(by simpa using hp);by_cases aj:z < 0
                ·clear hp;go_wp2;go_roundw
                 case rel=>exact ⟨k+1,by omega,by go_num,a,fun i hi=>by
                  by_cases g:i=k
                  ·rw [g];exact Z.out
                  ·exact J.out i (by omega)⟩
                 case measure=>simp [intOf];omega
                ·have dw:0≤z:=(by omega);clear aj hp;go_wp2;go_roundw
                 case rel=>exact ⟨k+1,by omega,by go_num,a,fun i hi=>by
                  by_cases g:i=k
                  ·rw [g];exact Z.out
                  ·exact J.out i (by omega)⟩
                 case measure=>simp [intOf];omega
              ·rw [hq];have aa:0 < f.q:=Wl.1 (by omega);clear hq;rcases bv.out with hp | hp
               ·have Z:Hid (¬qAt (zL p s) k < 0∧(s.phase=2→s.at_ k < 0→qAt (zL p s) k=0)):=JZ (by rw [HQ.out];exact ⟨by grind,fun g=>by omega⟩);have bj:(s.phase==2)=false:=(by simp;omega);clear hp;clear aa;go_wp2;go_roundw
                case rel=>exact ⟨k+1,by omega,by go_num,a,fun i hi=>by
                 by_cases g:i=k
                 ·rw [g];exact Z.out
                 ·exact J.out i (by omega)⟩
                case measure=>simp [intOf];omega
               ·have bj:(s.phase==2)=true:=(by simpa using hp);by_cases aj:z < 0
                ·have HV:Hid (vsErr p s=16):=JZ (by
                  by_cases da:Ydg p s
                  ·exact Yhs F.out v.out H.out S.out a5.out da ⟨hp,Zea (k:=k) (by rw [G.out];exact aj) (by rw [HQ.out];grind) (by rw [O.out];exact hkl)⟩
                  ·exact Ybz F.out v.out H.out S.out a5.out da)
                 clear hp aa;go_wp2;go_ret2;exact ⟨Za I a I.size,.inr (.inl ⟨C.out,by rw [HV.out];decide,by rw [HV.out];rfl⟩)⟩
                ·have Z:Hid (¬qAt (zL p s) k < 0∧(s.phase=2→s.at_ k < 0→qAt (zL p s) k=0)):=JZ (by rw [HQ.out,G.out];exact ⟨by grind,fun _ g=>absurd g aj⟩);have dw:0≤z:=(by omega);clear aj hp aa;go_wp2;go_roundw
                 case rel=>exact ⟨k+1,by omega,by go_num,a,fun i hi=>by
                  by_cases g:i=k
                  ·rw [g];exact Z.out
                  ·exact J.out i (by omega)⟩
                 case measure=>simp [intOf];omega
              ·rw [hq];have aa:f.q < 0:=Wj.1 (by omega);have HV:Hid (vsErr p s=16):=JZ (Ybz F.out v.out H.out S.out a5.out fun g=>g k hkl (by rw [HQ.out];exact aa));clear hq aa;go_wp2;go_ret2;exact ⟨Za I a I.size,.inr (.inl ⟨C.out,by rw [HV.out];decide,by rw [HV.out];rfl⟩)⟩
             ·obtain rfl:k=p.right.length:=by omega
              have HV:Hid (vsErr p s=0):=JZ (Yga F.out v.out H.out S.out a5.out (fun i hi=>(J.out i hi).1) fun g=>by
               have:=Zfq (s:=s) (zs:=zL p s) (n:=(zL p s).length) fun i hi h=>(J.out i (by rw [← O.out];exact hi)).2 g.1 h
               rw [this] at g;exact absurd g.2 (by decide))
              clear e1 e2 e4 hkl hk hb;go_wp2_with fail;refine (Zyj w e p s K _ ao HF.out).mono ?_;rintro _ w8 ⟨rfl,T⟩;clear ao;go_wp2;go_ret2;exact ⟨T.bel,.inr (.inr ⟨C.out,HV.out,e,rfl,T⟩)⟩
           ·have hv:vsErr p s=13:=Yby F.out v.out H.out S.out (by
             cases hzo:zOk p s with
             | false=>rfl
             | true=>exact absurd (Ycj hzo) d7)
            have HV:=JZ hv;have d:=Za a9 o a9.size;clear hO d7 hb o a9 hv;go_wp2;go_ret2;exact ⟨d,.inr (.inl ⟨C.out,by rw [HV.out];decide,by rw [HV.out];rfl⟩)⟩
  ·have HV:=JZ (Yhq ai);have bt:¬ap=p.right.length:=(by have:=bq.out;omega);clear ai;go_wp2;go_ret2;exact ⟨L,.inr (.inl ⟨C.out,by rw [HV.out];decide,by rw [HV.out];rfl⟩)⟩
 ·have dx:=JZ hz;have eo:(lpErr p==0)=false:=by simpa using hz
  clear hz;go_wp2;go_ret2;exact ⟨a4,.inl ⟨dx.out,rfl⟩⟩
end
end Go.Proofs.YtgbhebappffbdaaGreat
namespace Go.Proofs.YtgbhebappffbdaaGreat
open Go.RowKit
open Pl
attribute [local go_sem ↓] Go.wp_at_zero Go.wp_at_succ
theorem Zyl (e:Nat) (p:LPd) (s:LSt) (K:Nat) (w:World) (h:Yct w e p s K) (F:p.Ft K) (hrg:Zsw p s):
 Calls Tryz.prog 71 #[.pointer (some ⟨e,0,none⟩)] w fun o w'=>∃v',o= .returned v'∧ZU w.heap.size w' v' (UK p s)∧Below w.heap.size w w':=by
 obtain ⟨Ab,cb,base,bi,gB,vz,hM,hI,-,hZ⟩:=id h;obtain ⟨A,n,c,A',n',c',a2,a3,a4,hE,g1,g2,g3⟩:=id hM;obtain ⟨m1,m2,m3⟩:=g2.len;obtain ⟨b1,b2,b3⟩:=hI.len;have D:=JZ m1;have P:=JZ hrg;have r:=Zfn h.reg;have E:=JZ r;have G:Hid (∀(k:Nat) (f:RF),(zL p s)[k]? =some f→f=canF (qAt (zL p s) k)):=JZ fun k f hf=>Znf hf
 obtain ⟨Az,cz,L,U,a5⟩:=hZ.shape;rw [r] at L U;subst L;have Z:n'≤1200:=by rw [m1];exact F.1.cols
 have a0:p.right.length≤7:=F.2.1;have HE:=JZ hE;have HI:=JZ hI;have R:=JZ hZ;have a1:=XF n' (by omega);have t:=ZU.zeros w n' (by unfold maxLen;omega);have H:=Zi w (.cells (zfc n') 46);rw [← Zcd (w:=fun _=>0)] at t;have q1:=hE.cellAt 1 rfl;clear h hM g1 g2 g3 m1 b1 r hrg hZ hI hE F;go_enter Tryz.func71,Tryz.ntmps71;go_wp2;clear q1;generalize w.alloc (.cells (zfc n') 46)=W at *
 go_loopw [16] (fun x wr=>∃k:Nat,k≤n'∧x= .int .i64 k∧ZU w.heap.size wr (.slice (some ⟨w.heap.size,0,none⟩) n' n') (Y7 n' k fun _=>0)∧Below w.heap.size w wr) (fun x _=>n' - (intOf x).toNat)
 case atStart=>exact ⟨0,by omega,rfl,t,H⟩
 case round=>
  clear t H;obtain ⟨k,hk,rfl,hO,a⟩:=hrel;rcases JX k n' with hkl | hkl
  ·have S:(k:Int) < n':=(by omega);go_wp2_with fail;refine (Zjj 0 _ (by omega) (by omega)).mono ?_;rintro _ w1 ⟨v1,f1,rfl,hm,rfl,C⟩;rw [show ((0:Int):Rat)=0 from rfl] at hm;obtain ⟨B,m,d,B',m',d',rfl,_,_⟩:=id hm;have u:=hO.below C;have g:=Za a C a.size;have l:(Y7 n' k fun _=>0)[k]? =some zeroF:=(by unfold Y7;rw [YD hkl,if_neg (by omega)]);obtain ⟨_,_,_,_,⟨t0,t1,t2,t3⟩,⟨f0,f1,f2,f3⟩,_⟩:=u.at_ l;obtain ⟨M,V⟩:=u.set_ (k:=k) (by rw [Ws];exact hkl) hm;rw [show (canF 0)=canF ((fun _=>0:Nat→Rat) k) from rfl,Zce hkl] at M;have b:=Zx g (JY _) (k * 4) (k * 4+1) (k * 4+2) (k * 4+3);clear hO a l hm C u g V;go_wp2;go_roundw
   case rel=>exact ⟨k+1,by omega,by go_num,M,b _ _ _ _⟩
   case measure=>simp [intOf];omega
  ·obtain rfl:n'=k:=by omega
   rw [Zez,show (ZQ n' fun _=>0)=ZQ n' (VG s (zL p s) 0) from rfl] at hO;have q4:=(HE.out.later a).cellAt 4 rfl;go_wp2;clear q4
   go_loopw [29] (fun x wr=>∃k:Nat,k≤p.right.length∧x= .int .i64 k∧ZU w.heap.size wr (.slice (some ⟨w.heap.size,0,none⟩) n' n') (ZQ n' (VG s (zL p s) k))∧Below w.heap.size w wr) (fun x _=>p.right.length - (intOf x).toNat)
   case atStart=>exact ⟨0,by omega,rfl,hO,a⟩
   case round=>
    clear hO a;obtain ⟨k,hk,rfl,hO,a⟩:=hrel;rcases JX k p.right.length with hkl | hkl
    ·have S:(k:Int) < p.right.length:=(by omega);obtain ⟨bb,ob,z,hA,z0,y,z1,z2⟩:=HI.out.at_ hkl;subst hA;have z3:=Zk a z0;have I:=P.out k hkl;rw [LSt.at_eq y] at I;have J:Hid (s.at_ k=z):=JZ (LSt.at_eq y);obtain ⟨r0,r1⟩:=I;have r2:z < n':=(by rw [D.out];exact r1);clear r1 z0 y;rcases Int.lt_or_le z 0 with hz0 | hz0
     ·have HP:ZQ n' (VG s (zL p s) k)=ZQ n' (VG s (zL p s) (k+1)):=ZO fun j _=>by rw [Vm,J.out,if_neg (by omega)]
      rw [HP] at hO;clear HP;go_wp2;go_roundw
      case rel=>exact ⟨k+1,by omega,by go_num,hO,a⟩
      case measure=>simp [intOf];omega
     ·obtain ⟨f,hf⟩:=ZH (fs:=zL p s) (i:=k) (by rw [E.out];exact hkl);obtain ⟨b5,o5,A5,n5,c5,A6,n6,c6,X,_,⟨x0,x1,x2,x3⟩,N⟩:=R.out.elem a hf;subst X;obtain ⟨jn,rfl⟩:=JT hz0;have v:jn < n':=(by omega);have T:=JZ (G.out k f hf);have q7:=(HE.out.later a).cellAt 7 rfl;obtain ⟨_,_,_,_,⟨t0,t1,t2,t3⟩,⟨f0,f1,f2,f3⟩,_⟩:=hO.at_ (ZE v);obtain ⟨O,Y⟩:=hO.set_ (k:=jn) (by rw [Zc];exact v) N;have q:(ZQ n' (VG s (zL p s) k)).set jn f=ZQ n' (VG s (zL p s) (k+1)):=by
       rw [T.out,XT v];exact ZO fun j _=>by
        rw [Vm,J.out];by_cases e:j=jn
        ·rw [if_pos e,if_pos (by omega)]
        ·rw [if_neg e,if_neg (by omega)]
      rw [q] at O;have b:=Zx a (JY _) (jn * 4) (jn * 4+1) (jn * 4+2) (jn * 4+3);clear hf N hO q Y;go_wp2;go_roundw
      case rel=>exact ⟨k+1,by omega,by go_num,O,b _ _ _ _⟩
      case measure=>simp [intOf];omega
    ·obtain rfl:k=p.right.length:=by omega
     go_wp2;go_ret;refine ⟨_,rfl,?_,a⟩;unfold UK;rw [← D.out,E.out];exact hO
namespace Pl
def Xc (p:LPd) (s:LSt):Int:=if lpErr p=0 then vsErr p s else lpErr p
theorem Zhb {p:LPd} {s:LSt} (h:lpErr p≠0):Xc p s=lpErr p:=if_neg h
def Yom (p:LPd) (s:LSt):List RF:=if Xc p s=0 then UK p (settleQ p s) else []
theorem Ycz {p:LPd} {s:LSt} (h:Xc p s≠0):Yom p s=[]:=if_neg h
theorem Zvt {p:LPd} {s:LSt} (h:Xc p s=0):Yom p s=UK p (settleQ p s):=if_pos h
def Yon (p:LPd) (s:LSt):List RF:=if Xc p s=0 then YH p (settleQ p s) else []
theorem Yda {p:LPd} {s:LSt} (h:Xc p s≠0):Yon p s=[]:=if_neg h
theorem Zvu {p:LPd} {s:LSt} (h:Xc p s=0):Yon p s=YH p (settleQ p s):=if_pos h
def Ynr (p:LPd) (s:LSt):Int × Int:=if Xc p s=0 then (Yh p (settleQ p s),UJ p (settleQ p s)) else (0,0)
theorem Ztg {p:LPd} {s:LSt} (h:Xc p s≠0):Ynr p s=(0,0):=if_neg h
theorem Zvv {p:LPd} {s:LSt} (h:Xc p s=0):Ynr p s=(Yh p (settleQ p s),UJ p (settleQ p s)):=if_pos h
theorem Yle {p:LPd} {s:LSt} (S:s.Fit p):Zsw p s:=fun i hi=>by
 obtain ⟨z,hz⟩:∃z,s.basis[i]? =some z:=⟨_,JQ (by have:=S.2;omega)⟩
 rw [LSt.at_eq hz]
 exact S.1 i z hz
theorem VR {p:LPd} {s:LSt} (h:lpErr p=0):Xc p s=vsErr p s:=if_pos h
end Pl
theorem Zjl (v1 v2:Value) (p:LPd) (s:LSt) (K:Nat) (w:World) (h:LpM w v1 p) (h2:StM w v2 s) (ok:p.Ok K) (hF:lpErr p=0→p.Ft K) (hbl:s.basis.length≤1099511627776) (hrg:∀z∈s.basis,-9223372036854775808≤z∧z≤9223372036854775807):
 Calls Tryz.prog 33 #[v1,v2] w fun o w'=>∃v',o= .returned (.tuple #[v',.int .i64 (Xc p s)])∧ZU w.heap.size w' v' (Yom p s)∧Below w.heap.size w w':=by
 obtain ⟨A,n,c,A',n',c',y,B,C,rfl,hc,hv,hr⟩:=id h;obtain ⟨Ab,nb,cb,rfl,hI⟩:=id h2;obtain ⟨W,hW,l,f⟩:=Yc w (.slice A n c) (.slice A' n' c') (.slice y B C);obtain ⟨W1,D,j,g⟩:=YT W (.int .i64 s.phase) (.slice Ab nb cb) (.int .i64 s.pivots);have hX:=l.later g;have b:=Za f g f.size;have m:W.heap.size=w.heap.size+1:=by rw [← hW];simp
 rw [m] at j;have q:=JZ h;have t:=JZ h2;have d:=JZ (⟨ok,hF,hbl,hrg⟩:p.Ok K∧(lpErr p=0→p.Ft K)∧s.basis.length≤1099511627776∧∀z∈s.basis,-9223372036854775808≤z∧z≤9223372036854775807);obtain ⟨x0,x1,x2⟩:=hX.three;obtain ⟨y0,y1,y2⟩:=j.three;clear h h2 hc hv hr hI l f g hX j ok hF hbl hrg;go_enter Tryz.func33,Tryz.ntmps33;go_wp2_with fail;clear hW D;refine (Zha _ _ p s K _ (q.out.below b) (t.out.below b) d.out.1 d.out.2.1 d.out.2.2.1 d.out.2.2.2).mono ?_;intro o w2 ho;obtain ⟨i,ho⟩:=ho;have a:=Za b i b.size;clear b x0 x1 x2 y0 y1 y2;rcases ho with ⟨he,rfl⟩ | ⟨hz,he,rfl⟩ | ⟨hz,he,e,rfl,hE⟩
 ·have hS:Xc p s=lpErr p:=Zhb he;have u:(lpErr p !=0)=true:=by simpa using he
  have HS:=JZ hS;have HE:=JZ he;clear hS he i;generalize lpErr p=L at *;go_wp2;go_ret2;exact ⟨_,by rw [HS.out];rfl,by rw [Ycz (by rw [HS.out];exact HE.out)];exact ZU.nil _ _,a⟩
 ·have hS:Xc p s=vsErr p s:=VR hz;have u:(vsErr p s !=0)=true:=by simpa using he
  have HS:=JZ hS;have HE:=JZ he;clear hS he hz i;generalize vsErr p s=L at *;go_wp2;go_ret2;exact ⟨_,by rw [HS.out];rfl,by rw [Ycz (by rw [HS.out];exact HE.out)];exact ZU.nil _ _,a⟩
 ·have HS:Hid (Xc p s=0):=JZ (by rw [VR hz];exact he);have HV:=JZ (Zqe he);have v:=JZ (d.out.2.1 hz);have x:=JZ hE.r;clear hz he i hE;go_wp2_with fail;refine (Zyl e p (settleQ p s) K _ x.out v.out (Yle HV.out.settle.fit)).mono ?_;rintro _ w3 ⟨v3,rfl,e3,E⟩;have k:=Za a E a.size;go_wp2;go_ret2;exact ⟨_,by rw [HS.out];rfl,by rw [Zvt HS.out];exact e3.monoB a.size,k⟩
theorem Zqr (v1 v2:Value) (p:LPd) (s:LSt) (K:Nat) (w:World) (h:LpM w v1 p) (h2:StM w v2 s) (ok:p.Ok K) (hF:lpErr p=0→p.Ft K) (hbl:s.basis.length≤1099511627776) (hrg:∀z∈s.basis,-9223372036854775808≤z∧z≤9223372036854775807):
 Calls Tryz.prog 34 #[v1,v2] w fun o w'=>∃v',o= .returned (.tuple #[v',.int .i64 (Xc p s)])∧ZU w.heap.size w' v' (Yon p s)∧Below w.heap.size w w':=by
 obtain ⟨A,n,c,A',n',c',y,B,C,rfl,hc,hv,hr⟩:=id h;obtain ⟨Ab,nb,cb,rfl,hI⟩:=id h2;obtain ⟨W,hW,l,f⟩:=Yc w (.slice A n c) (.slice A' n' c') (.slice y B C);obtain ⟨W1,D,j,g⟩:=YT W (.int .i64 s.phase) (.slice Ab nb cb) (.int .i64 s.pivots);have hX:=l.later g;have b:=Za f g f.size;have m:W.heap.size=w.heap.size+1:=by rw [← hW];simp
 rw [m] at j;have q:=JZ h;have t:=JZ h2;have d:=JZ (⟨ok,hF,hbl,hrg⟩:p.Ok K∧(lpErr p=0→p.Ft K)∧s.basis.length≤1099511627776∧∀z∈s.basis,-9223372036854775808≤z∧z≤9223372036854775807);obtain ⟨x0,x1,x2⟩:=hX.three;obtain ⟨y0,y1,y2⟩:=j.three;clear h h2 hc hv hr hI l f g hX j ok hF hbl hrg;go_enter Tryz.func34,Tryz.ntmps34;go_wp2_with fail;clear hW D;refine (Zha _ _ p s K _ (q.out.below b) (t.out.below b) d.out.1 d.out.2.1 d.out.2.2.1 d.out.2.2.2).mono ?_;intro o w2 ho;obtain ⟨i,ho⟩:=ho;have a:=Za b i b.size;clear b x0 x1 x2 y0 y1 y2;rcases ho with ⟨he,rfl⟩ | ⟨hz,he,rfl⟩ | ⟨hz,he,e,rfl,hE⟩
 ·have hS:Xc p s=lpErr p:=Zhb he;have u:(lpErr p !=0)=true:=by simpa using he
  have HS:=JZ hS;have HE:Hid (Xc p s≠0):=JZ (by rw [hS];exact he);clear hS he i;generalize lpErr p=L at *;go_wp2;go_ret2;exact ⟨_,by rw [HS.out];rfl,by rw [Yda HE.out];exact ZU.nil _ _,a⟩
 ·have hS:Xc p s=vsErr p s:=VR hz;have u:(vsErr p s !=0)=true:=by simpa using he
  have HS:=JZ hS;have HE:Hid (Xc p s≠0):=JZ (by rw [hS];exact he);clear hS he hz i;generalize vsErr p s=L at *;go_wp2;go_ret2;exact ⟨_,by rw [HS.out];rfl,by rw [Yda HE.out];exact ZU.nil _ _,a⟩
 ·have HS:Hid (Xc p s=0):=JZ (by rw [VR hz];exact he);have HV:=JZ (Zqe he);have v:=JZ (d.out.2.1 hz);have x:=JZ hE.r;clear hz he i hE;go_wp2_with fail;refine (Zqp e p (settleQ p s) K _ x.out HV.out.settle.fit v.out).mono ?_;rintro _ w3 ⟨v3,rfl,e3,E⟩;have k:=Za a E a.size;go_wp2;go_ret2;exact ⟨_,by rw [HS.out];rfl,by rw [Zvu HS.out];exact e3.monoB a.size,k⟩
theorem Zjm (v1 v2:Value) (p:LPd) (s:LSt) (K:Nat) (w:World) (h:LpM w v1 p) (h2:StM w v2 s) (ok:p.Ok K) (hF:lpErr p=0→p.Ft K) (hbl:s.basis.length≤1099511627776) (hrg:∀z∈s.basis,-9223372036854775808≤z∧z≤9223372036854775807):
 Calls Tryz.prog 21 #[v1,v2] w fun o w'=>o= .returned (.tuple #[.int .i64 (Ynr p s).1,.int .i64 (Ynr p s).2,.int .i64 (Xc p s)])∧Below w.heap.size w w':=by
 obtain ⟨A,n,c,A',n',c',y,B,C,rfl,hc,hv,hr⟩:=id h;obtain ⟨Ab,nb,cb,rfl,hI⟩:=id h2;obtain ⟨W,hW,l,f⟩:=Yc w (.slice A n c) (.slice A' n' c') (.slice y B C);obtain ⟨W1,D,j,g⟩:=YT W (.int .i64 s.phase) (.slice Ab nb cb) (.int .i64 s.pivots);have hX:=l.later g;have b:=Za f g f.size;have m:W.heap.size=w.heap.size+1:=by rw [← hW];simp
 rw [m] at j;have q:=JZ h;have t:=JZ h2;have d:=JZ (⟨ok,hF,hbl,hrg⟩:p.Ok K∧(lpErr p=0→p.Ft K)∧s.basis.length≤1099511627776∧∀z∈s.basis,-9223372036854775808≤z∧z≤9223372036854775807);obtain ⟨x0,x1,x2⟩:=hX.three;obtain ⟨y0,y1,y2⟩:=j.three;clear h h2 hc hv hr hI l f g hX j ok hF hbl hrg;go_enter Tryz.func21,Tryz.ntmps21;go_wp2_with fail;clear hW D;refine (Zha _ _ p s K _ (q.out.below b) (t.out.below b) d.out.1 d.out.2.1 d.out.2.2.1 d.out.2.2.2).mono ?_;intro o w2 ho;obtain ⟨i,ho⟩:=ho;have a:=Za b i b.size;clear b x0 x1 x2 y0 y1 y2;rcases ho with ⟨he,rfl⟩ | ⟨hz,he,rfl⟩ | ⟨hz,he,e,rfl,hE⟩
 ·have hS:Xc p s=lpErr p:=Zhb he;have u:(lpErr p !=0)=true:=by simpa using he
  have HS:=JZ hS;have HE:Hid (Xc p s≠0):=JZ (by rw [hS];exact he);clear hS he i;generalize lpErr p=L at *;go_wp2;refine bodyPost_ret (results_tmp3 rfl _ _ _) rfl ?_;exact ⟨by rw [Ztg HE.out,HS.out];rfl,a⟩
 ·have hS:Xc p s=vsErr p s:=VR hz;have u:(vsErr p s !=0)=true:=by simpa using he
  have HS:=JZ hS;have HE:Hid (Xc p s≠0):=JZ (by rw [hS];exact he);clear hS he hz i;generalize vsErr p s=L at *;go_wp2;refine bodyPost_ret (results_tmp3 rfl _ _ _) rfl ?_;exact ⟨by rw [Ztg HE.out,HS.out];rfl,a⟩
 ·have HS:Hid (Xc p s=0):=JZ (by rw [VR hz];exact he);have HV:=JZ (Zqe he);have v:=JZ (d.out.2.1 hz);have x:=JZ hE.r;have HZ:=JZ hz;clear hz he i hE;go_wp2_with fail;refine (Ztf e p (settleQ p s) K _ x.out HV.out.settle.fit v.out HZ.out HV.out.settle.ph).mono ?_;rintro _ w3 ⟨v3,rfl,e3,E⟩;have k:=Za a E a.size;go_wp2;refine bodyPost_ret (results_tmp3 rfl _ _ _) rfl ?_;exact ⟨by rw [Zvv HS.out,HS.out];rfl,k⟩
namespace Pl
theorem Ydb {p:LPd} {s:LSt} (h:Xc p s=0):lpErr p=0∧vsErr p s=0:=by
 by_cases hz:lpErr p=0
 ·exact ⟨hz,by rw [← VR hz];exact h⟩
 ·rw [Zhb hz] at h;exact absurd h hz
end Pl
theorem Zka (v1 v2:Value) (p:LPd) (s:LSt) (K j:Nat) (w:World) (h:LpM w v1 p) (h2:StM w v2 s) (ok:p.Ok K) (hF:lpErr p=0→p.Ft K) (hbl:s.basis.length≤1099511627776) (hrg:∀z∈s.basis,-9223372036854775808≤z∧z≤9223372036854775807) (he0:Xc p s=0) (hj:j < p.cols.length):
 Calls Tryz.prog 36 #[v1,v2,.int .i64 (j:Int)] w fun o w'=>∃v',o= .returned (.tuple #[v',.int .i64 0])∧ZU w.heap.size w' v' (dirL p (settleQ p s) (j:Int))∧Below w.heap.size w w':=by
 obtain ⟨hz,q⟩:=Ydb he0;have HZ:=JZ hz;have u:=JZ q;have L:Hid (p.cost.length=p.cols.length):=JZ (hF hz).1.cl;clear he0 hz q;have l:=JZ hj;obtain ⟨A,n,c,A',n',c',F,G,H,rfl,hc,hv,hr⟩:=id h;obtain ⟨Ab,nb,cb,rfl,hI⟩:=id h2;obtain ⟨W,hW,t,f⟩:=Yc w (.slice A n c) (.slice A' n' c') (.slice F G H);obtain ⟨W1,I,i,g⟩:=YT W (.int .i64 s.phase) (.slice Ab nb cb) (.int .i64 s.pivots);have hX:=t.later g;have a:=Za f g f.size;have v:W.heap.size=w.heap.size+1:=by rw [← hW];simp
 rw [v] at i;have x:=JZ h;have y:=JZ h2;have b:=JZ (⟨ok,hF,hbl,hrg⟩:p.Ok K∧(lpErr p=0→p.Ft K)∧s.basis.length≤1099511627776∧∀z∈s.basis,-9223372036854775808≤z∧z≤9223372036854775807);obtain ⟨x0,x1,x2⟩:=hX.three;obtain ⟨y0,y1,y2⟩:=i.three;obtain ⟨l1,l2,l3⟩:=hv.len;have B:=JZ l1;have M:j < n':=by rw [B.out];exact l.out
 have HX:=JZ hX;clear l1 h h2 hc hv hr hI t f g hX i ok hF hbl hrg hj;go_enter Tryz.func36,Tryz.ntmps36;go_wp2_with fail;clear hW I;refine (Zha _ _ p s K _ (x.out.below a) (y.out.below a) b.out.1 b.out.2.1 b.out.2.2.1 b.out.2.2.2).mono ?_;intro o w2 ho;obtain ⟨k,ho⟩:=ho;have d:=Za a k a.size;have C:=HX.out.later k;clear a x0 x1 x2 y0 y1 y2;rcases ho with ⟨he,rfl⟩ | ⟨hz,he,rfl⟩ | ⟨hz,he,e,rfl,hE⟩
 ·exact absurd HZ.out he
 ·exact absurd u.out he
 ·have HV:=JZ (Zqe he);have D:=JZ (b.out.2.1 hz);have E:=JZ hE.r;obtain ⟨q0,q1,q2⟩:=C.three;clear hz he k hE;go_wp2_with fail;refine (Zem e p (settleQ p s) K j _ E.out D.out HZ.out l.out).mono ?_;rintro _ w3 ⟨v3,rfl,e3,J⟩;have m:=Za d J d.size;go_wp2;go_ret2;exact ⟨_,rfl,e3.monoB d.size,m⟩
theorem Zkb (v:Value) (fs:List RF) (K:Nat) (w:World) (h:Y1 w v fs) (hl:fs.length≤4096) (hk:RsL K fs) (hK1:1≤K) (hK:K≤34359738368):
 Calls Tryz.prog 38 #[v] w fun e w'=>∃v',e= .returned v'∧ZU w.heap.size w' v' (ZQ fs.length (qAt fs))∧Below w.heap.size w w':=by
 obtain ⟨A,c,rfl,j,k⟩:=h.shape;have H:=JZ h;have HK:=JZ hk;have HL:=JZ hl;have b:=hl;obtain ⟨n,hn⟩:∃n,fs.length=n:=⟨_,rfl⟩;rw [hn] at j b ⊢;have HN:=JZ hn;rw [hn] at H;clear h hk hn hl;go_enter Tryz.func38,Tryz.ntmps38;go_wp2_with fail;refine (Xk _ fs K _ H.out HL.out HK.out hK).mono ?_;rw [HN.out];rintro _ w1 ⟨v1,rfl,e1,a⟩;obtain ⟨A1,n1,c1,rfl⟩:∃A n c,v1= .slice A n c:=by obtain ⟨A,c,e,_⟩:=e1.vec.shape;exact ⟨A,_,c,e⟩
 go_wp2_with fail;refine (Vy _ (spV (qAt fs) n) n K _ e1.vec b (Zdu fun i _=>HK.out.qAt hK1 i) hK (Zdt _ n)).mono ?_;rw [ZO (g:=qAt fs) fun i hi=>by rw [Zij,if_pos hi]];rintro _ w2 ⟨v2,rfl,e2,d⟩;have f:=Za a d a.size;obtain ⟨A2,n2,c2,rfl⟩:=e2.sliceN;have e3:=e2.monoB a.size;clear e1 e2 a d;go_wp2;go_ret;exact ⟨_,rfl,e3,f⟩
theorem Ygm (v1:Value) (a:RF) (w:World) (h1:Zw w v1 a) (hs:a.Sm):
 Calls Tryz.prog 37 #[v1] w fun e w'=>∃v',e= .returned v'∧Zw w' v' (canF (-a.q))∧Below w.heap.size w w':=by
 obtain ⟨A,n,c,A',n',c',rfl,hd,u⟩:=id h1;obtain ⟨W,hW,_,hX,hR,h⟩:=Zjr w (.bool a.num.neg) (.slice A n c) (.bool a.den.neg) (.slice A' n' c') (.bool false) (.slice none 0 0) (.bool false) (.slice none 0 0);have e1:=h1.below h;obtain ⟨p1,p2,p3,p4⟩:=hX.four;clear h1 hd u;go_enter Tryz.func37,Tryz.ntmps37;go_wp2_with fail;clear hW;refine (XA _ a _ e1 hs).mono ?_;rintro e w3 ⟨v1,v2,N,D,rfl,iN,iD,hD,o,sN,sD,m⟩;have HD:=JZ hD;have p:=JZ o;obtain ⟨A3,n3,k3,rfl,_⟩:=iN.shape;obtain ⟨A4,n4,k4,rfl,_⟩:=iD.shape;obtain ⟨W3,v,bN,bD,bn⟩:=boxes w3 (.bool N.neg) (.slice A3 n3 k3) (.bool D.neg) (.slice A4 n4 k4);have b:=Za m bn m.size;have r:=hR.later b;have i:=Za h b h.size;have s:=iN.below bn;have t:=iD.below bn;clear hD o hX hR h e1 m b bn iN iD p1 p2 p3 p4 hs;obtain ⟨x0,x1,_,_⟩:=bN.two;obtain ⟨y0,y1,_,_⟩:=bD.two
 go_upto_region 2 with (fail)
 clear v;have C0:=Zl x0;have C1:=Zl x1;have C2:=Zl y0;have C3:=Zl y1;have j:Below W3.heap.size W3 W3.drew:=(JR _ _).drew;clear x0 x1 y0 y1;refine Zn 4 [0,2,1,3,4] (by kernel_rfl) (by kernel_rfl) ?_;repeat ((first|(first|refine Zb (v:=?_) rfl rfl rfl ?_ ?_ |refine Zd (v:=?_) rfl rfl rfl ?_ ?_);rotate_left;·(intro _ _;go_simp;(try go_bits);(try with_reducible rfl))|refine Ze rfl rfl rfl ?_);(try simp only [py]))
 refine Zf rfl rfl (fun _ kq=>?_);go_simp;with_reducible refine (V3 _ N _ (s.below j) (JW sN (by decide))).mono ?_
 rintro _ w6 ⟨v6,rfl,e6,x⟩;have d:=Za j x j.size;refine kq.out _ _ (.inr d) ?_;clear kq;(try simp only [py]);repeat ((first|(first|refine Zb (v:=?_) rfl rfl rfl ?_ ?_ |refine Zd (v:=?_) rfl rfl rfl ?_ ?_);rotate_left;·(intro _ _;go_simp;(try go_bits);(try with_reducible rfl))|refine Ze rfl rfl rfl ?_);(try simp only [py]))
 refine Zf rfl rfl (fun _ kq=>?_);go_simp;with_reducible refine (X5 _ _ (canI (-N.z)) D _ e6 (t.below d) (by rw [YP,Int.natAbs_neg,Z8];exact JW sN (by decide)) (JW sD (by decide)) (by have:=HD.out;omega)).mono ?_
 rw [ZL,show Rat.divInt (-N.z) D.z= -a.q by rw [← p.out];exact (Rat.neg_divInt _ _).symm];rintro _ w8 ⟨v8,rfl,e8,y⟩;have k:=Za d y d.size;obtain ⟨C,l,f,C',l',f',rfl,_,_⟩:=id e8;have g:=r.later k;obtain ⟨c0,c1,c2,c3⟩:=g.four;obtain ⟨f0,f1,f2,f3⟩:=g.fourF;refine kq.out _ _ (.inr k) ?_;clear kq;(try simp only [py]);refine Zf rfl rfl (fun _ kq=>?_);go_simp;refine kq.out _ _ (.inl (by decide)) ?_;clear kq;(try simp only [py]);refine Zv ?_;clear C0 C1 C2 C3;go_wp2;refine Zp Tryz.results37 Tryz.underlying46 (by kernel_rfl) rfl (g.set4 _ _ _ _) rfl ?_;exact Yk g e8 (Za i k i.size) (by omega)
namespace Pl
def exP (p:LPd) (s:LSt):Prf:=if Xc p s=0 then Zcm p (settleQ p s) else ⟨0,[],[],[]⟩
def exE (p:LPd) (s:LSt):Int:=if Xc p s=0 then Zyq p (settleQ p s) else Xc p s
theorem Yia {p:LPd} {s:LSt} (h:Xc p s≠0):exP p s=⟨0,[],[],[]⟩∧exE p s=Xc p s:=⟨if_neg h,if_neg h⟩
theorem Zth {p:LPd} {s:LSt} (h:Xc p s=0):exP p s=Zcm p (settleQ p s)∧exE p s=Zyq p (settleQ p s):=⟨if_pos h,if_pos h⟩
end Pl
theorem Zti (v1 v2:Value) (p:LPd) (s:LSt) (K:Nat) (w:World) (h:LpM w v1 p) (h2:StM w v2 s) (ok:p.Ok K) (hF:lpErr p=0→p.Ft K) (hbl:s.basis.length≤1099511627776) (hrg:∀z∈s.basis,-9223372036854775808≤z∧z≤9223372036854775807) (hse:Xc p s=0):
 Calls Tryz.prog 10 #[v1,v2] w fun o w'=>∃v',o= .returned (.tuple #[v',.int .i64 (Zyq p (settleQ p s))])∧Zja w' v' (Zcm p (settleQ p s))∧Below w.heap.size w w':=by
 obtain ⟨br,cl⟩:=Ydb hse;have ds:=JZ br;have HV:=JZ (Zqe cl);have a6:=JZ hse;have ab:=JZ (hF br);have bv:=JZ (Zvv hse);have bc:=JZ (Zvt hse);have bd:=JZ (Zvu hse);have ar:Hid (s.basis=(settleQ p s).basis):=JZ (by unfold settleQ;split <;> rfl);have be:=JZ HV.out.settle.fit;have bw:=JZ HV.out.settle;clear br cl hse;obtain ⟨t,ht⟩:∃t,settleQ p s=t:=⟨_,rfl⟩;rw [ht] at bv bc bd ar be bw ⊢;have HT:=JZ ht;clear ht;obtain ⟨A,n,c,A',n',c',dh,di,dj,rfl,hc,hv,hr⟩:=id h;obtain ⟨Ab,nb,cb,rfl,hI⟩:=id h2;obtain ⟨W,hW,cm,aj⟩:=Yc w (.slice A n c) (.slice A' n' c') (.slice dh di dj);obtain ⟨W1,cn,bs,ak⟩:=YT W (.int .i64 s.phase) (.slice Ab nb cb) (.int .i64 s.pivots);have bx:=cm.later ak;have a7:=Za aj ak aj.size;have bz:W.heap.size=w.heap.size+1:=by rw [← hW];simp
 rw [bz] at bs;obtain ⟨W2,dk,bt,a3⟩:=XZ W1 (.int .i64 0) (.slice none 0 0) (.slice none 0 0) (.slice none 0 0);have bf:=bx.later a3;have bg:=bs.later a3;have ac:=Za a7 a3 a7.size;have c0:W1.heap.size=w.heap.size+1+1:=by rw [← cn];simp [bz]
 rw [c0] at bt;have a8:=JZ h;have a9:=JZ h2;have d5:=JZ hI;have l:=JZ (⟨ok,hF,hbl,hrg⟩:p.Ok K∧(lpErr p=0→p.Ft K)∧s.basis.length≤1099511627776∧∀z∈s.basis,-9223372036854775808≤z∧z≤9223372036854775807);obtain ⟨l1,l2,l3⟩:=hv.len;have bh:=JZ l1;have dt:n'≤1200:=by rw [l1];exact ab.out.1.cols
 obtain ⟨b1,b2,b3⟩:=hI.len;have d6:=JZ b1;obtain ⟨x0,x1,x2⟩:=bf.three;obtain ⟨y0,y1,y2⟩:=bg.three;clear l1 b1 h h2 hc hv hr hI cm bx a7 aj ak a3 bs ok hF hbl hrg;go_enter Tryz.func10,Tryz.ntmps10;go_wp2_with fail;clear hW cn dk;refine (Zjm _ _ p s K _ (a8.out.below ac) (a9.out.below ac) l.out.1 l.out.2.1 l.out.2.2.1 l.out.2.2.2).mono ?_;rw [bv.out,a6.out];have b4:=UC p t;generalize cz:Yh p t=q at b4 ⊢;generalize d0:UJ p t=j;have HQ:=JZ cz;have HJ:=JZ d0;clear cz d0;rintro _ w3 ⟨rfl,P⟩;have c1:=bf.later P;have c2:=bg.later P;have bi:=bt.later P;have ad:=Za ac P ac.size;clear x0 x1 x2 y0 y1 y2 bf bg bt ac P;obtain ⟨W7,dl,al,am⟩:=XZ w3 (.int .i64 0) (.slice none 0 0) (.slice none 0 0) (.slice none 0 0);have c3:=c1.later am;have c4:=c2.later am;have c7:=bi.later am;have b6:=Za ad am ad.size;have d7:w.heap.size+1+1 < w3.heap.size:=bi.lt_;obtain ⟨gx,a4⟩:∃gx,gx=w3.heap.size:=⟨_,rfl⟩;rw [← a4] at al d7;clear c1 c2 bi ad am;obtain ⟨p0,p1,p2,p3⟩:=al.four;obtain ⟨g0,g1,g2,g3⟩:=al.fourF;obtain ⟨k1,k2,k3,k4⟩:=VF (B:=w.heap.size) (w0:=w) al b6 (by omega) (.int .i64 q) (.slice none 0 0) (.slice none 0 0) (.slice none 0 0);rw [a4] at p0 p1 p2 p3 g0 g1 g2 g3
 go_upto_region 5 with (fail)
 rw [← a4];clear a4 dl p0 p1 p2 p3 g0 g1 g2 g3;have S:=k4 _ _ _ (by omega) c3;have T:=k4 _ _ _ (by omega) c4;have U:=k4 _ _ _ (by omega) c7;clear c3 c4 c7 b6 k2 k4;generalize (((W7.setCell ⟨gx,0,none⟩ (.int .i64 q)).setCell ⟨gx,1,none⟩ (.slice none 0 0)).setCell ⟨gx,2,none⟩ (.slice none 0 0)).setCell ⟨gx,3,none⟩ (.slice none 0 0)=W8 at *;have Z:=k1;have d:=k3;clear k1 k3 al;rcases b4 with rfl | rfl | rfl | rfl
 ·obtain ⟨M,N⟩:=Ync HQ.out;have a0:=JZ M;have a1:=JZ N;clear M N;obtain ⟨r0,r1,r2,r3⟩:=U.four;obtain ⟨f0,f1,f2,f3⟩:=U.fourF;obtain ⟨p0,p1,p2,p3⟩:=Z.four;go_wp2;obtain ⟨k1,k2,k3,k4⟩:=VF (B:=w.heap.size) (w0:=w) U d (by omega) (.int .i64 0) (.slice none 0 0) (.slice none 0 0) (.slice none 0 0);refine YX Tryz.results10 Tryz.underlying33 (by kernel_rfl) rfl k1 rfl ?_;exact ⟨_,by rw [a1.out];rfl,by rw [a0.out];exact ⟨none,0,0,none,0,0,none,0,0,rfl,VY _,VY _,VY _,by simp,by simp⟩,k3⟩
 ·obtain ⟨M,N⟩:=Ygh HQ.out;have a0:=JZ M;have a1:=JZ N;clear M N;obtain ⟨x0,x1,x2⟩:=S.three;obtain ⟨y0,y1,y2⟩:=T.three;go_wp2_with fail;refine (Zjl _ _ p s K _ (a8.out.below d) (a9.out.below d) l.out.1 l.out.2.1 l.out.2.2.1 l.out.2.2.2).mono ?_;rw [a6.out,bc.out];rintro _ u9 ⟨v9,rfl,e9,H⟩;obtain ⟨A9,n9,c9,rfl⟩:=e9.sliceN;have a:=Z.later H;have C:=U.later H;have I:=S.later H;have J:=T.later H;have E:=Za d H d.size;obtain ⟨p0,p1,p2,p3⟩:=a.four;obtain ⟨g0,g1,g2,g3⟩:=a.fourF;have kb:=Zg.setCell a 1 (.slice A9 n9 c9);have au:=a.set_ 1 (.slice A9 n9 c9);have av:=C.set_other (g:=gx) (by omega) 1 (.slice A9 n9 c9);have aa:=I.set_other (g:=gx) (by omega) 1 (.slice A9 n9 c9);have ae:=J.set_other (g:=gx) (by omega) 1 (.slice A9 n9 c9);have v:=E.setCell (p:=⟨gx,1,none⟩) (by simp;omega) (.slice A9 n9 c9);have aw:=e9.frs.but kb (by decide) (by decide)
  go_upto_region 9 with (fail)
  clear x0 x1 x2 y0 y1 y2 p0 p1 p2 p3 g0 g1 g2 g3 a C I J E kb e9 H Z U S T d;generalize u9.setCell ⟨gx,1,none⟩ (.slice A9 n9 c9)=W9 at *;obtain ⟨x0,x1,x2⟩:=aa.three;obtain ⟨y0,y1,y2⟩:=ae.three;go_wp2_with fail;refine (Zqr _ _ p s K _ (a8.out.below v) (a9.out.below v) l.out.1 l.out.2.1 l.out.2.2.1 l.out.2.2.2).mono ?_;rw [a6.out,bd.out];rintro _ ap ⟨cy,rfl,O,b⟩;obtain ⟨m,r,u,rfl⟩:=O.sliceN;have a:=au.later b;have C:=av.later b;have I:=aa.later b;have J:=ae.later b;have E:=Za v b v.size;obtain ⟨p0,p1,p2,p3⟩:=a.four;obtain ⟨g0,g1,g2,g3⟩:=a.fourF;have kb:=Zg.setCell a 2 (.slice m r u);have V:=a.set_ 2 (.slice m r u);have y:=C.set_other (g:=gx) (by omega) 2 (.slice m r u);have c8:=I.set_other (g:=gx) (by omega) 2 (.slice m r u);have ca:=J.set_other (g:=gx) (by omega) 2 (.slice m r u);have L:=E.setCell (p:=⟨gx,2,none⟩) (by simp;omega) (.slice m r u);have X:=O.frs.but kb (by decide) (by decide);have af:=(aw.below b).but kb (by decide) (by decide)
  go_upto_region 24 with (fail)
  clear x0 x1 x2 y0 y1 y2 p0 p1 p2 p3 g0 g1 g2 g3 a C I J E kb O b au av aa ae v aw;generalize ap.setCell ⟨gx,2,none⟩ (.slice m r u)=d3 at *;obtain ⟨r0,r1,r2,r3⟩:=y.four;obtain ⟨f0,f1,f2,f3⟩:=y.fourF;obtain ⟨p0,p1,p2,p3⟩:=V.four;go_wp2;obtain ⟨k1,k2,k3,k4⟩:=VF (B:=w.heap.size) (w0:=w) y L (by omega) (.int .i64 1) (.slice A9 n9 c9) (.slice m r u) (.slice none 0 0);refine YX Tryz.results10 Tryz.underlying33 (by kernel_rfl) rfl k1 rfl ?_;exact ⟨_,by rw [a1.out];rfl,by rw [a0.out];exact ⟨_,_,_,_,_,_,_,_,_,rfl,af.but k2 (by decide) (by decide),X.but k2 (by decide) (by decide),VY _,by simp,by simp⟩,k3⟩
 ·obtain ⟨M,N⟩:=Ygi HQ.out;have a0:=JZ M;have a1:=JZ N;clear M N;obtain ⟨x0,x1,x2⟩:=S.three;obtain ⟨y0,y1,y2⟩:=T.three;go_wp2_with fail;refine (Zqr _ _ p s K _ (a8.out.below d) (a9.out.below d) l.out.1 l.out.2.1 l.out.2.2.1 l.out.2.2.2).mono ?_;rw [a6.out,bd.out];rintro _ ap ⟨cy,rfl,O,b⟩;obtain ⟨m,r,u,rfl⟩:=O.sliceN;have a:=Z.later b;have C:=U.later b;have I:=S.later b;have J:=T.later b;have E:=Za d b d.size;obtain ⟨p0,p1,p2,p3⟩:=a.four;obtain ⟨g0,g1,g2,g3⟩:=a.fourF;have kb:=Zg.setCell a 2 (.slice m r u);have V:=a.set_ 2 (.slice m r u);have y:=C.set_other (g:=gx) (by omega) 2 (.slice m r u);have c8:=I.set_other (g:=gx) (by omega) 2 (.slice m r u);have ca:=J.set_other (g:=gx) (by omega) 2 (.slice m r u);have L:=E.setCell (p:=⟨gx,2,none⟩) (by simp;omega) (.slice m r u);have X:=O.frs.but kb (by decide) (by decide)
  go_upto_region 24 with (fail)
  clear x0 x1 x2 y0 y1 y2 p0 p1 p2 p3 g0 g1 g2 g3 a C I J E kb O b Z U S T d;generalize ap.setCell ⟨gx,2,none⟩ (.slice m r u)=d3 at *;obtain ⟨r0,r1,r2,r3⟩:=y.four;obtain ⟨f0,f1,f2,f3⟩:=y.fourF;obtain ⟨p0,p1,p2,p3⟩:=V.four;go_wp2;obtain ⟨k1,k2,k3,k4⟩:=VF (B:=w.heap.size) (w0:=w) y L (by omega) (.int .i64 2) (.slice none 0 0) (.slice m r u) (.slice none 0 0);refine YX Tryz.results10 Tryz.underlying33 (by kernel_rfl) rfl k1 rfl ?_;exact ⟨_,by rw [a1.out];rfl,by rw [a0.out];exact ⟨_,_,_,_,_,_,_,_,_,rfl,VY _,X.but k2 (by decide) (by decide),VY _,by simp,by simp⟩,k3⟩
 ·obtain ⟨M,N⟩:=Ycq HQ.out;have a0:=JZ M;have a1:=JZ N;obtain ⟨jn,an,co,cp⟩:=Zqi HQ.out;have d8:=JZ an;have ax:jn < n':=by rw [bh.out];exact an
  obtain rfl:j=(jn:Int):=by rw [← HJ.out];exact co
  have du:(jn:Int) < n':=by omega
  obtain ⟨D,hD⟩:∃D,WS p t=D:=⟨_,rfl⟩;have bj:Hid (dirL p t (jn:Int)=D):=JZ (by rw [← cp,hD]);have bk:Hid (D.length=nb):=JZ (by rw [← bj.out,Zfo bw.out.reg,d6.out,ar.out,be.out.len]);have cc:Hid (RsL (5^p.right.length * K) D):=JZ (by rw [← bj.out];exact Zvl ab.out.1 t _);have ag:Hid (1≤5^p.right.length * K∧5^p.right.length * K≤4000000):=JZ ⟨JW ab.out.1.k1 ab.out.1.le,ab.out.2.2⟩;have d9:Hid (Zlj p t=ZQ n' (Zen t D (jn:Int) nb)):=JZ (by unfold Zlj;rw [HJ.out,bh.out,hD,bk.out]);have da:Hid (∀k i,Sz (5^p.right.length * K) (Zen t D (jn:Int) k i)):=JZ (fun k i=>Ycr cc.out ag.out.1 k i);clear M N an co cp hD;obtain ⟨x0,x1,x2⟩:=S.three;obtain ⟨y0,y1,y2⟩:=T.three;go_wp2_with fail;refine (Zjl _ _ p s K _ (a8.out.below d) (a9.out.below d) l.out.1 l.out.2.1 l.out.2.2.1 l.out.2.2.2).mono ?_;rw [a6.out,bc.out];rintro _ u9 ⟨v9,rfl,e9,H⟩;obtain ⟨A9,n9,c9,rfl⟩:=e9.sliceN;have a:=Z.later H;have C:=U.later H;have I:=S.later H;have J:=T.later H;have E:=Za d H d.size;obtain ⟨p0,p1,p2,p3⟩:=a.four;obtain ⟨g0,g1,g2,g3⟩:=a.fourF;have kb:=Zg.setCell a 1 (.slice A9 n9 c9);have au:=a.set_ 1 (.slice A9 n9 c9);have av:=C.set_other (g:=gx) (by omega) 1 (.slice A9 n9 c9);have aa:=I.set_other (g:=gx) (by omega) 1 (.slice A9 n9 c9);have ae:=J.set_other (g:=gx) (by omega) 1 (.slice A9 n9 c9);have v:=E.setCell (p:=⟨gx,1,none⟩) (by simp;omega) (.slice A9 n9 c9);have aw:=e9.frs.but kb (by decide) (by decide);have db:=XF n' (by omega)
  go_upto_region 14 with (fail)
  clear x0 x1 x2 y0 y1 y2 p0 p1 p2 p3 g0 g1 g2 g3 a C I J E kb e9 H Z U S T d;generalize u9.setCell ⟨gx,1,none⟩ (.slice A9 n9 c9)=W9 at *;obtain ⟨x0,x1,x2⟩:=aa.three;have hO:=ZU.zeros W9 n' (by unfold maxLen;omega);have G:=Zi W9 (.cells (zfc n') 46);go_wp2_with fail;clear db x0 x1 x2;obtain ⟨gr,ay⟩:∃gr,W9.heap.size=gr:=⟨_,rfl⟩;rw [ay] at hO G ⊢;have ah:=JZ ay;have dv:w.heap.size≤gr:=by rw [← ay];exact v.size
  clear ay;generalize W9.alloc (.cells (zfc n') 46)=d3 at *;refine (Zaj _).mono ?_;rintro _ dr ⟨dy,rfl,bu,aq⟩;obtain ⟨B1,m1,d1,B2,m2,d2,rfl,_,_⟩:=id bu;have bl:=hO.below aq;have b7:=Za G aq (by have:=G.size;rw [ah.out] at this;exact this);obtain ⟨_,_,_,_,⟨t0,t1,t2,t3⟩,⟨f0,f1,f2,f3⟩,_⟩:=bl.at_ (show (List.replicate n' zeroF)[jn]? =some zeroF by simp [ax]);obtain ⟨cq,dm⟩:=bl.set_ (k:=jn) (by simpa using ax) bu;have F:=Zx b7 (JY _) (jn * 4) (jn * 4+1) (jn * 4+2) (jn * 4+3);clear hO G aq bl b7 dm bu
  go_upto_region 16 with (fail)
  clear t0 t1 t2 t3 f0 f1 f2 f3;have bm:WE gr n' (5^p.right.length * K) (Zen t D (jn:Int) 0) _ (.slice (some ⟨gr,0,none⟩) n' n'):=⟨_,cq,by simp,fun i hi=>by
   unfold Zen qAt;by_cases e:jn=i
   ·subst e;rw [List.getElem?_set_self (by simpa using ax),if_pos rfl];exact Zr 1
   ·rw [List.getElem?_set_ne e,if_neg (by omega)];simp [hi,zeroF_q],fun i f hf=>by
   by_cases e:jn=i
   ·subst e;rw [List.getElem?_set_self (by simpa using ax)] at hf;injection hf with hf;subst hf;exact (Sz_one.mono ag.out.1).rs
   ·rw [List.getElem?_set_ne e] at hf;exact Zid _ n' i f hf⟩
  have F:=F (.bool (canF 1).num.neg) (.slice B1 m1 d1) (.bool (canF 1).den.neg) (.slice B2 m2 d2);clear cq;generalize (((dr.setCell ⟨gr,jn * 4,none⟩ (.bool (canF 1).num.neg)).setCell ⟨gr,jn * 4+1,none⟩ (.slice B1 m1 d1)).setCell ⟨gr,jn * 4+2,none⟩ (.bool (canF 1).den.neg)).setCell ⟨gr,jn * 4+3,none⟩ (.slice B2 m2 d2)=d4 at *;rw [← ah.out] at F;have b8:=aa.later F;have ai:=ae.later F;have a2:=Za v F v.size;obtain ⟨x0,x1,x2⟩:=b8.three;obtain ⟨y0,y1,y2⟩:=ai.three;have ce:gr < d4.heap.size:=by obtain ⟨fs,⟨cs,h9,_⟩,h8,_,_⟩:=bm;exact (h9.lt gr rfl).2
  go_wp2_with fail;refine (Zka _ _ p s K jn _ (a8.out.below a2) (a9.out.below a2) l.out.1 l.out.2.1 l.out.2.2.1 l.out.2.2.2 a6.out d8.out).mono ?_;rw [HT.out,bj.out];rintro _ dz ⟨e0,rfl,b0,a5⟩;obtain ⟨Ad,nd,cd,rfl⟩:=b0.sliceN;have cf:=bk.out;obtain ⟨_,_,cr,dn,dx⟩:=b0.frs.shape;rw [cf] at cr dn;injection cr with q1 q2 q3;subst q1 q2 q3;have R:=Za F a5 F.size;have bn:=Za v R v.size;have b9:=bm.below a5;have ba:=ai.later a5;rw [← ah.out] at ce;clear x0 x1 x2 y0 y1 y2 b8 ai F a2 bm a5 cf;obtain ⟨y0,y1,y2⟩:=ba.three;go_wp2;clear y0 y1 y2 ba
  go_loopw [85] (fun x wr=>∃k:Nat,k≤nd∧x= .int .i64 k∧WE gr n' (5^p.right.length * K) (Zen t D (jn:Int) k) wr (.slice (some ⟨gr,0,none⟩) n' n')∧Below W9.heap.size W9 wr∧ZU d4.heap.size wr (.slice Ad nd cd) D) (fun x _=>nd - (intOf x).toNat)
  case atStart=>exact ⟨0,by omega,rfl,b9,R,b0⟩
  case round=>
   clear R bn b9 b0;obtain ⟨k,hk,rfl,hS,G,ao⟩:=hrel;have a7:=Za v G v.size;rcases JX k nd with hkl | hkl
   ·have dw:(k:Int) < nd:=(by omega);obtain ⟨bb,ob,z,hA,z0,az,z1,z2⟩:=d5.out.at_ hkl;subst hA;have z3:=Zk a7 z0;have bo:Hid (t.at_ k=z):=JZ (by rw [ar.out] at az;exact LSt.at_eq az);have r2:z < n':=by
     have h9:=(be.out.1 k z (by rw [← ar.out];exact az)).2;rw [bh.out];exact h9
    clear z0 az;rcases Int.lt_or_le z 0 with hz0 | hz0
    ·have dc:=hS.to (g:=Zen t D (jn:Int) (k+1)) (JY _) fun i _=>by rw [VE,bo.out,if_neg (by omega)]
     clear hS;go_wp2;go_roundw
     case rel=>exact ⟨k+1,by omega,by go_num,dc,G,ao⟩
     case measure=>simp [intOf];omega
    ·obtain ⟨zn,rfl⟩:=JT hz0;have cg:zn < n':=(by omega);obtain ⟨f,hf⟩:=ZH (fs:=D) (i:=k) (by rw [bk.out];exact hkl);obtain ⟨b5,o5,A5,n5,c5,A6,n6,c6,dp,_,⟨x0,x1,x2,x3⟩,ct⟩:=ao.frs.elem (JR _ _) hf;subst dp;have bp:Hid (qAt D k=f.q):=JZ (ZF hf);have dd:f.Sm:=(cc.out k f hf).sm (by have:=ag.out;omega);have de:=JZ (da.out (k+1) zn);clear hf;go_wp2_with fail;refine (Ygm _ f _ ct dd).mono ?_;rintro _ u3 ⟨v3,rfl,e3,P⟩;obtain ⟨C1,i1,l1,C2,i2,l2,rfl,_,_⟩:=id e3;have bq:=hS.below P;have R:=Za G P G.size;have ch:=ao.below P;have ci:Hid (Zen t D (jn:Int) (k+1) zn= -f.q):=JZ (by rw [VE,bo.out,if_pos rfl,bp.out]);obtain ⟨_,_,_,_,_,_,_,⟨t0,t1,t2,t3⟩,⟨f0,f1,f2,f3⟩,_⟩:=bq.at_ cg;obtain ⟨dq,cu⟩:=bq.set_ (f':=Zen t D (jn:Int) (k+1)) cg e3 (by rw [← ci.out];exact de.out) ci.out (fun i _ hne=>by rw [VE,bo.out,if_neg (by omega)]) _ rfl;have cj:=Zx R (Nat.le_of_eq ah.out) (zn * 4) (zn * 4+1) (zn * 4+2) (zn * 4+3);have df:=ch.far4 (by rw [← ah.out];exact ce) _ rfl cu;clear hS G a7 ao ct P bq R ch x0 x1 x2 x3 e3 cu;go_wp2;go_roundw
     case rel=>exact ⟨k+1,by omega,by go_num,dq,cj _ _ _ _,df⟩
     case measure=>simp [intOf];omega
   ·obtain rfl:nd=k:=by omega
    obtain ⟨fs,hO,cv,cw,cx⟩:=hS;have ck:=JZ cv;have dg:=JZ cx;have bp:=JZ cw;clear cv cx cw ao;go_wp2_with fail;refine (Zkb _ fs _ _ hO.frs (by rw [ck.out];omega) dg.out ag.out.1 (by have:=ag.out;omega)).mono ?_;rw [ck.out,ZO (g:=Zen t D (jn:Int) nd) fun i hi=>bp.out i hi,← d9.out];rintro _ ap ⟨cy,rfl,O,b⟩;obtain ⟨m,r,u,rfl⟩:=O.sliceN;have Y:=Za G b G.size;have a:=au.later Y;have C:=av.later Y;have E:=Za v Y v.size;obtain ⟨p0,p1,p2,p3⟩:=a.four;obtain ⟨g0,g1,g2,g3⟩:=a.fourF;have kb:=Zg.setCell a 3 (.slice m r u);have V:=a.set_ 3 (.slice m r u);have y:=C.set_other (g:=gx) (by omega) 3 (.slice m r u);have L:=E.setCell (p:=⟨gx,3,none⟩) (by simp;omega) (.slice m r u);have X:=O.frs.but kb (by decide) (by decide);have af:=(aw.below Y).but kb (by decide) (by decide)
    go_upto_region 24 with (fail)
    clear p0 p1 p2 p3 g0 g1 g2 g3 a C E kb O b G Y hO;generalize ap.setCell ⟨gx,3,none⟩ (.slice m r u)=e1 at *;obtain ⟨r0,r1,r2,r3⟩:=y.four;obtain ⟨f0,f1,f2,f3⟩:=y.fourF;obtain ⟨p0,p1,p2,p3⟩:=V.four;go_wp2;obtain ⟨k1,k2,k3,k4⟩:=VF (B:=w.heap.size) (w0:=w) y L (by omega) (.int .i64 3) (.slice A9 n9 c9) (.slice none 0 0) (.slice m r u);refine YX Tryz.results10 Tryz.underlying33 (by kernel_rfl) rfl k1 rfl ?_;exact ⟨_,by rw [a1.out];rfl,by rw [a0.out];exact ⟨_,_,_,_,_,_,_,_,_,rfl,af.but k2 (by decide) (by decide),VY _,X.but k2 (by decide) (by decide),by simp,by simp⟩,k3⟩
theorem Zqs (v1 v2:Value) (p:LPd) (s:LSt) (K:Nat) (w:World) (h:LpM w v1 p) (h2:StM w v2 s) (ok:p.Ok K) (hF:lpErr p=0→p.Ft K) (hbl:s.basis.length≤1099511627776) (hrg:∀z∈s.basis,-9223372036854775808≤z∧z≤9223372036854775807) (hse:Xc p s≠0):
 Calls Tryz.prog 10 #[v1,v2] w fun o w'=>o= .returned (.tuple #[.agg #[.int .i64 0,.slice none 0 0,.slice none 0 0,.slice none 0 0],.int .i64 (Xc p s)])∧Below w.heap.size w w':=by
 have q:=Ztg hse;have F:=JZ q;have O:=JZ hse;obtain ⟨er,j⟩:∃x,Xc p s=x:=⟨_,rfl⟩;rw [j] at hse ⊢;have G:=JZ j;have P:(er !=0)=true:=by simpa using hse
 clear q hse j;obtain ⟨A,n,c,A',n',c',J,L,M,rfl,hc,hv,hr⟩:=id h;obtain ⟨Ab,nb,cb,rfl,hI⟩:=id h2;obtain ⟨W,hW,D,d⟩:=Yc w (.slice A n c) (.slice A' n' c') (.slice J L M);obtain ⟨W1,E,k,e⟩:=YT W (.int .i64 s.phase) (.slice Ab nb cb) (.int .i64 s.pivots);have r:=D.later e;have g:=Za d e d.size;have t:W.heap.size=w.heap.size+1:=by rw [← hW];simp
 rw [t] at k;obtain ⟨W2,N,l,a⟩:=XZ W1 (.int .i64 0) (.slice none 0 0) (.slice none 0 0) (.slice none 0 0);have u:=r.later a;have v:=k.later a;have b:=Za g a g.size;have y:W1.heap.size=w.heap.size+1+1:=by rw [← E];simp [t]
 rw [y] at l;have H:=JZ h;have I:=JZ h2;have f:=JZ (⟨ok,hF,hbl,hrg⟩:p.Ok K∧(lpErr p=0→p.Ft K)∧s.basis.length≤1099511627776∧∀z∈s.basis,-9223372036854775808≤z∧z≤9223372036854775807);obtain ⟨x0,x1,x2⟩:=u.three;obtain ⟨y0,y1,y2⟩:=v.three;clear h h2 hc hv hr hI D r g d e a k ok hF hbl hrg;go_enter Tryz.func10,Tryz.ntmps10;go_wp2_with fail;clear hW E N;refine (Zjm _ _ p s K _ (H.out.below b) (I.out.below b) f.out.1 f.out.2.1 f.out.2.2.1 f.out.2.2.2).mono ?_;rw [F.out,G.out];rintro _ w3 ⟨rfl,m⟩;have i:=l.later m;have C:=Za b m b.size;clear x0 x1 x2 y0 y1 y2 u v l b m;obtain ⟨r0,r1,r2,r3⟩:=i.four;obtain ⟨f0,f1,f2,f3⟩:=i.fourF;go_wp2;obtain ⟨k1,k2,k3,k4⟩:=VF (B:=w.heap.size) (w0:=w) i C (by omega) (.int .i64 0) (.slice none 0 0) (.slice none 0 0) (.slice none 0 0);refine YX Tryz.results10 Tryz.underlying33 (by kernel_rfl) rfl k1 rfl ?_;exact ⟨rfl,k3⟩
theorem Zam (v1 v2:Value) (p:LPd) (s:LSt) (K:Nat) (w:World) (h:LpM w v1 p) (h2:StM w v2 s) (ok:p.Ok K) (hF:lpErr p=0→p.Ft K) (hbl:s.basis.length≤1099511627776) (hrg:∀z∈s.basis,-9223372036854775808≤z∧z≤9223372036854775807):
 Calls Tryz.prog 10 #[v1,v2] w fun o w'=>∃v',o= .returned (.tuple #[v',.int .i64 (exE p s)])∧Zja w' v' (exP p s)∧Below w.heap.size w w':=by
 by_cases a:Xc p s=0
 ·rw [(Zth a).1,(Zth a).2];exact Zti v1 v2 p s K w h h2 ok hF hbl hrg a
 ·rw [(Yia a).1,(Yia a).2];refine (Zqs v1 v2 p s K w h h2 ok hF hbl hrg a).mono ?_;rintro _ w' ⟨rfl,hb⟩;exact ⟨_,rfl,⟨none,0,0,none,0,0,none,0,0,rfl,VY _,VY _,VY _,by simp,by simp⟩,hb⟩
end Go.Proofs.YtgbhebappffbdaaGreat
namespace Go.Proofs.YtgbhebappffbdaaGreat
open Go.RowKit
open Pl
attribute [local go_sem ↓] Go.wp_at_zero Go.wp_at_succ
namespace Pl
def Yib (p:LPd):LSt:=VC p 200 (settleQ p (XI p))
theorem Zvw (p:LPd):Val p (Yib p):=Zgx (Zjh p).settle
theorem Ygn (p:LPd):settleQ p (Yib p)=Yib p:=runL_settled settle_twice
theorem Ynm {p:LPd} {s:LSt} (S:s.Fit p) (h1:p.right.length≤7) (h2:p.cols.length≤1200):s.basis.length≤1099511627776∧∀z∈s.basis,-9223372036854775808≤z∧z≤9223372036854775807:=by
 refine ⟨by rw [S.2];omega,fun z hz=>?_⟩;obtain ⟨i,hi⟩:=List.getElem?_of_mem hz;have:=S.1 i z hi;omega
end Pl
namespace Pl
def Yli (p:LPd) (s:LSt) (N:Nat):LSt:=if vsErr p s=0 then VC p N (settleQ p s) else ⟨0,[],0⟩
def Ue (p:LPd) (N:Nat):LSt:=Yli p (settleQ p (XI p)) N
end Pl
theorem Ygo (v1 v2:Value) (p:LPd) (s:LSt) (K N:Nat) (w:World) (h:LpM w v1 p) (h2:StM w v2 s) (F:p.Fit K) (hz:lpErr p=0) (hN:N≤9223372036854775807) (hpv:s.pivots+N≤9223372036854775807):
 Calls Tryz.prog 32 #[v1,v2,.int .i64 (N:Int)] w fun e w'=>∃v' er,e= .returned (.tuple #[v',.int .i64 er])∧StO 0 w' v' (Yli p s N)∧Below w.heap.size w w':=by
 unfold Yli;by_cases hv:vsErr p s=0
 ·rw [if_pos hv];refine (Ygb v1 v2 p s K N w h h2 F hz hv hN hpv).mono ?_;rintro e w' ⟨v',rfl,hs,hb⟩;obtain ⟨A,l,c,a,hi⟩:=hs;exact ⟨v',0,rfl,⟨A,l,c,a,hi.monoB (Nat.zero_le _)⟩,hb⟩
 ·rw [if_neg hv];refine (Ygc v1 v2 p s K N w h h2 F hz hv).mono ?_;rintro e w' ⟨rfl,hb⟩;exact ⟨_,_,rfl,⟨none,0,0,rfl,ZP.nil 0 w'⟩,hb⟩
theorem Ydc (v1:Value) (p:LPd) (K N:Nat) (w:World) (h:LpM w v1 p) (F:p.Fit K) (hz:lpErr p=0) (hN:N≤1000000):
 Calls Tryz.prog 8 #[v1,.int .i64 (N:Int)] w fun e w'=>∃v',e= .returned v'∧StM w' v' (Ue p N)∧Below w.heap.size w w':=by
 obtain ⟨A,n,c,A',n',c',a4,m,a5,rfl,hc,hv,hr⟩:=id h;obtain ⟨W,hW,U,f⟩:=Yc w (.slice A n c) (.slice A' n' c') (.slice a4 m a5);obtain ⟨W1,a6,k,i⟩:=YT W (.int .i64 0) (.slice none 0 0) (.int .i64 0);have hX:=U.later i;have j:=Za f i f.size;have Y:W.heap.size=w.heap.size+1:=by rw [← hW];simp
 rw [Y] at k;have E:=JZ h;have G:=JZ F;have HZ:=JZ hz;obtain ⟨x0,x1,x2⟩:=hX.three;obtain ⟨S2,z⟩:∃s,Ue p N=s:=⟨_,rfl⟩;rw [z];have Z:=JZ z;clear h hc hv hr U f i F hz z;go_enter Tryz.func8,Tryz.ntmps8;go_wp2_with fail;clear hW a6;refine (Zxz _ p K _ (E.out.below j) G.out HZ.out).mono ?_;obtain ⟨s1,l⟩:∃s,settleQ p (XI p)=s:=⟨_,rfl⟩;rw [l];have a0:Hid (Yli p s1 N=S2):=JZ (by rw [← l];exact Z.out);have H:s1.pivots=0:=by rw [← l];rfl
 have a1:=JZ H;clear l H;rintro _ w3 ⟨v3,rfl,⟨A3,l3,c3,rfl,V⟩,r⟩;obtain ⟨W4,a7,o,C⟩:=YT w3 (.int .i64 0) (.slice none 0 0) (.int .i64 0);have a:=Za r C r.size;have I:=hX.later a;have J:=k.later a;have u:=Za j a j.size;have L:=V.below C;have a9:w.heap.size+1 < w3.heap.size:=(k.later r).lt_;obtain ⟨y0,y1,y2⟩:=o.three;obtain ⟨f0,f1,f2⟩:=o.threeF;obtain ⟨k1,k2,k3,k4⟩:=Ww (B:=w.heap.size) (w0:=w) o u (by omega) (.int .i64 s1.phase) (.slice A3 l3 c3) (.int .i64 s1.pivots);clear x0 x1 x2
 go_upto_region 2 with (fail)
 have M:=k4 _ _ _ (by omega) I;have x:=k4 _ _ _ (by omega) J;have O:StM _ (.agg #[.int .i64 s1.phase,.slice A3 l3 c3,.int .i64 s1.pivots]) s1:=⟨A3,l3,c3,rfl,(L.but k2 (by decide)).ints⟩;clear a7 y0 y1 y2 f0 f1 f2 hX k j r C a I J u V L o k2 k4;generalize w3.heap.size=g at *;generalize ((W4.setCell ⟨g,0,none⟩ (.int .i64 s1.phase)).setCell ⟨g,1,none⟩ (.slice A3 l3 c3)).setCell ⟨g,2,none⟩ (.int .i64 s1.pivots)=W5 at *;have P:=k1;have b:=k3;clear k1 k3;obtain ⟨x0,x1,x2⟩:=M.three;obtain ⟨y0,y1,y2⟩:=P.three;go_wp2_with fail;refine (Ygo _ _ p s1 K N _ (E.out.below b) O G.out HZ.out (by omega) (by have:=a1.out;omega)).mono ?_;rw [a0.out];rintro _ w6 ⟨v6,er,rfl,⟨A6,l6,c6,rfl,X⟩,t⟩;obtain ⟨W7,a8,q,D⟩:=YT w6 (.int .i64 0) (.slice none 0 0) (.int .i64 0);have d:=Za t D t.size;have R:=x.later d;have v:=Za b d b.size;have S:=X.below D;have aa:w.heap.size+1 < w6.heap.size:=(x.later t).lt_;clear x0 x1 x2 y0 y1 y2 M P b x t D d X O;obtain ⟨y0,y1,y2⟩:=q.three;obtain ⟨f0,f1,f2⟩:=q.threeF;obtain ⟨k1,k2,k3,k4⟩:=Ww (B:=w.heap.size) (w0:=w) q v (by omega) (.int .i64 S2.phase) (.slice A6 l6 c6) (.int .i64 S2.pivots)
 go_upto_region 3 with (fail)
 have y:=k4 _ _ _ (by omega) R;have a2:=S.but k2 (by decide);clear a8 y0 y1 y2 f0 f1 f2 R v S q k2 k4;generalize w6.heap.size=g2 at *;generalize ((W7.setCell ⟨g2,0,none⟩ (.int .i64 S2.phase)).setCell ⟨g2,1,none⟩ (.slice A6 l6 c6)).setCell ⟨g2,2,none⟩ (.int .i64 S2.pivots)=W8 at *;have a3:=k1;have T:=k3;clear k1 k3;obtain ⟨y0,y1,y2⟩:=a3.three;obtain ⟨r0,r1,r2⟩:=y.three;obtain ⟨f0,f1,f2⟩:=y.threeF;obtain ⟨k1,k2,k3,k4⟩:=Ww (B:=w.heap.size) (w0:=w) y T (by omega) (.int .i64 S2.phase) (.slice A6 l6 c6) (.int .i64 S2.pivots);go_wp2;refine Zp Tryz.results8 Tryz.underlying29 (by kernel_rfl) rfl k1 rfl ?_;exact ⟨_,rfl,⟨A6,l6,c6,rfl,(a2.but k2 (by decide)).ints⟩,k3⟩
theorem Zqt (v1:Value) (p:LPd) (K:Nat) (w:World) (h:LpM w v1 p) (F:p.Fit K) (hz:lpErr p=0):
 Calls Tryz.prog 8 #[v1,.int .i64 200] w fun e w'=>∃v',e= .returned v'∧StM w' v' (Ue p 200)∧Below w.heap.size w w':=Ydc v1 p K 200 w h F hz (by decide)
namespace Pl
theorem Yic {m:Nat} (h:m≤3):5^m * 32≤4000:=by
 have:m=0∨m=1∨m=2∨m=3:=by omega
 rcases this with rfl | rfl | rfl | rfl <;> decide
theorem Zpa.ft {p:LPd} (hok:Zpa p) (hr:RsL 32 p.right):p.Ft 32:=by
 have h1:=hok.2.1;have h2:=hok.2.2.1;have h3:=Yic h1;exact ⟨⟨hok.ok (by decide) hr,(YU hok.err).2.2.2.1,by omega,hok.2.2.2.1,by omega,by decide,by omega⟩,by omega,by omega⟩
theorem Ygp {p:LPd} (hok:Zpa p):Zco p (Yib p)=none:=Ygg hok.2.1 hok.2.2.1 (by decide)
theorem Ygq {p:LPd} (hok:Zpa p):Yh p (Yib p)≠0:=fun h=>Ykz (Zvw p) h (Ygp hok)
end Pl
namespace Pl
def Gd (p:LPd) (b:Int) (t:LSt):Prop:=Val p t∧settleQ p t=t∧t.pivots≤b
theorem Gd.start (p:LPd):Gd p 0 (settleQ p (XI p)):=⟨(Zjh p).settle,settle_twice,by show (0:Int)≤0;omega⟩
theorem Gd.run {p:LPd} {b:Int} {t:LSt} (h:Gd p b t) (N:Nat):Gd p (b+N) (VC p N t):=⟨Zgx h.1,runL_settled h.2.1,by have:=runL_pivots (n:=N) h.1;have:=h.2.2;omega⟩
theorem Gd.err {p:LPd} {b:Int} {t:LSt} (h:Gd p b t) (hz:lpErr p=0):Xc p t=0:=by rw [VR hz];exact h.1.vs
theorem Gd.rg {p:LPd} {b:Int} {t:LSt} (h:Gd p b t) {K:Nat} (F:p.Ft K):t.basis.length≤1099511627776∧∀z∈t.basis,-9223372036854775808≤z∧z≤9223372036854775807:=Ynm h.1.fit F.2.1 F.1.cols
end Pl
namespace Pl
theorem Gd.ext {p:LPd} {b:Int} {t:LSt} (h:Gd p b t) (hz:lpErr p=0) (hq:Yh p t≠0):exE p t=0∧exP p t=Zcm p t∧(Zcm p t).st=Yh p t∧Znm p (Zcm p t)=0:=by
 obtain ⟨h1,h2,h3⟩:=Zqn hz h.1 h.2.1 hq;obtain ⟨e1,e2⟩:=Zth (h.err hz);rw [h.2.1] at e1 e2;exact ⟨by rw [e2];exact h3,e1,h2,h1⟩
theorem Zpa.cl {p:LPd} (h:Zpa p):∀(j:Nat) (c:List En),p.cols[j]? =some c→c.length≤64:=fun j c hc=>by have:=(h.2.2.2.2.2 j c hc).2.1;have:=h.2.1;omega
theorem Zpa.pow {p:LPd} (h:Zpa p):5^p.right.length * 32≤4000:=Yic h.2.1
theorem Gd.state (p:LPd) (N:Nat):Gd p (0+N) (Ue p N):=by
 have h:=Gd.start p;have e:Ue p N=VC p N (settleQ p (XI p)):=by unfold Ue Yli;rw [if_pos h.1.vs,settle_twice]
 rw [e];exact h.run N
end Pl
theorem Zja.parts {w:World} {st:Int} {A A' A'':Option Addr} {n c n' c' n'' c'':Nat} {x:Prf} (h:Zja w (.agg #[.int .i64 st,.slice A n c,.slice A' n' c',.slice A'' n'' c'']) x):st=x.st∧Y1 w (.slice A n c) x.x∧Y1 w (.slice A' n' c') x.y∧Y1 w (.slice A'' n'' c'') x.ray:=by
 obtain ⟨B,m,d,B',m',d',a,b,e,h1,h2,h3,h4,h5,h6⟩:=h;simp at h1;obtain ⟨rfl,⟨rfl,rfl,rfl⟩,⟨rfl,rfl,rfl⟩,⟨rfl,rfl,rfl⟩⟩:=h1;exact ⟨rfl,h2,h3,h4⟩
theorem LpM.parts {w:World} {A A' A'':Option Addr} {n c n' c' n'' c'':Nat} {p:LPd} (h:LpM w (.agg #[.slice A n c,.slice A' n' c',.slice A'' n'' c'']) p):Y1 w (.slice A n c) p.cost∧XW w (.slice A' n' c') p.cols∧Y1 w (.slice A'' n'' c'') p.right:=by
 obtain ⟨B,m,d,B',m',d',a,b,e,h1,h2,h3,h4⟩:=h;simp at h1;obtain ⟨⟨rfl,rfl,rfl⟩,⟨rfl,rfl,rfl⟩,⟨rfl,rfl,rfl⟩⟩:=h1;exact ⟨h2,h3,h4⟩
namespace Pl
theorem Ynn {p:LPd} {x:Prf} (h:Znm p x=0):shB p x=true∧holdB p x=true:=by
 unfold Znm at h;by_cases h1:lpErr p=0
 ·rw [if_neg (by simpa using h1)] at h;by_cases h2:x.st < 1∨3 < x.st
  ·rw [if_pos h2] at h;omega
  ·rw [if_neg h2] at h
   cases h3:shB p x with
   | false=>rw [if_pos h3] at h;omega
   | true=>
    rw [if_neg (by simp [h3])] at h
    cases h4:holdB p x with
    | false=>rw [if_pos h4] at h;omega
    | true=>exact ⟨rfl,rfl⟩
 ·rw [if_pos h1] at h;exact absurd h h1
theorem Yoo {p:LPd} {x:Prf} (h:Znm p x=0) (h3:x.st=1):Zgm p x=true∧x.x.length=p.cols.length:=by
 obtain ⟨h1,h2⟩:=Ynn h;have h4:=(Zuw h1).1;unfold shX at h4;rw [if_neg (by omega)] at h4;unfold holdB at h2;rw [if_pos h3] at h2;exact ⟨h2,h4⟩
theorem Yop {xs:List RF} (h:NN xs) (j:Nat):0≤qAt xs j:=by
 cases e:xs[j]? with
 | none=>rw [Zuf (List.getElem?_eq_none_iff.1 e)];exact Rat.le_refl
 | some f=>rw [ZF e];exact h j f e
theorem Yoq {q:Rat}:0≤qs q↔0≤q:=by
 constructor
 ·intro h;refine Rat.not_lt.1 fun g=>?_
  have:=Wj.2 g;omega
 ·exact Zel
theorem Ydd {p:LPd} {xs:List RF} (h:VW p xs=true):xs.length=p.cols.length∧(∀j,j < p.cols.length→0≤qAt xs j)∧∀r,r < p.right.length→Ym p xs p.cols.length r=qAt p.right r:=by
 unfold VW at h;simp only [Bool.and_eq_true,decide_eq_true_eq] at h;obtain ⟨_,h1,h2,h3⟩:=h;refine ⟨h1,fun j hj=>?_,fun r hr=>?_⟩
 ·unfold nnB at h2;exact Yoq.1 (of_decide_eq_true h2 j (by omega))
 ·unfold eqB at h3;have:=(of_decide_eq_true h3).2 r (by rw [Zc];exact hr)
  rwa [Yr hr] at this
theorem Ygr {p:LPd} (hok:Zpa p) (hc:∀j,j < p.cols.length→0≤qAt p.cost j) {xs:List RF} (hx:∀j,j < p.cols.length→0≤qAt xs j) (ht:∀r,r < p.right.length→Ym p xs p.cols.length r=qAt p.right r):Yh p (Yib p)=1:=by
 have hv:=Zvw p;rcases UC p (Yib p) with h | h | h | h
 ·exact absurd h (Ygq hok)
 ·exact h
 ·exact (Ynk hv (Ygn p) h hx ht).elim
 ·exact (Yld hok.err hv h hc).elim
theorem Yno {p:LPd} {xs ys:List RF} (hl:Zgh p ys=true) (hf:VW p xs=true):qs ((Zmm p ys).q - Xv p.cost xs p.cols.length)≤0:=by
 obtain ⟨_,g2,g3⟩:=Ydd hf;rw [Zdx hl,Zr];have:=weak (Zor hl).2.2 g2 g3;exact Int.not_lt.1 fun g=>(Zev.1 g) this
theorem Yde (p:LPd):Ue p 200=Yib p:=by
 have h:=Gd.start p;unfold Ue Yli;rw [if_pos h.1.vs,settle_twice];rfl
end Pl
theorem Zja.butP {w w':World} {v:Value} {x:Prf} (h:Zja w v x) (hk:Zg 33 w w'):Zja w' v x:=by
 obtain ⟨A,n,c,A',n',c',a,b,d,h1,h2,h3,h4,h5,h6⟩:=h;exact ⟨A,n,c,A',n',c',a,b,d,h1,h2.but hk (by decide) (by decide),h3.but hk (by decide) (by decide),h4.but hk (by decide) (by decide),h5,h6⟩
def Zym (U:World) (x:Prf) (s7 s8:Value) (wx:World):Prop:=
 ∃g A1 n1 c1 A2 n2 c2 A3 n3 c3,s7= .pointer (some ⟨g,0,none⟩)∧s8= .int .i64 0∧U.heap.size≤g∧Bk wx g 33 [.int .i64 x.st,.slice A1 n1 c1,.slice A2 n2 c2,.slice A3 n3 c3]∧Zja wx (.agg #[.int .i64 x.st,.slice A1 n1 c1,.slice A2 n2 c2,.slice A3 n3 c3]) x∧Below U.heap.size U wx
theorem Zym.mk {U w:World} {g:Nat} {x:Prf} {a b c d:Value} {A1 A2 A3:Option Addr} {n1 c1 n2 c2 n3 c3:Nat} (hB:Bk w g 33 [a,b,c,d]) (h1:Zja w (.agg #[.int .i64 x.st,.slice A1 n1 c1,.slice A2 n2 c2,.slice A3 n3 c3]) x) (hb:Below U.heap.size U w) (hg:U.heap.size≤g):
 Zym U x (.pointer (some ⟨g,0,none⟩)) (.int .i64 0) ((((w.setCell ⟨g,0,none⟩ (.int .i64 x.st)).setCell ⟨g,1,none⟩ (.slice A1 n1 c1)).setCell ⟨g,2,none⟩ (.slice A2 n2 c2)).setCell ⟨g,3,none⟩ (.slice A3 n3 c3)):=by
 obtain ⟨k1,k2,k3,k4⟩:=VF (B:=U.heap.size) (w0:=U) hB hb hg (.int .i64 x.st) (.slice A1 n1 c1) (.slice A2 n2 c2) (.slice A3 n3 c3);exact ⟨g,A1,n1,c1,A2,n2,c2,A3,n3,c3,rfl,rfl,hg,k1,h1.butP k2,k3⟩
def Zyn (U:World) (p:LPd) (s9 s10:Value) (wx:World):Prop:=
 ∃g A n c A' n' c' ys,s9= .pointer (some ⟨g,0,none⟩)∧s10= .bool (Zgh p ys)∧Bk wx g 46 [.bool (Zmm p ys).num.neg,.slice A n c,.bool (Zmm p ys).den.neg,.slice A' n' c']∧Zw wx (.agg #[.bool (Zmm p ys).num.neg,.slice A n c,.bool (Zmm p ys).den.neg,.slice A' n' c']) (Zmm p ys)∧RsL 32 ys∧Below U.heap.size U wx
theorem Zyn.mk {U w:World} {p:LPd} {ys:List RF} {g:Nat} {x y z u:Value} {A A':Option Addr} {n c n' c':Nat} (hB:Bk w g 46 [x,y,z,u]) (hF:Zw w (.agg #[.bool (Zmm p ys).num.neg,.slice A n c,.bool (Zmm p ys).den.neg,.slice A' n' c']) (Zmm p ys)) (hy:RsL 32 ys) (hb:Below U.heap.size U w) (hg:U.heap.size≤g):
 Zyn U p (.pointer (some ⟨g,0,none⟩)) (.bool (Zgh p ys)) ((((w.setCell ⟨g,0,none⟩ (.bool (Zmm p ys).num.neg)).setCell ⟨g,1,none⟩ (.slice A n c)).setCell ⟨g,2,none⟩ (.bool (Zmm p ys).den.neg)).setCell ⟨g,3,none⟩ (.slice A' n' c')):=
 ⟨g,A,n,c,A',n',c',ys,rfl,rfl,hB.set4 _ _ _ _,hF.keep (hB.keep4 (by decide) _ _ _ _),hy,ZI hb hg _ _ _ _⟩
theorem Znl (v1 v2:Value) (zl zm:List Int) (w:World) (h1:Xq w v1 zl) (h2:Xq w v2 zm):
 Calls Tryz.prog 4 #[v1,v2] w fun e w'=>e= .returned (.bool true)∧Below w.heap.size w w':=by
 obtain ⟨a,cap,rfl,_,_⟩:=h1.shape;obtain ⟨a',b8,rfl,_,_⟩:=h2.shape;generalize hn:zl.length=nl at *;generalize hn':zm.length=nm at *;clear hn hn';go_enter Tryz.func4,Tryz.ntmps4;go_wp2_with fail;refine (Zqu _ zl _ h1).mono ?_;rintro _ w1 ⟨vp,vx,p,xs,rfl,U,hx,G,an,b4,b5,ao,ap,aq,a9⟩;have y:=JZ G;have HF:=JZ (G.ft an);have Z:=JZ G.err;have O:=JZ HF.out.1;have v:=JZ HF.out.1.ok;have a0:Hid (Yh p (Ue p 200)=1):=JZ (by rw [Yde];exact Ygr G aq (fun j _=>Yop ao j) fun r hr=>(ap r hr).symm);have a1:=JZ (Gd.state p 200);have J:=JZ (a1.out.rg HF.out);have F:=JZ (a1.out.ext Z.out (by rw [a0.out];decide));have a2:=JZ F.out.1;obtain ⟨x,ai⟩:∃x,exP p (Ue p 200)=x:=⟨_,rfl⟩;have K:=JZ ai;have ac:Hid (x.st=1):=JZ (by rw [← K.out,F.out.2.1,F.out.2.2.1];exact a0.out);have a3:=JZ (Yoo (p:=p) (x:=x) (by rw [← K.out,F.out.2.1];exact F.out.2.2.2) ac.out);have ad:Hid (RsL 4000 x.x):=JZ (by rw [← K.out,F.out.2.1];exact (Yne O.out).1.mono y.out.pow);have ar:Hid (VW p x.x=true):=JZ (by have h:=a3.out.1;unfold Zgm at h;simp only [Bool.and_eq_true] at h;exact h.2.1);obtain ⟨A0,n0,c0,A1,n1,c1,A2,m,c2,rfl,T,a5,aj⟩:=id U;have au:Hid (n0=p.cols.length):=JZ (by rw [T.len.1];exact G.2.2.2.1);have ae:Hid (m≤1000):=JZ (by rw [aj.len.1];have:=G.2.1;omega);obtain ⟨W2,b2,hX,a6⟩:=Yc w1 (.slice A0 n0 c0) (.slice A1 n1 c1) (.slice A2 m c2);obtain ⟨Ax,nx,cx,rfl⟩:∃A n c,vx= .slice A n c:=by obtain ⟨A,c,e,_⟩:=hx.shape;exact ⟨A,_,c,e⟩
 have P:=Za a9 a6 a9.size;have o:=JZ (U.below a6);clear G U a5 aj an b5 ao ap b4 hx aq ai a9 a6 T h1 F a0 a1
 go_upto_region 2 with (fail)
 clear b2
 go_cut [7,8] (fun s7 s8 wx=>Zym W2 x s7 s8 wx)
 case first=>
  obtain ⟨x0,x1,x2⟩:=hX.three;have C0:=Zl x0;have C1:=Zl x1;have C2:=Zl x2;have g:=Zj W2;clear x0 x1 x2;refine Xl 8 (.go 0 (.go 1 (.fork 2 (.fork 3 (.go 4 (.go 5 (.go 6 (.go 7 (.go 8 (.go 9 .done)))))) 7 (.go 3 (.go 4 (.go 5 (.go 6 (.go 8 (.go 9 .done))))))) 7 (.go 2 (.go 3 (.go 4 (.go 5 (.go 6 (.go 8 (.go 9 .done)))))))))) (by kernel_rfl) (by kernel_rfl) ?_;repeat ((first|(first|refine ZJ (v:=?_) rfl rfl rfl ?_ ?_ |refine ZW (v:=?_) rfl rfl rfl ?_ ?_);rotate_left;·(intro _ _;go_simp;(try go_bits);(try with_reducible rfl))|refine ZZ rfl rfl rfl ?_ |refine ZK rfl rfl rfl (by assumption) ?_);(try simp only [py]))
  refine XH rfl rfl (fun _ kq=>?_) (fun _ kq=>?_)
  ·go_simp;(with_reducible refine (Zqt _ p 32 _ (o.out.below g) O.out Z.out).mono ?_);rintro _ wa ⟨va,rfl,C,B⟩;have d:=Za g B g.size;obtain ⟨Aa,la,ca,rfl,b3⟩:=id C;refine kq.out _ _ (.inr d) ?_;clear kq;(try simp only [py]);refine XH rfl rfl (fun _ kq=>?_) (fun _ kq=>?_)
   ·go_simp;(with_reducible refine (Zam _ _ p (Ue p 200) 32 _ (o.out.below d) C v.out (fun _=>HF.out) J.out.1 J.out.2).mono ?_);rw [a2.out,K.out];rintro _ wb ⟨vb,rfl,u,l⟩;have i:=Za d l d.size;obtain ⟨B1,m1,d1,B2,m2,d2,B3,m3,d3,rfl,ak,al,M,_,_⟩:=id u;refine kq.out _ _ (.inr i) ?_;clear kq;(try simp only [py]);repeat ((first|(first|refine ZJ (v:=?_) rfl rfl rfl ?_ ?_ |refine ZW (v:=?_) rfl rfl rfl ?_ ?_);rotate_left;·(intro _ _;go_simp;(try go_bits);(try with_reducible rfl))|refine ZZ rfl rfl rfl ?_ |refine ZK rfl rfl rfl (by assumption) ?_);(try simp only [py]))
    obtain ⟨WG,t,b,k⟩:=XZ wb (.int .i64 0) (.slice none 0 0) (.slice none 0 0) (.slice none 0 0);have s:=i.size;have f:=Za i k i.size;replace u:=u.below k;refine Zt rfl rfl (fun _ kq=>?_);go_simp;refine kq.out _ _ (.inr f) ?_;clear kq t;(try simp only [py]);obtain ⟨t0,t1,t2,t3⟩:=b.four;obtain ⟨f0,f1,f2,f3⟩:=b.fourF;refine Zt rfl rfl (fun _ kq=>?_);go_simp;refine kq.out _ _ (.inl (by decide)) ?_;clear kq;(try simp only [py]);refine Zt rfl rfl (fun _ kq=>?_);go_simp;refine kq.out _ _ (.inl (by decide)) ?_;clear kq;(try simp only [py]);refine Yf ?_;go_wp2_with fail
    go_meet
    exact Zym.mk b u f s
   ·obtain ⟨WG,t,b,k⟩:=XZ wa (.int .i64 0) (.slice none 0 0) (.slice none 0 0) (.slice none 0 0);have s:=d.size;have f:=Za d k d.size;replace C:=C.below k;go_simp;refine kq.out _ _ (.inr f) ?_;clear kq t;(try simp only [py]);refine Zt rfl rfl (fun _ kq=>?_);go_simp;(with_reducible refine (Zam _ _ p (Ue p 200) 32 _ (o.out.below f) C v.out (fun _=>HF.out) J.out.1 J.out.2).mono ?_);rw [a2.out,K.out];rintro _ wb ⟨vb,rfl,u,l⟩;have i:=Za f l f.size;obtain ⟨B1,m1,d1,B2,m2,d2,B3,m3,d3,rfl,ak,al,M,_,_⟩:=id u;replace b:=b.later l;refine kq.out _ _ (.inr i) ?_;clear kq;(try simp only [py]);repeat ((first|(first|refine ZJ (v:=?_) rfl rfl rfl ?_ ?_ |refine ZW (v:=?_) rfl rfl rfl ?_ ?_);rotate_left;·(intro _ _;go_simp;(try go_bits);(try with_reducible rfl))|refine ZZ rfl rfl rfl ?_ |refine ZK rfl rfl rfl (by assumption) ?_);(try simp only [py]))
    obtain ⟨t0,t1,t2,t3⟩:=b.four;obtain ⟨f0,f1,f2,f3⟩:=b.fourF;refine Zt rfl rfl (fun _ kq=>?_);go_simp;refine kq.out _ _ (.inl (by decide)) ?_;clear kq;(try simp only [py]);refine Zt rfl rfl (fun _ kq=>?_);go_simp;refine kq.out _ _ (.inl (by decide)) ?_;clear kq;(try simp only [py]);refine Yf ?_;go_wp2_with fail
    go_meet
    exact Zym.mk b u i s
  ·obtain ⟨WG,t,b,k⟩:=XZ W2.drew (.int .i64 0) (.slice none 0 0) (.slice none 0 0) (.slice none 0 0);have s:=g.size;have f:=Za g k g.size;go_simp;refine kq.out _ _ (.inr f) ?_;clear kq t;(try simp only [py])
   change Bk WG W2.heap.size 33 _ at b
   refine Zt rfl rfl (fun _ kq=>?_);go_simp;(with_reducible refine (Zqt _ p 32 _ (o.out.below f) O.out Z.out).mono ?_);rintro _ wa ⟨va,rfl,C,B⟩;have d:=Za f B f.size;obtain ⟨Aa,la,ca,rfl,b3⟩:=id C;replace b:=b.later B;refine kq.out _ _ (.inr d) ?_;clear kq;(try simp only [py]);refine Zt rfl rfl (fun _ kq=>?_);go_simp;(with_reducible refine (Zam _ _ p (Ue p 200) 32 _ (o.out.below d) C v.out (fun _=>HF.out) J.out.1 J.out.2).mono ?_);rw [a2.out,K.out];rintro _ wb ⟨vb,rfl,u,l⟩;have i:=Za d l d.size;obtain ⟨B1,m1,d1,B2,m2,d2,B3,m3,d3,rfl,ak,al,M,_,_⟩:=id u;replace b:=b.later l;refine kq.out _ _ (.inr i) ?_;clear kq;(try simp only [py]);repeat ((first|(first|refine ZJ (v:=?_) rfl rfl rfl ?_ ?_ |refine ZW (v:=?_) rfl rfl rfl ?_ ?_);rotate_left;·(intro _ _;go_simp;(try go_bits);(try with_reducible rfl))|refine ZZ rfl rfl rfl ?_ |refine ZK rfl rfl rfl (by assumption) ?_);(try simp only [py]))
   obtain ⟨t0,t1,t2,t3⟩:=b.four;obtain ⟨f0,f1,f2,f3⟩:=b.fourF;refine Zt rfl rfl (fun _ kq=>?_);go_simp;refine kq.out _ _ (.inl (by decide)) ?_;clear kq;(try simp only [py]);refine Zt rfl rfl (fun _ kq=>?_);go_simp;refine kq.out _ _ (.inl (by decide)) ?_;clear kq;(try simp only [py]);refine Yf ?_;go_wp2_with fail
   go_meet
   exact Zym.mk b u i s
 case rest=>
  obtain ⟨gx,B1,m1,d1,B2,m2,d2,B3,m3,d3,rfl,rfl,bb,M,a7,Y⟩:=hcut;replace hX:=hX.later Y;replace o:=JZ (o.out.below Y);have I:=Za P Y P.size;replace h2:=h2.below I;clear Y P;have av:Hid (m1=n0):=JZ (by rw [a7.parts.2.1.len.1,au.out];exact a3.out.2)
  go_upto_region 3 with (fail)
  go_cut [9,10] (fun s9 s10 wx=>Zyn wc p s9 s10 wx)
  case first=>
   obtain ⟨x0,x1,x2⟩:=hX.three;have C0:=Zl x0;have C1:=Zl x1;have C2:=Zl x2;have g:=Zj wc;clear x0 x1 x2;refine Xl 11 (.go 0 (.go 1 (.go 2 (.go 3 (.go 4 (.fork 5 (.fork 6 (.go 7 (.go 8 (.go 9 (.go 10 (.go 11 (.go 12 .done)))))) 10 (.go 6 (.go 7 (.go 8 (.go 9 (.go 11 (.go 12 .done))))))) 10 (.go 5 (.go 6 (.go 7 (.go 8 (.go 9 (.go 11 (.go 12 .done))))))))))))) (by kernel_rfl) (by kernel_rfl) ?_;repeat ((first|(first|refine ZJ (v:=?_) rfl rfl rfl ?_ ?_ |refine ZW (v:=?_) rfl rfl rfl ?_ ?_);rotate_left;·(intro _ _;go_simp;(try go_bits);(try with_reducible rfl))|refine ZZ rfl rfl rfl ?_ |refine ZK rfl rfl rfl (by assumption) ?_);(try simp only [py]))
   refine XH rfl rfl (fun _ kq=>?_) (fun _ kq=>?_)
   ·go_simp;(with_reducible refine (Zpb _ zm m _ (h2.below g) ae.out).mono ?_);rintro _ wa ⟨va,ys,rfl,H,aa,D,B⟩;have d:=Za g B g.size;obtain ⟨Aa,la,ca,rfl⟩:=H.sliceN;have L:=H.frs;have z:=JZ (D.mono (show 2≤32 by decide));clear H aa D;refine kq.out _ _ (.inr d) ?_;clear kq;(try simp only [py]);refine XH rfl rfl (fun _ kq=>?_) (fun _ kq=>?_)
    ·go_simp;(with_reducible refine (YJ _ _ p ys 32 _ (o.out.below d) L v.out z.out (by decide) y.out.cl (by decide)).mono ?_);rintro _ wb ⟨vb,rfl,eb,l⟩;have i:=Za d l d.size;obtain ⟨B1,m1,d1,B2,m2,d2,rfl,_,_⟩:=id eb;refine kq.out _ _ (.inr i) ?_;clear kq;(try simp only [py]);repeat ((first|(first|refine ZJ (v:=?_) rfl rfl rfl ?_ ?_ |refine ZW (v:=?_) rfl rfl rfl ?_ ?_);rotate_left;·(intro _ _;go_simp;(try go_bits);(try with_reducible rfl))|refine ZZ rfl rfl rfl ?_ |refine ZK rfl rfl rfl (by assumption) ?_);(try simp only [py]))
     obtain ⟨WG,t,b,k⟩:=YR wb (.bool false) (.slice none 0 0) (.bool false) (.slice none 0 0);have s:=i.size;have f:=Za i k i.size;replace eb:=eb.below k;refine Zt rfl rfl (fun _ kq=>?_);go_simp;refine kq.out _ _ (.inr f) ?_;clear kq t;(try simp only [py]);obtain ⟨t0,t1,t2,t3⟩:=b.four;obtain ⟨f0,f1,f2,f3⟩:=b.fourF;refine Zt rfl rfl (fun _ kq=>?_);go_simp;refine kq.out _ _ (.inl (by decide)) ?_;clear kq;(try simp only [py]);refine Zt rfl rfl (fun _ kq=>?_);go_simp;refine kq.out _ _ (.inl (by decide)) ?_;clear kq;(try simp only [py]);refine Yf ?_;go_wp2_with fail
     go_meet
     exact Zyn.mk b eb z.out f s
    ·obtain ⟨WG,t,b,k⟩:=YR wa (.bool false) (.slice none 0 0) (.bool false) (.slice none 0 0);have s:=d.size;have f:=Za d k d.size;replace L:=L.below k;go_simp;refine kq.out _ _ (.inr f) ?_;clear kq t;(try simp only [py]);refine Zt rfl rfl (fun _ kq=>?_);go_simp;(with_reducible refine (YJ _ _ p ys 32 _ (o.out.below f) L v.out z.out (by decide) y.out.cl (by decide)).mono ?_);rintro _ wb ⟨vb,rfl,eb,l⟩;have i:=Za f l f.size;obtain ⟨B1,m1,d1,B2,m2,d2,rfl,_,_⟩:=id eb;replace b:=b.later l;refine kq.out _ _ (.inr i) ?_;clear kq;(try simp only [py]);repeat ((first|(first|refine ZJ (v:=?_) rfl rfl rfl ?_ ?_ |refine ZW (v:=?_) rfl rfl rfl ?_ ?_);rotate_left;·(intro _ _;go_simp;(try go_bits);(try with_reducible rfl))|refine ZZ rfl rfl rfl ?_ |refine ZK rfl rfl rfl (by assumption) ?_);(try simp only [py]))
     obtain ⟨t0,t1,t2,t3⟩:=b.four;obtain ⟨f0,f1,f2,f3⟩:=b.fourF;refine Zt rfl rfl (fun _ kq=>?_);go_simp;refine kq.out _ _ (.inl (by decide)) ?_;clear kq;(try simp only [py]);refine Zt rfl rfl (fun _ kq=>?_);go_simp;refine kq.out _ _ (.inl (by decide)) ?_;clear kq;(try simp only [py]);refine Yf ?_;go_wp2_with fail
     go_meet
     exact Zyn.mk b eb z.out i s
   ·obtain ⟨WG,t,b,k⟩:=YR wc.drew (.bool false) (.slice none 0 0) (.bool false) (.slice none 0 0);have s:=g.size;have f:=Za g k g.size;go_simp;refine kq.out _ _ (.inr f) ?_;clear kq t;(try simp only [py])
    change Bk WG wc.heap.size 46 _ at b
    refine Zt rfl rfl (fun _ kq=>?_);go_simp;(with_reducible refine (Zpb _ zm m _ (h2.below f) ae.out).mono ?_);rintro _ wa ⟨va,ys,rfl,H,aa,D,B⟩;have d:=Za f B f.size;obtain ⟨Aa,la,ca,rfl⟩:=H.sliceN;have L:=H.frs;have z:=JZ (D.mono (show 2≤32 by decide));clear H aa D;replace b:=b.later B;refine kq.out _ _ (.inr d) ?_;clear kq;(try simp only [py]);refine Zt rfl rfl (fun _ kq=>?_);go_simp;(with_reducible refine (YJ _ _ p ys 32 _ (o.out.below d) L v.out z.out (by decide) y.out.cl (by decide)).mono ?_);rintro _ wb ⟨vb,rfl,eb,l⟩;have i:=Za d l d.size;obtain ⟨B1,m1,d1,B2,m2,d2,rfl,_,_⟩:=id eb;replace b:=b.later l;refine kq.out _ _ (.inr i) ?_;clear kq;(try simp only [py]);repeat ((first|(first|refine ZJ (v:=?_) rfl rfl rfl ?_ ?_ |refine ZW (v:=?_) rfl rfl rfl ?_ ?_);rotate_left;·(intro _ _;go_simp;(try go_bits);(try with_reducible rfl))|refine ZZ rfl rfl rfl ?_ |refine ZK rfl rfl rfl (by assumption) ?_);(try simp only [py]))
    obtain ⟨t0,t1,t2,t3⟩:=b.four;obtain ⟨f0,f1,f2,f3⟩:=b.fourF;refine Zt rfl rfl (fun _ kq=>?_);go_simp;refine kq.out _ _ (.inl (by decide)) ?_;clear kq;(try simp only [py]);refine Zt rfl rfl (fun _ kq=>?_);go_simp;refine kq.out _ _ (.inl (by decide)) ?_;clear kq;(try simp only [py]);refine Yf ?_;go_wp2_with fail
    go_meet
    exact Zyn.mk b eb z.out i s
  case rest=>
   obtain ⟨gb,E,l9,k9,E',bc,bd,ys,rfl,rfl,am,hL,D,N⟩:=hcut;replace hX:=hX.later N;replace M:=M.later N;have aw:=a7.parts.2.1.below N;have hC:=o.out.parts.1.below N;have V:=Za I N I.size;have z:=JZ D;obtain ⟨LF,a8⟩:∃LF,Zmm p ys=LF:=⟨_,rfl⟩;have af:=JZ a8;rw [a8] at am hL;have b9:(x.st !=1)=false:=(by rw [ac.out];rfl);have ba:((m1:Int) !=(n0:Int))=false:=(by rw [av.out];simp);have ag:Hid (RsL 4000 p.cost):=JZ (y.out.2.2.2.2.1.mono (by decide));have ah:Hid (min p.cost.length x.x.length=p.cols.length):=JZ (by rw [a3.out.2,y.out.2.2.2.1,Nat.min_self]);have ax:Hid (1+min p.cost.length x.x.length * (2 * 4000+1)≤34359738368):=JZ (by rw [ah.out];have:=y.out.2.2.1;omega);have ay:Hid (ShH (canF (Xv p.cost x.x p.cols.length))):=JZ (Sz.shH (Zfx ag.out ad.out (by decide)) (by have:=y.out.2.2.1;omega));clear N a7 D a8 o I h2;obtain ⟨x0,x1,x2⟩:=hX.three;obtain ⟨p0,p1,p2,p3⟩:=M.four;obtain ⟨q0,q1,q2,q3⟩:=am.four
   cases hlb:Zgh p ys
   ·clear hlb;go_wp2_with fail;have C0:=Zl x0;have C1:=Zl p1;have C2:=Zl q0;have C3:=Zl q1;have C4:=Zl q2;have C5:=Zl q3;have g:=Zj wc;clear x0 x1 x2 p0 p1 p2 p3 q0 q1 q2 q3;refine Zn 16 [0,1,2,3,4,5,6,7,8,9,10,11,12,13,14,15] (by kernel_rfl) (by kernel_rfl) ?_;repeat ((first|(first|refine Zb (v:=?_) rfl rfl rfl ?_ ?_ |refine Zd (v:=?_) rfl rfl rfl ?_ ?_);rotate_left;·(intro _ _;go_simp;(try go_bits);(try with_reducible rfl))|refine Ze rfl rfl rfl ?_ |refine skC rfl rfl rfl ?_);(try simp only [py]))
    refine Zf rfl rfl (fun _ kq=>?_);go_simp;(with_reducible refine (Zpr _).mono ?_);rintro _ w7 ⟨rfl,ab⟩;have R:=Za g ab g.size;refine kq.out _ _ (.inr R) ?_;clear kq;(try simp only [py]);repeat ((first|(first|refine Zb (v:=?_) rfl rfl rfl ?_ ?_ |refine Zd (v:=?_) rfl rfl rfl ?_ ?_);rotate_left;·(intro _ _;go_simp;(try go_bits);(try with_reducible rfl))|refine Ze rfl rfl rfl ?_ |refine skC rfl rfl rfl ?_);(try simp only [py]))
    refine Zv ?_;have S:=Za V R V.size;clear C0 C1 C2 C3 C4 C5;go_wp2;go_ret;exact ⟨rfl,S⟩
   ·have az:Hid (qs (LF.q - Xv p.cost x.x p.cols.length)≤0):=JZ (by rw [← af.out];exact Yno hlb ar.out);have b0:Hid (ShH LF):=JZ (by
     rw [← af.out,Zdx hlb];exact Sz.shH (Zfx z.out HF.out.1.ok.2.1 (by decide)) (by have:=y.out.2.1;omega))
    clear hlb;go_wp2_with fail;have C0:=Zl x0;have C1:=Zl p1;have C2:=Zl q0;have C3:=Zl q1;have C4:=Zl q2;have C5:=Zl q3;have g:=Zj wc;clear x0 x1 x2 p0 p1 p2 p3 q0 q1 q2 q3;refine Zn 16 [0,1,2,3,4,5,6,7,8,9,10,11,12,13,14,15] (by kernel_rfl) (by kernel_rfl) ?_;repeat ((first|(first|refine Zb (v:=?_) rfl rfl rfl ?_ ?_ |refine Zd (v:=?_) rfl rfl rfl ?_ ?_);rotate_left;·(intro _ _;go_simp;(try go_bits);(try with_reducible rfl))|refine Ze rfl rfl rfl ?_ |refine skC rfl rfl rfl ?_);(try simp only [py]))
    refine Zf rfl rfl (fun _ kq=>?_);go_simp;(with_reducible refine (Zug _ _ p.cost x.x 4000 _ (hC.below g) (aw.below g) (by decide) ag.out ad.out ax.out (by decide)).mono ?_);rw [ah.out];rintro _ w5 ⟨v5,rfl,e5,b6⟩;have X:=Za g b6 g.size;refine kq.out _ _ (.inr X) ?_;clear kq;(try simp only [py]);repeat ((first|(first|refine Zb (v:=?_) rfl rfl rfl ?_ ?_ |refine Zd (v:=?_) rfl rfl rfl ?_ ?_);rotate_left;·(intro _ _;go_simp;(try go_bits);(try with_reducible rfl))|refine Ze rfl rfl rfl ?_ |refine skC rfl rfl rfl ?_);(try simp only [py]))
    refine Zf rfl rfl (fun _ kq=>?_);go_simp;(with_reducible refine (Ur _ _ LF _ _ (hL.below X) e5 b0.out ay.out).mono ?_);rw [Zr];have b1:=az.out;generalize qs (LF.q - Xv p.cost x.x p.cols.length)=sD at b1 ⊢;rintro _ w6 ⟨rfl,b7⟩;have a4:=Za X b7 X.size;refine kq.out _ _ (.inr a4) ?_;clear kq;(try simp only [py]);repeat ((first|(first|refine Zb (v:=?_) rfl rfl rfl ?_ ?_ |refine Zd (v:=?_) rfl rfl rfl ?_ ?_);rotate_left;·(intro _ _;go_simp;(try go_bits);(try with_reducible rfl))|refine Ze rfl rfl rfl ?_ |refine skC rfl rfl rfl ?_);(try simp only [py]))
    refine Zf rfl rfl (fun _ kq=>?_);go_simp;(with_reducible refine (Zpr _).mono ?_);rintro _ w7 ⟨rfl,ab⟩;have R:=Za a4 ab a4.size;refine kq.out _ _ (.inr R) ?_;clear kq;(try simp only [py]);repeat ((first|(first|refine Zb (v:=?_) rfl rfl rfl ?_ ?_ |refine Zd (v:=?_) rfl rfl rfl ?_ ?_);rotate_left;·(intro _ _;go_simp;(try go_bits);(try with_reducible rfl))|refine Ze rfl rfl rfl ?_ |refine skC rfl rfl rfl ?_);(try simp only [py]))
    refine Zv ?_;have S:=Za V R V.size;clear C0 C1 C2 C3 C4 C5;go_wp2;go_ret;exact ⟨rfl,S⟩
end Go.Proofs.YtgbhebappffbdaaGreat
