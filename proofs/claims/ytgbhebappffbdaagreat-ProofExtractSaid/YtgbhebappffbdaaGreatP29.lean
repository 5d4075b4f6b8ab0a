/- Lemmas of the claim; no condition. -/
import Derived.Test.YtgbhebappffbdaaGreatP28
set_option linter.all false
set_option maxRecDepth 100000
set_option maxHeartbeats 40000000
namespace Go.Proofs.YtgbhebappffbdaaGreat
open Go.RowKit
open Pl
attribute [local go_sem ↓] Go.wp_at_zero Go.wp_at_succ
theorem Zuu (b off j:Nat):(⟨b,off,none⟩:Addr).add j=⟨b,off+j,none⟩:=by
 unfold Addr.add;split
 ·rename_i h;subst h;rfl
 ·rfl
section
def Yao (U w:World) (e:Nat) (p:LPd) (s:LSt) (K:Nat) (A:Option Addr) (n c:Nat) (A':Option Addr) (n' c':Nat) (A'':Option Addr) (n'' c'':Nat) (Ab:Option Addr) (cb gB:Nat) (vz:Value):Prop:=
 ∃bB bi,(Xh U (.slice A n c) p.cost∧XO U (.slice A' n' c') p.cols∧Xh U (.slice A'' n'' c'') p.right)∧(U.heap.size≤e∧U.heap.size≤bB∧bB≤w.heap.size∧bi≤w.heap.size)∧ZN U.heap.size w (.slice Ab p.right.length cb) s.basis∧(∀b,(Value.slice Ab p.right.length cb).ownBlock=some b→b < bB)∧
  Zna bB bi w gB p.right.length K (s.mat p)∧Z4 U.heap.size w vz (zL p s)∧(∀b,vz.ownBlock=some b→b < bi)∧Below U.heap.size U w
def Zwa (U w:World) (e:Nat) (p:LPd) (s:LSt) (K:Nat):Prop:=
 ∃A n c A' n' c' A'' n'' c'' Ab cb gB vz,Bk w e 129 [.slice A n c,.slice A' n' c',.slice A'' n'' c'',.int .i64 s.phase,.slice Ab p.right.length cb,.int .i64 s.pivots,.pointer (some ⟨gB,0,none⟩),vz]∧Yao U w e p s K A n c A' n' c' A'' n'' c'' Ab cb gB vz
section
variable {U w w':World} {e:Nat} {p:LPd} {s:LSt} {K:Nat} {A:Option Addr} {n c:Nat} {A':Option Addr} {n' c':Nat} {A'':Option Addr} {n'' c'':Nat} {Ab:Option Addr} {cb gB:Nat} {vz:Value}
theorem Yao.below (h:Yao U w e p s K A n c A' n' c' A'' n'' c'' Ab cb gB vz) (hb:Below w.heap.size w w'):Yao U w' e p s K A n c A' n' c' A'' n'' c'' Ab cb gB vz:=by
 obtain ⟨bB,bi,h1,⟨h2,h3,h4,h5⟩,h6,h7,h8,h9,b,a⟩:=h;have:=hb.size;exact ⟨bB,bi,h1,⟨h2,h3,by omega,by omega⟩,h6.below hb,h7,h8.below hb,h9.below hb,b,Za a hb a.size⟩
theorem Yao.cell {cs:List Value} (h:Yao U w e p s K A n c A' n' c' A'' n'' c'' Ab cb gB vz) (hB:Bk w e 129 cs) (i:Nat) (v:Value):Yao U (w.setCell ⟨e,i,none⟩ v) e p s K A n c A' n' c' A'' n'' c'' Ab cb gB vz:=by
 obtain ⟨bB,bi,h1,⟨h2,h3,h4,h5⟩,h6,h7,h8,h9,a,b⟩:=h;have hk:=Ze.setCell hB i v;exact ⟨bB,bi,h1,⟨h2,h3,by simpa using h4,by simpa using h5⟩,h6.but hk (by decide),h7,h8.but hk (by decide) (by decide) (by decide) (by decide) (by decide) (by decide) (by decide),h9.but hk (by decide) (by decide),a,b.setCell (p:=⟨e,i,none⟩) h2 v⟩
theorem Zwa.below (h:Zwa U w e p s K) (hb:Below w.heap.size w w'):Zwa U w' e p s K:=by
 obtain ⟨A,n,c,A',n',c',a,b,d,Ab,cb,gB,vz,h1,h2⟩:=h;exact ⟨A,n,c,A',n',c',a,b,d,Ab,cb,gB,vz,h1.later hb,h2.below hb⟩
theorem Zwa.bel (h:Zwa U w e p s K):Below U.heap.size U w:=by
 obtain ⟨A,n,c,A',n',c',a,b,d,Ab,cb,gB,vz,h1,bB,bi,_,_,_,_,_,_,_,h2⟩:=h;exact h2
theorem Zwa.r (h:Zwa U w e p s K):Zvw w e p s K:=by
 obtain ⟨A,n,c,A',n',c',a,b,d,Ab,cb,gB,vz,h1,bB,bi,⟨g1,g2,g3⟩,_,h6,_,h8,h9,_,f⟩:=h;have hb:Below U.heap.size U w:=f;exact ⟨Ab,cb,bB,bi,gB,vz,⟨A,n,c,A',n',c',a,b,d,h1,g1.below hb,g2.below hb,g3.below hb⟩,h6.ints,h8,h9.frs⟩
end
namespace Pl
theorem Zzj {p:LPd} {s:LSt} (h:s.phase=2):ZB p s=s:=by
 obtain ⟨a,b,c⟩:=s;simp only at h;subst h;unfold ZB;simp
theorem Zrt {p:LPd} {s:LSt} {k:Nat} (hk:k < (zL p s).length) (h1:s.at_ k < 0) (h2:qAt (zL p s) k≠0):ZB p s=s:=by
 unfold ZB;rw [Zec h1 h2 hk];rfl
theorem Zwb {p:LPd} {s:LSt} (h:∀k,k < (zL p s).length→s.at_ k < 0→qAt (zL p s) k=0):ZB p s=⟨2,s.basis,s.pivots⟩:=by
 unfold ZB;rw [Zia h];rfl
end Pl
theorem Zru (U:World) (e:Nat) (p:LPd) (s:LSt) (K:Nat) (w:World) (h:Zwa U w e p s K) (F:p.Ft K):
 Calls Tryz.prog 101 #[.pointer (some ⟨e,0,none⟩)] w fun o w'=>o= .returned (.tuple #[])∧Zwa U w' e p (ZB p s) K:=by
 have HO:=JZ h;have HR:=JZ h.r.reg;obtain ⟨Ab,cb,base,bi,gB,vz,h1,h2,h3,h4⟩:=h.r;obtain ⟨y3,y4,-,-,y7⟩:=h1.cells;obtain ⟨ph,hp⟩:∃ph,ph=s.phase:=⟨_,rfl⟩;have J:=JZ hp;rw [← hp] at y3;obtain ⟨m,hm⟩:∃m,m=p.right.length:=⟨_,rfl⟩;have L:=JZ hm;rw [← hm] at y4;have a5:m≤7:=by rw [hm];exact F.2.1
 obtain ⟨-,E,a3⟩:=h2.len;rw [← hm] at E;have l:Hid ((zL p s).length=m):=JZ (by rw [hm];exact Zrr HR.out);obtain ⟨Az,cz,rfl,G,a4⟩:=h4.shape;rw [l.out] at h4 G y7;have HI:=JZ h2;have M:=JZ h4;have a6:=JZ y3;have a7:=JZ y4;have N:=JZ y7;clear h h1 h2 h3 h4 F hp hm;by_cases y:ph=2
 ·subst y;clear y4 y7;go_enter Tryz.func101,Tryz.ntmps101;go_wp2;refine bodyPost_ret (results_none rfl _ _ _) rfl ?_;exact ⟨rfl,by rw [Zzj J.out.symm];exact HO.out⟩
 ·have O:(ph==2)=false:=by simpa using y
  clear y7;go_enter Tryz.func101,Tryz.ntmps101;go_wp2;clear y3 y4 O y
  go_loopw [14] (fun x wr=>∃k:Nat,k≤m∧x= .int .i64 k∧Below w.heap.size w wr∧∀i,i < k→s.at_ i < 0→qAt (zL p s) i=0) (fun x _=>m - (intOf x).toNat)
  case atStart=>exact ⟨0,by omega,rfl,JR _ _,fun i hi=>absurd hi (by omega)⟩
  case round=>
   obtain ⟨k,hk,rfl,a,H⟩:=hrel;have u:=JZ H;clear H;rcases JX k m with hkl | hkl
   ·have a8:(k:Int) < m:=(by omega);obtain ⟨bb,ob,z,rfl,z0,I,-,-⟩:=HI.out.at_ (show k < p.right.length by rw [← L.out];exact hkl);have B:Hid (s.at_ k=z):=JZ (LSt.at_eq I);obtain ⟨f,hf⟩:=Yb (fs:=zL p s) (i:=k) (by rw [l.out];exact hkl);have HQ:Hid (qAt (zL p s) k=f.q):=JZ (Yo hf);have z1:=Zf a z0;clear I z0;by_cases a2:z < 0
    ·obtain ⟨b5,o5,A5,n5,c5,A6,n6,c6,rfl,_,⟨x0,x1,x2,x3⟩,t⟩:=M.out.elem a hf;have y7:=Zf a N.out;have C:qs f.q=0∨qs f.q=1∨qs f.q= -1:=(by have:=Ul f.q;omega);clear hf;by_cases b:qs f.q=0
     ·have v:=JZ (Yp.1 b);clear C;go_wp2_with fail;refine (Zx _ f _ t).mono ?_;rw [b];rintro _ w3 ⟨rfl,j⟩;have d:=Za a j a.size;clear a j t x0 x1 x2 x3 y7 b z1;go_wp2;go_roundw
      case rel=>exact ⟨k+1,by omega,by go_num,d,fun i hi=>by
       by_cases g:i=k
       ·rw [g];exact fun _=>by rw [HQ.out];exact v.out
       ·exact u.out i (by omega)⟩
      case measure=>simp [intOf];omega
     ·have v:Hid (f.q≠0):=JZ fun g=>b (Yp.2 g)
      have a9:(qs f.q !=0)=true:=(by simpa using b);clear C b;go_wp2_with fail;refine (Zx _ f _ t).mono ?_;rintro _ w3 ⟨rfl,j⟩;have d:=Za a j a.size;have D:ZB p s=s:=Zrt (k:=k) (by rw [l.out];exact hkl) (by rw [B.out];exact a2) (by rw [HQ.out];exact v.out);clear a j t x0 x1 x2 x3 y7 z1;go_wp2;refine bodyPost_ret (results_none rfl _ _ _) rfl ?_;exact ⟨rfl,by rw [D];exact HO.out.below d⟩
    ·have aa:0≤z:=(by omega);clear hf;go_wp2;go_roundw
     case rel=>exact ⟨k+1,by omega,by go_num,a,fun i hi=>by
      by_cases g:i=k
      ·rw [g,B.out];intro h;omega
      ·exact u.out i (by omega)⟩
     case measure=>simp [intOf];omega
   ·obtain rfl:m=k:=by omega
    obtain ⟨A,n,c,A',n',c',T,V,X,Y,Z,a0,a1,hB,hI⟩:=HO.out.below a;have t3:=hB.cellAt 3 rfl;have f3:=hB.frozen 3;have P:=hI.cell hB 3 (.int .i64 2);have R:=hB.set_ 3 (.int .i64 2);have S:Hid (ZB p s=⟨2,s.basis,s.pivots⟩):=JZ (Zwb (by rw [l.out];exact u.out));clear hB hI;go_wp2
    go_end0
    exact ⟨rfl,by rw [S.out];exact ⟨A,n,c,A',n',c',T,V,X,Y,Z,a0,a1,R,P⟩⟩
end
theorem XE.news {w:World} {ad:Addr} {n c:Nat} {zs:List Int} (h:XE w (.slice (some ad) n c) zs):∀j u,(zs.map fun z=>Value.int .i64 z)[j]? =some u→w.cell? (ad.add j)=some u:=by
 obtain ⟨A,c',hv,hc,hm,d,f⟩:=h;injection hv with e1 e2 e3;subst e1;intro j u hj;have a:j < zs.length:=by have h9:=(List.getElem?_eq_some_iff.1 hj).1;simpa using h9
 obtain ⟨b,g,e,hx⟩:=d (by omega);have e:=Option.some.inj e;rw [e,Zuu,hx j a];simp [JQ a] at hj;rw [← hj];simp [List.getD,JQ a]
theorem Zrv (v:Value) (zs:List Int) (w:World) (h:XE w v zs) (hs:zs.length≤1099511627776):
 Calls Tryz.prog 96 #[v] w fun o w'=>∃v',o= .returned v'∧ZN w.heap.size w' v' zs∧Below w.heap.size w w':=by
 have HI:=JZ h;obtain ⟨A,c,rfl,hc,hm⟩:=h.shape;obtain ⟨n,hn⟩:∃n,n=zs.length:=⟨_,rfl⟩;rw [← hn] at hc hs ⊢;have HN:=JZ hn;have i:Hid (∀z∈zs,-9223372036854775808≤z∧z≤9223372036854775807):=JZ (by obtain ⟨_,_,_,_,_,_,h⟩:=h;exact h);have d:=fun (W:World) (a:Option Addr)=>Go.Lib.run_eql_slice_nil (P:=Tryz.prog) W 22 3 a n c 0 0 Tryz.underlying22
 obtain ⟨i0,hi,l,m,p⟩:=info_parts info_intT
 cases A with
 | none=>
  have j:n=0:=by
   rcases JV n with e | e
   ·exact e
   ·obtain ⟨b,q,_,e1,_⟩:=h.at_ (show 0 < zs.length by omega);cases e1
  subst j;obtain rfl:zs=[]:=List.length_eq_zero_iff.1 HN.out.symm;have:=d w none;clear d h hn;go_enter Tryz.func96,Tryz.ntmps96;go_wp2;go_ret;exact ⟨_,rfl,ZN.nil _ _,JR _ _⟩
 | some ad=>
  have:=d w (some ad);clear d h hn;go_enter Tryz.func96,Tryz.ntmps96;go_wp2_with (at_builtin;refine wpList_append_own_at _ rfl (.tmp 5) (.tmp 6) _ rfl w.heap.size 3 i0 _ 1 8 Tryz.underlying22 hi l m p rfl (by decide) (.slice (some ⟨w.heap.size,0,none⟩) 0 0) 0 [] rfl ?c0 ad n c (zs.map fun z=>Value.int .i64 z) rfl ?c1 ?c2 ?c6 ?c3 ?c4 ?c5 ?_)
  case c0=>exact World.ownsRow_made w #[] 0 (JY _) (by simp) (by simp)
  case c1=>simp;have:=HN.out;omega
  case c2=>
   have:=(HI.out.below ((JR _ _).alloc (JY _) (.cells #[] 3))).news;exact this
  case c3=>unfold maxLen;omega
  case c4=>omega
  case c5=>simp
  case c6=>intro u hu;simp at hu;obtain ⟨z,_,rfl⟩:=hu;rfl
  ·intro v' w1 f g _ _;go_wp2;go_ret;refine ⟨_,rfl,⟨by have e:=HN.out;rw [e] at f;simpa using f,i.out⟩,((JR _ _).alloc (JY _) _).grown g (by simp) (fun k hk=>?_)⟩;simp [Value.ownBlock] at hk;omega
section
open Go.Maps (int_keyed keyOf_int_mk)
theorem Zbn {e:TypeId} (he:Tryz.prog.underlying e=some .bool) {v:Value} {b:Bool} {ps:List MemPlace} (h:plainElem (H:=Unit) Tryz.prog e v=some (.lit (.bool b),ps)):v= .bool b:=by
 unfold plainElem at h;rw [he] at h
 cases v <;> simp at h
 rw [h.1]
def Uf (w:World) (b n:Nat) (zs:List Int):Prop:=
 ∃D:DataW Unit,w.ownsMap Tryz.prog 3 (plainElem Tryz.prog 4) b n D∧Go.Maps.IsMap D∧∀z:Int,D.atKey (.int .i64 z) (.lit (.bool false))= .lit (.bool (decide (z∈zs)))
theorem Uf.made (w:World):Uf (w.alloc (.map #[] 0)) w.heap.size 0 []:=
 ⟨.map [],World.ownsMap_made w _ _ _,Go.Maps.isMap_empty,fun z=>by simp [DataW.atKey]⟩
theorem Yap (z:Int) (h0: -9223372036854775808≤z) (h1:z≤9223372036854775807):keyOf Tryz.prog 3 (.int .i64 z)=some (.int .i64 z):=keyOf_int_mk Tryz.underlying3 (by
 have e1:IntKind.i64.min= -9223372036854775808:=by decide
 have e2:IntKind.i64.max=9223372036854775807:=by decide
 simp [Lit.wf,e1,e2];omega)
theorem Uf.look {w:World} {b n:Nat} {zs:List Int} (h:Uf w b n zs) (z:Int) (h0: -9223372036854775808≤z) (h1:z≤9223372036854775807):
 (Instr.lookup 125 (.map (some b)) (.int .i64 z) false).run Tryz.prog w= .ok (.bool (decide (z∈zs))) w:=by
 obtain ⟨D,ho,hm,hd⟩:=h;obtain ⟨v,ps,hr,hv⟩:=ho.lookup (int_keyed Tryz.underlying3) Tryz.underlying125 (z:= .bool false) (by kernel_rfl) (plainElem_bool Tryz.underlying4 false) (Yap z h0 h1);rw [hd z] at hv;rw [hr,Zbn Tryz.underlying4 hv]
theorem Uf.put {w:World} {b n:Nat} {zs:List Int} (h:Uf w b n zs) (hn:n < 1000) (z:Int) (h0: -9223372036854775808≤z) (h1:z≤9223372036854775807):
 ∃w',(Instr.mapUpdate 125 (.map (some b)) (.int .i64 z) (.bool true)).run Tryz.prog w= .ok () w'∧Uf w' b (n+1) (z::zs)∧w.grownBy w' (some b):=by
 obtain ⟨D,ho,hm,hd⟩:=h;obtain ⟨w',hr,a,hg⟩:=ho.update (int_keyed Tryz.underlying3) Tryz.underlying125 (by unfold maxLen;omega) (Yap z h0 h1) (plainElem_bool Tryz.underlying4 true);refine ⟨w',hr,⟨_,a,hm.put _ _,fun y=>?_⟩,hg⟩;by_cases e:y=z
 ·subst e;rw [Go.Maps.atKey_put_same hm (by trivial)];simp
 ·rw [Go.Maps.atKey_put_other (by intro g;injection g with _ g;exact e g),hd y];simp [e]
def Ygn (w:World) (p:LPd) (s:LSt) (K:Nat) (o:Ending) (w':World):Prop:=
 Below w.heap.size w w'∧((lpErr p≠0∧o= .returned (.tuple #[.pointer none,.int .i64 (lpErr p)]))∨(lpErr p=0∧vsErr p s≠0∧o= .returned (.tuple #[.pointer none,.int .i64 (vsErr p s)]))∨
  (lpErr p=0∧vsErr p s=0∧∃e,o= .returned (.tuple #[.pointer (some ⟨e,0,none⟩),.int .i64 0])∧Zwa w w' e p (ZB p s) K))
theorem Zck (v1 v2:Value) (p:LPd) (s:LSt) (K:Nat) (w:World) (h:LpM w v1 p) (h2:StM w v2 s) (ok:p.Ok K) (hF:lpErr p=0→p.Ft K) (hbl:s.basis.length≤1099511627776) (hrg:∀z∈s.basis,-9223372036854775808≤z∧z≤9223372036854775807):
 Calls Tryz.prog 54 #[v1,v2] w (Ygn w p s K):=by
 obtain ⟨A,n,c,A',n',c',a1,et,a2,rfl,hc,hv,hr⟩:=id h;obtain ⟨cu,ar,cv,rfl,hI⟩:=id h2;obtain ⟨l1,l2,l3⟩:=hv.len;obtain ⟨r1,r2,r3⟩:=hr.len;subst l1 r1;obtain ⟨W0,e0,cw,bn⟩:=Y6 w (.slice A n c) (.slice A' p.cols.length c') (.slice a1 p.right.length a2);obtain ⟨W,hW,hT,X⟩:=Zea W0 (.int .i64 s.phase) (.slice cu ar cv) (.int .i64 s.pivots);have E:=Za bn X bn.size;have hX:=cw.later X;have R:Hid (Xh w (.slice A n c) p.cost∧XO w (.slice A' p.cols.length c') p.cols∧Xh w (.slice a1 p.right.length a2) p.right):=JZ ⟨hc,hv,hr⟩;have dd:=JZ h;have ba:Hid (True∧XE w (.slice cu ar cv) s.basis):=JZ ⟨trivial,hI⟩;have ei:=JZ ok;have de:=JZ hF;have ej:=JZ hrg;obtain ⟨cx,eu,ev⟩:=hI.len;have bs:=JZ cx;obtain ⟨x0,x1,x2⟩:=hX.three;obtain ⟨t0,t1,t2⟩:=hT.three;have df:=JZ hX;have dg:=JZ hT;have HK:Hid (p.Ok K):=JZ ok;clear h h2 hc hv hr hI ok hF hrg cw bn X cx hX hT;go_enter Tryz.func54,Tryz.ntmps54;go_wp2_with fail;clear hW e0 x0 x1 x2 t0 t1 t2;refine (Wx _ p K _ (dd.out.below E) HK.out).mono ?_;rintro _ w1 ⟨rfl,X⟩;have a6:=Za E X E.size;have bc:=JZ (df.out.later X);have bd:=JZ (dg.out.later X);clear E X;by_cases hz:lpErr p=0
 ·rw [hz];have D:=JZ hz;have HF:=JZ (de.out hz);have bt:=HF.out.2.1;have ek:=HF.out.1.cols;obtain ⟨-,x1,x2⟩:=bc.out.three;obtain ⟨t0,t1,t2⟩:=bd.out.three;clear hz
  go_upto_region 4 with (fail)
  have C1:=Zp x1;have C2:=Zp x2;have F:=Zj w1;clear x1 x2 t0 t1 t2;refine Zq 8 [0,1,2,3,4,5,6,7] (by kernel_rfl) (by kernel_rfl) ?_;repeat ((first | (refine Zc (v:=?_) rfl rfl rfl ?_ ?_;rotate_left;(· (intro _ a4;go_simp;(try go_bits);(try with_reducible rfl)))) | (refine Zg (v:=?_) rfl rfl rfl ?_ ?_;rotate_left;(· (intro _ a4;go_simp;(try go_bits);(try with_reducible rfl)))) | refine Zh rfl rfl rfl ?_);(try simp only [Act.put,pu1,pu2,pu3,pu4,pu5,pu6]))
  refine Zz ?_;clear C1 C2;have M:=Za a6 F a6.size;have bu:=JZ (bc.out.later F);have be:=JZ (bd.out.later F);clear a6 F bc bd;generalize w1.drew=w2 at *;obtain ⟨-,x1,x2⟩:=bu.out.three;obtain ⟨t0,t1,t2⟩:=be.out.three;by_cases ak:s.basis.length=p.right.length
  ·have G:=JZ ak;have bv:ar=p.right.length:=(by rw [bs.out];exact ak);subst bv;clear ak;by_cases a9:s.phase < 1∨2 < s.phase∨s.pivots < 0
   ·have HV:=JZ (Yff G.out a9);by_cases h1:s.phase=1
    ·have hA:(s.phase !=1)=false:=(by simpa using h1);have hP:s.pivots < 0:=(by omega);clear x1 x2;go_wp2;go_ret2;exact ⟨M,.inr (.inl ⟨D.out,by rw [HV.out];decide,by rw [HV.out];rfl⟩)⟩
    ·by_cases h2:s.phase=2
     ·have hA:(s.phase !=1)=true:=(by simpa using h1);have hB:(s.phase !=2)=false:=(by simpa using h2);have hP:s.pivots < 0:=(by omega);clear x1 x2;go_wp2;go_ret2;exact ⟨M,.inr (.inl ⟨D.out,by rw [HV.out];decide,by rw [HV.out];rfl⟩)⟩
     ·have hA:(s.phase !=1)=true:=(by simpa using h1);have hB:(s.phase !=2)=true:=(by simpa using h2);clear x1 x2;go_wp2;go_ret2;exact ⟨M,.inr (.inl ⟨D.out,by rw [HV.out];decide,by rw [HV.out];rfl⟩)⟩
   ·have B:=JZ a9;have bw:s.phase=1∨s.phase=2:=(by omega);have bx:=JZ bw;have el:0≤s.pivots:=(by omega);rcases bw with h1 | h2
    case' inl=>
     have hA:(s.phase !=1)=false:=(by simpa using h1);clear h1 a9
     go_upto_region 9 with (fail)
    case' inr=>
     have hB:(s.phase !=2)=false:=(by simpa using h2);have hA:(s.phase !=1)=true:=(by simp;omega);clear h2 a9
     go_upto_region 9 with (fail)
     clear hB
    all_goals
     have y1:=be.out.cellAt 1 rfl;clear x1 x2 t0 t1 t2 hA;go_wp2;clear y1
     go_loopw [57] (fun x wr=>∃k:Nat,k≤p.right.length∧x= .int .i64 k∧Below w2.heap.size w2 wr∧∀i,i < k→ -(p.right.length:Int)≤s.at_ i∧s.at_ i < p.cols.length) (fun x _=>p.right.length - (intOf x).toNat)
     case atStart=>exact ⟨0,by omega,rfl,JR _ _,fun i hi=>absurd hi (by omega)⟩
     case round=>
      obtain ⟨k,hk,rfl,hb,ah⟩:=hrel;have L:=JZ ah;have d:=Za M hb M.size;clear ah;rcases JX k p.right.length with hkl | hkl
      ·have bf:(k:Int) < p.right.length:=(by omega);obtain ⟨bb,ob,z,hA,z0,u,z1,z2⟩:=ba.out.2.at_ hkl;subst hA;have z3:=Zf d z0;have H:Hid (s.at_ k=z):=JZ (LSt.at_eq u);clear u z0;by_cases da:z < -(p.right.length:Int)
       ·have HV:=JZ (Yaj G.out B.out (fun g=>by have:=(g k hkl).1;rw [H.out] at this;omega));go_wp2;go_ret2;exact ⟨d,.inr (.inl ⟨D.out,by rw [HV.out];decide,by rw [HV.out];rfl⟩)⟩
       ·have bz: -(p.right.length:Int)≤z:=(by omega);by_cases db:z < p.cols.length
        ·clear da;go_wp2;go_roundw
         case rel=>exact ⟨k+1,by omega,by go_num,hb,fun i hi=>by
          by_cases g:i=k
          ·rw [g,H.out];exact ⟨bz,db⟩
          ·exact L.out i (by omega)⟩
         case measure=>simp [intOf];omega
        ·have HV:=JZ (Yaj G.out B.out (fun g=>by have:=(g k hkl).2;rw [H.out] at this;omega));have ec:(p.cols.length:Int)≤z:=(by omega);clear da db;go_wp2;go_ret2;exact ⟨d,.inr (.inl ⟨D.out,by rw [HV.out];decide,by rw [HV.out];rfl⟩)⟩
      ·obtain rfl:k=p.right.length:=by omega
       have I:Hid (Zpb p s):=JZ L.out;have bg:=JZ (be.out.later hb);have c0:=JZ (bu.out.later hb);have y1:=bg.out.cellAt 1 rfl;have dh:=@run_makeMap Tryz.prog;have c1:=Uf.made wr;have aa:=Zb wr (.map #[] 0);have di:=Zf aa y1;have em:=d.size;have en:=aa.size;have c2:=bg.out.lt;have c3:=c0.out.lt;go_wp2;clear y1 di dh;have ax:=Za d aa d.size;have dj:=JZ (bg.out.later aa);have dk:=JZ (c0.out.later aa);clear aa hb d;generalize wr.alloc (.map #[] 0)=W4 at *;generalize wr.heap.size=gm at *
       go_loopw [75] (fun x wr=>∃k:Nat,k≤p.right.length∧x= .int .i64 k∧Below w.heap.size w wr∧Below gm W4 wr∧Uf wr gm k (s.basis.take k).reverse∧∀i,i < k→∀i',i' < i→s.at_ i≠s.at_ i') (fun x _=>p.right.length - (intOf x).toNat)
       case atStart=>exact ⟨0,by omega,rfl,ax,JR _ _,by simpa using c1,fun i hi=>absurd hi (by omega)⟩
       case round=>
        clear c1 ax;obtain ⟨k,hk,rfl,N,ai,aj,cy⟩:=hrel;have c4:=JZ cy;clear cy;rcases JX k p.right.length with hkl | hkl
        ·have bf:(k:Int) < p.right.length:=(by omega);obtain ⟨bb,ob,z,hA,z0,u,z1,z2⟩:=ba.out.2.at_ hkl;subst hA;have z3:=Zf N z0;have H:Hid (s.at_ k=z):=JZ (LSt.at_eq u);have c7:=aj.look z z1 z2;by_cases a5:z∈(s.basis.take k).reverse
         ·have HV:=JZ (Yfg G.out B.out I.out (fun g=>by
           rw [List.mem_reverse] at a5;obtain ⟨i,e3,d0⟩:=List.getElem_of_mem a5;rw [List.length_take] at e3;have dl:s.basis[i]? =some z:=by
            rw [JQ (by omega)];rw [List.getElem_take] at d0;rw [d0]
           exact g k hkl i (by omega) (by rw [H.out,LSt.at_eq dl])))
          have d:=N;rw [decide_eq_true a5] at c7;clear u z0 aj a5;go_wp2;go_ret2;exact ⟨d,.inr (.inl ⟨D.out,by rw [HV.out];decide,by rw [HV.out];rfl⟩)⟩
         ·obtain ⟨w6,ew,b6,bo⟩:=aj.put (by omega) z z1 z2;rw [decide_eq_false a5] at c7;have S:=N.grown bo N.size (fun x hx=>by injection hx with hx;omega);have ca:=ai.grown bo (by have:=ai.size;omega) (fun x hx=>by injection hx with hx;omega);have dm:Hid (Uf w6 gm (k+1) (s.basis.take (k+1)).reverse):=JZ (by rw [List.take_add_one,u];simpa using b6);have dn:Hid (∀i',i' < k→z≠s.at_ i'):=JZ fun i' hi' e=>a5 (by
           rw [List.mem_reverse];obtain ⟨y,hy⟩:=Xx (l:=s.basis) (i:=i') (by rw [G.out];omega);rw [LSt.at_eq hy] at e;subst e;exact List.mem_iff_getElem?.2 ⟨i',by rw [List.getElem?_take,if_pos hi'];exact hy⟩)
          clear u z0 aj b6 a5 bo;go_wp2;go_roundw
          case rel=>exact ⟨k+1,by omega,by go_num,S,ca,dm.out,fun i hi i' hi'=>by
           by_cases g:i=k
           ·rw [g,H.out];exact dn.out i' (by omega)
           ·exact c4.out i (by omega) i' hi'⟩
          case measure=>simp [intOf];omega
        ·obtain rfl:k=p.right.length:=by omega
         have T:Hid (Zvi p s):=JZ c4.out;have dp:=JZ (dj.out.below ai c2);have cc:=JZ (dk.out.below ai c3);have cd:=cc.out.three;obtain ⟨x0,x1,x2⟩:=cd;obtain ⟨t0,t1,t2⟩:=dp.out.three;have E:=N;clear aj ai
         go_upto_region 23 with (fail)
         have C0:=Zp x0;have C1:=Zp x1;have C2:=Zp x2;have D0:=Zp t0;have D1:=Zp t1;have D2:=Zp t2;have F:=Zj wr;clear x0 x1 x2 t0 t1 t2;refine Zq 11 [0,1,2,3,4,6,7,5,8,9,10] (by kernel_rfl) (by kernel_rfl) ?_;repeat ((first | (refine Zc (v:=?_) rfl rfl rfl ?_ ?_;rotate_left;(· (intro _ a4;go_simp;(try go_bits);(try with_reducible rfl)))) | (refine Zg (v:=?_) rfl rfl rfl ?_ ?_;rotate_left;(· (intro _ a4;go_simp;(try go_bits);(try with_reducible rfl)))) | refine Zh rfl rfl rfl ?_);(try simp only [Act.put,pu1,pu2,pu3,pu4,pu5,pu6]))
         refine Zd rfl rfl (fun KR hKR=>?_);go_simp;(with_reducible refine (Zrv _ s.basis _ (ba.out.2.below (Za E F E.size)) hbl).mono ?_);rintro _ w6 ⟨v6,rfl,e6,av⟩;have am:=Za F av F.size;obtain ⟨Ab,e5,cb,rfl⟩:=e6.sliceN;obtain rfl:e5=p.right.length:=by rw [← G.out];exact e6.len
         refine hKR.out _ _ (Or.inr am) ?_;clear hKR KR;(try simp only [Act.put,pu1,pu2,pu3,pu4,pu5,pu6]);repeat ((first | (refine Zc (v:=?_) rfl rfl rfl ?_ ?_;rotate_left;(· (intro _ a4;go_simp;(try go_bits);(try with_reducible rfl)))) | (refine Zg (v:=?_) rfl rfl rfl ?_ ?_;rotate_left;(· (intro _ a4;go_simp;(try go_bits);(try with_reducible rfl)))) | refine Zh rfl rfl rfl ?_);(try simp only [Act.put,pu1,pu2,pu3,pu4,pu5,pu6]))
         obtain ⟨W7,e7,au,ad⟩:∃W,w6.alloc (.cells #[.slice A n c,.slice A' p.cols.length c',.slice a1 p.right.length a2,.int .i64 s.phase,.slice Ab p.right.length cb,.int .i64 s.pivots,.pointer none,.slice none 0 0] 129)=W∧Bk W w6.heap.size 129 [.slice A n c,.slice A' p.cols.length c',.slice a1 p.right.length a2,.int .i64 s.phase,.slice Ab p.right.length cb,.int .i64 s.pivots,.pointer none,.slice none 0 0]∧Below w6.heap.size w6 W:=⟨_,rfl,Bk.new w6 _ _,Zb w6 _⟩;have an:=Za am ad am.size;refine Zd rfl rfl (fun KR hKR=>?_);go_simp;refine hKR.out _ _ (Or.inr an) ?_;clear hKR KR e7;(try simp only [Act.put,pu1,pu2,pu3,pu4,pu5,pu6]);repeat ((first | (refine Zc (v:=?_) rfl rfl rfl ?_ ?_;rotate_left;(· (intro _ a4;go_simp;(try go_bits);(try with_reducible rfl)))) | (refine Zg (v:=?_) rfl rfl rfl ?_ ?_;rotate_left;(· (intro _ a4;go_simp;(try go_bits);(try with_reducible rfl)))) | refine Zh rfl rfl rfl ?_);(try simp only [Act.put,pu1,pu2,pu3,pu4,pu5,pu6]))
         refine Zz ?_;clear C0 C1 C2 D0 D1 D2;have a:=Za E an E.size;have ce:=cc.out.later an;have ao:=JZ (e6.below ad);have ap:w.heap.size≤w6.heap.size:=JW E.size (JW F.size av.size);have eo:wr.heap.size≤w6.heap.size:=JW F.size av.size;clear e6 av ad am an F N;generalize w6.heap.size=e at *;have cf:Zvv W7 e p s.phase s.pivots (.slice Ab p.right.length cb) (.pointer none) (.slice none 0 0):=⟨A,n,c,A',_,c',a1,_,a2,au,R.out.1.below a,R.out.2.1.below a,R.out.2.2.below a⟩;have dq:=JZ cf;have dr:=JZ au;have ds:=JZ ce;have ep:=Zdx p.right.length (by omega);have cg:=Ym.zeros W7 p.right.length (by unfold maxLen;omega);have o:=Zb W7 (.cells (zvc p.right.length) 66);have y4:=au.cellAt 4 rfl;have dt:=Zf o y4;obtain ⟨-,ee,ef⟩:=ao.out.ints.len;clear ce au cf;go_wp2;clear y4 dt;generalize W7.alloc (.cells (zvc p.right.length) 66)=W8 at *
         go_loopw [102] (fun x wr=>∃k:Nat,k≤p.right.length∧x= .int .i64 k∧Below W7.heap.size W7 wr∧∃cols:List (List En),cols.length=p.right.length∧Ym W7.heap.size wr (.slice (some ⟨W7.heap.size,0,none⟩) p.right.length p.right.length) cols∧∀i,i < k→∃es,cols[i]? =some es∧p.col (s.at_ i)=Wl es∧Pl.Good p.right.length es∧∀(k:Nat) (e:En),es[k]? =some e→e.f.Rs K) (fun x _=>p.right.length - (intOf x).toNat)
         case atStart=>exact ⟨0,by omega,rfl,o,_,by simp,cg,fun i hi=>absurd hi (by omega)⟩
         case round=>
          clear cg o;obtain ⟨k,hk,rfl,hb,cols,b7,hO,d1⟩:=hrel;have bh:=JZ d1;clear d1;rcases JX k p.right.length with hkl | hkl
          ·have bf:(k:Int) < p.right.length:=(by omega);obtain ⟨bb,ob,z,hA,z0,u,z1,z2⟩:=ao.out.ints.at_ hkl;subst hA;have z3:=Zf hb z0;have bj:=I.out k hkl;rw [LSt.at_eq u] at bj;have H:Hid (s.at_ k=z):=JZ (LSt.at_eq u);clear u z0;go_wp2_with fail;refine (Znd e p K s.phase s.pivots _ _ _ z _ (dq.out.below hb) HF.out D.out bj.1 bj.2).mono ?_;rintro _ w8 ⟨v8,es,rfl,br,d6,d7,d8,o⟩;have t:=Za hb o hb.size;have bl:=hO.below o;obtain ⟨u0,d2⟩:=Xb (cs:=cols) (i:=k) (by omega);obtain ⟨_,m0,m1,-⟩:=bl.at_ d2;obtain ⟨e8,_⟩:=bl.set_ (k:=k) (by omega) br;have C:=t.setCell (p:=⟨W7.heap.size,k,none⟩) (JY _) v8;obtain ⟨A8,n8,c8,rfl⟩:∃A n c,v8= .slice A n c:=by obtain ⟨A,c,e,_⟩:=br.shape;exact ⟨A,_,c,e⟩
           have ch:Hid (p.col z=Wl es∧Pl.Good p.right.length es∧∀(k:Nat) (e:En),es[k]? =some e→e.f.Rs K):=JZ ⟨d6,d7,d8⟩;clear hb o t hO bl br d6 d7 d8 d2 z3;go_wp2;go_roundw
           case rel=>exact ⟨k+1,by omega,by go_num,C,_,by rw [List.length_set];exact b7,e8,fun i hi=>by
            by_cases g:i=k
            ·subst g;exact ⟨es,List.getElem?_set_self (by omega),by rw [H.out];exact ch.out.1,ch.out.2⟩
            ·rw [List.getElem?_set_ne (Ne.symm g)];exact bh.out i (by omega)⟩
           case measure=>simp [intOf];omega
          ·obtain rfl:k=p.right.length:=by omega
           have ab:=Za a hb a.size;have ci:∀(k:Nat) (c:List En),cols[k]? =some c→Pl.Good p.right.length c∧∀(j:Nat) (e:En),c[j]? =some e→e.f.Rs K:=fun k c hc=>by
            obtain ⟨es,h1,h2,h3⟩:=bh.out k (by have:=(List.getElem?_eq_some_iff.1 hc).1;omega);rw [hc] at h1;injection h1 with h1;subst h1;exact h3
           have cj:∀(k:Nat) (c:List En),cols[k]? =some c→s.mat p k=Wl c:=fun k c hc=>by
            obtain ⟨es,h1,h2,h3⟩:=bh.out k (by have:=(List.getElem?_eq_some_iff.1 hc).1;omega);rw [hc] at h1;injection h1 with h1;subst h1;exact h2
           go_wp2_with fail;refine (Zzc _ p.right.length K cols (s.mat p) _ hO.vecs b7 bt HF.out.1.k1 HF.out.2.2 ci cj).mono ?_;clear ci cj;rintro _ w8 ⟨o,⟨gB,rfl,b8,b9⟩ | ⟨rfl,d9⟩⟩
           ·have HR:=JZ (show Reg p s from b8);have a7:=JZ (Zvp HR.out);have t:=Za hb o hb.size;have J:=Za ab o ab.size;have U:=dr.out.later t;have ck:=ds.out.later t;have ay:=ao.out.below t;have q6:=U.cellAt 6 rfl;have f6:=U.frozen 6;have k6:=Ze.setCell U 6 (.pointer (some ⟨gB,0,none⟩));have cl:=U.set_ 6 (.pointer (some ⟨gB,0,none⟩));have cm:=fun bi=>(b9 bi).but k6 (by decide) (by decide) (by decide) (by decide) (by decide) (by decide) (by decide)
            have cn:=k6.bk ck (by decide);have az:=ay.but k6 (by decide);have O:=J.setCell (p:=⟨e,6,none⟩) ap (.pointer (some ⟨gB,0,none⟩));have ed:wr.heap.size≤(w8.setCell ⟨e,6,none⟩ (.pointer (some ⟨gB,0,none⟩))).heap.size:=(by simpa using o.size);have co:W7.heap.size≤wr.heap.size:=hb.size;clear hO b8 b9 U ck ay k6 hb o t J ab
            go_upto_region 34 with (fail)
            clear q6 f6;generalize w8.setCell ⟨e,6,none⟩ (.pointer (some ⟨gB,0,none⟩))=W8 at *;obtain ⟨-,-,x2⟩:=cn.three;go_wp2_with fail;clear x2;refine (YI _ p.right K _ (R.out.2.2.below O) (by omega) HF.out.1.rs (by have:=HF.out.k;omega)).mono ?_;rintro _ w9 ⟨v9,rfl,e9,t⟩;obtain ⟨A9,n9,c9,rfl⟩:∃A n c,v9= .slice A n c:=by obtain ⟨A,c,e,_⟩:=e9.vec.shape;exact ⟨A,_,c,e⟩
            have ae:=cl.later t;have m:=Za O t O.size;have b0:=fun bi=>(cm bi).below t
            have af:=az.below t;have b1:Zvv w9 e p s.phase s.pivots (.slice Ab p.right.length cb) (.pointer (some ⟨gB,0,none⟩)) (.slice none 0 0):=⟨A,n,c,A',_,c',a1,_,a2,ae,R.out.1.below m,R.out.2.1.below m,R.out.2.2.below m⟩;have b2:=JZ b0;clear cl cn cm az b0;go_wp2_with fail;refine (Zgh e p K p.right.length cb wr.heap.size 0 gB (s.mat p) s.phase s.pivots Ab _ _ (spV (qAt p.right) p.right.length) _ b1 (b2.out 0) e9.vec (Zae _ _) (Zaf fun i _=>HF.out.1.rs.qAt HF.out.1.k1 i) bt HF.out.2.2).mono ?_;rintro _ aw ⟨f2,x,rfl,hx,-,a3,C⟩;have cp:Yj p.right.length x=zL p s:=by
             unfold zL;exact (Zne HR.out fun r hr=>by have:=hx r hr;rw [Zdm,if_pos hr] at this;exact this).symm
            rw [cp] at a3;have P:Hid ((zL p s).length=p.right.length):=JZ (Zrr HR.out);obtain ⟨Az,cz,d3⟩:=a3.slice;rw [P.out] at d3;subst d3;obtain ⟨-,eg,eh⟩:=a3.frs.len;have V:=ae.later C;have b3:=fun bi=>(b2.out bi).below C
            have Y:=af.below C;have Z:=Za m C m.size;have q7:=V.cellAt 7 rfl;have f7:=V.frozen 7;have k7:=Ze.setCell V 7 (.slice Az p.right.length cz);have a8:=V.set_ 7 (.slice Az p.right.length cz);have ag:=Z4.own_lt a3;have b4:Yao w (aw.setCell ⟨e,7,none⟩ (.slice Az p.right.length cz)) e p s K A n c A' p.cols.length c' a1 p.right.length a2 Ab cb gB (.slice Az p.right.length cz):=by
             refine ⟨wr.heap.size,aw.heap.size,R.out,⟨ap,?_,?_,by simp⟩,(Y.but k7 (by decide)).monoB ?_,fun b hb=>?_,(b3 _).but k7 (by decide) (by decide) (by decide) (by decide) (by decide) (by decide) (by decide),(a3.but k7 (by decide) (by decide)).monoB m.size,fun b hb=>ag b hb,Z.setCell (p:=⟨e,7,none⟩) ap _⟩
             ·exact JW a.size co
             ·have:=t.size;have:=C.size;simp;omega
             ·exact E.size
             ·have:=Uy ao.out.1 b hb;omega
            have du:Hid (Zwa w (aw.setCell ⟨e,7,none⟩ (.slice Az p.right.length cz)) e p s K):=JZ ⟨_,_,_,_,_,_,_,_,_,_,_,_,_,a8,b4⟩;have dv:=JZ (a3.but k7 (by decide) (by decide));have cq:=JZ (Y.but k7 (by decide));have dw:=JZ a8;have J:=Z.setCell (p:=⟨e,7,none⟩) ap (.slice Az p.right.length cz);have y7:=a8.cellAt 7 rfl;clear b1 e9 hx cp a3 ae V b3 af Y O m Z t C k7 a8 ag b4
            go_upto_region 36 with (fail)
            clear q7 f7;generalize aw.setCell ⟨e,7,none⟩ (.slice Az p.right.length cz)=W9 at *;go_wp2;clear y7
            go_loopw [144] (fun x wr=>∃k:Nat,k≤p.right.length∧x= .int .i64 k∧Below W9.heap.size W9 wr∧∀i,i < k→¬qAt (zL p s) i < 0∧(s.phase=2→s.at_ i < 0→qAt (zL p s) i=0)) (fun x _=>p.right.length - (intOf x).toNat)
            case atStart=>exact ⟨0,by omega,rfl,JR _ _,fun i hi=>absurd hi (by omega)⟩
            case round=>
             obtain ⟨k,hk,rfl,hb,ah⟩:=hrel;have L:=JZ ah;clear ah;have aq:=du.out.below hb;obtain ⟨ex,ey,ea,ez,f0,f1,e1,e2,-,e4⟩:=aq.r;rcases JX k p.right.length with hkl | hkl
             ·have bf:(k:Int) < p.right.length:=(by omega);obtain ⟨f,hf⟩:=Yb (fs:=zL p s) (i:=k) (by rw [P.out];exact hkl);have HQ:Hid (qAt (zL p s) k=f.q):=JZ (Yo hf);obtain ⟨b5,o5,A5,n5,c5,A6,n6,c6,bp,-,⟨x0,x1,x2,x3⟩,d4⟩:=dv.out.frs.elem hb hf;subst bp;obtain ⟨W6,eb,d5,bq⟩:=YN wr (.bool f.num.neg) (.slice A5 n5 c5) (.bool f.den.neg) (.slice A6 n6 c6);obtain ⟨u0,u1,u2,u3⟩:=d5.four;have cr:=d4.below bq;have S:=Za hb bq hb.size;have dx:qs f.q=0∨qs f.q=1∨qs f.q= -1:=(by have:=Ul f.q;omega);obtain ⟨bb,ob,z,bp,z0,u,-,-⟩:=cq.out.ints.at_ hkl;subst bp;have H:Hid (s.at_ k=z):=JZ (LSt.at_eq u);clear hf d4 hb d5 bq u aq e1 e2 e4;go_wp2_with fail;clear eb;refine (Zx _ f _ cr).mono ?_;rintro _ w7 ⟨rfl,ad⟩;have a:=Za S ad S.size;have z1:=Zf a z0;have ct:=dw.out.later a;have y3:=ct.cellAt 3 rfl;have y4:=ct.cellAt 4 rfl;clear cr S ad x0 x1 x2 x3 u0 u1 u2 u3 z0;rcases dx with hq | hq | hq
              ·rw [hq];have a0:Hid (¬qAt (zL p s) k < 0∧(s.phase=2→s.at_ k < 0→qAt (zL p s) k=0)):=JZ (by rw [HQ.out,Yp.1 hq];exact ⟨by decide,fun _ _=>rfl⟩);clear hq;rcases bx.out with hp | hp
               ·have bm:(s.phase==2)=false:=(by simp;omega);clear hp;go_wp2;go_roundw
                case rel=>exact ⟨k+1,by omega,by go_num,a,fun i hi=>by
                 by_cases g:i=k
                 ·rw [g];exact a0.out
                 ·exact L.out i (by omega)⟩
                case measure=>simp [intOf];omega
               ·have bm:(s.phase==2)=true:=(by simpa using hp);by_cases al:z < 0
                ·clear hp;go_wp2;go_roundw
                 case rel=>exact ⟨k+1,by omega,by go_num,a,fun i hi=>by
                  by_cases g:i=k
                  ·rw [g];exact a0.out
                  ·exact L.out i (by omega)⟩
                 case measure=>simp [intOf];omega
                ·have dy:0≤z:=(by omega);clear al hp;go_wp2;go_roundw
                 case rel=>exact ⟨k+1,by omega,by go_num,a,fun i hi=>by
                  by_cases g:i=k
                  ·rw [g];exact a0.out
                  ·exact L.out i (by omega)⟩
                 case measure=>simp [intOf];omega
              ·rw [hq];have ac:0 < f.q:=Zjo.1 (by omega);clear hq;rcases bx.out with hp | hp
               ·have a0:Hid (¬qAt (zL p s) k < 0∧(s.phase=2→s.at_ k < 0→qAt (zL p s) k=0)):=JZ (by rw [HQ.out];exact ⟨by grind,fun g=>by omega⟩);have bm:(s.phase==2)=false:=(by simp;omega);clear hp;clear ac;go_wp2;go_roundw
                case rel=>exact ⟨k+1,by omega,by go_num,a,fun i hi=>by
                 by_cases g:i=k
                 ·rw [g];exact a0.out
                 ·exact L.out i (by omega)⟩
                case measure=>simp [intOf];omega
               ·have bm:(s.phase==2)=true:=(by simpa using hp);by_cases al:z < 0
                ·have HV:Hid (vsErr p s=16):=JZ (by
                  by_cases dc:Zze p s
                  ·exact Yfh G.out B.out I.out T.out a7.out dc ⟨hp,Zec (k:=k) (by rw [H.out];exact al) (by rw [HQ.out];grind) (by rw [P.out];exact hkl)⟩
                  ·exact Yak G.out B.out I.out T.out a7.out dc)
                 clear hp ac;go_wp2;go_ret2;exact ⟨Za J a J.size,.inr (.inl ⟨D.out,by rw [HV.out];decide,by rw [HV.out];rfl⟩)⟩
                ·have a0:Hid (¬qAt (zL p s) k < 0∧(s.phase=2→s.at_ k < 0→qAt (zL p s) k=0)):=JZ (by rw [HQ.out,H.out];exact ⟨by grind,fun _ g=>absurd g al⟩);have dy:0≤z:=(by omega);clear al hp ac;go_wp2;go_roundw
                 case rel=>exact ⟨k+1,by omega,by go_num,a,fun i hi=>by
                  by_cases g:i=k
                  ·rw [g];exact a0.out
                  ·exact L.out i (by omega)⟩
                 case measure=>simp [intOf];omega
              ·rw [hq];have ac:f.q < 0:=Zjn.1 (by omega);have HV:Hid (vsErr p s=16):=JZ (Yak G.out B.out I.out T.out a7.out fun g=>g k hkl (by rw [HQ.out];exact ac));clear hq ac;go_wp2;go_ret2;exact ⟨Za J a J.size,.inr (.inl ⟨D.out,by rw [HV.out];decide,by rw [HV.out];rfl⟩)⟩
             ·obtain rfl:k=p.right.length:=by omega
              have HV:Hid (vsErr p s=0):=JZ (Yfi G.out B.out I.out T.out a7.out (fun i hi=>(L.out i hi).1) fun g=>by
               have:=Zia (s:=s) (zs:=zL p s) (n:=(zL p s).length) fun i hi h=>(L.out i (by rw [← P.out];exact hi)).2 g.1 h
               rw [this] at g;exact absurd g.2 (by decide))
              clear e1 e2 e4 hkl hk hb;go_wp2_with fail;refine (Zru w e p s K _ aq HF.out).mono ?_;rintro _ w8 ⟨rfl,U⟩;clear aq;go_wp2;go_ret2;exact ⟨U.bel,.inr (.inr ⟨D.out,HV.out,e,rfl,U⟩)⟩
           ·have hv:vsErr p s=13:=Yde G.out B.out I.out T.out (by
             cases hzo:zOk p s with
             | false=>rfl
             | true=>exact absurd (Zvo hzo) d9)
            have HV:=JZ hv;have d:=Za ab o ab.size;clear hO d9 hb o ab hv;go_wp2;go_ret2;exact ⟨d,.inr (.inl ⟨D.out,by rw [HV.out];decide,by rw [HV.out];rfl⟩)⟩
  ·have HV:=JZ (Yfe ak);have bv:¬ar=p.right.length:=(by have:=bs.out;omega);clear ak;go_wp2;go_ret2;exact ⟨M,.inr (.inl ⟨D.out,by rw [HV.out];decide,by rw [HV.out];rfl⟩)⟩
 ·have dz:=JZ hz;have er:(lpErr p==0)=false:=by simpa using hz
  clear hz;go_wp2;go_ret2;exact ⟨a6,.inl ⟨dz.out,rfl⟩⟩
end
end Go.Proofs.YtgbhebappffbdaaGreat
