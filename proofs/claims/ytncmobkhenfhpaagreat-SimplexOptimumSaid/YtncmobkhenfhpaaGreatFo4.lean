/- Contracts that the claim is built on; no condition. -/
import Derived.Test.YtncmobkhenfhpaaGreatFo3
set_option linter.unusedVariables false
set_option linter.unusedSimpArgs false
set_option maxRecDepth 100000
set_option maxHeartbeats 40000000
namespace Go.Proofs.YtncmobkhenfhpaaGreat
open Go.RowKit
open Pl
attribute [local go_sem ↓] Go.wp_at_zero Go.wp_at_succ
theorem rvalidate_any (v:Value) (p:LPd) (K:Nat) (w:World) (h:LpM w v p) (ok:p.Ok K) (hK:K≤34359738368):
 Calls Tryz.prog 36 #[v] w fun e w'=>e= .returned (.int .i64 (lpErr p))∧Below w.heap.size w w':=by
 obtain ⟨A,n,c,A',n',c',u,a,x,rfl,hc,hv,hr⟩:=h;obtain ⟨W,hW,hX,f⟩:=UV w (.slice A n c) (.slice A' n' c') (.slice u a x);obtain ⟨x0,x1,x2⟩:=hX.three;obtain ⟨l1,l2,l3⟩:=hc.len;obtain ⟨m1,m2,m3⟩:=hv.len;obtain ⟨r1,r2,r3⟩:=hr.len;have z:=Lib.hid l1;have l:=Lib.hid m1;have s:=Lib.hid r1;clear l1 m1 r1;by_cases E:64 < a
 ·have HV:Hid (lpErr p=10):=Lib.hid (Zcv (.inl (by rw [← s.out];exact E)));have g:(64:Int) < a:=by omega
  go_enter Tryz.func36,Tryz.ntmps36;go_wp2;go_ret;exact ⟨by rw [HV.out];rfl,f⟩
 ·by_cases y:1200 < n'
  ·have HV:Hid (lpErr p=10):=Lib.hid (Zcv (.inr (by rw [← l.out];exact y)));have g:decide ((64:Int) < a)=false:=(by simp;omega);have j:(1200:Int) < n':=(by omega);go_enter Tryz.func36,Tryz.ntmps36;go_wp2;go_ret;exact ⟨by rw [HV.out];rfl,f⟩
  ·have HB:Hid (¬(64 < p.right.length∨1200 < p.cols.length)):=Lib.hid (by rw [← s.out,← l.out];omega);have g:decide ((64:Int) < a)=false:=(by simp;omega);have j:decide ((1200:Int) < n')=false:=(by simp;omega);by_cases q:n=n'
   ·have t:=Zox HB.out (by rw [← z.out,← l.out];exact q);rw [← s.out] at t;subst q;generalize lpErr p=r at *;have HV:=Lib.hid t;clear t;go_enter Tryz.func36,Tryz.ntmps36;go_wp2;clear hW g j
    go_loopw [3] (fun i wr=>∃k:Nat,k≤n∧i= .int .i64 k∧Below w.heap.size w wr∧Bk wr w.heap.size 26 [.slice A n c,.slice A' n c',.slice u a x]∧r=Xj (a:Int) (p.cols.drop k)) (fun i _=>n - (intOf i).toNat)
    case atStart=>exact ⟨0,by omega,rfl,f,hX,HV.out⟩
    case round=>
     obtain ⟨k,hk,rfl,f,hX,C⟩:=hrel;have HE:=Lib.hid C;clear C HV x0 x1 x2;obtain ⟨x0,x1,x2⟩:=hX.three;rcases Nat.lt_or_ge k n with hkl | hkl
     ·obtain ⟨es,he⟩:=XH (cs:=p.cols) (i:=k) (by rw [← l.out];exact hkl);obtain ⟨b,D,A1,c1,rfl,J,o,hm⟩:=hv.elem f he;have HO:=Lib.hid (ok.2.2 k es he);have G:(k:Int) < n:=(by omega);have B:=Lib.hid (Ziy (n:=(a:Int)) he);have H:=Zrv es (a:Int);clear he;go_wp2_with fail;refine wp_region_noPanic ?_;refine region_F (S:=fun w'=>w'.cell? ⟨w.heap.size,1,none⟩=some (.slice (some ⟨b,D,none⟩) n c')∧w'.cell? ⟨w.heap.size,2,none⟩=some (.slice u a x)∧w'.cell? ⟨b,D+k,none⟩=some (.slice A1 es.length c1)) (n:=9) (by kernel_rfl) ?_ (fun hHeld=>?_)
      ·exact ⟨x1,x2,o⟩
      refine anyF_take (i:=0) (v:=?_) rfl (by kernel_rfl) (by kernel_rfl) (by kernel_rfl) (by kernel_rfl) (fun _ _ _ h=>h) (Or.inl ⟨by rfl,?y1⟩) (by assumption) ?_
      case y1=>(intro _ d;(try dsimp only at d);go_simp;(try with_reducible rfl))
      (try simp only [Act.put,List.setIfInBounds_toArray,List.set_cons_zero,List.set_cons_succ]);refine anyF_take (i:=1) (v:=?_) rfl (by kernel_rfl) (by kernel_rfl) (by kernel_rfl) (by kernel_rfl) (fun _ _ _ h=>h) (Or.inl ⟨by rfl,?y2⟩) (by assumption) ?_
      case y2=>(intro _ d;(try dsimp only at d);go_simp;(try with_reducible rfl))
      (try simp only [Act.put,List.setIfInBounds_toArray,List.set_cons_zero,List.set_cons_succ]);refine anyF_take (i:=2) (v:=?_) rfl (by kernel_rfl) (by kernel_rfl) (by kernel_rfl) (by kernel_rfl) (fun _ _ _ h=>h) (Or.inl ⟨by rfl,?y3⟩) (by assumption) ?_
      case y3=>(intro _ d;(try dsimp only at d);go_simp;(try with_reducible rfl))
      (try simp only [Act.put,List.setIfInBounds_toArray,List.set_cons_zero,List.set_cons_succ]);refine anyF_take (i:=3) (v:=?_) rfl (by kernel_rfl) (by kernel_rfl) (by kernel_rfl) (by kernel_rfl) (fun _ _ _ h=>h) (Or.inl ⟨by rfl,?y4⟩) (by assumption) ?_
      case y4=>(intro _ d;(try dsimp only at d);go_simp;(try with_reducible rfl))
      (try simp only [Act.put,List.setIfInBounds_toArray,List.set_cons_zero,List.set_cons_succ]);refine anyF_take (i:=4) (v:=?_) rfl (by kernel_rfl) (by kernel_rfl) (by kernel_rfl) (by kernel_rfl) (fun _ _ _ h=>h) (Or.inl ⟨by rfl,?y5⟩) (by assumption) ?_
      case y5=>(intro _ d;(try dsimp only at d);go_simp;(try with_reducible rfl))
      (try simp only [Act.put,List.setIfInBounds_toArray,List.set_cons_zero,List.set_cons_succ]);refine anyF_take (i:=5) (v:=?_) rfl (by kernel_rfl) (by kernel_rfl) (by kernel_rfl) (by kernel_rfl) (fun _ _ _ h=>h) (Or.inl ⟨by rfl,?y6⟩) (by assumption) ?_
      case y6=>(intro _ d;(try dsimp only at d);go_simp;(try with_reducible rfl))
      (try simp only [Act.put,List.setIfInBounds_toArray,List.set_cons_zero,List.set_cons_succ]);refine anyF_take (i:=6) (v:=?_) rfl (by kernel_rfl) (by kernel_rfl) (by kernel_rfl) (by kernel_rfl) (fun _ _ _ h=>h) (Or.inl ⟨by rfl,?y7⟩) (by assumption) ?_
      case y7=>(intro _ d;(try dsimp only at d);go_simp;(try with_reducible rfl))
      (try simp only [Act.put,List.setIfInBounds_toArray,List.set_cons_zero,List.set_cons_succ]);refine anyF_take (i:=7) (v:=?_) rfl (by kernel_rfl) (by kernel_rfl) (by kernel_rfl) (by kernel_rfl) (fun _ _ _ h=>h) (Or.inl ⟨by rfl,?y8⟩) (by assumption) ?_
      case y8=>(intro _ d;(try dsimp only at d);go_simp;(try with_reducible rfl))
      (try simp only [Act.put,List.setIfInBounds_toArray,List.set_cons_zero,List.set_cons_succ]);refine anyF_step (i:=8) (by kernel_rfl) rfl (fun KR hKR=>?_);go_simp;(with_reducible refine (vector_any _ es (a:Int) _ (hm.below (Ze _)) (fun k e he=>(HO.out.2 k e he).sh hK) HO.out.1 (by omega) (by omega)).mono ?_);rintro _ w2 ⟨rfl,m⟩;refine hKR.out _ _ ?_ (fun hHeld=>?_)
      ·exact ⟨Zi m x1,Zi m x2,Zi m o⟩
      clear hKR KR;(try simp only [Act.put,List.setIfInBounds_toArray,List.set_cons_zero,List.set_cons_succ]);refine anyF_last (i:=9) (by kernel_rfl) rfl (by decide) (fun KR hKR=>?_);go_simp;refine hKR.out _ _ ?_;clear hKR KR;(try simp only [Act.put,List.setIfInBounds_toArray,List.set_cons_zero,List.set_cons_succ]);refine anyF_done (by kernel_rfl) (NoPanic.normal ?_) _;by_cases hz:vecErr es (a:Int)=0
      ·have HR:Hid (r=Xj (a:Int) (p.cols.drop (k+1))):=Lib.hid (by rw [HE.out,B.out,if_pos hz]);go_wp2;go_roundw
       case rel=>exact ⟨k+1,by omega,by go_num,Za f.drew m f.size,hX.drew.later m,HR.out⟩
       case measure=>simp [intOf];omega
      ·have HR:Hid (r=vecErr es (a:Int)):=Lib.hid (by rw [HE.out,B.out,if_neg hz]);have I:(vecErr es (a:Int) !=0)=true:=(by simpa using hz);generalize vecErr es (a:Int)=ER at *;clear hz;go_wp2;go_ret;exact ⟨by rw [HR.out];rfl,Za f.drew m f.size⟩
     ·have HR:Hid (r=0):=Lib.hid (HE.out.trans (Zlf (by rw [← l.out];omega)));go_wp2;go_ret;exact ⟨by rw [HR.out];rfl,f⟩
   ·have HV:Hid (lpErr p=12):=Lib.hid (Zlg HB.out (by rw [← z.out,← l.out];exact q));have F:((n:Int) !=(n':Int))=true:=(by simp;omega);clear q;go_enter Tryz.func36,Tryz.ntmps36;go_wp2;go_ret;exact ⟨by rw [HV.out];rfl,f⟩
namespace Pl
def combB (m:Nat) (f:Nat→Rat) (rs:List RF):Bool:=decide (∀i,i < m→f i=qAt rs i)
theorem combB_true {m:Nat} {f:Nat→Rat} {rs:List RF} (h:∀i,i < m→f i=qAt rs i):combB m f rs=true:=by
 unfold combB;rw [decide_eq_true];exact h
end Pl
namespace Pl
structure Prf where
 st:Int
 x:List RF
 y:List RF
 ray:List RF
end Pl
namespace Pl
def Ydw (p:LPd) (ys:List RF) (k:Nat):Prop:=∀j,j < k→Zzw ys (p.col (j:Int)) p.right.length≤0
instance (p:LPd) (ys:List RF) (k:Nat):Decidable (Ydw p ys k):=by unfold Ydw;infer_instance
def hold2 (p:LPd) (x:Prf):Bool:=decide (Ydw p x.y p.cols.length) && decide (0 < qs (Yec x.y p.right p.right.length))
def hold3 (p:LPd) (x:Prf):Bool:=feasB p x.x && (nnB x.ray && (combB p.right.length (timesQ p x.ray p.cols.length) [] && decide (qs (Yec p.cost x.ray p.cols.length) < 0)))
end Pl
theorem ret_int' {a b:Int} (h:b=a):Ending.returned (.int .i64 a)= .returned (.int .i64 b):=by rw [h]
section
attribute [local irreducible] YE
end
section
namespace Pl
section
variable {p:LPd} {s:LSt}
theorem zL_at (h:zOk p s=true) {i:Nat} (hi:i < p.right.length):(zL p s)[i]? =some (canF (qAt (zL p s) i)):=by
 unfold zOk at h;obtain ⟨x,hx⟩:=Option.isSome_iff_exists.1 h;unfold zL;rw [Zds hx,ZC hi,YL hi]
theorem zL_len (h:zOk p s=true):(zL p s).length=p.right.length:=by
 unfold zOk at h;obtain ⟨x,hx⟩:=Option.isSome_iff_exists.1 h;unfold zL;rw [Zds hx,Zn]
end
end Pl
theorem Xu.all {w:World} {A:Option Addr} {n c:Nat} {zs:List Int} (h:Xu w (.slice A n c) zs) (hn:0 < n):∃b off,A=some ⟨b,off,none⟩∧∀i,i < n→w.cell? ⟨b,off+i,none⟩=some (.int .i64 (zs.getD i 0)):=by
 obtain ⟨a,cap,h1,h2,h3,h4,h5⟩:=h;injection h1 with e1 e2 e3;subst e1 e2;obtain ⟨b,off,g1,g2⟩:=h4 hn;exact ⟨b,off,g1,g2⟩
theorem rvalidateState_any (v1 v2:Value) (p:LPd) (s:LSt) (K:Nat) (w:World) (h:LpM w v1 p) (h2:StM w v2 s) (F:p.Fit K) (hz:lpErr p=0):
 Calls Tryz.prog 39 #[v1,v2] w fun e w'=>e= .returned (.int .i64 (vsErr p s))∧Below w.heap.size w w':=by
 obtain ⟨A,n,c,A',n',c',J,R,L,rfl,hc,hv,hr⟩:=id h;obtain ⟨Ab,nb,cb,rfl,hI⟩:=id h2;obtain ⟨W,hW,ac,M⟩:=UV w (.slice A n c) (.slice A' n' c') (.slice J R L);obtain ⟨W1,aw,S,g⟩:=Vu W (.int .i64 s.phase) (.slice Ab nb cb) (.int .i64 s.pivots);have hX:=ac.later g;have d:=Za M g M.size;obtain ⟨b1,b2,b3⟩:=hI.len;have ag:W.heap.size=w.heap.size+1:=by rw [← hW];simp
 rw [ag] at S;have a0:=Lib.hid h;have a1:=Lib.hid h2;have HI:=Lib.hid hI;have x:=Lib.hid F;have a2:=Lib.hid b1;obtain ⟨x0,x1,x2⟩:=hX.three;obtain ⟨y0,y1,y2⟩:=S.three;obtain ⟨m1,m2,m3⟩:=hv.len;obtain ⟨r1,r2,r3⟩:=hr.len;have X:=Lib.hid m1;have l:=Lib.hid r1;have ah:=Lib.hid hz;clear hz m1 r1;clear h h2 hc hv hr b1 hI ac M g F;have b0:n'≤1200:=by rw [X.out];exact x.out.cols
 have b4:R≤64:=by rw [l.out];exact x.out.rows
 have a3:Hid (∀(i:Nat) (f:RF),(zL p s)[i]? =some f→f.Sh):=Lib.hid fun i f hf=>(Ycm x.out s i f hf).sh (by have:=x.out.ks;omega)
 go_enter Tryz.func39,Tryz.ntmps39;go_wp2_with fail;clear hW aw;refine (rvalidate_any _ p K _ (a0.out.below d) x.out.ok x.out.kb).mono ?_;rw [ah.out];rintro _ w1 ⟨rfl,T⟩;have C:=hX.later T;have E:=S.later T;have g:=Za d T d.size;obtain ⟨x0,x1,x2⟩:=C.three;clear hX S d T;go_wp2_with fail;have C0:=Zm x0;have C1:=Zm x1;have C2:=Zm x2;refine Zo 8 [0,1,2,3,4,5,6,7] (by kernel_rfl) (by kernel_rfl) ?_;repeat ((first | (refine Zc (v:=?_) rfl rfl rfl ?_ ?_;rotate_left;(· (intro _ O;go_simp;(try go_bits);(try with_reducible rfl)))) | (refine Zg (v:=?_) rfl rfl rfl ?_ ?_;rotate_left;(· (intro _ O;go_simp;(try go_bits);(try with_reducible rfl)))) | refine Zh rfl rfl rfl ?_);(try simp only [Act.put,pu1,pu2,pu3,pu4,pu5,pu6]))
 refine Zy ?_;clear C0 C1 C2 x0 x1 x2;replace C:=C.drew;replace E:=E.drew;replace g:=g.drew;generalize w1.drew=wd at *;obtain ⟨x0,x1,x2⟩:=C.three;obtain ⟨y0,y1,y2⟩:=E.three;by_cases hl:nb=R
 ·have m:Hid (s.basis.length=p.right.length):=Lib.hid (by rw [← a2.out,← l.out];exact hl);subst hl;have a4:s.phase < 1∨2 < s.phase∨s.pivots < 0∨(1≤s.phase∧s.phase≤2∧0≤s.pivots):=by omega
  rcases a4 with hq | hq | hq | ⟨ha1,ha2,ha3⟩
  ·have HR:=Lib.hid (Ycv m.out (.inl hq));go_wp2;go_ret;exact ⟨ret_int' HR.out,g⟩
  ·have HR:=Lib.hid (Ycv m.out (.inr (.inl hq)));have b5:¬s.phase < 1:=(by omega);go_wp2;go_ret;exact ⟨ret_int' HR.out,g⟩
  ·have HR:=Lib.hid (Ycv m.out (.inr (.inr hq)));rcases Int.lt_or_le s.phase 1 with hp1 | hp1
   ·go_wp2;go_ret;exact ⟨ret_int' HR.out,g⟩
   ·rcases Int.lt_or_le 2 s.phase with u | u
    ·go_wp2;go_ret;exact ⟨ret_int' HR.out,g⟩
    ·go_wp2;go_ret;exact ⟨ret_int' HR.out,g⟩
  ·have r:Hid (¬(s.phase < 1∨2 < s.phase∨s.pivots < 0)):=Lib.hid (by omega);go_wp2;clear x0 x1 x2 y0 y1 y2
   go_loopw [8] (fun i wr=>∃k:Nat,k≤nb∧i= .int .i64 k∧Below w.heap.size w wr∧Bk wr w.heap.size 26 [.slice A n c,.slice A' n' c',.slice J nb L]∧Bk wr (w.heap.size+1) 29 [.int .i64 s.phase,.slice Ab nb cb,.int .i64 s.pivots]∧∀i,i < k→ -(nb:Int)≤s.at_ i∧s.at_ i < n') (fun i _=>nb - (intOf i).toNat)
   case atStart=>exact ⟨0,by omega,rfl,g,C,E,fun i hi=>by omega⟩
   case round=>
    clear g C E;obtain ⟨k,hk,rfl,d,hX,hS,hg⟩:=hrel;have HG:=Lib.hid hg;clear hg;obtain ⟨x0,x1,x2⟩:=hX.three;obtain ⟨y0,y1,y2⟩:=hS.three;rcases Nat.lt_or_ge k nb with hkl | hkl
    ·obtain ⟨bb,bo,z,rfl,b9,o,z0,z1⟩:=(HI.out.below d).at_ hkl;have Y:=Lib.hid (LSt.at_eq o);have ai:(k:Int) < nb:=(by omega);clear o;rcases Int.lt_or_le z (-(nb:Int)) with h1 | h1
     ·have HR:Hid (vsErr p s=5):=Lib.hid (Zye m.out r.out fun hr=>by have:=(hr k (by rw [← l.out];exact hkl)).1;rw [Y.out,← l.out] at this;omega);go_wp2;go_ret;exact ⟨ret_int' HR.out,d⟩
     ·rcases Int.lt_or_le z n' with h2 | h2
      ·have D:Hid (∀i,i < k+1→ -(nb:Int)≤s.at_ i∧s.at_ i < n'):=Lib.hid fun i hi=>by
        rcases Nat.lt_or_ge i k with h | h
        ·exact HG.out i h
        ·obtain rfl:i=k:=by omega
         rw [Y.out];exact ⟨h1,h2⟩
       go_wp2;go_roundw
       case rel=>exact ⟨k+1,by omega,by go_num,d,hX,hS,D.out⟩
       case measure=>simp [intOf];omega
      ·have HR:Hid (vsErr p s=5):=Lib.hid (Zye m.out r.out fun hr=>by have:=(hr k (by rw [← l.out];exact hkl)).2;rw [Y.out,← X.out] at this;omega);go_wp2;go_ret;exact ⟨ret_int' HR.out,d⟩
    ·obtain rfl:nb=k:=by omega
     have y:Hid (Zns p s):=Lib.hid fun i hi=>by rw [← l.out] at hi ⊢;rw [← X.out];exact HG.out i hi
     clear HG x0 x1 x2 y0 y1 y2;go_wp2
     go_loopw [9] (fun i wr=>∃a:Nat,a≤nb∧i= .int .i64 a∧Below w.heap.size w wr∧Bk wr w.heap.size 26 [.slice A n c,.slice A' n' c',.slice J nb L]∧Bk wr (w.heap.size+1) 29 [.int .i64 s.phase,.slice Ab nb cb,.int .i64 s.pivots]∧∀i,i < a→∀j,j < i→s.at_ i≠s.at_ j) (fun i _=>nb - (intOf i).toNat)
     case atStart=>exact ⟨0,by omega,rfl,d,hX,hS,fun i hi=>by omega⟩
     case round=>
      clear d hX hS;obtain ⟨a,ba,rfl,d,hX,hS,hg⟩:=hrel;have HG:=Lib.hid hg;clear hg;rcases Nat.lt_or_ge a nb with hal | hal
      ·go_wp2
       go_loopw [10] (fun i wr=>∃b:Nat,b≤a∧i= .int .i64 b∧Below w.heap.size w wr∧Bk wr w.heap.size 26 [.slice A n c,.slice A' n' c',.slice J nb L]∧Bk wr (w.heap.size+1) 29 [.int .i64 s.phase,.slice Ab nb cb,.int .i64 s.pivots]∧∀j,j < b→s.at_ a≠s.at_ j) (fun i _=>a - (intOf i).toNat)
       case atStart=>exact ⟨0,by omega,rfl,d,hX,hS,fun j hj=>by omega⟩
       case round=>
        clear d hX hS;obtain ⟨b,bc,rfl,d,hX,hS,hg⟩:=hrel;have D:=Lib.hid hg;clear hg;rcases Nat.lt_or_ge b a with hba | hba
        ·obtain ⟨bb,bo,rfl,N⟩:=(HI.out.below d).all (show 0 < nb by omega);have c1:wr.cell? ⟨bb,bo+a,none⟩=some (.int .i64 (s.at_ a)):=N a hal;have c2:wr.cell? ⟨bb,bo+b,none⟩=some (.int .i64 (s.at_ b)):=N b (by omega);obtain ⟨y0,y1,y2⟩:=hS.three;have b6:(a:Int) < nb:=(by omega);have b7:(b:Int) < nb:=(by omega);have ay:(b:Int) < a:=(by omega);clear N;generalize ae:s.at_ a=za at *;generalize af:s.at_ b=zb at *;have a5:=Lib.hid ae;have a6:=Lib.hid af;clear ae af;have aj:=hX.drew;have ak:=hS.drew;have V:=d.drew;by_cases he:za=zb
         ·have al:(za==zb)=true:=(by simpa using he);have HR:Hid (vsErr p s=7):=Lib.hid (Ycw m.out r.out y.out fun hd=>hd a (by rw [← l.out];exact hal) b hba (by rw [a5.out,a6.out,he]));clear he;go_wp2_with fail;have C0:=Zm y0;have C1:=Zm y1;have C2:=Zm y2;have D1:=Zm c1;have D2:=Zm c2;clear y0 y1 y2 c1 c2;refine Zo 11 [0,1,2,3,4,5,6,7,8,9,10] (by kernel_rfl) (by kernel_rfl) ?_;repeat ((first | (refine Zc (v:=?_) rfl rfl rfl ?_ ?_;rotate_left;(· (intro _ O;go_simp;(try go_bits);(try with_reducible rfl)))) | (refine Zg (v:=?_) rfl rfl rfl ?_ ?_;rotate_left;(· (intro _ O;go_simp;(try go_bits);(try with_reducible rfl)))) | refine Zh rfl rfl rfl ?_);(try simp only [Act.put,pu1,pu2,pu3,pu4,pu5,pu6]))
          refine Zy ?_;go_wp2;go_ret;exact ⟨ret_int' HR.out,V⟩
         ·have al:(za==zb)=false:=(by simpa using he);have a7:Hid (∀j,j < b+1→za≠s.at_ j):=Lib.hid fun j hj=>by
           rcases Nat.lt_or_ge j b with h | h
           ·exact D.out j h
           ·obtain rfl:j=b:=by omega
            rw [a6.out];exact he
          have am:Hid (∀j,j < b+1→s.at_ a≠s.at_ j):=Lib.hid fun j hj=>by rw [a5.out];exact a7.out j hj
          clear he;go_wp2_with fail;have C0:=Zm y0;have C1:=Zm y1;have C2:=Zm y2;have D1:=Zm c1;have D2:=Zm c2;clear y0 y1 y2 c1 c2;refine Zo 11 [0,1,2,3,4,5,6,7,8,9,10] (by kernel_rfl) (by kernel_rfl) ?_;repeat ((first | (refine Zc (v:=?_) rfl rfl rfl ?_ ?_;rotate_left;(· (intro _ O;go_simp;(try go_bits);(try with_reducible rfl)))) | (refine Zg (v:=?_) rfl rfl rfl ?_ ?_;rotate_left;(· (intro _ O;go_simp;(try go_bits);(try with_reducible rfl)))) | refine Zh rfl rfl rfl ?_);(try simp only [Act.put,pu1,pu2,pu3,pu4,pu5,pu6]))
          refine Zy ?_;clear C0 C1 C2 D1 D2;go_wp2;go_roundw
          case rel=>exact ⟨b+1,by omega,by go_num,V,aj,ak,by first | exact am.out | exact a7.out⟩
          case measure=>simp [intOf];omega
        ·obtain rfl:a=b:=by omega
         have an:Hid (∀i,i < a+1→∀j,j < i→s.at_ i≠s.at_ j):=Lib.hid fun i hi j hj=>by
          rcases Nat.lt_or_ge i a with h | h
          ·exact HG.out i h j hj
          ·obtain rfl:i=a:=by omega
           exact D.out j hj
         go_wp2;go_roundw
         case rel=>exact ⟨a+1,by omega,by go_num,d,hX,hS,an.out⟩
         case measure=>simp [intOf];omega
      ·obtain rfl:nb=a:=by omega
       have G:Hid (Ztf p s):=Lib.hid fun i hi=>by rw [← l.out] at hi;exact HG.out i hi
       have ao:=Lib.hid (Yax m.out y.out);obtain ⟨x0,x1,x2⟩:=hX.three;obtain ⟨y0,y1,y2⟩:=hS.three;clear HG;go_wp2_with fail;refine (rbasic_own _ _ p s K _ (a0.out.below d) (a1.out.below d) x.out ao.out).mono ?_;rintro _ w5 ⟨v5,rfl,e5,U⟩;have a8:=hX.later U;have a9:=hS.later U;have H:=Za d U d.size;have P:=e5.frs;clear x0 x1 x2 y0 y1 y2 hX hS d U e5
       cases hzk:zOk p s with
       | false=>
        have HR:=Lib.hid (Yaw m.out r.out y.out G.out hzk);go_wp2;go_ret;exact ⟨ret_int' HR.out,H⟩
       | true=>
        have I:=Lib.hid hzk;have aa:Hid ((zL p s).length=nb):=Lib.hid (by rw [zL_len hzk,l.out]);obtain ⟨Az,cz,rfl,ax,bd⟩:=P.shape;rw [aa.out] at ax P ⊢;clear hzk;go_wp2
        go_loopw [13] (fun i wr=>∃k:Nat,k≤nb∧i= .int .i64 k∧Below w.heap.size w wr∧Bk wr w.heap.size 26 [.slice A n c,.slice A' n' c',.slice J nb L]∧Bk wr (w.heap.size+1) 29 [.int .i64 s.phase,.slice Ab nb cb,.int .i64 s.pivots]∧WL wr (.slice Az nb cz) (zL p s)∧∀i,i < k→¬qAt (zL p s) i < 0) (fun i _=>nb - (intOf i).toNat)
        case atStart=>exact ⟨0,by omega,rfl,H,a8,a9,P,fun i hi=>by omega⟩
        case round=>
         clear H a8 a9 P;obtain ⟨k,hk,rfl,d,hX,hS,hz,hg⟩:=hrel;have HG:=Lib.hid hg;clear hg;rcases Nat.lt_or_ge k nb with hkl | hkl
         ·have o:=zL_at I.out (show k < p.right.length by rw [← l.out];exact hkl);obtain ⟨b',az,B1,n1,k1,B2,n2,k2,rfl,be,⟨q0,q1,q2,q3⟩,ad⟩:=hz.elem (Below.refl _ _) o;have ap:=a3.out k _ o;have ai:(k:Int) < nb:=(by omega);generalize hq:qAt (zL p s) k=q at *;have HQ:=Lib.hid hq;clear hq o;go_wp2_with fail;refine (rsignF_any _ (canF q) _ ad ap).mono ?_;rw [Zt];rintro _ w7 ⟨rfl,B⟩;have aq:=hX.later B;have ar:=hS.later B;have au:=hz.below B;have t:=Za d B d.size;clear q0 q1 q2 q3 ad hX hS hz d B;rcases Int.lt_or_le (qs q) 0 with hqs | hqs
          ·have HR:Hid (vsErr p s=16):=Lib.hid (Zyf m.out r.out y.out G.out I.out fun hp=>hp k (by rw [← l.out];exact hkl) (by rw [HQ.out];exact Zda.1 hqs));go_wp2;go_ret;exact ⟨ret_int' HR.out,t⟩
          ·have D:Hid (∀i,i < k+1→¬qAt (zL p s) i < 0):=Lib.hid fun i hi=>by
            rcases Nat.lt_or_ge i k with h | h
            ·exact HG.out i h
            ·obtain rfl:i=k:=by omega
             rw [HQ.out];intro h9;have:=Zda.2 h9;omega
           go_wp2;go_roundw
           case rel=>exact ⟨k+1,by omega,by go_num,t,aq,ar,au,D.out⟩
           case measure=>simp [intOf];omega
         ·obtain rfl:nb=k:=by omega
          have Z:Hid (Zwx p s):=Lib.hid fun i hi=>by rw [← l.out] at hi;exact HG.out i hi
          obtain ⟨y0,y1,y2⟩:=hS.three;clear HG;by_cases u:s.phase=2
          ·have ab:(s.phase==2)=true:=(by simpa using u);have av:=Lib.hid u;clear u;go_wp2_with fail;refine (rartificial_any _ _ s (zL p s) _ (a1.out.below d) hz (by rw [aa.out,m.out,l.out];exact Nat.le_refl _) a3.out).mono ?_;rintro _ w7 ⟨rfl,B⟩;have t:=Za d B d.size
           cases ha:Zbm s (zL p s) (zL p s).length with
           | true=>
            have HR:=Lib.hid (Ycx m.out r.out y.out G.out I.out Z.out ⟨av.out,ha⟩);clear ha;go_wp2;go_ret;exact ⟨ret_int' HR.out,t⟩
           | false=>
            have HR:=Lib.hid (Ycy m.out r.out y.out G.out I.out Z.out (fun h=>by rw [ha] at h;exact absurd h.2 (by decide)));clear ha;go_wp2;go_ret;exact ⟨ret_int' HR.out,t⟩
          ·have ab:(s.phase==2)=false:=(by simpa using u);have HR:=Lib.hid (Ycy m.out r.out y.out G.out I.out Z.out (fun h=>u h.1));clear u;go_wp2;go_ret;exact ⟨ret_int' HR.out,d⟩
 ·have HR:Hid (vsErr p s=12):=Lib.hid (Ycu (by rw [← a2.out,← l.out];exact hl));have b8:((nb:Int) !=(R:Int))=true:=by simp;omega
  go_wp2;go_ret;exact ⟨ret_int' HR.out,g⟩
end
namespace Pl
def primN (s:LSt) (Z:List RF):Nat→Nat→Rat
 | 0=>fun _=>0
 | k+1=>fun j=>if s.at_ k=(j:Int) then qAt Z k else primN s Z k j
theorem primN_succ (s:LSt) (Z:List RF) (k j:Nat):primN s Z (k+1) j=if s.at_ k=(j:Int) then qAt Z k else primN s Z k j:=rfl
def primL (p:LPd) (s:LSt):List RF:=Yl p.cols.length (primN s (zL p s) (zL p s).length)
theorem primN_B {s:LSt} {Z:List RF} {K:Nat} (h:RsL K Z) (hK:1≤K):∀(k j:Nat),Sz K (primN s Z k j)
 | 0,j=>Sz_zero.mono hK
 | k+1,j=>by
  unfold primN
  split
  ·exact h.qAt hK k
  ·exact primN_B h hK k j
theorem primL_B {p:LPd} {K:Nat} (F:p.Fit K) (s:LSt):RsL (5^p.right.length * K) (primL p s):=Zgn fun i _=>primN_B (Ycm F s) (Nat.le_trans F.k1 F.le) _ i
end Pl
theorem rprimal_own (v1 v2:Value) (p:LPd) (s:LSt) (K:Nat) (w:World) (h:LpM w v1 p) (h2:StM w v2 s) (F:p.Fit K) (S:s.Fit p):
 Calls Tryz.prog 64 #[v1,v2] w fun e w'=>∃v',e= .returned v'∧Yi w.heap.size w' v' (primL p s)∧Below w.heap.size w w':=by
 obtain ⟨A,n,c,A',n',c',a3,a4,a5,rfl,hc,hv,hr⟩:=id h;obtain ⟨Ab,nb,cb,rfl,hI⟩:=id h2;obtain ⟨W,hW,a6,q⟩:=UV w (.slice A n c) (.slice A' n' c') (.slice a3 a4 a5);obtain ⟨W1,ap,u,r⟩:=Vu W (.int .i64 s.phase) (.slice Ab nb cb) (.int .i64 s.pivots);have hX:=a6.later r;have b:=Za q r q.size;obtain ⟨b1,b2,b3⟩:=hI.len;have ac:W.heap.size=w.heap.size+1:=by rw [← hW];simp
 rw [ac] at u;have ad:=Lib.hid h;have ae:=Lib.hid h2;have HI:=Lib.hid hI;have G:=Lib.hid F;have H:=Lib.hid S;have af:=Lib.hid b1;have I:Hid (nb=p.right.length):=Lib.hid (by rw [b1];exact S.2);have az:nb≤64:=by rw [I.out];exact F.2.2.1
 obtain ⟨x0,x1,x2⟩:=hX.three;obtain ⟨y0,y1,y2⟩:=u.three;obtain ⟨m1,m2,m3⟩:=hv.len;have C:=Lib.hid m1;clear h h2 hc hv hr b1 hI a6 q r F S;clear m1;have b0:n'≤1200:=by rw [C.out];exact G.out.cols
 go_enter Tryz.func64,Tryz.ntmps64;go_wp2_with fail;clear hW ap;refine (rbasic_own _ _ p s K _ (ad.out.below b) (ae.out.below b) G.out H.out).mono ?_;rintro _ w3 ⟨v3,rfl,e3,l⟩;have o:=hX.later l;have J:=u.later l;have m:=Za b l b.size;have D:=e3.frs;obtain ⟨Az,cz,rfl,b7,b8⟩:=D.shape;have ag:Hid ((zL p s).length≤nb):=Lib.hid (by rw [I.out];exact solF_len);have L:Hid (∀(k:Nat) (f:RF),(zL p s)[k]? =some f→f=canF (qAt (zL p s) k)):=Lib.hid fun k f hf=>Znt hf
 generalize aa:zL p s=Z at *;have ah:=Lib.hid aa;clear aa;generalize ab:Z.length=N at *;have M:=Lib.hid ab;have b4:N≤nb:=ag.out;clear ab;clear x0 x1 x2 y0 y1 y2;obtain ⟨x0,x1,x2⟩:=o.three;clear e3 l hX u b;go_wp2_with fail;refine (zeros_own n' _ (by omega)).mono ?_;rw [canL_zero,show (Yl n' fun _=>0)=Yl n' (primN s Z 0) from rfl];rintro _ w5 ⟨v5,rfl,e5,t⟩;have O:=o.later t;have P:=J.later t;have y:=Za m t m.size;have ai:=m.size;have aj:=Lib.hid D;have R:Hid (∃a d,v5= .slice a n' d∧n'≤d∧d≤9223372036854775807):=Lib.hid (by
  have:=e5.frs.shape;rw [Zn] at this;exact this)
 obtain ⟨A5,c5,rfl,aw,ax⟩:=R.out;clear x0 x1 x2 o J m D R;go_wp2
 go_loopw [8] (fun i wr=>∃k:Nat,k≤N∧i= .int .i64 k∧Below w.heap.size w wr∧Below w3.heap.size w3 wr∧Bk wr w.heap.size 26 [.slice A n c,.slice A' n' c',.slice a3 a4 a5]∧Bk wr (w.heap.size+1) 29 [.int .i64 s.phase,.slice Ab nb cb,.int .i64 s.pivots]∧Yi w3.heap.size wr (.slice A5 n' c5) (Yl n' (primN s Z k))) (fun i _=>N - (intOf i).toNat)
 case atStart=>exact ⟨0,by omega,rfl,y,t,O,P,e5⟩
 case round=>
  clear y t O P e5;obtain ⟨k,hk,rfl,b,l,hX,hS,hO⟩:=hrel;rcases Nat.lt_or_ge k N with hkl | hkl
  ·obtain ⟨f,hf⟩:=Yt (fs:=Z) (i:=k) (by rw [M.out];exact hkl);obtain ⟨bb,bo,rfl,B⟩:=(HI.out.below b).all (show 0 < nb by omega);have c1:wr.cell? ⟨bb,bo+k,none⟩=some (.int .i64 (s.at_ k)):=B k (by omega);obtain ⟨z',x⟩:∃z,s.basis[k]? =some z:=⟨_,List.getElem?_eq_getElem (by rw [← af.out];omega)⟩;obtain ⟨i0,i1⟩:=H.out.1 k z' x;rw [LSt.at_eq x] at c1;have T:=Lib.hid (LSt.at_eq x);obtain ⟨y0,y1,y2⟩:=hS.three;have b5:(k:Int) < N:=(by omega);have av:(k:Int) < nb:=(by omega);clear B x;rcases Int.lt_or_le z' 0 with hz0 | hz0
   ·have HP:Hid (Yl n' (primN s Z k)=Yl n' (primN s Z (k+1))):=Lib.hid (Z4 fun j _=>by rw [primN_succ,T.out,if_neg (by omega)]);have U:=hO;rw [HP.out] at U;go_wp2;go_roundw
    case rel=>exact ⟨k+1,by omega,by go_num,b,l,hX,hS,U⟩
    case measure=>simp [intOf];omega
   ·obtain ⟨b',ay,B1,n1,k1,B2,n2,k2,rfl,b9,⟨q0,q1,q2,q3⟩,aq⟩:=aj.out.elem l hf;obtain ⟨jn,rfl⟩:=Int.eq_ofNat_of_zero_le hz0;have E:jn < n':=(by have:=C.out;omega);have b6:(jn:Int) < n':=(by omega);have ak:=Lib.hid (L.out k f hf);obtain ⟨g,cg,a7,ar,ba,bc,bd⟩:=hO.shape (by rw [Zn];omega);rw [Zn] at a7;injection a7 with e1 e2 e3;subst e1 e3;have V:=hO.below (Ze wr);obtain ⟨_,_,_,_,⟨t0,t1,t2,t3⟩,⟨f0,f1,f2,f3⟩,_⟩:=V.at_ (ZC E);have al:=aq.below (Ze wr);have am:=hX.drew;have an:=hS.drew;have X:=b.drew;have Y:=l.drew;clear hf
    go_upto_region 7 with (fail)
    have C0:=Zm y0;have C1:=Zm y1;have C2:=Zm y2;have D1:=Zm c1;have Q0:=Zm q0;have Q1:=Zm q1;have Q2:=Zm q2;have Q3:=Zm q3;clear y0 y1 y2 c1 q0 q1 q2 q3;refine Zo 11 [0,1,2,3,4,5,6,7,8,9,10,11] (by kernel_rfl) (by kernel_rfl) ?_;generalize wr.drew=wD at *;repeat ((first | (refine Zc (v:=?_) rfl rfl rfl ?_ ?_;rotate_left;(· (intro _ au;go_simp;(try go_bits);(try with_reducible rfl)))) | (refine Zg (v:=?_) rfl rfl rfl ?_ ?_;rotate_left;(· (intro _ au;go_simp;(try go_bits);(try with_reducible rfl)))) | refine Zh rfl rfl rfl ?_);(try simp only [Act.put,pu1,pu2,pu3,pu4,pu5,pu6]))
    refine Zf rfl rfl (fun KR hKR=>?_);go_simp;refine hKR.out _ _ (Or.inl (by decide)) ?_;clear hKR KR;(try simp only [Act.put,pu1,pu2,pu3,pu4,pu5,pu6]);refine Zy ?_;obtain ⟨a8,a9⟩:=V.set_ (k:=jn) (by rw [Zn];exact E) al;have a0:Hid ((Yl n' (primN s Z k)).set jn f=Yl n' (primN s Z (k+1))):=Lib.hid (by
     rw [ak.out,Vh E];exact Z4 fun j _=>by
      rw [primN_succ,T.out];by_cases e:j=jn
      ·rw [if_pos e,if_pos (by omega)]
      ·rw [if_neg e,if_neg (by omega)])
    rw [a0.out] at a8;have o:=a9.bk am (by decide);have ao:=a9.bk an (by decide);have a1:=ZA X (show w.heap.size≤g by omega) (jn * 4) (jn * 4+1) (jn * 4+2) (jn * 4+3);have a2:=ZA Y ar (jn * 4) (jn * 4+1) (jn * 4+2) (jn * 4+3);go_wp2;go_roundw
    case rel=>exact ⟨k+1,by omega,by go_num,a1 _ _ _ _,a2 _ _ _ _,o,ao,a8⟩
    case measure=>simp [intOf];omega
  ·obtain rfl:N=k:=by omega
   go_wp2;go_ret;refine ⟨_,rfl,?_,b⟩;unfold primL;rw [ah.out,← C.out,M.out];obtain ⟨cs,ho,hf⟩:=hO;exact ⟨cs,Vi ho ai,hf⟩
namespace Pl
def rayN (t:LSt) (D:List RF) (j:Int):Nat→Nat→Rat
 | 0=>fun i=>if j=(i:Int) then 1 else 0
 | k+1=>fun i=>if t.at_ k=(i:Int) then -qAt D k else rayN t D j k i
theorem rayN_succ (t:LSt) (D:List RF) (j:Int) (k i:Nat):rayN t D j (k+1) i=if t.at_ k=(i:Int) then -qAt D k else rayN t D j k i:=rfl
def rayL (p:LPd) (t:LSt):List RF:=Yl p.cols.length (rayN t (Zau p t) (U9 p t) (Zau p t).length)
def extP (p:LPd) (t:LSt):Prf:=if XD p t=1 then ⟨1,primL p t,Ww p t,[]⟩ else if XD p t=2 then ⟨2,[],Ww p t,[]⟩ else if XD p t=3 then ⟨3,primL p t,[],rayL p t⟩ else ⟨0,[],[],[]⟩
def extE (p:LPd) (t:LSt):Int:=if XD p t=0 then 16 else 0
theorem statQ_cases (p:LPd) (t:LSt):XD p t=0∨XD p t=1∨XD p t=2∨XD p t=3:=by
 cases he:Zwy p t with
 | none=>rw [(Zaa he).1];split <;> omega
 | some j=>rw [(VT he).1];split <;> omega
theorem ext_2 {p:LPd} {t:LSt} (h:XD p t=2):extP p t=⟨2,[],Ww p t,[]⟩∧extE p t=0:=by unfold extP extE;rw [h];exact ⟨rfl,rfl⟩
theorem ext_3 {p:LPd} {t:LSt} (h:XD p t=3):extP p t=⟨3,primL p t,[],rayL p t⟩∧extE p t=0:=by unfold extP extE;rw [h];exact ⟨rfl,rfl⟩
end Pl
section
open Go.Maps (int_keyed keyOf_int_mk)
end
section
attribute [local irreducible] YE
end
end Go.Proofs.YtncmobkhenfhpaaGreat
