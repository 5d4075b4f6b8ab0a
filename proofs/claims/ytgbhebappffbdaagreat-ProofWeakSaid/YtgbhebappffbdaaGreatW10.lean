/- Lemmas of the claim; no condition. -/
import Derived.OwnWalk
import Derived.Maps.Own
import Derived.Great.BuildSlice
import Derived.Test.YtgbhebappffbdaaGreatW9
set_option linter.all false
set_option maxRecDepth 100000
set_option maxHeartbeats 40000000
namespace Go.Proofs.YtgbhebappffbdaaGreat
open Go.RowKit
open Pl
attribute [local go_sem ↓] Go.wp_at_zero Go.wp_at_succ
section
namespace Pl
def Zsw (p:LPd) (s:LSt):Prop:=∀i,i < p.right.length→ -(p.right.length:Int)≤s.at_ i∧s.at_ i < p.cols.length
def Zyp (p:LPd) (s:LSt):Prop:=∀i,i < p.right.length→∀k,k < i→s.at_ i≠s.at_ k
def Ydg (p:LPd) (s:LSt):Prop:=∀i,i < p.right.length→¬qAt (zL p s) i < 0
instance (p:LPd) (s:LSt):Decidable (Zsw p s):=by unfold Zsw;infer_instance
instance (p:LPd) (s:LSt):Decidable (Zyp p s):=by unfold Zyp;infer_instance
instance (p:LPd) (s:LSt):Decidable (Ydg p s):=by unfold Ydg;infer_instance
def vsErr (p:LPd) (s:LSt):Int:=if s.basis.length≠p.right.length then 12 else if s.phase < 1∨2 < s.phase∨s.pivots < 0 then 5 else if ¬Zsw p s then 5 else if ¬Zyp p s then 7 else if zOk p s=false then 13 else if ¬Ydg p s then 16 else if s.phase=2∧UE s (zL p s) (zL p s).length=true then 16 else 0
section
variable {p:LPd} {s:LSt}
theorem Yhq (h:s.basis.length≠p.right.length):vsErr p s=12:=by unfold vsErr;rw [if_pos h]
theorem Zvj (h:s.basis.length=p.right.length) (h2:s.phase < 1∨2 < s.phase∨s.pivots < 0):vsErr p s=5:=by unfold vsErr;rw [if_neg (by omega),if_pos h2]
theorem Zvk (h:s.basis.length=p.right.length) (h2:¬(s.phase < 1∨2 < s.phase∨s.pivots < 0)) (h3:¬Zsw p s):vsErr p s=5:=by unfold vsErr;rw [if_neg (by omega),if_neg h2,if_pos h3]
theorem Yhr (h:s.basis.length=p.right.length) (h2:¬(s.phase < 1∨2 < s.phase∨s.pivots < 0)) (h3:Zsw p s) (h4:¬Zyp p s):vsErr p s=7:=by unfold vsErr;rw [if_neg (by omega),if_neg h2,if_neg (by simpa using h3),if_pos h4]
theorem Yby (h:s.basis.length=p.right.length) (h2:¬(s.phase < 1∨2 < s.phase∨s.pivots < 0)) (h3:Zsw p s) (h4:Zyp p s) (h5:zOk p s=false):vsErr p s=13:=by unfold vsErr;rw [if_neg (by omega),if_neg h2,if_neg (by simpa using h3),if_neg (by simpa using h4),if_pos h5]
theorem Ybz (h:s.basis.length=p.right.length) (h2:¬(s.phase < 1∨2 < s.phase∨s.pivots < 0)) (h3:Zsw p s) (h4:Zyp p s) (h5:zOk p s=true) (h6:¬Ydg p s):vsErr p s=16:=by unfold vsErr;rw [if_neg (by omega),if_neg h2,if_neg (by simpa using h3),if_neg (by simpa using h4),if_neg (by rw [h5];decide),if_pos h6]
theorem Yhs (h:s.basis.length=p.right.length) (h2:¬(s.phase < 1∨2 < s.phase∨s.pivots < 0)) (h3:Zsw p s) (h4:Zyp p s) (h5:zOk p s=true) (h6:Ydg p s) (h7:s.phase=2∧UE s (zL p s) (zL p s).length=true):vsErr p s=16:=by unfold vsErr;rw [if_neg (by omega),if_neg h2,if_neg (by simpa using h3),if_neg (by simpa using h4),if_neg (by rw [h5];decide),if_neg (by simpa using h6),if_pos h7]
theorem Yga (h:s.basis.length=p.right.length) (h2:¬(s.phase < 1∨2 < s.phase∨s.pivots < 0)) (h3:Zsw p s) (h4:Zyp p s) (h5:zOk p s=true) (h6:Ydg p s) (h7:¬(s.phase=2∧UE s (zL p s) (zL p s).length=true)):vsErr p s=0:=by unfold vsErr;rw [if_neg (by omega),if_neg h2,if_neg (by simpa using h3),if_neg (by simpa using h4),if_neg (by rw [h5];decide),if_neg (by simpa using h6),if_neg h7]
theorem Yca (h:s.basis.length=p.right.length) (h3:Zsw p s):s.Fit p:=⟨fun i z hz=>by
 have hi:i < s.basis.length:=(List.getElem?_eq_some_iff.1 hz).1
 have:=h3 i (by omega)
 rw [LSt.at_eq hz] at this
 exact this,h⟩
theorem Ycb (h:vsErr p s=0):s.Fit p∧¬(s.phase < 1∨2 < s.phase∨s.pivots < 0)∧Zyp p s∧zOk p s=true∧Ydg p s∧¬(s.phase=2∧UE s (zL p s) (zL p s).length=true):=by
 unfold vsErr at h;by_cases h1:s.basis.length≠p.right.length
 ·rw [if_pos h1] at h;omega
 rw [if_neg h1] at h;by_cases h2:s.phase < 1∨2 < s.phase∨s.pivots < 0
 ·rw [if_pos h2] at h;omega
 rw [if_neg h2] at h;by_cases h3:Zsw p s
 ·rw [if_neg (by simpa using h3)] at h;by_cases h4:Zyp p s
  ·rw [if_neg (by simpa using h4)] at h
   cases h5:zOk p s with
   | false=>rw [if_pos h5] at h;omega
   | true=>
    rw [if_neg (by rw [h5];decide)] at h;by_cases h6:Ydg p s
    ·rw [if_neg (by simpa using h6)] at h;by_cases h7:s.phase=2∧UE s (zL p s) (zL p s).length=true
     ·rw [if_pos h7] at h;omega
     ·exact ⟨Yca (by omega) h3,h2,h4,rfl,h6,h7⟩
    ·rw [if_pos h6] at h;omega
  ·rw [if_pos h4] at h;omega
 ·rw [if_pos h3] at h;omega
theorem Yoh (h:zOk p s=true) {i:Nat} (hi:i < p.right.length):(zL p s)[i]? =some (canF (qAt (zL p s) i)):=by
 unfold zOk at h;obtain ⟨x,hx⟩:=Option.isSome_iff_exists.1 h;unfold zL;rw [WR hx,ZE hi,Yr hi]
theorem Ymz (h:zOk p s=true):(zL p s).length=p.right.length:=by
 unfold zOk at h;obtain ⟨x,hx⟩:=Option.isSome_iff_exists.1 h;unfold zL;rw [WR hx,Zc]
end
end Pl
theorem Xq.all {w:World} {A:Option Addr} {n c:Nat} {zs:List Int} (h:Xq w (.slice A n c) zs) (hn:0 < n):∃b off,A=some ⟨b,off,none⟩∧∀i,i < n→w.cell? ⟨b,off+i,none⟩=some (.int .i64 (zs.getD i 0)):=by
 obtain ⟨a,cap,h1,h2,h3,h4,h5⟩:=h;injection h1 with e1 e2 e3;subst e1 e2;obtain ⟨b,off,g1,g2⟩:=h4 hn;exact ⟨b,off,g1,g2⟩
theorem VO (v1 v2:Value) (p:LPd) (s:LSt) (K:Nat) (w:World) (h:LpM w v1 p) (h2:StM w v2 s) (F:p.Fit K) (hz:lpErr p=0):
 Calls Tryz.prog 39 #[v1,v2] w fun e w'=>e= .returned (.int .i64 (vsErr p s))∧Below w.heap.size w w':=by
 obtain ⟨A,n,c,A',n',c',I,O,J,rfl,hc,hv,hr⟩:=id h;obtain ⟨Ab,nb,cb,rfl,hI⟩:=id h2;obtain ⟨W,hW,aa,L⟩:=Yc w (.slice A n c) (.slice A' n' c') (.slice I O J);obtain ⟨W1,au,P,g⟩:=YT W (.int .i64 s.phase) (.slice Ab nb cb) (.int .i64 s.pivots);have hX:=aa.later g;have d:=Za L g L.size;obtain ⟨b1,b2,b3⟩:=hI.len;have ae:W.heap.size=w.heap.size+1:=by rw [← hW];simp
 rw [ae] at P;have Y:=JZ h;have Z:=JZ h2;have HI:=JZ hI;have v:=JZ F;have a0:=JZ b1;obtain ⟨x0,x1,x2⟩:=hX.three;obtain ⟨y0,y1,y2⟩:=P.three;obtain ⟨m1,m2,m3⟩:=hv.len;obtain ⟨r1,r2,r3⟩:=hr.len;have U:=JZ m1;have l:=JZ r1;have af:=JZ hz;clear hz m1 r1;clear h h2 hc hv hr b1 hI aa L g F;have ay:n'≤1200:=by rw [U.out];exact v.out.cols
 have az:O≤64:=by rw [l.out];exact v.out.rows
 have a1:Hid (∀(i:Nat) (f:RF),(zL p s)[i]? =some f→f.Sh):=JZ fun i f hf=>(Ynq v.out s i f hf).sh (by have:=v.out.ks;omega)
 go_enter Tryz.func39,Tryz.ntmps39;go_wp2_with fail;clear hW au;refine (Zdp _ p K _ (Y.out.below d) v.out.ok v.out.kb).mono ?_;rw [af.out];rintro _ w1 ⟨rfl,R⟩;have B:=hX.later R;have D:=P.later R;have g:=Za d R d.size;obtain ⟨x0,x1,x2⟩:=B.three;clear hX P d R;go_wp2_with fail;have C0:=Zl x0;have C1:=Zl x1;have C2:=Zl x2;refine Zn 8 [0,1,2,3,4,5,6,7] (by kernel_rfl) (by kernel_rfl) ?_;repeat ((first|(first|refine Zb (v:=?_) rfl rfl rfl ?_ ?_ |refine Zd (v:=?_) rfl rfl rfl ?_ ?_);rotate_left;·(intro _ _;go_simp;(try go_bits);(try with_reducible rfl))|refine Ze rfl rfl rfl ?_);(try simp only [py]))
 refine Zv ?_;clear C0 C1 C2 x0 x1 x2;replace B:=B.drew;replace D:=D.drew;replace g:=g.drew;generalize w1.drew=wd at *;obtain ⟨x0,x1,x2⟩:=B.three;obtain ⟨y0,y1,y2⟩:=D.three;by_cases hl:nb=O
 ·have m:Hid (s.basis.length=p.right.length):=JZ (by rw [← a0.out,← l.out];exact hl);subst hl;have a2:s.phase < 1∨2 < s.phase∨s.pivots < 0∨(1≤s.phase∧s.phase≤2∧0≤s.pivots):=by omega
  rcases a2 with hq | hq | hq | ⟨ha1,ha2,ha3⟩
  ·have HR:=JZ (Zvj m.out (.inl hq));go_wp2;go_ret;exact ⟨Yn HR.out,g⟩
  ·have HR:=JZ (Zvj m.out (.inr (.inl hq)));have b0:¬s.phase < 1:=(by omega);go_wp2;go_ret;exact ⟨Yn HR.out,g⟩
  ·have HR:=JZ (Zvj m.out (.inr (.inr hq)));rcases Int.lt_or_le s.phase 1 with hp1 | hp1
   ·go_wp2;go_ret;exact ⟨Yn HR.out,g⟩
   ·rcases Int.lt_or_le 2 s.phase with u | u
    ·go_wp2;go_ret;exact ⟨Yn HR.out,g⟩
    ·go_wp2;go_ret;exact ⟨Yn HR.out,g⟩
  ·have r:Hid (¬(s.phase < 1∨2 < s.phase∨s.pivots < 0)):=JZ (by omega);go_wp2;clear x0 x1 x2 y0 y1 y2
   go_loopw [8] (fun i wr=>∃k:Nat,k≤nb∧i= .int .i64 k∧Below w.heap.size w wr∧Bk wr w.heap.size 26 [.slice A n c,.slice A' n' c',.slice I nb J]∧Bk wr (w.heap.size+1) 29 [.int .i64 s.phase,.slice Ab nb cb,.int .i64 s.pivots]∧∀i,i < k→ -(nb:Int)≤s.at_ i∧s.at_ i < n') (fun i _=>nb - (intOf i).toNat)
   case atStart=>exact ⟨0,by omega,rfl,g,B,D,fun i hi=>by omega⟩
   case round=>
    clear g B D;obtain ⟨k,hk,rfl,d,hX,hS,hg⟩:=hrel;have HG:=JZ hg;clear hg;obtain ⟨x0,x1,x2⟩:=hX.three;obtain ⟨y0,y1,y2⟩:=hS.three;rcases JX k nb with hkl | hkl
    ·obtain ⟨bb,bo,z,rfl,b7,o,z0,z1⟩:=(HI.out.below d).at_ hkl;have V:=JZ (LSt.at_eq o);have ag:(k:Int) < nb:=(by omega);clear o;rcases Int.lt_or_le z (-(nb:Int)) with h1 | h1
     ·have HR:Hid (vsErr p s=5):=JZ (Zvk m.out r.out fun hr=>by have:=(hr k (by rw [← l.out];exact hkl)).1;rw [V.out,← l.out] at this;omega);go_wp2;go_ret;exact ⟨Yn HR.out,d⟩
     ·rcases Int.lt_or_le z n' with h2 | h2
      ·have C:Hid (∀i,i < k+1→ -(nb:Int)≤s.at_ i∧s.at_ i < n'):=JZ fun i hi=>by
        rcases JX i k with h | h
        ·exact HG.out i h
        ·obtain rfl:i=k:=by omega
         rw [V.out];exact ⟨h1,h2⟩
       go_wp2;go_roundw
       case rel=>exact ⟨k+1,by omega,by go_num,d,hX,hS,C.out⟩
       case measure=>simp [intOf];omega
      ·have HR:Hid (vsErr p s=5):=JZ (Zvk m.out r.out fun hr=>by have:=(hr k (by rw [← l.out];exact hkl)).2;rw [V.out,← U.out] at this;omega);go_wp2;go_ret;exact ⟨Yn HR.out,d⟩
    ·obtain rfl:nb=k:=by omega
     have x:Hid (Zsw p s):=JZ fun i hi=>by rw [← l.out] at hi ⊢;rw [← U.out];exact HG.out i hi
     clear HG x0 x1 x2 y0 y1 y2;go_wp2
     go_loopw [9] (fun i wr=>∃a:Nat,a≤nb∧i= .int .i64 a∧Below w.heap.size w wr∧Bk wr w.heap.size 26 [.slice A n c,.slice A' n' c',.slice I nb J]∧Bk wr (w.heap.size+1) 29 [.int .i64 s.phase,.slice Ab nb cb,.int .i64 s.pivots]∧∀i,i < a→∀j,j < i→s.at_ i≠s.at_ j) (fun i _=>nb - (intOf i).toNat)
     case atStart=>exact ⟨0,by omega,rfl,d,hX,hS,fun i hi=>by omega⟩
     case round=>
      clear d hX hS;obtain ⟨a,b8,rfl,d,hX,hS,hg⟩:=hrel;have HG:=JZ hg;clear hg;rcases JX a nb with hal | hal
      ·go_wp2
       go_loopw [10] (fun i wr=>∃b:Nat,b≤a∧i= .int .i64 b∧Below w.heap.size w wr∧Bk wr w.heap.size 26 [.slice A n c,.slice A' n' c',.slice I nb J]∧Bk wr (w.heap.size+1) 29 [.int .i64 s.phase,.slice Ab nb cb,.int .i64 s.pivots]∧∀j,j < b→s.at_ a≠s.at_ j) (fun i _=>a - (intOf i).toNat)
       case atStart=>exact ⟨0,by omega,rfl,d,hX,hS,fun j hj=>by omega⟩
       case round=>
        clear d hX hS;obtain ⟨b,b9,rfl,d,hX,hS,hg⟩:=hrel;have C:=JZ hg;clear hg;rcases JX b a with hba | hba
        ·obtain ⟨bb,bo,rfl,M⟩:=(HI.out.below d).all (show 0 < nb by omega);have c1:wr.cell? ⟨bb,bo+a,none⟩=some (.int .i64 (s.at_ a)):=M a hal;have c2:wr.cell? ⟨bb,bo+b,none⟩=some (.int .i64 (s.at_ b)):=M b (by omega);obtain ⟨y0,y1,y2⟩:=hS.three;have b4:(a:Int) < nb:=(by omega);have b5:(b:Int) < nb:=(by omega);have aw:(b:Int) < a:=(by omega);clear M;generalize ac:s.at_ a=za at *;generalize ad:s.at_ b=zb at *;have a3:=JZ ac;have a4:=JZ ad;clear ac ad;have ah:=hX.drew;have ai:=hS.drew;have T:=d.drew;by_cases he:za=zb
         ·have aj:(za==zb)=true:=(by simpa using he);have HR:Hid (vsErr p s=7):=JZ (Yhr m.out r.out x.out fun hd=>hd a (by rw [← l.out];exact hal) b hba (by rw [a3.out,a4.out,he]));clear he;go_wp2_with fail;have C0:=Zl y0;have C1:=Zl y1;have C2:=Zl y2;have D1:=Zl c1;have D2:=Zl c2;clear y0 y1 y2 c1 c2;refine Zn 11 [0,1,2,3,4,5,6,7,8,9,10] (by kernel_rfl) (by kernel_rfl) ?_;repeat ((first|(first|refine Zb (v:=?_) rfl rfl rfl ?_ ?_ |refine Zd (v:=?_) rfl rfl rfl ?_ ?_);rotate_left;·(intro _ _;go_simp;(try go_bits);(try with_reducible rfl))|refine Ze rfl rfl rfl ?_);(try simp only [py]))
          refine Zv ?_;go_wp2;go_ret;exact ⟨Yn HR.out,T⟩
         ·have aj:(za==zb)=false:=(by simpa using he);have a5:Hid (∀j,j < b+1→za≠s.at_ j):=JZ fun j hj=>by
           rcases JX j b with h | h
           ·exact C.out j h
           ·obtain rfl:j=b:=by omega
            rw [a4.out];exact he
          have ak:Hid (∀j,j < b+1→s.at_ a≠s.at_ j):=JZ fun j hj=>by rw [a3.out];exact a5.out j hj
          clear he;go_wp2_with fail;have C0:=Zl y0;have C1:=Zl y1;have C2:=Zl y2;have D1:=Zl c1;have D2:=Zl c2;clear y0 y1 y2 c1 c2;refine Zn 11 [0,1,2,3,4,5,6,7,8,9,10] (by kernel_rfl) (by kernel_rfl) ?_;repeat ((first|(first|refine Zb (v:=?_) rfl rfl rfl ?_ ?_ |refine Zd (v:=?_) rfl rfl rfl ?_ ?_);rotate_left;·(intro _ _;go_simp;(try go_bits);(try with_reducible rfl))|refine Ze rfl rfl rfl ?_);(try simp only [py]))
          refine Zv ?_;clear C0 C1 C2 D1 D2;go_wp2;go_roundw
          case rel=>exact ⟨b+1,by omega,by go_num,T,ah,ai,by first | exact ak.out | exact a5.out⟩
          case measure=>simp [intOf];omega
        ·obtain rfl:a=b:=by omega
         have al:Hid (∀i,i < a+1→∀j,j < i→s.at_ i≠s.at_ j):=JZ fun i hi j hj=>by
          rcases JX i a with h | h
          ·exact HG.out i h j hj
          ·obtain rfl:i=a:=by omega
           exact C.out j hj
         go_wp2;go_roundw
         case rel=>exact ⟨a+1,by omega,by go_num,d,hX,hS,al.out⟩
         case measure=>simp [intOf];omega
      ·obtain rfl:nb=a:=by omega
       have E:Hid (Zyp p s):=JZ fun i hi=>by rw [← l.out] at hi;exact HG.out i hi
       have am:=JZ (Yca m.out x.out);obtain ⟨x0,x1,x2⟩:=hX.three;obtain ⟨y0,y1,y2⟩:=hS.three;clear HG;go_wp2_with fail;refine (Zff _ _ p s K _ (Y.out.below d) (Z.out.below d) v.out am.out).mono ?_;rintro _ w5 ⟨v5,rfl,e5,S⟩;have a6:=hX.later S;have a7:=hS.later S;have G:=Za d S d.size;have N:=e5.frs;clear x0 x1 x2 y0 y1 y2 hX hS d S e5
       cases hzk:zOk p s with
       | false=>
        have HR:=JZ (Yby m.out r.out x.out E.out hzk);go_wp2;go_ret;exact ⟨Yn HR.out,G⟩
       | true=>
        have H:=JZ hzk;have a8:Hid ((zL p s).length=nb):=JZ (by rw [Ymz hzk,l.out]);obtain ⟨Az,cz,rfl,av,ba⟩:=N.shape;rw [a8.out] at av N ⊢;clear hzk;go_wp2
        go_loopw [13] (fun i wr=>∃k:Nat,k≤nb∧i= .int .i64 k∧Below w.heap.size w wr∧Bk wr w.heap.size 26 [.slice A n c,.slice A' n' c',.slice I nb J]∧Bk wr (w.heap.size+1) 29 [.int .i64 s.phase,.slice Ab nb cb,.int .i64 s.pivots]∧Y1 wr (.slice Az nb cz) (zL p s)∧∀i,i < k→¬qAt (zL p s) i < 0) (fun i _=>nb - (intOf i).toNat)
        case atStart=>exact ⟨0,by omega,rfl,G,a6,a7,N,fun i hi=>by omega⟩
        case round=>
         clear G a6 a7 N;obtain ⟨k,hk,rfl,d,hX,hS,hz,hg⟩:=hrel;have HG:=JZ hg;clear hg;rcases JX k nb with hkl | hkl
         ·have o:=Yoh H.out (show k < p.right.length by rw [← l.out];exact hkl);obtain ⟨b',ax,B1,n1,k1,B2,n2,k2,rfl,bc,⟨q0,q1,q2,q3⟩,ab⟩:=hz.elem (JR _ _) o;have an:=a1.out k _ o;have ag:(k:Int) < nb:=(by omega);generalize hq:qAt (zL p s) k=q at *;have HQ:=JZ hq;clear hq o;go_wp2_with fail;refine (Z4 _ (canF q) _ ab an).mono ?_;rw [Zr];rintro _ w7 ⟨rfl,y⟩;have ao:=hX.later y;have ap:=hS.later y;have aq:=hz.below y;have t:=Za d y d.size;clear q0 q1 q2 q3 ab hX hS hz d y;rcases Int.lt_or_le (qs q) 0 with hqs | hqs
          ·have HR:Hid (vsErr p s=16):=JZ (Ybz m.out r.out x.out E.out H.out fun hp=>hp k (by rw [← l.out];exact hkl) (by rw [HQ.out];exact Wj.1 hqs));go_wp2;go_ret;exact ⟨Yn HR.out,t⟩
          ·have C:Hid (∀i,i < k+1→¬qAt (zL p s) i < 0):=JZ fun i hi=>by
            rcases JX i k with h | h
            ·exact HG.out i h
            ·obtain rfl:i=k:=by omega
             rw [HQ.out];intro h9;have:=Wj.2 h9;omega
           go_wp2;go_roundw
           case rel=>exact ⟨k+1,by omega,by go_num,t,ao,ap,aq,C.out⟩
           case measure=>simp [intOf];omega
         ·obtain rfl:nb=k:=by omega
          have X:Hid (Ydg p s):=JZ fun i hi=>by rw [← l.out] at hi;exact HG.out i hi
          obtain ⟨y0,y1,y2⟩:=hS.three;clear HG;by_cases u:s.phase=2
          ·have a9:(s.phase==2)=true:=(by simpa using u);have ar:=JZ u;clear u;go_wp2_with fail;refine (Zah _ _ s (zL p s) _ (Z.out.below d) hz (by rw [a8.out,m.out,l.out];exact JY _) a1.out).mono ?_;rintro _ w7 ⟨rfl,y⟩;have t:=Za d y d.size
           cases ha:UE s (zL p s) (zL p s).length with
           | true=>
            have HR:=JZ (Yhs m.out r.out x.out E.out H.out X.out ⟨ar.out,ha⟩);clear ha;go_wp2;go_ret;exact ⟨Yn HR.out,t⟩
           | false=>
            have HR:=JZ (Yga m.out r.out x.out E.out H.out X.out (fun h=>by rw [ha] at h;exact absurd h.2 (by decide)));clear ha;go_wp2;go_ret;exact ⟨Yn HR.out,t⟩
          ·have a9:(s.phase==2)=false:=(by simpa using u);have HR:=JZ (Yga m.out r.out x.out E.out H.out X.out (fun h=>u h.1));clear u;go_wp2;go_ret;exact ⟨Yn HR.out,d⟩
 ·have HR:Hid (vsErr p s=12):=JZ (Yhq (by rw [← a0.out,← l.out];exact hl));have b6:((nb:Int) !=(O:Int))=true:=by simp;omega
  go_wp2;go_ret;exact ⟨Yn HR.out,g⟩
end
namespace Pl
def YI (f:Nat→Rat):Nat→Nat→Option Nat
 | _,0=>none
 | r,n+1=>if f r < 0 then some r else YI f (r+1) n
theorem Vg {f:Nat→Rat}:∀{n r:Nat},(∀i,r≤i→i < r+n→¬f i < 0)→YI f r n=none
 | 0,_,_=>rfl
 | n+1,r,h=>by
  unfold YI
  rw [if_neg (h r (JY _) (by omega))]
  exact Vg fun i h1 h2=>h i (by omega) (by omega)
theorem Vh {f:Nat→Rat}:∀{n r t:Nat},r≤t→t < r+n→f t < 0→(∀i,r≤i→i < t→¬f i < 0)→YI f r n=some t
 | 0,r,t,h1,h2,_,_=>by omega
 | n+1,r,t,h1,h2,h3,h4=>by
  unfold YI
  rcases Nat.eq_or_lt_of_le h1 with e | e
  ·subst e;rw [if_pos h3]
  ·rw [if_neg (h4 r (JY _) e)]
   exact Vh (by omega) (by omega) h3 fun i h5 h6=>h4 i (by omega) h6
theorem YM {f:Nat→Rat}:∀{n r t:Nat},YI f r n=some t→r≤t∧t < r+n∧f t < 0∧∀i,r≤i→i < t→¬f i < 0
 | 0,_,_,h=>by cases h
 | n+1,r,t,h=>by
  unfold YI at h
  split at h
  ·injection h with h;subst h;exact ⟨JY _,by omega,by assumption,fun i h1 h2=>by omega⟩
  ·rename_i h0
   obtain ⟨h1,h2,h3,h4⟩:=YM h
   refine ⟨by omega,by omega,h3,fun i h5 h6=>?_⟩
   rcases Nat.eq_or_lt_of_le h5 with e | e
   ·subst e;exact h0
   ·exact h4 i (by omega) h6
def Zle (p:LPd) (s:LSt):Option Nat:=YI (fun j=>Wy p s (j:Int)) 0 p.cols.length
def dirL (p:LPd) (s:LSt) (j:Int):List RF:=Zjy p.right.length (s.mat p) (qAt (ZQ p.right.length (p.col j)))
def YN (s:LSt) (d:List RF):Nat→Bool
 | 0=>decide (s.phase=2)
 | k+1=>if 0 < qAt d k∨(s.at_ k < 0∧qAt d k≠0) then false else YN s d k
def Yh (p:LPd) (s:LSt):Int:=match Zle p s with | some j=>(if YN s (dirL p s (j:Int)) (dirL p s (j:Int)).length then 3 else 0) | none=>if s.phase=1 then 2 else 1
def UJ (p:LPd) (s:LSt):Int:=match Zle p s with | some j=>(j:Int) | none=> -1
def WS (p:LPd) (s:LSt):List RF:=match Zle p s with | some j=>dirL p s (j:Int) | none=>[]
theorem Xb {p:LPd} {s:LSt} {j:Nat} (h:Zle p s=some j):Yh p s=(if YN s (dirL p s (j:Int)) (dirL p s (j:Int)).length then 3 else 0)∧UJ p s=(j:Int)∧WS p s=dirL p s (j:Int):=by unfold Yh UJ WS;rw [h];exact ⟨rfl,rfl,rfl⟩
theorem XQ {p:LPd} {s:LSt} (h:Zle p s=none):Yh p s=(if s.phase=1 then 2 else 1)∧UJ p s= -1∧WS p s=[]:=by unfold Yh UJ WS;rw [h];exact ⟨rfl,rfl,rfl⟩
theorem Zvl {p:LPd} {K:Nat} (F:p.Fit K) (s:LSt) (j:Int):RsL (5^p.right.length * K) (dirL p s j):=Ybi (fun _ _ _ _=>LPd.Sz_col F.ok F.k1 _ _) fun r hr=>by rw [Yr hr];exact LPd.Sz_col F.ok F.k1 _ _
end Pl
theorem Zsx (v1 v2:Value) (p:LPd) (s:LSt) (K:Nat) (w:World) (h:LpM w v1 p) (h2:StM w v2 s) (F:p.Fit K) (S:s.Fit p):
 Calls Tryz.prog 41 #[v1,v2] w fun e w'=>∃v',e= .returned (.tuple #[.int .i64 (Yh p s),.int .i64 (UJ p s),v'])∧ZU w.heap.size w' v' (WS p s)∧Below w.heap.size w w':=by
 obtain ⟨A,n,c,A',n',c',ac,ad,ae,rfl,hc,hv,hr⟩:=id h;obtain ⟨Ab,nb,cb,rfl,hI⟩:=id h2;obtain ⟨W,hW,ax,L⟩:=Yc w (.slice A n c) (.slice A' n' c') (.slice ac ad ae);obtain ⟨W1,bn,t,M⟩:=YT W (.int .i64 s.phase) (.slice Ab nb cb) (.int .i64 s.pivots);have hX:=ax.later M;have a:=Za L M L.size;obtain ⟨b1,b2,b3⟩:=hI.len;have b5:W.heap.size=w.heap.size+1:=by rw [← hW];simp
 rw [b5] at t;have a8:=JZ h;have ag:=JZ h2;have HI:=JZ hI;have d:=JZ F;have a9:=JZ S;have b6:=JZ b1;have ah:Hid (nb=p.right.length):=JZ (by rw [b1];exact S.2);have bt:nb≤64:=by rw [ah.out];exact F.2.2.1
 obtain ⟨x0,x1,x2⟩:=hX.three;obtain ⟨y0,y1,y2⟩:=t.three;obtain ⟨m1,m2,m3⟩:=hv.len;have R:=JZ m1;clear h h2 hc hv hr b1 hI ax L M F S;clear m1;have bu:n'≤1200:=by rw [R.out];exact d.out.cols
 have b7:Hid (s.basis.length≤1000):=JZ (by rw [← b6.out];omega);have b8:Hid (p.right.length≤1000):=JZ (by have:=d.out.rows;omega);have ai:Hid (130 * (5^p.right.length * K)+200≤8589934592):=JZ d.out.2.2.2.2.2.2;go_enter Tryz.func41,Tryz.ntmps41;go_wp2_with fail;clear hW bn;refine (Zqa _ _ p s K _ (a8.out.below a) (ag.out.below a) d.out a9.out).mono ?_;unfold Yog;rw [← R.out];rintro _ w3 ⟨v3,rfl,e3,a0⟩;have aj:=hX.later a0;have ak:=t.later a0;have a1:=Za a a0 a.size;have T:=e3.frs;obtain ⟨Ar,cr,rfl,bp,c0⟩:=T.shape;rw [Zc] at bp T ⊢;clear e3 a0 hX t x0 x1 x2 y0 y1 y2 a;go_wp2
 go_loopw [8] (fun i wr=>∃j:Nat,j≤n'∧i= .int .i64 j∧Below w.heap.size w wr∧Bk wr w.heap.size 26 [.slice A n c,.slice A' n' c',.slice ac ad ae]∧Bk wr (w.heap.size+1) 29 [.int .i64 s.phase,.slice Ab nb cb,.int .i64 s.pivots]∧Y1 wr (.slice Ar n' cr) (ZQ n' fun j=>Wy p s (j:Int))∧∀i:Nat,i < j→¬Wy p s (i:Int) < 0) (fun i _=>n' - (intOf i).toNat)
 case atStart=>exact ⟨0,by omega,rfl,a1,aj,ak,T,fun i hi=>by omega⟩
 case round=>
  clear a1 aj ak T;obtain ⟨j,hj,rfl,a,hX,hS,hR,hg⟩:=hrel;have HG:=JZ hg;clear hg;rcases JX j n' with hjl | hjl
  ·have a2:=ZE (f:=fun j:Nat=>Wy p s (j:Int)) hjl;obtain ⟨b',ay,B1,n1,k1,B2,n2,k2,rfl,bq,⟨q0,q1,q2,q3⟩,B⟩:=hR.elem (JR _ _) a2;have U:(canF (Wy p s (j:Int))).Sh:=(Ymy d.out s (j:Int)).sh (by have:=ai.out;omega);have al:Hid ((j:Int) < p.cols.length):=JZ (by rw [← R.out];omega);have bv:(j:Int) < n':=(by omega);generalize hq:Wy p s (j:Int)=q at *;have HQ:=JZ hq;clear hq a2;go_wp2_with fail;refine (Z4 _ (canF q) _ B U).mono ?_;rw [Zr];rintro _ w4 ⟨rfl,O⟩;have V:=hX.later O;have X:=hS.later O;have am:=hR.below O;have E:=Za a O a.size;clear q0 q1 q2 q3 B hX hS hR a O;rcases Int.lt_or_le (qs q) 0 with hqs | hqs
   ·have b9:Hid (Zle p s=some j):=JZ (Vh (Nat.zero_le _) (by have:=al.out;omega) (by show Wy p s (j:Int) < 0;rw [HQ.out];exact Wj.1 hqs) fun i _ hi=>HG.out i hi);have ba:Hid (RsL K (ZQ p.right.length (p.col (j:Int)))):=JZ (Vv fun i _=>LPd.Sz_col d.out.ok d.out.k1 _ _);have bc:Hid ((ZQ p.right.length (p.col (j:Int))).length=p.right.length):=JZ (Zc _ _);obtain ⟨x0,x1,x2⟩:=V.three;obtain ⟨y0,y1,y2⟩:=X.three;have a:=E;clear E am HG HQ;go_wp2_with fail;have C0:=Zl x0;have C1:=Zl x1;have C2:=Zl x2;have D0:=Zl y0;have D1:=Zl y1;have D2:=Zl y2;have t:=Zj w4;clear x0 x1 x2 y0 y1 y2;refine Zn 12 [0,1,3,4,2,5,6,7,8,9,10,11] (by kernel_rfl) (by kernel_rfl) ?_;repeat ((first|(first|refine Zb (v:=?_) rfl rfl rfl ?_ ?_ |refine Zd (v:=?_) rfl rfl rfl ?_ ?_);rotate_left;·(intro _ _;go_simp;(try go_bits);(try with_reducible rfl))|refine Ze rfl rfl rfl ?_);(try simp only [py]))
    refine Zf rfl rfl (fun _ kq=>?_);go_simp;(with_reducible refine (Zch _ _ p s K _ ((a8.out.below a).below t) ((ag.out.below a).below t) d.out.ok d.out.kb d.out.in_ a9.out.in_ d.out.rows b7.out).mono ?_);rw [a9.out.len];rintro _ w5 ⟨v5,rfl,e5,az⟩;have G:=Za t az t.size;refine kq.out _ _ (.inr G) ?_;clear kq;(try simp only [py]);repeat ((first|(first|refine Zb (v:=?_) rfl rfl rfl ?_ ?_ |refine Zd (v:=?_) rfl rfl rfl ?_ ?_);rotate_left;·(intro _ _;go_simp;(try go_bits);(try with_reducible rfl))|refine Ze rfl rfl rfl ?_);(try simp only [py]))
    refine Zf rfl rfl (fun _ kq=>?_);go_simp;(with_reducible refine (Zcg _ p K (j:Int) _ ((a8.out.below a).below G) d.out.ok d.out.kb d.out.in_ (by omega) al.out d.out.rows).mono ?_);rintro _ w6 ⟨v6,rfl,e6,af⟩;have H:=Za G af G.size;have an:=e5.below af;have ao:=e6.frs;clear e5 e6;refine kq.out _ _ (.inr H) ?_;clear kq;(try simp only [py]);repeat ((first|(first|refine Zb (v:=?_) rfl rfl rfl ?_ ?_ |refine Zd (v:=?_) rfl rfl rfl ?_ ?_);rotate_left;·(intro _ _;go_simp;(try go_bits);(try with_reducible rfl))|refine Ze rfl rfl rfl ?_);(try simp only [py]))
    refine Zf rfl rfl (fun _ kq=>?_);go_simp;(with_reducible refine (Zfd _ _ p.right.length (s.mat p) (ZQ p.right.length (p.col (j:Int))) K _ an ao bc.out (fun r c _ _=>Ybh d.out s c r) ba.out d.out.k1 d.out.ks b8.out).mono ?_);rintro _ w7 ⟨v7,rfl,e7,b0⟩;have I:=Za H b0 H.size;refine kq.out _ _ (.inr I) ?_;clear kq;(try simp only [py]);repeat ((first|(first|refine Zb (v:=?_) rfl rfl rfl ?_ ?_ |refine Zd (v:=?_) rfl rfl rfl ?_ ?_);rotate_left;·(intro _ _;go_simp;(try go_bits);(try with_reducible rfl))|refine Ze rfl rfl rfl ?_);(try simp only [py]))
    refine Zv ?_;clear C0 C1 C2 D0 D1 D2;have ap:=V.later I;have aa:=X.later I;have a3:=Za a I a.size;have br:=H.size;have bw:=a.size;have ab:ZU w.heap.size w7 v7 (dirL p s (j:Int)):=(by obtain ⟨cs,ho,hf⟩:=e7;exact ⟨cs,Y4 ho (by omega),hf⟩);have bd:=JZ (Zvl d.out s (j:Int));obtain ⟨g,l,m⟩:=Xb b9.out;have a4:=JZ g;have u:=JZ l;have v:=JZ m;have be:Hid ((dirL p s (j:Int)).length≤nb):=JZ (by rw [ah.out];exact Zgt);clear e7 an ao V X t G H I az af b0 a g l m;generalize dirL p s (j:Int)=D at *;obtain ⟨Ad,cd,rfl,c2,c3⟩:=ab.frs.shape;generalize b4:D.length=N at *;have bf:=JZ b4;have bx:N≤nb:=be.out;clear b4;obtain ⟨y0,y1,y2⟩:=aa.three;have a5:decide (s.phase=2)=YN s D 0:=rfl;go_wp2;clear y0 y1 y2
    go_loopw [11,12] (fun b i wx=>∃k:Nat,k≤N∧i= .int .i64 k∧b= .bool (YN s D k)∧Below w.heap.size w wx∧Bk wx w.heap.size 26 [.slice A n c,.slice A' n' c',.slice ac ad ae]∧Bk wx (w.heap.size+1) 29 [.int .i64 s.phase,.slice Ab nb cb,.int .i64 s.pivots]∧ZU w.heap.size wx (.slice Ad N cd) D) (fun _ i _=>N - (intOf i).toNat)
    case atStart=>exact ⟨0,by omega,rfl,by rw [← a5];congr 1,a3,ap,aa,ab⟩
    case round=>
     clear a3 ap aa ab a5;obtain ⟨k,hk,rfl,rfl,a,hX,hS,hD⟩:=hrel;rcases JX k N with hkl | hkl
     ·obtain ⟨f,hf⟩:=ZH (fs:=D) (i:=k) (by rw [bf.out];exact hkl);obtain ⟨b',ay,B1,n1,k1,B2,n2,k2,rfl,bq,⟨q0,q1,q2,q3⟩,B⟩:=hD.frs.elem (JR _ _) hf;have U:f.Sh:=(bd.out k f hf).sh (by have:=ai.out;omega);obtain ⟨bb,bo,rfl,a7⟩:=(HI.out.below a).all (show 0 < nb by omega);have c1:wr.cell? ⟨bb,bo+k,none⟩=some (.int .i64 (s.at_ k)):=a7 k (by omega);obtain ⟨y0,y1,y2⟩:=hS.three;have HQ:=JZ (ZF hf);have bz:(k:Int) < N:=(by omega);have bs:(k:Int) < nb:=(by omega);generalize hz:s.at_ k=z at *;have HZ:=JZ hz;clear hf a7 hz;go_wp2_with fail;refine (Z4 _ f _ B U).mono ?_;rintro _ w8 ⟨rfl,o⟩;have Y:=hX.later o;have J:=hS.later o;have Z:=hD.below o;have x:=Za a o a.size;have aq:=B.below o;have bg:=cell_later o c1;have bh:=cell_later o q0;have bi:=cell_later o q1;have bj:=cell_later o q2;have bk:=cell_later o q3;obtain ⟨z0,z1,z2⟩:=J.three;clear q0 q1 q2 q3 B c1 y0 y1 y2 hX hS hD a o;rcases Int.lt_or_le 0 (qs f.q) with hp | hp
      ·have y:Hid (YN s D (k+1)=false):=JZ (by unfold YN;rw [if_pos (.inl (by rw [HQ.out];exact Wl.1 hp))]);go_wp2;go_roundw
       case rel=>exact ⟨k+1,by omega,by go_num,by rw [y.out],x,Y,J,Z⟩
       case measure=>simp [intOf];omega
      ·rcases Int.lt_or_le z 0 with hz0 | hz0
       ·go_wp2_with fail;refine (Z4 _ f _ aq U).mono ?_;rintro _ w9 ⟨rfl,P⟩;have ar:=Y.later P;have au:=J.later P;have av:=Z.below P;have a6:=Za x P x.size;clear Y J Z x P bg bh bi bj bk z0 z1 z2 aq;by_cases C:f.q=0
        ·have aw:(qs f.q !=0)=false:=(by rw [C];decide);have y:Hid (YN s D (k+1)=YN s D k):=JZ (by rw [YN,if_neg (by rw [HQ.out,C];intro h;rcases h with h | h;exact absurd h (by decide);exact h.2 rfl)]);clear C;go_wp2;go_roundw
         case rel=>exact ⟨k+1,by omega,by go_num,by rw [y.out],a6,ar,au,av⟩
         case measure=>simp [intOf];omega
        ·have aw:(qs f.q !=0)=true:=(by simpa using fun e=>C (Z5.1 e));have y:Hid (YN s D (k+1)=false):=JZ (by unfold YN;rw [if_pos (.inr ⟨by rw [HZ.out];exact hz0,by rw [HQ.out];exact C⟩)]);clear C;go_wp2;go_roundw
         case rel=>exact ⟨k+1,by omega,by go_num,by rw [y.out],a6,ar,au,av⟩
         case measure=>simp [intOf];omega
       ·have y:Hid (YN s D (k+1)=YN s D k):=JZ (by rw [YN,if_neg (by rw [HQ.out,HZ.out];intro h;rcases h with h | h;have:=Wl.2 h;omega;omega)]);go_wp2;go_roundw
        case rel=>exact ⟨k+1,by omega,by go_num,by rw [y.out],x,Y,J,Z⟩
        case measure=>simp [intOf];omega
     ·obtain rfl:N=k:=by omega
      cases hsk:YN s D N with
      | true=>
       have HR:Hid (Yh p s=3):=JZ (by rw [a4.out,hsk];rfl);go_wp2;(try simp only [Exit.inBlock,Exit.then]);refine bodyPost_ret (results_tmp3 rfl _ _ _) rfl ?_;exact ⟨_,by rw [HR.out,u.out];rfl,by rw [v.out];exact hD,a⟩
      | false=>
       have HR:Hid (Yh p s=0):=JZ (by rw [a4.out,hsk];rfl);go_wp2;(try simp only [Exit.inBlock,Exit.then]);refine bodyPost_ret (results_tmp3 rfl _ _ _) rfl ?_;exact ⟨_,by rw [HR.out,u.out];rfl,by rw [v.out];exact hD,a⟩
   ·have bl:Hid (∀i:Nat,i < j+1→¬Wy p s (i:Int) < 0):=JZ fun i hi=>by
     rcases JX i j with h | h
     ·exact HG.out i h
     ·obtain rfl:i=j:=by omega
      rw [HQ.out];intro h9;have:=Wj.2 h9;omega
    go_wp2;go_roundw
    case rel=>exact ⟨j+1,by omega,by go_num,E,V,X,am,bl.out⟩
    case measure=>simp [intOf];omega
  ·obtain rfl:n'=j:=by omega
   obtain ⟨g,l,m⟩:=XQ (p:=p) (s:=s) (Vg fun i _ hi=>HG.out i (by rw [R.out];omega));obtain ⟨y0,y1,y2⟩:=hS.three;by_cases hp:s.phase=1
   ·have bm:(s.phase==1)=true:=(by simpa using hp);have HR:Hid (Yh p s=2):=JZ (by rw [g,if_pos hp]);have u:=JZ l;have v:=JZ m;clear g l m hp;go_wp2;(try simp only [Exit.inBlock,Exit.then]);refine bodyPost_ret (results_tmp3 rfl _ _ _) rfl ?_;exact ⟨_,by rw [HR.out,u.out];rfl,by rw [v.out];exact ZU.nil _ _,a⟩
   ·have bm:(s.phase==1)=false:=(by simpa using hp);have HR:Hid (Yh p s=1):=JZ (by rw [g,if_neg hp]);have u:=JZ l;have v:=JZ m;clear g l m hp;go_wp2;(try simp only [Exit.inBlock,Exit.then]);refine bodyPost_ret (results_tmp3 rfl _ _ _) rfl ?_;exact ⟨_,by rw [HR.out,u.out];rfl,by rw [v.out];exact ZU.nil _ _,a⟩
namespace Pl
def WC (Z D:List RF) (i:Nat):Rat:=qAt Z i / qAt D i
def better (p:LPd) (s:LSt) (Z D:List RF) (i b:Nat):Prop:=WC Z D i < WC Z D b∨(WC Z D i=WC Z D b∧Zqv p (s.at_ i) < Zqv p (s.at_ b))
instance (p:LPd) (s:LSt) (Z D:List RF) (i b:Nat):Decidable (better p s Z D i b):=by unfold better;infer_instance
def XN (p:LPd) (s:LSt) (Z D:List RF):Nat→Option Nat
 | 0=>none
 | k+1=>if 0 < qAt D k then (match XN p s Z D k with | none=>some k | some b=>if better p s Z D k b then some k else some b) else XN p s Z D k
theorem Xp {p:LPd} {s:LSt} {Z D:List RF} {k:Nat} (h:¬0 < qAt D k):XN p s Z D (k+1)=XN p s Z D k:=by rw [XN,if_neg h]
theorem XJ {p:LPd} {s:LSt} {Z D:List RF} {k:Nat} (hb:XN p s Z D k=none) (h:0 < qAt D k):XN p s Z D (k+1)=some k:=by rw [XN,if_pos h,hb]
theorem YK {p:LPd} {s:LSt} {Z D:List RF} {k t:Nat} (hb:XN p s Z D k=some t) (h:0 < qAt D k) (g:better p s Z D k t):XN p s Z D (k+1)=some k:=by rw [XN,if_pos h,hb];simp only;rw [if_pos g]
theorem Y5 {p:LPd} {s:LSt} {Z D:List RF} {k t:Nat} (hb:XN p s Z D k=some t) (h:0 < qAt D k) (g:¬better p s Z D k t):XN p s Z D (k+1)=some t:=by rw [XN,if_pos h,hb];simp only;rw [if_neg g]
theorem VP {p:LPd} {s:LSt} {Z D:List RF}:∀{k t:Nat},XN p s Z D k=some t→t < k∧0 < qAt D t
 | 0,t,h=>by cases h
 | k+1,t,h=>by
  by_cases h0:0 < qAt D k
  ·cases hb:XN p s Z D k with
   | none=>rw [XJ hb h0] at h;injection h with h;subst h;exact ⟨by omega,h0⟩
   | some b=>
    obtain ⟨h1,h2⟩:=VP hb
    by_cases g:better p s Z D k b
    ·rw [YK hb h0 g] at h;injection h with h;subst h;exact ⟨by omega,h0⟩
    ·rw [Y5 hb h0 g] at h;injection h with h;subst h;exact ⟨by omega,h2⟩
  ·rw [Xp h0] at h
   obtain ⟨h1,h2⟩:=VP h
   exact ⟨by omega,h2⟩
def oi:Option Nat→Int
 | none=> -1
 | some b=>(b:Int)
def Zqy (s:LSt) (D:List RF) (i:Nat):Rat:=if s.at_ i < 0∧qAt D i≠0 then -1 else 0
theorem Zng {s:LSt} {D:List RF} {i:Nat} (h1:s.at_ i < 0) (h2:qAt D i≠0):Zqy s D i < 0:=by unfold Zqy;rw [if_pos ⟨h1,h2⟩];decide
theorem Yce {s:LSt} {D:List RF} {i:Nat} (h:¬(s.at_ i < 0∧qAt D i≠0)):¬Zqy s D i < 0:=by unfold Zqy;rw [if_neg h];decide
def WV (p:LPd) (s:LSt) (Z D:List RF):Option Nat:=if s.phase=2 then (match YI (Zqy s D) 0 D.length with | some i=>some i | none=>XN p s Z D D.length) else XN p s Z D D.length
theorem Zje {p:LPd} {s:LSt} {Z D:List RF} (h:¬s.phase=2):WV p s Z D=XN p s Z D D.length:=by unfold WV;rw [if_neg h]
theorem Zjf {p:LPd} {s:LSt} {Z D:List RF} (h:s.phase=2) {i:Nat} (hf:YI (Zqy s D) 0 D.length=some i):WV p s Z D=some i:=by unfold WV;rw [if_pos h,hf]
theorem Zjg {p:LPd} {s:LSt} {Z D:List RF} (h:s.phase=2) (hf:YI (Zqy s D) 0 D.length=none):WV p s Z D=XN p s Z D D.length:=by unfold WV;rw [if_pos h,hf]
theorem Znh {p:LPd} {s:LSt} {Z D:List RF} {i:Nat} (h:WV p s Z D=some i):i < D.length:=by
 by_cases hp:s.phase=2
 ·cases hf:YI (Zqy s D) 0 D.length with
  | some j=>rw [Zjf hp hf] at h;injection h with h;subst h;have:=YM hf;omega
  | none=>rw [Zjg hp hf] at h;exact (VP h).1
 ·rw [Zje hp] at h;exact (VP h).1
def Xf (p:LPd) (s:LSt) (Z D:List RF) (k:Nat) (z:Int):Prop:=(z= -1∧XN p s Z D k=none)∨∃t:Nat,z=(t:Int)∧t < k∧XN p s Z D k=some t
theorem Xf.oi {p:LPd} {s:LSt} {Z D:List RF} {k:Nat} {z:Int} (h:Xf p s Z D k z):oi (XN p s Z D k)=z:=by
 rcases h with ⟨rfl,h⟩ | ⟨t,rfl,_,h⟩ <;> rw [h] <;> rfl
theorem at_range {p:LPd} {s:LSt} {K:Nat} (S:s.Fit p) (F:p.Fit K) (i:Nat): -1000000≤s.at_ i∧s.at_ i≤1000000:=by
 have h1:=F.rows;have h2:=F.cols;rcases JX i s.basis.length with h | h
 ·have h3:=S.in_ i _ (JQ h);rw [LSt.at_eq (JQ h)];omega
 ·have:s.at_ i=0:=by unfold LSt.at_;simp [List.getD,JU h]
  omega
end Pl
theorem Y1.elem2 {w wr:World} {A:Option Addr} {n c:Nat} {fs:List RF} (h:Y1 w (.slice A n c) fs) (hb:Below w.heap.size w wr) {k l:Nat} {f g:RF} (hf:fs[k]? =some f) (hg:fs[l]? =some g):
 ∃b off A1 n1 c1 A2 n2 c2 A3 n3 c3 A4 n4 c4,A=some ⟨b,off,none⟩∧(wr.cell? ⟨b,off+k * 4,none⟩=some (.bool f.num.neg)∧wr.cell? ⟨b,off+k * 4+1,none⟩=some (.slice A1 n1 c1)∧wr.cell? ⟨b,off+k * 4+2,none⟩=some (.bool f.den.neg)∧wr.cell? ⟨b,off+k * 4+3,none⟩=some (.slice A2 n2 c2))∧
  Zw wr (.agg #[.bool f.num.neg,.slice A1 n1 c1,.bool f.den.neg,.slice A2 n2 c2]) f∧(wr.cell? ⟨b,off+l * 4,none⟩=some (.bool g.num.neg)∧wr.cell? ⟨b,off+l * 4+1,none⟩=some (.slice A3 n3 c3)∧wr.cell? ⟨b,off+l * 4+2,none⟩=some (.bool g.den.neg)∧wr.cell? ⟨b,off+l * 4+3,none⟩=some (.slice A4 n4 c4))∧
  Zw wr (.agg #[.bool g.num.neg,.slice A3 n3 c3,.bool g.den.neg,.slice A4 n4 c4]) g:=by
 obtain ⟨b,off,A1,n1,c1,A2,n2,c2,hA,_,q,hm⟩:=h.elem hb hf;obtain ⟨b',i,A3,n3,c3,A4,n4,c4,a,_,q',d⟩:=h.elem hb hg;rw [hA] at a;injection a with e;injection e with e1 e2 e3;subst e1 e2;exact ⟨b,off,A1,n1,c1,A2,n2,c2,A3,n3,c3,A4,n4,c4,hA,q,hm,q',d⟩
theorem cell_below {w w':World} {b i:Nat} {v:Value} (h:w.cell? ⟨b,i,none⟩=some v) (hb:Below w.heap.size w w'):w'.cell? ⟨b,i,none⟩=some v:=Zk hb h
theorem Zya (v1 v2 v3 v4:Value) (p:LPd) (s:LSt) (Z D:List RF) (K:Nat) (w:World) (h:LpM w v1 p) (h2:StM w v2 s) (h3:Y1 w v3 Z) (h4:Y1 w v4 D) (F:p.Fit K) (S:s.Fit p) (hzl:D.length≤Z.length) (hdl:D.length≤p.right.length) (hkz:RsL (5^p.right.length * K) Z) (hkd:RsL (5^p.right.length * K) D) (hN0:D=[]):
 Calls Tryz.prog 70 #[v1,v2,v3,v4] w fun e w'=>e= .returned (.int .i64 (oi (WV p s Z D)))∧Below w.heap.size w w':=by
 obtain ⟨A,n,c,A',n',c',t,u,v,rfl,hc,hv,hr⟩:=id h;obtain ⟨Ab,nb,cb,rfl,hI⟩:=id h2;obtain ⟨W,hW,l,d⟩:=Yc w (.slice A n c) (.slice A' n' c') (.slice t u v);obtain ⟨W1,x,j,f⟩:=YT W (.int .i64 s.phase) (.slice Ab nb cb) (.int .i64 s.pivots);have hX:=l.later f;have a:=Za d f d.size;obtain ⟨b1,b2,b3⟩:=hI.len;have o:W.heap.size=w.heap.size+1:=by rw [← hW];simp
 rw [o] at j;have y:=JZ h;have z:=JZ h2;have HI:=JZ hI;have g:=JZ F;have B:=JZ S;have C:=JZ b1;have k:Hid (nb=p.right.length):=JZ (by rw [b1];exact S.2);have E:nb≤64:=by rw [k.out];exact F.2.2.1
 obtain ⟨x0,x1,x2⟩:=hX.three;obtain ⟨y0,y1,y2⟩:=j.three;clear h h2 hc hv hr b1 hI l d f F S;obtain ⟨Az,cz,rfl,P,R⟩:=h3.shape;obtain ⟨Ad,cd,rfl,T,U⟩:=h4.shape;have H3:=JZ h3;have H4:=JZ h4;have G:=JZ hkz;have H:=JZ hkd;have I:Hid (5^p.right.length * K≤34359738368):=JZ (by have:=g.out.ks;omega);have J:Hid (1≤5^p.right.length * K):=JZ (JW g.out.k1 g.out.le);have L:Hid (5^p.right.length * K+5^p.right.length * K≤8589934592):=JZ (by have:=g.out.2.2.2.2.2.2;omega);have M:Hid (D.length≤Z.length):=JZ hzl;have hdl:D.length≤nb:=by rw [k.out];exact hdl
 generalize m:Z.length=LZ at *;have O:=JZ m;generalize hN:D.length=N at *;have q:=JZ hN;clear h3 h4 hkz hkd m hN;have r:=JZ hN0;have hN:N=0:=by rw [← q.out,hN0];rfl
 have HR:Hid (oi (WV p s Z D)= -1):=JZ (by rw [r.out];unfold WV;split <;> rfl);subst hN;clear hN0 hdl;go_enter Tryz.func70,Tryz.ntmps70;go_wp2;clear hW x
 go_loopw [9] (fun i wr=>i= .int .i64 0∧Below w.heap.size w wr) (fun _ _=>0)
 case atStart=>exact ⟨rfl,a⟩
 case round=>
  clear a x0 x1 x2 y0 y1 y2 hX j;obtain ⟨rfl,a⟩:=hrel;go_wp2
  go_loopw [10,11] (fun b i wr=>b= .int .i64 (-1)∧i= .int .i64 0∧Below w.heap.size w wr) (fun _ _ _=>0)
  case atStart=>exact ⟨rfl,rfl,a⟩
  case round=>
   clear a;obtain ⟨rfl,rfl,a⟩:=hrel;go_wp2;go_ret;exact ⟨Yn HR.out,a⟩
theorem Zyb (v1 v2 v3 v4:Value) (p:LPd) (s:LSt) (Z D:List RF) (K:Nat) (w:World) (h:LpM w v1 p) (h2:StM w v2 s) (h3:Y1 w v3 Z) (h4:Y1 w v4 D) (F:p.Fit K) (S:s.Fit p) (hzl:D.length≤Z.length) (hdl:D.length≤p.right.length) (hkz:RsL (5^p.right.length * K) Z) (hkd:RsL (5^p.right.length * K) D) (hN0:0 < D.length) (hph:¬s.phase=2):
 Calls Tryz.prog 70 #[v1,v2,v3,v4] w fun e w'=>e= .returned (.int .i64 (oi (WV p s Z D)))∧Below w.heap.size w w':=by
 obtain ⟨A,n,c,A',n',c',a8,a9,aa,rfl,hc,hv,hr⟩:=id h;obtain ⟨Ab,nb,cb,rfl,hI⟩:=id h2;obtain ⟨W,hW,au,H⟩:=Yc w (.slice A n c) (.slice A' n' c') (.slice a8 a9 aa);obtain ⟨W1,bx,j,I⟩:=YT W (.int .i64 s.phase) (.slice Ab nb cb) (.int .i64 s.pivots);have hX:=au.later I;have d:=Za H I H.size;obtain ⟨b1,b2,b3⟩:=hI.len;have a2:W.heap.size=w.heap.size+1:=by rw [← hW];simp
 rw [a2] at j;have ac:=JZ h;have c0:=JZ h2;have HI:=JZ hI;have o:=JZ F;have ad:=JZ S;have c3:=JZ b1;have ae:Hid (nb=p.right.length):=JZ (by rw [b1];exact S.2);have c4:nb≤64:=by rw [ae.out];exact F.2.2.1
 obtain ⟨x0,x1,x2⟩:=hX.three;obtain ⟨y0,y1,y2⟩:=j.three;clear h h2 hc hv hr b1 hI au H I F S;obtain ⟨Az,cz,rfl,cg,ch⟩:=h3.shape;obtain ⟨Ad,cd,rfl,ci,cj⟩:=h4.shape;have H3:=JZ h3;have H4:=JZ h4;have L:=JZ hkz;have M:=JZ hkd;have O:Hid (5^p.right.length * K≤34359738368):=JZ (by have:=o.out.ks;omega);have P:Hid (1≤5^p.right.length * K):=JZ (JW o.out.k1 o.out.le);have af:Hid (5^p.right.length * K+5^p.right.length * K≤8589934592):=JZ (by have:=o.out.2.2.2.2.2.2;omega);have c5:Hid (D.length≤Z.length):=JZ hzl;have hdl:D.length≤nb:=by rw [ae.out];exact hdl
 generalize b5:Z.length=LZ at *;have R:=JZ b5;generalize hN:D.length=N at *;have a3:=JZ hN;clear h3 h4 hkz hkd b5 hN;have b9:=JZ (Zje (p:=p) (Z:=Z) (D:=D) hph);have bz:(s.phase==2)=false:=by simpa using hph
 have c6:0 < (N:Int):=by omega
 clear hph;go_enter Tryz.func70,Tryz.ntmps70;go_wp2;clear hW bx
 go_loopw [9] (fun i wr=>i= .int .i64 0∧Below w.heap.size w wr∧Bk wr w.heap.size 26 [.slice A n c,.slice A' n' c',.slice a8 a9 aa]∧Bk wr (w.heap.size+1) 29 [.int .i64 s.phase,.slice Ab nb cb,.int .i64 s.pivots]) (fun _ _=>0)
 case atStart=>exact ⟨rfl,d,hX,j⟩
 case round=>
  clear d hX j x0 x1 x2 y0 y1 y2;obtain ⟨rfl,d,hX,hS⟩:=hrel;obtain ⟨y0,y1,y2⟩:=hS.three;have a4:=y0;clear a4;go_wp2
  go_loopw [10,11] (fun b i wr=>∃(k:Nat) (z:Int),k≤N∧b= .int .i64 z∧i= .int .i64 k∧Below w.heap.size w wr∧Bk wr w.heap.size 26 [.slice A n c,.slice A' n' c',.slice a8 a9 aa]∧Bk wr (w.heap.size+1) 29 [.int .i64 s.phase,.slice Ab nb cb,.int .i64 s.pivots]∧Pl.Xf p s Z D k z) (fun _ i _=>N - (intOf i).toNat)
  case atStart=>exact ⟨0,-1,by omega,rfl,rfl,d,hX,hS,Or.inl ⟨rfl,rfl⟩⟩
  case round=>
   clear d hX hS;obtain ⟨k,z,hk,rfl,rfl,d,hX,hS,hB⟩:=hrel;rcases JX k N with hkl | hkl
   ·obtain ⟨f,hf⟩:=ZH (fs:=D) (i:=k) (by rw [a3.out];exact hkl);have c7:(k:Int) < N:=(by omega);have HQ:=JZ (ZF hf);have a5:f.Sh:=(M.out k f hf).sh O.out;rcases hB with ⟨rfl,hB⟩ | ⟨t,rfl,htk,hB⟩
    ·obtain ⟨b',av,B1,n1,k1,B2,n2,k2,rfl,ck,⟨q0,q1,q2,q3⟩,y⟩:=H4.out.elem d hf;have HB:=JZ hB;clear hB hf;go_wp2_with fail;refine (Z4 _ f _ y a5).mono ?_;rintro _ w5 ⟨rfl,a⟩;have u:=hX.later a;have v:=hS.later a;have m:=Za d a d.size;clear q0 q1 q2 q3 hX hS d a y;rcases Int.lt_or_le 0 (qs f.q) with hq | hq
     ·have HN:=JZ (XJ HB.out (by rw [HQ.out];exact Wl.1 hq));go_wp2;go_roundw
      case rel=>exact ⟨k+1,(k:Int),by omega,rfl,by go_num,m,u,v,Or.inr ⟨k,rfl,by omega,HN.out⟩⟩
      case measure=>simp [intOf];omega
     ·have HN:=JZ (Xp (p:=p) (s:=s) (Z:=Z) (D:=D) (k:=k) (by rw [HQ.out];intro e;have:=Wl.2 e;omega));go_wp2;go_roundw
      case rel=>exact ⟨k+1,-1,by omega,rfl,by go_num,m,u,v,Or.inl ⟨rfl,HN.out.trans HB.out⟩⟩
      case measure=>simp [intOf];omega
    ·obtain ⟨g,hg⟩:=ZH (fs:=D) (i:=t) (by rw [a3.out];omega);obtain ⟨fz,X⟩:=ZH (fs:=Z) (i:=k) (by rw [R.out];omega);obtain ⟨gz,Y⟩:=ZH (fs:=Z) (i:=t) (by rw [R.out];omega);have ba:g.Sh:=(M.out t g hg).sh O.out;have a2:fz.Sh:=(L.out k fz X).sh O.out;have bc:gz.Sh:=(L.out t gz Y).sh O.out;have bd:Hid (fz.q / f.q=WC Z D k):=JZ (by unfold WC;rw [ZF hf,ZF X]);have be:Hid (gz.q / g.q=WC Z D t):=JZ (by unfold WC;rw [ZF hg,ZF Y]);have bf:Hid (ShH (canF (WC Z D k))):=JZ (Sz.shH (Zdf (L.out.qAt P.out k) (M.out.qAt P.out k)) af.out);have ag:Hid (ShH (canF (WC Z D t))):=JZ (Sz.shH (Zdf (L.out.qAt P.out t) (M.out.qAt P.out t)) af.out);obtain ⟨b',av,B1,n1,k1,B2,n2,k2,B3,n3,k3,B4,n4,k4,rfl,⟨q0,q1,q2,q3⟩,y,⟨r0,r1,r2,r3⟩,aw⟩:=H4.out.elem2 d hf hg;obtain ⟨c',cl,C1,m1,l1,C2,m2,l2,C3,m3,l3,C4,m4,l4,rfl,⟨z0,z1,z2,z3⟩,ax,⟨y0,y1,y2,y3⟩,ay⟩:=H3.out.elem2 d X Y;have ah:=q0;have ai:=q1;have aj:=q2;have ak:=q3;have HB:=JZ hB;have c8:(t:Int) < N:=(by omega);have c9:0≤(t:Int):=(by omega);have ca:(k:Int) < LZ:=(by have:=R.out;omega);have cc:(t:Int) < LZ:=(by have:=R.out;omega);clear hB hf hg X Y;go_wp2_with fail;clear ah ai aj ak;refine (Z4 _ f _ y a5).mono ?_;rintro _ w5 ⟨rfl,a⟩;have u:=hX.later a;have v:=hS.later a;have m:=Za d a d.size;rcases Int.lt_or_le 0 (qs f.q) with hq | hq;rotate_left
     ·have HN:=JZ (Xp (p:=p) (s:=s) (Z:=Z) (D:=D) (k:=k) (by rw [HQ.out];intro e;have:=Wl.2 e;omega));clear q0 q1 q2 q3 r0 r1 r2 r3 z0 z1 z2 z3 y0 y1 y2 y3;go_wp2;go_roundw
      case rel=>exact ⟨k+1,(t:Int),by omega,rfl,by go_num,m,u,v,Or.inr ⟨t,rfl,by omega,HN.out.trans HB.out⟩⟩
      case measure=>simp [intOf];omega
     have T:Hid (0 < qAt D k):=JZ (by rw [HQ.out];exact Wl.1 hq);replace q0:=cell_below q0 a;replace q1:=cell_below q1 a;replace q2:=cell_below q2 a;replace q3:=cell_below q3 a;replace r0:=cell_below r0 a;replace r1:=cell_below r1 a;replace r2:=cell_below r2 a;replace r3:=cell_below r3 a;replace z0:=cell_below z0 a;replace z1:=cell_below z1 a;replace z2:=cell_below z2 a;replace z3:=cell_below z3 a;replace y0:=cell_below y0 a;replace y1:=cell_below y1 a;replace y2:=cell_below y2 a;replace y3:=cell_below y3 a;clear hX hS;go_wp2_with fail;have bg:=Zl q0;have bh:=Zl q1;have bi:=Zl q2;have bj:=Zl q3;have bk:=Zl r0;have bl:=Zl r1;have bm:=Zl r2;have bn:=Zl r3;have bp:=Zl z0;have bq:=Zl z1;have br:=Zl z2;have bs:=Zl z3;have bt:=Zl y0;have bu:=Zl y1;have bv:=Zl y2;have bw:=Zl y3;have j:=Zj w5;clear q0 q1 q2 q3 r0 r1 r2 r3 z0 z1 z2 z3 y0 y1 y2 y3 hq;refine Zn 20 [0,1,2,3,4,5,6,7,9,10,11,12,13,14,15,16,8,17,18,19] (by kernel_rfl) (by kernel_rfl) ?_;repeat ((first|(first|refine Zb (v:=?_) rfl rfl rfl ?_ ?_ |refine Zd (v:=?_) rfl rfl rfl ?_ ?_);rotate_left;·(intro _ _;go_simp;(try go_bits);(try with_reducible rfl))|refine Ze rfl rfl rfl ?_);(try simp only [py]))
     refine Zf rfl rfl (fun _ kq=>?_);go_simp;(with_reducible refine (V5 _ _ fz f _ ((ax.below a).below j) ((y.below a).below j) a2 a5).mono ?_);rw [bd.out];rintro _ w6 ⟨v6,rfl,e6,az⟩;have x:=Za j az j.size;refine kq.out _ _ (.inr x) ?_;clear kq;(try simp only [py]);repeat ((first|(first|refine Zb (v:=?_) rfl rfl rfl ?_ ?_ |refine Zd (v:=?_) rfl rfl rfl ?_ ?_);rotate_left;·(intro _ _;go_simp;(try go_bits);(try with_reducible rfl))|refine Ze rfl rfl rfl ?_);(try simp only [py]))
     refine Zf rfl rfl (fun _ kq=>?_);go_simp;(with_reducible refine (V5 _ _ gz g _ ((ay.below a).below x) ((aw.below a).below x) bc ba).mono ?_);rw [be.out];rintro _ w7 ⟨v7,rfl,e7,ab⟩;have U:=Za x ab x.size;refine kq.out _ _ (.inr U) ?_;clear kq;(try simp only [py]);repeat ((first|(first|refine Zb (v:=?_) rfl rfl rfl ?_ ?_ |refine Zd (v:=?_) rfl rfl rfl ?_ ?_);rotate_left;·(intro _ _;go_simp;(try go_bits);(try with_reducible rfl))|refine Ze rfl rfl rfl ?_);(try simp only [py]))
     refine Zf rfl rfl (fun _ kq=>?_);go_simp;(with_reducible refine (Ur _ _ (canF (WC Z D k)) (canF (WC Z D t)) _ (e6.frac.below ab) e7.frac bf.out ag.out).mono ?_);rw [Zr,Zr];generalize b6:qs (WC Z D k - WC Z D t)=sC;have V:=JZ b6;clear b6;rintro _ w8 ⟨rfl,b0⟩;have B:=Za U b0 U.size;refine kq.out _ _ (.inr B) ?_;clear kq;(try simp only [py]);repeat ((first|(first|refine Zb (v:=?_) rfl rfl rfl ?_ ?_ |refine Zd (v:=?_) rfl rfl rfl ?_ ?_);rotate_left;·(intro _ _;go_simp;(try go_bits);(try with_reducible rfl))|refine Ze rfl rfl rfl ?_);(try simp only [py]))
     refine Zv ?_;have C:=u.later B;have E:=v.later B;have l:=Za m B m.size;clear bg bh bi bj bk bl bm bn bp bq br bs bt bu bv bw u v m j x U B a az ab b0 e6 e7 y aw ax ay;obtain ⟨bb,bo,rfl,J⟩:=(HI.out.below l).all (show 0 < nb by omega);have c1:w8.cell? ⟨bb,bo+k,none⟩=some (.int .i64 (s.at_ k)):=J k (by omega);have c2:w8.cell? ⟨bb,bo+t,none⟩=some (.int .i64 (s.at_ t)):=J t (by omega);have ce:(k:Int) < nb:=(by omega);have cf:(t:Int) < nb:=(by omega);obtain ⟨x0,x1,x2⟩:=C.three;obtain ⟨p0,p1,p2⟩:=E.three;have al:=JZ (at_range ad.out o.out k);have am:=JZ (at_range ad.out o.out t);clear J;go_wp2_with fail;have C0:=Zl x0;have a6:=Zl x1;have a7:=Zl x2;have D0:=Zl p0;have D1:=Zl p1;have D2:=Zl p2;have E1:=Zl c1;have E2:=Zl c2;have j:=Zj w8;clear x0 x1 x2 p0 p1 p2 c1 c2;refine Zn 23 [0,1,2,3,4,5,6,7,8,9,10,11,13,14,15,16,17,18,12,19,20,21,22] (by kernel_rfl) (by kernel_rfl) ?_;rcases Int.lt_trichotomy sC 0 with hc | hc | hc
     ·have HN:=JZ (YK HB.out T.out (Or.inl (by have h9:=V.out;have:=Wj.1 (h9▸hc);grind)));repeat ((first|(first|refine Zb (v:=?_) rfl rfl rfl ?_ ?_ |refine Zd (v:=?_) rfl rfl rfl ?_ ?_);rotate_left;·(intro _ _;go_simp;(try go_bits);(try with_reducible rfl))|refine Ze rfl rfl rfl ?_ |refine skC rfl rfl rfl ?_);(try simp only [py]))
      refine Zv ?_;clear C0 a6 a7 D0 D1 D2 E1 E2;go_wp2;go_roundw
      case rel=>exact ⟨k+1,(k:Int),by omega,rfl,by go_num,l.drew,C.drew,E.drew,Or.inr ⟨k,rfl,by omega,HN.out⟩⟩
      case measure=>simp [intOf];omega
     ·subst hc;have an:Hid (WC Z D k=WC Z D t):=JZ (by have:=Z5.1 V.out;grind);repeat ((first|(first|refine Zb (v:=?_) rfl rfl rfl ?_ ?_ |refine Zd (v:=?_) rfl rfl rfl ?_ ?_);rotate_left;·(intro _ _;go_simp;(try go_bits);(try with_reducible rfl))|refine Ze rfl rfl rfl ?_);(try simp only [py]))
      refine Zf rfl rfl (fun _ kq=>?_);go_simp;(with_reducible refine (Zbb _ p (s.at_ k) _ ((ac.out.below l).below j) al.out.1 al.out.2 o.out.cols).mono ?_);generalize b7:Zqv p (s.at_ k)=ok;have ao:=JZ b7;clear b7;rintro _ w9 ⟨rfl,b4⟩;have G:=Za j b4 j.size;refine kq.out _ _ (.inr G) ?_;clear kq;(try simp only [py]);repeat ((first|(first|refine Zb (v:=?_) rfl rfl rfl ?_ ?_ |refine Zd (v:=?_) rfl rfl rfl ?_ ?_);rotate_left;·(intro _ _;go_simp;(try go_bits);(try with_reducible rfl))|refine Ze rfl rfl rfl ?_);(try simp only [py]))
      refine Zf rfl rfl (fun _ kq=>?_);go_simp;(with_reducible refine (Zbb _ p (s.at_ t) _ ((ac.out.below l).below G) am.out.1 am.out.2 o.out.cols).mono ?_);generalize b8:Zqv p (s.at_ t)=ot;have ap:=JZ b8;clear b8;rintro _ cm ⟨rfl,a1⟩;have r:=Za G a1 G.size;refine kq.out _ _ (.inr r) ?_;clear kq;(try simp only [py]);repeat ((first|(first|refine Zb (v:=?_) rfl rfl rfl ?_ ?_ |refine Zd (v:=?_) rfl rfl rfl ?_ ?_);rotate_left;·(intro _ _;go_simp;(try go_bits);(try with_reducible rfl))|refine Ze rfl rfl rfl ?_);(try simp only [py]))
      refine Zv ?_;clear C0 a6 a7 D0 D1 D2 E1 E2;have aq:=C.later r;have ar:=E.later r;have a0:=Za l r l.size;clear C E l j G r b4 a1;rcases Int.lt_or_le ok ot with ho | ho
      ·have HN:=JZ (YK HB.out T.out (Or.inr ⟨an.out,by rw [ao.out,ap.out];exact ho⟩));go_wp2;go_roundw
       case rel=>exact ⟨k+1,(k:Int),by omega,rfl,by go_num,a0,aq,ar,Or.inr ⟨k,rfl,by omega,HN.out⟩⟩
       case measure=>simp [intOf];omega
      ·have HN:=JZ (Y5 HB.out T.out (by intro e;rcases e with e | ⟨_,e⟩;(· rw [an.out] at e;exact absurd e (by grind));(· rw [ao.out,ap.out] at e;omega)));go_wp2;go_roundw
       case rel=>exact ⟨k+1,(t:Int),by omega,rfl,by go_num,a0,aq,ar,Or.inr ⟨t,rfl,by omega,HN.out⟩⟩
       case measure=>simp [intOf];omega
     ·have HN:=JZ (Y5 (p:=p) (s:=s) HB.out T.out (by have h9:=V.out;have:=Wl.1 (h9▸hc);intro e;rcases e with e | ⟨e,_⟩ <;> grind));obtain rfl:sC=1:=by have h9:=UY (WC Z D k - WC Z D t);rw [V.out] at h9;omega
      repeat ((first|(first|refine Zb (v:=?_) rfl rfl rfl ?_ ?_ |refine Zd (v:=?_) rfl rfl rfl ?_ ?_);rotate_left;·(intro _ _;go_simp;(try go_bits);(try with_reducible rfl))|refine Ze rfl rfl rfl ?_ |refine skC rfl rfl rfl ?_);(try simp only [py]))
      refine Zv ?_;clear C0 a6 a7 D0 D1 D2 E1 E2;go_wp2;go_roundw
      case rel=>exact ⟨k+1,(t:Int),by omega,rfl,by go_num,l.drew,C.drew,E.drew,Or.inr ⟨t,rfl,by omega,HN.out⟩⟩
      case measure=>simp [intOf];omega
   ·obtain rfl:N=k:=by omega
    have HR:Hid (oi (WV p s Z D)=z):=JZ (by rw [b9.out,a3.out];exact hB.oi);clear hB;go_wp2;go_ret;exact ⟨Yn HR.out,d⟩
theorem Zyc (v1 v2 v3 v4:Value) (p:LPd) (s:LSt) (Z D:List RF) (K:Nat) (w:World) (h:LpM w v1 p) (h2:StM w v2 s) (h3:Y1 w v3 Z) (h4:Y1 w v4 D) (F:p.Fit K) (S:s.Fit p) (hzl:D.length≤Z.length) (hdl:D.length≤p.right.length) (hkz:RsL (5^p.right.length * K) Z) (hkd:RsL (5^p.right.length * K) D) (hN0:0 < D.length) (hph:s.phase=2):
 Calls Tryz.prog 70 #[v1,v2,v3,v4] w fun e w'=>e= .returned (.int .i64 (oi (WV p s Z D)))∧Below w.heap.size w w':=by
 obtain ⟨A,n,c,A',n',c',a9,aa,ab,rfl,hc,hv,hr⟩:=id h;obtain ⟨Ab,nb,cb,rfl,hI⟩:=id h2;obtain ⟨W,hW,aw,O⟩:=Yc w (.slice A n c) (.slice A' n' c') (.slice a9 aa ab);obtain ⟨W1,c4,l,P⟩:=YT W (.int .i64 s.phase) (.slice Ab nb cb) (.int .i64 s.pivots);have hX:=aw.later P;have d:=Za O P O.size;obtain ⟨b1,b2,b3⟩:=hI.len;have a5:W.heap.size=w.heap.size+1:=by rw [← hW];simp
 rw [a5] at l;have ad:=JZ h;have c7:=JZ h2;have HI:=JZ hI;have r:=JZ F;have ae:=JZ S;have c8:=JZ b1;have af:Hid (nb=p.right.length):=JZ (by rw [b1];exact S.2);have c9:nb≤64:=by rw [af.out];exact F.2.2.1
 obtain ⟨x0,x1,x2⟩:=hX.three;obtain ⟨y0,y1,y2⟩:=l.three;clear h h2 hc hv hr b1 hI aw O P F S;obtain ⟨Az,cz,rfl,ci,cj⟩:=h3.shape;obtain ⟨Ad,cd,rfl,ck,cl⟩:=h4.shape;have H3:=JZ h3;have H4:=JZ h4;have R:=JZ hkz;have E:=JZ hkd;have G:Hid (5^p.right.length * K≤34359738368):=JZ (by have:=r.out.ks;omega);have T:Hid (1≤5^p.right.length * K):=JZ (JW r.out.k1 r.out.le);have ag:Hid (5^p.right.length * K+5^p.right.length * K≤8589934592):=JZ (by have:=r.out.2.2.2.2.2.2;omega);have ca:Hid (D.length≤Z.length):=JZ hzl;have hdl:D.length≤nb:=by rw [af.out];exact hdl
 generalize b6:Z.length=LZ at *;have U:=JZ b6;generalize hN:D.length=N at *;have B:=JZ hN;clear h3 h4 hkz hkd b6 hN;have ah:=JZ hph;have c6:(s.phase==2)=true:=by simpa using hph
 clear hph;go_enter Tryz.func70,Tryz.ntmps70;go_wp2;clear hW c4
 go_loopw [9] (fun i wr=>∃k:Nat,k≤N∧i= .int .i64 k∧Below w.heap.size w wr∧Bk wr w.heap.size 26 [.slice A n c,.slice A' n' c',.slice a9 aa ab]∧Bk wr (w.heap.size+1) 29 [.int .i64 s.phase,.slice Ab nb cb,.int .i64 s.pivots]∧∀i:Nat,i < k→¬Zqy s D i < 0) (fun i _=>N - (intOf i).toNat)
 case atStart=>exact ⟨0,by omega,rfl,d,hX,l,fun i hi=>by omega⟩
 case round=>
  clear d hX l x0 x1 x2 y0 y1 y2;obtain ⟨k,hk,rfl,d,hX,hS,hA⟩:=hrel;have HA:=JZ hA;clear hA;obtain ⟨y0,y1,y2⟩:=hS.three;rcases JX k N with hkl | hkl
  ·obtain ⟨bb,bo,rfl,o⟩:=(HI.out.below d).all (show 0 < nb by omega);have c1:wr.cell? ⟨bb,bo+k,none⟩=some (.int .i64 (s.at_ k)):=o k (by omega);obtain ⟨f,hf⟩:=ZH (fs:=D) (i:=k) (by rw [B.out];exact hkl);obtain ⟨b',a3,B1,n1,k1,B2,n2,k2,rfl,c5,⟨q0,q1,q2,q3⟩,y⟩:=H4.out.elem d hf;have ba:(k:Int) < N:=(by omega);have bc:(k:Int) < nb:=(by omega);have HQ:=JZ (ZF hf);have H:f.Sh:=(E.out k f hf).sh G.out;clear o hf;generalize hz:s.at_ k=z at *;have HZ:=JZ hz;clear hz;rcases Int.lt_or_le z 0 with hz0 | hz0
   ·go_wp2_with fail;refine (Z4 _ f _ y H).mono ?_;rintro _ w5 ⟨rfl,a⟩;have u:=hX.later a;have v:=hS.later a;have j:=Za d a d.size;by_cases hq:f.q=0
    ·have bd:(qs f.q !=0)=false:=(by rw [hq];decide);have a6:Hid (∀i:Nat,i < k+1→¬Zqy s D i < 0):=JZ fun i hi=>by
      rcases Nat.lt_succ_iff_lt_or_eq.1 hi with e | e
      ·exact HA.out i e
      ·subst e;exact Yce fun e=>e.2 (by rw [HQ.out,hq])
     clear hq;go_wp2;go_roundw
     case rel=>exact ⟨k+1,by omega,by go_num,j,u,v,a6.out⟩
     case measure=>simp [intOf];omega
    ·have bd:(qs f.q !=0)=true:=(by simpa using fun e=>hq (Z5.1 e));have HR:Hid (oi (WV p s Z D)=(k:Int)):=JZ (by rw [Zjf ah.out (Vh (Nat.zero_le k) (by rw [B.out];omega) (Zng (by rw [HZ.out];exact hz0) (by rw [HQ.out];exact hq)) fun i _ hi=>HA.out i hi)];rfl);clear hq;go_wp2;go_ret;exact ⟨Yn HR.out,j⟩
   ·have a6:Hid (∀i:Nat,i < k+1→¬Zqy s D i < 0):=JZ fun i hi=>by
     rcases Nat.lt_succ_iff_lt_or_eq.1 hi with e | e
     ·exact HA.out i e
     ·subst e;exact Yce fun e=>by have:=HZ.out;omega
    clear q0 q1 q2 q3;go_wp2;go_roundw
    case rel=>exact ⟨k+1,by omega,by go_num,d,hX,hS,a6.out⟩
    case measure=>simp [intOf];omega
  ·obtain rfl:N=k:=by omega
   have be:Hid (WV p s Z D=XN p s Z D D.length):=JZ (Zjg ah.out (Vg fun i _ hi=>HA.out i (by rw [B.out] at hi;omega)));clear HA;go_wp2
   go_loopw [10,11] (fun b i wr=>∃(k:Nat) (z:Int),k≤N∧b= .int .i64 z∧i= .int .i64 k∧Below w.heap.size w wr∧Bk wr w.heap.size 26 [.slice A n c,.slice A' n' c',.slice a9 aa ab]∧Bk wr (w.heap.size+1) 29 [.int .i64 s.phase,.slice Ab nb cb,.int .i64 s.pivots]∧Pl.Xf p s Z D k z) (fun _ i _=>N - (intOf i).toNat)
   case atStart=>exact ⟨0,-1,by omega,rfl,rfl,d,hX,hS,Or.inl ⟨rfl,rfl⟩⟩
   case round=>
    clear d hX hS;obtain ⟨k,z,hk,rfl,rfl,d,hX,hS,hB⟩:=hrel;rcases JX k N with hkl | hkl
    ·obtain ⟨f,hf⟩:=ZH (fs:=D) (i:=k) (by rw [B.out];exact hkl);have ba:(k:Int) < N:=(by omega);have HQ:=JZ (ZF hf);have H:f.Sh:=(E.out k f hf).sh G.out;rcases hB with ⟨rfl,hB⟩ | ⟨t,rfl,htk,hB⟩
     ·obtain ⟨b',a3,B1,n1,k1,B2,n2,k2,rfl,c5,⟨q0,q1,q2,q3⟩,y⟩:=H4.out.elem d hf;have HB:=JZ hB;clear hB hf;go_wp2_with fail;refine (Z4 _ f _ y H).mono ?_;rintro _ w5 ⟨rfl,a⟩;have u:=hX.later a;have v:=hS.later a;have j:=Za d a d.size;clear q0 q1 q2 q3 hX hS d a y;rcases Int.lt_or_le 0 (qs f.q) with hq | hq
      ·have HN:=JZ (XJ HB.out (by rw [HQ.out];exact Wl.1 hq));go_wp2;go_roundw
       case rel=>exact ⟨k+1,(k:Int),by omega,rfl,by go_num,j,u,v,Or.inr ⟨k,rfl,by omega,HN.out⟩⟩
       case measure=>simp [intOf];omega
      ·have HN:=JZ (Xp (p:=p) (s:=s) (Z:=Z) (D:=D) (k:=k) (by rw [HQ.out];intro e;have:=Wl.2 e;omega));go_wp2;go_roundw
       case rel=>exact ⟨k+1,-1,by omega,rfl,by go_num,j,u,v,Or.inl ⟨rfl,HN.out.trans HB.out⟩⟩
       case measure=>simp [intOf];omega
     ·obtain ⟨g,hg⟩:=ZH (fs:=D) (i:=t) (by rw [B.out];omega);obtain ⟨fz,a0⟩:=ZH (fs:=Z) (i:=k) (by rw [U.out];omega);obtain ⟨gz,a1⟩:=ZH (fs:=Z) (i:=t) (by rw [U.out];omega);have bf:g.Sh:=(E.out t g hg).sh G.out;have a5:fz.Sh:=(R.out k fz a0).sh G.out;have bg:gz.Sh:=(R.out t gz a1).sh G.out;have bh:Hid (fz.q / f.q=WC Z D k):=JZ (by unfold WC;rw [ZF hf,ZF a0]);have bi:Hid (gz.q / g.q=WC Z D t):=JZ (by unfold WC;rw [ZF hg,ZF a1]);have bj:Hid (ShH (canF (WC Z D k))):=JZ (Sz.shH (Zdf (R.out.qAt T.out k) (E.out.qAt T.out k)) ag.out);have ai:Hid (ShH (canF (WC Z D t))):=JZ (Sz.shH (Zdf (R.out.qAt T.out t) (E.out.qAt T.out t)) ag.out);obtain ⟨b',a3,B1,n1,k1,B2,n2,k2,B3,n3,k3,B4,n4,k4,rfl,⟨q0,q1,q2,q3⟩,y,⟨r0,r1,r2,r3⟩,ax⟩:=H4.out.elem2 d hf hg;obtain ⟨c',cm,C1,m1,l1,C2,m2,l2,C3,m3,l3,C4,m4,l4,rfl,⟨z0,z1,z2,z3⟩,ay,⟨y0,y1,y2,y3⟩,az⟩:=H3.out.elem2 d a0 a1;have aj:=q0;have ak:=q1;have al:=q2;have am:=q3;have HB:=JZ hB;have cc:(t:Int) < N:=(by omega);have ce:0≤(t:Int):=(by omega);have cf:(k:Int) < LZ:=(by have:=U.out;omega);have cg:(t:Int) < LZ:=(by have:=U.out;omega);clear hB hf hg a0 a1;go_wp2_with fail;clear aj ak al am;refine (Z4 _ f _ y H).mono ?_;rintro _ w5 ⟨rfl,a⟩;have u:=hX.later a;have v:=hS.later a;have j:=Za d a d.size;rcases Int.lt_or_le 0 (qs f.q) with hq | hq;rotate_left
      ·have HN:=JZ (Xp (p:=p) (s:=s) (Z:=Z) (D:=D) (k:=k) (by rw [HQ.out];intro e;have:=Wl.2 e;omega));clear q0 q1 q2 q3 r0 r1 r2 r3 z0 z1 z2 z3 y0 y1 y2 y3;go_wp2;go_roundw
       case rel=>exact ⟨k+1,(t:Int),by omega,rfl,by go_num,j,u,v,Or.inr ⟨t,rfl,by omega,HN.out.trans HB.out⟩⟩
       case measure=>simp [intOf];omega
      have V:Hid (0 < qAt D k):=JZ (by rw [HQ.out];exact Wl.1 hq);replace q0:=cell_below q0 a;replace q1:=cell_below q1 a;replace q2:=cell_below q2 a;replace q3:=cell_below q3 a;replace r0:=cell_below r0 a;replace r1:=cell_below r1 a;replace r2:=cell_below r2 a;replace r3:=cell_below r3 a;replace z0:=cell_below z0 a;replace z1:=cell_below z1 a;replace z2:=cell_below z2 a;replace z3:=cell_below z3 a;replace y0:=cell_below y0 a;replace y1:=cell_below y1 a;replace y2:=cell_below y2 a;replace y3:=cell_below y3 a;clear hX hS;go_wp2_with fail;have bk:=Zl q0;have bl:=Zl q1;have bm:=Zl q2;have bn:=Zl q3;have bp:=Zl r0;have bq:=Zl r1;have br:=Zl r2;have bs:=Zl r3;have bt:=Zl z0;have bu:=Zl z1;have bv:=Zl z2;have bw:=Zl z3;have bx:=Zl y0;have bz:=Zl y1;have c0:=Zl y2;have c3:=Zl y3;have l:=Zj w5;clear q0 q1 q2 q3 r0 r1 r2 r3 z0 z1 z2 z3 y0 y1 y2 y3 hq;refine Zn 20 [0,1,2,3,4,5,6,7,9,10,11,12,13,14,15,16,8,17,18,19] (by kernel_rfl) (by kernel_rfl) ?_;repeat ((first|(first|refine Zb (v:=?_) rfl rfl rfl ?_ ?_ |refine Zd (v:=?_) rfl rfl rfl ?_ ?_);rotate_left;·(intro _ _;go_simp;(try go_bits);(try with_reducible rfl))|refine Ze rfl rfl rfl ?_);(try simp only [py]))
      refine Zf rfl rfl (fun _ kq=>?_);go_simp;(with_reducible refine (V5 _ _ fz f _ ((ay.below a).below l) ((y.below a).below l) a5 H).mono ?_);rw [bh.out];rintro _ w6 ⟨v6,rfl,e6,b0⟩;have C:=Za l b0 l.size;refine kq.out _ _ (.inr C) ?_;clear kq;(try simp only [py]);repeat ((first|(first|refine Zb (v:=?_) rfl rfl rfl ?_ ?_ |refine Zd (v:=?_) rfl rfl rfl ?_ ?_);rotate_left;·(intro _ _;go_simp;(try go_bits);(try with_reducible rfl))|refine Ze rfl rfl rfl ?_);(try simp only [py]))
      refine Zf rfl rfl (fun _ kq=>?_);go_simp;(with_reducible refine (V5 _ _ gz g _ ((az.below a).below C) ((ax.below a).below C) bg bf).mono ?_);rw [bi.out];rintro _ w7 ⟨v7,rfl,e7,ac⟩;have X:=Za C ac C.size;refine kq.out _ _ (.inr X) ?_;clear kq;(try simp only [py]);repeat ((first|(first|refine Zb (v:=?_) rfl rfl rfl ?_ ?_ |refine Zd (v:=?_) rfl rfl rfl ?_ ?_);rotate_left;·(intro _ _;go_simp;(try go_bits);(try with_reducible rfl))|refine Ze rfl rfl rfl ?_);(try simp only [py]))
      refine Zf rfl rfl (fun _ kq=>?_);go_simp;(with_reducible refine (Ur _ _ (canF (WC Z D k)) (canF (WC Z D t)) _ (e6.frac.below ac) e7.frac bj.out ai.out).mono ?_);rw [Zr,Zr];generalize b7:qs (WC Z D k - WC Z D t)=sC;have Y:=JZ b7;clear b7;rintro _ w8 ⟨rfl,b4⟩;have I:=Za X b4 X.size;refine kq.out _ _ (.inr I) ?_;clear kq;(try simp only [py]);repeat ((first|(first|refine Zb (v:=?_) rfl rfl rfl ?_ ?_ |refine Zd (v:=?_) rfl rfl rfl ?_ ?_);rotate_left;·(intro _ _;go_simp;(try go_bits);(try with_reducible rfl))|refine Ze rfl rfl rfl ?_);(try simp only [py]))
      refine Zv ?_;have J:=u.later I;have L:=v.later I;have m:=Za j I j.size;clear bk bl bm bn bp bq br bs bt bu bv bw bx bz c0 c3 u v j l C X I a b0 ac b4 e6 e7 y ax ay az;obtain ⟨bb,bo,rfl,o⟩:=(HI.out.below m).all (show 0 < nb by omega);have c1:w8.cell? ⟨bb,bo+k,none⟩=some (.int .i64 (s.at_ k)):=o k (by omega);have c2:w8.cell? ⟨bb,bo+t,none⟩=some (.int .i64 (s.at_ t)):=o t (by omega);have bc:(k:Int) < nb:=(by omega);have ch:(t:Int) < nb:=(by omega);obtain ⟨x0,x1,x2⟩:=J.three;obtain ⟨p0,p1,p2⟩:=L.three;have an:=JZ (at_range ae.out r.out k);have ao:=JZ (at_range ae.out r.out t);clear o;go_wp2_with fail;have C0:=Zl x0;have a7:=Zl x1;have a8:=Zl x2;have D0:=Zl p0;have D1:=Zl p1;have D2:=Zl p2;have E1:=Zl c1;have E2:=Zl c2;have l:=Zj w8;clear x0 x1 x2 p0 p1 p2 c1 c2;refine Zn 23 [0,1,2,3,4,5,6,7,8,9,10,11,13,14,15,16,17,18,12,19,20,21,22] (by kernel_rfl) (by kernel_rfl) ?_;rcases Int.lt_trichotomy sC 0 with hc | hc | hc
      ·have HN:=JZ (YK HB.out V.out (Or.inl (by have h9:=Y.out;have:=Wj.1 (h9▸hc);grind)));repeat ((first|(first|refine Zb (v:=?_) rfl rfl rfl ?_ ?_ |refine Zd (v:=?_) rfl rfl rfl ?_ ?_);rotate_left;·(intro _ _;go_simp;(try go_bits);(try with_reducible rfl))|refine Ze rfl rfl rfl ?_ |refine skC rfl rfl rfl ?_);(try simp only [py]))
       refine Zv ?_;clear C0 a7 a8 D0 D1 D2 E1 E2;go_wp2;go_roundw
       case rel=>exact ⟨k+1,(k:Int),by omega,rfl,by go_num,m.drew,J.drew,L.drew,Or.inr ⟨k,rfl,by omega,HN.out⟩⟩
       case measure=>simp [intOf];omega
      ·subst hc;have ap:Hid (WC Z D k=WC Z D t):=JZ (by have:=Z5.1 Y.out;grind);repeat ((first|(first|refine Zb (v:=?_) rfl rfl rfl ?_ ?_ |refine Zd (v:=?_) rfl rfl rfl ?_ ?_);rotate_left;·(intro _ _;go_simp;(try go_bits);(try with_reducible rfl))|refine Ze rfl rfl rfl ?_);(try simp only [py]))
       refine Zf rfl rfl (fun _ kq=>?_);go_simp;(with_reducible refine (Zbb _ p (s.at_ k) _ ((ad.out.below m).below l) an.out.1 an.out.2 r.out.cols).mono ?_);generalize b8:Zqv p (s.at_ k)=ok;have aq:=JZ b8;clear b8;rintro _ w9 ⟨rfl,b5⟩;have M:=Za l b5 l.size;refine kq.out _ _ (.inr M) ?_;clear kq;(try simp only [py]);repeat ((first|(first|refine Zb (v:=?_) rfl rfl rfl ?_ ?_ |refine Zd (v:=?_) rfl rfl rfl ?_ ?_);rotate_left;·(intro _ _;go_simp;(try go_bits);(try with_reducible rfl))|refine Ze rfl rfl rfl ?_);(try simp only [py]))
       refine Zf rfl rfl (fun _ kq=>?_);go_simp;(with_reducible refine (Zbb _ p (s.at_ t) _ ((ad.out.below m).below M) ao.out.1 ao.out.2 r.out.cols).mono ?_);generalize b9:Zqv p (s.at_ t)=ot;have ar:=JZ b9;clear b9;rintro _ cn ⟨rfl,a4⟩;have x:=Za M a4 M.size;refine kq.out _ _ (.inr x) ?_;clear kq;(try simp only [py]);repeat ((first|(first|refine Zb (v:=?_) rfl rfl rfl ?_ ?_ |refine Zd (v:=?_) rfl rfl rfl ?_ ?_);rotate_left;·(intro _ _;go_simp;(try go_bits);(try with_reducible rfl))|refine Ze rfl rfl rfl ?_);(try simp only [py]))
       refine Zv ?_;clear C0 a7 a8 D0 D1 D2 E1 E2;have au:=J.later x;have av:=L.later x;have a2:=Za m x m.size;clear J L m l M x b5 a4;rcases Int.lt_or_le ok ot with ho | ho
       ·have HN:=JZ (YK HB.out V.out (Or.inr ⟨ap.out,by rw [aq.out,ar.out];exact ho⟩));go_wp2;go_roundw
        case rel=>exact ⟨k+1,(k:Int),by omega,rfl,by go_num,a2,au,av,Or.inr ⟨k,rfl,by omega,HN.out⟩⟩
        case measure=>simp [intOf];omega
       ·have HN:=JZ (Y5 HB.out V.out (by intro e;rcases e with e | ⟨_,e⟩;(· rw [ap.out] at e;exact absurd e (by grind));(· rw [aq.out,ar.out] at e;omega)));go_wp2;go_roundw
        case rel=>exact ⟨k+1,(t:Int),by omega,rfl,by go_num,a2,au,av,Or.inr ⟨t,rfl,by omega,HN.out⟩⟩
        case measure=>simp [intOf];omega
      ·have HN:=JZ (Y5 (p:=p) (s:=s) HB.out V.out (by have h9:=Y.out;have:=Wl.1 (h9▸hc);intro e;rcases e with e | ⟨e,_⟩ <;> grind));obtain rfl:sC=1:=by have h9:=UY (WC Z D k - WC Z D t);rw [Y.out] at h9;omega
       repeat ((first|(first|refine Zb (v:=?_) rfl rfl rfl ?_ ?_ |refine Zd (v:=?_) rfl rfl rfl ?_ ?_);rotate_left;·(intro _ _;go_simp;(try go_bits);(try with_reducible rfl))|refine Ze rfl rfl rfl ?_ |refine skC rfl rfl rfl ?_);(try simp only [py]))
       refine Zv ?_;clear C0 a7 a8 D0 D1 D2 E1 E2;go_wp2;go_roundw
       case rel=>exact ⟨k+1,(t:Int),by omega,rfl,by go_num,m.drew,J.drew,L.drew,Or.inr ⟨t,rfl,by omega,HN.out⟩⟩
       case measure=>simp [intOf];omega
    ·obtain rfl:N=k:=by omega
     have HR:Hid (oi (WV p s Z D)=z):=JZ (by rw [be.out,B.out];exact hB.oi);clear hB;go_wp2;go_ret;exact ⟨Yn HR.out,d⟩
theorem Zqb (v1 v2 v3 v4:Value) (p:LPd) (s:LSt) (Z D:List RF) (K:Nat) (w:World) (h:LpM w v1 p) (h2:StM w v2 s) (h3:Y1 w v3 Z) (h4:Y1 w v4 D) (F:p.Fit K) (S:s.Fit p) (hzl:D.length≤Z.length) (hdl:D.length≤p.right.length) (hkz:RsL (5^p.right.length * K) Z) (hkd:RsL (5^p.right.length * K) D):
 Calls Tryz.prog 70 #[v1,v2,v3,v4] w fun e w'=>e= .returned (.int .i64 (oi (WV p s Z D)))∧Below w.heap.size w w':=by
 rcases JV D.length with e | e
 ·exact Zya v1 v2 v3 v4 p s Z D K w h h2 h3 h4 F S hzl hdl hkz hkd (List.eq_nil_of_length_eq_zero e)
 ·by_cases hp:s.phase=2
  ·exact Zyc v1 v2 v3 v4 p s Z D K w h h2 h3 h4 F S hzl hdl hkz hkd e hp
  ·exact Zyb v1 v2 v3 v4 p s Z D K w h h2 h3 h4 F S hzl hdl hkz hkd e hp
section
attribute [local irreducible] Xr
end
end Go.Proofs.YtgbhebappffbdaaGreat
