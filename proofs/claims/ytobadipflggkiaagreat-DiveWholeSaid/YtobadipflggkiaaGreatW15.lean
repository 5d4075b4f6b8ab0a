/- Lemmas of the claim; no condition. -/
import Derived.Maps.OwnSet
import Derived.Test.YtobadipflggkiaaGreatW14
set_option linter.all false
set_option maxRecDepth 100000
set_option maxHeartbeats 40000000
namespace Go.Proofs.YtobadipflggkiaaGreat
open Go.RowKit
open Pl Tryz
attribute [local go_sem ↓] Go.wp_at_zero Go.wp_at_succ
def Ypa{a b:Nat}(ha:a<4294967296)(hb:b<4294967296):bits .or .i64 (a:Int) (b:Int)=((a ||| b:Nat):Int):=by
 have c:(BitVec.ofInt 64 (a:Int)||| BitVec.ofInt 64 (b:Int)).toNat=a ||| b:=by
  rw[BitVec.toNat_or,kP,kP];have e1:((a:Int)% ((2^64:Nat):Int)).toNat=a:=Qk
  have e2:((b:Int)% ((2^64:Nat):Int)).toNat=b:=Qk
  rw[e1,e2]
 show IntKind.i64.wrap ((BitVec.ofInt 64 (a:Int)||| BitVec.ofInt 64 (b:Int)).toNat:Nat)=_;rw[c];have d:a ||| b<2^32:=iW ha hb;rw[gJ];omega
def Yjn{a b:Nat}(ha:a<4294967296)(hb:b<4294967296):bits .and .i64 (a:Int) (b:Int)=((a &&& b:Nat):Int):=by
 have c:(BitVec.ofInt 64 (a:Int) &&& BitVec.ofInt 64 (b:Int)).toNat=a &&& b:=by
  rw[dE,kP,kP];have e1:((a:Int)% ((2^64:Nat):Int)).toNat=a:=Qk
  have e2:((b:Int)% ((2^64:Nat):Int)).toNat=b:=Qk
  rw[e1,e2]
 show IntKind.i64.wrap ((BitVec.ofInt 64 (a:Int) &&& BitVec.ofInt 64 (b:Int)).toNat:Nat)=_;rw[c];have d:a &&& b<2^32:=Nat.and_lt_two_pow a hb;rw[gJ];omega
namespace Pl
def Yen(p:Nat):((2:Int)^p)=((2^p:Nat):Int):=by rw[Int.natCast_pow];rfl
def Yjo(s p:Nat):((s:Int)/2^p)%2=if s.testBit p=true then 1 else 0:=by
 rw[Yen,Nat.testBit_eq_decide_div_mod_eq];have:((s:Int)/ ((2^p:Nat):Int))%2=((s/2^p%2:Nat):Int):=by simp
 rw[this];by_cases h:s/2^p%2=1
 ·simp[h]
 ·have:s/2^p%2=0:=Qk
  simp[this]
def Yeo{L:List Dc}{n:Nat}(hL:Zpk n L)(hl:L.length<=6)(hs:∀x∈L,-200<=x.sur){P:Int}(hP:0<=P/\P<=30){s:Nat}{z:Int}(h:Lst L P s z): -1200<=z/\z<=180:=by
 have hp:pcf s<=6:=by
  have:=jq (λr=>s.testBit r) (List.range 6);rw[aQ]at this;exact this
 have h1:0<=P* (pcf s:Int)/\P* (pcf s:Int)<=180:=by
  have a:=jY hP.1 (show(0:Int)<=pcf s by omega);have b:=kK hP.2 (show(pcf s:Int)<=6 by omega) Qk Qk;omega
 obtain⟨⟨T,hT,e⟩,h3⟩:=h;have h4:=h3 [] ⟨by simp,by simp⟩;have h5:Zjm []=0:=rfl;have d:(T.map (·.idx)).Nodup:=by
  rw[vS,gD];refine hT.2.imp_of_mem fun{x y} hx hy hxy e=>?_
  have h3:=hL.at_ (hT.1 x hx).1;have h4:=hL.at_ (hT.1 y hy).1;rw[e,h4]at h3;injection h3 with h3;rw[h3,eZ]at hxy;exact(hL.ok x (hT.1 x hx).1).mask_ne hxy
 have f:T.length<=6:=by
  have:=ZZ d (b:=List.range L.length) λi hi=>by
   obtain⟨x,hx,rfl⟩:=jb.1 hi;exact iT.2 (JO.1 (hL.at_ (hT.1 x hx).1)).1
  simp at this;omega
 have c:∀(T:List Dc),(∀x∈T,-200<=x.sur)-> -200* (T.length:Int)<=Zjm T:=by
  intro T
  induction T with
  |nil=>intro _;decide
  |cons x T ih=>
   intro h;have h1:=h x (jK ..);have h2:=ih λy hy=>h y (jG _ hy)
   have h3:Zjm (x::T)=x.sur+Zjm T:=(by simp[Zjm]);rw[h3,ky];omega
 have:=c T λx hx=>hs x (hT.1 x hx).1
 omega
def Zgf(R l:List Int)(k:Nat):Nat:=WO ((List.range k).filter λi=>match R[i]? with|some g=>decide (g∈l)|none=>false)
def Zyx(R l:List Int):Zgf R l 0=0:=by simp[Zgf,WO]
def Zyy{R l:List Int}{k:Nat}{g:Int}(h:R[k]? =some g):Zgf R l (k+1)=if g∈l then Zgf R l k ||| 2^k else Zgf R l k:=by
 unfold Zgf;rw[List.range_succ,dN];by_cases e:g∈l
 ·rw[jB e];simp[h,e,WO]
 ·rw[jA e];simp[h,e]
def Yep{m:Ms}(ok:VM m){i:Nat}{c:Cl}(hc:c∈m.cols):Zgf m.rows c.ops m.rows.length=(dcol m i c).mask:=by
 show WO _=WO _;refine bS λr=>?_
 rw[X9,X9,decide_eq_decide,jk,iT,jb];constructor
 ·rintro⟨h1,h2⟩;have hg:m.rows[r]? =some m.rows[r]:=JQ h1;rw[hg]at h2;exact⟨m.rows[r],by simpa using h2,Zsj ok.asc hg⟩
 ·rintro⟨f,hf,rfl⟩;have a:=ok.sub c hc f hf;exact⟨U8 ok.asc a,by rw[VL ok.asc a];simpa using hf⟩
end Pl
def Zjf{k:Nat}(hk:k<=6):wrap64 ((2:Int)^k)=((2^k:Nat):Int):=by
 rw[Yen];have h:2^k<=64:=by rw[show 64=2^6 by rfl];exact jS Ql hk
 generalize 2^k=q at *;unfold wrap64;omega
def Yka(v1 v2:Value)(R l:List Int)(w:World)(h1:Z6 w v1 R)(h2:Z6 w v2 l)(hR:R.length<=6):
 Calls prog 36 #[v1,v2] w λe w'=>e= .returned (.int .i64 ((Zgf R l R.length:Nat):Int))/\Below w.heap.size w w':=by
 obtain⟨A,c,rfl,m,s⟩:=h1.shape;obtain⟨n,hn⟩:∃n,n=R.length:=⟨_,rfl⟩;rw[<-hn]at h1 m hR⊢;have H1:=JZ h1;have H2:=JZ h2;clear h1 h2 hn;go_enter func36,ntmps36;go_wp2
 go_loopw [5,6] (λs5 x wr=>∃k M:Nat,k<=n/\x= .int .i64 k/\s5= .int .i64 (M:Int)/\M<64/\Below w.heap.size w wr/\Hid (Zgf R l k=M)) (λ_ x _=>n - (intOf x).toNat)
 case atStart=>exact⟨0,0,Qk,rfl,rfl,Ql,JR _ _,JZ (Zyx _ _)⟩
 case round=>
  obtain⟨k,M,hk,rfl,rfl,hM,hb,HM⟩:=hrel;rcases JX k n with hkl|hkl
  ·have p:(k:Int)<n:=Qk;obtain⟨b4,o4,g,o,d,hg,_,_⟩:=H1.out.elem hb hkl;subst o;have HG:=JZ (Zyy (l:=l) hg);clear hg;go_wp2_with fail;refine(Yej _ l g _ (H2.out.below hb)).mono ?_;rintro _ w2 ⟨rfl,h⟩;have f:=Za hb h hb.size;clear hb h d;by_cases hm:g∈l
   ·rw[kE hm];have i:2^k<64:=(by rw[show 64=2^6 by rfl];exact vK Ql Qk);have q:=Ypa (a:=M) (b:=2^k) Qk Qk;have r:=Zjf (k:=k) Qk;have j:M ||| 2^k<64:=iW (n:=6) hM i;have HN:Hid (Zgf R l (k+1)=M ||| 2^k):=JZ (by rw[HG.out,jB hm,HM.out]);clear hm;generalize 2^k=pk at *;go_wp2;go_roundw
    case rel=>exact⟨k+1,M ||| pk,Qk,by go_num,rfl,j,f,HN⟩
    case measure=>exact Qn
   ·rw[kw hm];have HN:Hid (Zgf R l (k+1)=M):=JZ (by rw[HG.out,jA hm,HM.out]);clear hm;go_wp2;go_roundw
    case rel=>exact⟨k+1,M,Qk,by go_num,rfl,hM,f,HN⟩
    case measure=>exact Qn
  ·obtain rfl:n=k:=Qk
   go_wp2;go_ret;exact⟨by rw[HM.out];rfl,hb⟩
section
open Go.RowKit Pl Go.Maps
def Zjx(w:World)(b n:Nat)(pl:Nat->Option Dc):Prop:=
 ∃D:DataW Unit,w.ownsMap prog 71 (plainElem prog 3) b n D/\Go.Maps.IsMap D/\∀m:Nat,m<64->match pl m with|none=>∀z,D.atKey (.int .u32 (m:Int)) z=z|some x=>∀z,D.atKey (.int .u32 (m:Int)) z= .lit (.int .i64 (x.idx:Int))
def Zjx.made(w:World):Zjx (w.alloc (.map #[] 0)) w.heap.size 0 (λ_=>none):=
 ⟨.map [],World.ownsMap_made w _ _ _,Go.Maps.isMap_empty,λm _ z=>by simp[DataW.atKey]⟩
def Zwp(m:Nat)(h:m<64):keyOf prog 71 (.int .u32 (m:Int))=some (.int .u32 (m:Int)):=keyOf_int_mk underlying71 (by
 have e1:IntKind.u32.min=0:=Ql
 have e2:IntKind.u32.max=4294967295:=Ql
 simp[Lit.wf,e1,e2];omega)
def wf_i64{z:Int}(h0: -9223372036854775808<=z)(h1:z<=9223372036854775807):(Lit.int .i64 z).wf=true:=by
 have e1:IntKind.i64.min= -9223372036854775808:=Ql
 have e2:IntKind.i64.max=9223372036854775807:=Ql
 simp[Lit.wf,e1,e2];omega
def Pl.plIdx(o:Option Dc):Int:=match o with|none=>0|some x=>(x.idx:Int)
def Zjx.look{w:World}{b n:Nat}{pl:Nat->Option Dc}(h:Zjx w b n pl)(m:Nat)(hm:m<64):
 (Instr.lookup 117 (.map (some b)) (.int .u32 (m:Int)) true).run prog w= .ok (.tuple #[.int .i64 (plIdx (pl m)),.bool (pl m).isSome]) w:=by
 obtain⟨D,ho,hM,hd⟩:=h;obtain⟨v,ps,hr,hv⟩:=ho.look_ok (int_keyed underlying71) underlying117 (z:= .int .i64 0) Qm (plainElem_int underlying3 Ql) (Zwp m hm);have h2:=hd m hm;obtain⟨a,rfl,hc,_⟩:=plainElem_int_inv underlying3 hv;simp only[Prod.mk.injEq]at hc;rw[hr]
 cases hp:pl m with
 |none=>
  rw[hp]at h2;simp only at h2;rw[Maps.has_false_of_atKey h2];have:=hc.1;rw[h2]at this;simp only[DataW.lit.injEq,Lit.int.injEq,true_and]at this;rw[<-this];rfl
 |some x=>
  rw[hp]at h2;simp only at h2;rw[Maps.has_true_of_atKey h2];have:=hc.1;rw[h2]at this;simp only[DataW.lit.injEq,Lit.int.injEq,true_and]at this;rw[<-this];rfl
def Zjx.put{w:World}{b n:Nat}{pl:Nat->Option Dc}(h:Zjx w b n pl)(hn:n<1000)(x:Dc)(hm:x.mask<64)(hi:x.idx<1000):
 ∃w',(Instr.mapUpdate 117 (.map (some b)) (.int .u32 (x.mask:Int)) (.int .i64 (x.idx:Int))).run prog w= .ok () w'/\Zjx w' b (n+1) (λm=>if m=x.mask then some x else pl m)/\w.grownBy w' (some b):=by
 obtain⟨D,ho,hM,hd⟩:=h;obtain⟨w',hr,c,hg⟩:=ho.update (int_keyed underlying71) underlying117 (by unfold maxLen;omega) (Zwp x.mask hm) (plainElem_int underlying3 (wf_i64 (z:=(x.idx:Int)) Qk Qk));refine⟨w',hr,⟨_,c,hM.put _ _,λm hm2=>?_⟩,hg⟩;by_cases e:m=x.mask
 ·subst e;simp only[jB rfl];intro z;rw[Go.Maps.atKey_put_same hM (by trivial)]
 ·simp only[jA e];have h2:=hd m hm2;have a:(Lit.int .u32 (m:Int))≠Lit.int .u32 (x.mask:Int):=by intro g;injection g with _ g;exact e Qk
  cases hp:pl m with
  |none=>
   rw[hp]at h2;intro z;rw[aI a];exact h2 z
  |some y=>
   rw[hp]at h2;intro z;rw[aI a];exact h2 z
def Zjx.below{w w':World}{b n B:Nat}{pl:Nat->Option Dc}(h:Zjx w b n pl)(hb:Below B w w')(hlt:b<B):Zjx w' b n pl:=by
 obtain⟨D,ho,hm,hd⟩:=h;obtain⟨es,a,h1,h2⟩:=ho;exact⟨D,⟨es,a,(hb.block b hlt).trans h1,h2⟩,hm,hd⟩
def Zjx.lt{w:World}{b n:Nat}{pl:Nat->Option Dc}(h:Zjx w b n pl):b<w.heap.size:=by
 obtain⟨D,⟨es,a,h1,_⟩,_⟩:=h;exact ZU h1
def Zjx.blx{w w':World}{b n B g:Nat}{pl:Nat->Option Dc}(h:Zjx w b n pl)(hb:BlX B g w w')(hlt:b<B)(hne:b≠g):Zjx w' b n pl:=by
 obtain⟨D,ho,hm,hd⟩:=h;obtain⟨es,a,h1,h2⟩:=ho;exact⟨D,⟨es,a,(hb.block b hlt hne).trans h1,h2⟩,hm,hd⟩
def Pl.placeP_succ{L:List Dc}{t k:Nat}{x:Dc}(h:L[k]? =some x):placeP (L.take (k+1)) t=Zdn t (placeP (L.take k) t) x:=by
 rw[jP,h];exact Zic _ _ _
def Pl.prB(L:List Dc)(t:Nat)(x:Dc):Bool:=decide (((placeP L t) x.mask).map (·.idx)=some x.idx)
def info_ints:(prog.info? 22).map (λi=>(i.zero,i.size,i.bytes))=some (some (.slice none 0 0),1,24):=Qm
def Ypx(n:Nat):Array Value:=madeCells (Value.cells (.slice none 0 0)) (n*1)
def Ypl(n:Nat):Ypx n=(List.replicate n (Value.slice none 0 0)).toArray:=by
 unfold Ypx madeCells;simp[Value.cells,Nat.mod_one];exact Array.ext (by simp) (by simp)
def Ykg(n:Int)(h0:0<=n)(hn:n<=1099511627776)(w:World):
 (Instr.makeSlice 59 (.int .i64 n) (.int .i64 n)).run prog w= .ok (.slice (some ⟨w.heap.size,0,none⟩) n.toNat n.toNat) (w.alloc (.cells (Ypx n.toNat) 22)):=by
 obtain⟨k,rfl⟩:=JT h0;obtain⟨i0,hi,a,b,c⟩:=kL info_ints;have hb:(i0.bytes:Int)* (k:Int)<=281474976710656:=by rw[c];omega
 have hr:=BN (P:=prog) w 59 22 i0 _ underlying59 hi a .i64 .i64 k k Qk Qk hb Qk;simp only[JP,b]at hr;exact hr
def Ypy(gl q n:Nat)(R:List Dc)(p:Nat)(w:World):Prop:=∃cs,Bk w gl 22 cs/\cs.length=q/\∀k,p<=k->k<q->∃A m c,cs[k]? =some (.slice A m c)/\YF w (.slice A m c) (Yh n (R.drop k))
def Ypy.ils{gl q n:Nat}{R:List Dc}{w:World}(h:Ypy gl q n R 0 w)(hq:q=R.length+1)(hq7:q<=7):IlsM w (.slice (some ⟨gl,0,none⟩) q q) (V5 n R):=by
 obtain⟨cs,h1,h2,h3⟩:=h;have hl:(V5 n R).length=q:=by simp[V5,hq]
 refine⟨cs,⟨some ⟨gl,0,none⟩,q,by rw[hl],by rw[h2,hl];omega,by rw[hl];exact JY _,by unfold maxLen;omega,λ_=>⟨gl,0,_,_,rfl,h1,λj u hj=>by simpa using hj⟩⟩,λk x hk=>?_⟩;have a:k<q:=by rw[<-hl];exact(JO.1 hk).1
 rw[Zli Qk]at hk;injection hk with hk;subst hk;obtain⟨A,m,c,g1,g2⟩:=h3 k (iI _) a;refine⟨[.slice A m c],⟨A,m,c,rfl,g2⟩,rfl,λj y hj=>?_⟩;have b:j<1:=by have:=(JO.1 hj).1;simpa using this
 obtain rfl:j=0:=Qk
 simp only[gF,dV]at hj;subst hj;simpa using g1
def DcsM.elemOld{w w':World}{g:Nat}{t:TypeId}{A:Option Addr}{n c:Nat}{l:List Dc}{cs:List Value}(h:DcsM w (.slice A n c) l)(hx:BlX w.heap.size g w w')(hg:Bk w g t cs)(h1:t≠80){k:Nat}{x:Dc}(hk:l[k]? =some x):
 ∃b off A1 n1 c1,A=some ⟨b,off,none⟩/\(w'.cell? ⟨b,off+k*4,none⟩=some (.int .i64 (x.idx:Int))/\w'.cell? ⟨b,off+k*4+1,none⟩=some (.int .u32 (x.mask:Int))/\w'.cell? ⟨b,off+k*4+2,none⟩=some (.slice A1 n1 c1)/\w'.cell? ⟨b,off+k*4+3,none⟩=some (.int .i64 x.sur))/\YF w (.slice A1 n1 c1) (iL x.rows):=by
 obtain⟨us,r1,r2⟩:=h;have h':RdM (λ_=>DcR w) 80 4 w' (.slice A n c) l:=⟨us,r1.blx hx (hg.not_type h1),r2⟩;obtain⟨b,off,u,hA,a,⟨A1,n1,c1,rfl,hD⟩,hl,hc⟩:=RdM.elem h' hk;exact⟨b,off,A1,n1,c1,hA,⟨hc 0 _ rfl,hc 1 _ rfl,hc 2 _ rfl,hc 3 _ rfl⟩,hD⟩
def Ykh(g n t:Nat)(L:List Dc)(v0 v3 v4 v5 v6 v7 v8:Value)(w:World)(e:Ending)(w':World):Prop:=
 e= .returned (.tuple #[])/\∃Ac nc cc Al nl cl,Bk w' g 78 [v0,.slice Ac nc cc,.slice Al nl cl,v3,v4,v5,v6,v7,v8]/\DcsM w' (.slice Ac nc cc) (XV L t)/\IlsM w' (.slice Al nl cl) (V5 n (XV L t))/\BlX w.heap.size g w w'
def Ztp(g n t:Nat)(vC:Value)(L:List Dc)(v0 v3 v4 v5 v6 v7 v8:Value)(w:World)(hB:Bk w g 78 [v0,.slice none 0 0,.slice none 0 0,v3,v4,v5,v6,v7,v8])(hC:DcsM w vC L)(hL:Zpk n L)(hbd:∀x∈L,x.mask<64/\x.idx<1000/\ -200<=x.sur/\x.sur<=200)(hl:L.length<=6)(hn:n<=6)(ht:t<64):
 Calls prog 24 #[.pointer (some ⟨g,0,none⟩),vC,.int .u32 (t:Int),.int .i64 (n:Int)] w (Ykh g n t L v0 v3 v4 v5 v6 v7 v8 w):=by
 obtain⟨A,c,rfl,dx,el⟩:=RdM.shape hC;obtain⟨N,hN⟩:∃N,N=L.length:=⟨_,rfl⟩;rw[<-hN]at hC dx hl⊢;have HN:=JZ hN;have HC:=JZ hC;have a5:=JZ hL;have ay:=JZ hbd;have d8:g<w.heap.size:=hB.lt;have d9:=@run_makeMap prog;have C:=Zjx.made w;have s:=Ze w (.map #[] 0);clear hC hN hL hbd;go_enter func24,ntmps24;go_wp2;clear d9;generalize w.alloc (.map #[] 0)=W1 at *
 go_loopw [25] (λx wr=>∃k:Nat,k<=N/\x= .int .i64 k/\Below w.heap.size w wr/\Zjx wr w.heap.size k (placeP (L.take k) t)) (λx _=>N - (intOf x).toNat)
 case atStart=>exact⟨0,Qk,rfl,s,by simpa[placeP]using C⟩
 case round=>
  clear s C;obtain⟨k,hk,rfl,hb,C⟩:=hrel;rcases JX k N with hkl|hkl
  ·have da:(k:Int)<N:=Qk;obtain⟨x,hx⟩:∃x,L[k]? =some x:=⟨L[k]'(by rw[<-HN.out];exact hkl),JQ _⟩;obtain⟨bx,ox,A1,n1,c1,ag,_,⟨p0,p1,p2,p3⟩,hI⟩:=HC.out.elem hb hx;subst ag;have HX:=JZ hx;obtain⟨a3,a4,bf,bg⟩:=ay.out x (jC hx);have e5:=u32_and (a:=x.mask) (b:=t) Qk Qk;have aj:=JZ (placeP_succ (t:=t) hx);clear hx hI;have az:Hid (True):=JZ trivial;clear az;by_cases ai:x.mask &&& t=0/\x.sur<=0
   ·obtain⟨hz,bh⟩:=ai;have br:(((x.mask &&& t:Nat):Int) !=0)=false:=(by rw[hz];rfl);have bs:¬0<x.sur:=Qk
    go_upto_region 5 with(fail)
    have u:=Bk.new wr 80 [.int .i64 (x.idx:Int),.int .u32 (x.mask:Int),.slice A1 n1 c1,.int .i64 x.sur];have f:=Ze wr (.cells #[.int .i64 (x.idx:Int),.int .u32 (x.mask:Int),.slice A1 n1 c1,.int .i64 x.sur] 80);have e:(#[.int .i64 (x.idx:Int),.int .u32 (x.mask:Int),.slice A1 n1 c1,.int .i64 x.sur]:Array Value)=[.int .i64 (x.idx:Int),.int .u32 (x.mask:Int),.slice A1 n1 c1,.int .i64 x.sur].toArray:=rfl;rw[<-e]at u;clear e;generalize wr.alloc (.cells #[.int .i64 (x.idx:Int),.int .u32 (x.mask:Int),.slice A1 n1 c1,.int .i64 x.sur] 80)=W at *;have ab:=C.below f C.lt;have I:=Za hb f hb.size;have J:=ab.look x.mask a3;have q1:=u.cellAt 1 rfl;have q0:=u.cellAt 0 rfl;have q3:=u.cellAt 3 rfl;have S:=JZ ab;have b0:=JZ (Zve (t:=t) (a5.out.asc.sublist (Bh k L)));have eb:w.heap.size<wr.heap.size:=C.lt;clear hb C f p0 p1 p2 p3 ab;generalize wr.heap.size=gx at *;have bt:placeP (L.take (k+1)) t=(λm=>if m=x.mask then some x else placeP (L.take k) t m)->∀w7:World,Below W.heap.size W w7->∃w',(Instr.mapUpdate 117 (.map (some w.heap.size)) (.int .u32 (x.mask:Int)) (.int .i64 (x.idx:Int))).run prog w7= .ok () w'/\Zjx w' w.heap.size (k+1) (placeP (L.take (k+1)) t)/\Below w.heap.size w w':=λe w7 h7=>by
     obtain⟨w',h1,h2,h3⟩:=(S.out.below h7 S.out.lt).put Qk x a3 a4;exact⟨w',h1,by rw[e];exact h2,(Za I h7 I.size).grown h3 (by have:=I.size;have:=h7.size;omega) (λq hq=>by injection hq with hq;omega)⟩
    have ac:=JZ bt;clear bt
    cases hpm:placeP (L.take k) t x.mask with
    |none=>
     rw[hpm]at J;have HS:Hid (placeP (L.take (k+1)) t=λm=>if m=x.mask then some x else placeP (L.take k) t m):=JZ (by rw[aj.out];unfold Zdn;rw[jB ⟨hz,bh⟩,hpm]);simp only[plIdx,Option.isSome_none]at J;clear hpm
     go_upto_region 6 with(fail)
     have d:=Zc W;refine Zj 12 [0,1,2,3,4,5,6,7,8,9,10,11] Qm Qm ?_;refine Qd ?_
     refine Zl ?_;obtain⟨w7,dy,bi,M⟩:=ac.out HS.out W.drew d;have Q1:=Zi d q1;have Q0:=Zi d q0;clear J q0 q1 q3 ac S I u;generalize W.drew=W' at *;go_wp2;go_roundw
     case rel=>exact⟨k+1,Qk,by go_num,M,bi⟩
     case measure=>exact Qn
    |some y=>
     rw[hpm]at J;simp only[plIdx,Option.isSome_some]at J;obtain⟨cy,dz,_⟩:=b0.out.1 x.mask y hpm;have ad:=a5.out.at_ (aZ cy);have ec:y.idx<N:=(by rw[HN.out];exact(JO.1 ad).1);have ed:(y.idx:Int)<N:=Qk;obtain⟨em,oy,A2,n2,c2,bj,_,⟨_,_,_,r3⟩,_⟩:=HC.out.elem (I) ad;injection bj with bj;injection bj with e1 e2 _;subst e1 e2;clear cy dz ad;by_cases H:x.sur<y.sur
     ·have HS:Hid (placeP (L.take (k+1)) t=λm=>if m=x.mask then some x else placeP (L.take k) t m):=JZ (by rw[aj.out];unfold Zdn;rw[jB ⟨hz,bh⟩,hpm];simp only;rw[jB H]);have hd:decide (x.sur<y.sur)=true:=(by simpa using H);clear hpm H
      go_upto_region 6 with(fail)
      have C0:=Zm r3;have C1:=Zm q3;have d:=Zc W;refine Zj 12 [0,1,2,3,4,5,6,7,8,9,10,11] Qm Qm ?_;refine Qd ?_
      refine Zl ?_;obtain⟨w7,dy,bi,M⟩:=ac.out HS.out W.drew d;have Q1:=Zi d q1;have Q0:=Zi d q0;clear J q0 q1 q3 ac S I u C0 C1 r3;generalize W.drew=W' at *;go_wp2;go_roundw
      case rel=>exact⟨k+1,Qk,by go_num,M,bi⟩
      case measure=>exact Qn
     ·have HS:Hid (placeP (L.take (k+1)) t=placeP (L.take k) t):=JZ (by rw[aj.out];unfold Zdn;rw[jB ⟨hz,bh⟩,hpm];simp only;rw[jA H]);have hd:decide (x.sur<y.sur)=false:=(by simpa using H);clear hpm H
      go_upto_region 6 with(fail)
      have C0:=Zm r3;have C1:=Zm q3;have d:=Zc W;refine Zj 12 [0,1,2,3,4,5,6,7,8,9,10,11] Qm Qm ?_;refine Qd ?_
      refine Zl ?_;have ak:Hid (Zjx W.drew w.heap.size (k+1) (placeP (L.take (k+1)) t)):=JZ (by rw[HS.out];obtain⟨D,h1,h2⟩:=S.out.below d S.out.lt;exact⟨D,h1.mono Qk,h2⟩);have M:=Za I d I.size;clear J q0 q1 q3 ac S I u C0 C1 r3;generalize W.drew=W' at *;go_wp2;go_roundw
      case rel=>exact⟨k+1,Qk,by go_num,M,ak.out⟩
      case measure=>exact Qn
   ·have HS:Hid (placeP (L.take (k+1)) t=placeP (L.take k) t):=JZ (by rw[aj.out];unfold Zdn;rw[jA ai]);have f:=Ze wr (.cells #[.int .i64 (x.idx:Int),.int .u32 (x.mask:Int),.slice A1 n1 c1,.int .i64 x.sur] 80);have ak:Hid (Zjx (wr.alloc (.cells #[.int .i64 (x.idx:Int),.int .u32 (x.mask:Int),.slice A1 n1 c1,.int .i64 x.sur] 80)) w.heap.size (k+1) (placeP (L.take (k+1)) t)):=JZ (by rw[HS.out];obtain⟨D,h1,h2⟩:=C.below f C.lt;exact⟨D,h1.mono Qk,h2⟩);have M:=Za hb f hb.size;clear C f hb;by_cases hz:x.mask &&& t=0
    ·have br:(((x.mask &&& t:Nat):Int) !=0)=false:=(by rw[hz];rfl);have bs:0<x.sur:=by
      rcases jR 0 x.sur with h|h
      ·exact h
      ·exact absurd ⟨hz,h⟩ ai
     clear ai hz;go_wp2;go_roundw
     case rel=>exact⟨k+1,Qk,by go_num,M,ak.out⟩
     case measure=>exact Qn
    ·have br:(((x.mask &&& t:Nat):Int) !=0)=true:=(by simpa using hz);clear ai hz;go_wp2;go_roundw
     case rel=>exact⟨k+1,Qk,by go_num,M,ak.out⟩
     case measure=>exact Qn
  ·obtain rfl:N=k:=Qk
   have bu:Hid (Zjx wr w.heap.size N (placeP L t)):=JZ (by rw[YK HN.out]at C;exact C);have b1:=hB.later hb;have bv:=JZ (HC.out.below hb);have bw:Hid (BlX w.heap.size g w wr):=JZ (BlX.of_below hb);have al:w.heap.size<wr.heap.size:=C.lt;have bz:=JZ (Nat.ne_of_gt d8);have e6:g<wr.heap.size:=Qk;clear C hb hB HC;go_wp2;generalize wr=W2 at *
   go_loopw [66] (λx wr=>∃(k:Nat) (Ac:Option Addr) (nc cc:Nat),k<=N/\x= .int .i64 k/\BlX W2.heap.size g W2 wr/\Bk wr g 78 [v0,.slice Ac nc cc,.slice none 0 0,v3,v4,v5,v6,v7,v8]/\Hid (DcsO W2.heap.size wr (.slice Ac nc cc) ((L.take k).filter (prB L t)))) (λx _=>N - (intOf x).toNat)
   case atStart=>exact⟨0,none,0,0,Qk,rfl,BlX.refl _ _ _,b1,JZ (by rw[List.take_zero];exact RdO.nil _ _ _ _)⟩
   case round=>
    obtain⟨k,Ac,nc,cc,hk,rfl,hX,P,HO⟩:=hrel;rcases JX k N with hkl|hkl
    ·have da:(k:Int)<N:=Qk;obtain⟨x,hx⟩:∃x,L[k]? =some x:=⟨L[k]'(by rw[<-HN.out];exact hkl),JQ _⟩;obtain⟨bx,ox,A1,n1,c1,ag,_,⟨p0,p1,p2,p3⟩,hI⟩:=(bv.out.blx hX b1 Ql Ql).elem (JR _ _) hx;subst ag;obtain⟨a3,a4,bf,bg⟩:=ay.out x (jC hx);have c0:=JZ (UD (p:=prB L t) hx);clear hx
     go_upto_region 12 with(fail)
     have u:=Bk.new wr 80 [.int .i64 (x.idx:Int),.int .u32 (x.mask:Int),.slice A1 n1 c1,.int .i64 x.sur];have f:=Ze wr (.cells #[.int .i64 (x.idx:Int),.int .u32 (x.mask:Int),.slice A1 n1 c1,.int .i64 x.sur] 80);have e:(#[.int .i64 (x.idx:Int),.int .u32 (x.mask:Int),.slice A1 n1 c1,.int .i64 x.sur]:Array Value)=[.int .i64 (x.idx:Int),.int .u32 (x.mask:Int),.slice A1 n1 c1,.int .i64 x.sur].toArray:=rfl;rw[<-e]at u;clear e;generalize wr.alloc (.cells #[.int .i64 (x.idx:Int),.int .u32 (x.mask:Int),.slice A1 n1 c1,.int .i64 x.sur] 80)=W at *;have F:=hX.then f hX.size;have K:=P.later f;have T:Hid (DcsO W2.heap.size W (.slice Ac nc cc) ((L.take k).filter (prB L t))):=JZ (HO.out.below f);have db:=JZ (hI.below f);have J:=(bu.out.blx F al bz.out).look x.mask a3;have ee:wr.heap.size<W.heap.size:=u.lt;have ef:W2.heap.size<=wr.heap.size:=hX.size;clear hX P HO hI f p0 p1 p2 p3;generalize wr.heap.size=gx at *;obtain⟨q0,q1,q2,q3⟩:=u.four;have U:(prB L t x=true/\(plIdx (placeP L t x.mask)=(x.idx:Int))/\(placeP L t x.mask).isSome=true)\/(prB L t x=false/\((placeP L t x.mask).isSome=false\/((placeP L t x.mask).isSome=true/\(plIdx (placeP L t x.mask)==(x.idx:Int))=false))):=by
      unfold prB
      cases placeP L t x.mask with
      |none=>exact .inr ⟨by simp,.inl rfl⟩
      |some y=>
       by_cases e:y.idx=x.idx
       ·exact .inl ⟨by simp[e],by simp[plIdx,e],rfl⟩
       ·exact .inr ⟨by simp[e],.inr ⟨rfl,by simp[plIdx];omega⟩⟩
     generalize plIdx (placeP L t x.mask)=pi at *;generalize(placeP L t x.mask).isSome=ps at *;rcases U with⟨hp,rfl,rfl⟩|⟨hp,U⟩
     ·have HE:Hid ((L.take (k+1)).filter (prB L t)=(L.take k).filter (prB L t)++[x]):=JZ (by rw[c0.out,hp];rfl);clear hp
      go_upto_region 14 with(fail)
      obtain⟨x0,x1,x2,x3,x4,x5,x6,x7,x8⟩:=K.nine;have C0:=Zm x1;have D0:=Zm q0;have D1:=Zm q1;have D2:=Zm q2;have D3:=Zm q3;have d:=Zc W;have c3:((L.take k).filter (prB L t)).length+1<=1099511627776:=by
       have h1:=jq (prB L t) (L.take k);have h2:=vT k L;omega
      clear x0 x1 x2 x3 x4 x5 x6 x7 x8 q0 q1 q2 q3;refine Zj 7 [0,1,2,3,4,5,6,7,8,9,10] Qm Qm ?_;refine Qb ?_
      refine Qo λ_ kq=>?_;refine kq.out _ _ (.inr (Za d (Ze _ _) d.size)) ?_;clear kq;refine Qj ?_;obtain⟨en,cz,ax,bl,d0,d1,e0,d2⟩:=Zae 69 W.drew W2.heap.size (.slice Ac nc cc) _ x A1 n1 c1 (T.out.below d) (db.out.below d) c3 (by have:=d.size;omega);obtain⟨a7,a8,a9,rfl⟩:=RdO.sliceN bl;refine Zd rfl rfl (λ_ kq=>?_);refine ZR _ _ rfl rfl rfl rfl ax ?_;refine kq.out _ _ (.inl Ql) (Qj ?_);clear kq;have O:=d0.bk (K.later d) Ql;obtain⟨x0,x1,x2,x3,x4,x5,x6,x7,x8⟩:=O.nine;have f1:=O.frozen 1;refine Qh ?_;refine Qh ?_;refine Qh ?_;refine Zl ?_;have kk:=Zf.setCell O 1 (.slice a7 a8 a9);have au:=O.set_ 1 (.slice a7 a8 a9);simp only[jO,jL]at au;have c5:Hid (DcsO W2.heap.size (cz.setCell ⟨g,1,none⟩ (.slice a7 a8 a9)) (.slice a7 a8 a9) ((L.take k).filter (prB L t)++[x])):=JZ (RdO.keep bl kk Ql λ_ _ h=>h.but kk Ql);have c6:=((F.then d F.size).trans (BlX.of_below d1)).setCell 1 (.slice a7 a8 a9);clear kk O ax bl d0 d1 e0 d2 K F T d C0 D0 D1 D2 D3 x0 x1 x2 x3 x4 x5 x6 x7 x8 f1 J u;generalize cz.setCell ⟨g,1,none⟩ (.slice a7 a8 a9)=et at *;go_wp2;go_roundw
      case rel=>exact⟨k+1,_,_,_,Qk,by go_num,c6,au,by rw[HE.out];exact c5⟩
      case measure=>exact Qn
     ·have HE:Hid ((L.take (k+1)).filter (prB L t)=(L.take k).filter (prB L t)):=JZ (by rw[c0.out,hp];simp);clear hp;rcases U with rfl|⟨rfl,hne⟩
      ·go_wp2;go_roundw
       case rel=>exact⟨k+1,Ac,nc,cc,Qk,by go_num,F,K,by rw[HE.out];exact T⟩
       case measure=>exact Qn
      ·go_wp2;go_roundw
       case rel=>exact⟨k+1,Ac,nc,cc,Qk,by go_num,F,K,by rw[HE.out];exact T⟩
       case measure=>exact Qn
    ·obtain rfl:N=k:=Qk
     have b2:Hid (DcsM wr (.slice Ac nc cc) (XV L t)):=JZ (by have:=HO.out;rw[YK HN.out]at this;exact RdO.rd this);have b3:=bw.out.trans (hX.mono (jZ al |> λh=>jZ al));have c7:=(RdM.len b2.out).1;have eg:nc<=6:=by
      have h1:(XV L t).length<=L.length:=jq _ _;have h2:=HN.out;omega
     have b5:=JZ c7;have c8:Hid (∀x∈XV L t,x.mask<64/\x.idx<1000/\ -200<=x.sur/\x.sur<=200):=JZ (λx hx=>ay.out x (jk.1 hx).1);have b0:Hid (∀x∈XV L t,Yfl n x):=JZ (λx hx=>a5.out.ok x (jk.1 hx).1);clear hX c7 HO bu bv b1 bw al bz;generalize hR:XV L t=R at *;have HR:=JZ hR;clear hR;generalize wr=W3 at *;have c9:=Ykg ((nc:Int)+1) Qk Qk W3;obtain⟨q,hq⟩:∃q,q=nc+1:=⟨_,rfl⟩;have e1:((nc:Int)+1).toNat=q:=Qk;rw[e1]at c9;clear e1;have HQ:=JZ hq;have m2:(nc:Int)<q:=Qk;have dc:q<=7:=Qk;clear hq;have f2:=P.frozen 2;have eh:g<W3.heap.size:=P.lt;obtain⟨x0,x1,x2,x3,x4,x5,x6,x7,x8⟩:=P.nine
     go_upto_region 17 with(fail)
     have kk:=Zf.setCell P 2 (.slice (some ⟨W3.heap.size,0,none⟩) q q);have K:=P.set_ 2 (.slice (some ⟨W3.heap.size,0,none⟩) q q);simp only[jO,jL]at K;have s:=Ze (W3.setCell ⟨g,2,none⟩ (.slice (some ⟨W3.heap.size,0,none⟩) q q)) (.cells (Ypx q) 22);have E:=Bk.new (W3.setCell ⟨g,2,none⟩ (.slice (some ⟨W3.heap.size,0,none⟩) q q)) 22 (List.replicate q (.slice none 0 0));rw[<-Ypl]at E;have ae:(W3.setCell ⟨g,2,none⟩ (.slice (some ⟨W3.heap.size,0,none⟩) q q)).heap.size=W3.heap.size:=(by simp);rw[ae]at E;have V:=K.later s;have F:=b3.setCell 2 (.slice (some ⟨W3.heap.size,0,none⟩) q q);have a6:=F.then s F.size;have T:Hid (DcsM (W3.setCell ⟨g,2,none⟩ (.slice (some ⟨W3.heap.size,0,none⟩) q q)) (.slice Ac nc cc) R):=JZ (RdM.keep b2.out kk Ql λ_ _ h=>h.but kk Ql);have ca:=JZ (T.out.below s);have e7:W3.heap.size< ((W3.setCell ⟨g,2,none⟩ (.slice (some ⟨W3.heap.size,0,none⟩) q q)).alloc (.cells (Ypx q) 22)).heap.size:=(by simp);have cb:w.heap.size<=W3.heap.size:=b3.size;clear kk s K c9 x0 x1 x2 x3 x4 x5 x6 x7 x8 f2 P b3 b2 F T ae;generalize(W3.setCell ⟨g,2,none⟩ (.slice (some ⟨W3.heap.size,0,none⟩) q q)).alloc (.cells (Ypx q) 22)=W5 at *;generalize W3.heap.size=gl at *;obtain⟨x0,x1,x2,x3,x4,x5,x6,x7,x8⟩:=V.nine;have C1:=Zm x1;have C2:=Zm x2;have d:=Zc W5;have dd:=Zab n Qk W5.drew;have m1:(0:Int)<=(nc:Int):=Qk;clear x0 x1 x2 x3 x4 x5 x6 x7 x8;have s:=Za (Ze W5 (.cells (zic n) 3)) (Zc (W5.alloc (.cells (zic n) 3))) (Ze W5 (.cells (zic n) 3)).size;have G:=E.later s;have f1:=G.frozen nc;have g1:=G.cellAt nc (v:= .slice none 0 0) (by rw[kT,jB Qk]);refine Zj 12 [0,1,2,3,4,5,6,7,8,9,10,11,12] Qm Qm ?_;refine Qb ?_
     refine Qo λ_ kq=>?_;refine kq.out _ _ (.inr s) (Qc ?_);clear kq
     refine Qh ?_;refine Zl ?_;clear f1 g1 G s C1 C2 dd d;have kk:=Zf.setCell E nc (.slice (some ⟨W5.heap.size,0,none⟩) n n);have ae:(W5.setCell ⟨gl,nc,none⟩ (.slice (some ⟨W5.heap.size,0,none⟩) n n)).heap.size=W5.heap.size:=(by simp);have s:=Za (Ze (W5.setCell ⟨gl,nc,none⟩ (.slice (some ⟨W5.heap.size,0,none⟩) n n)) (.cells (zic n) 3)) (Zc _) (Ze (W5.setCell ⟨gl,nc,none⟩ (.slice (some ⟨W5.heap.size,0,none⟩) n n)) (.cells (zic n) 3)).size;have b6:=(Zt.zeros (W5.setCell ⟨gl,nc,none⟩ (.slice (some ⟨W5.heap.size,0,none⟩) n n)) n (by unfold maxLen;omega)).typed.below (Zc _);rw[ae]at b6;have b7:=(kk.bk V Ql).later s;have G:=(E.set_ nc (.slice (some ⟨W5.heap.size,0,none⟩) n n)).later s;have cd:Hid (DcsM (W5.setCell ⟨gl,nc,none⟩ (.slice (some ⟨W5.heap.size,0,none⟩) n n)) (.slice Ac nc cc) R):=JZ (RdM.keep ca.out kk Ql λ_ _ h=>h.but kk Ql);have de:=JZ (cd.out.below s);have b8:BlX w.heap.size g w (W5.setCell ⟨gl,nc,none⟩ (.slice (some ⟨W5.heap.size,0,none⟩) n n)):=a6.trans (BlX.of_below ((JR _ _).setCell (p:=⟨gl,nc,none⟩) cb _));have ce:=b8.then s b8.size;have af:Hid (Ypy gl q n R nc (((W5.setCell ⟨gl,nc,none⟩ (.slice (some ⟨W5.heap.size,0,none⟩) n n)).alloc (.cells (zic n) 3)).drew)):=JZ ⟨_,G,by simp,λk h1 h2=>by
      obtain rfl:k=nc:=by have:=HQ.out;omega
      refine⟨_,_,_,jM (by simp;omega),?_⟩;have e:Yh n (R.drop k)=List.replicate n 0:=(by rw[kX (by have:=b5.out;omega)];rfl);rw[e];exact b6⟩
     clear kk s b6 G cd b8 E V ca a6 ae;generalize((W5.setCell ⟨gl,nc,none⟩ (.slice (some ⟨W5.heap.size,0,none⟩) n n)).alloc (.cells (zic n) 3)).drew=W6 at *;have cf:g≠gl:=Qk;obtain⟨x0,x1,x2,x3,x4,x5,x6,x7,x8⟩:=b7.nine;go_wp2;clear x0 x1 x2 x3 x4 x5 x6 x7 x8;obtain⟨eo,bm,_,_⟩:=id af.out;have ei:=bm.lt;have df:=JZ bm;clear bm
     go_loopw [17] (λs17 wr=>∃(p:Nat) (z:Int),p<=nc/\z+1=p/\s17= .int .i64 z/\BlX W6.heap.size gl W6 wr/\Hid (Ypy gl q n R p wr)) (λs17 _=>(intOf s17+1).toNat)
     case atStart=>exact⟨nc,_,JY _,Qk,rfl,BlX.refl _ _ _,af⟩
     case round=>
      clear af;obtain⟨p,z,hp,hz,rfl,hX,a5⟩:=hrel;have am:=hX.bk b7 b7.lt cf;obtain⟨x0,x1,x2,x3,x4,x5,x6,x7,x8⟩:=am.nine;have cg:Hid (DcsM wr (.slice Ac nc cc) R):=JZ (de.out.blx hX df.out Ql Ql);rcases JV p with hp0|hp0
      ·obtain rfl:z= -1:=Qk
       have HF:Hid (IlsM wr (.slice (some ⟨gl,0,none⟩) q q) (V5 n R)):=JZ (Ypy.ils (by have:=a5.out;rw[hp0]at this;exact this) (by rw[<-b5.out];exact HQ.out) dc);have dg:=ce.trans (BlX.of_below (hX.below (by have:=ce.size;omega) Qk));clear hp0 hz;go_wp2
       go_end0
       exact⟨rfl,Ac,nc,cc,_,_,_,am,by rw[HR.out];exact cg.out,by rw[HR.out];exact HF.out,dg⟩
      ·obtain⟨i,rfl⟩:∃i,p=i+1:=⟨p - 1,Qk⟩;obtain rfl:z=(i:Int):=Qk
       obtain⟨cs,ah,d3,Y⟩:=a5.out;obtain⟨Ar,mr,cr,d4,d5⟩:=Y (i+1) (JY _) (by have:=HQ.out;omega);obtain⟨vi,d6⟩:∃v,cs[i]? =some v:=⟨_,JQ (by have:=HQ.out;omega)⟩;have g1:=ah.cellAt (i+1) d4;have g0:=ah.cellAt i d6;have i0:(0:Int)<=(i:Int):=Qk;have i1:(i:Int)<q:=(by have:=HQ.out;omega);have i2:(i:Int)+1<q:=(by have:=HQ.out;omega);have i3:(0:Int)<=(i:Int)+1:=Qk;have i4:(i:Int)<nc:=Qk;have an:=JZ (And.intro d3 Y);have dh:=JZ d5.ints;have C1:=Zm g1;have C2:=Zm x2;have d:=Zc wr;clear hz d4 d6 d3 Y d5
       go_upto_region 21 with(fail)
       clear x0 x1 x2 x3 x4 x5 x6 x7 x8 g1;refine Zj 15 [0,1,2,3,4,5,6,7,8,9,10,11,12,13,14,15] Qm Qm ?_;refine Qb ?_
       refine Qo λ_ kq=>?_;(with_reducible refine(Zjc _ (Yh n (R.drop (i+1))) _ (dh.out.below d) (by rw[Zfk];omega)).mono ?_);rintro _ w4 ⟨v4,rfl,e4,bq⟩;obtain⟨A4,n4,c4,rfl⟩:=e4.sliceN;have X:=Za d bq d.size;refine kq.out _ _ (.inr X) (Qj ?_);clear kq;have a0:=ah.later X;have f1:=a0.frozen i;have g2:=Zi X g0;refine Qb ?_
       refine Qh ?_;refine Zl ?_;have ch:wr.heap.size<=wr.drew.heap.size:=d.size;have av:wr.drew.heap.size<=w4.heap.size:=bq.size;have kk:=Zf.setCell a0 i (.slice A4 n4 c4);have V:=kk.bk (am.later X) Ql;have E:=a0.set_ i (.slice A4 n4 c4);have ci:=e4.but kk Ql;have a6:=(hX.then X hX.size).setCell i (.slice A4 n4 c4);have ao:BlX wr.heap.size gl wr (w4.setCell ⟨gl,i,none⟩ (.slice A4 n4 c4)):=(BlX.of_below X).setCell i (.slice A4 n4 c4);have cj:wr.drew.heap.size<=(w4.setCell ⟨gl,i,none⟩ (.slice A4 n4 c4)).heap.size:=(by simpa using av);have b9:=JZ ah;have di:Hid (W6.heap.size<=wr.drew.heap.size):=JZ (JW hX.size ch);clear kk am a0 f1 g2 e4 bq X d C1 C2 av hX ah g0;generalize w4.setCell ⟨gl,i,none⟩ (.slice A4 n4 c4)=w5 at *;generalize wr.drew.heap.size=bI at *;have ck:=JZ ci;clear ci;obtain⟨x,hx⟩:∃x,R[i]? =some x:=⟨R[i]'(by rw[<-b5.out];omega),JQ _⟩;obtain⟨bx,ox,A1,n1,c1,ag,⟨p0,p1,p2,p3⟩,hI⟩:=cg.out.elemOld ao b9.out Ql hx;subst ag;have cl:=JZ hI;have cm:=hI.ints.lenE;have ba:=JZ (jC hx);have dj:Hid (R.drop i=x::R.drop (i+1)):=JZ (drop_at hx);have a1:=JZ (b0.out x ba.out);obtain⟨_,_,bf,bg⟩:=c8.out x ba.out;have bb:n1=x.rows.length:=(by rw[cm];simp[iL]);have cn:1<=n1:=(by have:=BH.2 a1.out.ne;omega);have e8:n1<=6:=by
        have h1:=ZZ (b:=List.range n) a1.out.nd (λr hr=>iT.2 (a1.out.rg r hr));rw[aQ]at h1;omega
       have bc:=JZ bb;have co:Hid (x.sur/ (n1:Int)=Xz x):=JZ (by unfold Xz;rw[bb]);obtain⟨x0,x1,x2,x3,x4,x5,x6,x7,x8⟩:=V.nine;clear hx hI cm bb ba;go_wp2_with fail;have u:=Bk.new w5 80 [.int .i64 (x.idx:Int),.int .u32 (x.mask:Int),.slice A1 n1 c1,.int .i64 x.sur];have f:=Ze w5 (.cells #[.int .i64 (x.idx:Int),.int .u32 (x.mask:Int),.slice A1 n1 c1,.int .i64 x.sur] 80);have e:(#[.int .i64 (x.idx:Int),.int .u32 (x.mask:Int),.slice A1 n1 c1,.int .i64 x.sur]:Array Value)=[.int .i64 (x.idx:Int),.int .u32 (x.mask:Int),.slice A1 n1 c1,.int .i64 x.sur].toArray:=rfl;rw[<-e]at u;clear e;generalize w5.alloc (.cells #[.int .i64 (x.idx:Int),.int .u32 (x.mask:Int),.slice A1 n1 c1,.int .i64 x.sur] 80)=W7 at *;refine(Zqs x.sur n1 _ cn Qk Qk Qk).mono ?_;rintro _ W8 ⟨rfl,rfl⟩;have dk:=V.later f;have cp:=E.later f;have aw:=a6.then f a6.size;have dl:=ao.then f ao.size;have cq:=JZ (ck.out.below f);have e9:bI<=W8.heap.size:=JW cj f.size;clear x0 x1 x2 x3 x4 x5 x6 x7 x8 p0 p1 p2 p3 V E a6 ao ck f;generalize x.sur/ (n1:Int)=sh at *;have q2:=u.cellAt 2 rfl;go_wp2;clear q2;have dm: -1000<=sh/\sh<=1000:=by
        have h1:=Zwm bf;have h2:=co.out;have h3:Xz x<=1000:=by
         have e:Xz x=x.sur/ (x.rows.length:Int):=rfl;rw[e,<-bc.out];refine gH (Int.ediv_le_ediv Qk bg) ?_;exact gH (vJ _ Qk) Qk
        omega
       obtain⟨ep,er⟩:=dm;have ct:=Zwn (n:=n) (l:=R.drop (i+1)) λy hy=>(c8.out y (cK hy)).2.2.1
       have ej:=JZ ct;clear ct;generalize wr=wo at *
       go_loopw [158] (λs158 wx=>∃j:Nat,j<=n1/\s158= .int .i64 j/\Zf 3 W8 wx/\Below bI W8 wx/\Hid (Zt bI wx (.slice A4 n4 c4) ((x.rows.take j).foldl (λa r=>WJ a r (Xz x)) (Yh n (R.drop (i+1)))))) (λs158 _=>n1 - (intOf s158).toNat)
       case atStart=>exact⟨0,Qk,rfl,Zf.refl _ _,JR _ _,JZ (by simpa using cq.out)⟩
       case round=>
        clear cq;obtain⟨j,hj,rfl,aa,Z,HE⟩:=hrel;have ap:BlX wo.heap.size gl wo wr:=dl.trans (BlX.of_below (Z.mono ch));have bd:=aa.bk dk Ql;have a2:=aa.bk cp Ql;have cu:=aa.bk u Ql;have dn:=JZ (cl.out.blx ap b9.out Ql);rcases JX j n1 with hjl|hjl
        ·have ek:(j:Int)<n1:=Qk;obtain⟨r,hr⟩:∃r,x.rows[j]? =some r:=⟨x.rows[j]'(by rw[<-bc.out];exact hjl),JQ _⟩;have cv:(iL x.rows)[j]? =some (r:Int):=(by unfold iL;rw[bJ,hr];rfl);obtain⟨b4,o4,rz,e3,bn,ar,_,_⟩:=dn.out.ints.elem (JR _ _) hjl;subst e3;rw[cv]at ar;injection ar with ar;subst ar;have cw:=a1.out.rg r (jC hr);have dp:Hid ((x.rows.take (j+1)).foldl (λa r=>WJ a r (Xz x)) (Yh n (R.drop (i+1)))=WJ ((x.rows.take j).foldl (λa r=>WJ a r (Xz x)) (Yh n (R.drop (i+1)))) r (Xz x)):=JZ (by rw[jP,hr,List.foldl_append];rfl);have aq:Hid (((x.rows.take j).foldl (λa r=>WJ a r (Xz x)) (Yh n (R.drop (i+1)))).length=n):=JZ (by
          have:∀(rows:List Nat) (a:List Int),(rows.foldl (λa r=>WJ a r (Xz x)) a).length=a.length:=by
           intro rows
           induction rows with
           |nil=>intro a;rfl
           |cons r rows ih2=>intro a;rw[iU,ih2,U7]
          rw[this,Zfk])
         generalize(x.rows.take j).foldl (λa r=>WJ a r (Xz x)) (Yh n (R.drop (i+1)))=ZL at *;obtain⟨gb,es,bo,d7,_,_,_⟩:=HE.out.shape (by rw[aq.out];omega);have cx:n4=n:=(by rw[HE.out.len];exact aq.out);injection bo with bo hx1 hx2;subst bo;clear hx1 hx2;have be:=HE.out;obtain⟨zc,bp⟩:∃z,ZL[r]? =some z:=⟨ZL[r]'(by rw[aq.out];exact cw),JQ _⟩;obtain⟨y1,y2,y3,y4⟩:=be.at_ bp;have ea:(r:Int)<n4:=(by rw[cx];omega);have g1:=a2.cellAt i (jM (by have:=an.out.1;omega));obtain⟨x0,x1,x2,x3,x4,x5,x6,x7,x8⟩:=bd.nine;have dq:Hid (ZL.getD r 0=zc):=JZ (by rw[ja,bp];rfl);clear hr cv bp cx
         go_upto_region 27 with(fail)
         have C0:=Zm x2;have C1:=Zm g1;have C2:=Zm y1;have d:=Zc wr;clear x0 x1 x2 x3 x4 x5 x6 x7 x8;refine Zj 21 [0,1,2,3,4,5,6,7,8,9,10,11,12,13,14,15,16,17,18,19,20,21] Qm Qm ?_;refine Qb ?_
         refine Qo λ_ kq=>?_;refine kq.out _ _ (.inr d) (Qc ?_);clear kq
         refine Qh ?_;refine Zl ?_;obtain⟨z1,z2⟩:=be.set_ (k:=r) (by rw[aq.out];exact cw) (z:=if sh<zc then sh else zc) (by split <;> omega) (by split <;> omega);have dr:=(aa.trans z2).then ((Zc (wr.setCell ⟨gb,r,none⟩ (.int .i64 (if sh<zc then sh else zc)))).mono (by have:=Z.size;simp;omega));have ds:=(Z.setCell (p:=⟨gb,r,none⟩) d7 (.int .i64 (if sh<zc then sh else zc))).trans ((Zc (wr.setCell ⟨gb,r,none⟩ (.int .i64 (if sh<zc then sh else zc)))).mono (by have:=Z.size;simp;omega));have dt:Hid (Zt bI (wr.setCell ⟨gb,r,none⟩ (.int .i64 (if sh<zc then sh else zc))).drew (.slice (some ⟨gb,0,none⟩) n4 c4) (WJ ZL r (Xz x))):=JZ (by
          have e:WJ ZL r (Xz x)=ZL.set r (if sh<zc then sh else zc):=by
           have e2:min zc sh=if sh<zc then sh else zc:=by split <;> omega
           unfold WJ;rw[dq.out,<-co.out,e2]
          rw[e];exact z1.below (Zc _))
         clear z1 z2 y1 y2 y3 y4 g1 d7 be d C0 C1 C2 bd a2 cu ap aa Z bn;generalize(wr.setCell ⟨gb,r,none⟩ (.int .i64 (if sh<zc then sh else zc))).drew=w9 at *;go_wp2;go_roundw
         case rel=>exact⟨j+1,Qk,by go_num,dr,ds,by rw[dp.out];exact dt⟩
         case measure=>exact Qn
        ·obtain rfl:n1=j:=Qk
         have du:Hid (Zt bI wr (.slice A4 n4 c4) (Yh n (R.drop i))):=JZ (by
          have h1:=HE.out;rw[YK bc.out]at h1;rw[dj.out];exact h1)
         have dv:Hid (Ypy gl q n R i wr):=JZ ⟨_,a2,by simpa using an.out.1,λk k1 k2=>by
          rcases JX i k with h|h
          ·obtain⟨B,m,c',g1,g2⟩:=an.out.2 k Qk k2;exact⟨B,m,c',by rw[jE Qk];exact g1,g2.blx ap b9.out Ql⟩
          ·obtain rfl:i=k:=Qk
           exact⟨A4,n4,c4,jM (by have:=an.out.1;omega),du.out.typed⟩⟩
         have dw:=aw.trans (BlX.of_below (Z.mono (by have:=aw.size;have:=di.out;omega)));clear bd a2 cu ap aa Z;go_wp2;go_roundw
         case rel=>exact⟨i,(i:Int) - 1,Qk,Qk,by go_num,dw,dv⟩
         case measure=>simp[intOf]
end
namespace Pl
def Zeb(R F:List Int):Nat:=F.foldl (λm r=>m ||| 2^posR R r) 0
def Zzi{R F:List Int}{k:Nat}{r:Int}(h:F[k]? =some r):Zeb R (F.take (k+1))=Zeb R (F.take k)||| 2^posR R r:=by
 unfold Zeb;rw[jP,h,List.foldl_append];rfl
def Ztq(L:List Dc)(f:Nat)(i:Int):Bool:=decide (mkI L i &&& f=0)
def XJ(L:List Dc)(f:Nat)(s:List Int):List Int:=s.filter (Ztq L f)
def Zwq(m:Ms)(s F:List Int)(steps:Nat):Sv × Bool:=
 Zef ⟨m.rows.length,XJ (dcs m) (Zeb m.rows F) s,steps⟩ (XV (dcs m) (orI (dcs m) (XJ (dcs m) (Zeb m.rows F) s))) (orI (dcs m) (XJ (dcs m) (Zeb m.rows F) s)) (m.base+YZ (dcs m) (XJ (dcs m) (Zeb m.rows F) s)) [] ⟨s,Zfi m s,false,0⟩
end Pl
def Zqu{fn:Func}{t u v x:Tmp}(h:fn.results=#[.tmp t,.tmp u,.tmp v,.tmp x])(tmps:Array Value)(P:Program)(w:World):
 (results fn tmps).run P w= .ok (.tuple #[tmps.getD t undef,tmps.getD u undef,tmps.getD v undef,tmps.getD x undef]) w:=by
 simp[results,h]
def Zt.blx{base:Nat}{w w':World}{g:Nat}{t:TypeId}{v:Value}{zs:List Int}{cs:List Value}(h:Zt base w v zs)(hx:BlX w.heap.size g w w')(hg:Bk w g t cs)(ht:t≠3):Zt base w' v zs:=by
 refine⟨⟨h.1.1,?_⟩,h.2⟩;rcases h.1.2 with hn|⟨b,cap,cur,rfl,hb',hgg,rest⟩
 ·exact .inl hn
 ·exact .inr ⟨b,cap,cur,rfl,hb',(hx.block b (ZU hgg) (λe=>hg.not_type ht _ _ (e▸hgg))).trans hgg,rest⟩
def Pl.dcs_bd2{m:Ms}(ok:VM m):∀x∈dcs m,x.mask<64/\x.idx<1000/\ -200<=x.sur/\x.sur<=200:=λx hx=>by
 have h1:=Zwl ok hx
 obtain⟨i,hi⟩:=kS.1 hx
 obtain⟨c,hc,rfl⟩:=Zid hi
 have h2:=Ycq ok (i:=i) (jC hc)
 exact⟨h1.1,h1.2.1,Qk,Qk⟩
def Ztr(m:Ms)(s F:List Int)(steps:Nat)(w:World)(e:Ending)(w':World):Prop:=
 ∃v',e= .returned (.tuple #[v',.bool (Zwq m s F steps).2,.int .i64 ((Zwq m s F steps).1.used:Int),.int .i64 0])/\Z6 w' v' (Zwq m s F steps).1.best/\Below w.heap.size w w'
def Zcb(v1 v2 v3:Value)(m:Ms)(s F:List Int)(steps:Nat)(w:World)(h:MsM w v1 m)(ok:VM m)(h2:Z6 w v2 s)(hs:Sel (dcs m) s)(h3:Z6 w v3 F)(hF:F.Sublist m.rows)(hst:steps<=1048576):
 Calls prog 5 #[v1,v2,v3,.int .i64 (steps:Int)] w (Ztr m s F steps w):=by
 obtain⟨A,n,c,A',n',c',cr,ct,cu,rfl,hR,hC,hT⟩:=id h;obtain⟨r1,r2,r3⟩:=hR.ints.lenC;obtain⟨s1,s2,s3⟩:=RdM.len hC;obtain⟨As,cs,rfl,cv,dg⟩:=h2.shape;obtain⟨Af,cf,rfl,cw,dh⟩:=h3.shape;obtain⟨q,hq⟩:∃q,q=s.length:=⟨_,rfl⟩;obtain⟨nf,aq⟩:∃q,q=F.length:=⟨_,rfl⟩;rw[<-hq]at h2 cv⊢;rw[<-aq]at h3 cw⊢;obtain⟨W,hW,hX,z⟩:=Zbj w (.int .i64 m.fl) (.slice A n c) (.int .i64 m.pen) (.slice A' n' c') (.slice cr ct cu);have HM:=JZ (h.below z);have o:=JZ ok;have HS:=JZ (h2.below z);have bv:=JZ h2;have a5:=JZ (h3.below z);have HR:=JZ (hR.ints.below z);have L:=JZ hs;have ay:=JZ hF;have ag:=JZ r1;have a6:=JZ s1;have ah:=JZ hq;have bw:=JZ aq;have bz:n<=6:=by have:=ok.row1;omega
 have d2:n'<=6:=by have:=ok.ncol;omega
 have d3:nf<=6:=by have:=hF.length_le;have:=ok.row1;omega
 have d7:q<=6:=by have:=Yes hs.rg hs.asc;rw[YD]at this;omega
 have p0:=ok.pen0;have p1:=ok.pen1;clear h hR hC hT ok h2 h3 hs hF r1 s1 hq aq;generalize m.fl=Fl at *;generalize hP:m.pen=P at *;have HP:=JZ hP;clear hP;obtain⟨x0,x1,x2,x3,x4⟩:=hX.five;go_enter func5,ntmps5;go_wp2_with fail;clear hW x0 x1 x2 x3 x4;refine(Xw _ m _ HM.out o.out).mono ?_;rintro _ w1 ⟨rfl,B⟩;have ai:=hX.later B;have N:=Za z B z.size;have aj:=JZ (HM.out.below B);have a7:=JZ (And.intro (HS.out.below B) (And.intro (a5.out.below B) (HR.out.below B)));obtain⟨x0,x1,x2,x3,x4⟩:=ai.five;clear hX z B HM HS a5 HR;go_wp2_with fail;refine(Zca _ m _ aj.out o.out).mono ?_;rintro _ w2 ⟨vc,rfl,ac,C⟩;obtain⟨Ac,cc,rfl⟩:=RdO.slice ac;rw[YD,<-a6.out]at ac⊢;have ak:Hid (DcsM w2 (.slice Ac n' cc) (dcs m)):=JZ (RdO.rd ac);have al:=ai.later C;have O:=Za N C N.size;have az:=JZ (aj.out.below C);have S:=JZ (And.intro (a7.out.1.below C) (And.intro (a7.out.2.1.below C) (a7.out.2.2.below C)));clear x0 x1 x2 x3 x4 ai N C aj ac a7;obtain⟨x0,x1,x2,x3,x4⟩:=al.five;go_wp2_with fail;refine(Zdz _ _ _ m s _ az.out o.out ak.out S.out.1).mono ?_;rintro _ w3 ⟨zz,MM,rfl,bn,D⟩;have b0:We (dcs m) s=0:=L.out.err;rw[b0];have HZ:=JZ bn;have am:=al.later D;have T:=Za O D O.size;have ad:=JZ (ak.out.below D);have I:=JZ (And.intro (S.out.1.below D) (And.intro (S.out.2.1.below D) (S.out.2.2.below D)));clear x0 x1 x2 x3 x4 al O D az ak S b0 bn;go_wp2;generalize w3=W3 at *
 go_loopw [16,46] (λs16 x wr=>∃k M:Nat,k<=nf/\x= .int .i64 k/\s16= .int .u32 (M:Int)/\M<64/\Below W3.heap.size W3 wr/\Hid (Zeb m.rows (F.take k)=M)) (λ_ x _=>nf - (intOf x).toNat)
 case atStart=>exact⟨0,0,Qk,rfl,rfl,Ql,JR _ _,JZ (by simp[Zeb])⟩
 case round=>
  obtain⟨k,M,hk,rfl,rfl,hM,hb,bl⟩:=hrel;have an:=am.later hb;obtain⟨x0,x1,x2,x3,x4⟩:=an.five;rcases JX k nf with hkl|hkl
  ·have c0:(k:Int)<nf:=Qk;obtain⟨b4,o4,f,cx,r,hf,di,dj⟩:=I.out.2.1.elem hb hkl;subst cx;have b1:=JZ hf;have b2:f∈m.rows:=ay.out.subset (jC hf);have b5:=JZ b2;clear hf b2;go_wp2_with fail;refine(Vz _ m.rows f _ (I.out.2.2.below hb) o.out.asc (by have:=o.out.row1;omega)).mono ?_;rw[kE b5.out];rintro _ w5 ⟨rfl,E⟩;have c2:posR m.rows f<6:=(by have h1:=U8 o.out.asc b5.out;have h2:=o.out.row1;omega);have a5:=JZ (Zzi (R:=m.rows) b1.out);have p:=Za hb E hb.size;have bu:=Zi E r;generalize posR m.rows f=pp at *;obtain⟨ca,ab⟩:=Ylv hM c2;have HN:Hid (Zeb m.rows (F.take (k+1))=M ||| 2^pp):=JZ (by rw[a5.out,bl.out]);clear an x0 x1 x2 x3 x4 r;rcases JV k with hk0|hk0
   ·subst hk0;clear hb E;go_wp2;go_roundw
    case rel=>exact⟨1,_,Qk,by go_num,rfl,ab,p,HN⟩
    case measure=>exact Qn
   ·have d8:(0:Int)<k:=Qk;have d9:(0:Int)<=(k:Int) - 1:=Qk;have da:(k:Int) - 1<nf:=Qk;have db:((k:Int) - 1).toNat=k - 1:=Qk;obtain⟨_,_,fp,ar,dk,bm,_,_⟩:=I.out.2.1.elem p (show k - 1<nf by omega);injection ar with ar;injection ar with e1 e2 _;subst e1 e2;have dc:¬f<=fp:=by
     have:=V3 (o.out.asc.sublist ay.out) (show k - 1<k by omega) bm b1.out;omega
    clear hb E bm;go_wp2;go_roundw
    case rel=>exact⟨k+1,_,Qk,by go_num,rfl,ab,p,HN⟩
    case measure=>exact Qn
  ·obtain rfl:nf=k:=Qk
   have c3:Hid (Zeb m.rows F=M):=JZ (by have:=bl.out;rw[YK bw.out]at this;exact this);have d4:¬(steps:Int)<0:=Qk;generalize M=l at *;go_wp2_with fail;refine(Zjc _ s _ (I.out.1.below hb) (by have:=ah.out;omega)).mono ?_;rintro _ w5 ⟨v5,rfl,e5,E⟩;obtain⟨A5,n5,c5,rfl⟩:=e5.sliceN;have p:=Za hb E hb.size;have a8:=am.later p;have ae:Hid (DcsM w5 (.slice Ac n' cc) (dcs m)):=JZ (ad.out.below p);have b6:=JZ (I.out.1.below p);have b7:=JZ (e5.monoB (iI _));have U:=Za T p T.size;have V:w.heap.size<w5.heap.size:=a8.lt;clear x0 x1 x2 x3 x4 an am T hb E p ad I e5;obtain⟨x0,x1,x2,x3,x4⟩:=a8.five;have hG:=Bk.new w5 78 [.slice none 0 0,.slice none 0 0,.slice none 0 0,.slice none 0 0,.slice A5 n5 c5,.int .i64 zz,.bool false,.int .i64 (steps:Int),.int .i64 0];have J:=Ze w5 (.cells #[.slice none 0 0,.slice none 0 0,.slice none 0 0,.slice none 0 0,.slice A5 n5 c5,.int .i64 zz,.bool false,.int .i64 (steps:Int),.int .i64 0] 78);have e:(#[.slice none 0 0,.slice none 0 0,.slice none 0 0,.slice none 0 0,.slice A5 n5 c5,.int .i64 zz,.bool false,.int .i64 (steps:Int),.int .i64 0]:Array Value)=[.slice none 0 0,.slice none 0 0,.slice none 0 0,.slice none 0 0,.slice A5 n5 c5,.int .i64 zz,.bool false,.int .i64 (steps:Int),.int .i64 0].toArray:=rfl;rw[<-e]at hG;clear e;have ao:0<=P*n/\P*n<=180:=by
    have a:=jY p0 (show(0:Int)<=n by omega);have b:=kK p1 (show(n:Int)<=6 by omega) Qk Qk;omega
   obtain⟨dl,dm⟩:=ao;have c4:Hid (P*n=m.base):=JZ (by unfold Ms.base;rw[HP.out,ag.out]);go_wp2;clear x0 x1 x2 x3 x4;have c6:=JZ (a8.later J);have af:DcsM (w5.alloc (.cells #[.slice none 0 0,.slice none 0 0,.slice none 0 0,.slice none 0 0,.slice A5 n5 c5,.int .i64 zz,.bool false,.int .i64 (steps:Int),.int .i64 0] 78)) (.slice Ac n' cc) (dcs m):=ae.out.below J;have X:=JZ af;have dd:=JZ (b6.out.below J);have c7:=JZ (b7.out.below J);have H:=Za U J U.size;clear af a8 ae b6 b7 U J;generalize w5.alloc (.cells #[.slice none 0 0,.slice none 0 0,.slice none 0 0,.slice none 0 0,.slice A5 n5 c5,.int .i64 zz,.bool false,.int .i64 (steps:Int),.int .i64 0] 78)=W7 at *;generalize w5.heap.size=g at *;have a9:=JZ hG;have de:=hG.lt;generalize P* (n:Int)=BB at *
   go_loopw [22,23,93] (λs22 s23 x wr=>∃(k M:Nat) (Z:Int) (Ak:Option Addr) (nk ck:Nat),k<=q/\x= .int .i64 k/\s22= .int .u32 (M:Int)/\s23= .int .i64 Z/\M<64/\BB - 200* (k:Int)<=Z/\Z<=BB+200* (k:Int)/\BlX W7.heap.size g W7 wr/\Bk wr g 78 [.slice Ak nk ck,.slice none 0 0,.slice none 0 0,.slice none 0 0,.slice A5 n5 c5,.int .i64 zz,.bool false,.int .i64 (steps:Int),.int .i64 0]/\Hid (Zt W7.heap.size wr (.slice Ak nk ck) (XJ (dcs m) l (s.take k))/\M=orI (dcs m) (XJ (dcs m) l (s.take k))/\Z=BB+YZ (dcs m) (XJ (dcs m) l (s.take k)))) (λ_ _ x _=>q - (intOf x).toNat)
   case atStart=>exact⟨0,0,BB,none,0,0,Qk,rfl,rfl,rfl,Ql,Qk,Qk,BlX.refl _ _ _,hG,JZ ⟨Zt.nil _ _,by simp[XJ,orI],by simp[XJ,YZ]⟩⟩
   case round=>
    clear hG;obtain⟨k,M,Z,Ak,nk,ck,hk,rfl,rfl,rfl,hM,dn,dp,hX,hB,HV⟩:=hrel;rcases JX k q with hkl|hkl
    ·have c0:(k:Int)<q:=Qk;have b8:=H.trans (hX.below H.size (jZ V));obtain⟨b3,o3,y,cy,r,hy,dq,dr⟩:=bv.out.elem b8 hkl;subst cy;obtain⟨cl,a2⟩:=Ylw L.out.rg (jC hy);obtain⟨i0,i1⟩:=L.out.rg y (jC hy);rw[YD,<-a6.out]at i1;obtain⟨j,rfl⟩:=JT i0;simp only[JP]at a2;have Y:=Zbh a2;have c9:=JZ Y;have df:(j:Int)<n':=i1;obtain⟨bx,ox,A1,n1,c1,cz,⟨e0,e1,e2,e3⟩,hI⟩:=X.out.elemOld hX a9.out Ql Y;subst cz;have b9:=Zie o.out (i:=j) (jC a2);obtain⟨ds,dt⟩:=Ycq o.out (i:=j) (jC a2);have HY:=JZ hy;have aa:Hid (mkI (dcs m) (j:Int)=(dcol m j cl).mask/\suI (dcs m) (j:Int)=(dcol m j cl).sur):=JZ ⟨XH Y,Zdl Y⟩;have ba:(dcol m j cl).idx=j:=rfl;generalize dcol m j cl=x at *;have bb:Hid (XJ (dcs m) l (s.take (k+1))=XJ (dcs m) l (s.take k)++(if Ztq (dcs m) l (j:Int)=true then [(j:Int)]else [])):=JZ (UD HY.out);have bc:=u32_and (a:=x.mask) (b:=l) Qk Qk;have ca:=u32_or (a:=M) (b:=x.mask) Qk Qk;have ab:M ||| x.mask<64:=iW (n:=6) hM b9;have d5:(XJ (dcs m) l (s.take k)).length<=6:=by
      have h1:=jq (Ztq (dcs m) l) (s.take k);have h2:=vT k s;unfold XJ;omega
     clear hy a2 Y hI ba;by_cases hz:x.mask &&& l=0
     ·have cb:(((x.mask &&& l:Nat):Int)==0)=true:=(by rw[hz];rfl);have HE:Hid (XJ (dcs m) l (s.take (k+1))=XJ (dcs m) l (s.take k)++[(j:Int)]):=JZ (by rw[bb.out];unfold Ztq;rw[aa.out.1,hz];simp);have HO:=JZ HV.out.1;have bd:(XJ (dcs m) l (s.take k)).length+1<=1099511627776:=Qk;have cd:W7.heap.size<=wr.heap.size:=hX.size;obtain⟨x0,x1,x2,x3,x4,x5,x6,x7,x8⟩:=hB.nine;clear hz;go_wp2_with(at_builtin;refine Yb rfl (.tmp 106) (.tmp 108) rfl wr W7.heap.size (.slice Ak nk ck) _ rfl HO.out (j:Int) rfl Qk Qk bd cd ?_);intro v8 w8 G bs bt _ _;obtain⟨A8,n8,c8,rfl⟩:=G.sliceN;clear x0 x1 x2 x3 x4 x5 x6 x7 x8;have a0:=bs.bk hB Ql;obtain⟨x0,x1,x2,x3,x4,x5,x6,x7,x8⟩:=a0.nine;have f0:=a0.frozen 0;have kk:=Zf.setCell a0 0 (.slice A8 n8 c8);have K:=a0.set_ 0 (.slice A8 n8 c8);simp only[jO,jL]at K;have be:=G.but kk Ql;have t:=(hX.trans (BlX.of_below bt)).setCell 0 (.slice A8 n8 c8);clear kk G bs bt a0 hB hX
      go_upto_region 27 with(fail)
      clear x0 x1 x2 x3 x4 x5 x6 x7 x8 f0 e0 e1 e2 e3 r b8 bc;generalize w8.setCell ⟨g,0,none⟩ (.slice A8 n8 c8)=w9 at *;obtain⟨du,dv,dw,dx,dy,a3,⟨e0,e1,e2,e3⟩,_⟩:=X.out.elemOld t a9.out Ql c9.out;injection a3 with a3;injection a3 with q1 q2 _;subst q1 q2;have bf:BB - 200* ((k+1:Nat):Int)<=Z+x.sur:=Qk;have bg:Z+x.sur<=BB+200* ((k+1:Nat):Int):=Qk;have HN:Hid (Zt W7.heap.size w9 (.slice A8 n8 c8) (XJ (dcs m) l (s.take (k+1)))/\M ||| x.mask=orI (dcs m) (XJ (dcs m) l (s.take (k+1)))/\Z+x.sur=BB+YZ (dcs m) (XJ (dcs m) l (s.take (k+1)))):=JZ (by
       rw[HE.out];refine⟨be,?_,?_⟩
       ·rw[Zmm,aa.out.1,<-HV.out.2.1]
       ·rw[Uv,<-Int.add_assoc,<-HV.out.2.2];have:YZ (dcs m) [(j:Int)]=x.sur:=by simp[YZ,aa.out.2]
        rw[this])
      clear be HV;go_wp2;go_roundw
      case rel=>exact⟨k+1,_,_,A8,n8,c8,Qk,by go_num,rfl,rfl,ab,bf,bg,t,K,HN⟩
      case measure=>exact Qn
     ·have cb:(((x.mask &&& l:Nat):Int)==0)=false:=(by simpa using hz);have HE:Hid (XJ (dcs m) l (s.take (k+1))=XJ (dcs m) l (s.take k)):=JZ (by rw[bb.out];unfold Ztq;rw[aa.out.1];simp[hz]);clear hz;go_wp2;go_roundw
      case rel=>exact⟨k+1,M,Z,Ak,nk,ck,Qk,by go_num,rfl,rfl,hM,Qk,Qk,hX,hB,by rw[HE.out];exact HV⟩
      case measure=>exact Qn
    ·obtain rfl:q=k:=Qk
     have ap:Hid (Zt W7.heap.size wr (.slice Ak nk ck) (XJ (dcs m) l s)/\M=orI (dcs m) (XJ (dcs m) l s)/\Z=BB+YZ (dcs m) (XJ (dcs m) l s)):=JZ (by have:=HV.out;rw[YK ah.out]at this;exact this);have ce:=hX.bk c6.out Qk (BL V);have bh:DcsM wr (.slice Ac n' cc) (dcs m):=X.out.blx hX a9.out Ql Ql;have cg:=JZ bh;have ch:=JZ (c7.out.blx hX a9.out Ql);have a1:=H.trans (hX.below H.size (jZ V));have ci:Hid ((XJ (dcs m) l s).length<=6):=JZ (by
      have h1:=jq (Ztq (dcs m) l) s;have:=ah.out;unfold XJ;omega)
     have bi:Hid (Zwq m s F steps=Zef ⟨m.rows.length,XJ (dcs m) l s,steps⟩ (XV (dcs m) M) M Z [] ⟨s,zz,false,0⟩):=JZ (by
      unfold Zwq;rw[c3.out,<-ap.out.2.1,HZ.out,ap.out.2.2,c4.out])
     have cj:Hid (∀x∈XV (dcs m) M,x.mask<64/\x.idx<1000/\ -200<=x.sur/\x.sur<=200):=JZ (λx hx=>dcs_bd2 o.out x (jk.1 hx).1);have cm:Hid ((XV (dcs m) M).length<=6):=JZ (by
      have h1:(XV (dcs m) M).length<=(dcs m).length:=jq _ _;rw[YD]at h1;have:=a6.out;omega)
     obtain⟨x0,x1,x2,x3,x4⟩:=ce.five;clear hX HV bh;go_wp2_with fail;refine(Ztp g n M _ (dcs m) _ _ _ _ _ _ _ _ hB cg.out (by rw[ag.out];exact UF o.out) (dcs_bd2 o.out) (by rw[YD];have:=a6.out;omega) bz hM).mono ?_;rintro _ w9 ⟨rfl,au,av,aw,Al,nl,ax,K,bo,bp,t⟩;clear x0 x1 x2 x3 x4;have cn:Hid (Ylx w9 g ⟨m.rows.length,XJ (dcs m) l s,steps⟩ (XV (dcs m) M) Ak nk ck au av aw Al nl ax):=JZ ⟨ap.out.1.typed.blx t hB Ql,bo,by rw[<-ag.out];exact bp,⟨_,K⟩,⟨cj.out,cm.out,ci.out,o.out.row1,hst⟩⟩;have co:Hid (Zwo w9 g ⟨m.rows.length,XJ (dcs m) l s,steps⟩ Ak nk ck au av aw Al nl ax [] ⟨s,zz,false,0⟩ w9):=JZ ⟨none,0,0,A5,n5,c5,by simpa using K,Zt.nil _ _,ch.out.blx t hB Ql,by simp[Value.ownBlock],BlX.refl _ _ _⟩;have u:=a1.trans (t.below a1.size (jZ V));clear K bo bp t hB a1;go_wp2_with fail;refine(Yfa w9 g ⟨m.rows.length,XJ (dcs m) l s,steps⟩ (XV (dcs m) M) Ak nk ck au av aw Al nl ax cn.out ((XV (dcs m) M).length+1) 0 (iI _) Qk M Z [] ⟨s,zz,false,0⟩ w9 co.out hM Qk Qk (by simp) (iI _)).mono ?_;rw[List.drop_zero,<-bi.out];rintro _ bq ⟨rfl,br⟩
     go_upto_region 32 with(fail)
     obtain⟨Ea,ma,ea,Eb,mb,eb,hB,hA,d0,d6,hX⟩:=br;obtain⟨x0,x1,x2,x3,x4,x5,x6,x7,x8⟩:=hB.nine;have C0:=Zm x4;have C1:=Zm x8;have bj:=Zc bq;clear x0 x1 x2 x3 x4 x5 x6 x7 x8;refine Zj 9 [0,1,2,3,4,5,6,7,8] Qm Qm ?_;refine Qb ?_
     refine Zl ?_;have cp:=(u.trans (hX.below u.size (jZ V))).trans (bj.mono (by have:=u.size;have:=hX.size;omega));have cq:Hid (Z6 bq.drew (.slice Eb mb eb) (Zwq m s F steps).1.best):=JZ (d0.below bj).ints;clear C0 C1;go_wp2;(try simp only[Exit.inBlock,Exit.then]);refine iP (Zqu rfl _ _ _) rfl ?_;exact⟨_,rfl,cq.out,cp⟩
def Zts(v2:Value)(w:World):Calls prog 37 #[.slice none 0 0,v2] w λe w'=>e= .returned (.bool true)/\Below w.heap.size w w':=by
 go_enter func37,ntmps37;go_wp2
 go_loopw [5] (λx wr=>x= .int .i64 0/\Below w.heap.size w wr) (λ_ _=>0)
 case atStart=>exact⟨rfl,JR _ _⟩
 case round=>
  obtain⟨rfl,hb⟩:=hrel;go_wp2;go_ret;exact⟨rfl,hb⟩
namespace Pl
def Zzj(L:List Dc):List Int:=L.map λx=>(x.mask:Int)
def Ypm{L:List Dc}{j:Nat}{x:Dc}(h:L[j]? =some x):(Zzj L)[j]? =some (x.mask:Int):=by simp[Zzj,h]
def Yfb{L:List Dc}{j:Nat}{x:Dc}(h:L[j]? =some x):Zzj (L.take (j+1))=Zzj (L.take j)++[(x.mask:Int)]:=by
 unfold Zzj;rw[jP,h];simp
end Pl
def Yly(s p:Nat):(s.testBit p=false->bits .and .i64 ((s:Int)/2^p) 1=0)/\(s.testBit p=true->bits .and .i64 ((s:Int)/2^p) 1=1):=by
 rw[Zut,Yjo];exact⟨λh=>jA (by rw[h];decide),λh=>jB h⟩
def Pl.pow_le_of{s low pw:Nat}(h:s.testBit low=true)(e:pw=2^low):pw<=s:=by
 rw[e,<-Ylo h];exact aX
def Zgy{g:Option Nat}(w:World):ZA g w w.drew:=⟨(Zc w).size,λb hb _=>(Zc w).block b hb⟩
def Pl.BsAt(L:List Dc)(P:Int)(N s:Nat)(bs:List Int):Prop:=bs.length=N/\∀t,t<s->∃z,bs[t]? =some z/\Lst L P t z
def Zjh(m:Ms)(w:World)(e:Ending)(w':World):Prop:=∃z:Int,e= .returned (.int .i64 z)/\Lst (dcs m) m.pen (2^m.rows.length - 1) z/\Below w.heap.size w w'
def Yfc(v1 v3:Value)(m:Ms)(w:World)(h1:Z6 w v1 m.rows)(h3:ClsM w v3 m.cols)(ok:VM m):
 Calls prog 13 #[v1,.int .i64 m.pen,v3,.slice none 0 0] w (Zjh m w):=by
 obtain⟨A,c,rfl,cr,db⟩:=h1.shape;obtain⟨A',c',rfl,cs,dc⟩:=RdM.shape h3;obtain⟨n,hn⟩:∃n,n=m.rows.length:=⟨_,rfl⟩;obtain⟨n',a7⟩:∃n,n=m.cols.length:=⟨_,rfl⟩;rw[<-hn]at h1 cr⊢;rw[<-a7]at h3 cs⊢;have H1:=JZ h1;have H3:=JZ h3;have o:=JZ ok;have HN:=JZ (And.intro hn a7);have aw:n<=6:=by have:=ok.row1;omega
 have c4:1<=n:=by have:=ok.row0;omega
 have ab:n'<=6:=by have:=ok.ncol;omega
 have p0:=ok.pen0;have p1:=ok.pen1;have K:Hid ((dcs m).length=n'):=JZ (by rw[YD,a7]);have ax:Hid (Zjh m w=λe w'=>∃z:Int,e= .returned (.int .i64 z)/\Lst (dcs m) m.pen (2^n - 1) z/\Below w.heap.size w w'):=JZ (by unfold Zjh;rw[hn]);rw[ax.out];clear h1 h3 ok hn a7 ax;generalize c2:m.pen=P at *;have c5:=JZ c2;clear c2;have ay:=Zjf (k:=n) aw;obtain⟨N2,X⟩:∃N2,N2=2^n:=⟨_,rfl⟩;rw[<-X]at ay⊢;have cv:N2<=64:=by rw[X,show 64=2^6 by rfl];exact jS Ql aw
 have cz:2<=N2:=by rw[X];calc 2=2^1:=rfl
  _<=2^n:=jS Ql c4
 have d1:=JZ X;clear X;have c6:=Zab N2 Qk w;go_enter func13,ntmps13;go_wp2;clear c6 ay;have N:=Zt.zeros w N2 (by unfold maxLen;omega);have az:=Ze w (.cells (zic N2) 3);have d2:w.heap.size< (w.alloc (.cells (zic N2) 3)).heap.size:=by simp
 have HZ:=JZ N;clear N;generalize w.alloc (.cells (zic N2) 3)=W at *;have b0:=Zt.nil W.heap.size W
 go_loopw [11,12] (λs11 x wr=>∃j:Nat,j<=n'/\x= .int .i64 j/\Below W.heap.size W wr/\Hid (Zt W.heap.size wr s11 (Zzj ((dcs m).take j)))) (λ_ x _=>n' - (intOf x).toNat)
 case atStart=>exact⟨0,Qk,rfl,JR _ _,JZ (by simpa[Zzj]using b0)⟩
 case round=>
  clear b0;obtain⟨j,hj,rfl,hb,HO⟩:=hrel;have y:=Za az hb az.size;rcases JX j n' with hjl|hjl
  ·have c7:(j:Int)<n':=Qk;obtain⟨cl,D⟩:∃cl,m.cols[j]? =some cl:=⟨m.cols[j]'(by rw[<-HN.out.2];exact hjl),JQ _⟩;obtain⟨b1,o1,sb,A1,k1,c1,aq,_,e0,e1,e2,hD⟩:=H3.out.elem y D;subst aq;have C:=jC D;have c8:=JZ (o.out.opl C);have c9:Hid (Zgf m.rows cl.ops m.rows.length=(dcol m j cl).mask):=JZ (Yep o.out C);have ca:=Zie o.out (i:=j) C;have cb:=JZ (Yfb (Zbh D));generalize(dcol m j cl).mask=mj at *;clear D C;go_wp2_with fail;refine(Zbk sb A1 k1 c1 cl.dut _ hD (by have:=c8.out;unfold Cl.ops at this;omega)).mono ?_;rintro _ w4 ⟨v4,rfl,h4,a8⟩;have I:=Za y a8 y.size;have O:=Za hb a8 hb.size;have H4:Hid (Z6 w4 v4 cl.ops):=JZ h4.ints;have b2:=JZ (HO.out.below a8);have b3:m.rows.length<=6:=(by have:=HN.out.1;omega);clear e0 e1 e2 hD h4 hb y a8 HO;go_wp2_with fail;refine(Yka _ _ m.rows cl.ops _ (H1.out.below I) H4.out b3).mono ?_;rw[c9.out];rintro _ w5 ⟨rfl,a9⟩;have R:=Za I a9 I.size;have S:=Za O a9 O.size;have b4:=JZ (b2.out.below a9);clear I O a9 b2 b3;go_wp2_with fail;refine(Zts _ _).mono ?_;rintro _ w6 ⟨rfl,aa⟩;have b5:=Za R aa R.size;have T:=Za S aa S.size;have b6:=JZ (b4.out.below aa);clear R S aa b4;have b7:(Zzj ((dcs m).take j)).length+1<=1099511627776:=by
    have:=vT j (dcs m);simp[Zzj];omega
   have cc:=T.size;go_wp2_with(at_builtin;refine Yb rfl (.tmp 43) (.tmp 45) rfl w6 W.heap.size u11 _ rfl b6.out (mj:Int) rfl Qk Qk b7 cc ?_);intro v7 w7 Z ct c0 _ _;have b8:=T.trans c0;have cd:Hid (Zt W.heap.size w7 v7 (Zzj ((dcs m).take (j+1)))):=JZ (by rw[cb.out];exact Z);clear Z ct c0 T b5 b6;go_wp2;go_roundw
   case rel=>exact⟨j+1,Qk,by go_num,b8,cd⟩
   case measure=>exact Qn
  ·obtain rfl:n'=j:=Qk
   have a0:Hid (Zt W.heap.size wr u11 (Zzj (dcs m))):=JZ (by have:=HO.out;rwa[kC (by rw[K.out];exact JY _)]at this);obtain⟨Am,nm,cm,rfl⟩:=a0.out.sliceN;have ce:nm=n':=(by rw[a0.out.len];simp[Zzj];exact K.out);subst ce;have b9:Hid (Zt w.heap.size wr (.slice (some ⟨w.heap.size,0,none⟩) N2 N2) (List.replicate N2 0)):=JZ (HZ.out.below hb);have ac:Hid (BsAt (dcs m) P N2 1 (List.replicate N2 0)):=JZ ⟨by simp,λt ht=>by
    obtain rfl:t=0:=Qk
    exact⟨0,by rw[kT,jB Qk],Yij (UF o.out) P⟩⟩
   have d3:W.heap.size<=wr.heap.size:=hb.size;have ba:Hid (∀b,(Value.slice Am nm cm).ownBlock=some b->some b≠some w.heap.size):=JZ (λb hb e=>by
    have h1:=(a0.out.ownB b hb).1;injection e with e;omega)
   have ak:=JZ (dcs_bd2 o.out);clear HO HZ hb;go_wp2;generalize wr=w3 at *
   go_loopw [15] (λx wr=>∃(s:Nat) (bs:List Int),1<=s/\s<=N2/\x= .int .i64 s/\Below w.heap.size w wr/\ZA (some w.heap.size) w3 wr/\Hid (Zt w.heap.size wr (.slice (some ⟨w.heap.size,0,none⟩) N2 N2) bs/\BsAt (dcs m) P N2 s bs)) (λx _=>N2 - (intOf x).toNat)
   case atStart=>exact⟨1,_,Qk,Qk,rfl,y,⟨JY _,λ_ _ _=>rfl⟩,JZ ⟨b9.out,ac.out⟩⟩
   case round=>
    clear y b9 ac;obtain⟨s,bs,dd,de,rfl,y,bt,HB⟩:=hrel;rcases JX s N2 with hsl|hsl
    ·have d4:(s:Int)<N2:=Qk;have ad:s<64:=Qk;go_wp2;generalize wr=wo at *
     go_loopw [16] (λx wq=>∃f:Nat,f<=5/\x= .int .i64 f/\wq=wo/\Hid (∀r,r<f->s.testBit r=false)) (λx _=>6 - (intOf x).toNat)
     case atStart=>exact⟨0,Qk,rfl,rfl,JZ (λr hr=>Qk)⟩
     case round=>
      obtain⟨f,df,rfl,rfl,ar⟩:=hrel;have bb:=JZ (Yly s f);have d5:(0:Int)<=f:=Qk;rcases Bool.eq_false_or_eq_true (s.testBit f)with hsb|hsb;rotate_left
      ·skip
       have U:=JZ (bb.out.1 hsb);have cf:Hid (f+1<=5):=JZ (by
        rcases JX f 5 with e|e
        ·omega
        ·exfalso;obtain rfl:f=5:=Qk
         have:s=0:=by
          refine bS λr=>?_
          rw[Nat.zero_testBit];rcases JX r 5 with g|g
          ·exact ar.out r g
          ·rcases JX r 6 with g'|g'
           ·obtain rfl:r=5:=Qk
            exact hsb
           ·exact Zif ad g'
         omega)
       have H:Hid (∀r,r<f+1->s.testBit r=false):=JZ (λr hr=>by
        rcases JX r f with e|e
        ·exact ar.out r e
        ·obtain rfl:r=f:=Qk
         exact hsb)
       clear hsb;have V:=U.out;go_wp2;clear V;go_roundw
       case rel=>exact⟨f+1,cf.out,by go_num,by first|rfl|trivial|simp,H⟩
       case measure=>exact Qn
      ·skip
       have U:=JZ (bb.out.2 hsb);have bc:=JZ hsb;obtain⟨pw,bu⟩:∃pw:Nat,pw=2^f:=⟨2^f,rfl⟩;have a4:=JZ bu;clear bu;have bd:Hid (wrap64 ((2:Int)^f)=(pw:Int)):=JZ (by rw[a4.out];exact Zjf Qk);have be:pw<=s:=pow_le_of bc.out a4.out;have bf:0<pw:=(by rw[a4.out];exact Nat.two_pow_pos f);obtain⟨bv,au⟩:=HB.out.2;obtain⟨t1,ap⟩:∃t1:Nat,t1=s - pw:=⟨s - pw,rfl⟩;have cg:=JZ ap;have ch:Hid ((s:Int) - (pw:Int)=(t1:Int)):=JZ Qk;obtain⟨z1,M,Y⟩:=au t1 Qk;obtain⟨zs,bw⟩:∃z,bs[s]? =some z:=⟨bs[s]' Qk,JQ _⟩;have d6:=Yeo (UF o.out) (by rw[K.out];exact ab) (λx hx=>(ak.out x hx).2.2.1) ⟨p0,p1⟩ Y;obtain⟨y1,y2,_,_⟩:=HB.out.1.at_ M;obtain⟨y3,y4,_,_⟩:=HB.out.1.at_ bw;have ci:(t1:Int)<N2:=Qk;have cj:Hid (bs.getD (s - 2^f) 0=z1):=JZ (by rw[<-a4.out,<-cg.out,ja,M];rfl);have al:Hid (∀t,t<s->Lst (dcs m) P t (bs.getD t 0)):=JZ (λt ht=>by
        obtain⟨z,g1,g2⟩:=au t ht;rw[ja,g1];exact g2)
       have am:=JZ bv;obtain⟨q1,q2⟩:=HB.out.1.set_ (k:=s) Qk (z:=P+z1) Qk Qk;have ae:=y.setCell (p:=⟨w.heap.size,s,none⟩) (JY _) (.int .i64 (P+z1));have af:ZA (some w.heap.size) w3 (wr.setCell ⟨w.heap.size,s,none⟩ (.int .i64 (P+z1))):=bt.trans ZA.of_set;have HQ:=JZ q1;clear hsb bv au M Y bw q1 q2 ar ap be bf;have V:=U.out
       go_upto_region 18 with(fail)
       clear V;have bg:=bd.out;have an:=ch.out
       go_upto_region 20 with(fail)
       clear bg an;have d7:f<=6:=Qk;have ag:=JZ (Zsl.start (dcs m) P s f z1 λt=>bs.getD t 0);have J:Hid ((bs.set s (P+z1))[s]? =some (P+z1)/\(∀t,t<s->(bs.set s (P+z1))[t]? =bs[t]?)/\(bs.set s (P+z1)).length=N2):=JZ ⟨by rw[jM (by rw[am.out];omega)],λt ht=>by rw[jE Qk],by rw[jd,am.out]⟩;have bh: -1300<=P+z1/\P+z1<=300:=Qk;clear y1 y2 y3 y4 y bt HB;generalize wr.setCell ⟨w.heap.size,s,none⟩ (.int .i64 (P+z1))=w5 at *;generalize bs.set s (P+z1)=cu at *;generalize P+z1=zp at *
       go_loopw [17] (λx wz=>∃(j:Nat) (z:Int) (bz:List Int),j<=nm/\x= .int .i64 j/\ -1300<=z/\z<=300/\Below w.heap.size w wz/\ZA (some w.heap.size) w3 wz/\Hid (Zt w.heap.size wz (.slice (some ⟨w.heap.size,0,none⟩) N2 N2) bz/\bz.length=N2/\bz[s]? =some z/\(∀t,t<s->bz[t]? =bs[t]?)/\Zsl (dcs m) P s f z1 (λt=>bs.getD t 0) j z)) (λx _=>nm - (intOf x).toNat)
       case atStart=>exact⟨0,zp,cu,Qk,rfl,bh.1,bh.2,ae,af,JZ ⟨HQ.out,J.out.2.2,J.out.1,J.out.2.1,ag.out⟩⟩
       case round=>
        clear ae af HQ J ag;obtain⟨j,z,bz,hj,rfl,N,M,u,F,HZ⟩:=hrel;rcases JX j nm with hjl|hjl
        ·have c7:(j:Int)<nm:=Qk;obtain⟨cl,D⟩:∃cl,m.cols[j]? =some cl:=⟨m.cols[j]'(by rw[<-HN.out.2];exact hjl),JQ _⟩;have C:=jC D;have HX:=JZ (Zbh D);have ca:=Zie o.out (i:=j) C;have d8:=o.out.cost cl C;obtain⟨b1,o1,dg,A1,k1,c1,aq,_,e0,e1,e2,hD⟩:=H3.out.elem u D;subst aq;have ck:Hid ((dcol m j cl).sur+P*pcf (dcol m j cl).mask=cl.cost):=JZ (by
          rw[Yii (Zsk o.out (i:=j) C) o.out.row1];show cl.cost - m.pen*cl.ops.length+P* (cl.ops.map (posR m.rows)).length=_;rw[c5.out,BD];omega)
         have ah:=JZ (a0.out.others F ba.out);obtain⟨bm,dh,a5,_,_,_,_⟩:=ah.out.shape (by simp[Zzj];rw[K.out];omega);injection a5 with a5 hx1 hx2;subst a5;clear hx1 hx2;obtain⟨m1,m2,_,_⟩:=ah.out.at_ (Ypm HX.out);have ao:=JZ (Yly (dcol m j cl).mask f);have bi:=JZ (Yjn (a:=(dcol m j cl).mask) (b:=s) Qk Qk);have cn:Hid ((dcol m j cl).mask &&& s<=s):=JZ aX;generalize c3:(dcol m j cl).mask=mj at *;have L:=JZ c3;clear c3 D C e0 e1 hD;have d0:decide ((mj:Int)<0)=false:=(by simp);have cw:Hid (P*pcf mj=P*pcf mj):=JZ rfl;rcases Bool.eq_false_or_eq_true (mj.testBit f)with hjb|hjb;rotate_left
         ·have a1:=ao.out.1 hjb;have H:=JZ (HZ.out.2.2.2.2.skip HX.out (by rw[L.out,hjb];simp));clear hjb
          go_upto_region 22 with(fail)
          have C0:=Zm m1;have h:=Zc wr;clear m1 m2 e2;refine Zj 29 [0,1,2,3,4,5,6,7,8,9,10,11,12,13,14,15,16,17,18,19,20,21,22,23,24,25,26,27,28] Qm Qm ?_;refine Qd ?_
          refine Zl ?_;have q:=Za u h u.size;have B:=F.trans (Zgy wr);have l:=JZ (And.intro (HZ.out.1.below h) HZ.out.2);clear C0 h u F a1;go_wp2;go_roundw
          case rel=>exact⟨j+1,z,bz,Qk,by go_num,N,M,q,B,JZ ⟨l.out.1,l.out.2.1,l.out.2.2.1,l.out.2.2.2.1,H.out⟩⟩
          case measure=>exact Qn
         ·have d9:=JZ hjb;by_cases G:mj &&& s=mj;rotate_left
          ·have a1:=ao.out.2 hjb;have a2:=bi.out;have H:=JZ (HZ.out.2.2.2.2.skip HX.out (by rw[L.out];exact λg=>G g.2));have a3:(((mj &&& s:Nat):Int) !=(mj:Int))=true:=(by simp;omega);clear hjb G;generalize mj &&& s=ms at *
           go_upto_region 22 with(fail)
           have C0:=Zm m1;have h:=Zc wr;clear m1 m2 e2;refine Zj 29 [0,1,2,3,4,5,6,7,8,9,10,11,12,13,14,15,16,17,18,19,20,21,22,23,24,25,26,27,28] Qm Qm ?_;refine Qd ?_
           refine Zl ?_;have q:=Za u h u.size;have B:=F.trans (Zgy wr);have l:=JZ (And.intro (HZ.out.1.below h) HZ.out.2);clear C0 h u F a1 a2 a3;go_wp2;go_roundw
           case rel=>exact⟨j+1,z,bz,Qk,by go_num,N,M,q,B,JZ ⟨l.out.1,l.out.2.1,l.out.2.2.1,l.out.2.2.2.1,H.out⟩⟩
           case measure=>exact Qn
          ·have a5:mj<=s:=(by have:=cn.out;omega);have cx:mj≠0:=(by rw[<-L.out];exact((UF o.out).ok _ (jC HX.out)).mask_ne);obtain⟨t2,aj⟩:∃t2:Nat,t2=s - mj:=⟨s - mj,rfl⟩;have co:=JZ aj;have ai:t2<s:=Qk;have bj:Hid ((s:Int) - (mj:Int)=(t2:Int)):=JZ Qk;obtain⟨zt,av⟩:∃z,bz[t2]? =some z:=⟨bz[t2]'(by rw[HZ.out.2.1];omega),JQ _⟩;have bk:Hid (bs.getD t2 0=zt):=JZ (by rw[ja,<-HZ.out.2.2.2.1 t2 ai,av];rfl);have bl:=Yeo (UF o.out) (by rw[K.out];exact ab) (λx hx=>(ak.out x hx).2.2.1) ⟨p0,p1⟩ (al.out t2 ai);rw[bk.out]at bl;have H:Hid (Zsl (dcs m) P s f z1 (λt=>bs.getD t 0) (j+1) (if cl.cost+zt<z then cl.cost+zt else z)):=JZ (by
            have h1:=HZ.out.2.2.2.2.take HX.out (by rw[L.out];exact hjb) (by rw[L.out];exact G);have e1:(dcol m j cl).sur+P*pcf (dcol m j cl).mask+bs.getD (s - (dcol m j cl).mask) 0=cl.cost+zt:=by
             rw[L.out,ck.out,<-co.out,bk.out]
            rw[e1]at h1;have e2:min z (cl.cost+zt)=if cl.cost+zt<z then cl.cost+zt else z:=by split <;> omega
            rw[e2]at h1;exact h1)
           obtain⟨y1,y2,_,_⟩:=HZ.out.1.at_ HZ.out.2.2.1;obtain⟨y3,y4,_,_⟩:=HZ.out.1.at_ av;have a1:=ao.out.2 hjb;have a2:bits .and .i64 (mj:Int) (s:Int)=(mj:Int):=(by rw[bi.out,G]);have a3:((mj:Int) !=(mj:Int))=false:=(by simp);have bn:=m1;have bo:=e2;have cy:(t2:Int)<N2:=Qk;clear hjb G av aj
           go_upto_region 22 with(fail)
           have C0:=Zm m1;have h:=Zc wr;clear m1 m2 e2;refine Zj 29 [0,1,2,3,4,5,6,7,8,9,10,11,12,13,14,15,16,17,18,19,20,21,22,23,24,25,26,27,28] Qm Qm ?_;refine Qd ?_
           refine Zl ?_;have q:=Za u h u.size;have B:=F.trans (Zgy wr);have l:=JZ (And.intro (HZ.out.1.below h) HZ.out.2);have x1:=Zi h y1;have x3:=Zi h y3;have xm:=Zi h bn;have xe:=Zi h bo;have x2:wr.drew.frozen? ⟨w.heap.size,s,none⟩=false:=y2;clear C0 h u F a1 a2 a3 y1 y2 y3 y4 bn bo HZ;generalize wr.drew=w8 at *
           go_upto_region 23 with(fail)
           have C1:=Zm x1;have C3:=Zm x3;have CM:=Zm xm;have CE:=Zm xe;have h:=Zc w8;have an:=bj.out;clear x3 xm xe;refine Zj 23 [0,1,2,3,4,5,6,7,8,9,10,11,12,13,14,15,16,17,18,19,20,21,22,23] Qm Qm ?_;refine Qb ?_
           refine Qo λ_ kq=>?_;refine kq.out _ _ (.inr h) (Qc ?_);clear kq
           refine Qh ?_;refine Zl ?_;have bp: -1300<=(if cl.cost+zt<z then cl.cost+zt else z)/\(if cl.cost+zt<z then cl.cost+zt else z)<=300:=(by split <;> omega);obtain⟨g1,g2⟩:=l.out.1.set_ (k:=s) (by rw[l.out.2.1];omega) (z:=(if cl.cost+zt<z then cl.cost+zt else z)) Qk Qk;have bq:=(q.setCell (p:=⟨w.heap.size,s,none⟩) (JY _) (.int .i64 (if cl.cost+zt<z then cl.cost+zt else z))).trans ((Zc (w8.setCell ⟨w.heap.size,s,none⟩ (.int .i64 (if cl.cost+zt<z then cl.cost+zt else z)))).mono (by have:=q.size;simp;omega));have br:=(B.trans (ZA.of_set (g:=w.heap.size) (i:=s) (v:= .int .i64 (if cl.cost+zt<z then cl.cost+zt else z)))).trans (Zgy _);have a6:Hid (Zt w.heap.size (w8.setCell ⟨w.heap.size,s,none⟩ (.int .i64 (if cl.cost+zt<z then cl.cost+zt else z))).drew (.slice (some ⟨w.heap.size,0,none⟩) N2 N2) (bz.set s (if cl.cost+zt<z then cl.cost+zt else z))/\(bz.set s (if cl.cost+zt<z then cl.cost+zt else z)).length=N2/\(bz.set s (if cl.cost+zt<z then cl.cost+zt else z))[s]? =some (if cl.cost+zt<z then cl.cost+zt else z)/\(∀t,t<s->(bz.set s (if cl.cost+zt<z then cl.cost+zt else z))[t]? =bs[t]?)):=JZ ⟨g1.below (Zc _),by rw[jd,l.out.2.1],by rw[jM (by rw[l.out.2.1];omega)],λt ht=>by rw[jE Qk];exact l.out.2.2.2.1 t ht⟩;clear C1 C3 CM CE h an x1 x2 g1 g2 q B l;generalize(w8.setCell ⟨w.heap.size,s,none⟩ (.int .i64 (if cl.cost+zt<z then cl.cost+zt else z))).drew=w9 at *;generalize(if cl.cost+zt<z then cl.cost+zt else z)=zn at *;go_wp2;go_roundw
           case rel=>exact⟨j+1,zn,bz.set s zn,Qk,by go_num,bp.1,bp.2,bq,br,JZ ⟨a6.out.1,a6.out.2.1,a6.out.2.2.1,a6.out.2.2.2,H.out⟩⟩
           case measure=>exact Qn
        ·obtain rfl:nm=j:=Qk
         have cp:Hid (BsAt (dcs m) P N2 (s+1) bz):=JZ ⟨HZ.out.2.1,λt ht=>by
          rcases JX t s with e|e
          ·refine⟨bs.getD t 0,?_,al.out t e⟩;rw[HZ.out.2.2.2.1 t e,ja];obtain⟨z',g1⟩:∃z',bs[t]? =some z':=⟨bs[t]'(by rw[am.out];omega),JQ _⟩;rw[g1];rfl
          ·obtain rfl:t=s:=Qk
           have h2:=HZ.out.2.2.2.2;rw[<-K.out]at h2;refine⟨z,HZ.out.2.2.1,Zsl.done (UF o.out) (λx hx=>(ak.out x hx).1) ad bc.out al.out ?_⟩;show Zsl (dcs m) P t f (bs.getD (t - 2^f) 0) _ _ _;rw[cj.out];exact h2⟩
         go_wp2;go_roundw
         case rel=>exact⟨s+1,bz,Qk,Qk,by go_num,u,F,JZ ⟨HZ.out.1,cp.out⟩⟩
         case measure=>exact Qn
    ·obtain rfl:N2=s:=Qk
     obtain⟨z,hz,bx⟩:=HB.out.2.2 (N2 - 1) Qk;obtain⟨y1,y2,_,_⟩:=HB.out.1.at_ hz;have ap:(0:Int)<=(N2:Int) - 1:=Qk;have ci:(N2:Int) - 1<N2:=Qk;have da:((N2:Int) - 1).toNat=N2 - 1:=Qk;have cq:=JZ bx;clear hz bx;go_wp2;go_ret;exact⟨z,rfl,cq.out,y⟩
end Go.Proofs.YtobadipflggkiaaGreat
