/- Lemmas of the claim; no condition. -/
import Derived.Test.YtobadipflggkiaaGreatW13
set_option linter.all false
set_option maxRecDepth 100000
set_option maxHeartbeats 40000000
namespace Go.Proofs.YtobadipflggkiaaGreat
open Go.RowKit
open Pl Tryz
attribute [local go_sem ↓] Go.wp_at_zero Go.wp_at_succ
def info_task:(prog.info? 107).map (λi=>(i.zero,i.size,i.bytes))=some (some (.agg #[.int .i64 0,.bool false]),2,16):=Qm
def Zjd(ty:TypeId)(W:World)(base:Nat)(v:Value)(l:List (Tk))(t:Tk)(hown:RdO TkR 107 2 base W v l)(ht: -9223372036854775808<=t.fl/\t.fl<=9223372036854775807)(hn:l.length+1<=1099511627776)(hbase:base<=W.heap.size):
 ∃v' w',(Builtin.append_ #[109,109] ty #[v,.slice (some ⟨W.heap.size,0,none⟩) 1 1]).run prog (W.alloc (.cells #[.int .i64 t.fl,.bool t.hd] 107))= .ok v' w'/\RdO TkR 107 2 base w' v' (l++[t])/\Zf 107 W w'/\Below base W w'/\ZA v.ownBlock W w'/\(v'.ownBlock=v.ownBlock\/∀g,v'.ownBlock=some g->W.heap.size<=g):=by
 obtain⟨i0,hi,a,b,c⟩:=kL info_task;exact Wm ty 109 107 i0 _ 2 16 underlying109 hi a b c rfl Ql W base v l t [.int .i64 t.fl,.bool t.hd] hown rfl (λu hu=>by
  simp at hu;rcases hu with rfl|rfl <;> rfl) hn Ql hbase (λw2 _ _ _ h=>h) ⟨rfl,ht.1,ht.2⟩
def Wn{ops:Array Oper}{rest:List Oper}{o:Oper}{a:Act}{Q:Exit->Act->World->Prop}(hgd:o.guard=none)(s0 x0:Operand)
 (ho:o.op= .call { callee:= .builtin .append,args:=#[s0,x0],argTypes:=#[109,109] })
 (W:World) (base:Nat) (v:Value) (l:List (Tk)) (t:Tk) (hs:a.eval s0=v) (hown:RdO TkR 107 2 base W v l) (ht: -9223372036854775808<=t.fl/\t.fl<=9223372036854775807)
 (hx:a.eval x0= .slice (some ⟨W.heap.size,0,none⟩) 1 1) (hn:l.length+1<=1099511627776) (hbase:base<=W.heap.size)
 (h:∀v' w',RdO TkR 107 2 base w' v' (l++[t])->Zf 107 W w'->Below base W w'->ZA v.ownBlock W w'->(v'.ownBlock=v.ownBlock\/∀g,v'.ownBlock=some g->W.heap.size<=g)->wpList prog ops Q rest (a.put o.dst v') w'):
 wpList prog ops Q (o::rest) a (W.alloc (.cells #[.int .i64 t.fl,.bool t.hd] 107)):=by
 refine eP hgd λK hK=>?_
 obtain⟨v',w',hr,g1,g2,g3,g4,g5⟩:=Zjd o.type W base v l t hown ht hn hbase;unfold Oper.wp execOp;simp only[ho,resolve,invoke,builtin,vP,bP,vD,vL,kM,gG,hs,hx,hr];exact hK _ _ (h v' w' g1 g2 g3 g4 g5)
def info_duty:(prog.info? 109).map (λi=>(i.zero,i.size,i.bytes))=some (some (.slice none 0 0),1,24):=Qm
def Zje(ty:TypeId)(W:World)(base:Nat)(v:Value)(l:List (List Tk))(d:List Tk)(A:Option Addr)(n c:Nat)(hown:RdO DuR 109 1 base W v l)(ht:DutM W (.slice A n c) d)(hn:l.length+1<=1099511627776)(hbase:base<=W.heap.size):
 ∃v' w',(Builtin.append_ #[60,60] ty #[v,.slice (some ⟨W.heap.size,0,none⟩) 1 1]).run prog (W.alloc (.cells #[.slice A n c] 109))= .ok v' w'/\RdO DuR 109 1 base w' v' (l++[d])/\Zf 109 W w'/\Below base W w'/\ZA v.ownBlock W w'/\(v'.ownBlock=v.ownBlock\/∀g,v'.ownBlock=some g->W.heap.size<=g):=by
 obtain⟨i0,hi,a,b,e⟩:=kL info_duty;exact Wm ty 60 109 i0 _ 1 24 underlying60 hi a b e rfl Ql W base v l d [.slice A n c] hown rfl (λu hu=>by simp at hu;subst hu;rfl) hn Ql hbase (λw2 hk _ _ h=>h.but hk Ql) ⟨A,n,c,rfl,ht⟩
def VS{ops:Array Oper}{rest:List Oper}{o:Oper}{a:Act}{Q:Exit->Act->World->Prop}(hgd:o.guard=none)(s0 x0:Operand)
 (ho:o.op= .call { callee:= .builtin .append,args:=#[s0,x0],argTypes:=#[60,60] })
 (W:World) (base:Nat) (v:Value) (l:List (List Tk)) (d:List Tk) (A:Option Addr) (n c:Nat) (hs:a.eval s0=v) (hown:RdO DuR 109 1 base W v l) (ht:DutM W (.slice A n c) d)
 (hx:a.eval x0= .slice (some ⟨W.heap.size,0,none⟩) 1 1) (hn:l.length+1<=1099511627776) (hbase:base<=W.heap.size)
 (h:∀v' w',RdO DuR 109 1 base w' v' (l++[d])->Zf 109 W w'->Below base W w'->ZA v.ownBlock W w'->(v'.ownBlock=v.ownBlock\/∀g,v'.ownBlock=some g->W.heap.size<=g)->wpList prog ops Q rest (a.put o.dst v') w'):
 wpList prog ops Q (o::rest) a (W.alloc (.cells #[.slice A n c] 109)):=by
 refine eP hgd λK hK=>?_
 obtain⟨v',w',hr,g1,g2,g3,g4,g5⟩:=Zje o.type W base v l d A n c hown ht hn hbase;unfold Oper.wp execOp;simp only[ho,resolve,invoke,builtin,vP,bP,vD,vL,kM,gG,hs,hx,hr];exact hK _ _ (h v' w' g1 g2 g3 g4 g5)
def info_col:(prog.info? 64).map (λi=>(i.zero,i.size,i.bytes))=some (some (.agg #[.string ⟨#[]⟩,.slice none 0 0,.int .i64 0]),3,48):=Qm
def Zju(ty:TypeId)(W:World)(base:Nat)(v:Value)(l:List (Cl))(x:Cl)(s:ByteArray)(A:Option Addr)(n c:Nat)(hown:RdO ClR 64 3 base W v l)(ht:DutsM W (.slice A n c) x.dut)(hn:l.length+1<=1099511627776)(hbase:base<=W.heap.size):
 ∃v' w',(Builtin.append_ #[23,23] ty #[v,.slice (some ⟨W.heap.size,0,none⟩) 1 1]).run prog (W.alloc (.cells #[.string s,.slice A n c,.int .i64 x.cost] 64))= .ok v' w'/\RdO ClR 64 3 base w' v' (l++[x])/\Zf 64 W w'/\Below base W w'/\ZA v.ownBlock W w'/\(v'.ownBlock=v.ownBlock\/∀g,v'.ownBlock=some g->W.heap.size<=g):=by
 obtain⟨i0,hi,a,b,d⟩:=kL info_col;exact Wm ty 23 64 i0 _ 3 48 underlying23 hi a b d rfl Ql W base v l x [.string s,.slice A n c,.int .i64 x.cost] hown rfl (λu hu=>by
  simp at hu;rcases hu with rfl|rfl|rfl <;> rfl) hn Ql hbase (λw2 hk _ _ h=>h.but hk Ql Ql) ⟨s,A,n,c,rfl,ht⟩
def info_cut:(prog.info? 67).map (λi=>(i.zero,i.size,i.bytes))=some (some (.agg #[.slice none 0 0,.int .i64 0]),2,32):=Qm
def Zjv(ty:TypeId)(W:World)(base:Nat)(v:Value)(l:List (Ct))(x:Ct)(A:Option Addr)(n c:Nat)(hown:RdO CtR 67 2 base W v l)(ht:YF W (.slice A n c) x.rows)(hn:l.length+1<=1099511627776)(hbase:base<=W.heap.size):
 ∃v' w',(Builtin.append_ #[24,24] ty #[v,.slice (some ⟨W.heap.size,0,none⟩) 1 1]).run prog (W.alloc (.cells #[.slice A n c,.int .i64 x.dv] 67))= .ok v' w'/\RdO CtR 67 2 base w' v' (l++[x])/\Zf 67 W w'/\Below base W w'/\ZA v.ownBlock W w'/\(v'.ownBlock=v.ownBlock\/∀g,v'.ownBlock=some g->W.heap.size<=g):=by
 obtain⟨i0,hi,a,b,d⟩:=kL info_cut;exact Wm ty 24 67 i0 _ 2 32 underlying24 hi a b d rfl Ql W base v l x [.slice A n c,.int .i64 x.dv] hown rfl (λu hu=>by
  simp at hu;rcases hu with rfl|rfl <;> rfl) hn Ql hbase (λw2 hk _ _ h=>h.but hk Ql) ⟨A,n,c,rfl,ht⟩
def Uh{ops:Array Oper}{rest:List Oper}{o:Oper}{a:Act}{Q:Exit->Act->World->Prop}(hgd:o.guard=none)(s0 x0:Operand)
 (ho:o.op= .call { callee:= .builtin .append,args:=#[s0,x0],argTypes:=#[24,24] })
 (W:World) (base:Nat) (v:Value) (l:List (Ct)) (x:Ct) (A:Option Addr) (n c:Nat) (hs:a.eval s0=v) (hown:RdO CtR 67 2 base W v l) (ht:YF W (.slice A n c) x.rows)
 (hx:a.eval x0= .slice (some ⟨W.heap.size,0,none⟩) 1 1) (hn:l.length+1<=1099511627776) (hbase:base<=W.heap.size)
 (h:∀v' w',RdO CtR 67 2 base w' v' (l++[x])->Zf 67 W w'->Below base W w'->ZA v.ownBlock W w'->(v'.ownBlock=v.ownBlock\/∀g,v'.ownBlock=some g->W.heap.size<=g)->wpList prog ops Q rest (a.put o.dst v') w'):
 wpList prog ops Q (o::rest) a (W.alloc (.cells #[.slice A n c,.int .i64 x.dv] 67)):=by
 refine eP hgd λK hK=>?_
 obtain⟨v',w',hr,g1,g2,g3,g4,g5⟩:=Zjv o.type W base v l x A n c hown ht hn hbase;unfold Oper.wp execOp;simp only[ho,resolve,invoke,builtin,vP,bP,vD,vL,kM,gG,hs,hx,hr];exact hK _ _ (h v' w' g1 g2 g3 g4 g5)
def Zae(ty:TypeId)(W:World)(base:Nat)(v:Value)(l:List (Dc))(x:Dc)(A:Option Addr)(n c:Nat)(hown:RdO DcR 80 4 base W v l)(ht:YF W (.slice A n c) (iL x.rows))(hn:l.length+1<=1099511627776)(hbase:base<=W.heap.size):
 ∃v' w',(Builtin.append_ #[69,69] ty #[v,.slice (some ⟨W.heap.size,0,none⟩) 1 1]).run prog (W.alloc (.cells #[.int .i64 (x.idx:Int),.int .u32 (x.mask:Int),.slice A n c,.int .i64 x.sur] 80))= .ok v' w'/\RdO DcR 80 4 base w' v' (l++[x])/\Zf 80 W w'/\Below base W w'/\ZA v.ownBlock W w'/\(v'.ownBlock=v.ownBlock\/∀g,v'.ownBlock=some g->W.heap.size<=g):=by
 obtain⟨i0,hi,a,b,d⟩:=kL info_dcol;exact Wm ty 69 80 i0 _ 4 48 underlying69 hi a b d rfl Ql W base v l x [.int .i64 (x.idx:Int),.int .u32 (x.mask:Int),.slice A n c,.int .i64 x.sur] hown rfl (λu hu=>by
  simp at hu;rcases hu with rfl|rfl|rfl|rfl <;> rfl) hn Ql hbase (λw2 hk _ _ h=>h.but hk Ql) ⟨A,n,c,rfl,ht⟩
def VT{ops:Array Oper}{rest:List Oper}{o:Oper}{a:Act}{Q:Exit->Act->World->Prop}(hgd:o.guard=none)(s0 x0:Operand)
 (ho:o.op= .call { callee:= .builtin .append,args:=#[s0,x0],argTypes:=#[69,69] })
 (W:World) (base:Nat) (v:Value) (l:List (Dc)) (x:Dc) (A:Option Addr) (n c:Nat) (hs:a.eval s0=v) (hown:RdO DcR 80 4 base W v l) (ht:YF W (.slice A n c) (iL x.rows))
 (hx:a.eval x0= .slice (some ⟨W.heap.size,0,none⟩) 1 1) (hn:l.length+1<=1099511627776) (hbase:base<=W.heap.size)
 (h:∀v' w',RdO DcR 80 4 base w' v' (l++[x])->Zf 80 W w'->Below base W w'->ZA v.ownBlock W w'->(v'.ownBlock=v.ownBlock\/∀g,v'.ownBlock=some g->W.heap.size<=g)->wpList prog ops Q rest (a.put o.dst v') w'):
 wpList prog ops Q (o::rest) a (W.alloc (.cells #[.int .i64 (x.idx:Int),.int .u32 (x.mask:Int),.slice A n c,.int .i64 x.sur] 80)):=by
 refine eP hgd λK hK=>?_
 obtain⟨v',w',hr,g1,g2,g3,g4,g5⟩:=Zae o.type W base v l x A n c hown ht hn hbase;unfold Oper.wp execOp;simp only[ho,resolve,invoke,builtin,vP,bP,vD,vL,kM,gG,hs,hx,hr];exact hK _ _ (h v' w' g1 g2 g3 g4 g5)
namespace Pl
def Zfj(R:List Int)(c:Cl):Prop:=c.ops≠[]/\c.ops.Nodup/\(∀f∈c.ops,f∈R)/\ -5<=c.cost/\c.cost<=40
def Zwj(d:List Tk)(t:Tk):opD (d++[t])=opD d++(if t.hd=true then []else [t.fl]):=by rw[Zev];simp[opD]
def Znp(p:List (List Tk))(d:List Tk):opP (p++[d])=opP p++opD d:=by rw[Zew];simp[opP]
def Ypd(b:Bool)(R:List Int):List Int:=if b=true then R.reverse else R
def Zgx{b:Bool}{R:List Int}{i:Nat}(hi:i<R.length):(Ypd b R)[i]? =R[if b=true then R.length - 1 - i else i]? :=by
 cases b with
 |false=>simp[Ypd]
 |true=>simp[Ypd,hi]
def Zea{L:List Int}{i:Nat}{y:Int}(h:L[i]? =some y):(∀{a:List Int},a.Sublist (L.take i)->a.Sublist (L.take (i+1)))/\∀{a:List Int},a.Sublist (L.take i)->(a++[y]).Sublist (L.take (i+1)):=by
 rw[jP,h];exact⟨λha=>ha.trans (vg _ _),λha=>List.Sublist.append ha (dU _)⟩
end Pl
def DutO:Nat->World->Value->List Tk->Prop:=RdO TkR 107 2
def DutsO:Nat->World->Value->List (List Tk)->Prop:=RdO DuR 109 1
def Yjw(R:List Int)(w:World)(e:Ending)(w':World):Prop:=∃s A n c cl,e= .returned (.agg #[.string s,.slice A n c,.int .i64 cl.cost])/\DutsM w' (.slice A n c) cl.dut/\Zfj R cl/\Below w.heap.size w w'
def Z6.bds{w:World}{v:Value}{zs:List Int}(h:Z6 w v zs):∀z∈zs,-9223372036854775808<=z/\z<=9223372036854775807:=by
 obtain⟨a,cap,h1,h2,h3,h4,h5⟩:=h;exact h5
def Ztj(v:Value)(R:List Int)(N k:Int)(w:World)(h:Z6 w v R)(h0:1<=R.length)(h1:R.length<=6)(hnd:R.Nodup)(hN0:0<=N)(hN1:N<=1048576)(hk0:0<=k)(hk1:k<=1048576):
 Calls prog 18 #[v,.int .i64 N,.int .i64 k] w (Yjw R w):=by
 obtain⟨A,c,rfl,hc,b1⟩:=h.shape;obtain⟨n,hn⟩:∃n,n=R.length:=⟨_,rfl⟩;rw[<-hn]at h hc h0 h1⊢;have HN:=JZ hn;have HI:=JZ h;have a5:=JZ hnd;clear h hn hnd;have m1:=Zut;have m3:=Yhj;have m7:=Yhk;obtain⟨W,hW,hX,P⟩:=Yem w (.string ⟨#[]⟩) (.slice none 0 0) (.int .i64 0);go_enter func18,ntmps18
 go_upto_if 14 with(fail)
 clear hW
 go_cut [7] (λs7 wx=>∃d,DutO W.heap.size wx s7 d/\opD d=[]/\d.length<=1/\Below W.heap.size W wx)
 case first=>
  by_cases hk:k%2=1
  ·have ag:(k%2==1)=true:=(by simpa using hk);have ah:=JZ (RdO.nil (R:=TkR) 107 2 W.heap.size W);clear hk;go_wp2_with(at_builtin;refine Wn rfl (.tmp 15) (.tmp 17) rfl W W.heap.size (.slice none 0 0) [] ⟨0,true⟩ rfl ah.out ⟨Ql,Ql⟩ rfl Ql (JY _) ?_);intro v' w4 a z m _ _;go_wp2
   go_meet
   exact⟨_,a,by simp[opD],by simp,m⟩
  ·have ag:(k%2==1)=false:=(by simpa using hk);clear hk;go_wp2
   go_meet
   exact⟨[],RdO.nil _ _ _ _,rfl,by simp,JR _ _⟩
 case rest=>
  obtain⟨d0,G,H,am,S⟩:=hcut;have a6:=Za P S P.size;have J:=P.size;have a7:=hX.later S;have a8:=JZ G;obtain⟨fl,af⟩:∃fl:Bool,fl=decide (k/2%8=7):=⟨_,rfl⟩;have a9:=JZ af;clear G af hX P;go_wp2
  go_loopw [7,8,9,10] (λs7 s8 s9 s10 wr=>∃(i:Nat) (dl:List (List Tk)) (d:List Tk) (sm:Bool) (wl:World),i<=n/\s10= .int .i64 i/\s9= .bool sm/\W.heap.size<=wl.heap.size/\Below w.heap.size w wr/\Bk wr w.heap.size 64 [.string ⟨#[]⟩,.slice none 0 0,.int .i64 0]/\Below wl.heap.size wl wr/\dl.length<=i/\d.length<=i+1/\Hid (DutsO W.heap.size wl s8 dl/\DutO wl.heap.size wr s7 d/\(opP dl++opD d).Sublist ((Ypd fl R).take i)/\(sm=false↔opP dl++opD d=[]))) (λ_ _ _ x _=>n - (intOf x).toNat)
  case atStart=>exact⟨0,[],d0,false,W,Qk,rfl,rfl,JY _,a6,a7,S,by simp,Qk,JZ ⟨RdO.nil _ _ _ _,a8.out,by simp[opP,H],by simp[opP,H]⟩⟩
  case round=>
   clear a6 a7 a8 H am S;obtain⟨i,dl,d,sm,wl,hi,rfl,rfl,t,hb,hB,g,b2,hd,HV⟩:=hrel;rcases JX i n with hil|hil
   ·have ap:(i:Int)<n:=Qk;obtain⟨b,an,y0,hA,T,U,_,_⟩:=HI.out.elem hb hil;subst hA;obtain⟨y,hy⟩:∃y,(Ypd fl R)[i]? =some y:=by
     rw[Zgx (by rw[<-HN.out];exact hil)];exact⟨_,JQ (by rw[<-HN.out];split <;> omega)⟩
    have HY:=JZ hy;have aa: -9223372036854775808<=y/\y<=9223372036854775807:=by
     rw[Zgx (by rw[<-HN.out];exact hil)]at hy;exact HI.out.bds y (jC hy)
    have ai:=JZ aa;clear aa
    go_upto_if 32 with(fail)
    go_cut [11] (λs11 wx=>s11= .int .i64 y/\wx=wr)
    case first=>
     cases hf:fl with
     |true=>
      have C:k/2%8=7:=(by have:=a9.out;rw[hf]at this;simpa using this.symm);have ab:(k/2%8==7)=true:=(by simpa using C);rw[hf,Zgx (by rw[<-HN.out];exact hil),jB rfl,<-HN.out]at hy;have aq:=HI.out.cellAt hb hy;have z0:(0:Int)<=(n:Int) - 1 - i:=Qk;have z1:(n:Int) - 1 - i<n:=Qk;have z2:((n:Int) - 1 - i).toNat=n - 1 - i:=Qk;clear hy C;go_wp2
      go_meet
      exact⟨rfl,rfl⟩
     |false=>
      have C:¬k/2%8=7:=(by have:=a9.out;rw[hf]at this;simpa using this.symm);have ab:(k/2%8==7)=false:=(by simpa using C);rw[hf,Zgx (by rw[<-HN.out];exact hil),jA (by simp)]at hy;rw[hy]at U;injection U with U;subst U;clear hy C;go_wp2
      go_meet
      exact⟨rfl,rfl⟩
    case rest=>
     obtain⟨rfl,rfl⟩:=hcut
     go_upto_if 46 with(fail)
     have ac:=@Zea (Ypd fl R) i y HY.out;have ad:=JZ ac;clear ac T hy;by_cases s:N/2^i%2=1
     ·have X:(N/2^i%2==1)=true:=(by simpa using s);have K:=HV.out;have L:=JZ K.2.1;have Y:=JZ K.1;have M:Hid ((opP dl++opD (d++[⟨y,false⟩])).Sublist ((Ypd fl R).take (i+1))/\opP dl++opD (d++[⟨y,false⟩])≠[]):=JZ (by
       have e:opP dl++opD (d++[⟨y,false⟩])=(opP dl++opD d)++[y]:=(by rw[Zwj];simp);rw[e];exact⟨ad.out.2 K.2.2.1,by simp⟩)
      have D:d.length+1<=1099511627776:=Qk;have Z:=g.size;clear s K HV;go_wp2_with(at_builtin;refine Wn rfl (.tmp 47) (.tmp 50) rfl wc wl.heap.size u7 d ⟨y,false⟩ rfl L.out ai.out rfl D Z ?_);intro v' w4 a z m _ _;have l:=g.trans m;have r:=hb.trans (m.mono (JW J t));have O:=z.bk hB Ql;obtain⟨A4,n4,c4,rfl⟩:=RdO.sliceN a;clear m z hb hB g L;by_cases V:k/16%4=3
      ·have ae:(k/16%4==3)=true:=(by simpa using V);have a0:Hid (DutsO W.heap.size w4 u8 dl):=JZ (RdO.below Y.out l λ_ _ h=>h.below l);have a1:Hid (DutM w4 (.slice A4 n4 c4) (d++[⟨y,false⟩])):=JZ (RdO.rd a);have o:dl.length+1<=1099511627776:=Qk;have E:W.heap.size<=w4.heap.size:=JW t l.size;clear V a Y;go_wp2_with(at_builtin;refine VS rfl (.tmp 56) (.tmp 58) rfl w4 W.heap.size u8 dl (d++[⟨y,false⟩]) A4 n4 c4 rfl a0.out a1.out rfl o E ?_);intro v5 w5 j I B _ _;have a2:=I.bk O Ql;have a3:=r.trans (B.mono J);have HF:=JZ j;have ar:=B.size;clear j I B;go_wp2;go_roundw
       case rel=>exact⟨i+1,dl++[d++[(⟨y,false⟩:Tk)]],[],true,w5,Qk,by go_num,rfl,Qk,a3,a2,JR _ _,by simp;omega,by simp,JZ ⟨HF.out,RdO.nil _ _ _ _,by rw[Znp];simpa[opD]using M.out.1,by rw[Znp];simpa[opD]using M.out.2⟩⟩
       case measure=>exact Qn
      ·have ae:(k/16%4==3)=false:=(by simpa using V);have HF:=JZ a;clear V a;go_wp2;go_roundw
       case rel=>exact⟨i+1,dl,d++[(⟨y,false⟩:Tk)],true,wl,Qk,by go_num,rfl,t,r,O,l,Qk,by simp;omega,JZ ⟨Y.out,HF.out,M.out.1,by simpa using M.out.2⟩⟩
       case measure=>exact Qn
     ·have X:(N/2^i%2==1)=false:=(by simpa using s);clear s;go_wp2;go_roundw
      case rel=>exact⟨i+1,dl,d,sm,wl,Qk,by go_num,rfl,t,hb,hB,g,Qk,Qk,JZ ⟨HV.out.1,HV.out.2.1,ad.out.1 HV.out.2.2.1,HV.out.2.2.2⟩⟩
      case measure=>exact Qn
   ·obtain rfl:n=i:=Qk
    have F:Hid ((opP dl++opD d).Nodup/\∀f∈opP dl++opD d,f∈R):=JZ (by
     have h1:=HV.out.2.2.1.trans (Bh _ _)
     cases fl with
     |false=>exact⟨List.Nodup.sublist h1 a5.out,λf hf=>h1.subset hf⟩
     |true=>exact⟨List.Nodup.sublist h1 ((List.reverse_perm R).nodup_iff.2 a5.out),λf hf=>dF.1 (h1.subset hf)⟩)
    go_upto_if 61 with(fail)
    go_cut [7] (λs7 wx=>∃d',Below w.heap.size w wx/\Bk wx w.heap.size 64 [.string ⟨#[]⟩,.slice none 0 0,.int .i64 0]/\Below wl.heap.size wl wx/\d'.length<=n+2/\Hid (DutO wl.heap.size wx s7 d'/\opP dl++opD d'≠[]/\(opP dl++opD d').Nodup/\∀f∈opP dl++opD d',f∈R))
    case first=>
     cases sm with
     |true=>
      go_wp2
      go_meet
      exact⟨d,hb,hB,g,Qk,JZ ⟨HV.out.2.1,(λe=>by have:=HV.out.2.2.2.2 e;cases this),F.out.1,F.out.2⟩⟩
     |false=>
      have aj:Hid (opP dl++opD d=[]):=JZ (HV.out.2.2.2.1 rfl);have au:0<=N/64%n:=kv _ Qk;have av:N/64%n<n:=kJ _ Qk;obtain⟨b,an,y,hA,ao,hy,y0,y1⟩:=HI.out.elem hb (k:=(N/64%n).toNat) Qk;subst hA;have HY:=JZ (jC hy);have aw:((n:Int)==0)=false:=(by simp;omega);have ax:¬n=0:=Qk;have L:=JZ HV.out.2.1;have D:d.length+1<=1099511627776:=Qk;have Z:=g.size;clear hy;go_wp2_with(at_builtin;refine Wn rfl (.tmp 62) (.tmp 72) rfl wr wl.heap.size u7 d ⟨y,false⟩ rfl L.out ⟨y0,y1⟩ rfl D Z ?_);intro v' w4 a z m _ _;have l:=g.trans m;have r:=hb.trans (m.mono (JW J t));have O:=z.bk hB Ql;have HF:=JZ a;clear a z m;go_wp2
      go_meet
      exact⟨d++[(⟨y,false⟩:Tk)],r,O,l,by simp;omega,JZ ⟨HF.out,by
       have e:opP dl++opD (d++[(⟨y,false⟩:Tk)])=[y]:=(by rw[Zwj,<-dS,aj.out];simp);rw[e];refine⟨by simp,by simp,λf hf=>?_⟩;simp at hf;subst hf;exact HY.out⟩⟩
    case rest=>
     clear hb hB g hd;obtain⟨d',hb,hB,g,b3,HD⟩:=hcut;have a4:=JZ HV.out.1;clear HV F;obtain⟨A7,c7,rfl⟩:=RdO.slice HD.out.1;obtain⟨-,q1,q2⟩:=RdM.len (RdO.rd HD.out.1);generalize hq:d'.length=q at *;have ak:=JZ hq;clear hq
     go_upto_if 76 with(fail)
     go_cut [8] (λs8 wx=>∃u,Below w.heap.size w wx/\Bk wx w.heap.size 64 [.string ⟨#[]⟩,.slice none 0 0,.int .i64 0]/\Hid (DutsO W.heap.size wx s8 u/\opP u=opP dl++opD d'))
     case first=>
      rcases JV q with hq0|hq0
      ·have G:d'=[]:=kW (by rw[ak.out];exact hq0);subst hq0;have HF:Hid (DutsO W.heap.size wc u8 dl/\opP dl=opP dl++opD d'):=JZ ⟨RdO.below a4.out g λ_ _ h=>h.below g,by rw[G];simp[opD]⟩;clear G;go_wp2
       go_meet
       exact⟨dl,hb,hB,HF⟩
      ·have ay:(0:Int)<q:=Qk;have a0:Hid (DutsO W.heap.size wc u8 dl):=JZ (RdO.below a4.out g λ_ _ h=>h.below g);have a1:Hid (DutM wc (.slice A7 q c7) d'):=JZ (RdO.rd HD.out.1);have o:dl.length+1<=1099511627776:=Qk;have E:W.heap.size<=wc.heap.size:=JW t g.size;clear g a4;go_wp2_with(at_builtin;refine VS rfl (.tmp 77) (.tmp 79) rfl wc W.heap.size u8 dl d' A7 q c7 rfl a0.out a1.out rfl o E ?_);intro v5 w5 j I B _ _;have a2:=I.bk hB Ql;have a3:=hb.trans (B.mono J);have HF:Hid (DutsO W.heap.size w5 v5 (dl++[d'])/\opP (dl++[d'])=opP dl++opD d'):=JZ ⟨j,Znp _ _⟩;clear j I B;go_wp2
       go_meet
       exact⟨dl++[d'],a3,a2,HF⟩
     case rest=>
      clear hb hB g;obtain⟨u,hb,hB,HF⟩:=hcut;obtain⟨A8,n8,c8,rfl⟩:=RdO.sliceN HF.out.1;obtain⟨x0,x1,x2⟩:=hB.three;obtain⟨f0,f1,f2⟩:=hB.threeF;have az:0<=N/32%41:=kv _ Qk;have b0:N/32%41<41:=kJ _ Qk;go_wp2;refine Zq results18 underlying64 Qm rfl (((hB.set_ 0 _).set_ 1 _).set_ 2 _) rfl ?_;have k1:=Zf.setCell hB 0 (.string ⟨#[65,65,65]⟩);have k2:=Zf.setCell (hB.set_ 0 (.string ⟨#[65,65,65]⟩)) 1 (.slice A8 n8 c8);have k3:=Zf.setCell ((hB.set_ 0 (.string ⟨#[65,65,65]⟩)).set_ 1 (.slice A8 n8 c8)) 2 (.int .i64 (N/32%41 - 5));have kk:=(k1.trans k2).trans k3;have al:DutsM wc (.slice A8 n8 c8) u:=RdO.rd HF.out.1;refine⟨⟨#[65,65,65]⟩,A8,n8,c8,⟨u,N/32%41 - 5⟩,rfl,al.but kk Ql Ql,?_,((hb.setCell (p:=⟨w.heap.size,0,none⟩) (JY _) _).setCell (p:=⟨w.heap.size,1,none⟩) (JY _) _).setCell (p:=⟨w.heap.size,2,none⟩) (JY _) _⟩;have he:Cl.ops ⟨u,N/32%41 - 5⟩=opP dl++opD d':=HF.out.2;unfold Zfj;rw[he];exact⟨HD.out.2.1,HD.out.2.2.1,HD.out.2.2.2,by simp only;omega,by simp only;omega⟩
def Zf.bk0{w:World}{g b i:Nat}{u:Value}{e t:TypeId}{cs:List Value}(_:Zf e w (w.setCell ⟨g,i,none⟩ u))(h:Bk w b t cs)(hn:b≠g):Bk (w.setCell ⟨g,i,none⟩ u) b t cs:=h.far hn u
namespace Pl
def Yev{l:List Int}(h:l.Pairwise (·< ·)):l.Nodup:=vS.2 (h.imp fun{a b} hab=>Int.ne_of_lt hab)
def Zfz(R:List Int):Prop:=3<=R.length/\R.length<=5/\R.Pairwise (·< ·)/\∀r∈R,0<=r/\r<6
end Pl
def Wy{w:World}{g:Nat}{zs:List Int}{cs:List Value}(h:Bk w g 3 cs)(hc:cs=zs.map λz=>Value.int .i64 z)(hl:zs.length<=1000)(hz:∀z∈zs,-9223372036854775808<=z/\z<=9223372036854775807):YF w (.slice (some ⟨g,0,none⟩) zs.length zs.length) zs:=by
 subst hc;refine⟨⟨_,_,rfl,by simp,JY _,by unfold maxLen;omega,λ_=>⟨g,0,_,(0,0),rfl,h,λj u hj=>by simpa using hj⟩⟩,hz⟩
def Yjx(w:World):∃W,((((((w.alloc (.cells #[.int .i64 0,.int .i64 1,.int .i64 2] 3)).alloc (.cells #[.int .i64 1,.int .i64 2,.int .i64 4] 3)).alloc (.cells #[.int .i64 0,.int .i64 1,.int .i64 2,.int .i64 3] 3)).alloc (.cells #[.int .i64 0,.int .i64 2,.int .i64 3,.int .i64 5] 3)).alloc (.cells #[.int .i64 0,.int .i64 1,.int .i64 2,.int .i64 3,.int .i64 4] 3)).alloc (.cells #[.int .i64 1,.int .i64 2,.int .i64 3,.int .i64 4,.int .i64 5] 3)).alloc (.cells #[.slice (some ⟨w.heap.size,0,none⟩) 3 3,.slice (some ⟨w.heap.size+1,0,none⟩) 3 3,.slice (some ⟨w.heap.size+1+1,0,none⟩) 4 4,.slice (some ⟨w.heap.size+1+1+1,0,none⟩) 4 4,.slice (some ⟨w.heap.size+1+1+1+1,0,none⟩) 5 5,.slice (some ⟨w.heap.size+1+1+1+1+1,0,none⟩) 5 5] 22)=W/\Below w.heap.size w W/\
 ∀j:Nat,j<6->∃(A:Option Addr) (k:Nat) (R:List Int),W.cell? ⟨w.heap.size+1+1+1+1+1+1,j,none⟩=some (.slice A k k)/\YF W (.slice A k k) R/\Zfz R:=by
 obtain⟨w1,e1,b1,s1,k1⟩:∃W,w.alloc (.cells #[.int .i64 0,.int .i64 1,.int .i64 2] 3)=W/\Below w.heap.size w W/\W.heap.size=w.heap.size+1/\Bk W w.heap.size 3 [.int .i64 0,.int .i64 1,.int .i64 2]:=⟨_,rfl,Ze _ _,by simp,Bk.new w _ [.int .i64 0,.int .i64 1,.int .i64 2]⟩;rw[e1];obtain⟨w2,e2,b2,s2,k2⟩:∃W,w1.alloc (.cells #[.int .i64 1,.int .i64 2,.int .i64 4] 3)=W/\Below w1.heap.size w1 W/\W.heap.size=w1.heap.size+1/\Bk W w1.heap.size 3 [.int .i64 1,.int .i64 2,.int .i64 4]:=⟨_,rfl,Ze _ _,by simp,Bk.new w1 _ [.int .i64 1,.int .i64 2,.int .i64 4]⟩;rw[e2];obtain⟨w3,e3,b3,s3,k3⟩:∃W,w2.alloc (.cells #[.int .i64 0,.int .i64 1,.int .i64 2,.int .i64 3] 3)=W/\Below w2.heap.size w2 W/\W.heap.size=w2.heap.size+1/\Bk W w2.heap.size 3 [.int .i64 0,.int .i64 1,.int .i64 2,.int .i64 3]:=⟨_,rfl,Ze _ _,by simp,Bk.new w2 _ [.int .i64 0,.int .i64 1,.int .i64 2,.int .i64 3]⟩;rw[e3];obtain⟨w4,e4,b4,s4,k4⟩:∃W,w3.alloc (.cells #[.int .i64 0,.int .i64 2,.int .i64 3,.int .i64 5] 3)=W/\Below w3.heap.size w3 W/\W.heap.size=w3.heap.size+1/\Bk W w3.heap.size 3 [.int .i64 0,.int .i64 2,.int .i64 3,.int .i64 5]:=⟨_,rfl,Ze _ _,by simp,Bk.new w3 _ [.int .i64 0,.int .i64 2,.int .i64 3,.int .i64 5]⟩;rw[e4];obtain⟨w5,e5,b5,s5,k5⟩:∃W,w4.alloc (.cells #[.int .i64 0,.int .i64 1,.int .i64 2,.int .i64 3,.int .i64 4] 3)=W/\Below w4.heap.size w4 W/\W.heap.size=w4.heap.size+1/\Bk W w4.heap.size 3 [.int .i64 0,.int .i64 1,.int .i64 2,.int .i64 3,.int .i64 4]:=⟨_,rfl,Ze _ _,by simp,Bk.new w4 _ [.int .i64 0,.int .i64 1,.int .i64 2,.int .i64 3,.int .i64 4]⟩;rw[e5];obtain⟨w6,e6,b6,s6,k6⟩:∃W,w5.alloc (.cells #[.int .i64 1,.int .i64 2,.int .i64 3,.int .i64 4,.int .i64 5] 3)=W/\Below w5.heap.size w5 W/\W.heap.size=w5.heap.size+1/\Bk W w5.heap.size 3 [.int .i64 1,.int .i64 2,.int .i64 3,.int .i64 4,.int .i64 5]:=⟨_,rfl,Ze _ _,by simp,Bk.new w5 _ [.int .i64 1,.int .i64 2,.int .i64 3,.int .i64 4,.int .i64 5]⟩;rw[e6];obtain⟨w7,e7,b7,s7,k7⟩:∃W,w6.alloc (.cells #[.slice (some ⟨w.heap.size,0,none⟩) 3 3,.slice (some ⟨w.heap.size+1,0,none⟩) 3 3,.slice (some ⟨w.heap.size+1+1,0,none⟩) 4 4,.slice (some ⟨w.heap.size+1+1+1,0,none⟩) 4 4,.slice (some ⟨w.heap.size+1+1+1+1,0,none⟩) 5 5,.slice (some ⟨w.heap.size+1+1+1+1+1,0,none⟩) 5 5] 22)=W/\Below w6.heap.size w6 W/\W.heap.size=w6.heap.size+1/\Bk W w6.heap.size 22 [.slice (some ⟨w.heap.size,0,none⟩) 3 3,.slice (some ⟨w.heap.size+1,0,none⟩) 3 3,.slice (some ⟨w.heap.size+1+1,0,none⟩) 4 4,.slice (some ⟨w.heap.size+1+1+1,0,none⟩) 4 4,.slice (some ⟨w.heap.size+1+1+1+1,0,none⟩) 5 5,.slice (some ⟨w.heap.size+1+1+1+1+1,0,none⟩) 5 5]:=⟨_,rfl,Ze _ _,by simp,Bk.new w6 _ [.slice (some ⟨w.heap.size,0,none⟩) 3 3,.slice (some ⟨w.heap.size+1,0,none⟩) 3 3,.slice (some ⟨w.heap.size+1+1,0,none⟩) 4 4,.slice (some ⟨w.heap.size+1+1+1,0,none⟩) 4 4,.slice (some ⟨w.heap.size+1+1+1+1,0,none⟩) 5 5,.slice (some ⟨w.heap.size+1+1+1+1+1,0,none⟩) 5 5]⟩;rw[e7];rw[s6,s5,s4,s3,s2,s1]at k7;rw[s5,s4,s3,s2,s1]at k6;rw[s4,s3,s2,s1]at k5;rw[s3,s2,s1]at k4;rw[s2,s1]at k3;rw[s1]at k2;refine⟨w7,rfl,((((((b1.trans (b2.mono Qk)).trans (b3.mono Qk)).trans (b4.mono Qk)).trans (b5.mono Qk)).trans (b6.mono Qk)).trans (b7.mono Qk)),λj hj=>?_⟩;have q1:=(((((k1.later b2).later b3).later b4).later b5).later b6).later b7;have q2:=((((k2.later b3).later b4).later b5).later b6).later b7;have q3:=(((k3.later b4).later b5).later b6).later b7;have q4:=((k4.later b5).later b6).later b7;have q5:=(k5.later b6).later b7;have q6:=k6.later b7
 match j,hj with
 |0,_=>exact⟨_,_,[0,1,2],k7.cellAt 0 rfl,Wy (zs:=[0,1,2]) q1 rfl Ql Ql,by unfold Zfz;decide⟩
 |1,_=>exact⟨_,_,[1,2,4],k7.cellAt 1 rfl,Wy (zs:=[1,2,4]) q2 rfl Ql Ql,by unfold Zfz;decide⟩
 |2,_=>exact⟨_,_,[0,1,2,3],k7.cellAt 2 rfl,Wy (zs:=[0,1,2,3]) q3 rfl Ql Ql,by unfold Zfz;decide⟩
 |3,_=>exact⟨_,_,[0,2,3,5],k7.cellAt 3 rfl,Wy (zs:=[0,2,3,5]) q4 rfl Ql Ql,by unfold Zfz;decide⟩
 |4,_=>exact⟨_,_,[0,1,2,3,4],k7.cellAt 4 rfl,Wy (zs:=[0,1,2,3,4]) q5 rfl Ql Ql,by unfold Zfz;decide⟩
 |5,_=>exact⟨_,_,[1,2,3,4,5],k7.cellAt 5 rfl,Wy (zs:=[1,2,3,4,5]) q6 rfl Ql Ql,by unfold Zfz;decide⟩
def ClsO:Nat->World->Value->List Cl->Prop:=RdO ClR 64 3
def CutsO:Nat->World->Value->List Ct->Prop:=RdO CtR 67 2
def Yjy(w:World)(e:Ending)(w':World):Prop:=∃v m,e= .returned v/\MsM w' v m/\VM m/\Hid (m.fl=6/\3<=m.rows.length/\m.rows.length<=5)/\Below w.heap.size w w'
def Zyz(v:Value)(zs:List Int)(w:World)(h:Z6 w v zs):
 Calls prog 4 #[v] w (Yjy w):=by
 obtain⟨a,cap,rfl,hc1,hc2⟩:=h.shape;generalize hn:zs.length=n at *;clear hn;obtain⟨W0,hW0,hX,hbe⟩:=Zbj w (.int .i64 0) (.slice none 0 0) (.int .i64 0) (.slice none 0 0) (.slice none 0 0);go_enter func4,ntmps4;go_wp2_with fail;clear hW0;refine(Zox _ zs 0 _ (h.below hbe) Qk).mono ?_;rintro _ w1 ⟨z,rfl,z0,z1,hb1⟩;have hX1:=hX.later hb1;have hbe1:=Za hbe hb1 hbe.size;have hp0:0<=z%30:=Qk
 have hp1:z%30<30:=Qk
 clear hX hbe hb1
 go_upto_region 2 with(fail)
 have hM0:=Bk.new w1 26 [.int .i64 6,.slice none 0 0,.int .i64 (z%30),.slice none 0 0,.slice none 0 0];have hbm:=Ze w1 (.cells #[.int .i64 6,.slice none 0 0,.int .i64 (z%30),.slice none 0 0,.slice none 0 0] 26);have e:(#[.int .i64 6,.slice none 0 0,.int .i64 (z%30),.slice none 0 0,.slice none 0 0]:Array Value)=[.int .i64 6,.slice none 0 0,.int .i64 (z%30),.slice none 0 0,.slice none 0 0].toArray:=rfl;rw[<-e]at hM0;clear e;generalize w1.alloc (.cells #[.int .i64 6,.slice none 0 0,.int .i64 (z%30),.slice none 0 0,.slice none 0 0] 26)=W2 at *;have hbe2:=Za hbe1 hbm hbe1.size;have hX2:=hX1.later hbm;have hgl:w.heap.size<w1.heap.size:=hX1.lt;generalize w1.heap.size=gm at *;clear hbe1 hX1 hbm;generalize hP:z%30=P at *;clear hP z0 z1
 go_cut [4] (λs4 wx=>∃R,Zfz R/\YF wx s4 R/\Below W2.heap.size W2 wx)
 case first=>
  go_wp2_with fail;obtain⟨W3,hW3,hb3,hr⟩:=Yjx W2;rw[hW3];clear hW3;refine(Zox _ zs 1 _ ((h.below hbe2).below hb3) Qk).mono ?_;rintro _ w4 ⟨y,rfl,y0,y1,hb4⟩;have hj0:0<=y%6:=Qk
  have hj1:y%6<6:=Qk
  obtain⟨A,k,R,hcell,hI,hR⟩:=hr (y%6).toNat Qk;have hcell4:=Zi hb4 hcell;have HR:=JZ hR;have HI:=JZ (hI.below hb4);have hb34:=Za hb3 hb4 hb3.size;clear hr hcell hR hI hb3 hb4;go_wp2
  go_meet
  exact⟨R,HR.out,HI.out,hb34⟩
 case rest=>
  obtain⟨R,hR,hI,hb⟩:=hcut;obtain⟨A4,c4,rfl,hc41,hc42⟩:=hI.shape;obtain⟨r1,r2,r3,r4⟩:=hR;obtain⟨q,hq⟩:∃q,q=R.length:=⟨_,rfl⟩;rw[<-hq]at hI hc41 r1 r2⊢;have HQ:=JZ hq;have HI:=JZ hI;have HRA:=JZ r3;have HRB:=JZ r4;have hM:=hM0.later hb;have hbe3:=Za hbe2 hb hbe2.size;have hX3:=hX2.later hb;obtain⟨x0,x1,x2,x3,x4⟩:=hM.five;obtain⟨vr,wr',hrun,hro,hrk,hrb,_,_⟩:=XO 22 wc wc.heap.size (.slice none 0 0) (.slice A4 q c4) [] R (Zt.nil _ _) HI.out.ints (by simp;omega) (JY _);obtain⟨Av,nv,cv,rfl⟩:=hro.sliceN;have hnv:nv=q:=by rw[hro.len,HQ.out];simp
  subst hnv;have hM4:=hrk.bk hM Ql;obtain⟨y0,y1,y2,y3,y4⟩:=hM4.five;have f1:=hM4.frozen 1;have hM5:=hM4.set_ 1 (.slice Av nv cv);have kk:=Zf.setCell hM4 1 (.slice Av nv cv);have hgw:=hM0.lt;have hgc:gm<wc.heap.size:=hM.lt;have hbe4:=hbe3.trans (hrb.mono hbe3.size);have hbe5:=hbe4.setCell (p:=⟨gm,1,none⟩) (jZ hgl) (.slice Av nv cv);have hX5:=kk.bk0 (hrk.bk hX3 Ql) (BL hgl);have HI5:=JZ ((HI.out.below (hrb.mono (JY _))).but kk Ql);have HV5:Hid (YF (wr'.setCell ⟨gm,1,none⟩ (.slice Av nv cv)) (.slice Av nv cv) R):=JZ (by simpa using hro.typed.but kk Ql);simp only[jO,jL]at hM5;clear hq hI r3 r4 hro hrb hM kk;go_wp2_with(at_builtin;refine wpList_append_run hrun rfl rfl rfl rfl rfl ?_);have HW5:Hid (w.heap.size<=gm):=JZ (jZ hgl);clear hX3 hM4 y0 y1 y2 y3 y4 f1 hbe4 hbe3 hrun HI hX2 hM0 hb hgc hbe2 x0 x1 x2 x3 x4 hrk;generalize wr'.setCell ⟨gm,1,none⟩ (.slice Av nv cv)=W5 at *
  go_loopw [5] (λx wr=>∃(j:Nat) (sv:Value) (cols:List Cl),j<=6/\x= .int .i64 j/\Below w.heap.size w wr/\Bk wr w.heap.size 26 [.int .i64 0,.slice none 0 0,.int .i64 0,.slice none 0 0,.slice none 0 0]/\Bk wr gm 26 [.int .i64 6,.slice Av nv cv,.int .i64 P,sv,.slice none 0 0]/\Hid (YF wr (.slice A4 nv c4) R/\YF wr (.slice Av nv cv) R)/\cols.length<=j/\Hid (ClsO w.heap.size wr sv cols/\∀cl∈cols,Zfj R cl)) (λx _=>7 - (intOf x).toNat)
  case atStart=>exact⟨0,_,[],Qk,rfl,hbe5,hX5,hM5,JZ ⟨HI5.out,HV5.out⟩,by simp,JZ ⟨RdO.nil _ _ _ _,λcl h=>by simp at h⟩⟩
  case round=>
   clear hbe5 hX5 hM5 HI5 HV5;obtain⟨j,sv,cols,hj,rfl,hb,hX,hM,HT,hcl,HC⟩:=hrel;go_wp2_with fail;refine(Zox _ zs 2 _ (h.below hb) Qk).mono ?_;rintro _ w6 ⟨y,rfl,y0,y1,hb6⟩;have hjb:0<=y%7/\y%7<7:=Qk;obtain⟨g0,g1⟩:=hjb;have hb7:=Za hb hb6 hb.size;have hX7:=hX.later hb6;have hM7:=hM.later hb6;have HT7:=JZ (And.intro (HT.out.1.below hb6) (HT.out.2.below hb6));have HC7:Hid (ClsO w.heap.size w6 sv cols/\∀cl∈cols,Zfj R cl):=JZ ⟨RdO.below HC.out.1 hb6 λ_ _ h=>h.below hb6,HC.out.2⟩;clear hb hX hM HT HC hb6;by_cases hlt:(j:Int)<y%7
   ·have hj5:j<=5:=Qk;obtain⟨x0,x1,x2,x3,x4⟩:=hM7.five;obtain⟨Ac,ncc,cc,rfl⟩:=RdO.sliceN HC7.out.1
    go_upto_region 7 with(fail)
    have C0:=Zm x3;have hS0:=Zc w6;clear x0 x1 x2 x3 x4;refine Zj 15 [0,1,2,3,4,5,6,8,9,10,11,7,12,13,14,15,16,17] Qm Qm ?_;refine Qb ?_
    refine Qo λ_ kq=>?_;(with_reducible refine(Zuv _ zs (5+2* (j:Int)) _ ((h.below hb7).below hS0) Qk Qk).mono ?_);rintro _ w8 ⟨n8,rfl,p0,p1,hb8⟩;have hS8:=Za hS0 hb8 hS0.size;refine kq.out _ _ (.inr hS8) (Qc ?_);clear kq
    refine Qo λ_ kq=>?_;(with_reducible refine(Zuv _ zs (6+2* (j:Int)) _ ((h.below hb7).below hS8) Qk Qk).mono ?_);rintro _ w9 ⟨n9,rfl,q0,q1,hb9⟩;have hS9:=Za hS8 hb9 hS8.size;refine kq.out _ _ (.inr hS9) (Qc ?_);clear kq
    refine Qo λ_ kq=>?_;(with_reducible refine(Ztj _ R n8 n9 _ ((HT7.out.1.below hS9).ints) (by have:=HQ.out;omega) (by have:=HQ.out;omega) (Yev HRA.out) p0 Qk q0 Qk).mono ?_);rintro _ w10 ⟨sb,Ad,nd,cd,cl,rfl,hD,hG,hb10⟩;have hS10:=Za hS9 hb10 hS9.size;have HD:=JZ hD;have HG:=JZ hG;clear hD hG;refine kq.out _ _ (.inr hS10) (Qc ?_);clear kq
    refine Qo λ_ kq=>?_;refine kq.out _ _ (.inr (Za hS10 (Ze _ _) hS10.size)) ?_;clear kq;refine Qj ?_;have HC10:Hid (ClsO w.heap.size w10 (.slice Ac ncc cc) cols):=JZ (RdO.below HC7.out.1 hS10 λ_ _ h=>h.below hS10);obtain⟨v11,w11,hrun,hro,hrk,hrb,_,_⟩:=Zju 23 w10 w.heap.size (.slice Ac ncc cc) cols cl sb Ad nd cd HC10.out HD.out Qk (by have:=hb7.size;have:=hS10.size;omega);obtain⟨A11,n11,c11,rfl⟩:=RdO.sliceN hro;refine Zd rfl rfl (λ_ kq=>?_);refine ZR _ _ rfl rfl rfl rfl hrun ?_;refine kq.out _ _ (.inl Ql) (Qj ?_);clear kq;have hM11:=hrk.bk (hM7.later hS10) Ql;obtain⟨x0,x1,x2,x3,x4⟩:=hM11.five;have f3:=hM11.frozen 3;refine Qh ?_;refine Qh ?_;refine Zl ?_;have kk:=Zf.setCell hM11 3 (.slice A11 n11 c11);have hM12:=hM11.set_ 3 (.slice A11 n11 c11);have hX12:=kk.bk0 (hrk.bk (hX7.later hS10) Ql) (BL hgl);have hb12:=((Za hb7 hS10 hb7.size).trans hrb).setCell (p:=⟨gm,3,none⟩) HW5.out (.slice A11 n11 c11);have HT12:=JZ (And.intro (((HT7.out.1.below hS10).but hrk Ql).but kk Ql) (((HT7.out.2.below hS10).but hrk Ql).but kk Ql));have HC12:Hid (ClsO w.heap.size (w11.setCell ⟨gm,3,none⟩ (.slice A11 n11 c11)) (.slice A11 n11 c11) (cols++[cl])/\∀c∈cols++[cl],Zfj R c):=JZ ⟨RdO.keep hro kk Ql λ_ _ h=>h.but kk Ql Ql,λc hc=>by
     rcases jW.1 hc with hc|hc
     ·exact HC7.out.2 c hc
     ·simp at hc;subst hc;exact HG.out⟩
    simp only[jO,jL]at hM12;clear C0 hS0 hS8 hS9 hS10 hb8 hb9 hb10 hM11 x0 x1 x2 x3 x4 f3 kk hro hrk hrb hrun hX7 hM7 hb7 HC10 HD HT7 HC7 HG y0 y1 g0 g1 p0 p1 q0 q1;go_wp2;go_roundw
    case rel=>exact⟨j+1,_,cols++[cl],Qk,by go_num,hb12,hX12,hM12,HT12,by simp;omega,HC12⟩
    case measure=>exact Qn
   ·obtain⟨Ac,ncc,cc,rfl⟩:=RdO.sliceN HC7.out.1;go_wp2;clear y0 y1 g0 g1;generalize w6=wo at *
    go_loopw [6] (λx wr=>∃(k:Nat) (cv':Value) (cuts:List Ct),k<=2/\x= .int .i64 k/\Below w.heap.size w wr/\Bk wr w.heap.size 26 [.int .i64 0,.slice none 0 0,.int .i64 0,.slice none 0 0,.slice none 0 0]/\Bk wr gm 26 [.int .i64 6,.slice Av nv cv,.int .i64 P,.slice Ac ncc cc,cv']/\Hid (YF wr (.slice A4 nv c4) R/\YF wr (.slice Av nv cv) R/\ClsM wr (.slice Ac ncc cc) cols)/\cuts.length<=k/\Hid (CutsO w.heap.size wr cv' cuts/\∀x∈cuts,Zqn R x)) (λx _=>3 - (intOf x).toNat)
    case atStart=>exact⟨0,_,[],Qk,rfl,hb7,hX7,hM7,JZ ⟨HT7.out.1,HT7.out.2,RdO.rd HC7.out.1⟩,by simp,JZ ⟨RdO.nil _ _ _ _,λx h=>by simp at h⟩⟩
    case round=>
     have HCG:Hid (∀cl∈cols,Zfj R cl):=JZ HC7.out.2;clear hb7 hX7 hM7 HT7 HC7;obtain⟨k,cv',cuts,hk,rfl,hb,hX,hM,HT,hcl2,HC⟩:=hrel;go_wp2_with fail;refine(Zox _ zs 3 _ (h.below hb) Qk).mono ?_;rintro _ w6 ⟨y,rfl,y0,y1,hb6⟩;have hjb:0<=y%3/\y%3<3:=Qk;obtain⟨g0,g1⟩:=hjb;have hb7:=Za hb hb6 hb.size;have hX7:=hX.later hb6;have hM7:=hM.later hb6;have HT7:=JZ (And.intro (HT.out.1.below hb6) (And.intro (HT.out.2.1.below hb6) (HT.out.2.2.below hb6)));have HC7:Hid (CutsO w.heap.size w6 cv' cuts/\∀x∈cuts,Zqn R x):=JZ ⟨RdO.below HC.out.1 hb6 λ_ _ h=>h.below hb6,HC.out.2⟩;clear hb hX hM HT HC hb6;by_cases hlt:(k:Int)<y%3
     ·have hk1:k<=1:=Qk;obtain⟨x0,x1,x2,x3,x4⟩:=hM7.five;go_wp2_with fail;clear x0 x1 x2 x3 x4 y0 y1 g0 g1;have hbk:=Ze w6 (.cells #[.slice none 0 0,.int .i64 2] 67);have hK:=Bk.new w6 67 [.slice none 0 0,.int .i64 2];have e:(#[.slice none 0 0,.int .i64 2]:Array Value)=[.slice none 0 0,.int .i64 2].toArray:=rfl;rw[<-e]at hK;clear e;have hb8:=Za hb7 hbk hb7.size;have hsz7:(w6.alloc (.cells #[.slice none 0 0,.int .i64 2] 67)).heap.size=w6.heap.size+1:=(by simp);have hgk:gm<w6.heap.size:=hM7.lt;have hwk:w.heap.size<=w6.heap.size:=hb7.size;generalize w6.alloc (.cells #[.slice none 0 0,.int .i64 2] 67)=w7 at *;refine(Zuv _ zs (20+(k:Int)) _ (h.below hb8) Qk Qk).mono ?_;rintro _ w9 ⟨y,rfl,y0,y1,hb9⟩;have hs0:0<=y%nv:=kv _ Qk;have hs1:y%nv<nv:=kJ _ Qk;have hn0:((nv:Int)==0)=false:=(by simp;omega);have hn1:¬nv=0:=Qk;have hb69:=Za hbk hb9 hbk.size;have hK10:=hK.later hb9;have hs9:w6.heap.size+1<=w9.heap.size:=(by have:=hb9.size;omega);clear hb8 hK hb9 hbk hsz7;go_wp2;generalize y%nv=sk at *;clear y0 y1;have HS9:=JZ hs9;clear hs9;generalize w9=wo2 at *
      go_loopw [9] (λx wr=>∃(i:Nat) (ys:List Int) (xv:Value),i<=nv/\x= .int .i64 i/\Below w6.heap.size w6 wr/\Bk wr w6.heap.size 67 [xv,.int .i64 2]/\w6.heap.size+1<=wr.heap.size/\ys.length<=i/\i<=ys.length+(if sk<i then 1 else 0)/\(nv=3->i<=ys.length)/\Hid (Zt (w6.heap.size+1) wr xv ys/\ys.Sublist (R.take i))) (λx _=>nv - (intOf x).toNat)
      case atStart=>exact⟨0,[],.slice none 0 0,Qk,rfl,hb69,hK10,HS9.out,by simp,by simp,by simp,JZ ⟨Zt.nil _ _,by simp⟩⟩
      case round=>
       clear hb69 hK10;obtain⟨i,ys,xv,hi,rfl,hb69,hK,hsw,hy1,hy2,hy3,HY⟩:=hrel;rcases JX i nv with hil|hil
       ·have hiz:(i:Int)<nv:=Qk;obtain⟨b,off,f,hA,hcell,hf,fb0,fb1⟩:=(HT7.out.1.ints).elem hb69 hil;subst hA;have HF:=JZ (Zea hf);clear hf;by_cases hcond:(i:Int)≠sk\/nv=3
        ·have hlen:ys.length+1<=1099511627776:=Qk;have HYO:=JZ HY.out.1;obtain⟨k0,k1,f0,f1⟩:=hK.two;obtain⟨A0,n0,c0,rfl⟩:=HY.out.1.sliceN;have hc:((i:Int) !=sk)=true\/(((i:Int) !=sk)=false/\((nv:Int)==3)=true):=by
          rcases hcond with h|h
          ·exact .inl (by simpa using h)
          ·by_cases e:(i:Int)=sk
           ·exact .inr ⟨by simpa using e,by simpa using congrArg (Nat.cast (R:=Int)) h⟩
           ·exact .inl (by simpa using e)
         clear hcond;rcases hc with c1|⟨c1,c2⟩;all_goals(
          go_upto_region 17 with(fail)
          clear c1;try clear c2
          have C0:=Zm hcell;have C1:=Zm k0;have hS0:=Zc wr;clear hcell k0 k1;refine Zj 7 [0,1,2,3,4,5,6,7,8,9] Qm Qm ?_;refine Qb ?_
          refine Qo λ_ kq=>?_;refine kq.out _ _ (.inr (Za hS0 (Ze _ _) hS0.size)) ?_;clear kq;refine Qj ?_;obtain⟨v11,w11,hrun,hro,hrk,hrb,_,_⟩:=V4 22 wr.drew (w6.heap.size+1) (.slice A0 n0 c0) ys f (HYO.out.below hS0) fb0 fb1 hlen (by have:=hS0.size;omega);obtain⟨A11,n11,c11,rfl⟩:=hro.sliceN;refine Zd rfl rfl (λ_ kq=>?_);refine ZR _ _ rfl rfl rfl rfl hrun ?_;refine kq.out _ _ (.inl Ql) (Qj ?_);clear kq;have hK11:=hrk.bk (hK.later hS0) Ql;obtain⟨k0,k1,f0,f1⟩:=hK11.two;refine Qh ?_;refine Qh ?_;refine Zl ?_;have kk:=Zf.setCell hK11 0 (.slice A11 n11 c11);have hK12:=hK11.set_ 0 (.slice A11 n11 c11);have hb12:=(Za hb69 hS0 hb69.size).trans ((hrb.mono (Nat.le_succ w6.heap.size)).setCell (p:=⟨w6.heap.size,0,none⟩) (JY _) (.slice A11 n11 c11));have hs12:w6.heap.size+1<=(w11.setCell ⟨w6.heap.size,0,none⟩ (.slice A11 n11 c11)).heap.size:=by
           have:=hS0.size;have:=hrb.size;simp;omega
          have HY12:Hid (Zt (w6.heap.size+1) (w11.setCell ⟨w6.heap.size,0,none⟩ (.slice A11 n11 c11)) (.slice A11 n11 c11) (ys++[f])/\(ys++[f]).Sublist (R.take (i+1))):=JZ ⟨hro.but kk Ql,HF.out.2 HY.out.2⟩;simp only[jO,jL]at hK12;generalize w11.setCell ⟨w6.heap.size,0,none⟩ (.slice A11 n11 c11)=w12 at *;clear kk hK11 hrun hro hrk hrb hK hb69 hS0 C0 C1 k0 k1 f0 f1 HY HYO HF hsw;go_wp2;go_roundw
          case rel=>exact⟨i+1,ys++[f],_,Qk,by go_num,hb12,hK12,hs12,by simp;omega,by simp;split at hy2 <;> split <;> omega,λe=>by simp;exact hy3 e,HY12⟩
          case measure=>exact Qn)
        ·have c1:((i:Int) !=sk)=false:=(by simp;omega);have c2:((nv:Int)==3)=false:=(by simp;omega);have HY12:Hid (Zt (w6.heap.size+1) wr xv ys/\ys.Sublist (R.take (i+1))):=JZ ⟨HY.out.1,HF.out.1 HY.out.2⟩;have hy4:i+1<=ys.length+(if sk< ((i+1:Nat):Int)then 1 else 0):=by
          split at hy2 <;> split <;> omega
         have hy5:nv=3->i+1<=ys.length:=Qk;clear hcond HY HF;go_wp2;go_roundw
         case rel=>exact⟨i+1,ys,_,Qk,by go_num,hb69,hK,hsw,Qk,hy4,hy5,HY12⟩
         case measure=>exact Qn
       ·obtain rfl:nv=i:=Qk
        have hl3:3<=ys.length:=by
         split at hy2 <;> omega
        go_wp2_with fail;refine(Zuv _ zs (24+(k:Int)) _ ((h.below hb7).below hb69) Qk Qk).mono ?_;rintro _ w9 ⟨y,rfl,ya,yb,hb9⟩;obtain⟨A0,n0,c0,rfl⟩:=HY.out.1.sliceN;have hn3:(2:Int)<n0:=(by have:=HY.out.1.len;omega);have hb10:=Za hb69 hb9 hb69.size;have hK10:=hK.later hb9;have HY10:Hid (Zt (w6.heap.size+1) w9 (.slice A0 n0 c0) ys/\ys.Sublist R):=JZ ⟨HY.out.1.below hb9,by have:=HY.out.2;rw[HQ.out,eU]at this;exact this⟩;have hs10:=JW hsw hb9.size;clear hb69 hK hsw HY hb9 hy1 hy2 hy3 hi;obtain⟨k0,k1,f0,f1⟩:=hK10.two;clear hl3;have hyy:(y%2==1)=true\/(y%2==1)=false:=(by cases(y%2==1) <;> simp);rcases hyy with hy|hy
        ·have kk:=Zf.setCell hK10 1 (.int .i64 3);have hK11:=hK10.set_ 1 (.int .i64 3);have hb11:=hb10.setCell (p:=⟨w6.heap.size,1,none⟩) (JY _) (.int .i64 3);have HY11:=JZ (And.intro (HY10.out.1.but kk Ql) HY10.out.2);simp only[jO,jL]at hK11;have hs11:w6.heap.size+1<=(w9.setCell ⟨w6.heap.size,1,none⟩ (.int .i64 3)).heap.size:=(by simpa using hs10);have HDV:Hid ((3:Int)<=ys.length):=JZ (by have:=HY10.out.1.len;omega);clear kk
         go_upto_region 20 with(fail)
         clear hb10 hK10 HY10 hs10 k0 k1 f0 f1 hy;generalize w9.setCell ⟨w6.heap.size,1,none⟩ (.int .i64 3)=w11 at *;generalize hdv:(3:Int)=dv at HDV;rw[hdv]at hK11;have D0:2<=dv/\dv<=3:=Qk;clear hdv;have hgk:gm<w6.heap.size:=hM7.lt;have hwk:w.heap.size<=w6.heap.size:=hb7.size;obtain⟨k0,k1,f0,f1⟩:=hK11.two;obtain⟨x0,x1,x2,x3,x4⟩:=(hM7.later hb11).five;obtain⟨A7,n7,c7,rfl⟩:=RdO.sliceN HC7.out.1;have HCo:Hid (CutsO w.heap.size w11 (.slice A7 n7 c7) cuts):=JZ (RdO.below HC7.out.1 hb11 λ_ _ h=>h.below hb11);have HAt:Hid (YF w11 (.slice A0 n0 c0) ys):=JZ HY11.out.1.typed;have hlen:cuts.length+1<=1099511627776:=Qk;have hbs:w.heap.size<=w11.heap.size:=Qk;go_wp2_with(at_builtin;refine Uh rfl (.tmp 107) (.tmp 109) rfl w11 w.heap.size (.slice A7 n7 c7) cuts ⟨ys,dv⟩ A0 n0 c0 rfl HCo.out HAt.out rfl hlen hbs ?_);intro v13 w12 hown hrk hrb _ _;obtain⟨A13,n13,c13,rfl⟩:=RdO.sliceN hown;clear x0 x1 x2 x3 x4 k0 k1 f0 f1;have hM12:=hrk.bk (hM7.later hb11) Ql;obtain⟨x0,x1,x2,x3,x4⟩:=hM12.five;have f4:=hM12.frozen 4;have kk:=Zf.setCell hM12 4 (.slice A13 n13 c13);have hM13:=hM12.set_ 4 (.slice A13 n13 c13);have hX13:=kk.bk0 (hrk.bk (hX7.later hb11) Ql) (BL hgl);have hb13:=((Za hb7 hb11 hb7.size).trans hrb).setCell (p:=⟨gm,4,none⟩) HW5.out (.slice A13 n13 c13);have HT13:=JZ (And.intro (((HT7.out.1.below hb11).but hrk Ql).but kk Ql) (And.intro (((HT7.out.2.1.below hb11).but hrk Ql).but kk Ql) (((HT7.out.2.2.below hb11).but hrk Ql Ql Ql).but kk Ql Ql Ql)));have HC13:Hid (CutsO w.heap.size (w12.setCell ⟨gm,4,none⟩ (.slice A13 n13 c13)) (.slice A13 n13 c13) (cuts++[⟨ys,dv⟩])/\∀x∈cuts++[(⟨ys,dv⟩:Ct)],Zqn R x):=JZ ⟨RdO.keep hown kk Ql λ_ _ h=>h.but kk Ql,λc hc=>by
          rcases jW.1 hc with hc|hc
          ·exact HC7.out.2 c hc
          ·simp at hc;subst hc;exact⟨HRA.out.sublist HY11.out.2,λr hr=>HY11.out.2.mem hr,D0.1,HDV.out⟩⟩
         simp only[jO,jL]at hM13;clear kk hM12 hown hrk hrb hM7 hX7 HT7 HC7 HCo HAt hb11 hK11 HY11 hs11;go_wp2;go_roundw
         case rel=>exact⟨k+1,_,cuts++[⟨ys,dv⟩],Qk,by go_num,hb13,hX13,hM13,HT13,by simp;omega,HC13⟩
         case measure=>exact Qn
        ·have HDV:Hid ((2:Int)<=ys.length):=JZ (by have:=HY10.out.1.len;omega);have hK11:=hK10;have hb11:=hb10;have HY11:=HY10;have hs11:=hs10;clear hb10 hK10 HY10 hs10
         go_upto_region 20 with(fail)
         clear k0 k1 f0 f1 hy;generalize w9=w11 at *;generalize hdv:(2:Int)=dv at HDV;rw[hdv]at hK11;have D0:2<=dv/\dv<=3:=Qk;clear hdv;have hgk:gm<w6.heap.size:=hM7.lt;have hwk:w.heap.size<=w6.heap.size:=hb7.size;obtain⟨k0,k1,f0,f1⟩:=hK11.two;obtain⟨x0,x1,x2,x3,x4⟩:=(hM7.later hb11).five;obtain⟨A7,n7,c7,rfl⟩:=RdO.sliceN HC7.out.1;have HCo:Hid (CutsO w.heap.size w11 (.slice A7 n7 c7) cuts):=JZ (RdO.below HC7.out.1 hb11 λ_ _ h=>h.below hb11);have HAt:Hid (YF w11 (.slice A0 n0 c0) ys):=JZ HY11.out.1.typed;have hlen:cuts.length+1<=1099511627776:=Qk;have hbs:w.heap.size<=w11.heap.size:=Qk;go_wp2_with(at_builtin;refine Uh rfl (.tmp 107) (.tmp 109) rfl w11 w.heap.size (.slice A7 n7 c7) cuts ⟨ys,dv⟩ A0 n0 c0 rfl HCo.out HAt.out rfl hlen hbs ?_);intro v13 w12 hown hrk hrb _ _;obtain⟨A13,n13,c13,rfl⟩:=RdO.sliceN hown;clear x0 x1 x2 x3 x4 k0 k1 f0 f1;have hM12:=hrk.bk (hM7.later hb11) Ql;obtain⟨x0,x1,x2,x3,x4⟩:=hM12.five;have f4:=hM12.frozen 4;have kk:=Zf.setCell hM12 4 (.slice A13 n13 c13);have hM13:=hM12.set_ 4 (.slice A13 n13 c13);have hX13:=kk.bk0 (hrk.bk (hX7.later hb11) Ql) (BL hgl);have hb13:=((Za hb7 hb11 hb7.size).trans hrb).setCell (p:=⟨gm,4,none⟩) HW5.out (.slice A13 n13 c13);have HT13:=JZ (And.intro (((HT7.out.1.below hb11).but hrk Ql).but kk Ql) (And.intro (((HT7.out.2.1.below hb11).but hrk Ql).but kk Ql) (((HT7.out.2.2.below hb11).but hrk Ql Ql Ql).but kk Ql Ql Ql)));have HC13:Hid (CutsO w.heap.size (w12.setCell ⟨gm,4,none⟩ (.slice A13 n13 c13)) (.slice A13 n13 c13) (cuts++[⟨ys,dv⟩])/\∀x∈cuts++[(⟨ys,dv⟩:Ct)],Zqn R x):=JZ ⟨RdO.keep hown kk Ql λ_ _ h=>h.but kk Ql,λc hc=>by
          rcases jW.1 hc with hc|hc
          ·exact HC7.out.2 c hc
          ·simp at hc;subst hc;exact⟨HRA.out.sublist HY11.out.2,λr hr=>HY11.out.2.mem hr,D0.1,HDV.out⟩⟩
         simp only[jO,jL]at hM13;clear kk hM12 hown hrk hrb hM7 hX7 HT7 HC7 HCo HAt hb11 hK11 HY11 hs11;go_wp2;go_roundw
         case rel=>exact⟨k+1,_,cuts++[⟨ys,dv⟩],Qk,by go_num,hb13,hX13,hM13,HT13,by simp;omega,HC13⟩
         case measure=>exact Qn
     ·obtain⟨A7,n7,c7,rfl⟩:=RdO.sliceN HC7.out.1;obtain⟨x0,x1,x2,x3,x4⟩:=hM7.five;obtain⟨z0,z1,z2,z3,z4⟩:=hX7.five;have q0:=hX7.frozen 0;have q1:=hX7.frozen 1;have q2:=hX7.frozen 2;have q3:=hX7.frozen 3;have q4:=hX7.frozen 4;go_wp2;refine Zq (g:=w.heap.size) (t:=26) (cs:=[.int .i64 6,.slice Av nv cv,.int .i64 P,.slice Ac ncc cc,.slice A7 n7 c7]) results4 underlying26 ?_ ?_ ?_ ?_ ?_
      ·kernel_rfl
      ·rfl
      ·exact(((((hX7.set_ 0 (.int .i64 6)).set_ 1 (.slice Av nv cv)).set_ 2 (.int .i64 P)).set_ 3 (.slice Ac ncc cc)).set_ 4 (.slice A7 n7 c7))
      ·rfl
      have k1:=Zf.setCell hX7 0 (.int .i64 6);have k2:=Zf.setCell (hX7.set_ 0 (.int .i64 6)) 1 (.slice Av nv cv);have k3:=Zf.setCell ((hX7.set_ 0 (.int .i64 6)).set_ 1 (.slice Av nv cv)) 2 (.int .i64 P);have k4:=Zf.setCell (((hX7.set_ 0 (.int .i64 6)).set_ 1 (.slice Av nv cv)).set_ 2 (.int .i64 P)) 3 (.slice Ac ncc cc);have k5:=Zf.setCell ((((hX7.set_ 0 (.int .i64 6)).set_ 1 (.slice Av nv cv)).set_ 2 (.int .i64 P)).set_ 3 (.slice Ac ncc cc)) 4 (.slice A7 n7 c7);have kk:=(((k1.trans k2).trans k3).trans k4).trans k5;have hCC:CutsM w6 (.slice A7 n7 c7) cuts:=RdO.rd HC7.out.1;refine⟨_,⟨6,R,P,cols,cuts⟩,rfl,⟨Av,nv,cv,Ac,ncc,cc,A7,n7,c7,rfl,HT7.out.2.1.but kk Ql,HT7.out.2.2.but kk Ql Ql Ql,hCC.but kk Ql Ql⟩,?_,JZ ⟨rfl,by have:=HQ.out;show 3<=R.length;omega,by have:=HQ.out;show R.length<=5;omega⟩,((((hb7.setCell (p:=⟨w.heap.size,0,none⟩) (JY _) _).setCell (p:=⟨w.heap.size,1,none⟩) (JY _) _).setCell (p:=⟨w.heap.size,2,none⟩) (JY _) _).setCell (p:=⟨w.heap.size,3,none⟩) (JY _) _).setCell (p:=⟨w.heap.size,4,none⟩) (JY _) _⟩;have hR:=HQ.out;exact{
       fl0:=by show(0:Int)<=6;omega
       fl1:=by show(6:Int)<=200;omega
       pen0:=hp0
       pen1:=by show P<=30;omega
       row0:=by show 1<=R.length;omega
       row1:=by show R.length<=6;omega
       asc:=HRA.out
       rb:=HRB.out
       ncol:=by show cols.length<=6;omega
       cost:=λc hc=>⟨(HCG.out c hc).2.2.2.1,(HCG.out c hc).2.2.2.2⟩
       ne:=λc hc=>(HCG.out c hc).1
       nd:=λc hc=>(HCG.out c hc).2.1
       sub:=λc hc=>(HCG.out c hc).2.2.1
       ncut:=by show cuts.length<=2;omega
       cut:=λx hx=>HC7.out.2 x hx }
namespace Pl
def Ztn(a:Nat × List Int)(x:Dc):Nat × List Int:=if x.mask &&& a.1=0 then(a.1 ||| x.mask,a.2++[(x.idx:Int)])else a
def fillP(l:List Dc)(a:Nat × List Int):Nat × List Int:=l.foldl Ztn a
def Zzd{l:List Dc}{k:Nat}{x:Dc}(h:l[k]? =some x)(a:Nat × List Int):fillP (l.take (k+1)) a=Ztn (fillP (l.take k) a) x:=by
 unfold fillP;rw[jP,h];simp
end Pl
structure Kp2 (w w':World):Prop where
 block:∀(b:Nat) (cs:Array Value) (t:TypeId) (fz:Nat × Nat),t≠71->t≠22->w.heap[b]? =some (.cells cs t fz)->w'.heap[b]? =some (.cells cs t fz)
 size:w.heap.size<=w'.heap.size
def Kp2.refl(w:World):Kp2 w w:=⟨λ_ _ _ _ _ _ h=>h,JY _⟩
def Kp2.later{w a b:World}(h:Kp2 w a)(hb:Below a.heap.size a b):Kp2 w b:=⟨λi cs t fz h1 h2 h3=>by
 have h4:=h.block i cs t fz h1 h2 h3
 exact(hb.block i (ZU h4)).trans h4,JW h.size hb.size⟩
def Kp2.old{w a b:World}(h:Kp2 w a)(hb:Below w.heap.size a b):Kp2 w b:=⟨λi cs t fz h1 h2 h3=>by
 have h4:=h.block i cs t fz h1 h2 h3
 exact(hb.block i (ZU h3)).trans h4,JW h.size hb.size⟩
def Kp2.but{w a b:World}{e:TypeId}(h:Kp2 w a)(hk:Zf e a b)(hs:a.heap.size<=b.heap.size)(he:e=71\/e=22):Kp2 w b:=⟨λi cs t fz h1 h2 h3=>hk i cs t fz (by rcases he with rfl|rfl;exact h1;exact h2) (h.block i cs t fz h1 h2 h3),JW h.size hs⟩
def Kp2.row{w w':World}(h:Kp2 w w'){t:TypeId}{s n:Nat}{v:Value}{xs:List Value}(hr:VC w t s v n xs)(h1:t≠71)(h2:t≠22):VC w' t s v n xs:=by
 obtain⟨A,c,g1,g2,g3,g4,g5⟩:=hr;refine⟨A,c,g1,g2,g3,g4,λhp=>?_⟩;obtain⟨b,a,cs,fz,hA,hc,hx⟩:=g5 hp;exact⟨b,a,cs,fz,hA,h.block b cs t fz h1 h2 hc,hx⟩
def Kp2.dcs{w w':World}(h:Kp2 w w'){v:Value}{l:List Dc}(hr:DcsM w v l):DcsM w' v l:=by
 obtain⟨cs,h1,h2⟩:=hr;refine⟨cs,h.row h1 Ql Ql,λk x hx=>?_⟩;obtain⟨u,⟨A,n,c,g1,g2,g3⟩,g4,g5⟩:=h2 k x hx;exact⟨u,⟨A,n,c,g1,h.row g2 Ql Ql,g3⟩,g4,g5⟩
def Zga(w0:World)(gu gs:Nat)(a:Nat × List Int)(w:World):Prop:=∃A n c,Bk w gu 71 [.int .u32 (a.1:Int)]/\Bk w gs 22 [.slice A n c]/\Zt w0.heap.size w (.slice A n c) a.2/\Kp2 w0 w
def Zga.later{w0 w w':World}{gu gs:Nat}{a:Nat × List Int}(h:Zga w0 gu gs a w)(hb:Below w.heap.size w w'):Zga w0 gu gs a w':=by
 obtain⟨A,n,c,h1,h2,h3,h4⟩:=h;exact⟨A,n,c,h1.later hb,h2.later hb,h3.below hb,h4.later hb⟩
def Zwk(v:Value)(l:List Dc)(w0 w:World)(gu gs B:Nat)(a:Nat × List Int)(h:DcsM w0 v l)(hl:l.length<=100)(hm:∀x∈l,x.mask<64/\x.idx<1000)(ha:a.1<64)(ha2:a.2.length<=100)(hf:Zga w0 gu gs a w)(hgu:B<=gu)(hgs:B<=gs)(hB:B<=w0.heap.size)(hug:gu≠gs):
 Calls prog 82 #[v,.pointer (some ⟨gu,0,none⟩),.pointer (some ⟨gs,0,none⟩)] w λe w'=>e= .returned (.tuple #[])/\Zga w0 gu gs (fillP l a) w'/\Below B w w':=by
 obtain⟨Al,cl,rfl,Y,a4⟩:=RdM.shape h;obtain⟨n,hn⟩:∃n,n=l.length:=⟨_,rfl⟩;rw[<-hn]at h Y hl⊢;have HN:=JZ hn;have HD:=JZ h;have HM:=JZ hm;have HF:=JZ hf;clear h hn hm hf;go_enter func82,ntmps82;go_wp2
 go_loopw [8] (λx wr=>∃(k:Nat) (M:Nat) (ys:List Int),k<=n/\x= .int .i64 k/\M<64/\ys.length<=100+k/\Hid (fillP (l.take k) a=(M,ys)/\Zga w0 gu gs (M,ys) wr)/\Below B w wr) (λx _=>n - (intOf x).toNat)
 case atStart=>exact⟨0,a.1,a.2,Qk,rfl,ha,Qk,JZ ⟨by simp[fillP],HF.out⟩,JR _ _⟩
 case round=>
  obtain⟨k,M,ys,hk,rfl,hM,a5,HP,hb⟩:=hrel;rcases JX k n with hkl|hkl
  ·obtain⟨x,hx⟩:∃x,l[k]? =some x:=⟨l[k]'(by rw[<-HN.out];exact hkl),JQ _⟩;have HX:=JZ hx;have a2:(k:Int)<n:=Qk;obtain⟨As,ns,cs,hU,hS,hO,hK⟩:=HP.out.2;obtain⟨b,a6,A1,n1,c1,hA,_,⟨x0,x1,x2,x3⟩,hI⟩:=(hK.dcs HD.out).elem (JR _ _) hx;subst hA;obtain⟨Z,a7⟩:=HM.out x (jC hx);have A:=u32_and (show x.mask<4294967296 by omega) (show M<4294967296 by omega);have O:=u32_or (show M<4294967296 by omega) (show x.mask<4294967296 by omega);have P:M ||| x.mask<64:=iW (n:=6) hM Z;clear hx;have a0:gu<wr.heap.size:=hU.lt;have a1:gs<wr.heap.size:=hS.lt;have o:=hU.cellAt 0 rfl;have f:=hS.cellAt 0 rfl;have fU:=hU.frozen 0;have fS:=hS.frozen 0
   go_upto_if 16 with(fail)
   have g:=Bk.new wr 80 [.int .i64 (x.idx:Int),.int .u32 (x.mask:Int),.slice A1 n1 c1,.int .i64 x.sur];have c:=Ze wr (.cells #[.int .i64 (x.idx:Int),.int .u32 (x.mask:Int),.slice A1 n1 c1,.int .i64 x.sur] 80);have e:(#[.int .i64 (x.idx:Int),.int .u32 (x.mask:Int),.slice A1 n1 c1,.int .i64 x.sur]:Array Value)=[.int .i64 (x.idx:Int),.int .u32 (x.mask:Int),.slice A1 n1 c1,.int .i64 x.sur].toArray:=rfl;rw[<-e]at g;clear e;generalize wr.alloc (.cells #[.int .i64 (x.idx:Int),.int .u32 (x.mask:Int),.slice A1 n1 c1,.int .i64 x.sur] 80)=W at *;have HA:=JZ (HP.out.2.later c);have q:Below B w W:=hb.trans (c.mono (by have:=hb.size;have:=hU.lt;omega));have a3:B<=W.heap.size:=(by have:=c.size;omega);have R:w0.heap.size<=W.heap.size:=JW hK.size c.size;have C:=JZ (Zzd HX.out a);have i:=hU.later c;have m:=hS.later c;have D:=hO.below c;have E:=hK.later c;clear o f fU fS x0 x1 x2 x3 hI hb hU hS hO hK c;have o:=i.cellAt 0 rfl;have f:=m.cellAt 0 rfl;have fU:=i.frozen 0;have fS:=m.frozen 0;have S:=g.cellAt 1 rfl;have r:=g.cellAt 0 rfl;by_cases hz:x.mask &&& M=0
   ·have T:(((x.mask &&& M:Nat):Int)==0)=true:=(by rw[hz];rfl);have HE:Hid (fillP (l.take (k+1)) a=(M ||| x.mask,ys++[(x.idx:Int)])):=JZ (by rw[C.out,HP.out.1];unfold Ztn;rw[jB hz]);have kk:=Zf.setCell i 0 (.int .u32 ((M ||| x.mask:Nat):Int));have s:=i.set_ 0 (.int .u32 ((M ||| x.mask:Nat):Int));have t:=kk.bk m Ql;have F:=D.but kk Ql;have G:=E.but kk (by simp) (.inl rfl);have H:=q.setCell (p:=⟨gu,0,none⟩) hgu (.int .u32 ((M ||| x.mask:Nat):Int));have I:=kk.bk g Ql;have U:w0.heap.size<=(W.setCell ⟨gu,0,none⟩ (.int .u32 ((M ||| x.mask:Nat):Int))).heap.size:=(by simpa using R);simp only[jL]at s;clear hz kk
    go_upto_region 5 with(fail)
    clear i m D E o f fU fS S r q g A O;generalize W.setCell ⟨gu,0,none⟩ (.int .u32 ((M ||| x.mask:Nat):Int))=W2 at *;have f:=t.cellAt 0 rfl;have r:=I.cellAt 0 rfl;have J:ys.length+1<=1099511627776:=Qk;have HO:=JZ F;clear F;go_wp2_with(at_builtin;refine Yb rfl (.tmp 21) (.tmp 24) rfl W2 w0.heap.size (.slice As ns cs) ys rfl HO.out (x.idx:Int) rfl Qk Qk J U ?_);intro v7 w7 d y z _ _;obtain⟨A7,n7,c7,rfl⟩:=d.sliceN;clear f r;have j:=y.bk t Ql;have f:=j.cellAt 0 rfl;have fS:=j.frozen 0;have kk:=Zf.setCell j 0 (.slice A7 n7 c7);have u:=j.set_ 0 (.slice A7 n7 c7);have K:=kk.bk0 (y.bk s Ql) hug;have L:=d.but kk Ql;have N:=(G.old z).but kk (by simp) (.inr rfl);have V:=(H.trans (z.mono hB)).setCell (p:=⟨gs,0,none⟩) hgs (.slice A7 n7 c7);simp only[jL]at u;have X:Hid (Zga w0 gu gs (M ||| x.mask,ys++[(x.idx:Int)]) (w7.setCell ⟨gs,0,none⟩ (.slice A7 n7 c7))):=JZ ⟨A7,n7,c7,K,u,L,N⟩;clear d y z j kk u K L N s t G H I;go_wp2;go_roundw
    case rel=>exact⟨k+1,_,_,Qk,by go_num,P,by simp;omega,JZ ⟨HE.out,X.out⟩,V⟩
    case measure=>exact Qn
   ·have T:(((x.mask &&& M:Nat):Int)==0)=false:=(by simpa using hz);have HE:Hid (fillP (l.take (k+1)) a=(M,ys)):=JZ (by rw[C.out,HP.out.1];unfold Ztn;rw[jA hz]);clear hz;go_wp2;go_roundw
    case rel=>exact⟨k+1,M,ys,Qk,by go_num,hM,Qk,JZ ⟨HE.out,HA.out⟩,q⟩
    case measure=>exact Qn
  ·obtain rfl:n=k:=Qk
   have HE:Hid (fillP l a=(M,ys)):=JZ (by have:=HP.out.1;rw[YK HN.out]at this;exact this);go_wp2
   go_end0
   exact⟨rfl,by rw[HE.out];exact HP.out.2,hb⟩
namespace Pl
def hiB(fs:List RF)(x:Dc):Bool:=decide (0<qs (qAt fs x.idx))
def loB(x:Dc):Bool:=decide (x.sur<0)
def ltH(fs:List RF)(x y:Dc):Bool:=decide (qAt fs y.idx<qAt fs x.idx)
def ltL(x y:Dc):Bool:=decide (x.sur<y.sur)
def Zjg(m:Ms)(fs:List RF):List Int:=(fillP (YC ltL ((dcs m).filter loB)) (fillP (YC (ltH fs) ((dcs m).filter (hiB fs))) (0,[]))).2
def Zto(m:Ms)(fs:List RF):List Int:=Yj (Zjg m fs)
def Ysf(fs:List RF)(x:Dc):ltH fs x x=false:=by simp[ltH,Rat.lt_irrefl]
def Ysg(fs:List RF)(x y z:Dc)(h:ltH fs x y=true)(g:ltH fs y z=true):ltH fs x z=true:=by
 simp only[ltH,jh]at *;grind
def Ypf(fs:List RF)(x y z:Dc)(h:ltH fs x y=false)(g:ltH fs y z=false):ltH fs x z=false:=by
 simp only[ltH,vM]at *;grind
def Ysh(x:Dc):ltL x x=false:=by simp[ltL]
def Ysi(x y z:Dc)(h:ltL x y=true)(g:ltL y z=true):ltL x z=true:=by
 simp only[ltL,jh]at *;omega
def Ypg(x y z:Dc)(h:ltL x y=false)(g:ltL y z=false):ltL x z=false:=by
 simp only[ltL,vM]at *;omega
def Zqr(l:List Dc)(a:Nat × List Int):(fillP l a).2.length<=a.2.length+l.length:=by
 unfold fillP
 induction l generalizing a with
 |nil=>simp
 |cons x l ih=>
  rw[iU,ky];refine JW (ih _) ?_;unfold Ztn;split <;> simp <;> omega
def Ykc{l:List Dc}(hl:∀x∈l,x.mask<64){a:Nat × List Int}(ha:a.1<64):(fillP l a).1<64:=by
 unfold fillP
 induction l generalizing a with
 |nil=>exact ha
 |cons x l ih=>
  rw[iU];refine ih (λy hy=>hl y (jG _ hy)) ?_;unfold Ztn;split
  ·exact iW (n:=6) ha (hl x (jK ..))
  ·exact ha
def UD{α:Type}{p:α->Bool}{l:List α}{k:Nat}{x:α}(h:l[k]? =some x):(l.take (k+1)).filter p=(l.take k).filter p++(if p x=true then [x]else []):=by
 rw[jP,h,dN];simp[List.filter_cons]
def Ykd{x y:Int}:cmpI x y<0↔x<y:=by
 unfold cmpI;split
 ·simp;assumption
 ·split <;> simp <;> omega
def Zze{a b:Rat}:qs (a - b)<0↔a<b:=by rw[UE];grind
def Zwl{m:Ms}(ok:VM m){x:Dc}(hx:x∈dcs m):x.mask<64/\x.idx<1000/\x.idx<m.cols.length:=by
 obtain⟨i,hi⟩:=kS.1 hx;obtain⟨c,hc,rfl⟩:=Zid hi;have a:=(JO.1 hc).1;have:=ok.ncol;exact⟨Zie ok (jC hc),show i<1000 by omega,a⟩
end Pl
def Znq{g : Nat}{fn : Func}{c : Code}(hf : prog.funcs[g]? = some fn)(hn : (fn.name == "runtime.NumGoroutine") = false)(hb : fn.body = some c) : ∀ args w,(callFunc g args).run prog w = .ok (.enter g args) w := λargs w => by
 have h1 : fn.name ≠ "runtime.NumGoroutine" := by simpa using hn
 simp[callFunc,hf,h1,hb]
def DcsO.others{base:Nat}{w w':World}{g:Option Nat}{v:Value}{l:List Dc}(h:DcsO base w v l)(ho:ZA g w w')(hk:Zf 80 w w')(hne:∀b,v.ownBlock=some b->some b≠g):DcsO base w' v l:=by
 obtain⟨cs,h1,h2⟩:=h;refine⟨cs,⟨h1.1,?_⟩,λk x hx=>by obtain⟨u,g1,g2⟩:=h2 k x hx;exact⟨u,g1.but hk Ql,g2⟩⟩;rcases h1.2 with hn|⟨b,cap,cur,rfl,hb',hgg,rest⟩
 ·exact .inl hn
 ·exact .inr ⟨b,cap,cur,rfl,hb',(ho.2 b (ZU hgg) (hne b rfl)).trans hgg,rest⟩
def DcsO.ownB{base:Nat}{w:World}{v:Value}{l:List Dc}(h:DcsO base w v l):∀g,v.ownBlock=some g->base<=g/\g<w.heap.size:=by
 obtain⟨cs,h1,_⟩:=h;exact h1.lt
def Yke(l:List Dc)(w:World):Ype 86 #[] ltL l w:=λW _ _ x _ y _ A n c A' n' c'=>by
 refine(Zzc x y A n c A' n' c' W).mono ?_
 rintro _ w' ⟨rfl,hb⟩
 exact⟨_,rfl,by unfold ltL;simp[Ykd],hb⟩
def Yex(l:List Dc)(w:World)(g:Nat)(fs:List RF)(h:Ykb w g fs)(hv:∀f∈fs,VOK f)(hl:∀x∈l,x.idx<fs.length):Ype 84 #[.pointer (some ⟨g,0,none⟩)] (ltH fs) l w:=λW hk hs x hx y hy A n c A' n' c'=>by
 refine(Ztm x y A n c A' n' c' g fs W (h.but hk Ql Ql Ql) hv (hl x hx) (hl y hy)).mono ?_
 rintro _ w' ⟨rfl,hb⟩
 exact⟨_,rfl,by unfold ltH;simp only[Zze],hb⟩
def enter_low:∀args w,(callFunc 86 args).run prog w= .ok (.enter 86 args) w:=Znq func86 Qm rfl
def enter_high:∀args w,(callFunc 84 args).run prog w= .ok (.enter 84 args) w:=Znq func84 Qm rfl
def enter_fill:∀args w,(callFunc 82 args).run prog w= .ok (.enter 82 args) w:=Znq func82 Qm rfl
def Yph(w:World)(a b c d e f:Value):∃W,(w.alloc (.cells #[a,b,c,d,e] 26)).alloc (.cells #[f] 34)=W/\(w.alloc (.cells #[a,b,c,d,e] 26)).heap.size=w.heap.size+1/\Bk W w.heap.size 26 [a,b,c,d,e]/\Bk W (w.heap.size+1) 34 [f]/\Below w.heap.size w W:=by
 have h1:=Bk.new w 26 [a,b,c,d,e];have h2:=Bk.new (w.alloc (.cells [a,b,c,d,e].toArray 26)) 34 [f];have b1:=Ze w (.cells [a,b,c,d,e].toArray 26);have b2:=Ze (w.alloc (.cells [a,b,c,d,e].toArray 26)) (.cells [f].toArray 34);have hs:(w.alloc (.cells [a,b,c,d,e].toArray 26)).heap.size=w.heap.size+1:=by simp
 refine⟨_,rfl,hs,h1.later b2,?_,Za b1 b2 b1.size⟩;rw[hs]at h2;exact h2
def Ypi(w:World)(a b:Value):∃W,(w.alloc (.cells #[a] 22)).alloc (.cells #[b] 71)=W/\Bk W w.heap.size 22 [a]/\Bk W (w.heap.size+1) 71 [b]/\Below w.heap.size w W:=by
 have h1:=Bk.new w 22 [a];have h2:=Bk.new (w.alloc (.cells [a].toArray 22)) 71 [b];have b1:=Ze w (.cells [a].toArray 22);have b2:=Ze (w.alloc (.cells [a].toArray 22)) (.cells [b].toArray 71);have hs:(w.alloc (.cells [a].toArray 22)).heap.size=w.heap.size+1:=by simp
 refine⟨_,rfl,h1.later b2,?_,Za b1 b2 b1.size⟩;rw[hs]at h2;exact h2
def Yey(m:Ms)(fs:List RF)(w:World)(e:Ending)(w':World):Prop:=∃v',e= .returned (.tuple #[v',.int .i64 0])/\Zt w.heap.size w' v' (Zto m fs)/\Below w.heap.size w w'
def Zzf(v1 v2:Value)(m:Ms)(fs:List RF)(w:World)(h:MsM w v1 m)(ok:VM m)(h2:UY w v2 fs)(hf:fs.length=m.cols.length)(hv:∀f∈fs,VOK f):
 Calls prog 43 #[v1,v2] w (Yey m fs w):=by
 obtain⟨A,n,c,A',n',c',bs,bt,bu,rfl,hR,hC,hT⟩:=id h;obtain⟨s1,s2,s3⟩:=RdM.len hC;obtain⟨B,d,rfl,bv,ci⟩:=h2.shape;rw[hf,<-s1]at h2⊢;obtain⟨W,hW,cj,hX,hY,S⟩:=Yph w (.int .i64 m.fl) (.slice A n c) (.int .i64 m.pen) (.slice A' n' c') (.slice bs bt bu) (.slice B n' d);have HM:=JZ (h.below S);have y:=JZ ok;have HF:=JZ (h2.below S);have HV:=JZ hv;have ai:=JZ hf;have J:=JZ s1;have aj:n'<=6:=by have:=ok.ncol;omega
 clear h hR hC hT ok h2 hf hv s1 bv;generalize m.fl=F at *;generalize m.pen=P at *;obtain⟨x0,x1,x2,x3,x4⟩:=hX.five;have y0:=hY.cellAt 0 rfl;go_enter func43,ntmps43;go_wp2_with fail;clear hW x0 x1 x2 x3 x4 y0;refine(Xw _ m _ HM.out y.out).mono ?_;rintro _ w1 ⟨rfl,G⟩;have a8:=hX.later G;have a9:=hY.later G;have K:=Za S G S.size;have aa:=JZ (And.intro (HM.out.below G) (HF.out.below G));obtain⟨x0,x1,x2,x3,x4⟩:=a8.five;have y0:=a9.cellAt 0 rfl;clear hX hY S G HM HF;go_wp2_with fail;refine(Zca _ m _ aa.out.1 y.out).mono ?_;rintro _ w2 ⟨vc,rfl,a1,T⟩;obtain⟨Ac,cc,rfl⟩:=RdO.slice a1;rw[YD,<-J.out]at a1⊢;have ak:Hid (DcsM w2 (.slice Ac n' cc) (dcs m)):=JZ (RdO.rd a1);have ab:=a8.later T;have ac:=a9.later T;have M:=Za K T K.size;have al:=JZ (aa.out.2.below T);clear x0 x1 x2 x3 x4 y0 a8 a9 K T aa a1;go_wp2;obtain⟨W3,b6,bw,bz,E⟩:=Ypi w2 (.slice none 0 0) (.int .u32 0);rw[b6];clear b6;have cd:=ab.later E;have ba:=ac.later E;have a4:=Za M E M.size;have am:=JZ (ak.out.below E);have an:=JZ (al.out.below E);have ce:w.heap.size<w2.heap.size:=ab.lt;have c7:w.heap.size+1<w2.heap.size:=ac.lt;clear ab ac M ak al E;generalize c6:w2.heap.size=gs at *;clear c6
 go_loopw [11,12,31] (λs11 s12 x wr=>∃k:Nat,k<=n'/\x= .int .i64 k/\Below W3.heap.size W3 wr/\Hid (DcsO W3.heap.size wr s11 (((dcs m).take k).filter (hiB fs))/\DcsO W3.heap.size wr s12 (((dcs m).take k).filter loB)/\(∀b,s12.ownBlock=some b->some b≠s11.ownBlock))) (λ_ _ x _=>n' - (intOf x).toNat)
 case atStart=>exact⟨0,Qk,rfl,JR _ _,JZ ⟨by rw[List.take_zero];exact RdO.nil _ _ _ _,by rw[List.take_zero];exact RdO.nil _ _ _ _,by simp[Value.ownBlock]⟩⟩
 case round=>
  obtain⟨k,hk,rfl,hb,HR⟩:=hrel;have N:=ba.later hb;have y0:=N.cellAt 0 rfl;rcases JX k n' with hkl|hkl
  ·have cf:(k:Int)<n':=Qk;obtain⟨x,hx⟩:∃x,(dcs m)[k]? =some x:=⟨(dcs m)[k]'(by rw[YD,<-J.out];exact hkl),JQ _⟩;obtain⟨fr,ag⟩:∃f,fs[k]? =some f:=⟨fs[k]'(by rw[ai.out,<-J.out];exact hkl),JQ _⟩;obtain⟨bx,ox,A1,n1,c1,c0,_,⟨p0,p1,p2,p3⟩,hI⟩:=am.out.elem hb hx;subst c0;obtain⟨b',cb,A3,n3,c3,A4,n4,c4,c2,b7,⟨q0,q1,q2,q3⟩,ey⟩:=an.out.elem hb ag;have bb:w.heap.size+1<wr.heap.size:=N.lt;have ao:b'<wr.heap.size:=je b7 hb.size;subst c2;have HX:=JZ hx;have bc:=JZ ag;have HI:=JZ hI;have ap:=JZ ey;clear hx ag hI ey;go_wp2_with fail;have ad:=Bk.new wr 80 [.int .i64 (x.idx:Int),.int .u32 (x.mask:Int),.slice A1 n1 c1,.int .i64 x.sur];have Y:=Ze wr (.cells #[.int .i64 (x.idx:Int),.int .u32 (x.mask:Int),.slice A1 n1 c1,.int .i64 x.sur] 80);have e:(#[.int .i64 (x.idx:Int),.int .u32 (x.mask:Int),.slice A1 n1 c1,.int .i64 x.sur]:Array Value)=[.int .i64 (x.idx:Int),.int .u32 (x.mask:Int),.slice A1 n1 c1,.int .i64 x.sur].toArray:=rfl;rw[<-e]at ad;clear e;generalize wr.alloc (.cells #[.int .i64 (x.idx:Int),.int .u32 (x.mask:Int),.slice A1 n1 c1,.int .i64 x.sur] 80)=W at *;refine(Zy _ fr _ (ap.out.below Y)).mono ?_;rintro _ w5 ⟨rfl,D⟩;have r:=Za Y D Y.size;have o:=ad.later D;have i:=Za hb r hb.size;have g:Hid (DcsO W3.heap.size w5 u11 (((dcs m).take k).filter (hiB fs))/\DcsO W3.heap.size w5 u12 (((dcs m).take k).filter loB)/\(∀b,u12.ownBlock=some b->some b≠u11.ownBlock)):=JZ ⟨HR.out.1.below r,HR.out.2.1.below r,HR.out.2.2⟩;have z:=JZ (HI.out.below r);have bd:=JZ hb.size;have be:Hid (some wr.heap.size≠u11.ownBlock/\some wr.heap.size≠u12.ownBlock):=JZ ⟨λe=>by have:=(HR.out.1.ownB _ e.symm).2;omega,λe=>by have:=(HR.out.2.1.ownB _ e.symm).2;omega⟩;have aq:Hid (x.idx=k):=JZ ((UF y.out).idx k x HX.out);have HQ:Hid (hiB fs x=decide (0<qs fr.q)):=JZ (by unfold hiB qAt;rw[aq.out,bc.out]);clear hb Y D r ad p0 p1 p2 p3 q0 q1 q2 q3 bb b7 ao y0 N HR HI ap;have ae:(((dcs m).take k).filter (hiB fs)).length+1<=1099511627776:=by
    have h1:=jq (hiB fs) ((dcs m).take k);have h2:=vT k (dcs m);omega
   have af:(((dcs m).take k).filter loB).length+1<=1099511627776:=by
    have h1:=jq loB ((dcs m).take k);have h2:=vT k (dcs m);omega
   have ar:=JZ (UD (p:=hiB fs) HX.out);have au:=JZ (UD (p:=loB) HX.out);have Z:=i.size;have bf:wr.heap.size<w5.heap.size:=o.lt;have cg:W3.heap.size<=wr.heap.size:=bd.out;generalize((dcs m).take k).filter (hiB fs)=a3 at *;generalize((dcs m).take k).filter loB=X at *;generalize wr.heap.size=gx at *
   go_upto_if 41 with(fail)
   go_cut [11] (λs11 wx=>Below W3.heap.size W3 wx/\Bk wx gx 80 [.int .i64 (x.idx:Int),.int .u32 (x.mask:Int),.slice A1 n1 c1,.int .i64 x.sur]/\Hid (DcsO W3.heap.size wx s11 (((dcs m).take (k+1)).filter (hiB fs))/\DcsO W3.heap.size wx u12 X/\(∀b,u12.ownBlock=some b->some b≠s11.ownBlock)/\YF wx (.slice A1 n1 c1) (iL x.rows)))
   case first=>
    by_cases hq:0<qs fr.q
    ·have HE:Hid (((dcs m).take (k+1)).filter (hiB fs)=a3++[x]):=JZ (by rw[ar.out,HQ.out];simp[hq]);have HO:=JZ g.out.1;obtain⟨x0,x1,x2,x3⟩:=o.four;go_wp2_with(at_builtin;refine VT rfl (.tmp 42) (.tmp 44) rfl w5 W3.heap.size u11 a3 x A1 n1 c1 rfl HO.out z.out rfl ae Z ?_);intro v7 w7 j I s l t;have C:=i.trans s;have bg:Bk w7 gx 80 [.int .i64 (x.idx:Int),.int .u32 (x.mask:Int),.slice A1 n1 c1,.int .i64 x.sur]:=l.bk o be.out.1;have HN:Hid (DcsO W3.heap.size w7 v7 (a3++[x])/\DcsO W3.heap.size w7 u12 X/\(∀b,u12.ownBlock=some b->some b≠v7.ownBlock)/\YF w7 (.slice A1 n1 c1) (iL x.rows)):=JZ ⟨j,g.out.2.1.others l I g.out.2.2,λb hb e=>by
      rcases t with h|h
      ·exact g.out.2.2 b hb (by rw[e,h])
      ·have h1:=h b e.symm;have h2:=(g.out.2.1.ownB b hb).2;omega,z.out.but I Ql⟩
     clear j I s l t x0 x1 x2 x3 o i;go_wp2
     go_meet
     exact⟨C,bg,by rw[HE.out];exact HN⟩
    ·have HE:Hid (((dcs m).take (k+1)).filter (hiB fs)=a3):=JZ (by rw[ar.out,HQ.out];simp[hq]);go_wp2
     go_meet
     exact⟨i,o,by rw[HE.out];exact JZ ⟨g.out.1,g.out.2.1,g.out.2.2,z.out⟩⟩
   case rest=>
    clear i o g z Z bf;obtain⟨i,o,g⟩:=hcut;have Z:=i.size;obtain⟨x0,x1,x2,x3⟩:=o.four;by_cases hq:x.sur<0
    ·have HE:Hid (((dcs m).take (k+1)).filter loB=X++[x]):=JZ (by rw[au.out];unfold loB;simp[hq]);have HO:=JZ g.out.2.1;have z:=JZ g.out.2.2.2;go_wp2_with(at_builtin;refine VT rfl (.tmp 49) (.tmp 51) rfl wc W3.heap.size u12 X x A1 n1 c1 rfl HO.out z.out rfl af Z ?_);intro v7 w7 j I s l t;have C:=i.trans s;have HN:Hid (DcsO W3.heap.size w7 u11 (((dcs m).take (k+1)).filter (hiB fs))/\DcsO W3.heap.size w7 v7 (((dcs m).take (k+1)).filter loB)/\(∀b,v7.ownBlock=some b->some b≠u11.ownBlock)):=JZ ⟨g.out.1.others l I (λb hb e=>g.out.2.2.1 b e.symm hb.symm),by rw[HE.out];exact j,λb hb e=>by
      rcases t with h|h
      ·exact g.out.2.2.1 b (by rw[<-h,hb]) e
      ·have h1:=h b hb;have h2:=(g.out.1.ownB b e.symm).2;omega⟩
     clear j I s l t x0 x1 x2 x3 o i;go_wp2;go_roundw
     case rel=>exact⟨k+1,Qk,by go_num,C,HN⟩
     case measure=>exact Qn
    ·have HE:Hid (((dcs m).take (k+1)).filter loB=X):=JZ (by rw[au.out];unfold loB;simp[hq]);have ch:¬x.sur<0:=hq;go_wp2;go_roundw
     case rel=>exact⟨k+1,Qk,by go_num,i,JZ ⟨g.out.1,by rw[HE.out];exact g.out.2.1,g.out.2.2.1⟩⟩
     case measure=>exact Qn
  ·obtain rfl:n'=k:=Qk
   have a0:Hid (DcsO W3.heap.size wr u11 ((dcs m).filter (hiB fs))/\DcsO W3.heap.size wr u12 ((dcs m).filter loB)/\(∀b,u12.ownBlock=some b->some b≠u11.ownBlock)):=JZ (by
    have:=HR.out;rw[YK (show n'=(dcs m).length by rw[YD];exact J.out)]at this;exact this)
   have u:∀x∈(dcs m).filter (hiB fs),x∈dcs m:=λx hx=>(jk.1 hx).1
   have O:∀x∈(dcs m).filter loB,x∈dcs m:=λx hx=>(jk.1 hx).1
   have a5:(dcs m).length<=6:=(by rw[YD,<-J.out];exact aj);have ae:=JW (jq (hiB fs) (dcs m)) a5;have af:=JW (jq loB (dcs m)) a5;have bh:Hid (Ykb wr (w.heap.size+1) fs):=JZ ⟨_,_,_,N,an.out.below hb⟩;have bi:Hid (∀x∈(dcs m).filter (hiB fs),x.idx<fs.length):=JZ (λx hx=>by rw[ai.out];exact(Zwl y.out (u x hx)).2.2);have av:Hid (∀x∈YC (ltH fs) ((dcs m).filter (hiB fs)),x.mask<64/\x.idx<1000):=JZ (λx hx=>by have:=Zwl y.out (u x ((YS _).1 hx));exact⟨this.1,this.2.1⟩);have bj:Hid (∀x∈YC ltL ((dcs m).filter loB),x.mask<64/\x.idx<1000):=JZ (λx hx=>by have:=Zwl y.out (O x ((YS _).1 hx));exact⟨this.1,this.2.1⟩);have bl:Hid (Zjg m fs=(fillP (YC ltL ((dcs m).filter loB)) (fillP (YC (ltH fs) ((dcs m).filter (hiB fs))) (0,[]))).2):=JZ rfl;have c9:(YC (ltH fs) ((dcs m).filter (hiB fs))).length<=6:=(by rw[WI];exact ae);have ca:(YC ltL ((dcs m).filter loB)).length<=6:=(by rw[WI];exact af);clear HR u O y0;generalize(dcs m).filter (hiB fs)=H at *;generalize(dcs m).filter loB=L at *;have eg:=enter_fill;go_wp2_with fail;refine(Zqp W3.heap.size _ _ _ a0.out.1 Qk 84 #[.pointer (some ⟨w.heap.size+1,0,none⟩)] (ltH fs) enter_high (Yex H wr (w.heap.size+1) fs bh.out HV.out bi.out) (Ysf fs) (Ysg fs) (Ypf fs)).mono ?_;rintro _ w5 ⟨rfl,U⟩;have aw:=JZ U;have ax:=JZ (a0.out.2.1.others U.2.2.1 U.2.1 a0.out.2.2);have D:=hb.trans U.2.2.2;clear U hb N;go_wp2_with fail;refine(Zqp W3.heap.size _ _ _ ax.out Qk 86 #[] ltL enter_low (Yke L w5) Ysh Ysi Ypg).mono ?_;rintro _ w6 ⟨rfl,V⟩;have bm:Hid (DcsM w6 u11 (YC (ltH fs) H)):=JZ (RdO.rd (aw.out.1.others V.2.2.1 V.2.1 (λb hb e=>a0.out.2.2 b e.symm hb.symm)));have bn:Hid (DcsM w6 u12 (YC ltL L)):=JZ (RdO.rd V.1);have i:=D.trans V.2.2.2;have ay:=bz.later i;have az:=bw.later i;have b0:Hid (Zga w6 (gs+1) gs (0,[]) w6):=JZ ⟨none,0,0,ay,az,Zt.nil _ _,Kp2.refl _⟩;have R:=a4.trans (i.mono a4.size);have v:w.heap.size<=w6.heap.size:=R.size;clear V D i ay az aw ax;go_wp2_with fail;refine(Zwk u11 (YC (ltH fs) H) w6 w6 (gs+1) gs w.heap.size (0,[]) bm.out Qk av.out Ql (by simp) b0.out Qk Qk v Qk).mono ?_;rintro _ w7 ⟨rfl,b9,s⟩;have b1:=JZ b9;have b2:(fillP (YC (ltH fs) H) (0,[])).1<64:=Ykc (λx hx=>(av.out x hx).1) Ql;have b3:=Zqr (YC (ltH fs) H) (0,[]);have bo:Hid (Zjg m fs=(fillP (YC ltL L) (fillP (YC (ltH fs) H) (0,[]))).2):=bl;generalize fillP (YC (ltH fs) H) (0,[])=a7 at *;simp only[fO]at b3;clear b9 b0;go_wp2_with fail;refine(Zwk u12 (YC ltL L) w6 w7 (gs+1) gs w.heap.size a7 bn.out Qk bj.out b2 Qk b1.out Qk Qk v Qk).mono ?_;rintro _ w8 ⟨rfl,c5,C⟩;have b4:=Zqr (YC ltL L) a7;obtain⟨A8,n8,c8,_,b8,ah,_⟩:=c5;rw[<-bo.out]at ah b4;have bp:=JZ ah;have s0:=b8.cellAt 0 rfl;have a6:=(R.trans s).trans C;clear b1 s C R ah;go_wp2_with fail;refine(Zjb w6.heap.size _ (Zjg m fs) _ bp.out Qk).mono ?_;rintro _ w9 ⟨rfl,a2⟩;have bq:=a2.2.1.bk b8 Ql;have br:=JZ (a2.1.monoB v);have b5:=a6.trans (a2.2.2.2.mono v);clear s0 a2 a6;have s0:=bq.cellAt 0 rfl;go_wp2;go_ret2;exact⟨_,rfl,br.out,b5⟩
def IlR(w:World)(x:List Int)(u:List Value):Prop:=∃A n c,u=[.slice A n c]/\YF w (.slice A n c) x
def IlsM:World->Value->List (List Int)->Prop:=RdM IlR 22 1
def IlsM.blx{w w':World}{g:Nat}{t:TypeId}{v:Value}{l:List (List Int)}{cs:List Value}(h:IlsM w v l)(hx:BlX w.heap.size g w w')(hg:Bk w g t cs)(h1:t≠22)(h2:t≠3):IlsM w' v l:=by
 obtain⟨us,r1,r2⟩:=h;refine⟨us,r1.blx hx (hg.not_type h1),λk x hk=>?_⟩;obtain⟨u,⟨A,n,c,g1,g2⟩,g3⟩:=r2 k x hk;exact⟨u,⟨A,n,c,g1,g2.blx hx hg h2⟩,g3⟩
def IlsM.elem{w wr:World}{A:Option Addr}{n c:Nat}{l:List (List Int)}(h:IlsM w (.slice A n c) l)(hb:Below w.heap.size w wr){k:Nat}{x:List Int}(hx:l[k]? =some x):
 ∃b off A1 n1 c1,A=some ⟨b,off,none⟩/\b<w.heap.size/\wr.cell? ⟨b,off+k,none⟩=some (.slice A1 n1 c1)/\YF wr (.slice A1 n1 c1) x:=by
 obtain⟨b,off,u,hA,a,⟨A1,n1,c1,rfl,hD⟩,hl,hc⟩:=RdM.elem h hx;exact⟨b,off,A1,n1,c1,hA,a,by have:=Zi hb (hc 0 _ rfl);simpa using this,hD.below hb⟩
def DcsM.blx{w w':World}{g:Nat}{t:TypeId}{v:Value}{l:List Dc}{cs:List Value}(h:DcsM w v l)(hx:BlX w.heap.size g w w')(hg:Bk w g t cs)(h1:t≠80)(h2:t≠3):DcsM w' v l:=by
 obtain⟨us,r1,r2⟩:=h;refine⟨us,r1.blx hx (hg.not_type h1),λk x hk=>?_⟩;obtain⟨u,⟨A,n,c,g1,g2⟩,g3⟩:=r2 k x hk;exact⟨u,⟨A,n,c,g1,g2.blx hx hg h2⟩,g3⟩
def Bk.nine{w:World}{g:Nat}{t:TypeId}{a b c d e f i j k:Value}(h:Bk w g t [a,b,c,d,e,f,i,j,k]):
 w.cell? ⟨g,0,none⟩=some a/\w.cell? ⟨g,1,none⟩=some b/\w.cell? ⟨g,2,none⟩=some c/\w.cell? ⟨g,3,none⟩=some d/\w.cell? ⟨g,4,none⟩=some e/\w.cell? ⟨g,5,none⟩=some f/\w.cell? ⟨g,6,none⟩=some i/\w.cell? ⟨g,7,none⟩=some j/\w.cell? ⟨g,8,none⟩=some k:=
 ⟨h.cellAt 0 rfl,h.cellAt 1 rfl,h.cellAt 2 rfl,h.cellAt 3 rfl,h.cellAt 4 rfl,h.cellAt 5 rfl,h.cellAt 6 rfl,h.cellAt 7 rfl,h.cellAt 8 rfl⟩
def Zqs(x:Int)(n:Nat)(w:World)(h0:1<=n)(h1:n<=1000)(hx0: -1000000<=x)(hx1:x<=1000000):
 Calls prog 48 #[.int .i64 x,.int .i64 (n:Int)] w λe w'=>e= .returned (.int .i64 (x/ (n:Int)))/\w'=w:=by
 have f:((n:Int)==0)=false:=by simp;omega
 have g:¬n=0:=Qk
 have hq:Hid (x/ (n:Int)=x.tdiv n - (if x.tmod n<0 then 1 else 0)):=JZ (by
  have a:=Int.mul_tdiv_add_tmod x n;have b:=Int.tmod_lt_of_pos x (show(0:Int)<n by omega);have c: -(n:Int)<x.tmod n:=by
   rcases Int.le_total 0 x with h|h
   ·have:=Int.tmod_nonneg (n:Int) h;omega
   ·have:=Int.tmod_lt_of_pos (-x) (show(0:Int)<n by omega);rw[Int.neg_tmod]at this;omega
  generalize x.tdiv n=q at *;generalize x.tmod n=r at *;split
  ·rename_i hr
   have e:x=(r+n)+(n:Int)* (q - 1):=(by rw[Int.mul_sub];omega);rw[e,Int.add_mul_ediv_left _ _ Qk,Int.ediv_eq_zero_of_lt Qk Qk];omega
  ·have e:x=r+(n:Int)*q:=Qk;rw[e,Int.add_mul_ediv_left _ _ Qk,Int.ediv_eq_zero_of_lt Qk Qk];omega)
 have b1: -1000000<=x.tdiv n/\x.tdiv n<=1000000:=by
  have h1:=Int.natAbs_tdiv_le_natAbs x (n:Int);omega
 obtain⟨b2,b3⟩:=b1;generalize d:x/ (n:Int)=Q at *;clear d;go_enter func48,ntmps48;by_cases hr:x.tmod n<0
 ·have hQ:Hid (Q=x.tdiv n - 1):=JZ (by rw[hq.out,jB hr]);go_wp2;go_ret;exact⟨by rw[hQ.out];rfl,rfl⟩
 ·have hQ:Hid (Q=x.tdiv n):=JZ (by rw[hq.out,jA hr];omega);go_wp2;go_ret;exact⟨by rw[hQ.out];rfl,rfl⟩
def Ypj{t p:Nat}(ht:t<64)(hp:p<6):bits .and .u32 (t:Int) (2^p%4294967296)=((t &&& 2^p:Nat):Int):=by
 have h1:2^p<2^6:=vK Ql hp;have h2:((2:Int)^p%4294967296)=((2^p:Nat):Int):=by
  rw[Yo];generalize 2^p=q at *;omega
 rw[h2];exact u32_and Qk Qk
def Pl.and_pow_zero{t p:Nat}:t &&& 2^p=0↔t.testBit p=false:=by
 rw[YR];constructor
 ·intro h
  cases hc:t.testBit p with
  |false=>rfl
  |true=>exact absurd ⟨hc,by simp[iy]⟩ (h p)
 ·intro h r ⟨h1,h2⟩;rw[iy]at h2;have:p=r:=by simpa using h2
  subst this;rw[h]at h1;cases h1
def Pl.bndP_drop{t:Nat}{l:List Int}{r:Nat}{s c:Int}(h:l[r]? =some s):bndP t (l.drop r) r c=bndP t (l.drop (r+1)) (r+1) (if t.testBit r=true then c else c+s):=by
 obtain⟨hi,rfl⟩:=JO.1 h;rw[iK hi,bndP]
def Zqt(g:Nat)(v0 v1 v3 v4 v7 v8:Value)(A:Option Addr)(n0 c0:Nat)(lls:List (List Int))(row:List Int)(i t:Nat)(c:Int)(st:Sv)(w:World)(hB:Bk w g 78 [v0,v1,.slice A n0 c0,v3,v4,.int .i64 st.cost,.bool st.proper,v7,v8])(hL:IlsM w (.slice A n0 c0) lls)(hr:lls[i]? =some row)(ht:t<64)(hc0: -100000<=c)(hc1:c<=100000)(hrow:∀s∈row,-1000<=s/\s<=1000)(hrl:row.length<=6):
 Calls prog 49 #[.pointer (some ⟨g,0,none⟩),.int .i64 (i:Int),.int .u32 (t:Int),.int .i64 c] w λe w'=>e= .returned (.bool (Yfk (bndP t row 0 c) st))/\Below w.heap.size w w':=by
 obtain⟨x0,x1,x2,x3,x4,x5,x6,x7,x8⟩:=hB.nine;obtain⟨o,_,_⟩:=RdM.len hL;have l:=(JO.1 hr).1;have y:i<n0:=Qk
 have B:(i:Int)<n0:=Qk
 obtain⟨b,F,A1,n1,c1,hA,_,y0,hI⟩:=hL.elem (JR _ _) hr;subst hA;have HI:=JZ hI.ints;obtain⟨r1,r2,r3⟩:=HI.out.lenC;have m:=JZ r1;have j:=JZ hrow;have C:n1<=6:=Qk
 clear hL o hr l hI r1 hrow hrl;generalize a:st.cost=cost at *;generalize d:st.proper=f at *;have k:=JZ (And.intro a d);clear a d;go_enter func49,ntmps49;go_wp2
 go_loopw [3,19] (λs3 x wr=>∃(r:Nat) (z:Int),r<=n1/\x= .int .i64 r/\s3= .int .i64 z/\ -100000 - 1000* (r:Int)<=z/\z<=100000+1000* (r:Int)/\wr=w/\Hid (bndP t (row.drop r) r z=bndP t row 0 c)) (λ_ x _=>n1 - (intOf x).toNat)
 case atStart=>exact⟨0,c,Qk,rfl,rfl,Qk,Qk,rfl,JZ (by simp)⟩
 case round=>
  obtain⟨r,z,hr,rfl,rfl,G,H,rfl,HZ⟩:=hrel;rcases JX r n1 with hrl|hrl
  ·have D:(r:Int)<n1:=Qk;obtain⟨b4,o4,s,q,u,hs,_,_⟩:=HI.out.elem (JR _ _) hrl;subst q;obtain⟨s0,s1⟩:=j.out s (jC hs);have HD:=JZ (bndP_drop (t:=t) (c:=z) hs);have v:=Ypj (t:=t) (p:=r) ht Qk;have E:r<6:=Qk;clear hs
   cases hb:t.testBit r with
   |true=>
    have n:(((t &&& 2^r:Nat):Int)==0)=false:=by
     have:t &&& 2^r≠0:=λe=>by rw[and_pow_zero]at e;rw[hb]at e;cases e
     simp;omega
    have HE:Hid (bndP t (row.drop (r+1)) (r+1) z=bndP t row 0 c):=JZ (by have:=HD.out;rw[hb,jB rfl]at this;rw[<-this];exact HZ.out);go_wp2;go_roundw
    case rel=>exact⟨r+1,z,Qk,by go_num,by trivial,Qk,Qk,by trivial,HE⟩
    case measure=>exact Qn
   |false=>
    have n:(((t &&& 2^r:Nat):Int)==0)=true:=by
     have:t &&& 2^r=0:=and_pow_zero.2 hb;simp;omega
    have HE:Hid (bndP t (row.drop (r+1)) (r+1) (z+s)=bndP t row 0 c):=JZ (by have:=HD.out;rw[hb,jA (by simp)]at this;rw[<-this];exact HZ.out);go_wp2;go_roundw
    case rel=>exact⟨r+1,z+s,Qk,by go_num,by trivial,Qk,Qk,by trivial,HE⟩
    case measure=>exact Qn
  ·obtain rfl:n1=r:=Qk
   have HE:Hid (bndP t row 0 c=z):=JZ (by rw[<-HZ.out,m.out,List.drop_length];rfl);have HG:Hid (Yfk (bndP t row 0 c) st=(decide (cost<z)||(decide (z=cost) && f))):=JZ (by rw[HE.out];unfold Yfk;rw[k.out.1,k.out.2]);rcases jm z cost with h|h|h
   ·have h1:¬cost<z:=Qk;have h2:¬z=cost:=Qk;have h3:(z==cost)=false:=(by simpa using h2);have HF:Hid (Yfk (bndP t row 0 c) st=false):=JZ (by rw[HG.out];simp[h1,h2]);go_wp2;go_ret;exact⟨YP (by rw[HF.out]),JR _ _⟩
   ·have h1:¬cost<z:=Qk;have h3:(z==cost)=true:=(by simpa using h);have HF:Hid (Yfk (bndP t row 0 c) st=f):=JZ (by rw[HG.out];simp[h]);clear h
    cases f
    ·go_wp2;go_ret;exact⟨YP (by rw[HF.out]),JR _ _⟩
    ·go_wp2;go_ret;exact⟨YP (by rw[HF.out]),JR _ _⟩
   ·have HF:Hid (Yfk (bndP t row 0 c) st=true):=JZ (by rw[HG.out];simp[h]);go_wp2;go_ret;exact⟨YP (by rw[HF.out]),JR _ _⟩
section
namespace Pl
def V5(n:Nat)(l:List Dc):List (List Int):=(List.range (l.length+1)).map λk=>Yh n (l.drop k)
def Zli{n:Nat}{l:List Dc}{k:Nat}(h:k<=l.length):(V5 n l)[k]? =some (Yh n (l.drop k)):=by
 simp[V5,bJ,List.getElem?_range,show k<l.length+1 by omega]
def Zzg{z L:Int}(hz:L<=z):∀(rows:List Nat) (a:List Int),(∀s∈a,L<=s)->L<=0->∀s∈rows.foldl (λa r=>WJ a r z) a,L<=s:=by
 intro rows
 induction rows with
 |nil=>intro a h _ s hs;exact h s hs
 |cons r rows ih=>
  intro a h h0 s hs;rw[iU]at hs;refine ih _ (λq hq=>?_) h0 s hs;unfold WJ at hq;rcases iq hq with e|e
  ·exact h q e
  ·have:L<=a.getD r 0:=by
    rcases JX r a.length with g|g
    ·rw[ja,JQ g];exact h _ (aV g)
    ·rw[ja,JU g];exact h0
   omega
def Zzh{z:Int}:∀(rows:List Nat) (a:List Int),(∀s∈a,s<=0)->∀s∈rows.foldl (λa r=>WJ a r z) a,s<=0:=by
 intro rows
 induction rows with
 |nil=>intro a h s hs;exact h s hs
 |cons r rows ih=>
  intro a h s hs;rw[iU]at hs;refine ih _ (λq hq=>?_) s hs;unfold WJ at hq;rcases iq hq with e|e
  ·exact h q e
  ·have:a.getD r 0<=0:=by
    rcases JX r a.length with g|g
    ·rw[ja,JQ g];exact h _ (aV g)
    ·rw[ja,JU g];exact ib _
   omega
def Zwm{x:Dc}(h: -200<=x.sur): -1000<=Xz x:=by
 unfold Xz;rcases JV x.rows.length with e|e
 ·rw[e];simp
 ·refine(dJ Qk).2 ?_;have:(1:Int)<=x.rows.length:=Qk
  generalize(x.rows.length:Int)=n at *;omega
def Zwn{n:Nat}{l:List Dc}(h:∀x∈l,-200<=x.sur):∀s∈Yh n l,-1000<=s/\s<=1000:=by
 have c:(∀s∈Yh n l,-1000<=s)/\∀s∈Yh n l,s<=0:=by
  induction l with
  |nil=>
   unfold Yh;exact⟨λs hs=>by have:=(List.mem_replicate.1 hs).2;omega,λs hs=>by have:=(List.mem_replicate.1 hs).2;omega⟩
  |cons x l ih=>
   obtain⟨a,b⟩:=ih λy hy=>h y (jG _ hy)
   unfold Yh;exact⟨Zzg (Zwm (h x (jK ..))) _ _ a Ql,Zzh _ _ b⟩
 exact λs hs=>⟨c.1 s hs,by have:=c.2 s hs;omega⟩
def Zfk{n:Nat}(l:List Dc):(Yh n l).length=n:=by
 induction l with
 |nil=>simp[Yh]
 |cons x l ih=>
  unfold Yh;have:∀(rows:List Nat) (a:List Int),(rows.foldl (λa r=>WJ a r (Xz x)) a).length=a.length:=by
   intro rows
   induction rows with
   |nil=>intro a;rfl
   |cons r rows ih2=>intro a;rw[iU,ih2,U7]
  rw[this,ih]
structure Ytn (cf:Sc) (l:List Dc):Prop where
 bd:∀x∈l,x.mask<64/\x.idx<1000/\ -200<=x.sur/\x.sur<=200
 len:l.length<=6
 kl:cf.kept.length<=6
 n6:cf.n<=6
 st:cf.steps<=1048576
end Pl
def Zt.pop{base:Nat}{w:World}{A:Option Addr}{n c:Nat}{zs:List Int}{z:Int}(h:Zt base w (.slice A n c) (zs++[z])):∃g m,A=some ⟨g,0,none⟩/\n=m+1/\m+1<=c/\c<=9223372036854775807/\Zt base w (.slice (some ⟨g,0,none⟩) m c) zs:=by
 have hn:=h.len;rw[kQ]at hn;simp only[ky,fO]at hn;obtain⟨⟨h1,h2⟩,h3⟩:=h;rcases h2 with⟨e,hz⟩|⟨g,cap,cur,e,hb,hg,hnc,hcm,hcs,htake⟩
 ·simp at hz
 ·injection e with e1 e2 e3;subst e1 e2 e3;have a:c<=9223372036854775807:=JW hcm (by unfold maxLen;omega);refine⟨g,zs.length,rfl,Qk,Qk,a,⟨by simp,.inr ⟨g,_,cur,rfl,hb,hg,Qk,hcm,hcs,?_⟩⟩,λy hy=>h3 y (cO _ hy)⟩;have:=congrArg (List.take (zs.length*1)) htake;rw[List.take_take]at this;simp only[List.map_append,kM,gG,kQ,ky,fO]at this;rw[Nat.min_eq_left Qk]at this;rw[this];simp
structure Ylx (W0:World) (g:Nat) (cf:Sc) (l:List Dc) (Ak:Option Addr) (nk ck:Nat) (Ac:Option Addr) (nc cc:Nat) (Al:Option Addr) (nl cl:Nat):Prop where
 kept:YF W0 (.slice Ak nk ck) cf.kept
 cols:DcsM W0 (.slice Ac nc cc) l
 least:IlsM W0 (.slice Al nl cl) (V5 cf.n l)
 blk:∃cs,Bk W0 g 78 cs
 ok:Ytn cf l
def Zwo(W0:World)(g:Nat)(cf:Sc)(Ak:Option Addr)(nk ck:Nat)(Ac:Option Addr)(nc cc:Nat)(Al:Option Addr)(nl cl:Nat)(ad:List Int)(st:Sv)(w:World):Prop:=
 ∃Aa na ca Ab nb cb,Bk w g 78 [.slice Ak nk ck,.slice Ac nc cc,.slice Al nl cl,.slice Aa na ca,.slice Ab nb cb,.int .i64 st.cost,.bool st.proper,.int .i64 (cf.steps:Int),.int .i64 (st.used:Int)]/\Zt W0.heap.size w (.slice Aa na ca) ad/\Zt 0 w (.slice Ab nb cb) st.best/\(∀b,(Value.slice Ab nb cb).ownBlock=some b->some b≠(Value.slice Aa na ca).ownBlock)/\BlX W0.heap.size g W0 w
section
variable {W0 w w':World} {g:Nat} {cf:Sc} {l:List Dc} {Ak:Option Addr} {nk ck:Nat} {Ac:Option Addr} {nc cc:Nat} {Al:Option Addr} {nl cl:Nat} {ad:List Int} {st:Sv}
def Ylx.keptAt(h:Ylx W0 g cf l Ak nk ck Ac nc cc Al nl cl)(hx:BlX W0.heap.size g W0 w):YF w (.slice Ak nk ck) cf.kept:=by
 obtain⟨cs,hb⟩:=h.blk;exact h.kept.blx hx hb Ql
def Ylx.colsAt(h:Ylx W0 g cf l Ak nk ck Ac nc cc Al nl cl)(hx:BlX W0.heap.size g W0 w):DcsM w (.slice Ac nc cc) l:=by
 obtain⟨cs,hb⟩:=h.blk;exact h.cols.blx hx hb Ql Ql
def Ylx.leastAt(h:Ylx W0 g cf l Ak nk ck Ac nc cc Al nl cl)(hx:BlX W0.heap.size g W0 w):IlsM w (.slice Al nl cl) (V5 cf.n l):=by
 obtain⟨cs,hb⟩:=h.blk;exact h.least.blx hx hb Ql Ql
def Zwo.later(h:Zwo W0 g cf Ak nk ck Ac nc cc Al nl cl ad st w)(hb:Below w.heap.size w w'):Zwo W0 g cf Ak nk ck Ac nc cc Al nl cl ad st w':=by
 obtain⟨Aa,na,ca,Ab,nb,cb,h1,h2,h3,h4,h5⟩:=h;exact⟨Aa,na,ca,Ab,nb,cb,h1.later hb,h2.below hb,h3.below hb,h4,h5.then hb h5.size⟩
end
end
namespace Pl
def Yez{cf:Sc}:∀(l:List Dc) {t:Nat} {c:Int} {ad:List Int} {st:Sv},st.used<=cf.steps->(loopP cf l t c ad st).1.used<=cf.steps:=by
 intro l
 induction l with
 |nil=>
  intro t c ad st h;unfold loopP;simp only;split <;> exact h
 |cons x l ih=>
  intro t c ad st h;have hv:∀{t:Nat} {c:Int} {ad:List Int} {st:Sv},st.used<=cf.steps->(Zef cf l t c ad st).1.used<=cf.steps:=by
   intro t c ad st h;unfold Zef;split
   ·exact h
   ·rename_i hne
    exact ih (by simp only;omega)
  rw[Uf];split
  ·exact h
  ·split
   ·split
    ·exact ih (hv h)
    ·exact hv h
   ·exact ih h
def Ykf{cf:Sc}{l:List Dc}{t:Nat}{c:Int}{ad:List Int}{st:Sv}(h:st.used<=cf.steps):(Zef cf l t c ad st).1.used<=cf.steps:=by
 unfold Zef;split
 ·exact h
 ·rename_i hne
  exact Yez l (by simp only;omega)
end Pl
def Ypk(W0:World)(g:Nat)(cf:Sc)(Ak:Option Addr)(nk ck:Nat)(Ac:Option Addr)(nc cc:Nat)(Al:Option Addr)(nl cl:Nat)(ad:List Int)(r:Sv × Bool)(e:Ending)(w':World):Prop:=
 e= .returned (.bool r.2)/\Zwo W0 g cf Ak nk ck Ac nc cc Al nl cl ad r.1 w'
def Yfa(W0:World)(g:Nat)(cf:Sc)(l:List Dc)(Ak:Option Addr)(nk ck:Nat)(Ac:Option Addr)(nc cc:Nat)(Al:Option Addr)(nl cl:Nat)(hcs:Ylx W0 g cf l Ak nk ck Ac nc cc Al nl cl):
 ∀(d i:Nat),i<=l.length->l.length - i<d->∀(t:Nat) (c:Int) (ad:List Int) (st:Sv) (w:World),Zwo W0 g cf Ak nk ck Ac nc cc Al nl cl ad st w->t<64-> -10000 - 200* (i:Int)<=c->c<=10000+200* (i:Int)->ad.length<=i->st.used<=cf.steps->
 Calls prog 25 #[.pointer (some ⟨g,0,none⟩),.int .i64 (i:Int),.int .u32 (t:Int),.int .i64 c] w (Ypk W0 g cf Ak nk ck Ac nc cc Al nl cl ad (Zef cf (l.drop i) t c ad st)):=by
 have F:=JZ hcs;have an:nc=l.length:=(RdM.len hcs.cols).1;have K:=JZ an;have bt:nc<=6:=by have:=hcs.ok.len;omega
 have bq:cf.steps<=1048576:=hcs.ok.st;clear hcs an;intro d
 induction d with
 |zero=>intro i hi hd;omega
 |succ d ih=>
  intro i hi hd t c ad st w hs ht c7 c8 c9 bp;have b4:=JZ ih;have HI:=JZ hi;have b5:i<=nc:=by rw[K.out];exact hi
  obtain⟨Aa,na,ca,Ab,nb,cb,hB,hA,p,o,hX⟩:=hs;have HM:=JZ (And.intro hA (And.intro p (And.intro o hX)));clear ih hi hA p o hX;obtain⟨x0,x1,x2,x3,x4,x5,x6,x7,x8⟩:=hB.nine;by_cases hu:st.used=cf.steps
  ·have HV:Hid (Zef cf (l.drop i) t c ad st=(st,false)):=JZ (by unfold Zef;rw[jB hu]);have ao:((st.used:Int)==(cf.steps:Int))=true:=(by rw[hu];simp);have HS:Hid (Zwo W0 g cf Ak nk ck Ac nc cc Al nl cl ad st w):=JZ ⟨Aa,na,ca,Ab,nb,cb,hB,HM.out.1,HM.out.2.1,HM.out.2.2.1,HM.out.2.2.2⟩;clear hu;go_enter func25,ntmps25
   go_upto_region 1 with(fail)
   have C0:=Zm x7;have C1:=Zm x8;have k:=Zc w;clear x0 x1 x2 x3 x4 x5 x6 x7 x8;refine Zj 9 [0,1,2,3,4,5,6,7,8] Qm Qm ?_;refine Qb ?_
   refine Zl ?_;have Z:=JZ (HS.out.later k);clear C0 C1;go_wp2;go_ret;exact⟨YP (by rw[HV.out]),by rw[HV.out];exact Z.out⟩
  ·have ap:st.used+1<=cf.steps:=Qk;have HV:Hid (Zef cf (l.drop i) t c ad st=loopP cf (l.drop i) t c ad ⟨st.best,st.cost,st.proper,st.used+1⟩):=JZ (by unfold Zef;rw[jA hu]);have ao:((st.used:Int)==(cf.steps:Int))=false:=(by simp;omega);clear hu;go_enter func25,ntmps25
   go_upto_region 1 with(fail)
   have C0:=Zm x7;have C1:=Zm x8;have k:=Zc w;clear x0 x1 x2 x3 x4 x5 x6 x7 x8;refine Zj 9 [0,1,2,3,4,5,6,7,8] Qm Qm ?_;refine Qb ?_
   refine Zl ?_;clear C0 C1;have N:=hB.later k;have O:=JZ (And.intro (HM.out.1.below k) (And.intro (HM.out.2.1.below k) (And.intro HM.out.2.2.1 (HM.out.2.2.2.then k HM.out.2.2.2.size))));clear hB k HM;generalize w.drew=w1 at *;obtain⟨x0,x1,x2,x3,x4,x5,x6,x7,x8⟩:=N.nine;have f8:=N.frozen 8;have kk:=Zf.setCell N 8 (.int .i64 ((st.used:Int)+1));have af:=N.set_ 8 (.int .i64 ((st.used:Int)+1));simp only[jO,jL]at af;have Z:Hid (Zwo W0 g cf Ak nk ck Ac nc cc Al nl cl ad ⟨st.best,st.cost,st.proper,st.used+1⟩ (w1.setCell ⟨g,8,none⟩ (.int .i64 ((st.used:Int)+1)))):=JZ ⟨Aa,na,ca,Ab,nb,cb,by simpa using af,O.out.1.but kk Ql,O.out.2.1.but kk Ql,O.out.2.2.1,O.out.2.2.2.setCell 8 _⟩;clear kk af O
   go_upto_region 4 with(fail)
   clear x0 x1 x2 x3 x4 x5 x6 x7 x8 f8 N;generalize w1.setCell ⟨g,8,none⟩ (.int .i64 ((st.used:Int)+1))=w2 at *;generalize ae:(⟨st.best,st.cost,st.proper,st.used+1⟩:Sv)=u at *;have a7:u.used<=cf.steps:=(by rw[<-ae];exact ap);clear ae ap ao bp;go_wp2
   go_loopw [9] (λx wr=>∃(j:Nat) (sj:Sv),i<=j/\j<=nc/\x= .int .i64 j/\sj.used<=cf.steps/\Hid (loopP cf (l.drop i) t c ad u=loopP cf (l.drop j) t c ad sj/\Zwo W0 g cf Ak nk ck Ac nc cc Al nl cl ad sj wr)) (λx _=>nc - (intOf x).toNat)
   case atStart=>exact⟨i,u,Qk,b5,rfl,a7,JZ ⟨rfl,Z.out⟩⟩
   case round=>
    clear Z a7;obtain⟨j,sj,c0,bm,rfl,U,HJ⟩:=hrel;obtain⟨Ea,ma,ea,Eb,mb,eb,hB,hA,p,o,hX⟩:=HJ.out.2;have HM:=JZ (And.intro hA (And.intro p (And.intro o hX)));clear hA p o hX;obtain⟨x0,x1,x2,x3,x4,x5,x6,x7,x8⟩:=hB.nine;rcases JX j nc with hjl|hjl
    ·have bu:(j:Int)<nc:=Qk;obtain⟨x,hx⟩:∃x,l[j]? =some x:=⟨l[j]'(by rw[<-K.out];exact hjl),JQ _⟩;have HX:=JZ hx;have G:Hid (l.drop j=x::l.drop (j+1)):=JZ (drop_at hx);have b6:=JZ (F.out.ok.bd x (jC hx));clear hx;go_wp2_with fail;refine(Zqt g _ _ _ _ _ _ Al nl cl (V5 cf.n l) (Yh cf.n (l.drop j)) j t c sj _ hB (F.out.leastAt HM.out.2.2.2) (Zli (by rw[<-K.out];exact bm)) ht Qk Qk (Zwn λy hy=>(F.out.ok.bd y (cK hy)).2.2.1) (by rw[Zfk];exact F.out.ok.n6)).mono ?_;rintro _ w3 ⟨rfl,b1⟩;have H:Hid (Zwo W0 g cf Ak nk ck Ac nc cc Al nl cl ad sj w3):=JZ (HJ.out.2.later b1);have s:=JZ HJ.out.1;clear hB HM x0 x1 x2 x3 x4 x5 x6 x7 x8 b1 HJ
     cases hop:Yfk (bndP t (Yh cf.n (l.drop j)) 0 c) sj with
     |true=>
      have HR:Hid (loopP cf (l.drop i) t c ad u=(sj,true)):=JZ (by rw[s.out,G.out,Uf,<-G.out,jB hop]);clear hop;go_wp2;go_ret;exact⟨YP (by rw[HV.out,HR.out]),by rw[HV.out,HR.out];exact H.out⟩
     |false=>
      have ag:Hid (loopP cf (l.drop j) t c ad sj=if x.mask &&& t=0 then if(Zef cf (l.drop (j+1)) (t ||| x.mask) (c+x.sur) (ad++[(x.idx:Int)]) sj).2=true then loopP cf (l.drop (j+1)) t c ad (Zef cf (l.drop (j+1)) (t ||| x.mask) (c+x.sur) (ad++[(x.idx:Int)]) sj).1 else((Zef cf (l.drop (j+1)) (t ||| x.mask) (c+x.sur) (ad++[(x.idx:Int)]) sj).1,false)else loopP cf (l.drop (j+1)) t c ad sj):=JZ (by
       have h1:=hop;rw[G.out]at h1⊢;rw[Uf,jA (by rw[h1];simp)])
      clear hop;obtain⟨Ea,ma,ea,Eb,mb,eb,hB,hA,p,o,hX⟩:=H.out;obtain⟨x0,x1,x2,x3,x4,x5,x6,x7,x8⟩:=hB.nine;obtain⟨b,al,A1,n1,c1,bn,_,⟨p0,p1,p2,p3⟩,hI⟩:=(F.out.colsAt hX).elem (JR _ _) HX.out;subst bn;obtain⟨bo,c2,br,bs⟩:=b6.out;have aq:=u32_and (a:=x.mask) (b:=t) Qk Qk;have b7:=u32_or (a:=t) (b:=x.mask) Qk Qk;have b8:t ||| x.mask<64:=iW (n:=6) ht bo
      go_upto_if 54 with(fail)
      have a0:=Bk.new w3 80 [.int .i64 (x.idx:Int),.int .u32 (x.mask:Int),.slice A1 n1 c1,.int .i64 x.sur];have ar:=Ze w3 (.cells #[.int .i64 (x.idx:Int),.int .u32 (x.mask:Int),.slice A1 n1 c1,.int .i64 x.sur] 80);have e:(#[.int .i64 (x.idx:Int),.int .u32 (x.mask:Int),.slice A1 n1 c1,.int .i64 x.sur]:Array Value)=[.int .i64 (x.idx:Int),.int .u32 (x.mask:Int),.slice A1 n1 c1,.int .i64 x.sur].toArray:=rfl;rw[<-e]at a0;clear e;generalize w3.alloc (.cells #[.int .i64 (x.idx:Int),.int .u32 (x.mask:Int),.slice A1 n1 c1,.int .i64 x.sur] 80)=W at *;have ah:Hid (Zwo W0 g cf Ak nk ck (some ⟨b,al,none⟩) nc cc Al nl cl ad sj W):=JZ (H.out.later ar);clear x0 x1 x2 x3 x4 x5 x6 x7 x8 p0 p1 p2 p3 hI hB hA p o hX H ar;generalize w3.heap.size=gx at *;by_cases hz:x.mask &&& t=0
      ·have b9:(((x.mask &&& t:Nat):Int) !=0)=false:=(by rw[hz];rfl);have a1:=JZ (by have:=ag.out;rw[jB hz]at this;exact this);clear hz ag
       go_upto_region 11 with(fail)
       obtain⟨Ea,ma,ea,Eb,mb,eb,hB,hA,p,o,hX⟩:=ah.out;obtain⟨x0,x1,x2,x3,x4,x5,x6,x7,x8⟩:=hB.nine;have q0:=a0.cellAt 0 rfl;have C0:=Zm x3;have C1:=Zm q0;have k:=Zc W;have bv:W0.heap.size<=W.heap.size:=hX.size;clear x0 x1 x2 x3 x4 x5 x6 x7 x8 q0;refine Zj 8 [0,1,2,3,4,5,6,7,8,9,10,11] Qm Qm ?_;refine Qb ?_
       refine Qo λ_ kq=>?_;refine kq.out _ _ (.inr (Za k (Ze _ _) k.size)) ?_;clear kq;refine Qj ?_;obtain⟨c3,az,B,J,M,V,X,C⟩:=V4 22 W.drew W0.heap.size (.slice Ea ma ea) ad (x.idx:Int) (hA.below k) Qk Qk Qk (by have:=k.size;omega);obtain⟨a4,a5,a6,rfl⟩:=J.sliceN;refine Zd rfl rfl (λ_ kq=>?_);refine ZR _ _ rfl rfl rfl rfl B ?_;refine kq.out _ _ (.inl Ql) (Qj ?_);clear kq;have A:=M.bk (hB.later k) Ql;obtain⟨x0,x1,x2,x3,x4,x5,x6,x7,x8⟩:=A.nine;have f3:=A.frozen 3;refine Qh ?_;refine Qh ?_;refine Qh ?_;refine Zl ?_;have kk:=Zf.setCell A 3 (.slice a4 a5 a6);have P:=A.set_ 3 (.slice a4 a5 a6);simp only[jO,jL]at P;have R:=kk.bk (M.bk (a0.later k) Ql) Ql;have a8:Hid (Zwo W0 g cf Ak nk ck (some ⟨b,al,none⟩) nc cc Al nl cl (ad++[(x.idx:Int)]) sj (az.setCell ⟨g,3,none⟩ (.slice a4 a5 a6))):=JZ ⟨_,_,_,_,_,_,P,J.but kk Ql,((p.below k).others X o).but kk Ql,λq hq e=>by
        rcases C with h|h
        ·exact o q hq (by rw[e,h])
        ·have h1:=h q e.symm;have h2:=(p.ownB q hq).2;have h3:=k.size;omega,((hX.then k hX.size).trans (BlX.of_below V)).setCell 3 _⟩
       clear kk A P B J M V X C hB hA p o hX a0 k C0 C1 x0 x1 x2 x3 x4 x5 x6 x7 x8 f3 ah;generalize az.setCell ⟨g,3,none⟩ (.slice a4 a5 a6)=cd at *;have p1:=R.cellAt 1 rfl;have p3:=R.cellAt 3 rfl;go_wp2_with fail;clear p1 p3 R aq b7;refine(b4.out (j+1) (by have:=K.out;omega) (by have:=K.out;omega) (t ||| x.mask) (c+x.sur) (ad++[(x.idx:Int)]) sj _ a8.out b8 (by push_cast;omega) (by push_cast;omega) (by simp;omega) U).mono ?_;rintro _ am ⟨rfl,ac⟩;have ba:Hid ((Zef cf (l.drop (j+1)) (t ||| x.mask) (c+x.sur) (ad++[(x.idx:Int)]) sj).1.used<=cf.steps):=JZ (Ykf U);generalize b3:Zef cf (l.drop (j+1)) (t ||| x.mask) (c+x.sur) (ad++[(x.idx:Int)]) sj=r at *;have bw:=JZ b3;have a9:=JZ ac;clear b3 ac a8;obtain⟨sr,rb⟩:=r
       go_upto_region 13 with(fail)
       obtain⟨Ea,ma,ea,Eb,mb,eb,hB,hA,p,o,hX⟩:=a9.out;obtain⟨ga,m1,rfl,rfl,c4,c6,b0⟩:=hA.pop;obtain⟨x0,x1,x2,x3,x4,x5,x6,x7,x8⟩:=hB.nine;have C0:=Zm x3;have k:=Zc am;have f3:=hB.frozen 3;have bx:(0:Int)<=(m1:Int):=Qk;have bz:(m1:Int)<=ea:=Qk;clear x0 x1 x2 x3 x4 x5 x6 x7 x8;refine Zj 14 [0,1,2,3,4,5,6,7,8,9,10,11,12,13,14] Qm Qm ?_;refine Qb ?_
       refine Qh ?_;refine Zl ?_;have kk:=Zf.setCell hB 3 (.slice (some ⟨ga,0,none⟩) m1 ea);have S:=hB.set_ 3 (.slice (some ⟨ga,0,none⟩) m1 ea);simp only[jO,jL]at S;have aa:Hid (Zwo W0 g cf Ak nk ck (some ⟨b,al,none⟩) nc cc Al nl cl ad sr (am.setCell ⟨g,3,none⟩ (.slice (some ⟨ga,0,none⟩) m1 ea))):=JZ ⟨_,_,_,_,_,_,S,b0.but kk Ql,p.but kk Ql,λq hq e=>o q hq (by rw[e];rfl),hX.setCell 3 _⟩;have ab:=JZ (aa.out.later (Zc _));clear kk S hB hA p o hX b0 k C0 f3 a9 aa;generalize(am.setCell ⟨g,3,none⟩ (.slice (some ⟨ga,0,none⟩) m1 ea)).drew=ce at *
       cases rb with
       |true=>
        have HR:Hid (loopP cf (l.drop i) t c ad u=loopP cf (l.drop (j+1)) t c ad sr):=JZ (by rw[s.out,a1.out];simp);have au:sr.used<=cf.steps:=ba.out;go_wp2;go_roundw
        case rel=>exact⟨j+1,sr,Qk,Qk,by go_num,au,JZ ⟨HR.out,ab.out⟩⟩
        case measure=>exact Qn
       |false=>
        have HR:Hid (loopP cf (l.drop i) t c ad u=(sr,false)):=JZ (by rw[s.out,a1.out];simp);go_wp2;go_ret;exact⟨YP (by rw[HV.out,HR.out]),by rw[HV.out,HR.out];exact ab.out⟩
      ·have b9:(((x.mask &&& t:Nat):Int) !=0)=true:=(by simpa using hz);have a1:Hid (loopP cf (l.drop i) t c ad u=loopP cf (l.drop (j+1)) t c ad sj):=JZ (by rw[s.out,ag.out,jA hz]);clear hz;go_wp2;go_roundw
       case rel=>exact⟨j+1,sj,Qk,Qk,by go_num,U,JZ ⟨a1.out,ah.out⟩⟩
       case measure=>exact Qn
    ·obtain rfl:nc=j:=Qk
     have s:Hid (loopP cf (l.drop i) t c ad u=(if c<sj.cost\/(c=sj.cost/\sj.proper=false)then⟨Yj (cf.kept++ad),c,true,sj.used⟩else sj,true)):=JZ (by
      rw[HJ.out.1,K.out,List.drop_length];rfl)
     have H:=JZ HJ.out.2;by_cases E:c<sj.cost\/(c=sj.cost/\sj.proper=false)
     ·have HR:Hid (loopP cf (l.drop i) t c ad u=(⟨Yj (cf.kept++ad),c,true,sj.used⟩,true)):=JZ (by rw[s.out,jB E]);have bb:c<sj.cost\/(¬c<sj.cost/\(c==sj.cost)=true/\sj.proper=false):=by
       rcases E with h|⟨h,h2⟩
       ·exact .inl h
       ·exact .inr ⟨Qk,by simpa using h,h2⟩
      clear E s HJ;have bc:=JZ (F.out.keptAt HM.out.2.2.2).ints;have ai:=JZ F.out.ok.kl;rcases bb with h1|⟨h1,h2,h3⟩;all_goals(
       go_upto_region 17 with(fail)
       clear h1;try clear h2 h3
       have C0:=Zm x0;have C3:=Zm x3;have k:=Zc wr;clear x0 x1 x2 x3 x4 x5 x6 x7 x8;refine Zj 10 [0,1,2,3,4,6,7,8,9,5,10,11,12,13] Qm Qm ?_;refine Qb ?_
       refine Qo λ_ kq=>?_;(with_reducible refine(Zjc _ cf.kept _ (bc.out.below k) (by have:=ai.out;omega)).mono ?_);rintro _ w4 ⟨v4,rfl,e4,b2⟩;have L:=Za k b2 k.size;refine kq.out _ _ (.inr L) (Qj ?_);clear kq;have a2:=HM.out.1.below L;have be:=HM.out.2.2.2.size;have av:=k.size;obtain⟨v5,w5,B,J,M,V,X,C⟩:=XO 22 w4 W0.heap.size v4 _ cf.kept ad (e4.monoB Qk) a2.ints (by have:=ai.out;omega) (by have:=L.size;omega);obtain⟨A5,n5,c5,rfl⟩:=J.sliceN;refine Zd rfl rfl (λ_ kq=>?_);refine ZR _ _ rfl rfl rfl rfl B ?_;refine kq.out _ _ (.inl Ql) (Qj ?_);clear kq;have T:=M.bk (hB.later L) Ql;obtain⟨x0,x1,x2,x3,x4,x5,x6,x7,x8⟩:=T.nine;have f4:=T.frozen 4;refine Qh ?_;refine Qh ?_;refine Qh ?_;refine Zl ?_;have aj:∀q,(Value.slice Ea ma ea).ownBlock=some q->some q≠v4.ownBlock:=λq hq e=>by
        have h1:=(e4.ownB q e.symm).1;have h2:=(HM.out.1.ownB q hq).2;omega
       have aw:=a2.others X aj;have ax:∀q,(Value.slice A5 n5 c5).ownBlock=some q->some q≠(Value.slice Ea ma ea).ownBlock:=λq hq e=>by
        rcases C with h|h
        ·exact aj q e.symm (by rw[<-h,hq])
        ·have h1:=h q hq;have h2:=(a2.ownB q e.symm).2;omega
       have kk:=Zf.setCell T 4 (.slice A5 n5 c5);have a3:=T.set_ 4 (.slice A5 n5 c5);simp only[jO,jL]at a3;have bf:=JZ (aw.but kk Ql);have bg:=JZ (J.but kk Ql);have bh:=JZ (((HM.out.2.2.2.then L be).trans (BlX.of_below V)).setCell 4 (.slice A5 n5 c5));have ay:=JZ ax;clear kk T aw J M V B X C aj ax a2 e4 b2 L k C0 C3 x0 x1 x2 x3 x4 x5 x6 x7 x8 f4 hB av;generalize w5.setCell ⟨g,4,none⟩ (.slice A5 n5 c5)=w6 at *;obtain⟨x0,x1,x2,x3,x4,x5,x6,x7,x8⟩:=a3.nine;go_wp2_with fail;refine(Zjb W0.heap.size _ (cf.kept++ad) _ bg.out (by have:=ai.out;simp;omega)).mono ?_;rintro _ w7 ⟨rfl,Y⟩;have I:=Y.2.1.bk a3 Ql;have bi:=JZ (bf.out.others Y.2.2.1 λq hq e=>ay.out q e.symm hq.symm);have bj:=JZ Y.1;have bl:=JZ (bh.out.trans (BlX.of_below Y.2.2.2));clear x0 x1 x2 x3 x4 x5 x6 x7 x8 Y a3;obtain⟨x0,x1,x2,x3,x4,x5,x6,x7,x8⟩:=I.nine;have f5:=I.frozen 5;have f6:=I.frozen 6;have k1:=Zf.setCell I 5 (.int .i64 c);have k2:=Zf.setCell (I.set_ 5 (.int .i64 c)) 6 (.bool true);have kk:=k1.trans k2;have ak:=(I.set_ 5 (.int .i64 c)).set_ 6 (.bool true);simp only[jO,jL]at ak;have HF:Hid (Zwo W0 g cf Ak nk ck Ac nc cc Al nl cl ad ⟨Yj (cf.kept++ad),c,true,sj.used⟩ ((w7.setCell ⟨g,5,none⟩ (.int .i64 c)).setCell ⟨g,6,none⟩ (.bool true))):=JZ ⟨_,_,_,_,_,_,ak,bi.out.but kk Ql,(bj.out.but kk Ql).monoB (iI _),ay.out,(bl.out.setCell 5 _).setCell 6 _⟩;clear k1 k2 kk ak I;go_wp2;go_ret;exact⟨YP (by rw[HV.out,HR.out]),by rw[HV.out,HR.out];exact HF.out⟩)
     ·have HR:Hid (loopP cf (l.drop i) t c ad u=(sj,true)):=JZ (by rw[s.out,jA E]);have h1:¬c<sj.cost:=λh=>E (.inl h)
      rcases jm c sj.cost with h|h|h
      ·exact absurd h h1
      ·have h2:sj.proper=true:=by
        cases hp:sj.proper with
        |true=>rfl
        |false=>exact absurd (.inr ⟨h,hp⟩) E
       have h3:(c==sj.cost)=true:=(by simpa using h);clear E h s HJ HM hB;rw[h2]at x6;clear h2;go_wp2;go_ret;exact⟨YP (by rw[HV.out,HR.out]),by rw[HV.out,HR.out];exact H.out⟩
      ·have h3:(c==sj.cost)=false:=(by simp;omega);clear E s HJ HM hB;go_wp2;go_ret;exact⟨YP (by rw[HV.out,HR.out]),by rw[HV.out,HR.out];exact H.out⟩
end Go.Proofs.YtobadipflggkiaaGreat
