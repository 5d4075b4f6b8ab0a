/- Lemmas of the claim; no condition. -/
import Derived.Test.YtgdcbjligbnpgaaK5
set_option linter.all false
set_option maxRecDepth 100000
set_option maxHeartbeats 40000000
namespace Go.Proofs.Ytgdcbjligbnpgaa
open Go.RowKit
open Pl
attribute [local go_sem ↓] Go.wp_at_zero Go.wp_at_succ
theorem pow_cast (s:Nat):((2:Int)^s)=((2^s:Nat):Int):=by rw [Int.natCast_pow];rfl
theorem pow_pos_1 (s:Nat):(1:Int)≤2^s:=by rw [pow_cast];have:=Nat.pow_pos (n:=s) (show 0 < 2 by decide);omega
theorem pow_le_31 {s:Nat} (h:s≤31):(2:Int)^s≤2147483648:=by
 rw [pow_cast]
 have:=Nat.pow_le_pow_right (show 0 < 2 by decide) h
 omega
theorem ring_shr (P O x r c a p xr yr:Int) (h:P * O+c=a+xr * p) (e:P * r=x - xr+4294967296 * yr):P * (O+r * p)+c=a+x * p+yr * (p * 4294967296):=by grind
theorem shr_step {O xs:List Nat} {k:Nat} {P r c xr yr:Int} (hk:k < O.length) (hr:0≤r) (e:P * r=di xs k - xr+4294967296 * yr) (h:P * (vt O k:Int)+c=(vt xs k:Int)+xr * ((B32^k:Nat):Int)):
 P * (vt (O.set k r.toNat) (k+1):Int)+c=(vt xs (k+1):Int)+yr * ((B32^(k+1):Nat):Int):=by
 rw [vt_cast_set hk hr,vt_cast_succ,pow_cast_succ]
 exact ring_shr _ _ _ _ _ _ _ _ _ h e
theorem rbitLen_any (v:Value) (ds:List Nat) (w:World) (h:DigM w v ds) (hs:(digs (val ds)).length≤549755813888):
 Calls Try.prog 88 #[v] w fun e w'=>e= .returned (.int .i64 (bl (val ds):Int))∧w=w':=by
 generalize hX:val ds=X at *
 have HX:=Lib.hid hX
 clear hX
 go_enter Try.func88,Try.ntmps88
 go_wp2_with fail
 refine (rtrim_any _ ds _ h).mono ?_
 rw [HX.out]
 rintro e w1 ⟨u1,rfl,g1,rfl⟩
 clear h
 obtain ⟨A,l,c,rfl⟩:=g1.shape
 obtain ⟨hl,hl',hnc,hc⟩:=g1.len
 rcases Nat.eq_zero_or_pos l with h0 | h0
 ·have hv:X=0:=len_zero (by omega)
  subst h0
  have HV:=Lib.hid hv
  clear hv hl hl' hs
  go_wp2
  go_ret
  exact ⟨by rw [HV.out,bl_zero];rfl,rfl⟩
 ·obtain ⟨j,rfl⟩:∃j,l=j+1:=⟨l - 1,by omega⟩
  have hbl:bl X=32 * j+bl (dg (digs X) j):=bl_digs (by omega)
  obtain ⟨b,off,rfl,_,hcell⟩:=g1.at_ (by omega)
  have hcj:=hcell j (by omega)
  have x0:=di_nonneg (digs X) j
  have x1:=di_le (okD_digs X) j
  have HB:=Lib.hid hbl
  have hjb:(j:Int)≤549755813888:=by omega
  clear hcell hbl hl hl' hs
  go_wp2
  go_loop [3,4] (fun n x=>∃(m:Nat) (y:Nat),n= .int .i64 (m:Int)∧x= .int .u32 (y:Int)∧y < 4294967296∧m+bl y=32 * j+bl (dg (digs X) j)∧m≤32 * j+32) (fun _ x=>(intOf x).toNat)
  case atStart=>exact ⟨32 * j,dg (digs X) j,by go_num,rfl,by unfold di at x1;omega,rfl,by omega⟩
  case round=>
   obtain ⟨m,y,rfl,rfl,hy,hm,hmb⟩:=hrel
   have HM:=Lib.hid hm
   clear hm
   rcases Nat.eq_zero_or_pos y with hy0 | hy0
   ·subst hy0
    go_wp2
    go_ret
    exact ⟨ret_int (by have:=HB.out;have:=HM.out;rw [bl_zero] at this;omega),rfl⟩
   ·have hh:=bl_half (n:=y) (by omega)
    have hb2:=bl_le (n:=dg (digs X) j)
    have hlb:bl (dg (digs X) j)≤32:=by
     have h1:bl (dg (digs X) j)≤bl 4294967295:=bl_mono (by unfold di at x1;omega)
     have h2:bl 4294967295=32:=bl_unique (by decide) (.inr (by decide))
     omega
    have hm2:m+1≤32 * j+32:=by have:=HM.out;omega
    have HH:=Lib.hid hh
    clear hh hb2 hlb
    go_wp2
    go_round
    case rel=>exact ⟨m+1,y / 2,by go_num,by go_num,by omega,by have:=HM.out;have:=HH.out;omega,hm2⟩
    case measure=>simp [intOf];omega
theorem or_place {z y:Int} {s:Nat} (hs:s≤31) (z0:0≤z) (z1:z < 2^s) (y0:0≤y) (y1:y≤4294967295):bits .or .u32 z (y * 2^s % 4294967296)=z+y * 2^s % 4294967296∧z+y * 2^s % 4294967296≤4294967295:=by
 obtain ⟨a,rfl⟩:=Int.eq_ofNat_of_zero_le z0
 obtain ⟨b,rfl⟩:=Int.eq_ofNat_of_zero_le y0
 have hB:2^s * 2^(32 - s)=4294967296:=by rw [← Nat.pow_add,show s+(32 - s)=32 from by omega]
 have hpp:=Nat.pow_pos (n:=s) (show 0 < 2 by decide)
 have hps:2^s≤2^31:=Nat.pow_le_pow_right (by decide) hs
 rw [pow_cast] at *
 have e:((b:Int) * ((2^s:Nat):Int)) % 4294967296=(((b % 2^(32 - s)) * 2^s:Nat):Int):=by
  have:(b * 2^s) % 4294967296=(b % 2^(32 - s)) * 2^s:=by rw [← hB,Nat.mul_comm (2^s),Nat.mul_mod_mul_right]
  rw [← this];omega
 rw [e]
 have hlt:=Nat.mod_lt b (Nat.pow_pos (n:=32 - s) (show 0 < 2 by decide))
 generalize b % 2^(32 - s)=m at *
 have hm:(m+1) * 2^s≤4294967296:=by
  rw [← hB,Nat.mul_comm (2^s)];exact Nat.mul_le_mul_right _ hlt
 rw [Nat.add_mul,Nat.one_mul] at hm
 refine ⟨?_,by omega⟩
 rw [u32_or_nat _ _ (by omega) (by omega),Nat.or_comm,← Nat.shiftLeft_eq,← Nat.shiftLeft_add_eq_or_of_lt (by omega),Nat.shiftLeft_eq]
 omega
theorem rshift_own (v:Value) (ds:List Nat) (q s:Nat) (w:World) (h:DigM w v ds) (hs:s≤31) (hl0:ds.length+q≤549755813888):
 Calls Try.prog 89 #[v,.int .i64 ((32 * q+s:Nat):Int)] w fun e w'=>∃k l,e= .returned (.slice (some ⟨w.heap.size,0,none⟩) k l)∧DigM w' (.slice (some ⟨w.heap.size,0,none⟩) k l) (digs (val ds * 2^(32 * q+s)))∧Below w.heap.size w w':=by
 obtain ⟨A,l,c,rfl⟩:=h.shape
 obtain ⟨hl,hl',hnc,hc⟩:=h.len
 have hp1:=pow_le_31 hs
 have hp0:(1:Int)≤2^s:=pow_pos_1 s
 have hmk:=make_u32 (l+q+1) (by omega)
 push_cast at hmk
 have HX:Hid (ds.length≤l):=Lib.hid (by omega)
 have hq1:(q:Int)≤549755813888:=by omega
 have hl1:(l:Int)+q≤549755813888:=by omega
 have hok:=h.ok
 generalize hN:((32 * q+s:Nat):Int)=N
 have hN0:0≤N:=by omega
 have hN1:N≤17592186044447:=by omega
 have hdq:N / 32=(q:Int):=by omega
 have hds:N % 32=(s:Int):=by omega
 clear hl hl' hl0 hN
 go_enter Try.func89,Try.ntmps89
 go_wp2
 clear hmk
 go_loopw [6] (fun i wr=>∃(k:Nat) (O:List Nat),k≤l∧i= .int .i64 k∧l+q+1≤O.length∧O.length≤l+q+1∧DigB wr w.heap.size O∧okD O∧Below w.heap.size w wr∧
  (val O:Int)=vt ds k * 2^(32 * q+s)∧di O (k+q) < 2^s∧∀j,k+q < j→dg O j=0) (fun i _=>l - (intOf i).toNat)
 case atStart=>exact ⟨0,List.replicate (l+q+1) 0,by omega,rfl,by simp,by simp,DigB.zeros w _,okD_replicate _,(Below.refl _ _).alloc (Nat.le_refl _) _,by simp [vt_zero,val_replicate],by rw [di_eq,dg_replicate];simp;omega,fun j _=>dg_replicate _ _⟩
 case round=>
  obtain ⟨k,O,hk,rfl,hO,hO',hB,ok,hbe,heq,htop,hz⟩:=hrel
  have HE:=Lib.hid heq
  have HZ:=Lib.hid hz
  clear heq hz
  rcases Nat.lt_or_ge k l with hkl | hkl
  ·obtain ⟨b1,off1,rfl,hb1,hcell1⟩:=h.at_ (by omega)
   have hx:=dig_in hbe hb1 hcell1 hkl
   have x0:=di_nonneg ds k
   have x1:=di_le hok k
   have z0:=di_nonneg O (k+q)
   obtain ⟨ho1,ho2⟩:=or_place hs z0 htop x0 x1
   have ho:=hB.cell (k:=k+q) (by omega)
   have hf:=hB.frozen (k+q)
   have m0:0≤di ds k * 2^s % 4294967296:=Int.emod_nonneg _ (by decide)
   have hB':=hB.setI (k+q) (z:=di O (k+q)+di ds k * 2^s % 4294967296) (by omega)
   have ho':=hB'.cell (k:=k+q+1) (by simp;omega)
   have hf':=hB'.frozen (k+q+1)
   have hn1:(k:Int)+q < (l:Int)+q+1:=by omega
   have hn2:(k:Int)+q+1 < (l:Int)+q+1:=by omega
   have hn3:((k:Int)+q).toNat=k+q:=by omega
   have hn4:((k:Int)+q+1).toNat=k+q+1:=by omega
   have p0:0≤di ds k * 2^s:=Int.mul_nonneg x0 (by omega)
   have p1:di ds k * 2^s≤4294967295 * 2147483648:=Int.mul_le_mul x1 hp1 (by omega) (by omega)
   have hlt:di ds k * 2^s / 4294967296 < 2^s:=by
    have:di ds k * 2^s < 4294967296 * 2^s:=Int.mul_lt_mul_of_pos_right (by omega) (by omega)
    exact Int.ediv_lt_of_lt_mul (by decide) (by rw [Int.mul_comm (2^s)];exact this)
   have hst:∀T:Int,T=di ds k * 2^s→((val ((O.set (k+q) (di O (k+q)+T % 4294967296).toNat).set (k+q+1) (T / 4294967296).toNat):Nat):Int)=vt ds (k+1) * 2^(32 * q+s):=by
    rintro T rfl
    exact rshl_step (by omega) (HZ.out _ (by omega)) m0 (by omega) (by omega) HE.out
   obtain ⟨T,hT⟩:∃T,T=di ds k * 2^s:=⟨_,rfl⟩
   have HST:=Lib.hid (hst T hT)
   rw [← hT] at ho1 ho2 m0 hB' ho' hf' p0 p1 hlt
   have hTs:=hT.symm
   clear hT hst
   have hor:bits .or .u32 (di O (k+q)) (T % 4294967296)=di O (k+q)+T % 4294967296:=ho1
   go_wp2
   go_roundw
   case rel=>exact ⟨k+1,(O.set (k+q) (di O (k+q)+T % 4294967296).toNat).set (k+q+1) (T / 4294967296).toNat,by omega,by go_num,by simpa using hO,by simpa using hO',hB'.setI _ (by omega),okD_set (okD_set ok _ (by unfold B32;omega)) _ (by unfold B32;omega),(hbe.setCell (Nat.le_refl _) _).setCell (Nat.le_refl _) _,HST.out,by rw [show k+1+q=k+q+1 by omega,di_eq,dg_set_eq (by simp;omega)];omega,fun j hj=>by rw [dg_set_ne (by omega),dg_set_ne (by omega)];exact HZ.out j (by omega)⟩
   case measure=>simp [intOf];omega
  ·obtain rfl:k=l:=by omega
   go_wp2_with fail
   refine (rtrim_at _ _ _ O _ ?_).mono ?_
   ·have:=hB.dig ok (c:=k+q+1) hO' (by unfold maxLen;omega)
    rwa [show O.length=k+q+1 from by omega] at this
   rintro e w1 ⟨k',rfl,hv,rfl⟩
   go_wp2_with fail
   go_ret
   refine ⟨_,_,rfl,?_,hbe⟩
   have:=HE.out
   rw [vt_ge HX.out,pow_cast,← Int.natCast_mul] at this
   rwa [Int.natCast_inj.1 this] at hv
theorem cell_far {w:World} {b o g:Nat} {v:Value} (hne:b≠g) (h:w.cell? ⟨b,o,none⟩=some v) (k:Nat) (u:Value):(w.setCell ⟨g,k,none⟩ u).drew.cell? ⟨b,o,none⟩=some v:=
 (World.cell?_setCell_other w ⟨g,k,none⟩ ⟨b,o,none⟩ u (fun e=>hne (by injection e with e1;exact e1.symm))).trans h
theorem or_half {x y:Int} (x0:0≤x) (x1:x≤4294967295) (y0:0≤y) (y1:y≤4294967295):bits .or .u32 (x / 2) (y * 2147483648 % 4294967296)=x / 2+2147483648 * (y % 2):=by
 have e:y * 2147483648 % 4294967296=((2147483648 * (y.toNat % 2):Nat):Int):=by omega
 have e1:x / 2=((x.toNat / 2:Nat):Int):=by omega
 rw [e,e1,u32_or_nat _ _ (by omega) (by omega)]
 have h:2147483648 * (y.toNat % 2) ||| (x.toNat / 2)=2147483648 * (y.toNat % 2)+x.toNat / 2:=by
  have:=Nat.shiftLeft_add_eq_or_of_lt (i:=31) (b:=x.toNat / 2) (by omega) (y.toNat % 2)
  rw [Nat.shiftLeft_eq,show (2:Nat)^31=2147483648 from rfl,Nat.mul_comm] at this
  exact this.symm
 rw [Nat.or_comm,h]
 omega
theorem rhalf_own (v:Value) (ds:List Nat) (w:World) (h:DigM w v ds) (hl0:ds.length≤549755813888):
 Calls Try.prog 91 #[v] w fun e w'=>∃k l,e= .returned (.slice (some ⟨w.heap.size,0,none⟩) k l)∧DigM w' (.slice (some ⟨w.heap.size,0,none⟩) k l) (digs (val ds / 2))∧Below w.heap.size w w':=by
 obtain ⟨A,l,c,rfl⟩:=h.shape
 obtain ⟨hl,hl',hnc,hc⟩:=h.len
 have hmk:=make_u32 l (by omega)
 have HX:Hid (ds.length≤l):=Lib.hid (by omega)
 have hl1:(l:Int)≤549755813888:=by omega
 have hok:=h.ok
 clear hl hl' hl0
 go_enter Try.func91,Try.ntmps91
 go_wp2
 clear hmk
 go_loopw [4] (fun i wr=>∃(k:Nat) (O:List Nat),k≤l∧i= .int .i64 k∧l≤O.length∧O.length≤l∧DigB wr w.heap.size O∧okD O∧Below w.heap.size w wr∧
  2 * (vt O k:Int)+di ds 0 % 2=(vt ds k:Int)+(di ds k % 2) * ((B32^k:Nat):Int)) (fun i _=>l - (intOf i).toNat)
 case atStart=>exact ⟨0,List.replicate l 0,by omega,rfl,by simp,by simp,DigB.zeros w _,okD_replicate _,(Below.refl _ _).alloc (Nat.le_refl _) _,by simp [vt_zero]⟩
 case round=>
  obtain ⟨k,O,hk,rfl,hO,hO',hB,ok,hbe,heq⟩:=hrel
  have HE:=Lib.hid heq
  clear heq
  rcases Nat.lt_or_ge k l with hkl | hkl
  ·obtain ⟨b1,off1,rfl,hb1,hcell1⟩:=h.at_ (by omega)
   have hx:=dig_in hbe hb1 hcell1 hkl
   have x0:=di_nonneg ds k
   have x1:=di_le hok k
   have y0:=di_nonneg ds (k+1)
   have y1:=di_le hok (k+1)
   have ho:=hB.cell (k:=k) (by omega)
   have hf:=hB.frozen k
   clear hcell1
   have hor:=or_half x0 x1 y0 y1
   have g1:IntKind.i64.wrap ((k:Int)+1)=((k+1:Nat):Int):=by simp only [IntKind.wrap,IntKind.bits,IntKind.signed];simp;omega
   have g2:IntKind.u64.wrap (di ds (k+1) * 2147483648)=di ds (k+1) * 2147483648:=u64_in _ (by omega) (by omega)
   have g3:IntKind.u32.wrap (di ds (k+1) * 2147483648)=di ds (k+1) * 2147483648 % 4294967296:=by simp only [IntKind.wrap,IntKind.bits,IntKind.signed];simp
   have hd:=rdigit_any (.slice (some ⟨b1,off1,none⟩) l c) ds (k+1) wr.drew ((h.below hbe).keep (Keep.drew _)) (by omega)
   have HST:Hid (2 * (vt (O.set k (di ds k / 2+2147483648 * (di ds (k+1) % 2)).toNat) (k+1):Int)+di ds 0 % 2=(vt ds (k+1):Int)+(di ds (k+1) % 2) * ((B32^(k+1):Nat):Int)):=Lib.hid (shr_step (by omega) (by omega) (by omega) HE.out)
   go_wp2
   have hne:b1≠w.heap.size:=by omega
   go_region_held3 (fun w'=>w'.cell? ⟨b1,off1+k,none⟩=some (.int .u32 (di ds k)))
    (first | exact hx | exact cell_far hne hx _ _)
    ((go_at_call 98;refine hd.mono ?_;rintro e w1 ⟨rfl,rfl⟩))
   go_wp2
   go_roundw
   case rel=>exact ⟨k+1,O.set k (di ds k / 2+2147483648 * (di ds (k+1) % 2)).toNat,by omega,by go_num,by simpa using hO,by simpa using hO',hB.setI k (by omega),okD_set ok _ (by unfold B32;omega),(hbe.setCell (Nat.le_refl _) _).drew,HST.out⟩
   case measure=>simp [intOf];omega
  ·obtain rfl:k=l:=by omega
   go_wp2_with fail
   refine (rtrim_at _ _ _ O _ ?_).mono ?_
   ·have:=hB.dig ok (c:=k) hO' (by unfold maxLen;omega)
    rwa [show O.length=k from by omega] at this
   rintro e w1 ⟨k',rfl,hv,rfl⟩
   go_wp2_with fail
   go_ret
   refine ⟨_,_,rfl,?_,hbe⟩
   rwa [half_fin HX.out hO' HE.out] at hv
theorem run_append_dig (ty:TypeId) (w:World) (A:Option Addr) (n c:Nat) (ds:List Nat) (h:DigM w (.slice A n c) ds) (hs:ds.length≤549755813888):
 ∃v' w',(Builtin.append_ #[66,66] ty #[.slice none 0 0,.slice A n c]).run Try.prog w= .ok v' w'∧w'.ownsRow w.heap.size 50 1 v' ds.length (ds.map uc)∧Below w.heap.size w w':=by
 obtain ⟨i0,hi,hz0,hz1,hz2⟩:=info_parts info_u32
 obtain ⟨hl,hl',hnc,hc⟩:=h.len
 obtain rfl:n=ds.length:=by omega
 rcases A with _ | ad
 ·have hn:ds=[]:=by
   rcases Nat.eq_zero_or_pos ds.length with h0 | h0
   ·exact List.length_eq_zero_iff.1 h0
   ·obtain ⟨b,off,hA,_⟩:=h.at_ h0
    cases hA
  subst hn
  refine ⟨.slice none 0 0,w,?_,World.ownsRow_nil _ _ _ _,Below.refl _ _⟩
  simp [Builtin.append_,run_underlying Try.underlying66,sizeOf,typeInfo,hi,Builtin.lenOf,Builtin.firstCells]
 ·obtain ⟨v',w',hrun,h2,h3,_,_⟩:=run_append_own_at (P:=Try.prog) w w.heap.size 66 ty 50 i0 _ 1 4 Try.underlying66 hi hz0 hz1 hz2 rfl (by decide) (.slice none 0 0) 0 [] (World.ownsRow_nil _ _ _ _) ad ds.length c (ds.map uc) (by simp) h.news (uc_oneCell _) (by unfold maxLen;omega) (by omega) (Nat.le_refl _)
  exact ⟨v',w',hrun,by simpa using h2,(Below.refl _ _).grown h3 (Nat.le_refl _) (fun k hk=>by simp [Value.ownBlock] at hk)⟩
theorem wp_append_dig {o:Oper} {a:Act} {K:Act→World→Prop} {Q:Exit→Act→World→Prop} (x:Operand)
 (ho:o.op= .call { callee:= .builtin .append,args:=#[.const (.slice none 0 0),x],argTypes:=#[66,66] })
 (w:World) (A:Option Addr) (n c:Nat) (ds:List Nat) (hx:a.eval x= .slice A n c) (h:DigM w (.slice A n c) ds) (hs:ds.length≤549755813888)
 (hK:∀v' w',w'.ownsRow w.heap.size 50 1 v' ds.length (ds.map uc)→Below w.heap.size w w'→K (a.put o.dst v') w'):o.wp Try.prog a w K Q:=by
 obtain ⟨v',w',hrun,h2,h3⟩:=run_append_dig o.type w A n c ds h hs
 have hc:a.eval (.const (.slice none 0 0))= .slice none 0 0:=rfl
 unfold Oper.wp execOp
 simp only [ho,resolve,invoke,builtin,Sem.run_bind,Sem.run_pure,Result.andThen_ok,List.map_toArray,List.map_cons,List.map_nil,hc,hx,hrun]
 exact hK v' w' h2 h3
theorem wpList_append_dig {ops:Array Oper} {rest:List Oper} {o:Oper} {a:Act} {Q:Exit→Act→World→Prop} (hgd:o.guard=none) (x:Operand)
 (ho:o.op= .call { callee:= .builtin .append,args:=#[.const (.slice none 0 0),x],argTypes:=#[66,66] })
 (w:World) (A:Option Addr) (n c:Nat) (ds:List Nat) (hx:a.eval x= .slice A n c) (h:DigM w (.slice A n c) ds) (hs:ds.length≤549755813888)
 (hK:∀v' w',w'.ownsRow w.heap.size 50 1 v' ds.length (ds.map uc)→Below w.heap.size w w'→wpList Try.prog ops Q rest (a.put o.dst v') w'):wpList Try.prog ops Q (o::rest) a w:=
 wpList_plain hgd fun _ hk=>wp_append_dig x ho w A n c ds hx h hs fun v' w' h2 h3=>hk _ _ (hK v' w' h2 h3)
theorem or_bit32 {d s:Nat} (hs:s≤31) (hd:d < B32) (h:2^(s+1)∣d):bits .or .u32 (d:Int) (2^s)=((d+2^s:Nat):Int):=by
 have h2:2^s≤2^31:=Nat.pow_le_pow_right (by decide) hs
 rw [pow_cast,u32_or_nat _ _ (by unfold B32 at hd;omega) (by omega),or_bit h]
def Off (g:Nat) (v:Value):Prop:=∀a n c,v= .slice (some a) n c→a.block≠g
theorem Off.mk {g b o n c:Nat} (h:b≠g):Off g (.slice (some ⟨b,o,none⟩) n c):=fun a n' c' e=>by
 injection e with e1
 injection e1 with e1
 subst e1
 exact h
theorem Off.own {w:World} {base e size n g:Nat} {v:Value} {xs:List Value} (h:w.ownsRow base e size v n xs) (hg:w.heap.size≤g):Off g v:=fun a n' c' he=>by
 rcases h.2 with ⟨rfl,_⟩ | ⟨k,cap,cur,rfl,_,hh,_⟩
 ·injection he with e1;cases e1
 ·injection he with e1
  injection e1 with e1
  subst e1
  have:=lt_heap hh
  show k≠g
  omega
theorem DigM.far {w:World} {v:Value} {ds:List Nat} {g:Nat} (h:DigM w v ds) (ho:Off g v) (k:Nat) (u:Value):DigM (w.setCell ⟨g,k,none⟩ u) v ds:=by
 obtain ⟨A,c,hv,h1,h2,h3,h4⟩:=h
 refine ⟨A,c,hv,h1,h2,h3,fun hp=>?_⟩
 obtain ⟨b,off,cs,fz,hA,hb,hc⟩:=h4 hp
 have hne:b≠g:=by subst hA;exact ho _ _ _ hv
 exact ⟨b,off,cs,fz,hA,by rw [heap_setCell_other w _ _ _ hne];exact hb,hc⟩
def DivAt (X Y q g:Nat) (w:World) (r d:Value) (z:Int) (wr:World) (Q:List Nat) (R D:Nat):Prop:=
 DigM wr r (digs R)∧DigM wr d (digs D)∧D=Y * 2^(z+1).toNat / 2∧R < Y * 2^(z+1).toNat∧X=val Q * Y+R∧2^(z+1).toNat∣val Q∧DigB wr g Q∧okD Q∧q+1≤Q.length∧Q.length≤q+1∧Below w.heap.size w wr∧(digs R).length≤137438953472∧(digs D).length≤549755813888∧Off g r∧Off g d
def DivDigPost (X Y:Nat) (w:World) (e:Ending) (w':World):Prop:=
 ∃v1 v2,e= .returned (.tuple #[v1,v2])∧DigM w' v1 (digs (X / Y))∧DigM w' v2 (digs (X % Y))∧Below w.heap.size w w'
theorem rdivDigits_any (v1 v2:Value) (xs ys:List Nat) (w:World) (h1:DigM w v1 xs) (h2:DigM w v2 ys) (hy:val ys≠0) (hs1:(digs (val xs)).length≤137438953472) (hs2:ys.length≤137438953472):
 Calls Try.prog 70 #[v1,v2] w (DivDigPost (val xs) (val ys) w):=by
 have hsy:(digs (val ys)).length≤137438953472:=Nat.le_trans (digs_len_le h2.ok) hs2
 generalize hX:val xs=X at *
 generalize hY:val ys=Y at *
 have HX:=Lib.hid hX
 have HY:=Lib.hid hY
 have HYZ:=Lib.hid hy
 clear hX hY hy
 go_enter Try.func70,Try.ntmps70
 go_wp2_with fail
 refine (rtrim_any _ xs _ h1).mono ?_
 rw [HX.out]
 rintro e w1 ⟨u1,rfl,g1,rfl⟩
 obtain ⟨A,l,c,rfl⟩:=g1.shape
 go_wp2_with (at_builtin;refine wpList_append_dig rfl (.tmp 12) rfl _ A l c (digs X) rfl g1 (by omega) ?_)
 intro v' w1 hown hbe
 have d1:=own_dig hown (okD_digs X)
 have o1:=Off.own hown (Nat.le_refl _)
 clear hown
 go_wp2_with fail
 refine (rbitLen_any _ xs _ (h1.below hbe) (by rw [HX.out];omega)).mono ?_
 rw [HX.out]
 rintro e w2 ⟨rfl,rfl⟩
 go_wp2_with fail
 refine (rbitLen_any _ ys _ (h2.below hbe) (by rw [HY.out];omega)).mono ?_
 rw [HY.out]
 rintro e w2 ⟨rfl,rfl⟩
 have b1:=@bl_len X
 have b2:=@bl_len Y
 rcases Nat.lt_or_ge (bl X) (bl Y) with hlt | hge
 ·have hq:X / Y=0∧X % Y=X:=⟨Nat.div_eq_of_lt (bl_sub_lt hlt),Nat.mod_eq_of_lt (bl_sub_lt hlt)⟩
  have HQ:=Lib.hid hq
  have ht:(bl X:Int) - bl Y < 0:=by omega
  clear hq
  go_wp2
  go_ret2
  exact ⟨_,_,rfl,by rw [HQ.out.1,digs_zero];exact DigM.nil _ _ _ (by simp),by rw [HQ.out.2];exact d1,hbe⟩
 ·have hst:=bl_start hge HYZ.out
  obtain ⟨n,hn⟩:∃n:Nat,n=bl X - bl Y:=⟨_,rfl⟩
  have hn':(bl X:Int) - bl Y=(n:Int):=by omega
  rw [← hn] at hst
  have HST:=Lib.hid hst
  obtain ⟨q,s,hqs,hs⟩:∃q s,n=32 * q+s∧s≤31:=⟨n / 32,n % 32,by omega,by omega⟩
  have hnb:(n:Int)≤4398046511104:=by omega
  have hqb:q≤137438953472:=by omega
  have hq:(n:Int) / 32=(q:Int):=by omega
  have HN:=Lib.hid hqs
  have hmk:=make_u32 (q+1) (by omega)
  push_cast at hmk
  clear hst hn b1 b2 hqs
  go_wp2_with fail
  clear hmk
  obtain ⟨W,hW⟩:∃W,W=w1.alloc (.cells (zc (q+1)) 50):=⟨_,rfl⟩
  have hbn:Below w1.heap.size w1 W:=hW▸below_new _ _
  have hB:DigB W w1.heap.size (List.replicate (q+1) 0):=hW▸DigB.zeros w1 _
  rw [← hW]
  clear hW
  have hbe2:=below_then hbe hbn hbe.size
  have hc:=rshift_own v2 ys q s W (h2.below hbe2) hs (by omega)
  rw [← HN.out,HY.out] at hc
  refine hc.mono ?_
  clear hc
  rintro e w2 ⟨kd,ld,rfl,d2,hb2⟩
  have o2:Off w1.heap.size (.slice (some ⟨W.heap.size,0,none⟩) kd ld):=Off.mk (by have:=hB.lt;omega)
  have hB2:=hB.below hb2 hB.lt
  have hbe3:=below_then hbe2 hb2 hbe2.size
  have d3:=(d1.below hbn).below hb2
  have hg1:w.heap.size≤w1.heap.size:=hbe.size
  clear hB hbe hbe2 d1 hbn hb2 g1 h1 h2
  have hD0:(digs (Y * 2^n)).length≤549755813888:=by
   refine Nat.le_trans (mul_len Y (2^n)) ?_
   have:(digs (2^n)).length≤q+1:=digs_lt (by rw [B32_pow];exact Nat.pow_lt_pow_right (by decide) (by have:=HN.out;omega))
   omega
  have HD0:=Lib.hid hD0
  have hsx:Hid ((digs X).length≤137438953472):=Lib.hid hs1
  have hnn:¬(n:Int) < 0:=by omega
  clear hD0 hs1 hsy hge
  go_wp2
  go_loopw [6,9,10] (fun r d i wr=>∃(z:Int) (Q:List Nat) (R D:Nat),-1≤z∧z≤n∧i= .int .i64 z∧DivAt X Y q w1.heap.size w r d z wr Q R D) (fun _ _ i _=>(intOf i+1).toNat)
  case atStart=>exact ⟨n,List.replicate (q+1) 0,X,Y * 2^n,by omega,by omega,rfl,d3,d2,by rw [show ((n:Int)+1).toNat=n+1 by omega,half_pow],by rw [show ((n:Int)+1).toNat=n+1 by omega];exact HST.out,by rw [val_replicate];simp,by rw [val_replicate];exact ⟨0,rfl⟩,hB2,okD_replicate _,by simp,by simp,hbe3,hsx.out,HD0.out,o1,o2⟩
  case round=>
   obtain ⟨z,Q,R,D,hz0,hz1,rfl,dr,dd,hD,hR,hXQ,hdv,hB,okQ,hQ,hQ',hbe,hsR,hsD,oR,oD⟩:=hrel
   have HD:=Lib.hid hD
   have HR:=Lib.hid hR
   have HXQ:=Lib.hid hXQ
   have HDV:=Lib.hid hdv
   clear hD hR hXQ hdv d2 d3 hB2 hbe3
   rcases Int.lt_or_le z 0 with hz | hz
   ·obtain rfl:z= -1:=by omega
    have e0:((-1:Int)+1).toNat=0:=rfl
    have:=HR.out
    rw [e0,Nat.pow_zero,Nat.mul_one] at this
    have HE:=Lib.hid (bit_end HXQ.out this)
    clear this e0
    go_wp2_with fail
    refine (rtrim_any _ Q _ ?_).mono ?_
    ·have:=hB.dig okQ (c:=q+1) hQ' (by unfold maxLen;omega)
     rwa [show Q.length=q+1 from by omega] at this
    rintro e w3 ⟨v3,rfl,h3,rfl⟩
    go_wp2
    go_ret2
    exact ⟨_,_,rfl,by rw [← HE.out.1];exact h3,by rw [← HE.out.2];exact dr,hbe⟩
   ·obtain ⟨i,rfl⟩:=Int.eq_ofNat_of_zero_le hz
    have e1:((i:Int)+1).toNat=i+1:=by omega
    have hR:=HR.out
    have hD:=HD.out
    have hdv:=HDV.out
    rw [e1] at hR hD hdv
    rw [half_pow] at hD
    have HR1:=Lib.hid hR
    have HD1:=Lib.hid hD
    have HDV1:=Lib.hid hdv
    have hin:i≤n:=by omega
    clear hR hD hdv HR HD HDV e1
    obtain ⟨I,hI⟩:∃I,I=i / 32:=⟨_,rfl⟩
    obtain ⟨J,hJ⟩:∃J,J=i % 32:=⟨_,rfl⟩
    have hi1:(i:Int) / 32=(I:Int):=by omega
    have hi2:(i:Int) % 32=(J:Int):=by omega
    have hiq:I≤q:=by have:=HN.out;omega
    have hJ31:J≤31:=by omega
    have hdb:=dg_bits okQ HDV1.out
    have hval:=fun h=>val_bit (Q:=Q) (i:=i) h
    rw [← hI] at hval
    rw [← hJ] at hval
    rw [← hI,← hJ] at hdb
    have HVAL:=Lib.hid hval
    have HDB:=Lib.hid hdb
    clear hI hJ hval hdb
    go_wp2_with fail
    refine (rcompareDigits_any _ _ _ _ _ dr dd).mono ?_
    rw [val_digs,val_digs]
    rintro e w3 ⟨rfl,hb3⟩
    have dr3:=dr.below hb3
    have dd3:=dd.below hb3
    have hB3:=hB.below hb3 hB.lt
    have hbe3:=below_then hbe hb3 hbe.size
    clear dr dd hB hbe hb3
    rcases Nat.lt_or_ge R D with hlt | hge
    ·have hc:cmpN R D= -1:=cmpN_lt hlt
     have HLT:=Lib.hid hlt
     rw [hc]
     clear hc hlt
     go_wp2_with fail
     refine (rhalf_own _ _ _ dd3 hsD).mono ?_
     rw [val_digs]
     rintro e w4 ⟨k4,l4,rfl,d4,hb4⟩
     go_wp2
     go_roundw
     case rel=>exact ⟨(i:Int) - 1,Q,R,D / 2,by omega,by omega,rfl,dr3.below hb4,d4,by rw [show ((i:Int) - 1+1).toNat=i by omega,← HD1.out],by rw [show ((i:Int) - 1+1).toNat=i by omega,← HD1.out];exact HLT.out,HXQ.out,by rw [show ((i:Int) - 1+1).toNat=i by omega];exact bit_skip HDV1.out,hB3.below hb4 hB3.lt,okQ,hQ,hQ',below_then hbe3 hb4 hbe3.size,hsR,Nat.le_trans (digs_len_mono (Nat.div_le_self _ _)) hsD,oR,Off.mk (by have:=hB3.lt;omega)⟩
     case measure=>simp [intOf]
    ·have hc:0≤cmpN R D:=by unfold cmpN;split;omega;split <;> omega
     have hcb:=cmpN_bd R D
     have hst:=bit_step HXQ.out HR1.out (by rw [← HD1.out];exact hge) HDV1.out
     rw [← HD1.out] at hst
     have HST2:=Lib.hid hst
     have hge2:=Lib.hid hge
     have hor:=or_bit32 hJ31 (dg_lt okQ I) HDB.out
     have HFIT:=Lib.hid (bit_fits (show J < 32 by omega) (dg_lt okQ I) HDB.out)
     have hpw:=pow_le_31 hJ31
     have hpw0:=pow_pos_1 J
     generalize cmpN R D=cc at *
     clear hst hge
     go_wp2_with fail
     refine (rsubDigits_own _ _ _ _ _ dr3 dd3 (by rw [val_digs,val_digs];exact hge2.out) (digs_len_mono hge2.out) (by omega)).mono ?_
     rw [val_digs,val_digs]
     rintro e w4 ⟨k4,l4,rfl,d4,hb4⟩
     have o4:Off w1.heap.size (.slice (some ⟨w3.heap.size,0,none⟩) k4 l4):=Off.mk (by have:=hB3.lt;omega)
     have hB4:=hB3.below hb4 hB3.lt
     have dd4:=dd3.below hb4
     have hbe4:=below_then hbe3 hb4 hbe3.size
     clear dr3 dd3 hB3 hbe3 hb4
     have ho:=hB4.cell (k:=I) (by omega)
     have hf:=hB4.frozen I
     rw [di_eq] at ho
     have hB5:=hB4.set_ I (dg Q I+2^J)
     have d5:=d4.far o4 I (.int .u32 ((dg Q I+2^J:Nat):Int))
     have dd5:=dd4.far oD I (.int .u32 ((dg Q I+2^J:Nat):Int))
     have hbe5:=hbe4.setCell (p:=⟨w1.heap.size,I,none⟩) hg1 (.int .u32 ((dg Q I+2^J:Nat):Int))
     generalize ((dg Q I+2^J:Nat):Int)=G at *
     clear dd4 d4
     go_wp2_with fail
     refine (rhalf_own _ _ _ dd5 hsD).mono ?_
     rw [val_digs]
     rintro e w6 ⟨k6,l6,rfl,d6,hb6⟩
     rw [World.size_setCell] at d6
     go_wp2
     go_roundw
     case rel=>exact ⟨(i:Int) - 1,Q.set I (dg Q I+2^J),R - D,D / 2,by omega,by omega,rfl,d5.below hb6,d6,by rw [show ((i:Int) - 1+1).toNat=i by omega,← HD1.out],by rw [show ((i:Int) - 1+1).toNat=i by omega,← HD1.out];exact HST2.out.2.1,by rw [HVAL.out (by omega)];exact HST2.out.1,by rw [show ((i:Int) - 1+1).toNat=i by omega,HVAL.out (by omega)];exact HST2.out.2.2,hB5.below hb6 hB5.lt,okD_set okQ _ HFIT.out,by simpa using hQ,by simpa using hQ',below_then hbe5 hb6 hbe5.size,Nat.le_trans (digs_len_mono (Nat.sub_le _ _)) hsR,Nat.le_trans (digs_len_mono (Nat.div_le_self _ _)) hsD,o4,Off.mk (by have:=hB5.lt;rw [World.size_setCell] at this;omega)⟩
     case measure=>simp [intOf]
theorem step_append_dig {ops:Array Oper} {o:Oper} {a:Act} {K:Act→World→Prop} {Q:Exit→Act→World→Prop} {E:Prop} (hgd:o.guard=none) (x:Operand)
 (ho:o.op= .call { callee:= .builtin .append,args:=#[.const (.slice none 0 0),x],argTypes:=#[66,66] })
 (w:World) (A:Option Addr) (n c:Nat) (ds:List Nat) (hx:a.eval x= .slice A n c) (h:DigM w (.slice A n c) ds) (hs:ds.length≤549755813888)
 (hK:∀v' w',w'.ownsRow w.heap.size 50 1 v' ds.length (ds.map uc)→Below w.heap.size w w'→K (a.put o.dst v') w'):
 if Region.wanted o (yielded ops a.tmps)=true then Oper.wp Try.prog o a w K Q else E:=by
 have hw:Region.wanted o (yielded ops a.tmps)=true:=by simp [Region.wanted,hgd]
 rw [if_pos hw]
 exact wp_append_dig x ho w A n c ds hx h hs hK
theorem Bk.snd {w:World} {g:Nat} {t:TypeId} {a b:Value} (h:Bk w g t [a,b]):w.cell? ⟨g,1,none⟩=some b:=h.two.2.1
def RGcdAt (G:Nat) (w:World) (Y:Nat) (s t:Value) (wr:World):Prop:=
 ∃X,DigM wr s (digs X)∧DigM wr t (digs Y)∧Nat.gcd X Y=G∧(digs X).length≤137438953472∧(digs Y).length≤137438953472∧Below w.heap.size w wr∧Bk wr (w.heap.size+1+1) 68 [.bool false,.slice none 0 0]
theorem rgcd_any (v1 v2:Value) (a b:RI) (w:World) (h1:IntM w v1 a) (h2:IntM w v2 b) (hs:(digs (val a.ds)).length≤137438953472) (hs2:(digs (val b.ds)).length≤137438953472):
 Calls Try.prog 47 #[v1,v2] w fun e w'=>∃v',e= .returned v'∧IntM w' v' (canI (Nat.gcd (val a.ds) (val b.ds):Nat))∧Below w.heap.size w w':=by
 obtain ⟨A,n,c,rfl,hd⟩:=h1.shape
 obtain ⟨A',n',c',rfl,hd'⟩:=h2.shape
 obtain ⟨W,hW,hX,hY,hR,hbe⟩:=box2 w (.bool a.neg) (.slice A n c) (.bool b.neg) (.slice A' n' c')
 have d1:=hd.below hbe
 have d2:=hd'.below hbe
 obtain ⟨G,hG⟩:∃G,G=Nat.gcd (val a.ds) (val b.ds):=⟨_,rfl⟩
 rw [← hG]
 have HG:=Lib.hid hG
 clear hG
 have tok:True:=trivial
 go_enter Try.func47,Try.ntmps47
 go_wp2_with fail
 clear hW
 go_region_held3 (fun w'=>w'.cell? ⟨w.heap.size,1,none⟩=some (.slice A n c)∧w'.cell? ⟨w.heap.size+1,1,none⟩=some (.slice A' n' c'))
  (first | with_reducible exact ⟨hX.drew.snd,hY.drew.snd⟩ | with_reducible exact ⟨(hX.drew.later hb1).snd,(hY.drew.later hb1).snd⟩ | with_reducible exact ⟨((hX.drew.later hb1).later hb2).snd,((hY.drew.later hb1).later hb2).snd⟩)
  (first
   | (go_at_call 69;have _t:=tok;refine (rtrim_any _ a.ds _ (d1.keep (Keep.drew _))).mono ?_;clear tok _t;rintro e w3 ⟨v3,rfl,e3,rfl⟩;obtain ⟨A3,n3,k3,rfl⟩:=e3.shape)
   | (go_at_call 69;refine (rtrim_any _ b.ds _ ((d2.keep (Keep.drew _)).below hb1)).mono ?_;rintro e w3 ⟨v4,rfl,e4,rfl⟩;obtain ⟨A4,n4,k4,rfl⟩:=e4.shape)
   | (refine step_append_dig rfl (.tmp 15) rfl _ A4 n4 k4 (digs (val b.ds)) rfl e4 (by omega) ?_;intro v2 w2 o2 hb2)
   | (refine step_append_dig rfl (.tmp 11) rfl _ A3 n3 k3 (digs (val a.ds)) rfl e3 (by omega) ?_;intro v1 w1 o1 hb1))
 have dx:=(own_dig o1 (okD_digs _)).below hb2
 have dy:=own_dig o2 (okD_digs _)
 have hR2:=(hR.drew.later hb1).later hb2
 have bb1:=below_then hbe.drew hb1 hbe.size
 have hbe2:=below_then bb1 hb2 bb1.size
 clear o1 o2 bb1 hb1 hb2 e3 e4 d1 d2 hd hd' h1 h2 hX hY hR hbe
 go_wp2
 go_loopg [5,6] (val b.ds) (fun k s t wr=>RGcdAt G w k s t wr)
 case atStart=>exact ⟨_,dx,dy,HG.out.symm,hs,hs2,hbe2,hR2⟩
 case round=>
  obtain ⟨X,dX,dY,hgcd,hsX,hsY,hbe,hR⟩:=hrel
  have HGC:=Lib.hid hgcd
  clear hgcd dx dy hbe2 hR2
  obtain ⟨A3,n3,k3,rfl⟩:=dY.shape
  obtain ⟨kl,kl',knc,kc⟩:=dY.len
  rcases Nat.eq_zero_or_pos n3 with h0 | h0
  ·have hv:gk=0:=len_zero (by omega)
   have HV:=Lib.hid hv
   subst h0
   clear hv kl kl'
   go_wp2_with fail
   refine (make_dig false _ X _ dX (by omega)).mono ?_
   rw [show sm false X=(G:Int) by have:=HGC.out;rw [HV.out,Nat.gcd_zero_right] at this;rw [this];rfl]
   rintro e w3 ⟨v3,rfl,e3,hb3⟩
   obtain ⟨A1,n1,k1,rfl,_⟩:=e3.shape
   have hR3:=hR.later hb3
   obtain ⟨c0,c1,f0,f1⟩:=hR3.two
   go_wp2
   refine ret_cell Try.results47 Try.underlying68 (by kernel_rfl) rfl (hR3.set2 _ _) rfl ?_
   exact fin_int hR3 e3 (below_then hbe hb3 hbe.size) (by omega)
  ·have hv:gk≠0:=len_pos (by omega)
   have HV:=Lib.hid hv
   clear hv kl kl'
   go_wp2_with fail
   have hc:=rdivDigits_any _ _ (digs X) (digs gk) _ dX dY (by rw [val_digs];exact HV.out) (by rw [val_digs];exact hsX) hsY
   rw [val_digs,val_digs] at hc
   refine hc.mono ?_
   clear hc
   rintro e w3 ⟨v3,v4,rfl,d3,d4,hb3⟩
   have hlt:=Nat.mod_lt X (Nat.pos_of_ne_zero HV.out)
   go_wp2
   go_roundg (X % gk)
   case measure=>exact hlt
   case rel=>exact ⟨gk,dY.below hb3,d4,by rw [← HGC.out,Nat.gcd_comm X gk,Nat.gcd_rec gk X,Nat.gcd_comm],hsY,Nat.le_trans (digs_len_mono (Nat.le_of_lt hlt)) hsY,below_then hbe hb3 hbe.size,hR.later hb3⟩
def DivExPost (z:Int) (w:World) (e:Ending) (w':World):Prop:=∃q r,e= .returned (.tuple #[q,r,.int .i64 0])∧IntM w' q (canI z)∧IntM w' r (canI 0)∧Below w.heap.size w w'
theorem ret_bool {a b:Bool} (h:b=a):Ending.returned (.bool a)= .returned (.bool b):=by rw [h]
end Go.Proofs.Ytgdcbjligbnpgaa
