/- Lemmas of the claim; no condition. -/
import Derived.Test.YtgdcbjligbnpgaaGreatH7
set_option linter.all false
set_option maxRecDepth 100000
set_option maxHeartbeats 40000000
namespace Go.Proofs.YtgdcbjligbnpgaaGreat
open Go.RowKit
open Pl
attribute [local go_sem ↓] Go.wp_at_zero Go.wp_at_succ
theorem pow_cast (s:Nat):((2:Int)^s)=((2^s:Nat):Int):=by rw [Int.natCast_pow];rfl
theorem pow_pos_1 (s:Nat):(1:Int)≤2^s:=by rw [pow_cast];have:=Nat.pow_pos (n:=s) (show 0 < 2 by decide);omega
theorem pow_le_31 {s:Nat} (h:s≤31):(2:Int)^s≤2147483648:=by
 rw [pow_cast]
 have:=Nat.pow_le_pow_right (show 0 < 2 by decide) h
 omega
theorem ring_shr (P O x r c a p xr yr:Int) (h:P * O+c=a+xr * p) (e:P * r=x - xr+4294967296 * yr):P * (O+r * p)+c=a+x * p+yr * (p * 4294967296):=by grind
theorem shr_step {O xs:List Nat} {k:Nat} {P r c xr yr:Int} (hk:k < O.length) (hr:0≤r) (e:P * r=di xs k - xr+4294967296 * yr) (h:P * (vt O k:Int)+c=(vt xs k:Int)+xr * ((B32^k:Nat):Int)):
 P * (vt (O.set k r.toNat) (k+1):Int)+c=(vt xs (k+1):Int)+yr * ((B32^(k+1):Nat):Int):=by
 rw [vt_cast_set hk hr,vt_cast_succ,pow_cast_succ]
 exact ring_shr _ _ _ _ _ _ _ _ _ h e
theorem rbitLen_any (v:Value) (ds:List Nat) (w:World) (h:DigM w v ds) (hs:(digs (val ds)).length≤549755813888):
 Calls Tryz.prog 117 #[v] w fun e w'=>e= .returned (.int .i64 (bl (val ds):Int))∧w=w':=by
 generalize hX:val ds=X at *
 have HX:=Lib.hid hX
 clear hX
 go_enter Tryz.func117,Tryz.ntmps117
 go_wp2_with fail
 refine (rtrim_any _ ds _ h).mono ?_
 rw [HX.out]
 rintro e w1 ⟨u1,rfl,g1,rfl⟩
 clear h
 obtain ⟨A,l,c,rfl⟩:=g1.shape
 obtain ⟨hl,hl',hnc,hc⟩:=g1.len
 rcases Nat.eq_zero_or_pos l with h0 | h0
 ·have hv:X=0:=len_zero (by omega)
  subst h0
  have HV:=Lib.hid hv
  clear hv hl hl' hs
  go_wp2
  go_ret
  exact ⟨by rw [HV.out,bl_zero];rfl,rfl⟩
 ·obtain ⟨j,rfl⟩:∃j,l=j+1:=⟨l - 1,by omega⟩
  have hbl:bl X=32 * j+bl (dg (digs X) j):=bl_digs (by omega)
  obtain ⟨b,off,rfl,_,hcell⟩:=g1.at_ (by omega)
  have hcj:=hcell j (by omega)
  have x0:=di_nonneg (digs X) j
  have x1:=di_le (okD_digs X) j
  have HB:=Lib.hid hbl
  have hjb:(j:Int)≤549755813888:=by omega
  clear hcell hbl hl hl' hs
  go_wp2
  go_loop [3,4] (fun n x=>∃(m:Nat) (y:Nat),n= .int .i64 (m:Int)∧x= .int .u32 (y:Int)∧y < 4294967296∧m+bl y=32 * j+bl (dg (digs X) j)∧m≤32 * j+32) (fun _ x=>(intOf x).toNat)
  case atStart=>exact ⟨32 * j,dg (digs X) j,by go_num,rfl,by unfold di at x1;omega,rfl,by omega⟩
  case round=>
   obtain ⟨m,y,rfl,rfl,hy,hm,hmb⟩:=hrel
   have HM:=Lib.hid hm
   clear hm
   rcases Nat.eq_zero_or_pos y with hy0 | hy0
   ·subst hy0
    go_wp2
    go_ret
    exact ⟨ret_int (by have:=HB.out;have:=HM.out;rw [bl_zero] at this;omega),rfl⟩
   ·have hh:=bl_half (n:=y) (by omega)
    have hb2:=bl_le (n:=dg (digs X) j)
    have hlb:bl (dg (digs X) j)≤32:=by
     have h1:bl (dg (digs X) j)≤bl 4294967295:=bl_mono (by unfold di at x1;omega)
     have h2:bl 4294967295=32:=bl_unique (by decide) (.inr (by decide))
     omega
    have hm2:m+1≤32 * j+32:=by have:=HM.out;omega
    have HH:=Lib.hid hh
    clear hh hb2 hlb
    go_wp2
    go_round
    case rel=>exact ⟨m+1,y / 2,by go_num,by go_num,by omega,by have:=HM.out;have:=HH.out;omega,hm2⟩
    case measure=>simp [intOf];omega
theorem or_place {z y:Int} {s:Nat} (hs:s≤31) (z0:0≤z) (z1:z < 2^s) (y0:0≤y) (y1:y≤4294967295):bits .or .u32 z (y * 2^s % 4294967296)=z+y * 2^s % 4294967296∧z+y * 2^s % 4294967296≤4294967295:=by
 obtain ⟨a,rfl⟩:=Int.eq_ofNat_of_zero_le z0
 obtain ⟨b,rfl⟩:=Int.eq_ofNat_of_zero_le y0
 have hB:2^s * 2^(32 - s)=4294967296:=by rw [← Nat.pow_add,show s+(32 - s)=32 from by omega]
 have hpp:=Nat.pow_pos (n:=s) (show 0 < 2 by decide)
 have hps:2^s≤2^31:=Nat.pow_le_pow_right (by decide) hs
 rw [pow_cast] at *
 have e:((b:Int) * ((2^s:Nat):Int)) % 4294967296=(((b % 2^(32 - s)) * 2^s:Nat):Int):=by
  have:(b * 2^s) % 4294967296=(b % 2^(32 - s)) * 2^s:=by rw [← hB,Nat.mul_comm (2^s),Nat.mul_mod_mul_right]
  rw [← this];omega
 rw [e]
 have hlt:=Nat.mod_lt b (Nat.pow_pos (n:=32 - s) (show 0 < 2 by decide))
 generalize b % 2^(32 - s)=m at *
 have hm:(m+1) * 2^s≤4294967296:=by
  rw [← hB,Nat.mul_comm (2^s)];exact Nat.mul_le_mul_right _ hlt
 rw [Nat.add_mul,Nat.one_mul] at hm
 refine ⟨?_,by omega⟩
 rw [u32_or_nat _ _ (by omega) (by omega),Nat.or_comm,← Nat.shiftLeft_eq,← Nat.shiftLeft_add_eq_or_of_lt (by omega),Nat.shiftLeft_eq]
 omega
theorem rshift_own (v:Value) (ds:List Nat) (q s:Nat) (w:World) (h:DigM w v ds) (hs:s≤31) (hl0:ds.length+q≤549755813888):
 Calls Tryz.prog 118 #[v,.int .i64 ((32 * q+s:Nat):Int)] w fun e w'=>∃k l,e= .returned (.slice (some ⟨w.heap.size,0,none⟩) k l)∧DigM w' (.slice (some ⟨w.heap.size,0,none⟩) k l) (digs (val ds * 2^(32 * q+s)))∧Below w.heap.size w w':=by
 obtain ⟨A,l,c,rfl⟩:=h.shape
 obtain ⟨hl,hl',hnc,hc⟩:=h.len
 have hp1:=pow_le_31 hs
 have hp0:(1:Int)≤2^s:=pow_pos_1 s
 have hmk:=make_u32 (l+q+1) (by omega)
 push_cast at hmk
 have HX:Hid (ds.length≤l):=Lib.hid (by omega)
 have hq1:(q:Int)≤549755813888:=by omega
 have hl1:(l:Int)+q≤549755813888:=by omega
 have hok:=h.ok
 generalize hN:((32 * q+s:Nat):Int)=N
 have hN0:0≤N:=by omega
 have hN1:N≤17592186044447:=by omega
 have hdq:N / 32=(q:Int):=by omega
 have hds:N % 32=(s:Int):=by omega
 clear hl hl' hl0 hN
 go_enter Tryz.func118,Tryz.ntmps118
 go_wp2
 clear hmk
 go_loopw [6] (fun i wr=>∃(k:Nat) (O:List Nat),k≤l∧i= .int .i64 k∧l+q+1≤O.length∧O.length≤l+q+1∧DigB wr w.heap.size O∧okD O∧Below w.heap.size w wr∧
  (val O:Int)=vt ds k * 2^(32 * q+s)∧di O (k+q) < 2^s∧∀j,k+q < j→dg O j=0) (fun i _=>l - (intOf i).toNat)
 case atStart=>exact ⟨0,List.replicate (l+q+1) 0,by omega,rfl,by simp,by simp,DigB.zeros w _,okD_replicate _,(Below.refl _ _).alloc (Nat.le_refl _) _,by simp [vt_zero,val_replicate],by rw [di_eq,dg_replicate];simp;omega,fun j _=>dg_replicate _ _⟩
 case round=>
  obtain ⟨k,O,hk,rfl,hO,hO',hB,ok,hbe,heq,htop,hz⟩:=hrel
  have HE:=Lib.hid heq
  have HZ:=Lib.hid hz
  clear heq hz
  rcases Nat.lt_or_ge k l with hkl | hkl
  ·obtain ⟨b1,off1,rfl,hb1,hcell1⟩:=h.at_ (by omega)
   have hx:=dig_in hbe hb1 hcell1 hkl
   have x0:=di_nonneg ds k
   have x1:=di_le hok k
   have z0:=di_nonneg O (k+q)
   obtain ⟨ho1,ho2⟩:=or_place hs z0 htop x0 x1
   have ho:=hB.cell (k:=k+q) (by omega)
   have hf:=hB.frozen (k+q)
   have m0:0≤di ds k * 2^s % 4294967296:=Int.emod_nonneg _ (by decide)
   have hB':=hB.setI (k+q) (z:=di O (k+q)+di ds k * 2^s % 4294967296) (by omega)
   have ho':=hB'.cell (k:=k+q+1) (by simp;omega)
   have hf':=hB'.frozen (k+q+1)
   have hn1:(k:Int)+q < (l:Int)+q+1:=by omega
   have hn2:(k:Int)+q+1 < (l:Int)+q+1:=by omega
   have hn3:((k:Int)+q).toNat=k+q:=by omega
   have hn4:((k:Int)+q+1).toNat=k+q+1:=by omega
   have p0:0≤di ds k * 2^s:=Int.mul_nonneg x0 (by omega)
   have p1:di ds k * 2^s≤4294967295 * 2147483648:=Int.mul_le_mul x1 hp1 (by omega) (by omega)
   have hlt:di ds k * 2^s / 4294967296 < 2^s:=by
    have:di ds k * 2^s < 4294967296 * 2^s:=Int.mul_lt_mul_of_pos_right (by omega) (by omega)
    exact Int.ediv_lt_of_lt_mul (by decide) (by rw [Int.mul_comm (2^s)];exact this)
   have hst:∀T:Int,T=di ds k * 2^s→((val ((O.set (k+q) (di O (k+q)+T % 4294967296).toNat).set (k+q+1) (T / 4294967296).toNat):Nat):Int)=vt ds (k+1) * 2^(32 * q+s):=by
    rintro T rfl
    exact rshl_step (by omega) (HZ.out _ (by omega)) m0 (by omega) (by omega) HE.out
   obtain ⟨T,hT⟩:∃T,T=di ds k * 2^s:=⟨_,rfl⟩
   have HST:=Lib.hid (hst T hT)
   rw [← hT] at ho1 ho2 m0 hB' ho' hf' p0 p1 hlt
   have hTs:=hT.symm
   clear hT hst
   have hor:bits .or .u32 (di O (k+q)) (T % 4294967296)=di O (k+q)+T % 4294967296:=ho1
   go_wp2
   go_roundw
   case rel=>exact ⟨k+1,(O.set (k+q) (di O (k+q)+T % 4294967296).toNat).set (k+q+1) (T / 4294967296).toNat,by omega,by go_num,by simpa using hO,by simpa using hO',hB'.setI _ (by omega),okD_set (okD_set ok _ (by unfold B32;omega)) _ (by unfold B32;omega),(hbe.setCell (Nat.le_refl _) _).setCell (Nat.le_refl _) _,HST.out,by rw [show k+1+q=k+q+1 by omega,di_eq,dg_set_eq (by simp;omega)];omega,fun j hj=>by rw [dg_set_ne (by omega),dg_set_ne (by omega)];exact HZ.out j (by omega)⟩
   case measure=>simp [intOf];omega
  ·obtain rfl:k=l:=by omega
   go_wp2_with fail
   refine (rtrim_at _ _ _ O _ ?_).mono ?_
   ·have:=hB.dig ok (c:=k+q+1) hO' (by unfold maxLen;omega)
    rwa [show O.length=k+q+1 from by omega] at this
   rintro e w1 ⟨k',rfl,hv,rfl⟩
   go_wp2_with fail
   go_ret
   refine ⟨_,_,rfl,?_,hbe⟩
   have:=HE.out
   rw [vt_ge HX.out,pow_cast,← Int.natCast_mul] at this
   rwa [Int.natCast_inj.1 this] at hv
theorem cell_far {w:World} {b o g:Nat} {v:Value} (hne:b≠g) (h:w.cell? ⟨b,o,none⟩=some v) (k:Nat) (u:Value):(w.setCell ⟨g,k,none⟩ u).drew.cell? ⟨b,o,none⟩=some v:=
 (World.cell?_setCell_other w ⟨g,k,none⟩ ⟨b,o,none⟩ u (fun e=>hne (by injection e with e1;exact e1.symm))).trans h
theorem or_half {x y:Int} (x0:0≤x) (x1:x≤4294967295) (y0:0≤y) (y1:y≤4294967295):bits .or .u32 (x / 2) (y * 2147483648 % 4294967296)=x / 2+2147483648 * (y % 2):=by
 have e:y * 2147483648 % 4294967296=((2147483648 * (y.toNat % 2):Nat):Int):=by omega
 have e1:x / 2=((x.toNat / 2:Nat):Int):=by omega
 rw [e,e1,u32_or_nat _ _ (by omega) (by omega)]
 have h:2147483648 * (y.toNat % 2) ||| (x.toNat / 2)=2147483648 * (y.toNat % 2)+x.toNat / 2:=by
  have:=Nat.shiftLeft_add_eq_or_of_lt (i:=31) (b:=x.toNat / 2) (by omega) (y.toNat % 2)
  rw [Nat.shiftLeft_eq,show (2:Nat)^31=2147483648 from rfl,Nat.mul_comm] at this
  exact this.symm
 rw [Nat.or_comm,h]
 omega
theorem rhalf_own (v:Value) (ds:List Nat) (w:World) (h:DigM w v ds) (hl0:ds.length≤549755813888):
 Calls Tryz.prog 120 #[v] w fun e w'=>∃k l,e= .returned (.slice (some ⟨w.heap.size,0,none⟩) k l)∧DigM w' (.slice (some ⟨w.heap.size,0,none⟩) k l) (digs (val ds / 2))∧Below w.heap.size w w':=by
 obtain ⟨A,l,c,rfl⟩:=h.shape
 obtain ⟨hl,hl',hnc,hc⟩:=h.len
 have hmk:=make_u32 l (by omega)
 have HX:Hid (ds.length≤l):=Lib.hid (by omega)
 have hl1:(l:Int)≤549755813888:=by omega
 have hok:=h.ok
 clear hl hl' hl0
 go_enter Tryz.func120,Tryz.ntmps120
 go_wp2
 clear hmk
 go_loopw [4] (fun i wr=>∃(k:Nat) (O:List Nat),k≤l∧i= .int .i64 k∧l≤O.length∧O.length≤l∧DigB wr w.heap.size O∧okD O∧Below w.heap.size w wr∧
  2 * (vt O k:Int)+di ds 0 % 2=(vt ds k:Int)+(di ds k % 2) * ((B32^k:Nat):Int)) (fun i _=>l - (intOf i).toNat)
 case atStart=>exact ⟨0,List.replicate l 0,by omega,rfl,by simp,by simp,DigB.zeros w _,okD_replicate _,(Below.refl _ _).alloc (Nat.le_refl _) _,by simp [vt_zero]⟩
 case round=>
  obtain ⟨k,O,hk,rfl,hO,hO',hB,ok,hbe,heq⟩:=hrel
  have HE:=Lib.hid heq
  clear heq
  rcases Nat.lt_or_ge k l with hkl | hkl
  ·obtain ⟨b1,off1,rfl,hb1,hcell1⟩:=h.at_ (by omega)
   have hx:=dig_in hbe hb1 hcell1 hkl
   have x0:=di_nonneg ds k
   have x1:=di_le hok k
   have y0:=di_nonneg ds (k+1)
   have y1:=di_le hok (k+1)
   have ho:=hB.cell (k:=k) (by omega)
   have hf:=hB.frozen k
   clear hcell1
   have hor:=or_half x0 x1 y0 y1
   have g1:IntKind.i64.wrap ((k:Int)+1)=((k+1:Nat):Int):=by simp only [IntKind.wrap,IntKind.bits,IntKind.signed];simp;omega
   have g2:IntKind.u64.wrap (di ds (k+1) * 2147483648)=di ds (k+1) * 2147483648:=u64_in _ (by omega) (by omega)
   have g3:IntKind.u32.wrap (di ds (k+1) * 2147483648)=di ds (k+1) * 2147483648 % 4294967296:=by simp only [IntKind.wrap,IntKind.bits,IntKind.signed];simp
   have hd:=rdigit_any (.slice (some ⟨b1,off1,none⟩) l c) ds (k+1) wr.drew ((h.below hbe).keep (Keep.drew _)) (by omega)
   have HST:Hid (2 * (vt (O.set k (di ds k / 2+2147483648 * (di ds (k+1) % 2)).toNat) (k+1):Int)+di ds 0 % 2=(vt ds (k+1):Int)+(di ds (k+1) % 2) * ((B32^(k+1):Nat):Int)):=Lib.hid (shr_step (by omega) (by omega) (by omega) HE.out)
   go_wp2
   have hne:b1≠w.heap.size:=by omega
   go_region_held3 (fun w'=>w'.cell? ⟨b1,off1+k,none⟩=some (.int .u32 (di ds k)))
    (first | exact hx | exact cell_far hne hx _ _)
    ((go_at_call 124;refine hd.mono ?_;rintro e w1 ⟨rfl,rfl⟩))
   go_wp2
   go_roundw
   case rel=>exact ⟨k+1,O.set k (di ds k / 2+2147483648 * (di ds (k+1) % 2)).toNat,by omega,by go_num,by simpa using hO,by simpa using hO',hB.setI k (by omega),okD_set ok _ (by unfold B32;omega),(hbe.setCell (Nat.le_refl _) _).drew,HST.out⟩
   case measure=>simp [intOf];omega
  ·obtain rfl:k=l:=by omega
   go_wp2_with fail
   refine (rtrim_at _ _ _ O _ ?_).mono ?_
   ·have:=hB.dig ok (c:=k) hO' (by unfold maxLen;omega)
    rwa [show O.length=k from by omega] at this
   rintro e w1 ⟨k',rfl,hv,rfl⟩
   go_wp2_with fail
   go_ret
   refine ⟨_,_,rfl,?_,hbe⟩
   rwa [half_fin HX.out hO' HE.out] at hv
theorem run_append_dig (ty:TypeId) (w:World) (A:Option Addr) (n c:Nat) (ds:List Nat) (h:DigM w (.slice A n c) ds) (hs:ds.length≤549755813888):
 ∃v' w',(Builtin.append_ #[55,55] ty #[.slice none 0 0,.slice A n c]).run Tryz.prog w= .ok v' w'∧w'.ownsRow w.heap.size 72 1 v' ds.length (ds.map uc)∧Below w.heap.size w w':=by
 obtain ⟨i0,hi,hz0,hz1,hz2⟩:=info_parts info_u32
 obtain ⟨hl,hl',hnc,hc⟩:=h.len
 obtain rfl:n=ds.length:=by omega
 rcases A with _ | ad
 ·have hn:ds=[]:=by
   rcases Nat.eq_zero_or_pos ds.length with h0 | h0
   ·exact List.length_eq_zero_iff.1 h0
   ·obtain ⟨b,off,hA,_⟩:=h.at_ h0
    cases hA
  subst hn
  refine ⟨.slice none 0 0,w,?_,World.ownsRow_nil _ _ _ _,Below.refl _ _⟩
  simp [Builtin.append_,run_underlying Tryz.underlying55,sizeOf,typeInfo,hi,Builtin.lenOf,Builtin.firstCells]
 ·obtain ⟨v',w',hrun,h2,h3,_,_⟩:=run_append_own_at (P:=Tryz.prog) w w.heap.size 55 ty 72 i0 _ 1 4 Tryz.underlying55 hi hz0 hz1 hz2 rfl (by decide) (.slice none 0 0) 0 [] (World.ownsRow_nil _ _ _ _) ad ds.length c (ds.map uc) (by simp) h.news (uc_oneCell _) (by unfold maxLen;omega) (by omega) (Nat.le_refl _)
  exact ⟨v',w',hrun,by simpa using h2,(Below.refl _ _).grown h3 (Nat.le_refl _) (fun k hk=>by simp [Value.ownBlock] at hk)⟩
theorem wp_append_dig {o:Oper} {a:Act} {K:Act→World→Prop} {Q:Exit→Act→World→Prop} (x:Operand)
 (ho:o.op= .call { callee:= .builtin .append,args:=#[.const (.slice none 0 0),x],argTypes:=#[55,55] })
 (w:World) (A:Option Addr) (n c:Nat) (ds:List Nat) (hx:a.eval x= .slice A n c) (h:DigM w (.slice A n c) ds) (hs:ds.length≤549755813888)
 (hK:∀v' w',w'.ownsRow w.heap.size 72 1 v' ds.length (ds.map uc)→Below w.heap.size w w'→K (a.put o.dst v') w'):o.wp Tryz.prog a w K Q:=by
 obtain ⟨v',w',hrun,h2,h3⟩:=run_append_dig o.type w A n c ds h hs
 have hc:a.eval (.const (.slice none 0 0))= .slice none 0 0:=rfl
 unfold Oper.wp execOp
 simp only [ho,resolve,invoke,builtin,Sem.run_bind,Sem.run_pure,Result.andThen_ok,List.map_toArray,List.map_cons,List.map_nil,hc,hx,hrun]
 exact hK v' w' h2 h3
theorem wpList_append_dig {ops:Array Oper} {rest:List Oper} {o:Oper} {a:Act} {Q:Exit→Act→World→Prop} (hgd:o.guard=none) (x:Operand)
 (ho:o.op= .call { callee:= .builtin .append,args:=#[.const (.slice none 0 0),x],argTypes:=#[55,55] })
 (w:World) (A:Option Addr) (n c:Nat) (ds:List Nat) (hx:a.eval x= .slice A n c) (h:DigM w (.slice A n c) ds) (hs:ds.length≤549755813888)
 (hK:∀v' w',w'.ownsRow w.heap.size 72 1 v' ds.length (ds.map uc)→Below w.heap.size w w'→wpList Tryz.prog ops Q rest (a.put o.dst v') w'):wpList Tryz.prog ops Q (o::rest) a w:=
 wpList_plain hgd fun _ hk=>wp_append_dig x ho w A n c ds hx h hs fun v' w' h2 h3=>hk _ _ (hK v' w' h2 h3)
theorem or_bit32 {d s:Nat} (hs:s≤31) (hd:d < B32) (h:2^(s+1)∣d):bits .or .u32 (d:Int) (2^s)=((d+2^s:Nat):Int):=by
 have h2:2^s≤2^31:=Nat.pow_le_pow_right (by decide) hs
 rw [pow_cast,u32_or_nat _ _ (by unfold B32 at hd;omega) (by omega),or_bit h]
def Off (g:Nat) (v:Value):Prop:=∀a n c,v= .slice (some a) n c→a.block≠g
theorem Off.mk {g b o n c:Nat} (h:b≠g):Off g (.slice (some ⟨b,o,none⟩) n c):=fun a n' c' e=>by
 injection e with e1
 injection e1 with e1
 subst e1
 exact h
theorem Off.own {w:World} {base e size n g:Nat} {v:Value} {xs:List Value} (h:w.ownsRow base e size v n xs) (hg:w.heap.size≤g):Off g v:=fun a n' c' he=>by
 rcases h.2 with ⟨rfl,_⟩ | ⟨k,cap,cur,rfl,_,hh,_⟩
 ·injection he with e1;cases e1
 ·injection he with e1
  injection e1 with e1
  subst e1
  have:=lt_heap hh
  show k≠g
  omega
theorem DigM.far {w:World} {v:Value} {ds:List Nat} {g:Nat} (h:DigM w v ds) (ho:Off g v) (k:Nat) (u:Value):DigM (w.setCell ⟨g,k,none⟩ u) v ds:=by
 obtain ⟨A,c,hv,h1,h2,h3,h4⟩:=h
 refine ⟨A,c,hv,h1,h2,h3,fun hp=>?_⟩
 obtain ⟨b,off,cs,fz,hA,hb,hc⟩:=h4 hp
 have hne:b≠g:=by subst hA;exact ho _ _ _ hv
 exact ⟨b,off,cs,fz,hA,by rw [heap_setCell_other w _ _ _ hne];exact hb,hc⟩
def DivAt (X Y q g:Nat) (w:World) (r d:Value) (z:Int) (wr:World) (Q:List Nat) (R D:Nat):Prop:=
 DigM wr r (digs R)∧DigM wr d (digs D)∧D=Y * 2^(z+1).toNat / 2∧R < Y * 2^(z+1).toNat∧X=val Q * Y+R∧2^(z+1).toNat∣val Q∧DigB wr g Q∧okD Q∧q+1≤Q.length∧Q.length≤q+1∧Below w.heap.size w wr∧(digs R).length≤137438953472∧(digs D).length≤549755813888∧Off g r∧Off g d
def DivDigPost (X Y:Nat) (w:World) (e:Ending) (w':World):Prop:=
 ∃v1 v2,e= .returned (.tuple #[v1,v2])∧DigM w' v1 (digs (X / Y))∧DigM w' v2 (digs (X % Y))∧Below w.heap.size w w'
theorem rdivDigits_any (v1 v2:Value) (xs ys:List Nat) (w:World) (h1:DigM w v1 xs) (h2:DigM w v2 ys) (hy:val ys≠0) (hs1:(digs (val xs)).length≤137438953472) (hs2:ys.length≤137438953472):
 Calls Tryz.prog 105 #[v1,v2] w (DivDigPost (val xs) (val ys) w):=by
 have hsy:(digs (val ys)).length≤137438953472:=Nat.le_trans (digs_len_le h2.ok) hs2
 generalize hX:val xs=X at *
 generalize hY:val ys=Y at *
 have HX:=Lib.hid hX
 have HY:=Lib.hid hY
 have HYZ:=Lib.hid hy
 clear hX hY hy
 go_enter Tryz.func105,Tryz.ntmps105
 go_wp2_with fail
 refine (rtrim_any _ xs _ h1).mono ?_
 rw [HX.out]
 rintro e w1 ⟨u1,rfl,g1,rfl⟩
 obtain ⟨A,l,c,rfl⟩:=g1.shape
 go_wp2_with (at_builtin;refine wpList_append_dig rfl (.tmp 12) rfl _ A l c (digs X) rfl g1 (by omega) ?_)
 intro v' w1 hown hbe
 have d1:=own_dig hown (okD_digs X)
 have o1:=Off.own hown (Nat.le_refl _)
 clear hown
 go_wp2_with fail
 refine (rbitLen_any _ xs _ (h1.below hbe) (by rw [HX.out];omega)).mono ?_
 rw [HX.out]
 rintro e w2 ⟨rfl,rfl⟩
 go_wp2_with fail
 refine (rbitLen_any _ ys _ (h2.below hbe) (by rw [HY.out];omega)).mono ?_
 rw [HY.out]
 rintro e w2 ⟨rfl,rfl⟩
 have b1:=@bl_len X
 have b2:=@bl_len Y
 rcases Nat.lt_or_ge (bl X) (bl Y) with hlt | hge
 ·have hq:X / Y=0∧X % Y=X:=⟨Nat.div_eq_of_lt (bl_sub_lt hlt),Nat.mod_eq_of_lt (bl_sub_lt hlt)⟩
  have HQ:=Lib.hid hq
  have ht:(bl X:Int) - bl Y < 0:=by omega
  clear hq
  go_wp2
  go_ret2
  exact ⟨_,_,rfl,by rw [HQ.out.1,digs_zero];exact DigM.nil _ _ _ (by simp),by rw [HQ.out.2];exact d1,hbe⟩
 ·have hst:=bl_start hge HYZ.out
  obtain ⟨n,hn⟩:∃n:Nat,n=bl X - bl Y:=⟨_,rfl⟩
  have hn':(bl X:Int) - bl Y=(n:Int):=by omega
  rw [← hn] at hst
  have HST:=Lib.hid hst
  obtain ⟨q,s,hqs,hs⟩:∃q s,n=32 * q+s∧s≤31:=⟨n / 32,n % 32,by omega,by omega⟩
  have hnb:(n:Int)≤4398046511104:=by omega
  have hqb:q≤137438953472:=by omega
  have hq:(n:Int) / 32=(q:Int):=by omega
  have HN:=Lib.hid hqs
  have hmk:=make_u32 (q+1) (by omega)
  push_cast at hmk
  clear hst hn b1 b2 hqs
  go_wp2_with fail
  clear hmk
  obtain ⟨W,hW⟩:∃W,W=w1.alloc (.cells (zc (q+1)) 72):=⟨_,rfl⟩
  have hbn:Below w1.heap.size w1 W:=hW▸below_new _ _
  have hB:DigB W w1.heap.size (List.replicate (q+1) 0):=hW▸DigB.zeros w1 _
  rw [← hW]
  clear hW
  have hbe2:=below_then hbe hbn hbe.size
  have hc:=rshift_own v2 ys q s W (h2.below hbe2) hs (by omega)
  rw [← HN.out,HY.out] at hc
  refine hc.mono ?_
  clear hc
  rintro e w2 ⟨kd,ld,rfl,d2,hb2⟩
  have o2:Off w1.heap.size (.slice (some ⟨W.heap.size,0,none⟩) kd ld):=Off.mk (by have:=hB.lt;omega)
  have hB2:=hB.below hb2 hB.lt
  have hbe3:=below_then hbe2 hb2 hbe2.size
  have d3:=(d1.below hbn).below hb2
  have hg1:w.heap.size≤w1.heap.size:=hbe.size
  clear hB hbe hbe2 d1 hbn hb2 g1 h1 h2
  have hD0:(digs (Y * 2^n)).length≤549755813888:=by
   refine Nat.le_trans (mul_len Y (2^n)) ?_
   have:(digs (2^n)).length≤q+1:=digs_lt (by rw [B32_pow];exact Nat.pow_lt_pow_right (by decide) (by have:=HN.out;omega))
   omega
  have HD0:=Lib.hid hD0
  have hsx:Hid ((digs X).length≤137438953472):=Lib.hid hs1
  have hnn:¬(n:Int) < 0:=by omega
  clear hD0 hs1 hsy hge
  go_wp2
  go_loopw [6,9,10] (fun r d i wr=>∃(z:Int) (Q:List Nat) (R D:Nat),-1≤z∧z≤n∧i= .int .i64 z∧DivAt X Y q w1.heap.size w r d z wr Q R D) (fun _ _ i _=>(intOf i+1).toNat)
  case atStart=>exact ⟨n,List.replicate (q+1) 0,X,Y * 2^n,by omega,by omega,rfl,d3,d2,by rw [show ((n:Int)+1).toNat=n+1 by omega,half_pow],by rw [show ((n:Int)+1).toNat=n+1 by omega];exact HST.out,by rw [val_replicate];simp,by rw [val_replicate];exact ⟨0,rfl⟩,hB2,okD_replicate _,by simp,by simp,hbe3,hsx.out,HD0.out,o1,o2⟩
  case round=>
   obtain ⟨z,Q,R,D,hz0,hz1,rfl,dr,dd,hD,hR,hXQ,hdv,hB,okQ,hQ,hQ',hbe,hsR,hsD,oR,oD⟩:=hrel
   have HD:=Lib.hid hD
   have HR:=Lib.hid hR
   have HXQ:=Lib.hid hXQ
   have HDV:=Lib.hid hdv
   clear hD hR hXQ hdv d2 d3 hB2 hbe3
   rcases Int.lt_or_le z 0 with hz | hz
   ·obtain rfl:z= -1:=by omega
    have e0:((-1:Int)+1).toNat=0:=rfl
    have:=HR.out
    rw [e0,Nat.pow_zero,Nat.mul_one] at this
    have HE:=Lib.hid (bit_end HXQ.out this)
    clear this e0
    go_wp2_with fail
    refine (rtrim_any _ Q _ ?_).mono ?_
    ·have:=hB.dig okQ (c:=q+1) hQ' (by unfold maxLen;omega)
     rwa [show Q.length=q+1 from by omega] at this
    rintro e w3 ⟨v3,rfl,h3,rfl⟩
    go_wp2
    go_ret2
    exact ⟨_,_,rfl,by rw [← HE.out.1];exact h3,by rw [← HE.out.2];exact dr,hbe⟩
   ·obtain ⟨i,rfl⟩:=Int.eq_ofNat_of_zero_le hz
    have e1:((i:Int)+1).toNat=i+1:=by omega
    have hR:=HR.out
    have hD:=HD.out
    have hdv:=HDV.out
    rw [e1] at hR hD hdv
    rw [half_pow] at hD
    have HR1:=Lib.hid hR
    have HD1:=Lib.hid hD
    have HDV1:=Lib.hid hdv
    have hin:i≤n:=by omega
    clear hR hD hdv HR HD HDV e1
    obtain ⟨I,hI⟩:∃I,I=i / 32:=⟨_,rfl⟩
    obtain ⟨J,hJ⟩:∃J,J=i % 32:=⟨_,rfl⟩
    have hi1:(i:Int) / 32=(I:Int):=by omega
    have hi2:(i:Int) % 32=(J:Int):=by omega
    have hiq:I≤q:=by have:=HN.out;omega
    have hJ31:J≤31:=by omega
    have hdb:=dg_bits okQ HDV1.out
    have hval:=fun h=>val_bit (Q:=Q) (i:=i) h
    rw [← hI] at hval
    rw [← hJ] at hval
    rw [← hI,← hJ] at hdb
    have HVAL:=Lib.hid hval
    have HDB:=Lib.hid hdb
    clear hI hJ hval hdb
    go_wp2_with fail
    refine (rcompareDigits_any _ _ _ _ _ dr dd).mono ?_
    rw [val_digs,val_digs]
    rintro e w3 ⟨rfl,hb3⟩
    have dr3:=dr.below hb3
    have dd3:=dd.below hb3
    have hB3:=hB.below hb3 hB.lt
    have hbe3:=below_then hbe hb3 hbe.size
    clear dr dd hB hbe hb3
    rcases Nat.lt_or_ge R D with hlt | hge
    ·have hc:cmpN R D= -1:=cmpN_lt hlt
     have HLT:=Lib.hid hlt
     rw [hc]
     clear hc hlt
     go_wp2_with fail
     refine (rhalf_own _ _ _ dd3 hsD).mono ?_
     rw [val_digs]
     rintro e w4 ⟨k4,l4,rfl,d4,hb4⟩
     go_wp2
     go_roundw
     case rel=>exact ⟨(i:Int) - 1,Q,R,D / 2,by omega,by omega,rfl,dr3.below hb4,d4,by rw [show ((i:Int) - 1+1).toNat=i by omega,← HD1.out],by rw [show ((i:Int) - 1+1).toNat=i by omega,← HD1.out];exact HLT.out,HXQ.out,by rw [show ((i:Int) - 1+1).toNat=i by omega];exact bit_skip HDV1.out,hB3.below hb4 hB3.lt,okQ,hQ,hQ',below_then hbe3 hb4 hbe3.size,hsR,Nat.le_trans (digs_len_mono (Nat.div_le_self _ _)) hsD,oR,Off.mk (by have:=hB3.lt;omega)⟩
     case measure=>simp [intOf]
    ·have hc:0≤cmpN R D:=by unfold cmpN;split;omega;split <;> omega
     have hcb:=cmpN_bd R D
     have hst:=bit_step HXQ.out HR1.out (by rw [← HD1.out];exact hge) HDV1.out
     rw [← HD1.out] at hst
     have HST2:=Lib.hid hst
     have hge2:=Lib.hid hge
     have hor:=or_bit32 hJ31 (dg_lt okQ I) HDB.out
     have HFIT:=Lib.hid (bit_fits (show J < 32 by omega) (dg_lt okQ I) HDB.out)
     have hpw:=pow_le_31 hJ31
     have hpw0:=pow_pos_1 J
     generalize cmpN R D=cc at *
     clear hst hge
     go_wp2_with fail
     refine (rsubDigits_own _ _ _ _ _ dr3 dd3 (by rw [val_digs,val_digs];exact hge2.out) (digs_len_mono hge2.out) (by omega)).mono ?_
     rw [val_digs,val_digs]
     rintro e w4 ⟨k4,l4,rfl,d4,hb4⟩
     have o4:Off w1.heap.size (.slice (some ⟨w3.heap.size,0,none⟩) k4 l4):=Off.mk (by have:=hB3.lt;omega)
     have hB4:=hB3.below hb4 hB3.lt
     have dd4:=dd3.below hb4
     have hbe4:=below_then hbe3 hb4 hbe3.size
     clear dr3 dd3 hB3 hbe3 hb4
     have ho:=hB4.cell (k:=I) (by omega)
     have hf:=hB4.frozen I
     rw [di_eq] at ho
     have hB5:=hB4.set_ I (dg Q I+2^J)
     have d5:=d4.far o4 I (.int .u32 ((dg Q I+2^J:Nat):Int))
     have dd5:=dd4.far oD I (.int .u32 ((dg Q I+2^J:Nat):Int))
     have hbe5:=hbe4.setCell (p:=⟨w1.heap.size,I,none⟩) hg1 (.int .u32 ((dg Q I+2^J:Nat):Int))
     generalize ((dg Q I+2^J:Nat):Int)=G at *
     clear dd4 d4
     go_wp2_with fail
     refine (rhalf_own _ _ _ dd5 hsD).mono ?_
     rw [val_digs]
     rintro e w6 ⟨k6,l6,rfl,d6,hb6⟩
     rw [World.size_setCell] at d6
     go_wp2
     go_roundw
     case rel=>exact ⟨(i:Int) - 1,Q.set I (dg Q I+2^J),R - D,D / 2,by omega,by omega,rfl,d5.below hb6,d6,by rw [show ((i:Int) - 1+1).toNat=i by omega,← HD1.out],by rw [show ((i:Int) - 1+1).toNat=i by omega,← HD1.out];exact HST2.out.2.1,by rw [HVAL.out (by omega)];exact HST2.out.1,by rw [show ((i:Int) - 1+1).toNat=i by omega,HVAL.out (by omega)];exact HST2.out.2.2,hB5.below hb6 hB5.lt,okD_set okQ _ HFIT.out,by simpa using hQ,by simpa using hQ',below_then hbe5 hb6 hbe5.size,Nat.le_trans (digs_len_mono (Nat.sub_le _ _)) hsR,Nat.le_trans (digs_len_mono (Nat.div_le_self _ _)) hsD,o4,Off.mk (by have:=hB5.lt;rw [World.size_setCell] at this;omega)⟩
     case measure=>simp [intOf]
theorem step_append_dig {ops:Array Oper} {o:Oper} {a:Act} {K:Act→World→Prop} {Q:Exit→Act→World→Prop} {E:Prop} (hgd:o.guard=none) (x:Operand)
 (ho:o.op= .call { callee:= .builtin .append,args:=#[.const (.slice none 0 0),x],argTypes:=#[55,55] })
 (w:World) (A:Option Addr) (n c:Nat) (ds:List Nat) (hx:a.eval x= .slice A n c) (h:DigM w (.slice A n c) ds) (hs:ds.length≤549755813888)
 (hK:∀v' w',w'.ownsRow w.heap.size 72 1 v' ds.length (ds.map uc)→Below w.heap.size w w'→K (a.put o.dst v') w'):
 if Region.wanted o (yielded ops a.tmps)=true then Oper.wp Tryz.prog o a w K Q else E:=by
 have hw:Region.wanted o (yielded ops a.tmps)=true:=by simp [Region.wanted,hgd]
 rw [if_pos hw]
 exact wp_append_dig x ho w A n c ds hx h hs hK
theorem Bk.snd {w:World} {g:Nat} {t:TypeId} {a b:Value} (h:Bk w g t [a,b]):w.cell? ⟨g,1,none⟩=some b:=h.two.2.1
def RGcdAt (G:Nat) (w:World) (Y:Nat) (s t:Value) (wr:World):Prop:=
 ∃X,DigM wr s (digs X)∧DigM wr t (digs Y)∧Nat.gcd X Y=G∧(digs X).length≤137438953472∧(digs Y).length≤137438953472∧Below w.heap.size w wr∧Bk wr (w.heap.size+1+1) 57 [.bool false,.slice none 0 0]
theorem rgcd_any (v1 v2:Value) (a b:RI) (w:World) (h1:IntM w v1 a) (h2:IntM w v2 b) (hs:(digs (val a.ds)).length≤137438953472) (hs2:(digs (val b.ds)).length≤137438953472):
 Calls Tryz.prog 77 #[v1,v2] w fun e w'=>∃v',e= .returned v'∧IntM w' v' (canI (Nat.gcd (val a.ds) (val b.ds):Nat))∧Below w.heap.size w w':=by
 obtain ⟨A,n,c,rfl,hd⟩:=h1.shape
 obtain ⟨A',n',c',rfl,hd'⟩:=h2.shape
 obtain ⟨W,hW,hX,hY,hR,hbe⟩:=box2 w (.bool a.neg) (.slice A n c) (.bool b.neg) (.slice A' n' c')
 have d1:=hd.below hbe
 have d2:=hd'.below hbe
 obtain ⟨G,hG⟩:∃G,G=Nat.gcd (val a.ds) (val b.ds):=⟨_,rfl⟩
 rw [← hG]
 have HG:=Lib.hid hG
 clear hG
 have tok:True:=trivial
 go_enter Tryz.func77,Tryz.ntmps77
 go_wp2_with fail
 clear hW
 go_region_held3 (fun w'=>w'.cell? ⟨w.heap.size,1,none⟩=some (.slice A n c)∧w'.cell? ⟨w.heap.size+1,1,none⟩=some (.slice A' n' c'))
  (first | with_reducible exact ⟨hX.drew.snd,hY.drew.snd⟩ | with_reducible exact ⟨(hX.drew.later hb1).snd,(hY.drew.later hb1).snd⟩ | with_reducible exact ⟨((hX.drew.later hb1).later hb2).snd,((hY.drew.later hb1).later hb2).snd⟩)
  (first
   | (go_at_call 104;have _t:=tok;refine (rtrim_any _ a.ds _ (d1.keep (Keep.drew _))).mono ?_;clear tok _t;rintro e w3 ⟨v3,rfl,e3,rfl⟩;obtain ⟨A3,n3,k3,rfl⟩:=e3.shape)
   | (go_at_call 104;refine (rtrim_any _ b.ds _ ((d2.keep (Keep.drew _)).below hb1)).mono ?_;rintro e w3 ⟨v4,rfl,e4,rfl⟩;obtain ⟨A4,n4,k4,rfl⟩:=e4.shape)
   | (refine step_append_dig rfl (.tmp 15) rfl _ A4 n4 k4 (digs (val b.ds)) rfl e4 (by omega) ?_;intro v2 w2 o2 hb2)
   | (refine step_append_dig rfl (.tmp 11) rfl _ A3 n3 k3 (digs (val a.ds)) rfl e3 (by omega) ?_;intro v1 w1 o1 hb1))
 have dx:=(own_dig o1 (okD_digs _)).below hb2
 have dy:=own_dig o2 (okD_digs _)
 have hR2:=(hR.drew.later hb1).later hb2
 have bb1:=below_then hbe.drew hb1 hbe.size
 have hbe2:=below_then bb1 hb2 bb1.size
 clear o1 o2 bb1 hb1 hb2 e3 e4 d1 d2 hd hd' h1 h2 hX hY hR hbe
 go_wp2
 go_loopg [5,6] (val b.ds) (fun k s t wr=>RGcdAt G w k s t wr)
 case atStart=>exact ⟨_,dx,dy,HG.out.symm,hs,hs2,hbe2,hR2⟩
 case round=>
  obtain ⟨X,dX,dY,hgcd,hsX,hsY,hbe,hR⟩:=hrel
  have HGC:=Lib.hid hgcd
  clear hgcd dx dy hbe2 hR2
  obtain ⟨A3,n3,k3,rfl⟩:=dY.shape
  obtain ⟨kl,kl',knc,kc⟩:=dY.len
  rcases Nat.eq_zero_or_pos n3 with h0 | h0
  ·have hv:gk=0:=len_zero (by omega)
   have HV:=Lib.hid hv
   subst h0
   clear hv kl kl'
   go_wp2_with fail
   refine (make_dig false _ X _ dX (by omega)).mono ?_
   rw [show sm false X=(G:Int) by have:=HGC.out;rw [HV.out,Nat.gcd_zero_right] at this;rw [this];rfl]
   rintro e w3 ⟨v3,rfl,e3,hb3⟩
   obtain ⟨A1,n1,k1,rfl,_⟩:=e3.shape
   have hR3:=hR.later hb3
   obtain ⟨c0,c1,f0,f1⟩:=hR3.two
   go_wp2
   refine ret_cell Tryz.results77 Tryz.underlying57 (by kernel_rfl) rfl (hR3.set2 _ _) rfl ?_
   exact fin_int hR3 e3 (below_then hbe hb3 hbe.size) (by omega)
  ·have hv:gk≠0:=len_pos (by omega)
   have HV:=Lib.hid hv
   clear hv kl kl'
   go_wp2_with fail
   have hc:=rdivDigits_any _ _ (digs X) (digs gk) _ dX dY (by rw [val_digs];exact HV.out) (by rw [val_digs];exact hsX) hsY
   rw [val_digs,val_digs] at hc
   refine hc.mono ?_
   clear hc
   rintro e w3 ⟨v3,v4,rfl,d3,d4,hb3⟩
   have hlt:=Nat.mod_lt X (Nat.pos_of_ne_zero HV.out)
   go_wp2
   go_roundg (X % gk)
   case measure=>exact hlt
   case rel=>exact ⟨gk,dY.below hb3,d4,by rw [← HGC.out,Nat.gcd_comm X gk,Nat.gcd_rec gk X,Nat.gcd_comm],hsY,Nat.le_trans (digs_len_mono (Nat.le_of_lt hlt)) hsY,below_then hbe hb3 hbe.size,hR.later hb3⟩
def DivExPost (z:Int) (w:World) (e:Ending) (w':World):Prop:=∃q r,e= .returned (.tuple #[q,r,.int .i64 0])∧IntM w' q (canI z)∧IntM w' r (canI 0)∧Below w.heap.size w w'
theorem ret_bool {a b:Bool} (h:b=a):Ending.returned (.bool a)= .returned (.bool b):=by rw [h]
namespace Pl
theorem sm_exact {x y:Int} (hy:y≠0) (h:y∣x):sm (decide (x < 0) !=decide (y < 0)) (x.natAbs / y.natAbs)=x / y∧x.natAbs % y.natAbs=0:=by
 obtain ⟨k,rfl⟩:=h
 rw [Int.natAbs_mul,Nat.mul_div_cancel_left _ (by omega),Int.mul_ediv_cancel_left _ hy,Nat.mul_mod_right]
 refine ⟨?_,rfl⟩
 rcases Int.lt_or_gt_of_ne hy with h | h <;> rcases Int.lt_trichotomy k 0 with g | g | g
 ·have:=Int.mul_pos_of_neg_of_neg h g
  rw [decide_eq_false (by omega),decide_eq_true h];simp [sm];omega
 ·subst g;simp [sm]
 ·have:=Int.mul_neg_of_neg_of_pos h g
  rw [decide_eq_true this,decide_eq_true h];simp [sm];omega
 ·have:=Int.mul_neg_of_pos_of_neg h g
  rw [decide_eq_true this,decide_eq_false (by omega)];simp [sm];omega
 ·subst g;simp [sm]
 ·have:=Int.mul_pos h g
  rw [decide_eq_false (by omega),decide_eq_false (by omega)];simp [sm];omega
end Pl
def CanAt4 (x y:Int) (w:World) (wx:World) (A A':Option Addr) (n c n' c':Nat):Prop:=
 CanAt x y w wx A A' n c n' c'∧Bk wx (w.heap.size+1+1) 57 [.bool false,.slice none 0 0]∧Bk wx (w.heap.size+1+1+1) 57 [.bool false,.slice none 0 0]
theorem IntM.zero_len {w:World} {b:Bool} {A:Option Addr} {n c:Nat} (h:IntM w (.agg #[.bool b,.slice A n c]) (canI 0)):n=0:=by
 obtain ⟨d,_⟩:=h.dig
 have:=d.len
 rw [canI_zero] at this
 simp at this
 omega
theorem size_drew (w:World):w.drew.heap.size=w.heap.size:=rfl
theorem ext_alloc {w w':World} (h:Below w.heap.size w w') (o:Obj):Below w.heap.size w (w'.alloc o):=h.alloc h.size o
theorem ext_call {w w1 w2:World} (h:Below w.heap.size w w1) (h2:Below w1.heap.size w1 w2):Below w.heap.size w w2:=below_then h h2 h.size
theorem ext_drew {w w':World} (h:Below w.heap.size w w'):Below w.heap.size w w'.drew:=h.drew
theorem ext_set {w w':World} (h:Below w.heap.size w w') {g:Nat} (hg:w.heap.size≤g) (k:Nat) (u:Value):Below w.heap.size w (w'.setCell ⟨g,k,none⟩ u):=h.setCell hg u
theorem keep_alloc {w w':World} (h:Keep w w') (o:Obj):Keep w (w'.alloc o):=h.trans (Keep.alloc _ _)
theorem keep_call {w w1 w2:World} (h:Keep w w1) (h2:Below w1.heap.size w1 w2):Keep w w2:=h.trans (Keep.of_below h2)
theorem keep_set2 {w w':World} {g:Nat} {t:TypeId} {x y:Value} (h:Keep w w') (hb:Bk w' g t [x,y]) (ht:t≠72) (c d:Value):Keep w ((w'.setCell ⟨g,0,none⟩ c).setCell ⟨g,1,none⟩ d):=h.trans (hb.keep2 ht c d)
theorem size_ss (w:World) (a b:Addr) (u v:Value):w.heap.size=((w.setCell a u).setCell b v).heap.size:=by simp
theorem Bk.made {w:World} {g:Nat} {t:TypeId} {cs:List Value} (h:g=w.heap.size):Bk (w.alloc (.cells cs.toArray t)) g t cs:=by subst h;exact Bk.new w t cs
theorem Bk.on {w w':World} {g:Nat} {t:TypeId} {cs:List Value} (h:Bk w g t cs) (hb:Below w.heap.size w w'):Bk w' g t cs:=h.later hb
theorem rdivMod_exact (v1 v2:Value) (a b:RI) (w:World) (h1:IntM w v1 a) (h2:IntM w v2 b) (hs:(digs (val a.ds)).length≤137438953472) (hs2:(digs (val b.ds)).length≤137438953472) (hz:b.z≠0) (hdv:b.z∣a.z):
 Calls Tryz.prog 78 #[v1,v2] w (DivExPost (a.z / b.z) w):=by
 obtain ⟨A,n,c,rfl,hd⟩:=h1.shape
 obtain ⟨A',n',c',rfl,hd'⟩:=h2.shape
 obtain ⟨W,hW,hX,hY,hR,hR',hbe⟩:=boxes4 w (.bool a.neg) (.slice A n c) (.bool b.neg) (.slice A' n' c')
 have i1:=h1.below hbe
 have i2:=h2.below hbe
 have hn1:w.heap.size≠w.heap.size+1:=by omega
 have hn2:w.heap.size+1+1≠w.heap.size:=by omega
 have hn3:w.heap.size+1+1≠w.heap.size+1:=by omega
 have hn4:w.heap.size+1+1+1≠w.heap.size:=by omega
 have hn5:w.heap.size+1+1+1≠w.heap.size+1:=by omega
 have tok:True:=trivial
 have HS:=Lib.hid (sm_exact hz hdv)
 have HNZ:=Lib.hid hz
 have la:(digs a.z.natAbs).length≤137438953472:=by rw [z_natAbs];exact hs
 have lb:(digs b.z.natAbs).length≤137438953472:=by rw [z_natAbs];exact hs2
 obtain ⟨x0,x1,f0,f1⟩:=hX.two
 obtain ⟨y0,y1,k0,k1⟩:=hY.two
 clear hz hdv
 go_enter Tryz.func78,Tryz.ntmps78
 go_wp2_with fail
 clear hW
 go_upto_region 1 with (fail)
 go_cut [] (fun wx=>∃(A A':Option Addr) (n c n' c':Nat),CanAt4 a.z b.z w wx A A' n c n' c')
 case first=>
  go_region_with (first
   | (go_at_call 79;have _t:=tok;refine (canonI_any _ a _ (i1.keep (Keep.drew _)) (by omega)).mono ?_;clear tok _t;rintro e w6 ⟨v6,rfl,e6,hb6⟩;obtain ⟨A6,n6,k6,rfl,_⟩:=e6.shape;obtain ⟨y0',y1',_,_⟩:=(hY.drew.later hb6).two)
   | (go_at_call 79;refine (canonI_any _ b _ ((i2.keep (Keep.drew _)).below hb6) (by omega)).mono ?_;rintro e w7 ⟨v7,rfl,e7,hb7⟩;obtain ⟨A7,n7,k7,rfl,_⟩:=e7.shape;obtain ⟨c0,c1,r0,r1⟩:=((hX.drew.later hb6).later hb7).two;obtain ⟨c0',c1',r0',r1'⟩:=((hY.drew.later hb6).later hb7).two))
  all_goals
   go_wp2_with fail
   go_meet
   obtain ⟨a1,a2,a3,a4,a5⟩:=fin_div ((hX.drew.later hb6).later hb7) ((hY.drew.later hb6).later hb7) hn1 (e6.below hb7) e7 (below_then (below_then hbe.drew hb6 hbe.size) hb7 (Nat.le_trans hbe.size hb6.size)) (by omega) (by omega)
   exact ⟨A6,A7,n6,k6,n7,k7,⟨a1,a2,a3.dig.1,a4.dig.1,a5⟩,(((hR.drew.later hb6).later hb7).far2 hn2 _ _).far2 hn3 _ _,(((hR'.drew.later hb6).later hb7).far2 hn4 _ _).far2 hn5 _ _⟩
 case rest=>
  obtain ⟨B,B',m,d,m',d',⟨bX,bY,dX,dY,be⟩,bR,bR'⟩:=hcut
  clear x0 x1 f0 f1 y0 y1 k0 k1 hX hY hbe i1 i2 h1 h2 hd hd' hR hR' hs hs2
  obtain ⟨x0,x1,_,_⟩:=bX.two
  obtain ⟨y0,y1,_,_⟩:=bY.two
  obtain ⟨kl,kl',knc,kc⟩:=dY.len
  have hm0:0 < m':=by
   have:=digs_len_pos (n:=b.z.natAbs) (by have:=HNZ.out;omega)
   omega
  have hmb:((m':Int)==0)=false:=by simp;omega
  clear kl kl' knc kc
  go_wp2_with fail
  have hc:=rdivDigits_any _ _ _ _ _ dX dY (by rw [val_digs];have:=HNZ.out;omega) (by rw [val_digs];exact la) lb
  rw [val_digs,val_digs] at hc
  refine hc.mono ?_
  clear hc
  rintro e w3 ⟨v3,v4,rfl,d3,d4,hb3⟩
  rw [HS.out.2] at d4
  have bX3:=bX.later hb3
  have bY3:=bY.later hb3
  have bR3:=bR.later hb3
  have bR3':=bR'.later hb3
  have be3:=below_then be hb3 be.size
  have lq:(digs (a.z.natAbs / b.z.natAbs)).length≤549755813888:=Nat.le_trans (digs_len_mono (Nat.div_le_self _ _)) (by omega)
  have l0:(digs 0).length≤549755813888:=by rw [digs_zero];decide
  clear bX bY bR bR' be dX dY hb3 x0 x1 y0 y1 hmb
  go_wp2_with fail
  go_upto_region 5 with (fail)
  go_cut [9,10] (fun s9 s10 wx=>∃(g9 g10:Nat) (A6 A7:Option Addr) (n6 k6 n7 k7:Nat) (nb nb':Bool),s9= .pointer (some ⟨g9,0,none⟩)∧s10= .pointer (some ⟨g10,0,none⟩)∧Bk wx g9 57 [.bool nb,.slice A6 n6 k6]∧Bk wx g10 57 [.bool nb',.slice A7 n7 k7]∧IntM wx (.agg #[.bool nb,.slice A6 n6 k6]) (canI (a.z / b.z))∧IntM wx (.agg #[.bool nb',.slice A7 n7 k7]) (canI 0)∧Below w3.heap.size w3 wx∧w3.heap.size≤g9∧w3.heap.size≤g10)
  case first=>
   go_region_held3 (fun w'=>w'.cell? ⟨w.heap.size,0,none⟩=some (.bool (decide (a.z < 0)))∧w'.cell? ⟨w.heap.size+1,0,none⟩=some (.bool (decide (b.z < 0))))
    (exact ⟨(bX3.later (by (repeat (first | (with_reducible exact Below.refl _ _) | (with_reducible refine ext_alloc ?_ _) | (with_reducible refine ext_drew ?_) | (with_reducible refine ext_call ?_ hb7) | (with_reducible refine ext_call ?_ hb6) | (with_reducible refine ext_set ?_ (by first | omega | (simp;omega)) _ _))))).two.1,(bY3.later (by (repeat (first | (with_reducible exact Below.refl _ _) | (with_reducible refine ext_alloc ?_ _) | (with_reducible refine ext_drew ?_) | (with_reducible refine ext_call ?_ hb7) | (with_reducible refine ext_call ?_ hb6) | (with_reducible refine ext_set ?_ (by first | omega | (simp;omega)) _ _))))).two.1⟩)
    (first
     | (go_at_call 80;have _t:=tok;refine (make_dig _ _ _ _ (d3.below (by (repeat (first | (with_reducible exact Below.refl _ _) | (with_reducible refine ext_alloc ?_ _) | (with_reducible refine ext_drew ?_) | (with_reducible refine ext_call ?_ hb7) | (with_reducible refine ext_call ?_ hb6))))) lq).mono ?_;clear tok _t;rintro e w6 ⟨v6,rfl,e6,hb6⟩;obtain ⟨A6,n6,k6,rfl,_⟩:=e6.shape;have s6:w3.heap.size≤w6.heap.size:=(by have:=hb6.size;first | exact this | omega | (simp at this;omega));(try ((first | (with_reducible have bA:=Bk.on (Bk.made (cs:=[.bool false,.slice none 0 0]) rfl) hb6) | (with_reducible have bA:=Bk.on (Bk.drew (Bk.made (cs:=[.bool false,.slice none 0 0]) rfl)) hb6));obtain ⟨za0,za1,za2,za3⟩:=bA.two;have zal:=bA.lt;(try simp only [size_alloc,size_drew] at za0 za1 za2 za3 zal)));(try ((first | (with_reducible have bB:=Bk.on (Bk.alloc (Bk.made (cs:=[.bool false,.slice none 0 0]) rfl) _) hb6) | (with_reducible have bB:=Bk.on (Bk.drew (Bk.alloc (Bk.made (cs:=[.bool false,.slice none 0 0]) rfl) _)) hb6));obtain ⟨zb0,zb1,zb2,zb3⟩:=bB.two;have zbl:=bB.lt;(try simp only [size_alloc,size_drew] at zb0 zb1 zb2 zb3 zbl))))
     | (go_at_call 80;refine (make_dig _ _ _ _ (d4.below (by (repeat (first | (with_reducible exact Below.refl _ _) | (with_reducible refine ext_alloc ?_ _) | (with_reducible refine ext_drew ?_) | (with_reducible refine ext_call ?_ hb7) | (with_reducible refine ext_call ?_ hb6))))) l0).mono ?_;rw [sm_zero];rintro e w7 ⟨v7,rfl,e7,hb7⟩;obtain ⟨A7,n7,k7,rfl,_⟩:=e7.shape;have s7:w6.heap.size≤w7.heap.size:=(by have:=hb7.size;first | exact this | omega | (simp at this;omega));(try ((with_reducible have bC:=Bk.on (Bk.made (cs:=[.bool false,.slice none 0 0]) rfl) hb7);obtain ⟨zc0,zc1,zc2,zc3⟩:=bC.two;have zcl:=bC.lt;(try simp only [size_alloc,size_drew] at zc0 zc1 zc2 zc3 zcl)));(try ((with_reducible have bD:=Bk.on (Bk.alloc (Bk.made (cs:=[.bool false,.slice none 0 0]) rfl) _) hb7);obtain ⟨zd0,zd1,zd2,zd3⟩:=bD.two;have zdl:=bD.lt;(try simp only [size_alloc,size_drew] at zd0 zd1 zd2 zd3 zdl)));(try (have bE:=bA.on (show Below w6.heap.size w6 w7 from by (repeat (first | (with_reducible exact Below.refl _ _) | (with_reducible refine ext_alloc ?_ _) | (with_reducible refine ext_drew ?_) | (with_reducible refine ext_call ?_ hb7) | (with_reducible refine ext_call ?_ hb6))));obtain ⟨ze0,ze1,ze2,ze3⟩:=bE.two;have zel:=bE.lt;(try simp only [size_alloc,size_drew] at ze0 ze1 ze2 ze3 zel)));(try (have bF:=bB.on (show Below w6.heap.size w6 w7 from by (repeat (first | (with_reducible exact Below.refl _ _) | (with_reducible refine ext_alloc ?_ _) | (with_reducible refine ext_drew ?_) | (with_reducible refine ext_call ?_ hb7) | (with_reducible refine ext_call ?_ hb6))));obtain ⟨zf0,zf1,zf2,zf3⟩:=bF.two;have zfl:=bF.lt;(try simp only [size_alloc,size_drew] at zf0 zf1 zf2 zf3 zfl)))))
   all_goals
    go_wp2_with fail
    go_meet
    have hq:canI (a.z / b.z)=canI (sm (!decide (a.z < 0)==decide (b.z < 0)) (a.z.natAbs / b.z.natAbs)):=by rw [← HS.out.1];rfl
    rw [hq]
    clear hq
    refine ⟨_,_,A6,A7,n6,k6,n7,k7,_,_,rfl,rfl,?_,?_,e6.keep ?_,e7.keep ?_,?_,by omega,by omega⟩
    ·(repeat (first | (with_reducible exact Bk.made rfl) | (with_reducible exact Bk.made (size_alloc _ _).symm) | (with_reducible exact Bk.made (size_ss _ _ _ _ _)) | (with_reducible refine Bk.set2 (a:= .bool false) (b:= .slice none 0 0) ?_ _ _) | (with_reducible refine Bk.far2 ?_ (by first | omega | (simp;omega)) _ _) | (with_reducible refine Bk.alloc ?_ _) | (with_reducible refine Bk.drew ?_) | (with_reducible refine Bk.on ?_ hb7) | (with_reducible refine Bk.on ?_ hb6)))
    ·(repeat (first | (with_reducible exact Bk.made rfl) | (with_reducible exact Bk.made (size_alloc _ _).symm) | (with_reducible exact Bk.made (size_ss _ _ _ _ _)) | (with_reducible refine Bk.set2 (a:= .bool false) (b:= .slice none 0 0) ?_ _ _) | (with_reducible refine Bk.far2 ?_ (by first | omega | (simp;omega)) _ _) | (with_reducible refine Bk.alloc ?_ _) | (with_reducible refine Bk.drew ?_) | (with_reducible refine Bk.on ?_ hb7) | (with_reducible refine Bk.on ?_ hb6)))
    ·(repeat (first | (with_reducible exact Keep.refl _) | (with_reducible refine keep_alloc ?_ _) | (with_reducible refine keep_call ?_ hb7) | with_reducible refine keep_set2 (t:=57) (x:= .bool false) (y:= .slice none 0 0) ?_ (by (repeat (first | (with_reducible exact Bk.made rfl) | (with_reducible exact Bk.made (size_alloc _ _).symm) | (with_reducible exact Bk.made (size_ss _ _ _ _ _)) | (with_reducible refine Bk.set2 (a:= .bool false) (b:= .slice none 0 0) ?_ _ _) | (with_reducible refine Bk.far2 ?_ (by first | omega | (simp;omega)) _ _) | (with_reducible refine Bk.alloc ?_ _) | (with_reducible refine Bk.drew ?_) | (with_reducible refine Bk.on ?_ hb7) | (with_reducible refine Bk.on ?_ hb6)))) (by decide) _ _))
    ·(repeat (first | (with_reducible exact Keep.refl _) | (with_reducible refine keep_alloc ?_ _) | (with_reducible refine keep_call ?_ hb7) | with_reducible refine keep_set2 (t:=57) (x:= .bool false) (y:= .slice none 0 0) ?_ (by (repeat (first | (with_reducible exact Bk.made rfl) | (with_reducible exact Bk.made (size_alloc _ _).symm) | (with_reducible exact Bk.made (size_ss _ _ _ _ _)) | (with_reducible refine Bk.set2 (a:= .bool false) (b:= .slice none 0 0) ?_ _ _) | (with_reducible refine Bk.far2 ?_ (by first | omega | (simp;omega)) _ _) | (with_reducible refine Bk.alloc ?_ _) | (with_reducible refine Bk.drew ?_) | (with_reducible refine Bk.on ?_ hb7) | (with_reducible refine Bk.on ?_ hb6)))) (by decide) _ _))
    ·(repeat (first | (with_reducible exact Below.refl _ _) | (with_reducible refine ext_alloc ?_ _) | (with_reducible refine ext_drew ?_) | (with_reducible refine ext_call ?_ hb7) | (with_reducible refine ext_call ?_ hb6) | (with_reducible refine ext_set ?_ (by first | omega | (simp;omega)) _ _)))
  case rest=>
   obtain ⟨g9,g10,A6,A7,n6,k6,n7,k7,nb,nb',rfl,rfl,bQ,bE,iQ,iE,hb6,hg9,hg10⟩:=hcut
   have hlt:=bR3'.lt
   have hn7:=iE.zero_len
   subst hn7
   have bX4:=bX3.later hb6
   have bY4:=bY3.later hb6
   have bR4:=bR3.later hb6
   have bR4':=bR3'.later hb6
   have be4:=below_then be3 hb6 be3.size
   clear bX3 bY3 bR3 bR3' be3 hb6 d3 d4 HS
   obtain ⟨q0,q1,_,_⟩:=bQ.two
   obtain ⟨r0,r1,_,_⟩:=bE.two
   obtain ⟨c0,c1,f0,f1⟩:=bR4.two
   obtain ⟨c0',c1',f0',f1'⟩:=bR4'.two
   have hq1:w.heap.size+1+1≠g9:=by omega
   have hq2:w.heap.size+1+1≠g10:=by omega
   have hq3:w.heap.size+1+1+1≠g9:=by omega
   have hq4:w.heap.size+1+1+1≠g10:=by omega
   have hq5:w.heap.size+1+1≠w.heap.size+1+1+1:=by omega
   clear hlt hg9 hg10
   go_wp2
   go_region_held3 (fun w'=>(w'.cell? ⟨g9,0,none⟩=some (.bool nb)∧w'.cell? ⟨g9,1,none⟩=some (.slice A6 n6 k6))∧(w'.cell? ⟨g10,0,none⟩=some (.bool nb')∧w'.cell? ⟨g10,1,none⟩=some (.slice A7 0 k7)))
    (first | with_reducible exact ⟨bQ.drew.pair,bE.drew.pair⟩ | with_reducible exact ⟨(bQ.far2 (Ne.symm hq1) _ _).drew.pair,(bE.far2 (Ne.symm hq2) _ _).drew.pair⟩ | with_reducible exact ⟨((bQ.far2 (Ne.symm hq1) _ _).far2 (Ne.symm hq3) _ _).drew.pair,((bE.far2 (Ne.symm hq2) _ _).far2 (Ne.symm hq4) _ _).drew.pair⟩)
    (fail)
   go_wp2
   obtain ⟨a1,a2,a3,a4,a5⟩:=fin_div bR4.drew bR4'.drew hq5 (iQ.keep (Keep.drew _)) (iE.keep (Keep.drew _)) be4.drew (by omega) (by omega)
   refine ret_cct Tryz.results78 Tryz.underlying57 Tryz.underlying57 (by kernel_rfl) (by kernel_rfl) rfl rfl a1 a2 rfl ?_
   exact ⟨_,_,rfl,a3,a4,a5⟩
def FracO (base:Nat) (w:World) (v:Value) (f:RF):Prop:=FracM w v f∧∃b s b' s',v= .agg #[b,s,b',s']∧w.ownsRow base 72 1 s f.num.ds.length (f.num.ds.map uc)
theorem FracO.keep {base:Nat} {w w':World} {v:Value} {f:RF} (h:FracO base w v f) (hk:Keep w w'):FracO base w' v f:=by
 obtain ⟨h0,b,s,b',s',h1,h2⟩:=h
 exact ⟨h0.keep hk,b,s,b',s',h1,own_keep h2 hk⟩
theorem FracO.below {base:Nat} {w w':World} {v:Value} {f:RF} (h:FracO base w v f) (hb:Below w.heap.size w w'):FracO base w' v f:=h.keep (Keep.of_below hb)
theorem FracO.mono {base base':Nat} {w:World} {v:Value} {f:RF} (h:FracO base w v f) (hb:base'≤base):FracO base' w v f:=by
 obtain ⟨h0,b,s,b',s',h1,h2⟩:=h
 exact ⟨h0,b,s,b',s',h1,own_mono h2 hb⟩
theorem FracO.mk {base:Nat} {w:World} {b b' s s':Value} {x y:RI} (h1:IntO base w (.agg #[b,s]) x) (h2:IntM w (.agg #[b',s']) y):FracO base w (.agg #[b,s,b',s']) ⟨x,y⟩:=by
 obtain ⟨A,n,c,e,d⟩:=h1.int.shape
 obtain ⟨A',n',c',e',d'⟩:=h2.shape
 simp at e e'
 obtain ⟨rfl,rfl⟩:=e
 obtain ⟨rfl,rfl⟩:=e'
 obtain ⟨t,e,o,_⟩:=h1
 simp at e
 subst e
 exact ⟨⟨_,_,_,_,_,_,rfl,d,d'⟩,_,_,_,_,rfl,o⟩
theorem fin_fracO {w w2:World} {base m g:Nat} {x y z u b s b' s':Value} {a:RF} (hR:Bk w2 g 59 [x,y,z,u]) (d:FracO base w2 (.agg #[b,s,b',s']) a) (hbe:Below m w w2) (hg:m≤g):
 ∃v',Ending.returned (.agg [b,s,b',s'].toArray)= .returned v'∧FracO base ((((w2.setCell ⟨g,0,none⟩ b).setCell ⟨g,1,none⟩ s).setCell ⟨g,2,none⟩ b').setCell ⟨g,3,none⟩ s') v' a∧Below m w ((((w2.setCell ⟨g,0,none⟩ b).setCell ⟨g,1,none⟩ s).setCell ⟨g,2,none⟩ b').setCell ⟨g,3,none⟩ s'):=
 ⟨_,rfl,d.keep (hR.keep4 (by decide) _ _ _ _),below_set4 hbe hg _ _ _ _⟩
namespace Pl
theorem canF_zero:canF 0=⟨canI 0,canI 1⟩:=by
 unfold canF
 rfl
theorem gcd_z (x y:RI):Nat.gcd (val x.ds) (val y.ds)=Int.gcd x.z y.z:=by
 unfold Int.gcd
 rw [z_natAbs,z_natAbs]
end Pl
def NewAt (a b:RI) (w:World) (x y:RI) (wx:World) (B B':Option Addr) (m d m' d':Nat):Prop:=
 Bk wx w.heap.size 57 [.bool x.neg,.slice B m d]∧Bk wx (w.heap.size+1) 57 [.bool y.neg,.slice B' m' d']∧Bk wx (w.heap.size+1+1) 59 [.bool false,.slice none 0 0,.bool false,.slice none 0 0]∧Below w.heap.size w wx∧
 IntM wx (.agg #[.bool x.neg,.slice B m d]) x∧IntM wx (.agg #[.bool y.neg,.slice B' m' d']) y∧0 < y.z∧Rat.divInt x.z y.z=Rat.divInt a.z b.z∧(digs (val x.ds)).length≤137438953472∧(digs (val y.ds)).length≤137438953472
theorem rnew_own (v1 v2:Value) (a b:RI) (w:World) (h1:IntM w v1 a) (h2:IntM w v2 b) (hs:(digs (val a.ds)).length≤137438953472) (hs2:(digs (val b.ds)).length≤137438953472):
 Calls Tryz.prog 52 #[v1,v2] w fun e w'=>∃v',e= .returned v'∧FracO w.heap.size w' v' (canF (Rat.divInt a.z b.z))∧Below w.heap.size w w':=by
 obtain ⟨A,n,c,rfl,hd⟩:=h1.shape
 obtain ⟨A',n',c',rfl,hd'⟩:=h2.shape
 obtain ⟨W,hW,hX,hX',hR,hbe⟩:=boxR w (.bool a.neg) (.slice A n c) (.bool b.neg) (.slice A' n' c')
 have e1:=h1.below hbe
 have e2:=h2.below hbe
 clear hd hd' h1 h2
 go_enter Tryz.func52,Tryz.ntmps52
 go_wp2_with fail
 clear hW
 refine (rfromInt64_any 1 _ (by omega) (by omega)).mono ?_
 rintro e w0 ⟨v0,rfl,iO,hb0⟩
 obtain ⟨A0,n0,k0,rfl,_⟩:=iO.shape
 have bO:=Bk.new w0 57 [.bool (canI 1).neg,.slice A0 n0 k0]
 have bn:=below_new w0 (.cells [.bool (canI 1).neg,.slice A0 n0 k0].toArray 57)
 have hb0':=below_then hb0 bn hb0.size
 have hX0:=hX.later hb0'
 have hX0':=hX'.later hb0'
 have hR0:=hR.later hb0'
 have hbe0:=below_then hbe hb0' hbe.size
 have e10:=e1.below hb0'
 have e20:=e2.below hb0'
 have iO0:=iO.below bn
 obtain ⟨y0,y1,_,_⟩:=hX0'.two
 clear hX hX' hR hbe e1 e2 hb0 hb0' bn iO
 generalize hO1:canI 1=ONE at *
 have HONE:=Lib.hid hO1
 clear hO1
 go_wp2_with fail
 generalize w0.alloc _=W0 at *
 refine (rsign_any _ b _ e20 (by omega)).mono ?_
 rintro e w1 ⟨rfl,hb1⟩
 have hX1:=hX0.later hb1
 have hX1':=hX0'.later hb1
 have hR1:=hR0.later hb1
 have bO1:=bO.later hb1
 have iO1:=iO0.below hb1
 have hbe1:=below_then hbe0 hb1 hbe0.size
 have e11:=e10.below hb1
 have e21:=e20.below hb1
 clear hX0 hX0' hR0 hbe0 e10 e20 hb1 y0 y1 bO iO0
 have zero_end:∀(W:World),Bk W (w.heap.size+1+1) 59 [.bool false,.slice none 0 0,.bool false,.slice none 0 0]→IntM W (.agg #[.bool ONE.neg,.slice A0 n0 k0]) ONE→Below w.heap.size w W→Rat.divInt a.z b.z=0→
  ∃v',Ending.returned (.agg [.bool false,.slice none 0 0,.bool ONE.neg,.slice A0 n0 k0].toArray)= .returned v'∧FracO w.heap.size ((((W.setCell ⟨w.heap.size+1+1,0,none⟩ (.bool false)).setCell ⟨w.heap.size+1+1,1,none⟩ (.slice none 0 0)).setCell ⟨w.heap.size+1+1,2,none⟩ (.bool ONE.neg)).setCell ⟨w.heap.size+1+1,3,none⟩ (.slice A0 n0 k0)) v' (canF (Rat.divInt a.z b.z))∧Below w.heap.size w ((((W.setCell ⟨w.heap.size+1+1,0,none⟩ (.bool false)).setCell ⟨w.heap.size+1+1,1,none⟩ (.slice none 0 0)).setCell ⟨w.heap.size+1+1,2,none⟩ (.bool ONE.neg)).setCell ⟨w.heap.size+1+1,3,none⟩ (.slice A0 n0 k0)):=by
  intro W hR hI hb hz
  refine fin_fracO hR ?_ hb (by omega)
  rw [hz,canF_zero,HONE.out]
  exact FracO.mk (IntO.zero _ _) hI
 have HZE:=Lib.hid zero_end
 clear zero_end
 by_cases hbz:b.z=0
 ·have hsb:sgn b.z=0:=by rw [hbz,sgn_zero]
  have HZ:Hid (Rat.divInt a.z b.z=0):=Lib.hid (by rw [hbz,Rat.divInt_zero])
  clear hbz
  obtain ⟨o0,o1,_,_⟩:=bO1.two
  obtain ⟨c0,c1,c2,c3⟩:=hR1.four
  obtain ⟨f0,f1,f2,f3⟩:=hR1.fourF
  go_wp2
  refine ret_cell Tryz.results52 Tryz.underlying59 (by kernel_rfl) rfl (hR1.set4 _ _ _ _) rfl ?_
  exact HZE.out _ hR1 iO1 hbe1 HZ.out
 ·have hsb:(sgn b.z==0)=false:=by unfold sgn;split;rfl;rfl
  have HB:=Lib.hid hbz
  clear hbz
  obtain ⟨x0,x1,_,_⟩:=hX1.two
  go_wp2_with fail
  refine (rsign_any _ a _ e11 (by omega)).mono ?_
  rintro e w2 ⟨rfl,hb2⟩
  have hX2:=hX1.later hb2
  have hX2':=hX1'.later hb2
  have hR2:=hR1.later hb2
  have bO2:=bO1.later hb2
  have iO2:=iO1.below hb2
  have hbe2:=below_then hbe1 hb2 hbe1.size
  have e12:=e11.below hb2
  have e22:=e21.below hb2
  clear hX1 hX1' hR1 hbe1 e11 e21 hb2 bO1 iO1 x0 x1
  by_cases haz:a.z=0
  ·have hsa:sgn a.z=0:=by rw [haz,sgn_zero]
   have HZ:Hid (Rat.divInt a.z b.z=0):=Lib.hid (by rw [haz,Rat.zero_divInt])
   clear haz
   obtain ⟨o0,o1,_,_⟩:=bO2.two
   obtain ⟨c0,c1,c2,c3⟩:=hR2.four
   obtain ⟨f0,f1,f2,f3⟩:=hR2.fourF
   go_wp2
   refine ret_cell Tryz.results52 Tryz.underlying59 (by kernel_rfl) rfl (hR2.set4 _ _ _ _) rfl ?_
   exact HZE.out _ hR2 iO2 hbe2 HZ.out
  ·have hsa:(sgn a.z==0)=false:=by unfold sgn;split;rfl;rfl
   have HA:=Lib.hid haz
   clear haz bO2 iO2 HZE HONE
   obtain ⟨y0,y1,_,_⟩:=hX2'.two
   go_wp2_with fail
   refine (rsign_any _ b _ e22 (by omega)).mono ?_
   rintro e w3 ⟨rfl,hb3⟩
   have hX3:=hX2.later hb3
   have hX3':=hX2'.later hb3
   have hR3:=hR2.later hb3
   have hbe3:=below_then hbe2 hb3 hbe2.size
   have e13:=e12.below hb3
   have e23:=e22.below hb3
   clear hX2 hX2' hR2 hbe2 e12 e22 hb3 y0 y1 hsb hsa
   have tok:True:=trivial
   go_upto_if 26 with (fail)
   go_cut [2,3] (fun s2 s3 wx=>s2= .pointer (some ⟨w.heap.size,0,none⟩)∧s3= .pointer (some ⟨w.heap.size+1,0,none⟩)∧∃(x y:RI) (B B':Option Addr) (m d m' d':Nat),NewAt a b w x y wx B B' m d m' d')
   case first=>
    rcases Int.lt_or_le b.z 0 with hz | hz
    ·have HN:=Lib.hid hz
     have hsg:sgn b.z= -1:=sgn_neg hz
     have hn1:w.heap.size≠w.heap.size+1:=by omega
     have hn2:w.heap.size+1+1≠w.heap.size:=by omega
     have hn3:w.heap.size+1+1≠w.heap.size+1:=by omega
     clear hz
     obtain ⟨x0,x1,f0,f1⟩:=hX3.two
     obtain ⟨y0,y1,k0,k1⟩:=hX3'.two
     go_wp2_with fail
     clear hsg
     go_region_with (first
      | (go_at_call 76;have _t:=tok;refine (rnegate_any _ a _ (e13.keep (Keep.drew _)) (by omega)).mono ?_;clear tok _t;rintro e w6 ⟨v6,rfl,e6,hb6⟩;obtain ⟨A6,n6,k6,rfl,_⟩:=e6.shape;obtain ⟨y0',y1',_,_⟩:=(hX3'.drew.later hb6).two)
      | (go_at_call 76;refine (rnegate_any _ b _ ((e23.keep (Keep.drew _)).below hb6) (by omega)).mono ?_;rintro e w7 ⟨v7,rfl,e7,hb7⟩;obtain ⟨A7,n7,k7,rfl,_⟩:=e7.shape;obtain ⟨c0,c1,r0,r1⟩:=((hX3.drew.later hb6).later hb7).two;obtain ⟨c0',c1',r0',r1'⟩:=((hX3'.drew.later hb6).later hb7).two))
     all_goals
      go_wp2_with fail
      go_meet
      obtain ⟨a1,a2,a3,a4,a5⟩:=fin_div ((hX3.drew.later hb6).later hb7) ((hX3'.drew.later hb6).later hb7) hn1 (e6.below hb7) e7 (below_then (below_then hbe3.drew hb6 hbe3.size) hb7 (Nat.le_trans hbe3.size hb6.size)) (by omega) (by omega)
      refine ⟨rfl,rfl,_,_,A6,A7,n6,k6,n7,k7,a1,a2,((((hR3.drew.later hb6).later hb7).far2 hn2 _ _).far2 hn3 _ _),a5,a3,a4,?_,?_,?_,?_⟩
      ·rw [canI_z];have:=HN.out;omega
      ·rw [canI_z,canI_z,Rat.neg_divInt_neg]
      ·simp only [canI,val_digs,Int.natAbs_neg,z_natAbs];exact hs
      ·simp only [canI,val_digs,Int.natAbs_neg,z_natAbs];exact hs2
    ·have hz':0 < b.z:=by have:=HB.out;omega
     have hsg:sgn b.z=1:=sgn_pos hz'
     have HZ:=Lib.hid hz'
     clear hz hz'
     go_wp2_with fail
     go_meet
     exact ⟨rfl,rfl,a,b,A,A',n,c,n',c',hX3,hX3',hR3,hbe3,e13,e23,HZ.out,rfl,hs,hs2⟩
   case rest=>
    obtain ⟨rfl,rfl,x,y,B,B',m,d,m',d',hX4,hX4',hR4,hbe4,e14,e24,hy,hxy,hl1,hl2⟩:=hcut
    have HZ:=Lib.hid hy
    have HXY:=Lib.hid hxy
    clear hy hxy hX3 hX3' hR3 hbe3 e13 e23 hs hs2 tok
    obtain ⟨x0,x1,_,_⟩:=hX4.two
    obtain ⟨y0,y1,_,_⟩:=hX4'.two
    go_wp2_with fail
    refine (rgcd_any _ _ x y _ e14 e24 hl1 hl2).mono ?_
    rw [gcd_z]
    rintro e w6 ⟨v6,rfl,e6,hb6⟩
    obtain ⟨A6,n6,k6,rfl,_⟩:=e6.shape
    have bX:=hX4.later hb6
    have bY:=hX4'.later hb6
    have bR:=hR4.later hb6
    have be6:=below_then hbe4 hb6 hbe4.size
    have i1:=e14.below hb6
    have i2:=e24.below hb6
    clear hX4 hX4' hR4 hbe4 e14 e24 hb6 x0 x1 y0 y1
    have gz:(canI (Int.gcd (RI.z x) (RI.z y):Nat)).z=(Int.gcd (RI.z x) (RI.z y):Nat):=canI_z _
    have gs:(digs (val (canI (Int.gcd (RI.z x) (RI.z y):Nat)).ds)).length≤137438953472:=by
     rw [show val (canI (Int.gcd (RI.z x) (RI.z y):Nat)).ds=Int.gcd (RI.z x) (RI.z y) from by simp [canI,val_digs]]
     refine Nat.le_trans (digs_len_mono (Nat.le_of_dvd ?_ (show Int.gcd (RI.z x) (RI.z y)∣val (RI.ds y) from by rw [← z_natAbs];exact Int.gcd_dvd_natAbs_right ..))) hl2
     have:=HZ.out
     have:=z_natAbs y
     omega
    generalize canI (Int.gcd (RI.z x) (RI.z y):Nat)=G at *
    have GZ:=Lib.hid gz
    clear gz
    have hG0:G.z≠0:=by
     rw [GZ.out]
     have:=Int.gcd_pos_of_ne_zero_right (RI.z x) (show RI.z y≠0 by have:=HZ.out;omega)
     omega
    have HG0:=Lib.hid hG0
    clear hG0
    have bG:=Bk.new w6 57 [.bool G.neg,.slice A6 n6 k6]
    have bn:=below_new w6 (.cells [.bool G.neg,.slice A6 n6 k6].toArray 57)
    have cX:=bX.later bn
    have cY:=bY.later bn
    have cR:=bR.later bn
    have be7:=below_then be6 bn be6.size
    have j1:=i1.below bn
    have j2:=i2.below bn
    have j3:=e6.below bn
    obtain ⟨x0,x1,_,_⟩:=cX.two
    obtain ⟨y0,y1,_,_⟩:=cY.two
    obtain ⟨g0,g1,_,_⟩:=bG.two
    clear bX bY bR be6 i1 i2 e6 bn
    go_wp2_with fail
    generalize w6.alloc _=W7 at *
    refine (rdivMod_exact _ _ x G _ j1 j3 hl1 gs HG0.out (by rw [GZ.out];exact Int.gcd_dvd_left ..)).mono ?_
    rintro e w8 ⟨q,r,rfl,dq,dr,hb8⟩
    obtain ⟨A8,n8,k8,rfl,_⟩:=dq.shape
    obtain ⟨A9,n9,k9,rfl,_⟩:=dr.shape
    have bX:=cX.later hb8
    have bY:=cY.later hb8
    have bR:=cR.later hb8
    have bG8:=bG.later hb8
    have be8:=below_then be7 hb8 be7.size
    have i2:=j2.below hb8
    have i3:=j3.below hb8
    clear cX cY cR be7 j1 j2 j3 bG hb8 x0 x1 y0 y1 g0 g1
    have ls1:(digs (val (canI (RI.z x / G.z)).ds)).length≤137438953472:=by
     rw [val_canI]
     refine Nat.le_trans (digs_len_mono (Int.natAbs_ediv_le_natAbs ..)) ?_
     rw [z_natAbs];exact hl1
    generalize canI 0=R1 at *
    generalize hQ1:canI ((RI.z x) / G.z)=Q1 at *
    have HQ1:=Lib.hid hQ1
    clear hQ1
    have bQ:=(Bk.new w8 57 [.bool Q1.neg,.slice A8 n8 k8]).alloc (.cells #[.bool R1.neg,.slice A9 n9 k9] 57)
    have bn:=(below_new w8 (.cells [.bool Q1.neg,.slice A8 n8 k8].toArray 57)).alloc (by simp) (.cells #[.bool R1.neg,.slice A9 n9 k9] 57)
    have cX:=bX.later bn
    have cY:=bY.later bn
    have cR:=bR.later bn
    have cG:=bG8.later bn
    have be9:=below_then be8 bn be8.size
    have j2:=i2.below bn
    have j3:=i3.below bn
    have j4:=dq.below bn
    obtain ⟨y0,y1,_,_⟩:=cY.two
    obtain ⟨g0,g1,_,_⟩:=cG.two
    obtain ⟨q0,q1,_,_⟩:=bQ.two
    clear bX bY bR bG8 be8 i2 i3 dq dr bn
    go_wp2_with fail
    generalize (w8.alloc _).alloc _=W9 at *
    refine (rdivMod_exact _ _ y G _ j2 j3 hl2 gs HG0.out (by rw [GZ.out];exact Int.gcd_dvd_right ..)).mono ?_
    rintro e w10 ⟨q',r',rfl,dq,dr,hb10⟩
    obtain ⟨A10,n10,k10,rfl,_⟩:=dq.shape
    obtain ⟨A11,n11,k11,rfl,_⟩:=dr.shape
    have bR:=cR.later hb10
    have bQ10:=bQ.later hb10
    have be10:=below_then be9 hb10 be9.size
    have i4:=j4.below hb10
    clear cX cY cR cG be9 j2 j3 j4 bQ hb10 y0 y1 g0 g1 q0 q1
    have ls2:(digs (val (canI (RI.z y / G.z)).ds)).length≤137438953472:=by
     rw [val_canI]
     refine Nat.le_trans (digs_len_mono (Int.natAbs_ediv_le_natAbs ..)) ?_
     rw [z_natAbs];exact hl2
    generalize canI 0=R2 at *
    generalize hQ2:canI ((RI.z y) / G.z)=Q2 at *
    have HQ2:=Lib.hid hQ2
    clear hQ2
    have bD:=(Bk.new w10 57 [.bool Q2.neg,.slice A10 n10 k10]).alloc (.cells #[.bool R2.neg,.slice A11 n11 k11] 57)
    have bn:=(below_new w10 (.cells [.bool Q2.neg,.slice A10 n10 k10].toArray 57)).alloc (by simp) (.cells #[.bool R2.neg,.slice A11 n11 k11] 57)
    have cR:=bR.later bn
    have cQ:=bQ10.later bn
    have be11:=below_then be10 bn be10.size
    have j4:=i4.below bn
    have j5:=dq.below bn
    clear bR bQ10 be10 i4 dq dr bn
    have hk1:w8.heap.size≠w.heap.size+1+1:=cQ.ne_of cR (by decide)
    have hk2:w10.heap.size≠w.heap.size+1+1:=bD.ne_of cR (by decide)
    have tok:True:=trivial
    go_wp2_with fail
    generalize (w10.alloc _).alloc _=W11 at *
    go_region_held3 (fun w'=>(w'.cell? ⟨w8.heap.size,0,none⟩=some (.bool Q1.neg)∧w'.cell? ⟨w8.heap.size,1,none⟩=some (.slice A8 n8 k8))∧(w'.cell? ⟨w10.heap.size,0,none⟩=some (.bool Q2.neg)∧w'.cell? ⟨w10.heap.size,1,none⟩=some (.slice A10 n10 k10)))
     (first | with_reducible exact ⟨cQ.drew.pair,bD.drew.pair⟩ | with_reducible exact ⟨(cQ.drew.later hb6).pair,(bD.drew.later hb6).pair⟩ | with_reducible exact ⟨((cQ.drew.later hb6).later hb7).pair,((bD.drew.later hb6).later hb7).pair⟩ | with_reducible exact ⟨(((cQ.drew.later hb6).later hb7).far4 hk1 _ _ _ _).pair,(((bD.drew.later hb6).later hb7).far4 hk2 _ _ _ _).pair⟩)
     (first
      | (go_at_call 79;have _t:=tok;refine (canonI_own _ Q1 _ (j4.keep (Keep.drew _)) (by omega)).mono ?_;clear tok _t;rintro e w6 ⟨v6,rfl,e6,hb6⟩;obtain ⟨A6,n6,k6,rfl⟩:=e6.shape)
      | (go_at_call 79;refine (canonI_own _ Q2 _ ((j5.keep (Keep.drew _)).below hb6) (by omega)).mono ?_;rintro e w7 ⟨v7,rfl,e7,hb7⟩;obtain ⟨A7,n7,k7,rfl⟩:=e7.shape;obtain ⟨c0,c1,c2,c3⟩:=((cR.drew.later hb6).later hb7).four;obtain ⟨f0,f1,f2,f3⟩:=((cR.drew.later hb6).later hb7).fourF))
    go_wp2
    refine ret_cell Tryz.results52 Tryz.underlying59 (by kernel_rfl) rfl (((cR.drew.later hb6).later hb7).set4 _ _ _ _) rfl ?_
    have bb0:=below_then be11.drew hb6 be11.size
    have hq1:canI (RI.z Q1)=Q1:=by rw [← HQ1.out,canI_z]
    have hq2:canI (RI.z Q2)=Q2:=by rw [← HQ2.out,canI_z]
    rw [← HXY.out,canF_words HZ.out,Int.gcd_comm,← GZ.out,HQ1.out,HQ2.out]
    rw [hq1] at e6 ⊢
    rw [hq2] at e7 ⊢
    exact fin_fracO ((cR.drew.later hb6).later hb7) (FracO.mk ((e6.below hb7).mono be11.size) e7.int) (below_then bb0 hb7 bb0.size) (by omega)
namespace Pl
def RF.Sh (f:RF):Prop:=(digs (val f.num.ds)).length≤34359738368∧(digs (val f.den.ds)).length≤34359738368
def Sz (k:Nat) (q:Rat):Prop:=(digs q.num.natAbs).length≤k∧(digs q.den).length≤k
theorem Sz.sh {k:Nat} {q:Rat} (h:Sz k q) (hk:k≤34359738368):(canF q).Sh:=by
 unfold RF.Sh canF
 simp only [val_canI]
 exact ⟨Nat.le_trans h.1 hk,Nat.le_trans h.2 hk⟩
theorem RF.Sh.sm {f:RF} (h:f.Sh):f.Sm:=by
 unfold RF.Sh at h
 unfold RF.Sm RI.Sm
 omega
theorem Sz_divInt {a b:Int} {k:Nat} (h1:(digs a.natAbs).length≤k) (h2:(digs b.natAbs).length≤k) (hk:1≤k):Sz k (Rat.divInt a b):=by
 unfold Sz
 rw [Rat.num_divInt,Rat.den_divInt]
 constructor
 ·refine Nat.le_trans (digs_len_mono ?_) h1
  refine Nat.le_trans (Int.natAbs_ediv_le_natAbs ..) ?_
  rw [Int.natAbs_mul]
  have:b.sign.natAbs≤1:=by rw [Int.natAbs_sign];split <;> omega
  exact Nat.le_trans (Nat.mul_le_mul_right _ this) (by omega)
 ·split
  ·exact Nat.le_trans (digs_lt (k:=1) (by unfold B32;omega)) hk
  ·exact Nat.le_trans (digs_len_mono (Nat.div_le_self _ _)) h2
theorem RF.Sh.sz {f:RF} (h:f.Sh):Sz 34359738368 f.q:=Sz_divInt (by rw [z_natAbs];exact h.1) (by rw [z_natAbs];exact h.2) (by decide)
theorem Sz_pos {k:Nat} {q:Rat} (h:Sz k q):1≤k:=by
 have:=h.2
 have:=digs_len_pos (n:=q.den) q.den_pos
 omega
theorem div_eq (p q:Rat):Rat.divInt (p.num * q.den) (p.den * q.num)=p / q:=by
 conv=>rhs;rw [← Rat.num_divInt_den p,← Rat.num_divInt_den q]
 rw [Rat.div_def,Rat.inv_divInt,Rat.divInt_mul_divInt]
theorem add_eq (p q:Rat):Rat.divInt (p.num * q.den+q.num * p.den) (p.den * q.den)=p+q:=by
 conv=>rhs;rw [← Rat.num_divInt_den p,← Rat.num_divInt_den q]
 have h1:(p.den:Int)≠0:=by have:=p.den_pos;omega
 have h2:(q.den:Int)≠0:=by have:=q.den_pos;omega
 rw [Rat.divInt_add_divInt _ _ h1 h2]
theorem Sz_div {j k:Nat} {p q:Rat} (h:Sz j p) (g:Sz k q):Sz (j+k) (p / q):=by
 rw [← div_eq]
 refine Sz_divInt ?_ ?_ (by have:=Sz_pos h;omega)
 ·rw [Int.natAbs_mul];exact Nat.le_trans (mul_len _ _) (Nat.add_le_add h.1 g.2)
 ·rw [Int.natAbs_mul];exact Nat.le_trans (mul_len _ _) (Nat.add_le_add h.2 g.1)
theorem Sz_add {j k:Nat} {p q:Rat} (h:Sz j p) (g:Sz k q):Sz (j+k+1) (p+q):=by
 rw [← add_eq]
 refine Sz_divInt ?_ ?_ (by omega)
 ·refine add_lenI ?_ ?_
  ·rw [Int.natAbs_mul];exact Nat.le_trans (mul_len _ _) (Nat.add_le_add h.1 g.2)
  ·rw [Int.natAbs_mul,Nat.add_comm j k];exact Nat.le_trans (mul_len _ _) (Nat.add_le_add g.1 h.2)
 ·rw [Int.natAbs_mul];exact Nat.le_trans (mul_len _ _) (Nat.le_trans (Nat.add_le_add h.2 g.2) (by omega))
theorem Sz_neg {k:Nat} {q:Rat} (h:Sz k q):Sz k (-q):=by
 unfold Sz at *
 rw [Rat.neg_num,Rat.neg_den,Int.natAbs_neg]
 exact h
theorem Sz_sub {j k:Nat} {p q:Rat} (h:Sz j p) (g:Sz k q):Sz (j+k+1) (p - q):=by
 rw [Rat.sub_eq_add_neg]
 exact Sz_add h (Sz_neg g)
theorem divInt_one' (z:Int):Rat.divInt z 1=(z:Rat):=Rat.mkRat_one z
theorem neg_raw (f:RF):Rat.divInt (-f.num.z) f.den.z= -f.q:=(Rat.neg_divInt _ _).symm
end Pl
theorem FracM.num {w:World} {A A':Option Addr} {n c n' c':Nat} {b b':Bool} {f:RF} (h:FracM w (.agg #[.bool b,.slice A n c,.bool b',.slice A' n' c']) f):IntM w (.agg #[.bool b,.slice A n c]) f.num∧IntM w (.agg #[.bool b',.slice A' n' c']) f.den:=by
 obtain ⟨B,m,d,B',m',d',e,d1,d2⟩:=h
 simp at e
 obtain ⟨rfl,⟨rfl,rfl,rfl⟩,rfl,rfl,rfl,rfl⟩:=e
 exact ⟨⟨_,rfl,d1⟩,_,rfl,d2⟩
theorem run_num (x y z u:Value) (w:World):(Instr.field 59 (.agg #[x,y,z,u]) 0).run Tryz.prog w= .ok (.agg #[x,y]) w:=by kernel_rfl
theorem boxF1 (w:World) (x1 x2 x3 x4:Value):∃W,w.alloc (.cells #[x1,x2,x3,x4] 59)=W∧Bk W w.heap.size 59 [x1,x2,x3,x4]∧Below w.heap.size w W:=
 ⟨_,rfl,Bk.new w _ [x1,x2,x3,x4],below_new w _⟩
theorem rcanon_own (v:Value) (a:RF) (w:World) (h:FracM w v a) (hs:a.Sh):
 Calls Tryz.prog 51 #[v] w fun e w'=>∃v',e= .returned v'∧FracO w.heap.size w' v' (canF a.q)∧Below w.heap.size w w':=by
 obtain ⟨A,n,c,A',n',c',rfl,_,_⟩:=id h
 obtain ⟨W,hW,hsz,hX,hR,hbe⟩:=boxF2 w (.bool a.num.neg) (.slice A n c) (.bool a.den.neg) (.slice A' n' c') (.bool false) (.slice none 0 0) (.bool false) (.slice none 0 0)
 obtain ⟨i1,i2⟩:=(h.below hbe).num
 obtain ⟨p1,p2,p3,p4⟩:=hX.four
 obtain ⟨hs1,hs2⟩:=hs
 go_enter Tryz.func51,Tryz.ntmps51
 go_wp2_with fail
 clear hW
 refine (rnew_own _ _ a.num a.den _ i1 i2 (by omega) (by omega)).mono ?_
 rintro e w1 ⟨v1,rfl,e1,hb1⟩
 obtain ⟨B,m,d,B',m',d',rfl,_,_⟩:=id e1.1
 have hR1:=hR.later hb1
 obtain ⟨c0,c1,c2,c3⟩:=hR1.four
 obtain ⟨f0,f1,f2,f3⟩:=hR1.fourF
 go_wp2
 refine ret_cell Tryz.results51 Tryz.underlying59 (by kernel_rfl) rfl (hR1.set4 _ _ _ _) rfl ?_
 exact fin_fracO hR1 (e1.mono hbe.size) (below_then hbe hb1 hbe.size) (by omega)
theorem rint_own (z:Int) (w:World) (h0: -9223372036854775808≤z) (h1:z≤9223372036854775807):
 Calls Tryz.prog 27 #[.int .i64 z] w fun e w'=>∃v',e= .returned v'∧FracO w.heap.size w' v' (canF (z:Rat))∧Below w.heap.size w w':=by
 obtain ⟨W,hW,hR,hbe⟩:=boxF1 w (.bool false) (.slice none 0 0) (.bool false) (.slice none 0 0)
 have l1:(digs (val (canI z).ds)).length≤137438953472:=by rw [val_canI];exact Nat.le_trans (digs_lt (k:=2) (by unfold B32;omega)) (by decide)
 have l2:(digs (val (canI 1).ds)).length≤137438953472:=by rw [val_canI];exact Nat.le_trans (digs_lt (k:=2) (by unfold B32;omega)) (by decide)
 go_enter Tryz.func27,Tryz.ntmps27
 go_wp2_with fail
 clear hW
 refine (rfromInt64_any z _ h0 h1).mono ?_
 rintro e w1 ⟨v1,rfl,i1,hb1⟩
 go_wp2_with fail
 refine (rfromInt64_any 1 _ (by omega) (by omega)).mono ?_
 rintro e w2 ⟨v2,rfl,i2,hb2⟩
 go_wp2_with fail
 refine (rnew_own _ _ (canI z) (canI 1) _ (i1.below hb2) i2 l1 l2).mono ?_
 rw [canI_z,canI_z,divInt_one']
 rintro e w3 ⟨v3,rfl,e3,hb3⟩
 obtain ⟨B,m,d,B',m',d',rfl,_,_⟩:=id e3.1
 have hR1:=((hR.later hb1).later hb2).later hb3
 have b1:=below_then hbe hb1 hbe.size
 have b2:=below_then b1 hb2 b1.size
 obtain ⟨c0,c1,c2,c3⟩:=hR1.four
 obtain ⟨f0,f1,f2,f3⟩:=hR1.fourF
 go_wp2
 refine ret_cell Tryz.results27 Tryz.underlying59 (by kernel_rfl) rfl (hR1.set4 _ _ _ _) rfl ?_
 exact fin_fracO hR1 (e3.mono b2.size) (below_then b2 hb3 b2.size) (by omega)
theorem rsignF_any (v:Value) (a:RF) (w:World) (h:FracM w v a) (hs:a.Sh):
 Calls Tryz.prog 23 #[v] w fun e w'=>e= .returned (.int .i64 (qs a.q))∧Below w.heap.size w w':=by
 obtain ⟨A,n,c,A',n',c',rfl,_,_⟩:=id h
 obtain ⟨W,hW,hX,hbe⟩:=boxF1 w (.bool a.num.neg) (.slice A n c) (.bool a.den.neg) (.slice A' n' c')
 have h':=h.below hbe
 obtain ⟨p1,p2,p3,p4⟩:=hX.four
 have hz:=hs.sz.1
 go_enter Tryz.func23,Tryz.ntmps23
 go_wp2_with fail
 clear hW
 refine (rcanon_own _ a _ h' hs).mono ?_
 rintro e w1 ⟨v1,rfl,e1,hb1⟩
 obtain ⟨B,m,d,B',m',d',rfl,_,_⟩:=id e1.1
 have hzn:sgn (canF a.q).num.z=qs a.q:=by rw [show (canF a.q).num=canI a.q.num from rfl,canI_z];rfl
 have hzl:(digs (val (canF a.q).num.ds)).length≤549755813888:=by rw [show (canF a.q).num=canI a.q.num from rfl,val_canI];omega
 have HZN:=Lib.hid hzn
 clear hzn
 generalize canF a.q=P at *
 obtain ⟨i1,i2⟩:=e1.1.num
 have hf0:=fun (w:World)=>run_num (.bool P.num.neg) (.slice B m d) (.bool P.den.neg) (.slice B' m' d') w
 go_wp2_with fail
 refine (rsign_any _ P.num _ i1 hzl).mono ?_
 rw [HZN.out]
 rintro e w2 ⟨rfl,hb2⟩
 go_wp2
 go_ret
 have b1:=below_then hbe hb1 hbe.size
 exact ⟨rfl,below_then b1 hb2 b1.size⟩
theorem rnegateF_own (v:Value) (a:RF) (w:World) (h:FracM w v a) (hs:a.Sh):
 Calls Tryz.prog 102 #[v] w fun e w'=>∃v',e= .returned v'∧FracO w.heap.size w' v' (canF (-a.q))∧Below w.heap.size w w':=by
 obtain ⟨A,n,c,A',n',c',rfl,_,_⟩:=id h
 obtain ⟨W,hW,hsz,hX,hR,hbe⟩:=boxF2 w (.bool a.num.neg) (.slice A n c) (.bool a.den.neg) (.slice A' n' c') (.bool false) (.slice none 0 0) (.bool false) (.slice none 0 0)
 obtain ⟨i1,i2⟩:=(h.below hbe).num
 obtain ⟨hs1,hs2⟩:=hs
 have hn1:w.heap.size≠w.heap.size+1:=by omega
 go_enter Tryz.func102,Tryz.ntmps102
 go_wp2_with fail
 clear hW
 go_region_held3 (fun w'=>w'.cell? ⟨w.heap.size,0,none⟩=some (.bool a.num.neg)∧w'.cell? ⟨w.heap.size,1,none⟩=some (.slice A n c)∧w'.cell? ⟨w.heap.size,2,none⟩=some (.bool a.den.neg)∧w'.cell? ⟨w.heap.size,3,none⟩=some (.slice A' n' c'))
  (first | with_reducible exact hX.drew.four | with_reducible exact (hX.drew.later hb6).four | with_reducible exact ((hX.drew.later hb6).later hb7).four | with_reducible exact (((hX.drew.later hb6).later hb7).far4 hn1 _ _ _ _).four)
  (first
   | (go_at_call 76;refine (rnegate_any _ a.num _ (i1.keep (Keep.drew _)) (by omega)).mono ?_;rintro e w6 ⟨v6,rfl,e6,hb6⟩)
   | (go_at_call 52;refine (rnew_own _ _ (canI (-a.num.z)) a.den _ e6 ((i2.keep (Keep.drew _)).below hb6) (by rw [val_canI,Int.natAbs_neg,z_natAbs];omega) (by omega)).mono ?_;rw [canI_z,neg_raw];rintro e w7 ⟨v7,rfl,e7,hb7⟩;obtain ⟨B,m,d,B',m',d',rfl,_,_⟩:=id e7.1;obtain ⟨c0,c1,c2,c3⟩:=((hR.drew.later hb6).later hb7).four;obtain ⟨f0,f1,f2,f3⟩:=((hR.drew.later hb6).later hb7).fourF))
 go_wp2
 refine ret_cell Tryz.results102 Tryz.underlying59 (by kernel_rfl) rfl (((hR.drew.later hb6).later hb7).set4 _ _ _ _) rfl ?_
 have b1:=below_then hbe.drew hb6 hbe.size
 exact fin_fracO ((hR.drew.later hb6).later hb7) (e7.mono b1.size) (below_then b1 hb7 b1.size) (by omega)
def CanF2 (p q:Rat) (w wx:World) (A A' B B':Option Addr) (n c n' c' m d m' d':Nat):Prop:=
 Bk wx w.heap.size 59 [.bool (canF p).num.neg,.slice A n c,.bool (canF p).den.neg,.slice A' n' c']∧Bk wx (w.heap.size+1) 59 [.bool (canF q).num.neg,.slice B m d,.bool (canF q).den.neg,.slice B' m' d']∧Bk wx (w.heap.size+1+1) 59 [.bool false,.slice none 0 0,.bool false,.slice none 0 0]∧
 FracM wx (.agg #[.bool (canF p).num.neg,.slice A n c,.bool (canF p).den.neg,.slice A' n' c']) (canF p)∧FracM wx (.agg #[.bool (canF q).num.neg,.slice B m d,.bool (canF q).den.neg,.slice B' m' d']) (canF q)∧Below w.heap.size w wx
theorem fin_two {w w4:World} {g g' h:Nat} {x y z u x' y' z' u':Value} {cs:List Value} {b1 s1 b2 s2 b3 s3 b4 s4:Value} {p q:RF} (hX:Bk w4 g 59 [x,y,z,u]) (hY:Bk w4 g' 59 [x',y',z',u']) (hR:Bk w4 h 59 cs) (hne:g≠g') (hr1:h≠g) (hr2:h≠g') (dq:FracM w4 (.agg #[b1,s1,b2,s2]) p) (dr:FracM w4 (.agg #[b3,s3,b4,s4]) q) {m:Nat} (hbe:Below m w w4) (hg:m≤g) (hg':m≤g'):
 ∀W,W=((((((((w4.setCell ⟨g,0,none⟩ b1).setCell ⟨g,1,none⟩ s1).setCell ⟨g,2,none⟩ b2).setCell ⟨g,3,none⟩ s2).setCell ⟨g',0,none⟩ b3).setCell ⟨g',1,none⟩ s3).setCell ⟨g',2,none⟩ b4).setCell ⟨g',3,none⟩ s4)→
 Bk W g 59 [b1,s1,b2,s2]∧Bk W g' 59 [b3,s3,b4,s4]∧Bk W h 59 cs∧FracM W (.agg #[b1,s1,b2,s2]) p∧FracM W (.agg #[b3,s3,b4,s4]) q∧Below m w W:=by
 rintro W rfl
 have h1:=hX.set4 b1 s1 b2 s2
 have h2:=hY.far4 (Ne.symm hne) b1 s1 b2 s2
 have k1:=hX.keep4 (by decide) b1 s1 b2 s2
 have k2:=h2.keep4 (by decide) b3 s3 b4 s4
 exact ⟨h1.far4 hne _ _ _ _,h2.set4 _ _ _ _,(hR.far4 hr1 _ _ _ _).far4 hr2 _ _ _ _,dq.keep (k1.trans k2),dr.keep (k1.trans k2),below_set4 (below_set4 hbe hg _ _ _ _) hg' _ _ _ _⟩
theorem szI {k:Nat} {q:Rat} (h:Sz k q):(canF q).num.ds.length≤k∧(canF q).den.ds.length≤k:=h
theorem szV {k:Nat} {z:Int} (h:(digs z.natAbs).length≤k):(digs (val (canI z).ds)).length≤k:=by rw [val_canI];exact h
theorem zN (q:Rat):(canF q).num.z=q.num:=canI_z _
theorem zD (q:Rat):(canF q).den.z=q.den:=canI_z _
theorem rdivF_own (v1 v2:Value) (a b:RF) (w:World) (h1:FracM w v1 a) (h2:FracM w v2 b) (hs:a.Sh) (hs2:b.Sh):
 Calls Tryz.prog 26 #[v1,v2] w fun e w'=>∃v',e= .returned v'∧FracO w.heap.size w' v' (canF (a.q / b.q))∧Below w.heap.size w w':=by
 obtain ⟨A,n,c,A',n',c',rfl,_,_⟩:=id h1
 obtain ⟨B,m,d,B',m',d',rfl,_,_⟩:=id h2
 obtain ⟨W,hW,hX,hY,hR,hbe⟩:=boxF3 w (.bool a.num.neg) (.slice A n c) (.bool a.den.neg) (.slice A' n' c') (.bool b.num.neg) (.slice B m d) (.bool b.den.neg) (.slice B' m' d')
 have i1:=h1.below hbe
 have i2:=h2.below hbe
 have hn1:w.heap.size≠w.heap.size+1:=by omega
 have hn2:w.heap.size+1+1≠w.heap.size:=by omega
 have hn3:w.heap.size+1+1≠w.heap.size+1:=by omega
 have tok:True:=trivial
 obtain ⟨p1,p2,p3,p4⟩:=hX.four
 obtain ⟨q1,q2,q3,q4⟩:=hY.four
 go_enter Tryz.func26,Tryz.ntmps26
 go_wp2_with fail
 clear hW
 go_upto_region 1 with (fail)
 go_cut [] (fun wx=>∃(A A' B B':Option Addr) (n c n' c' m d m' d':Nat),CanF2 a.q b.q w wx A A' B B' n c n' c' m d m' d')
 case first=>
  go_region_with (first
   | (go_at_call 51;have _t:=tok;refine (rcanon_own _ a _ (i1.keep (Keep.drew _)) hs).mono ?_;clear tok _t;rintro e w6 ⟨v6,rfl,e6,hb6⟩;obtain ⟨A6,n6,k6,A6',n6',k6',rfl,_,_⟩:=id e6.1;obtain ⟨q1',q2',q3',q4'⟩:=(hY.drew.later hb6).four)
   | (go_at_call 51;refine (rcanon_own _ b _ ((i2.keep (Keep.drew _)).below hb6) hs2).mono ?_;rintro e w7 ⟨v7,rfl,e7,hb7⟩;obtain ⟨A7,n7,k7,A7',n7',k7',rfl,_,_⟩:=id e7.1;obtain ⟨c0,c1,c2,c3⟩:=((hX.drew.later hb6).later hb7).four;obtain ⟨r0,r1,r2,r3⟩:=((hX.drew.later hb6).later hb7).fourF;obtain ⟨c0',c1',c2',c3'⟩:=((hY.drew.later hb6).later hb7).four;obtain ⟨r0',r1',r2',r3'⟩:=((hY.drew.later hb6).later hb7).fourF))
  all_goals
   go_wp2_with fail
   go_meet
   have b1:=below_then hbe.drew hb6 hbe.size
   obtain ⟨a1,a2,a3,a4,a5,a6⟩:=fin_two ((hX.drew.later hb6).later hb7) ((hY.drew.later hb6).later hb7) ((hR.drew.later hb6).later hb7) hn1 hn2 hn3 (e6.below hb7).1 e7.1 (below_then b1 hb7 b1.size) (by omega) (by omega) _ rfl
   exact ⟨A6,A6',A7,A7',n6,k6,n6',k6',n7,k7,n7',k7',a1,a2,a3,a4,a5,a6⟩
 case rest=>
  obtain ⟨A,A',B,B',n,c,n',c',m,d,m',d',bX,bY,bR,fX,fY,be⟩:=hcut
  clear p1 p2 p3 p4 q1 q2 q3 q4 hX hY hR hbe i1 i2 h1 h2 tok
  have sz1:=hs.sz
  have sz2:=hs2.sz
  obtain ⟨l1,l2⟩:=szI sz1
  obtain ⟨l3,l4⟩:=szI sz2
  have hz1:=zN a.q
  have hz2:=zD a.q
  have hz3:=zN b.q
  have hz4:=zD b.q
  generalize canF a.q=P at *
  generalize canF b.q=Q at *
  have HZ1:=Lib.hid hz1
  have HZ2:=Lib.hid hz2
  have HZ3:=Lib.hid hz3
  have HZ4:=Lib.hid hz4
  clear hz1 hz2 hz3 hz4
  obtain ⟨iN,iD⟩:=fX.num
  obtain ⟨jN,jD⟩:=fY.num
  have tok:True:=trivial
  have tok2:True:=trivial
  have hL1:(digs (val (canI (P.num.z * Q.den.z)).ds)).length≤137438953472:=(szV (by rw [HZ1.out,HZ4.out,Int.natAbs_mul];exact Nat.le_trans (mul_len _ _) (Nat.le_trans (Nat.add_le_add sz1.1 sz2.2) (by decide))))
  have hL2:(digs (val (canI (P.den.z * Q.num.z)).ds)).length≤137438953472:=(szV (by rw [HZ2.out,HZ3.out,Int.natAbs_mul];exact Nat.le_trans (mul_len _ _) (Nat.le_trans (Nat.add_le_add sz1.2 sz2.1) (by decide))))
  have HV:Hid (Rat.divInt (P.num.z * Q.den.z) (P.den.z * Q.num.z)=a.q / b.q):=Lib.hid (by rw [HZ1.out,HZ2.out,HZ3.out,HZ4.out];exact div_eq _ _)
  clear sz1 sz2 hs hs2 HZ1 HZ2 HZ3 HZ4
  go_wp2_with fail
  go_region_held3 (fun w'=>(w'.cell? ⟨w.heap.size,0,none⟩=some (.bool P.num.neg)∧w'.cell? ⟨w.heap.size,1,none⟩=some (.slice A n c)∧w'.cell? ⟨w.heap.size,2,none⟩=some (.bool P.den.neg)∧w'.cell? ⟨w.heap.size,3,none⟩=some (.slice A' n' c'))∧(w'.cell? ⟨w.heap.size+1,0,none⟩=some (.bool Q.num.neg)∧w'.cell? ⟨w.heap.size+1,1,none⟩=some (.slice B m d)∧w'.cell? ⟨w.heap.size+1,2,none⟩=some (.bool Q.den.neg)∧w'.cell? ⟨w.heap.size+1,3,none⟩=some (.slice B' m' d')))
   (first | with_reducible exact ⟨bX.drew.four,bY.drew.four⟩ | with_reducible exact ⟨(bX.drew.later hb8).four,(bY.drew.later hb8).four⟩ | with_reducible exact ⟨((bX.drew.later hb8).later hb9).four,((bY.drew.later hb8).later hb9).four⟩ | with_reducible exact ⟨(((bX.drew.later hb8).later hb9).later hb10).four,(((bY.drew.later hb8).later hb9).later hb10).four⟩ | with_reducible exact ⟨((((bX.drew.later hb8).later hb9).later hb10).far4 (Ne.symm hn2) _ _ _ _).four,((((bY.drew.later hb8).later hb9).later hb10).far4 (Ne.symm hn3) _ _ _ _).four⟩)
   (first
    | (go_at_call 53;have _t:=tok;refine (rmul_any _ _ P.num Q.den _ (iN.keep (Keep.drew _)) (jD.keep (Keep.drew _)) (by omega)).mono ?_;clear tok _t;rintro e w8 ⟨v8,rfl,e8,hb8⟩)
    | (go_at_call 53;refine (rmul_any _ _ P.den Q.num _ ((iD.keep (Keep.drew _)).below hb8) ((jN.keep (Keep.drew _)).below hb8) (by omega)).mono ?_;rintro e w9 ⟨v9,rfl,e9,hb9⟩)
    | (go_at_call 52;refine (rnew_own _ _ (canI (P.num.z * Q.den.z)) (canI (P.den.z * Q.num.z)) _ (e8.below hb9) e9 hL1 hL2).mono ?_;rw [canI_z,canI_z,HV.out];rintro e w10 ⟨v10,rfl,e10,hb10⟩;obtain ⟨C,l,f,C',l',f',rfl,_,_⟩:=id e10.1;obtain ⟨c0,c1,c2,c3⟩:=(((bR.drew.later hb8).later hb9).later hb10).four;obtain ⟨f0,f1,f2,f3⟩:=(((bR.drew.later hb8).later hb9).later hb10).fourF))
  go_wp2
  refine ret_cell Tryz.results26 Tryz.underlying59 (by kernel_rfl) rfl ((((bR.drew.later hb8).later hb9).later hb10).set4 _ _ _ _) rfl ?_
  have b0:=be.drew
  have b1:=below_then b0 hb8 b0.size
  have b2:=below_then b1 hb9 b1.size
  have b3:=below_then b2 hb10 b2.size
  exact fin_fracO (((bR.drew.later hb8).later hb9).later hb10) (e10.mono b2.size) b3 (by omega)
theorem raddF_own (v1 v2:Value) (a b:RF) (w:World) (h1:FracM w v1 a) (h2:FracM w v2 b) (hs:a.Sh) (hs2:b.Sh):
 Calls Tryz.prog 101 #[v1,v2] w fun e w'=>∃v',e= .returned v'∧FracO w.heap.size w' v' (canF (a.q+b.q))∧Below w.heap.size w w':=by
 obtain ⟨A,n,c,A',n',c',rfl,_,_⟩:=id h1
 obtain ⟨B,m,d,B',m',d',rfl,_,_⟩:=id h2
 obtain ⟨W,hW,hX,hY,hR,hbe⟩:=boxF3 w (.bool a.num.neg) (.slice A n c) (.bool a.den.neg) (.slice A' n' c') (.bool b.num.neg) (.slice B m d) (.bool b.den.neg) (.slice B' m' d')
 have i1:=h1.below hbe
 have i2:=h2.below hbe
 have hn1:w.heap.size≠w.heap.size+1:=by omega
 have hn2:w.heap.size+1+1≠w.heap.size:=by omega
 have hn3:w.heap.size+1+1≠w.heap.size+1:=by omega
 have tok:True:=trivial
 obtain ⟨p1,p2,p3,p4⟩:=hX.four
 obtain ⟨q1,q2,q3,q4⟩:=hY.four
 go_enter Tryz.func101,Tryz.ntmps101
 go_wp2_with fail
 clear hW
 go_upto_region 1 with (fail)
 go_cut [] (fun wx=>∃(A A' B B':Option Addr) (n c n' c' m d m' d':Nat),CanF2 a.q b.q w wx A A' B B' n c n' c' m d m' d')
 case first=>
  go_region_with (first
   | (go_at_call 51;have _t:=tok;refine (rcanon_own _ a _ (i1.keep (Keep.drew _)) hs).mono ?_;clear tok _t;rintro e w6 ⟨v6,rfl,e6,hb6⟩;obtain ⟨A6,n6,k6,A6',n6',k6',rfl,_,_⟩:=id e6.1;obtain ⟨q1',q2',q3',q4'⟩:=(hY.drew.later hb6).four)
   | (go_at_call 51;refine (rcanon_own _ b _ ((i2.keep (Keep.drew _)).below hb6) hs2).mono ?_;rintro e w7 ⟨v7,rfl,e7,hb7⟩;obtain ⟨A7,n7,k7,A7',n7',k7',rfl,_,_⟩:=id e7.1;obtain ⟨c0,c1,c2,c3⟩:=((hX.drew.later hb6).later hb7).four;obtain ⟨r0,r1,r2,r3⟩:=((hX.drew.later hb6).later hb7).fourF;obtain ⟨c0',c1',c2',c3'⟩:=((hY.drew.later hb6).later hb7).four;obtain ⟨r0',r1',r2',r3'⟩:=((hY.drew.later hb6).later hb7).fourF))
  all_goals
   go_wp2_with fail
   go_meet
   have b1:=below_then hbe.drew hb6 hbe.size
   obtain ⟨a1,a2,a3,a4,a5,a6⟩:=fin_two ((hX.drew.later hb6).later hb7) ((hY.drew.later hb6).later hb7) ((hR.drew.later hb6).later hb7) hn1 hn2 hn3 (e6.below hb7).1 e7.1 (below_then b1 hb7 b1.size) (by omega) (by omega) _ rfl
   exact ⟨A6,A6',A7,A7',n6,k6,n6',k6',n7,k7,n7',k7',a1,a2,a3,a4,a5,a6⟩
 case rest=>
  obtain ⟨A,A',B,B',n,c,n',c',m,d,m',d',bX,bY,bR,fX,fY,be⟩:=hcut
  clear p1 p2 p3 p4 q1 q2 q3 q4 hX hY hR hbe i1 i2 h1 h2 tok
  have sz1:=hs.sz
  have sz2:=hs2.sz
  obtain ⟨l1,l2⟩:=szI sz1
  obtain ⟨l3,l4⟩:=szI sz2
  have hz1:=zN a.q
  have hz2:=zD a.q
  have hz3:=zN b.q
  have hz4:=zD b.q
  generalize canF a.q=P at *
  generalize canF b.q=Q at *
  have HZ1:=Lib.hid hz1
  have HZ2:=Lib.hid hz2
  have HZ3:=Lib.hid hz3
  have HZ4:=Lib.hid hz4
  clear hz1 hz2 hz3 hz4
  obtain ⟨iN,iD⟩:=fX.num
  obtain ⟨jN,jD⟩:=fY.num
  have tok:True:=trivial
  have tok2:True:=trivial
  have hA1:(digs (P.num.z * Q.den.z).natAbs).length≤68719476736:=by rw [HZ1.out,HZ4.out,Int.natAbs_mul];exact Nat.le_trans (mul_len _ _) (Nat.add_le_add sz1.1 sz2.2)
  have hA2:(digs (Q.num.z * P.den.z).natAbs).length≤68719476736:=by rw [HZ3.out,HZ2.out,Int.natAbs_mul];exact Nat.le_trans (mul_len _ _) (Nat.add_le_add sz2.1 sz1.2)
  have hL1:(digs (val (canI (P.num.z * Q.den.z+Q.num.z * P.den.z)).ds)).length≤137438953472:=szV (Nat.le_trans (add_lenI hA1 hA2) (by decide))
  have hL2:(digs (val (canI (P.den.z * Q.den.z)).ds)).length≤137438953472:=szV (by rw [HZ2.out,HZ4.out,Int.natAbs_mul];exact Nat.le_trans (mul_len _ _) (Nat.le_trans (Nat.add_le_add sz1.2 sz2.2) (by decide)))
  have HV:Hid (Rat.divInt (P.num.z * Q.den.z+Q.num.z * P.den.z) (P.den.z * Q.den.z)=a.q+b.q):=Lib.hid (by rw [HZ1.out,HZ2.out,HZ3.out,HZ4.out];exact add_eq _ _)
  clear sz1 sz2 hs hs2 HZ1 HZ2 HZ3 HZ4
  go_wp2_with fail
  go_region_held3 (fun w'=>(w'.cell? ⟨w.heap.size,0,none⟩=some (.bool P.num.neg)∧w'.cell? ⟨w.heap.size,1,none⟩=some (.slice A n c)∧w'.cell? ⟨w.heap.size,2,none⟩=some (.bool P.den.neg)∧w'.cell? ⟨w.heap.size,3,none⟩=some (.slice A' n' c'))∧(w'.cell? ⟨w.heap.size+1,0,none⟩=some (.bool Q.num.neg)∧w'.cell? ⟨w.heap.size+1,1,none⟩=some (.slice B m d)∧w'.cell? ⟨w.heap.size+1,2,none⟩=some (.bool Q.den.neg)∧w'.cell? ⟨w.heap.size+1,3,none⟩=some (.slice B' m' d')))
   (first | with_reducible exact ⟨bX.drew.four,bY.drew.four⟩ | with_reducible exact ⟨(bX.drew.later hb8).four,(bY.drew.later hb8).four⟩ | with_reducible exact ⟨((bX.drew.later hb8).later hb9).four,((bY.drew.later hb8).later hb9).four⟩ | with_reducible exact ⟨(((bX.drew.later hb8).later hb9).later hb10).four,(((bY.drew.later hb8).later hb9).later hb10).four⟩ | with_reducible exact ⟨((((bX.drew.later hb8).later hb9).later hb10).later hb11).four,((((bY.drew.later hb8).later hb9).later hb10).later hb11).four⟩ | with_reducible exact ⟨(((((bX.drew.later hb8).later hb9).later hb10).later hb11).later hb12).four,(((((bY.drew.later hb8).later hb9).later hb10).later hb11).later hb12).four⟩ | with_reducible exact ⟨((((((bX.drew.later hb8).later hb9).later hb10).later hb11).later hb12).far4 (Ne.symm hn2) _ _ _ _).four,((((((bY.drew.later hb8).later hb9).later hb10).later hb11).later hb12).far4 (Ne.symm hn3) _ _ _ _).four⟩)
   (first
    | (go_at_call 53;have _t:=tok;refine (rmul_any _ _ P.num Q.den _ (iN.keep (Keep.drew _)) (jD.keep (Keep.drew _)) (by omega)).mono ?_;clear tok _t;rintro e w8 ⟨v8,rfl,e8,hb8⟩)
    | (go_at_call 53;have _t:=tok2;refine (rmul_any _ _ Q.num P.den _ ((jN.keep (Keep.drew _)).below hb8) ((iD.keep (Keep.drew _)).below hb8) (by omega)).mono ?_;clear tok2 _t;rintro e w9 ⟨v9,rfl,e9,hb9⟩)
    | (go_at_call 107;refine (radd_any _ _ (canI (P.num.z * Q.den.z)) (canI (Q.num.z * P.den.z)) _ (e8.below hb9) e9 (by rw [len_canI];omega) (by rw [len_canI];omega)).mono ?_;rw [canI_z,canI_z];rintro e w10 ⟨v10,rfl,e10,hb10⟩)
    | (go_at_call 53;refine (rmul_any _ _ P.den Q.den _ ((((iD.keep (Keep.drew _)).below hb8).below hb9).below hb10) ((((jD.keep (Keep.drew _)).below hb8).below hb9).below hb10) (by omega)).mono ?_;rintro e w11 ⟨v11,rfl,e11,hb11⟩)
    | (go_at_call 52;refine (rnew_own _ _ (canI (P.num.z * Q.den.z+Q.num.z * P.den.z)) (canI (P.den.z * Q.den.z)) _ (e10.below hb11) e11 hL1 hL2).mono ?_;rw [canI_z,canI_z,HV.out];rintro e w12 ⟨v12,rfl,e12,hb12⟩;obtain ⟨C,l,f,C',l',f',rfl,_,_⟩:=id e12.1;obtain ⟨c0,c1,c2,c3⟩:=(((((bR.drew.later hb8).later hb9).later hb10).later hb11).later hb12).four;obtain ⟨f0,f1,f2,f3⟩:=(((((bR.drew.later hb8).later hb9).later hb10).later hb11).later hb12).fourF))
  go_wp2
  refine ret_cell Tryz.results101 Tryz.underlying59 (by kernel_rfl) rfl ((((((bR.drew.later hb8).later hb9).later hb10).later hb11).later hb12).set4 _ _ _ _) rfl ?_
  have b0:=be.drew
  have b1:=below_then b0 hb8 b0.size
  have b2:=below_then b1 hb9 b1.size
  have b3:=below_then b2 hb10 b2.size
  have b4:=below_then b3 hb11 b3.size
  have b5:=below_then b4 hb12 b4.size
  exact fin_fracO (((((bR.drew.later hb8).later hb9).later hb10).later hb11).later hb12) (e12.mono b4.size) b5 (by omega)
theorem FracO.frac {base:Nat} {w:World} {v:Value} {f:RF} (h:FracO base w v f):FracM w v f:=h.1
theorem rsubF_own (v1 v2:Value) (a b:RF) (w:World) (h1:FracM w v1 a) (h2:FracM w v2 b) (hs:a.Sh) (hs2:b.Sh):
 Calls Tryz.prog 69 #[v1,v2] w fun e w'=>∃v',e= .returned v'∧FracO w.heap.size w' v' (canF (a.q - b.q))∧Below w.heap.size w w':=by
 obtain ⟨A,n,c,A',n',c',rfl,_,_⟩:=id h1
 obtain ⟨B,m,d,B',m',d',rfl,_,_⟩:=id h2
 obtain ⟨W,hW,hX,hY,hR,hbe⟩:=boxF3 w (.bool a.num.neg) (.slice A n c) (.bool a.den.neg) (.slice A' n' c') (.bool b.num.neg) (.slice B m d) (.bool b.den.neg) (.slice B' m' d')
 have i1:=h1.below hbe
 have i2:=h2.below hbe
 have hn2:w.heap.size≠w.heap.size+1+1:=by omega
 have hn3:w.heap.size+1≠w.heap.size+1+1:=by omega
 have hs3:(canF (-b.q)).Sh:=(Sz_neg hs2.sz).sh (Nat.le_refl _)
 have HV:Hid (a.q+(canF (-b.q)).q=a.q - b.q):=Lib.hid (by rw [canF_q,Rat.sub_eq_add_neg])
 go_enter Tryz.func69,Tryz.ntmps69
 go_wp2_with fail
 clear hW
 go_region_held3 (fun w'=>(w'.cell? ⟨w.heap.size,0,none⟩=some (.bool a.num.neg)∧w'.cell? ⟨w.heap.size,1,none⟩=some (.slice A n c)∧w'.cell? ⟨w.heap.size,2,none⟩=some (.bool a.den.neg)∧w'.cell? ⟨w.heap.size,3,none⟩=some (.slice A' n' c'))∧(w'.cell? ⟨w.heap.size+1,0,none⟩=some (.bool b.num.neg)∧w'.cell? ⟨w.heap.size+1,1,none⟩=some (.slice B m d)∧w'.cell? ⟨w.heap.size+1,2,none⟩=some (.bool b.den.neg)∧w'.cell? ⟨w.heap.size+1,3,none⟩=some (.slice B' m' d')))
  (first | with_reducible exact ⟨hX.drew.four,hY.drew.four⟩ | with_reducible exact ⟨(hX.drew.later hb8).four,(hY.drew.later hb8).four⟩ | with_reducible exact ⟨((hX.drew.later hb8).later hb9).four,((hY.drew.later hb8).later hb9).four⟩ | with_reducible exact ⟨(((hX.drew.later hb8).later hb9).far4 hn2 _ _ _ _).four,(((hY.drew.later hb8).later hb9).far4 hn3 _ _ _ _).four⟩)
  (first
   | (go_at_call 102;(with_reducible refine (rnegateF_own _ b _ (i2.keep (Keep.drew _)) hs2).mono ?_);rintro e w8 ⟨v8,rfl,e8,hb8⟩)
   | (go_at_call 101;(with_reducible refine (raddF_own _ _ a (canF (-b.q)) _ ((i1.keep (Keep.drew _)).below hb8) e8.frac hs hs3).mono ?_);rw [HV.out];rintro e w9 ⟨v9,rfl,e9,hb9⟩;obtain ⟨C,l,f,C',l',f',rfl,_,_⟩:=id e9.1;obtain ⟨c0,c1,c2,c3⟩:=((hR.drew.later hb8).later hb9).four;obtain ⟨f0,f1,f2,f3⟩:=((hR.drew.later hb8).later hb9).fourF))
 go_wp2
 refine ret_cell Tryz.results69 Tryz.underlying59 (by kernel_rfl) rfl (((hR.drew.later hb8).later hb9).set4 _ _ _ _) rfl ?_
 have b1:=below_then hbe.drew hb8 hbe.size
 exact fin_fracO ((hR.drew.later hb8).later hb9) (e9.mono b1.size) (below_then b1 hb9 b1.size) (by omega)
def ShH (f:RF):Prop:=(digs (val f.num.ds)).length≤8589934592∧(digs (val f.den.ds)).length≤8589934592
theorem ShH.sh {f:RF} (h:ShH f):f.Sh:=by unfold ShH at h;unfold RF.Sh;omega
theorem ShH.sz {f:RF} (h:ShH f):Sz 8589934592 f.q:=Sz_divInt (by rw [z_natAbs];exact h.1) (by rw [z_natAbs];exact h.2) (by decide)
theorem Sz.shH {k:Nat} {q:Rat} (h:Sz k q) (hk:k≤8589934592):ShH (canF q):=by
 unfold ShH canF
 simp only [val_canI]
 exact ⟨Nat.le_trans h.1 hk,Nat.le_trans h.2 hk⟩
theorem canF_qs (q:Rat):qs (canF q).q=qs q:=by rw [canF_q]
theorem rcompareF_any (v1 v2:Value) (a b:RF) (w:World) (h1:FracM w v1 a) (h2:FracM w v2 b) (hs:ShH a) (hs2:ShH b):
 Calls Tryz.prog 42 #[v1,v2] w fun e w'=>e= .returned (.int .i64 (qs (a.q - b.q)))∧Below w.heap.size w w':=by
 obtain ⟨A,n,c,A',n',c',rfl,_,_⟩:=id h1
 obtain ⟨B,m,d,B',m',d',rfl,_,_⟩:=id h2
 obtain ⟨W,hW,hsz,hX,hY,hbe⟩:=boxF2 w (.bool a.num.neg) (.slice A n c) (.bool a.den.neg) (.slice A' n' c') (.bool b.num.neg) (.slice B m d) (.bool b.den.neg) (.slice B' m' d')
 have i1:=h1.below hbe
 have i2:=h2.below hbe
 obtain ⟨p1,p2,p3,p4⟩:=hX.four
 obtain ⟨q1,q2,q3,q4⟩:=hY.four
 have hs3:(canF (a.q - b.q)).Sh:=(Sz_sub hs.sz hs2.sz).sh (by decide)
 have HQ:=Lib.hid (canF_qs (a.q - b.q))
 clear hsz
 go_enter Tryz.func42,Tryz.ntmps42
 go_wp2_with fail
 clear hW
 refine (rsubF_own _ _ a b _ i1 i2 hs.sh hs2.sh).mono ?_
 rintro e w1 ⟨v1,rfl,e1,hb1⟩
 generalize canF (a.q - b.q)=DF at *
 go_wp2_with fail
 refine (rsignF_any _ DF _ e1.1 hs3).mono ?_
 rw [HQ.out]
 rintro e w2 ⟨rfl,hb2⟩
 go_wp2
 go_ret
 have b1:=below_then hbe hb1 hbe.size
 exact ⟨rfl,below_then b1 hb2 b1.size⟩
end Go.Proofs.YtgdcbjligbnpgaaGreat
