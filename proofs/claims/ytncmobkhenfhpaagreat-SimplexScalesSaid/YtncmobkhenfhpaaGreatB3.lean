/- Contracts and plain facts that the claim is built on, joined out of smaller texts; no condition. -/
import Derived.Deep.AppendLies
import Derived.Test.YtncmobkhenfhpaaGreatB4
import Derived.Test.YtncmobkhenfhpaaGreatB5
set_option linter.unusedVariables false
set_option linter.unusedSimpArgs false
set_option maxRecDepth 100000
set_option maxHeartbeats 40000000
namespace Go.Proofs.YtncmobkhenfhpaaGreat
open Go.RowKit
open Pl
attribute [local go_sem ↓] Go.wp_at_zero Go.wp_at_succ
theorem own_dig {w:World} {base:Nat} {v:Value} {n:Nat} {ds:List Nat} (h:w.ownsRow base 123 1 v n (ds.map uc)) (ok:okD ds):DigM w v ds:=by
 have hl:ds.length=n:=by simpa using h.1
 subst hl
 rcases h.2 with ⟨rfl,h0⟩ | ⟨g,cap,cur,rfl,hb,hg,hnc,hcm,hcs,htake⟩
 ·exact ⟨none,0,by rw [h0],by omega,by simp,ok,fun hp=>by omega⟩
 ·refine ⟨_,cap,rfl,hnc,hcm,ok,fun _=>⟨g,0,cur,(0,0),rfl,hg,fun k d hk=>?_⟩⟩
  have h1:(cur.toList.take (ds.length * 1))[k]? =some (uc d):=by rw [htake];simp [hk]
  rw [List.getElem?_take] at h1
  split at h1
  ·simpa using h1
  ·cases h1
theorem uc_oneCell (ds:List Nat):∀u∈ds.map uc,u.oneCell'=true:=by
 intro u hu
 obtain ⟨d,_,rfl⟩:=List.mem_map.1 hu
 rfl
theorem DigM.news {w:World} {ad:Addr} {n c:Nat} {ds:List Nat} (h:DigM w (.slice (some ad) n c) ds):∀j u,(ds.map uc)[j]? =some u→w.cell? (ad.add j)=some u:=by
 intro j u hu
 rw [List.getElem?_map] at hu
 cases hd:ds[j]? with
 | none=>rw [hd] at hu;cases hu
 | some d=>
  rw [hd] at hu
  injection hu with hu
  subst hu
  obtain ⟨A',c1,hv,h1,h2,h3,h4⟩:=h
  injection hv with e1 e2 e3
  have hj:j < ds.length:=(List.getElem?_eq_some_iff.1 hd).1
  obtain ⟨b,off,cs,fz,hA,hb,hcell⟩:=h4 (by omega)
  rw [← e1] at hA
  injection hA with hA
  subst hA
  have:(⟨b,off,none⟩:Addr).add j=⟨b,off+j,none⟩:=by unfold Addr.add;split <;> simp_all
  rw [this,cell_of_row w b (off+j) cs _ fz hb]
  exact hcell j d hd
theorem clone_any (v:Value) (ds:List Nat) (w:World) (h:DigM w v ds) (hs:ds.length≤1099511627776):
 Calls Tryz.prog 163 #[v] w fun e w'=>∃v',e= .returned v'∧w'.ownsRow w.heap.size 123 1 v' ds.length (ds.map uc)∧Below w.heap.size w w':=by
 obtain ⟨A,n,c,rfl⟩:=h.shape
 obtain ⟨hl,hl',hnc,hc⟩:=h.len
 have hn:ds.length=n:=by omega
 rw [hn]
 have HN:=Lib.hid hn
 clear hn
 have heql:=fun (W:World) (a:Option Addr)=>Go.Lib.run_eql_slice_nil (P:=Tryz.prog) W 44 123 a n c 0 0 Tryz.underlying44
 obtain ⟨i0,hi,hz0,hz1,hz2⟩:=info_parts info_u32
 cases A with
 | none=>
  have hn0:n=0:=by
   rcases Nat.eq_zero_or_pos n with h0 | h0
   ·exact h0
   ·obtain ⟨b,off,hA,_⟩:=h.at_ h0;cases hA
  subst hn0
  obtain rfl:ds=[]:=List.length_eq_zero_iff.1 HN.out
  have:=heql w none
  clear heql
  go_enter Tryz.func163,Tryz.ntmps163
  go_wp2
  go_ret
  exact ⟨_,rfl,World.ownsRow_nil _ _ _ _,Below.refl _ _⟩
 | some ad=>
  have:=heql w (some ad)
  clear heql
  go_enter Tryz.func163,Tryz.ntmps163
  go_wp2_with (at_builtin;refine wpList_append_own_at _ rfl (.tmp 5) (.tmp 6) _ rfl w.heap.size 123 i0 _ 1 4 Tryz.underlying44 hi hz0 hz1 hz2 rfl (by decide) (.slice (some ⟨w.heap.size,0,none⟩) 0 0) 0 [] rfl ?c0 ad n c (ds.map uc) rfl ?c1 ?c2 (uc_oneCell ds) ?c3 ?c4 ?c5 ?_)
  case c0=>exact World.ownsRow_made w #[] 0 (Nat.le_refl _) (by simp) (by simp)
  case c1=>simp;omega
  case c2=>exact (h.below ((Below.refl _ _).alloc (Nat.le_refl _) _)).news
  case c3=>unfold maxLen;omega
  case c4=>omega
  case c5=>simp
  ·intro v' w1 hown hgrow _ _
   go_wp2
   go_ret
   refine ⟨_,rfl,by simpa using hown,((Below.refl _ _).alloc (Nat.le_refl _) _).grown hgrow (by simp) (fun k hk=>?_)⟩
   simp [Value.ownBlock] at hk
   omega
theorem own_cell {w:World} {base g n cap:Nat} {ds:List Nat} (h:w.ownsRow base 123 1 (.slice (some ⟨g,0,none⟩) n cap) n (ds.map uc)) {k:Nat} (hk:k < n):w.cell? ⟨g,k,none⟩=some (.int .u32 (di ds k)):=by
 have hl:ds.length=n:=by simpa using h.1
 rw [h.cellAt k (by omega),List.getElem?_map,getElem?_dg (by omega)]
 rfl
theorem own_set {w:World} {base g n cap:Nat} {ds:List Nat} (h:w.ownsRow base 123 1 (.slice (some ⟨g,0,none⟩) n cap) n (ds.map uc)) (k:Nat) {z:Int} (hz:0≤z):
 (w.setCell ⟨g,k,none⟩ (.int .u32 z)).ownsRow base 123 1 (.slice (some ⟨g,0,none⟩) n cap) n ((ds.set k z.toNat).map uc):=by
 have:=(h.stored k (.int .u32 z)).1
 have e:(ds.map uc).set k (.int .u32 z)=(ds.set k z.toNat).map uc:=by
  rw [List.map_set];simp [uc,Int.toNat_of_nonneg hz]
 rwa [e] at this
theorem grown_set {w0 w:World} {g:Nat} (h:w0.grownBy w (some g)) (k:Nat) (u:Value):w0.grownBy (w.setCell ⟨g,k,none⟩ u) (some g):=
 ⟨h.os,h.tape,h.output,by simpa using h.size,fun i hi hne=>(heap_setCell_other w ⟨g,k,none⟩ i u (fun e=>hne (by simp [e]))).trans (h.block i hi hne)⟩
theorem divw_int {d r x:Int} {D R X:Nat} (hd:d=D) (hr:r=R) (hx:x=X):(r * 4294967296+x) / d=(((R * B32+X) / D:Nat):Int)∧(r * 4294967296+x) % d=(((R * B32+X) % D:Nat):Int):=by
 subst hd hr hx
 have e:((R:Int) * 4294967296+X)=((R * B32+X:Nat):Int):=by rw [Int.natCast_add,Int.natCast_mul];rfl
 rw [e]
 exact ⟨by rw [Int.natCast_ediv],by rw [Int.natCast_emod]⟩
theorem divw_bound {d r x:Int} (hd:1≤d) (hr0:0≤r) (hr:r < d) (hx0:0≤x) (hx:x≤4294967295):0≤(r * 4294967296+x) / d∧(r * 4294967296+x) / d≤4294967295:=by
 refine ⟨Int.ediv_nonneg (by omega) (by omega),?_⟩
 have:(r * 4294967296+x) / d < 4294967296:=by
  rw [Int.ediv_lt_iff_lt_mul (by omega)]
  have:(r+1) * 4294967296≤d * 4294967296:=Int.mul_le_mul_of_nonneg_right (by omega) (by omega)
  omega
 omega
theorem divw_fin {ds Q:List Nat} {d r:Int} (d0:1≤d) (r0:0≤r) (r1:r < d) (h:val (ds.drop (-1+1:Int).toNat)=d.toNat * val (Q.drop (-1+1:Int).toNat)+r.toNat):
 r=((val ds % d.toNat:Nat):Int)∧val Q=val ds / d.toNat:=by
 have h':val ds=d.toNat * val Q+r.toNat:=by simpa using h
 have hlt:r.toNat < d.toNat:=by omega
 rw [h']
 rw [Nat.mul_add_mod,Nat.mod_eq_of_lt hlt,Nat.mul_add_div (by omega),Nat.div_eq_of_lt hlt]
 exact ⟨by omega,by omega⟩
theorem divw_round {ds Q:List Nat} {d r:Int} {j:Nat} (d0:1≤d) (r0:0≤r) (hj:j < Q.length) (hs:dg Q j=dg ds j) (h:val (ds.drop ((j:Int)+1).toNat)=d.toNat * val (Q.drop ((j:Int)+1).toNat)+r.toNat):
 True∧val (ds.drop ((j:Int) - 1+1).toNat)=d.toNat * val ((Q.set j ((r * 4294967296+di Q j) / d).toNat).drop ((j:Int) - 1+1).toNat)+((r * 4294967296+di Q j) % d).toNat:=by
 refine ⟨trivial,?_⟩
 obtain ⟨e1,e2⟩:=divw_int (d:=d) (r:=r) (x:=di Q j) (D:=d.toNat) (R:=r.toNat) (X:=dg ds j) (by omega) (by omega) (by rw [di_eq,hs])
 rw [e1,e2,Int.toNat_natCast,Int.toNat_natCast,show ((j:Int) - 1+1).toNat=j from by omega]
 rw [show ((j:Int)+1).toNat=j+1 from by omega] at h
 exact divw_step hj h
theorem divWord_any (base g n cap:Nat) (ds:List Nat) (d:Int) (w:World) (h:w.ownsRow base 123 1 (.slice (some ⟨g,0,none⟩) n cap) n (ds.map uc)) (ok:okD ds) (hn:n≤1099511627776) (d0:1≤d) (d1:d≤4294967295):
 Calls Tryz.prog 172 #[.slice (some ⟨g,0,none⟩) n cap,.int .u32 d] w fun e w'=>∃Q:List Nat,e= .returned (.int .u32 ((val ds % d.toNat:Nat):Int))∧Q.length=ds.length∧okD Q∧val Q=val ds / d.toNat∧
  w'.ownsRow base 123 1 (.slice (some ⟨g,0,none⟩) n cap) n (Q.map uc)∧w.grownBy w' (some g):=by
 have hl:ds.length=n:=by simpa using h.1
 have HL:=Lib.hid hl
 clear hl
 go_enter Tryz.func172,Tryz.ntmps172
 go_wp2
 go_loopw [5,6] (fun x i wr=>∃(z r:Int) (Q:List Nat),-1≤z∧z < n∧i= .int .i64 z∧x= .int .u64 r∧0≤r∧r < d∧n≤Q.length∧Q.length≤n∧okD Q∧wr.ownsRow base 123 1 (.slice (some ⟨g,0,none⟩) n cap) n (Q.map uc)∧w.grownBy wr (some g)∧
  (∀i:Nat,i≤z→dg Q i=dg ds i)∧val (ds.drop (z+1).toNat)=d.toNat * val (Q.drop (z+1).toNat)+r.toNat) (fun _ i _=>(intOf i+1).toNat)
 case atStart=>exact ⟨(n:Int) - 1,0,ds,by omega,by omega,rfl,rfl,by omega,by omega,by rw [HL.out];exact Nat.le_refl _,by rw [HL.out];exact Nat.le_refl _,ok,h,World.grownBy.refl _ _,fun _ _=>rfl,by
  rw [List.drop_eq_nil_of_le (by rw [HL.out];omega)];simp [val]⟩
 case round=>
  obtain ⟨z,r,Q,hz0,hz,rfl,rfl,r0,r1,hQ,hQ',okQ,hown,hgr,hsame,heq⟩:=hrel
  have HS:=Lib.hid hsame
  have HE:=Lib.hid heq
  clear hsame heq
  rcases Int.lt_or_le z 0 with h0 | h0
  ·obtain rfl:z= -1:=by omega
   go_wp2
   go_ret
   obtain ⟨e1,e2⟩:=divw_fin d0 r0 r1 HE.out
   exact ⟨Q,ret_int e1,by rw [HL.out];omega,okQ,e2,hown,hgr⟩
  ·obtain ⟨j,rfl⟩:=Int.eq_ofNat_of_zero_le h0
   have hc:=own_cell hown (k:=j) (by omega)
   have hf:=hown.frozenAt j
   have x0:=di_nonneg Q j
   have x1:=di_le okQ j
   have hor:=or_words x0 x1 r0 (by omega)
   have hbd:=divw_bound d0 r0 r1 x0 x1
   obtain ⟨hb0,hb1⟩:=hbd
   go_wp2
   go_roundw
   case rel=>
    obtain ⟨e1,e2⟩:=divw_round (Q:=Q) d0 r0 (show j < Q.length by omega) (HS.out j (by omega)) HE.out
    exact ⟨(j:Int) - 1,_,Q.set j ((r * 4294967296+di Q j) / d).toNat,by omega,by omega,rfl,rfl,Int.emod_nonneg _ (by omega),Int.emod_lt_of_pos _ (by omega),by simpa using hQ,by simpa using hQ',okD_set okQ j (by unfold B32;omega),own_set hown j hb0,grown_set hgr _ _,
     fun i hi=>by rw [dg_set_ne (by omega)];exact HS.out i (by omega),e2⟩
   case measure=>simp [intOf]
theorem far_cell {w wr:World} {g b:Nat} {n off:Nat} {ds:List Nat} (hg:w.grownBy wr (some g)) (hne:b≠g) (h:∀k,k < n→w.cell? ⟨b,off+k,none⟩=some (.int .u32 (di ds k))) {k:Nat} (hk:k < n):wr.cell? ⟨b,off+k,none⟩=some (.int .u32 (di ds k)):=
 hg.cell (h k hk) (by simp;exact hne)
def KnG (U vs:List Nat) (m:Nat) (w:World) (s7:Value) (wx:World):Prop:=
 ∃(G:Int) (k:Nat),s7= .int .u64 G∧0≤G∧G≤4294967295∧((vt U (m+3) / vt vs (m+2):Nat):Int)≤G∧G.toNat * vt vs (m+2)≤vt U (m+3)+vt vs (m+2)∧wx=w.drewN k
theorem kn_g0 {T v:Int} (hv:2147483648≤v) (hT:T≤v * 4294967296+4294967295):T / v≤4294967298:=by
 have:T / v < 4294967298+1:=by
  rw [Int.ediv_lt_iff_lt_mul (by omega)]
  omega
 omega
theorem and_mask {z:Int} (h0:0≤z) (h1:z≤18446744073709551615):bits .and .u64 z 4294967295=z % 4294967296:=by
 obtain ⟨n,rfl⟩:=Int.eq_ofNat_of_zero_le h0
 have e:=u64_and_nat n 4294967295 (by omega) (by decide)
 have e2:n &&& 4294967295=n % 4294967296:=Nat.and_two_pow_sub_one_eq_mod n 32
 rw [e2] at e
 rw [show ((4294967295:Int))=((4294967295:Nat):Int) from rfl,e]
 omega
theorem drop_set_at {X:List Nat} {o k d:Nat}:(X.set (o+k) d).drop o=(X.drop o).set k d:=by
 rw [List.drop_set,if_neg (by omega),Nat.add_sub_cancel_left]
theorem kn_vpos {vs:List Nat} {m:Nat} (_ok:okD vs) (h:2147483648≤di vs (m+1)):0 < vt vs (m+2):=by
 rw [vt_v1]
 have:0 < dg vs (m+1) * B32^(m+1):=Nat.mul_pos (by rw [di_eq] at h;omega) (Nat.pow_pos B32_pos)
 omega
theorem kn_back {Y Y0 X vs:List Nat} {n R:Nat} {z:Int} (okY:okD Y) (okV:okD vs) (hV:0 < vt vs n) (z0:0≤z) (z1:z≤1) (h:(vt Y n:Int)+z * ((B32^n:Nat):Int)=vt Y0 n+vt vs n) (hY:vt Y0 n=vt X n) (hX:vt X n+vt vs n=R % vt vs n+B32^n):
 z=1∧vt Y n=R % vt vs n:=by
 have h1:=vt_lt okY n
 have h2:=vt_lt okV n
 have h3:=Nat.mod_lt R hV
 have hz:z=0∨z=1:=by omega
 generalize R % vt vs n=r at *
 generalize B32^n=p at *
 rcases hz with rfl | rfl
 ·omega
 ·exact ⟨rfl,by omega⟩
theorem kn_eq {G R v T:Int} (h:G * v+R=T):(G - 1) * v+(R+v)=T:=by rw [Int.sub_mul];omega
theorem kn_qlt {U vs:List Nat} {m:Nat} (h:vt U (m+3) < B32 * vt vs (m+2)):((vt U (m+3) / vt vs (m+2):Nat):Int)≤4294967295:=by
 have:vt U (m+3) / vt vs (m+2) < B32:=by
  rw [Nat.div_lt_iff_lt_mul (Nat.pos_of_ne_zero (fun e=>by rw [e] at h;simp at h))];exact h
 unfold B32 at this
 omega
theorem kn_pos {G x:Int} (h:0≤G) (hx:0 < G * x):1≤G:=by
 rcases Int.lt_or_eq_of_le h with h1 | h1
 ·omega
 ·subst h1;simp at hx
theorem kn_break {U vs:List Nat} {m k:Nat} {w:World} {G R T:Int} (okV:okD vs) (hG:1≤G) (hv:1≤di vs (m+1)) (_R0:0≤R) (v00:0≤di vs m) (v01:di vs m≤4294967295) (u00:0≤di U m) (rb:4294967296≤R+di vs (m+1))
 (T1:T≤di vs (m+1) * 4294967296+4294967295) (hT:di U (m+2) * 4294967296+di U (m+1)=T) (hGR:G * di vs (m+1)+R=T) (hq:((vt U (m+3) / vt vs (m+2):Nat):Int)≤G - 1):KnG U vs m w (.int .u64 (G - 1)) (w.drewN k):=by
 have e:=kn_eq hGR
 have hlt:G - 1 < 4294967296:=by
  have:(G - 1) * di vs (m+1) < 4294967296 * di vs (m+1):=by omega
  exact Int.lt_of_mul_lt_mul_right this (by omega)
 have ht:(G - 1) * di vs m≤4294967295 * 4294967295:=Int.mul_le_mul (by omega) v01 v00 (by omega)
 exact ⟨G - 1,k,rfl,by omega,by omega,hq,kn_done (R:=R+di vs (m+1)) okV (by omega) (by omega) (by omega) hv (by rw [hT];exact e) (by omega),rfl⟩
theorem divStep_any (g o m cu b2 off2 cv:Nat) (O vs:List Nat) (w:World) (hO:DigB w g O) (okO:okD O) (hlen:o+m+3≤O.length) (hcu:m+3≤cu) (hcu':cu≤9223372036854775807)
 (okV:okD vs) (hne:b2≠g) (hv:∀k,k < m+2→w.cell? ⟨b2,off2+k,none⟩=some (.int .u32 (di vs k)))
 (hm:m≤1099511627776) (hnorm:2147483648≤di vs (m+1)) (hlt:vt (O.drop o) (m+3) < B32 * vt vs (m+2)):
 Calls Tryz.prog 177 #[.slice (some ⟨g,o,none⟩) (m+3) cu,.slice (some ⟨b2,off2,none⟩) (m+2) cv] w fun e w'=>∃O':List Nat,
  e= .returned (.int .u32 ((vt (O.drop o) (m+3) / vt vs (m+2):Nat):Int))∧DigB w' g O'∧O'.length=O.length∧okD O'∧(∀i,i < o∨o+m+3≤i→dg O' i=dg O i)∧vt (O'.drop o) (m+3)=vt (O.drop o) (m+3) % vt vs (m+2)∧w.grownBy w' (some g):=by
 obtain ⟨U,hU⟩:∃U,U=O.drop o:=⟨_,rfl⟩
 rw [← hU] at hlt
 rw [← hU]
 have HV:=Lib.hid hv
 have HT:=Lib.hid hlt
 clear hv hlt
 have okU:okD U:=hU▸okD_drop okO o
 have hc2:w.cell? ⟨g,o+(m+2),none⟩=some (.int .u32 (di U (m+2))):=by rw [hO.cell (by omega),hU];simp [di,dg_drop]
 have hc1:w.cell? ⟨g,o+(m+1),none⟩=some (.int .u32 (di U (m+1))):=by rw [hO.cell (by omega),hU];simp [di,dg_drop]
 have hc0:w.cell? ⟨g,o+m,none⟩=some (.int .u32 (di U m)):=by rw [hO.cell (by omega),hU];simp [di,dg_drop]
 have hd1:=HV.out (m+1) (by omega)
 have hd0:=HV.out m (by omega)
 have HU:=Lib.hid hU
 clear hU
 have u20:=di_nonneg U (m+2)
 have u21:=di_le okU (m+2)
 have u10:=di_nonneg U (m+1)
 have u11:=di_le okU (m+1)
 have u00:=di_nonneg U m
 have u01:=di_le okU m
 have v10:=di_nonneg vs (m+1)
 have v11:=di_le okV (m+1)
 have v00:=di_nonneg vs m
 have v01:=di_le okV m
 have htop:=kn_top okV HT.out
 have i1:IntKind.i64.wrap ((m:Int)+2 - 1)=(m:Int)+1:=by rw [IntWalk.i64_in _ (by omega)];omega
 have i2:((m:Int)+2).toNat=m+2:=by omega
 have i3:((m:Int)+1).toNat=m+1:=by omega
 have i4:(0:Int)≤(m:Int)+2:=by omega
 have i5:(0:Int)≤(m:Int)+1:=by omega
 have i6:(m:Int)+2 < (m:Int)+3:=by omega
 have i7:(m:Int)+1 < (m:Int)+3:=by omega
 have i8:(m:Int)+1 < (m:Int)+2:=by omega
 have r1:IntKind.u64.wrap (di U (m+2))=di U (m+2):=u64_in _ u20 (by omega)
 have r2:IntKind.u64.wrap (di U (m+1))=di U (m+1):=u64_in _ u10 (by omega)
 have r3:IntKind.u64.wrap (di U (m+2) * 4294967296)=di U (m+2) * 4294967296:=u64_in _ (by omega) (by omega)
 have r4:=or_words u10 u11 u20 u21
 go_enter Tryz.func177,Tryz.ntmps177
 go_wp2
 go_quiet (fail)
 go_wp2
 clear r1 r2 r3 r4 hc2 hc1
 have q1:IntKind.u64.wrap (di vs (m+1))=di vs (m+1):=u64_in _ v10 (by omega)
 go_quiet (fail)
 generalize hT:di U (m+2) * 4294967296+di U (m+1)=T at *
 have T0:0≤T:=by omega
 have T1:T≤di vs (m+1) * 4294967296+4294967295:=by omega
 have HTT:=Lib.hid hT
 clear hT
 have hqU:vt U (m+3) / vt vs (m+2) * vt vs (m+2)≤vt U (m+3):=Nat.div_mul_le_self _ _
 have HQ:=Lib.hid hqU
 clear hqU
 go_upto_block 0 with (fail)
 go_cut [7] (fun s7 wx=>KnG U vs m w s7 wx)
 case first=>
  go_wp2_with fail
  go_loopw [7,8] (fun x y wr=>∃(G R:Int) (k:Nat),x= .int .u64 G∧y= .int .u64 R∧wr=w.drewN k∧0≤G∧G≤4294967298∧0≤R∧R≤4294967295∧G * di vs (m+1)+R=T∧((vt U (m+3) / vt vs (m+2):Nat):Int)≤G) (fun x _ _=>(intOf x).toNat)
  case atStart=>
   exact ⟨_,_,_,rfl,rfl,World.drewN_drewN _ _ _,Int.ediv_nonneg T0 (by omega),kn_g0 (by omega) T1,Int.emod_nonneg _ (by omega),by have:=Int.emod_lt_of_pos T (show 0 < di vs (m+1) by omega);omega,by rw [Int.mul_comm];exact Int.mul_ediv_add_emod _ _,by rw [← HTT.out];exact kn_init okU HQ.out (by omega)⟩
  case round=>
   obtain ⟨G,R,k,rfl,rfl,rfl,G0,G1,R0,R1,hGR,hqG⟩:=hrel
   have HGR:=Lib.hid hGR
   have HqG:=Lib.hid hqG
   clear hGR hqG
   have j1:IntKind.i64.wrap ((m:Int)+2 - 2)=(m:Int):=by rw [IntWalk.i64_in _ (by omega)];omega
   have j2:(0:Int)≤(m:Int):=by omega
   have j3:(m:Int) < (m:Int)+2:=by omega
   have j4:(m:Int) < (m:Int)+3:=by omega
   rcases Int.lt_or_le (R+di vs (m+1)) 4294967296 with rb | rb
   ·rcases Int.lt_or_le G 4294967296 with gb | gb
    ·have gd:decide (4294967296≤G)=false:=by simp;omega
     have p0:0≤G * di vs m:=Int.mul_nonneg G0 v00
     have p1:G * di vs m≤4294967295 * 4294967295:=Int.mul_le_mul (by omega) v01 v00 (by omega)
     have s1:IntKind.u64.wrap (di vs m)=di vs m:=u64_in _ v00 (by omega)
     have s2:IntKind.u64.wrap (G * di vs m)=G * di vs m:=u64_in _ p0 (by omega)
     have s3:IntKind.u64.wrap (R * 4294967296)=R * 4294967296:=u64_in _ (by omega) (by omega)
     have s4:IntKind.u64.wrap (di U m)=di U m:=u64_in _ u00 (by omega)
     have s5:=or_words u00 u01 R0 R1
     rcases Int.lt_or_le (R * 4294967296+di U m) (G * di vs m) with tt | tt
     ·have td:decide (R * 4294967296+di U m < G * di vs m)=true:=by simpa using tt
      have g1:1≤G:=kn_pos (x:=di vs m) G0 (by omega)
      go_wp2
      go_quiet (fail)
      go_wp2
      go_roundw
      case rel=>exact ⟨G - 1,_,_,rfl,rfl,rfl,by omega,by omega,by omega,by omega,kn_eq HGR.out,kn_down okU HQ.out G0 R0 (by rw [HTT.out];exact HGR.out) tt⟩
      case measure=>simp [intOf];omega
     ·have td:decide (R * 4294967296+di U m < G * di vs m)=false:=by simpa using tt
      go_wp2
      go_quiet (fail)
      go_wp2
      go_meet
      exact ⟨G,_,rfl,G0,by omega,HqG.out,kn_done okV G0 (by omega) R0 (by omega) (by rw [HTT.out];exact HGR.out) tt,World.drewN_drewN _ _ _⟩
    ·have gd:decide (4294967296≤G)=true:=by simpa using gb
     go_wp2
     go_quiet (fail)
     go_wp2
     go_roundw
     case rel=>exact ⟨G - 1,_,_,rfl,rfl,rfl,by omega,by omega,by omega,by omega,kn_eq HGR.out,by have:=kn_qlt HT.out;omega⟩
     case measure=>simp [intOf];omega
   ·rcases Int.lt_or_le G 4294967296 with gb | gb
    ·have gd:decide (4294967296≤G)=false:=by simp;omega
     have p0:0≤G * di vs m:=Int.mul_nonneg G0 v00
     have p1:G * di vs m≤4294967295 * 4294967295:=Int.mul_le_mul (by omega) v01 v00 (by omega)
     have s1:IntKind.u64.wrap (di vs m)=di vs m:=u64_in _ v00 (by omega)
     have s2:IntKind.u64.wrap (G * di vs m)=G * di vs m:=u64_in _ p0 (by omega)
     have s3:IntKind.u64.wrap (R * 4294967296)=R * 4294967296:=u64_in _ (by omega) (by omega)
     have s4:IntKind.u64.wrap (di U m)=di U m:=u64_in _ u00 (by omega)
     have s5:=or_words u00 u01 R0 R1
     rcases Int.lt_or_le (R * 4294967296+di U m) (G * di vs m) with tt | tt
     ·have td:decide (R * 4294967296+di U m < G * di vs m)=true:=by simpa using tt
      have g1:1≤G:=kn_pos (x:=di vs m) G0 (by omega)
      go_wp2
      go_quiet (fail)
      go_wp2
      go_meet
      exact kn_break okV (by omega) (by omega) R0 v00 v01 u00 rb T1 HTT.out HGR.out (kn_down okU HQ.out G0 R0 (by rw [HTT.out];exact HGR.out) tt)
     ·have td:decide (R * 4294967296+di U m < G * di vs m)=false:=by simpa using tt
      go_wp2
      go_quiet (fail)
      go_wp2
      go_meet
      exact ⟨G,_,rfl,G0,by omega,HqG.out,kn_done okV G0 (by omega) R0 (by omega) (by rw [HTT.out];exact HGR.out) tt,World.drewN_drewN _ _ _⟩
    ·have gd:decide (4294967296≤G)=true:=by simpa using gb
     go_wp2
     go_quiet (fail)
     go_wp2
     go_meet
     exact kn_break okV (by omega) (by omega) R0 v00 v01 u00 rb T1 HTT.out HGR.out (by have:=kn_qlt HT.out;omega)
 case rest=>
  obtain ⟨G,k0,rfl,G0,G1,hqG,hGU,rfl⟩:=hcut
  have HqG:=Lib.hid hqG
  have HGU:=Lib.hid hGU
  clear hqG hGU hc0 hd1 hd0 i1 i2 i3 i4 i5 i6 i7 i8 q1 htop
  go_wp2_with fail
  go_loopw [9,10,85] (fun cy bo i wr=>∃(k:Nat) (X:List Nat) (c b:Int),k≤m+2∧i= .int .i64 k∧cy= .int .u64 c∧bo= .int .i64 b∧0≤c∧c≤4294967295∧0≤b∧b≤1∧O.length≤X.length∧X.length≤O.length∧DigB wr g X∧okD X∧w.grownBy wr (some g)∧
   (∀i,i < o→dg X i=dg O i)∧(∀i,o+k≤i→dg X i=dg O i)∧(vt (X.drop o) k:Int) - (c+b) * ((B32^k:Nat):Int)=vt U k - G * vt vs k) (fun _ _ i _=>m+2 - (intOf i).toNat)
  case atStart=>exact ⟨0,O,0,0,by omega,rfl,rfl,rfl,by omega,by omega,by omega,by omega,Nat.le_refl _,Nat.le_refl _,hO,okO,⟨rfl,rfl,rfl,Nat.le_refl _,fun _ _ _=>rfl⟩,fun _ _=>rfl,fun _ _=>rfl,by simp [vt_zero]⟩
  case round=>
   obtain ⟨k,X,c,b,hk,rfl,rfl,rfl,c0,c1,b0,b1,hX,hX',hB,okX,hgr,hlow,hhigh,heq⟩:=hrel
   have HE:=Lib.hid heq
   have HLo:=Lib.hid hlow
   have HHi:=Lib.hid hhigh
   clear heq hlow hhigh
   rcases Nat.lt_or_ge k (m+2) with hkl | hkl
   ·have hv:=far_cell hgr hne HV.out hkl
    have x0:=di_nonneg vs k
    have x1:=di_le okV k
    have p0:0≤G * di vs k:=Int.mul_nonneg G0 x0
    have p1:G * di vs k≤4294967295 * 4294967295:=Int.mul_le_mul G1 x1 x0 (by omega)
    have hu:wr.cell? ⟨g,o+k,none⟩=some (.int .u32 (di U k)):=by rw [hB.cell (by omega),di_eq,HHi.out _ (Nat.le_refl _),HU.out,di_eq,dg_drop]
    have hf:=hB.frozen (o+k)
    have y0:=di_nonneg U k
    have y1:=di_le okU k
    have hmask:=and_mask (show 0≤c+G * di vs k by omega) (show c+G * di vs k≤18446744073709551615 by omega)
    go_wp2
    ·go_roundw
     case rel=>exact ⟨k+1,X.set (o+k) ((di U k - b - (c+G * di vs k)) % 4294967296).toNat,_,1,by omega,by go_num,rfl,rfl,by omega,by omega,by omega,by omega,by simpa using hX,by simpa using hX',hB.setI _ (by omega),okD_set okX _ (by unfold B32;omega),grown_set hgr _ _,
      fun i hi=>by rw [dg_set_ne (by omega)];exact HLo.out i hi,fun i hi=>by rw [dg_set_ne (by omega)];exact HHi.out i (by omega),by
       rw [drop_set_at];exact msub_step (y:=(c+G * di vs k) % 4294967296) (by rw [List.length_drop];omega) (by omega) (by omega) (by omega) HE.out⟩
     case measure=>simp [intOf];omega
    ·go_roundw
     case rel=>exact ⟨k+1,X.set (o+k) (di U k - b - (c+G * di vs k) % 4294967296).toNat,_,0,by omega,by go_num,rfl,rfl,by omega,by omega,by omega,by omega,by simpa using hX,by simpa using hX',hB.setI _ (by omega),okD_set okX _ (by unfold B32;omega),grown_set hgr _ _,
      fun i hi=>by rw [dg_set_ne (by omega)];exact HLo.out i hi,fun i hi=>by rw [dg_set_ne (by omega)];exact HHi.out i (by omega),by
       rw [drop_set_at];exact msub_step (y:=(c+G * di vs k) % 4294967296) (by rw [List.length_drop];omega) (by omega) (by omega) (by omega) HE.out⟩
     case measure=>simp [intOf];omega
   ·obtain rfl:k=m+2:=by omega
    have hu:wr.cell? ⟨g,o+(m+2),none⟩=some (.int .u32 (di U (m+2))):=by rw [hB.cell (by omega),di_eq,HHi.out _ (Nat.le_refl _),HU.out,di_eq,dg_drop]
    have hf:=hB.frozen (o+(m+2))
    have y0:=di_nonneg U (m+2)
    have y1:=di_le okU (m+2)
    obtain ⟨hpos,hneg⟩:=msub_end (okD_drop okX o) okV (kn_vpos okV hnorm) rfl HqG.out HGU.out HE.out
    rcases Int.lt_or_le (di U (m+2) - b - c) 0 with ht | ht
    ·obtain ⟨e1,e2,e3⟩:=hneg ht
     clear hpos hneg
     have E2:=Lib.hid e2
     have E3:=Lib.hid e3
     have E1:=Lib.hid e1
     have t1: -1≤di U (m+2) - b - c:=by omega
     have g1:1≤G:=by have:=Int.natCast_nonneg (vt U (m+2+1) / vt vs (m+2));omega
     clear e1 e2 e3
     obtain ⟨Y0,hY0⟩:∃Y0,Y0=X.set (o+(m+2)) ((di U (m+2) - b - c) % 4294967296).toNat:=⟨_,rfl⟩
     have hBY:DigB (wr.setCell ⟨g,o+(m+2),none⟩ (.int .u32 ((di U (m+2) - b - c) % 4294967296))) g Y0:=by rw [hY0];exact hB.setI _ (by omega)
     have okY:okD Y0:=by rw [hY0];exact okD_set okX _ (by unfold B32;omega)
     have hgY:w.grownBy (wr.setCell ⟨g,o+(m+2),none⟩ (.int .u32 ((di U (m+2) - b - c) % 4294967296))) (some g):=grown_set hgr _ _
     have lY:Y0.length=X.length:=by rw [hY0];simp
     have lY1:O.length≤Y0.length:=by omega
     have lY2:Y0.length≤O.length:=by omega
     clear lY
     have loY:∀i,i < o→dg Y0 i=dg O i:=fun i hi=>by rw [hY0,dg_set_ne (by omega)];exact HLo.out i hi
     have hiY:∀i,o+m+3≤i→dg Y0 i=dg O i:=fun i hi=>by rw [hY0,dg_set_ne (by omega)];exact HHi.out i (by omega)
     have topY:di Y0 (o+(m+2))=4294967295:=by rw [hY0,di_eq,dg_set_eq (by omega),E1.out];rfl
     have vtY:vt (Y0.drop o) (m+2)=vt (X.drop o) (m+2):=by rw [hY0,drop_set_at,vt_set_le (Nat.le_refl _)]
     have LoY:=Lib.hid loY
     have HiY:=Lib.hid hiY
     have TopY:=Lib.hid topY
     have VtY:=Lib.hid vtY
     clear loY hiY topY vtY hY0
     go_wp2_with fail
     clear hu hf hgr hB
     go_loopw [15,138] (fun cy i wr=>∃(k:Nat) (Y:List Nat) (z:Int),k≤m+2∧i= .int .i64 k∧cy= .int .u64 z∧0≤z∧z≤1∧O.length≤Y.length∧Y.length≤O.length∧DigB wr g Y∧okD Y∧w.grownBy wr (some g)∧
      (∀i,i < o∨o+k≤i→dg Y i=dg Y0 i)∧(vt (Y.drop o) k:Int)+z * ((B32^k:Nat):Int)=vt (Y0.drop o) k+vt vs k) (fun _ i _=>m+2 - (intOf i).toNat)
     case atStart=>exact ⟨0,Y0,0,by omega,rfl,rfl,by omega,by omega,lY1,lY2,hBY,okY,hgY,fun _ _=>rfl,by simp [vt_zero]⟩
     case round=>
      clear hBY hgY
      obtain ⟨k,Y,z,hk',rfl,rfl,z0,z1,hY,hY',hB,okY',hgr,hsame,heq⟩:=hrel
      have HE':=Lib.hid heq
      have HS:=Lib.hid hsame
      clear heq hsame
      rcases Nat.lt_or_ge k (m+2) with hkl' | hkl'
      ·have hv:=far_cell hgr hne HV.out hkl'
       have x0:=di_nonneg vs k
       have x1:=di_le okV k
       have hu:wr.cell? ⟨g,o+k,none⟩=some (.int .u32 (di (Y0.drop o) k)):=by rw [hB.cell (by omega),di_eq,HS.out _ (.inr (Nat.le_refl _)),di_eq,dg_drop]
       have hf:=hB.frozen (o+k)
       have w0:=di_nonneg (Y0.drop o) k
       have w1:=di_le (okD_drop okY o) k
       go_wp2
       go_roundw
       case rel=>exact ⟨k+1,Y.set (o+k) ((z+(di (Y0.drop o) k+di vs k)) % 4294967296).toNat,_,by omega,by go_num,rfl,by omega,by omega,by simpa using hY,by simpa using hY',hB.setI _ (by omega),okD_set okY' _ (by unfold B32;omega),grown_set hgr _ _,
        fun i hi=>by rw [dg_set_ne (by omega)];exact HS.out i (by omega),by
         rw [drop_set_at,← Int.add_assoc];exact add_step (by rw [List.length_drop];omega) z0 rfl HE'.out⟩
       case measure=>simp [intOf];omega
      ·obtain rfl:k=m+2:=by omega
       have hu:wr.cell? ⟨g,o+(m+2),none⟩=some (.int .u32 4294967295):=by rw [hB.cell (by omega),di_eq,HS.out _ (.inr (Nat.le_refl _)),← di_eq,TopY.out]
       have hf:=hB.frozen (o+(m+2))
       obtain ⟨f1,f2⟩:=kn_back (okD_drop okY' o) (okV) (kn_vpos okV hnorm) z0 z1 HE'.out VtY.out E3.out
       subst f1
       go_wp2
       go_ret
       refine ⟨Y.set (o+(m+2)) 0,ret_int E2.out,hB.set_ _ 0,by simp;omega,okD_set okY' _ B32_pos,fun i hi=>?_,?_,grown_set hgr _ _⟩
       ·rw [dg_set_ne (by omega),HS.out i (by omega)]
        rcases hi with hi | hi
        ·exact LoY.out i hi
        ·exact HiY.out i hi
       ·rw [drop_set_at,vt_set_succ (by rw [List.length_drop];omega),f2]
        simp
    ·obtain ⟨e1,e2,e3⟩:=hpos ht
     clear hpos hneg
     have E2:=Lib.hid e2
     have E3:=Lib.hid e3
     have E1:=Lib.hid e1
     have t1:di U (m+2) - b - c≤0:=by omega
     clear e1 e2 e3
     go_wp2
     go_ret
     refine ⟨X.set (o+(m+2)) (di U (m+2) - b - c).toNat,ret_int E2.out,hB.setI _ (by omega),by simp;omega,okD_set okX _ (by unfold B32;omega),fun i hi=>?_,?_,grown_set hgr _ _⟩
     ·rw [dg_set_ne (by omega)]
      rcases hi with hi | hi
      ·exact HLo.out i hi
      ·exact HHi.out i (by omega)
     ·rw [drop_set_at,vt_set_succ (by rw [List.length_drop];omega),E1.out]
      simpa using E3.out
theorem DigB.grown {w w':World} {g g':Nat} {ds:List Nat} (h:DigB w g' ds) (hg:w.grownBy w' (some g)) (hne:g'≠g):DigB w' g' ds:=
 (hg.block g' h.lt (by simp;exact hne)).trans h
theorem DigB.far {w:World} {g g':Nat} {ds:List Nat} (h:DigB w g' ds) (hne:g'≠g) (k:Nat) (u:Value):DigB (w.setCell ⟨g,k,none⟩ u) g' ds:=
 (heap_setCell_other w ⟨g,k,none⟩ g' u hne).trans h
theorem DigB.alloc {w:World} {g:Nat} {ds:List Nat} (h:DigB w g ds) (o:Obj):DigB (w.alloc o) g ds:=(Below.heap_alloc w o g h.lt).trans h
theorem below_grown {B:Nat} {w0 w w':World} {g:Nat} (h:Below B w0 w) (hg:w.grownBy w' (some g)) (hB:B≤g) (hs:B≤w.heap.size):Below B w0 w':=
 h.grown hg hs (fun k hk=>by simp at hk;omega)
theorem top_nat {ds:List Nat} {i s:Nat} (h:2147483648≤di ds i * 2^s):2147483648≤dg ds i * 2^s:=by
 rw [di_eq,pow_cast,← Int.natCast_mul] at h;omega
theorem top_nat' {ds:List Nat} {i s:Nat} (h:di ds i * 2^s≤4294967295):dg ds i * 2^s≤4294967295:=by
 rw [di_eq,pow_cast,← Int.natCast_mul] at h;omega
theorem long_lt {O OV:List Nat} {j m:Nat} (okO:okD O) (h:vt (O.drop ((j:Int)+1).toNat) (m+2) < vt OV (m+2)):vt (O.drop j) (m+3) < B32 * vt OV (m+2):=by
 rw [show ((j:Int)+1).toNat=j+1 from by omega] at h
 rw [vt_low,List.drop_drop,dg_drop]
 have h1:=dg_lt okO (j+0)
 have h2:B32 * (vt (O.drop (j+1)) (m+2)+1)≤B32 * vt OV (m+2):=Nat.mul_le_mul_left _ h
 rw [Nat.mul_add,Nat.mul_one] at h2
 omega
theorem divLong_any (v1 v2:Value) (X Y l m:Nat) (w:World) (h1:DigM w v1 (digs X)) (h2:DigM w v2 (digs Y)) (hl1:(digs X).length=l) (hl2:(digs Y).length=m+2) (hlm:m+2≤l) (hs:l≤549755813888):
 Calls Tryz.prog 173 #[v1,v2] w fun e w'=>∃q r,e= .returned (.tuple #[q,r])∧DigM w' q (digs (X / Y))∧DigM w' r (digs (X % Y))∧Below w.heap.size w w':=by
 obtain ⟨A,n1,c,rfl⟩:=h1.shape
 obtain ⟨kl,kl',knc,kc⟩:=h1.len
 obtain ⟨A2,n2,c2,rfl⟩:=h2.shape
 obtain ⟨jl,jl',jnc,jc⟩:=h2.len
 obtain rfl:n1=l:=by omega
 obtain rfl:n2=m+2:=by omega
 obtain ⟨b2,off2,rfl,hb2,hcell2⟩:=h2.at_ (by omega)
 have hy:=hcell2 (m+1) (by omega)
 clear hcell2
 have y1:=di_le (okD_digs Y) (m+1)
 have hYpos:0 < Y:=by
  rcases Nat.eq_zero_or_pos Y with e | e
  ·subst e;rw [digs_zero] at hl2;simp at hl2
  ·exact e
 have y0:1≤di (digs Y) (m+1):=by
  have:=dg_digs_last hYpos
  rw [hl2] at this
  rw [di_eq]
  simp at this
  omega
 have HL1:=Lib.hid hl1
 have HL2:=Lib.hid hl2
 clear hl1 hl2 kl kl' jl jl'
 go_enter Tryz.func173,Tryz.ntmps173
 go_wp2_with fail
 refine (clz32_any _ _ y0 y1).mono ?_
 rintro e w1 ⟨s,rfl,rfl,hs31,ht0,ht1⟩
 have HT0:=Lib.hid ht0
 have HT1:=Lib.hid ht1
 clear ht0 ht1
 go_wp2_with fail
 refine (shiftLeft_any _ (digs Y) s _ h2 hs31 (by rw [HL2.out];omega)).mono ?_
 rw [HL2.out]
 rintro e w1 ⟨OV,rfl,hBV,lV,okV,hV,hbe1⟩
 have LV:=Lib.hid lV
 have HV:=Lib.hid hV
 clear lV hV
 go_wp2_with fail
 refine (shiftLeft_any _ (digs X) s _ (h1.below hbe1) hs31 (by rw [HL1.out];omega)).mono ?_
 rw [HL1.out]
 rintro e w2 ⟨OU,rfl,hBU,lU,okU,hU,hbe2⟩
 have LU:=Lib.hid lU
 have HU:=Lib.hid hU
 clear lU hU
 have hmk:=make_u32 (n1 - (m+2)+1) (by omega)
 have ecast:((n1 - (m+2)+1:Nat):Int)=(n1:Int) - ((m:Int)+2)+1:=by omega
 rw [ecast] at hmk
 clear ecast
 have hb1:=hBV.lt
 have hb2':=hBU.lt
 have hbs:=hbe2.size
 have hbs1:=hbe1.size
 obtain ⟨hVn,htop⟩:=norm_top (ys:=digs Y) rfl HL2.out hs31 (top_nat HT0.out) (top_nat' HT1.out) okV (by rw [HV.out,val_digs])
 have hVpos:0 < vt OV (m+2):=kn_vpos okV (by rw [di_eq];omega)
 have hVle:vt OV (m+2)≤B32^(m+2):=Nat.le_of_lt (vt_lt okV _)
 have hst:=long_start (X:=X) (l:=n1) (m:=m) (OU:=OU) (OV:=OV) (by have:=digs_lt_pow X;rwa [HL1.out] at this) hs31 hlm (by rw [HU.out,val_digs]) (by rw [LU.out];exact Nat.le_refl _) htop
 have HVN:=Lib.hid hVn
 have HTOP:=Lib.hid htop
 have HVP:=Lib.hid hVpos
 have HVL:=Lib.hid hVle
 have HST:=Lib.hid hst
 clear hVn htop hVpos hVle hst
 have hU0:X * 2^s=val OU:=by rw [HU.out,val_digs]
 have HU0:=Lib.hid hU0
 clear hU0
 generalize hgV:w.heap.size=gV at *
 generalize hgU:w1.heap.size=gU at *
 have HGV:=Lib.hid hgV
 have HGU:=Lib.hid hgU
 clear hgV hgU
 go_wp2
 clear hmk
 go_loopw [10] (fun i wr=>∃(z:Int) (O Q:List Nat),-1≤z∧z≤(n1:Int) - (m+2)∧i= .int .i64 z∧n1+1≤O.length∧O.length≤n1+1∧n1 - (m+2)+1≤Q.length∧Q.length≤n1 - (m+2)+1∧DigB wr gU O∧DigB wr gV OV∧DigB wr w2.heap.size Q∧okD O∧okD Q∧Below gV w wr∧
  (∀i:Nat,z+1+(m+2)≤i→dg O i=0)∧vt (O.drop (z+1).toNat) (m+2) < vt OV (m+2)∧X * 2^s=vt OV (m+2) * val (Q.drop (z+1).toNat) * B32^(z+1).toNat+val O) (fun i _=>(intOf i+1).toNat)
 case atStart=>
  refine ⟨_,OU,List.replicate (n1 - (m+2)+1) 0,?_,?_,rfl,?_,?_,by simp,by simp,hBU.alloc _,(hBV.below hbe2 hb1).alloc _,?_,okU,okD_replicate _,?_,?_,?_,?_⟩
  ·omega
  ·omega
  ·rw [LU.out];exact Nat.le_refl _
  ·rw [LU.out];exact Nat.le_refl _
  ·exact DigB.zeros w2 (n1 - (m+2)+1)
  ·have:=(hbe1.trans (hbe2.mono (by omega))).alloc (by omega) (.cells (zc (n1 - (m+2)+1)) 123);exact this
  ·exact fun i hi=>dg_ge (by rw [LU.out];omega)
  ·have e:((n1:Int) - ((m:Int)+2)+1).toNat=n1 - (m+2)+1:=by omega
   rw [e];exact HST.out
  ·rw [List.drop_eq_nil_of_le (by simp;omega),HU0.out];simp [val]
 case round=>
  obtain ⟨z,O,Q,hz0,hz1,rfl,hO,hO',hQ,hQ',hBO,hBV',hBQ,okO,okQ,hbe,hzero,hrem,heq⟩:=hrel
  have HZ:=Lib.hid hzero
  have HR:=Lib.hid hrem
  have HE:=Lib.hid heq
  clear hzero hrem heq
  rcases Int.lt_or_le z 0 with h0 | h0
  ·obtain rfl:z= -1:=by omega
   have hzz:∀i,m+2≤i→dg O i=0:=fun i hi=>HZ.out i (by omega)
   obtain ⟨e1,e2⟩:=long_end (X:=X) (Y:=Y) (s:=s) (m:=m) (O:=O) (Q:=Q) (OV:=OV) (by have:=HE.out;simpa using this) HVN.out hzz (by have:=HR.out;simpa using this)
   have E1:=Lib.hid e1
   have E2:=Lib.hid e2
   clear e1 e2 hzz
   have hDQ:DigM wr (.slice (some ⟨w2.heap.size,0,none⟩) (n1 - (m+2)+1) (n1 - (m+2)+1)) Q:=by
    have:=hBQ.dig okQ (c:=n1 - (m+2)+1) hQ' (by unfold maxLen;omega)
    rwa [show Q.length=n1 - (m+2)+1 from by omega] at this
   have hDO:DigM wr (.slice (some ⟨gU,0,none⟩) (m+2) (n1+1)) (O.take (m+2)):=by
    have:=hBO.dig okO (c:=n1+1) hO' (by unfold maxLen;omega)
    exact this.take (by omega) (by omega) (by unfold maxLen;omega)
   have k1:(0:Int)≤(m:Int)+2:=by omega
   have k2:(m:Int)+2≤(n1:Int)+1:=by omega
   have k3:((m:Int)+2).toNat=m+2:=by omega
   go_wp2_with fail
   go_region_held3 (fun _=>True) (exact trivial)
    (first | (go_at_call 143;refine (trim_any _ Q _ (hDQ.keep (Keep.drew _))).mono ?_;rintro e w5 ⟨v5,rfl,hv5,rfl⟩) | (go_at_call 178;refine (shiftRight_any _ (O.take (m+2)) s _ (hDO.keep (Keep.drew _)) hs31 (by rw [List.length_take];omega)).mono ?_;rintro e w6 ⟨v6,rfl,hv6,hbe6⟩))
   go_wp2
   go_ret2
   refine ⟨v5,v6,rfl,?_,?_,?_⟩
   ·have:=hv5.below hbe6;rwa [E1.out] at this
   ·have h6:DigM w6 v6 (digs (vt O (m+2) / 2^s)):=hv6
    rwa [E2.out] at h6
   ·rw [HGV.out]
    exact hbe.trans ((below_drew hbe6).mono (by have:=hBO.lt;omega))
  ·obtain ⟨j,rfl⟩:=Int.eq_ofNat_of_zero_le h0
   have hq:=hBQ.cell (k:=j) (by omega)
   have hqf:=hBQ.frozen j
   go_wp2_with fail
   rw [show j+(m+2)+1 - j=m+3 from by omega]
   refine (divStep_any gU j m (n1+1 - j) gV 0 (m+2+1) O OV wr hBO okO (by omega) (by omega) (by omega) okV (by omega) ?_ (by omega) ?_ ?_).mono ?_
   ·intro k hk
    rw [Nat.zero_add]
    exact hBV'.cell (by rw [LV.out];omega)
   ·rw [di_eq];have:=HTOP.out;omega
   ·exact long_lt okO HR.out
   rintro e w5 ⟨O2,rfl,hBO2,lO2,okO2,hsame,hrem2,hgr⟩
   obtain ⟨f1,f2,f3⟩:=long_step (U:=X * 2^s) (Q:=Q) (show j < Q.length by omega) HVP.out HVL.out (fun i hi=>HZ.out i (by omega)) hsame hrem2 (by have:=HE.out;rwa [show ((j:Int)+1).toNat=j+1 from by omega] at this)
   have hqlt:vt (O.drop j) (m+3) / vt OV (m+2) < B32:=by
    rw [Nat.div_lt_iff_lt_mul HVP.out];exact long_lt okO HR.out
   have F1:=Lib.hid f1
   have F2:=Lib.hid f2
   have F3:=Lib.hid f3
   have LO2:=Lib.hid lO2
   have hB2:=hBV'.grown hgr (by omega)
   have hB3:=hBQ.grown hgr (by omega)
   have hbe5:=below_grown hbe hgr (by omega) (by have:=hBO.lt;omega)
   generalize vt (O.drop j) (m+3) / vt OV (m+2)=qd at *
   have HQD:=Lib.hid hqlt
   clear f1 f2 f3 lO2 hsame hrem2 hqlt hq hqf
   have hq:=hB3.cell (k:=j) (by omega)
   have hqf:=hB3.frozen j
   go_wp2
   go_roundw
   case rel=>
    refine ⟨(j:Int) - 1,O2,Q.set j qd,?_,?_,rfl,?_,?_,?_,?_,hBO2.far (by omega) _ _,hB2.far (by omega) _ _,hB3.set_ j qd,okO2,okD_set okQ _ HQD.out,hbe5.setCell (by show gV≤w2.heap.size;omega) _,?_,?_,?_⟩
    ·omega
    ·omega
    ·rw [LO2.out];exact hO
    ·rw [LO2.out];exact hO'
    ·simpa using hQ
    ·simpa using hQ'
    ·exact fun i hi=>F1.out i (by omega)
    ·rw [show ((j:Int) - 1+1).toNat=j from by omega];exact F2.out
    ·rw [show ((j:Int) - 1+1).toNat=j from by omega];exact F3.out
   case measure=>simp [intOf]
theorem digs_len2 {X:Nat} (h:(digs X).length≤2):X < B32 * B32:=by
 have h1:=digs_lt_pow X
 have h2:B32^(digs X).length≤B32^2:=Nat.pow_le_pow_right B32_pos h
 rw [show B32^2=B32 * B32 from by rw [Nat.pow_succ,Nat.pow_one]] at h2
 omega
theorem divMag_any (v1 v2:Value) (X Y:Nat) (w:World) (h1:DigM w v1 (digs X)) (h2:DigM w v2 (digs Y)) (hY:0 < Y) (hs:(digs X).length≤549755813888) (hs2:(digs Y).length≤549755813888):
 Calls Tryz.prog 165 #[v1,v2] w fun e w'=>∃q r,e= .returned (.tuple #[q,r])∧DigM w' q (digs (X / Y))∧DigM w' r (digs (X % Y))∧Below w.heap.size w w':=by
 have hq:X < Y→X / Y=0∧X % Y=X:=fun h=>⟨Nat.div_eq_of_lt h,Nat.mod_eq_of_lt h⟩
 have HQ:=Lib.hid hq
 clear hq
 obtain ⟨A,n1,c,rfl⟩:=h1.shape
 obtain ⟨kl,kl',knc,kc⟩:=h1.len
 obtain ⟨A2,n2,c2,rfl⟩:=h2.shape
 obtain ⟨jl,jl',jnc,jc⟩:=h2.len
 have hn2:1≤n2:=by have:=digs_len_pos hY;omega
 go_enter Tryz.func165,Tryz.ntmps165
 go_wp2_with fail
 refine (compareMag_any _ _ X Y _ h1 h2).mono ?_
 rintro e w1 ⟨rfl,hbe1⟩
 have g1:=h1.below hbe1
 have g2:=h2.below hbe1
 rcases Nat.lt_or_ge X Y with hlt | hge
 ·rw [cmpN_lt hlt]
  go_wp2_with fail
  refine (clone_any _ (digs X) _ g1 (by omega)).mono ?_
  rintro e w2 ⟨v',rfl,hown,hbe2⟩
  go_wp2
  go_ret2
  obtain ⟨e1,e2⟩:=HQ.out hlt
  rw [e1,e2]
  exact ⟨_,_,rfl,by rw [digs_zero];exact DigM.nil _ _ _ (by simp),own_dig hown (okD_digs X),hbe1.trans (hbe2.mono hbe1.size)⟩
 ·have hc0:0≤cmpN X Y:=by
   rcases Nat.eq_or_lt_of_le hge with e | e
   ·rw [cmpN_eq e.symm];decide
   ·rw [cmpN_gt e];decide
  generalize cmpN X Y=cc at *
  have hlen:=digs_len_mono hge
  rcases Nat.lt_or_ge 2 n1 with hn | hn
  ·rcases Nat.lt_or_ge 1 n2 with hm | hm
   ·have t1:((n2:Int)==1)=false:=by simp;omega
    go_wp2_with fail
    refine (divLong_any _ _ X Y n1 (n2 - 2) _ g1 g2 (by omega) (by omega) (by omega) (by omega)).mono ?_
    rintro e w2 ⟨q,r,rfl,hq,hr,hbe2⟩
    go_wp2
    go_ret2
    exact ⟨_,_,rfl,hq,hr,hbe1.trans (hbe2.mono hbe1.size)⟩
   ·obtain rfl:n2=1:=by omega
    obtain ⟨b2,off2,rfl,hb2,hcell2⟩:=g2.at_ (by omega)
    have hy:=hcell2 0 (by omega)
    rw [Nat.add_zero] at hy
    clear hcell2
    have hYB:Y < B32:=by
     have:=digs_lt_pow Y
     have e:(digs Y).length=1:=by omega
     rwa [e,Nat.pow_one] at this
    have hdY:di (digs Y) 0=(Y:Int):=by rw [digs_one hY hYB];simp [di,dg]
    have y1:=di_le (okD_digs Y) 0
    have y0:1≤di (digs Y) 0:=by omega
    have HDY:=Lib.hid hdY
    clear hdY hYB
    go_wp2_with fail
    refine (clone_any _ (digs X) _ g1 (by omega)).mono ?_
    rintro e w2 ⟨v',rfl,hown,hbe2⟩
    have hln:(digs X).length=n1:=by omega
    rw [hln] at hown
    obtain ⟨gg,cap,rfl,hgg,_⟩:=hown.form (by omega)
    have hy2:=cell_later hbe2 hy
    go_wp2_with fail
    refine (divWord_any _ _ _ _ (digs X) _ _ hown (okD_digs X) (by omega) y0 y1).mono ?_
    rintro e w3 ⟨Q,rfl,lQ,okQ,vQ,hown3,hgr3⟩
    have hbe3:Below w1.heap.size w1 w3:=below_grown hbe2 hgr3 hgg hbe2.size
    rw [val_digs] at vQ
    rw [val_digs]
    have hrem:((X % (di (digs Y) 0).toNat:Nat):Int)=((X % Y:Nat):Int):=by rw [HDY.out,Int.toNat_natCast]
    rw [hrem]
    have hr1:((X % Y:Nat):Int)≤4294967295:=by have:=Nat.mod_lt X hY;have:=HDY.out;omega
    have hr0:0≤((X % Y:Nat):Int):=by omega
    obtain ⟨rz,hrz⟩:∃rz:Int,rz=((X % Y:Nat):Int):=⟨_,rfl⟩
    rw [← hrz] at hr1 hr0 ⊢
    have HRZ:=Lib.hid hrz
    have VQ:=Lib.hid vQ
    clear hrem hrz vQ lQ
    have hDQ:=own_dig hown3 okQ
    go_wp2_with fail
    refine (trim_any _ Q _ hDQ).mono ?_
    rintro e w4 ⟨v4,rfl,hv4,rfl⟩
    go_wp2_with fail
    refine (fromWord_any rz _ hr0 (by omega)).mono ?_
    rintro e w5 ⟨v5,rfl,hv5,hbe5⟩
    go_wp2
    go_ret2
    refine ⟨_,_,rfl,?_,?_,hbe1.trans ((hbe3.trans (hbe5.mono hbe3.size)).mono hbe1.size)⟩
    ·have:=hv4.below hbe5
     rwa [VQ.out,HDY.out,Int.toNat_natCast] at this
    ·rwa [HRZ.out,Int.toNat_natCast] at hv5
  ·have hX2:X < B32 * B32:=digs_len2 (by omega)
   have hY2:Y < B32 * B32:=digs_len2 (by omega)
   go_wp2_with fail
   refine (toWord_any _ X _ g1 hX2).mono ?_
   rintro e w2 ⟨rfl,hbe2⟩
   go_wp2_with fail
   refine (toWord_any _ Y _ (g2.below hbe2) hY2).mono ?_
   rintro e w3 ⟨rfl,hbe3⟩
   have x1:(X:Int)≤18446744073709551615:=by unfold B32 at hX2;omega
   have y1:(Y:Int)≤18446744073709551615:=by unfold B32 at hY2;omega
   have x0:(0:Int)≤X:=by omega
   have y0:(1:Int)≤Y:=by omega
   have d0:(0:Int)≤(X:Int) / Y:=Int.ediv_nonneg x0 (by omega)
   have d1:(X:Int) / Y≤X:=Int.ediv_le_self _ x0
   have m0:(0:Int)≤(X:Int) % Y:=Int.emod_nonneg _ (by omega)
   have m1:(X:Int) % Y < Y:=Int.emod_lt_of_pos _ (by omega)
   have ed:(X:Int) / Y=((X / Y:Nat):Int):=by rw [Int.natCast_ediv]
   have em:(X:Int) % Y=((X % Y:Nat):Int):=by rw [Int.natCast_emod]
   have ED:=Lib.hid ed
   have EM:=Lib.hid em
   clear ed em hX2 hY2
   generalize (X:Int)=zx at *
   generalize (Y:Int)=zy at *
   have q0:¬zy=0:=by omega
   have q1:IntKind.u64.wrap (zx.tdiv zy)=zx / zy:=IntWalk.u64_quo zx zy ⟨x0,x1,y0⟩
   have q2:zx.tmod zy=zx % zy:=Int.tmod_eq_emod_of_nonneg x0
   have q3:IntKind.u64.wrap (zx % zy)=zx % zy:=u64_in _ m0 (by omega)
   go_wp2_with fail
   go_region_held3 (fun _=>True) (exact trivial)
    (first | (go_at_call_of 159 (Value.int IntKind.u64 (zx / zy));refine (fromWord_any (zx / zy) _ d0 (by omega)).mono ?_;rintro e w5 ⟨v5,rfl,hv5,hbe5⟩) | (go_at_call 159;refine (fromWord_any (zx % zy) _ m0 (by omega)).mono ?_;rintro e w6 ⟨v6,rfl,hv6,hbe6⟩))
   go_wp2
   go_ret2
   refine ⟨v5,v6,rfl,?_,?_,?_⟩
   ·have:=hv5.below hbe6
    rwa [ED.out,Int.toNat_natCast] at this
   ·rwa [EM.out,Int.toNat_natCast] at hv6
   ·have hb6:=(below_drew hbe5).trans (hbe6.mono hbe5.size)
    have hb3:=hbe2.trans (hbe3.mono hbe2.size)
    exact hbe1.trans ((hb3.trans (hb6.mono hb3.size)).mono hbe1.size)
end Go.Proofs.YtncmobkhenfhpaaGreat
