/- Lemmas of the claim; no condition. -/
import Derived.Deep.AppendLies
import Derived.Test.YtncmobkhenfhpaaGreatE3
import Derived.Test.YtncmobkhenfhpaaGreatE4
set_option linter.all false
set_option maxRecDepth 100000
set_option maxHeartbeats 40000000
namespace Go.Proofs.YtncmobkhenfhpaaGreat
open Go.RowKit
open Pl
attribute [local go_sem ↓] Go.wp_at_zero Go.wp_at_succ
theorem Va [Old] {w:World} {base:Nat} {v:Value} {n:Nat} {ds:List Nat} (h:w.ownsRow base 123 1 v n (ds.map uc)) (ok:okD ds):ZQ w v ds:=by
 have hl:ds.length=n:=by simpa using h.1
 subst hl;rcases h.2 with ⟨rfl,h0⟩ | ⟨g,cap,cur,rfl,hb,hg,hnc,hcm,hcs,htake⟩
 ·exact ⟨none,0,by rw [h0],by omega,by simp,ok,fun hp=>by omega⟩
 ·refine ⟨_,cap,rfl,hnc,hcm,ok,fun _=>⟨g,0,cur,_,(0,0),rfl,Or.inl rfl,hg,fun k d hk=>?_⟩⟩;have h1:(cur.toList.take (ds.length * 1))[k]? =some (uc d):=by rw [htake];simp [hk]
  rw [List.getElem?_take] at h1;split at h1
  ·simpa using h1
  ·cases h1
theorem Uk (ds:List Nat):∀u∈ds.map uc,u.oneCell'=true:=by
 intro u hu;obtain ⟨d,_,rfl⟩:=List.mem_map.1 hu;rfl
theorem ZQ.news [Old] {w:World} {ad:Addr} {n c:Nat} {ds:List Nat} (h:ZQ w (.slice (some ad) n c) ds):∀j u,(ds.map uc)[j]? =some u→w.cell? (ad.add j)=some u:=by
 intro j u hu;rw [List.getElem?_map] at hu
 cases hd:ds[j]? with
 | none=>rw [hd] at hu;cases hu
 | some d=>
  rw [hd] at hu;injection hu with hu;subst hu;obtain ⟨A',c1,hv,h1,h2,h3,h4⟩:=h;injection hv with e1 e2 e3;have hj:j < ds.length:=(List.getElem?_eq_some_iff.1 hd).1;obtain ⟨b,a,cs,t,fz,hA,_,hb,e⟩:=h4 (by omega);rw [← e1] at hA;injection hA with hA;subst hA;have:(⟨b,a,none⟩:Addr).add j=⟨b,a+j,none⟩:=by unfold Addr.add;split <;> simp_all
  rw [this,cell_of_row w b (a+j) cs _ fz hb];exact e j d hd
theorem Zaa [Old] (v:Value) (ds:List Nat) (w:World) (h:ZQ w v ds) (hs:ds.length≤1099511627776) (hOl:Zb w:=by (repeat (first | assumption | exact Zb.up (by assumption) hOl | exact Zb.up (Hid.out (by assumption)) hOl | with_reducible refine Zb.set ?_ _ _ | with_reducible refine Zb.mk_ ?_ _ | with_reducible refine Zb.dr ?_ | with_reducible refine Zb.drN ?_ | refine Zb.up (by assumption) ?_ | refine Zb.up (Hid.out (by assumption)) ?_))):
 Calls Tryz.prog 163 #[v] w fun e w'=>∃v',e= .returned v'∧w'.ownsRow w.heap.size 123 1 v' ds.length (ds.map uc)∧Below w.heap.size w w':=by
 have o:=hOl.le;obtain ⟨A,n,c,rfl⟩:=h.shape;obtain ⟨hl,p,q,hc⟩:=h.len;have hn:ds.length=n:=by omega
 rw [hn];have HN:=JZ hn;clear hn;have d:=fun (W:World) (a:Option Addr)=>Go.Lib.run_eql_slice_nil (P:=Tryz.prog) W 44 123 a n c 0 0 Tryz.underlying44
 obtain ⟨i0,hi,j,l,m⟩:=info_parts info_u32
 cases A with
 | none=>
  have i:n=0:=by
   rcases JV n with h0 | h0
   ·exact h0
   ·obtain ⟨b,r,hA,_⟩:=h.at_ h0;cases hA
  subst i;obtain rfl:ds=[]:=List.length_eq_zero_iff.1 HN.out;have:=d w none;clear d;go_enter Tryz.func163,Tryz.ntmps163;go_wp2;go_ret;exact ⟨_,rfl,World.ownsRow_nil _ _ _ _,JR _ _⟩
 | some ad=>
  have:=d w (some ad);clear d;go_enter Tryz.func163,Tryz.ntmps163;go_wp2_with (at_builtin;refine wpList_append_own_at _ rfl (.tmp 5) (.tmp 6) _ rfl w.heap.size 123 i0 _ 1 4 Tryz.underlying44 hi j l m rfl (by decide) (.slice (some ⟨w.heap.size,0,none⟩) 0 0) 0 [] rfl ?c0 ad n c (ds.map uc) rfl ?c1 ?c2 (Uk ds) ?c3 ?c4 ?c5 ?_)
  case c0=>exact World.ownsRow_made w #[] 0 (JY _) (by simp) (by simp)
  case c1=>simp;omega
  case c2=>exact (h.below ((JR _ _).alloc (JY _) _)).news
  case c3=>unfold maxLen;omega
  case c4=>omega
  case c5=>simp
  ·intro v' w1 g f _ _;go_wp2;go_ret;refine ⟨_,rfl,by simpa using g,((JR _ _).alloc (JY _) _).grown f (by simp) (fun k hk=>?_)⟩;simp [Value.ownBlock] at hk;omega
theorem Zxn {w:World} {base g n cap:Nat} {ds:List Nat} (h:w.ownsRow base 123 1 (.slice (some ⟨g,0,none⟩) n cap) n (ds.map uc)) {k:Nat} (hk:k < n):w.cell? ⟨g,k,none⟩=some (.int .u32 (di ds k)):=by
 have hl:ds.length=n:=by simpa using h.1
 rw [h.cellAt k (by omega),List.getElem?_map,Wu (by omega)];rfl
theorem Ybj {w:World} {base g n cap:Nat} {ds:List Nat} (h:w.ownsRow base 123 1 (.slice (some ⟨g,0,none⟩) n cap) n (ds.map uc)) (k:Nat) {z:Int} (hz:0≤z):
 (w.setCell ⟨g,k,none⟩ (.int .u32 z)).ownsRow base 123 1 (.slice (some ⟨g,0,none⟩) n cap) n ((ds.set k z.toNat).map uc):=by
 have:=(h.stored k (.int .u32 z)).1;have e:(ds.map uc).set k (.int .u32 z)=(ds.set k z.toNat).map uc:=by
  rw [List.map_set];simp [uc,Int.toNat_of_nonneg hz]
 rwa [e] at this
theorem Ww {w0 w:World} {g:Nat} (h:w0.grownBy w (some g)) (k:Nat) (u:Value):w0.grownBy (w.setCell ⟨g,k,none⟩ u) (some g):=
 ⟨h.os,h.tape,h.output,by simpa using h.size,fun i hi hne=>(heap_setCell_other w ⟨g,k,none⟩ i u (fun e=>hne (by simp [e]))).trans (h.block i hi hne)⟩
theorem Zxo {d r x:Int} {D R X:Nat} (hd:d=D) (hr:r=R) (hx:x=X):(r * 4294967296+x) / d=(((R * B32+X) / D:Nat):Int)∧(r * 4294967296+x) % d=(((R * B32+X) % D:Nat):Int):=by
 subst hd hr hx;have e:((R:Int) * 4294967296+X)=((R * B32+X:Nat):Int):=by rw [Int.natCast_add,Int.natCast_mul];rfl
 rw [e];exact ⟨by rw [Int.natCast_ediv],by rw [Int.natCast_emod]⟩
theorem Zqz {d r x:Int} (hd:1≤d) (hr0:0≤r) (hr:r < d) (hx0:0≤x) (hx:x≤4294967295):0≤(r * 4294967296+x) / d∧(r * 4294967296+x) / d≤4294967295:=by
 refine ⟨Int.ediv_nonneg (by omega) (by omega),?_⟩;have:(r * 4294967296+x) / d < 4294967296:=by
  rw [Int.ediv_lt_iff_lt_mul (by omega)];have:(r+1) * 4294967296≤d * 4294967296:=Int.mul_le_mul_of_nonneg_right (by omega) (by omega);omega
 omega
theorem Zxp {ds Q:List Nat} {d r:Int} (d0:1≤d) (r0:0≤r) (r1:r < d) (h:val (ds.drop (-1+1:Int).toNat)=d.toNat * val (Q.drop (-1+1:Int).toNat)+r.toNat):
 r=((val ds % d.toNat:Nat):Int)∧val Q=val ds / d.toNat:=by
 have h':val ds=d.toNat * val Q+r.toNat:=by simpa using h
 have a:r.toNat < d.toNat:=by omega
 rw [h'];rw [Nat.mul_add_mod,Nat.mod_eq_of_lt a,Nat.mul_add_div (by omega),Nat.div_eq_of_lt a];exact ⟨by omega,by omega⟩
theorem Zra {ds Q:List Nat} {d r:Int} {j:Nat} (d0:1≤d) (r0:0≤r) (hj:j < Q.length) (hs:dg Q j=dg ds j) (h:val (ds.drop ((j:Int)+1).toNat)=d.toNat * val (Q.drop ((j:Int)+1).toNat)+r.toNat):
 True∧val (ds.drop ((j:Int) - 1+1).toNat)=d.toNat * val ((Q.set j ((r * 4294967296+di Q j) / d).toNat).drop ((j:Int) - 1+1).toNat)+((r * 4294967296+di Q j) % d).toNat:=by
 refine ⟨trivial,?_⟩;obtain ⟨e1,e2⟩:=Zxo (d:=d) (r:=r) (x:=di Q j) (D:=d.toNat) (R:=r.toNat) (X:=dg ds j) (by omega) (by omega) (by rw [Yq,hs]);rw [e1,e2,JP,JP,show ((j:Int) - 1+1).toNat=j from by omega];rw [show ((j:Int)+1).toNat=j+1 from by omega] at h;exact Ztk hj h
theorem Zml [Old] (base g n cap:Nat) (ds:List Nat) (d:Int) (w:World) (h:w.ownsRow base 123 1 (.slice (some ⟨g,0,none⟩) n cap) n (ds.map uc)) (ok:okD ds) (hn:n≤1099511627776) (d0:1≤d) (d1:d≤4294967295) (hOl:Zb w:=by (repeat (first | assumption | exact Zb.up (by assumption) hOl | exact Zb.up (Hid.out (by assumption)) hOl | with_reducible refine Zb.set ?_ _ _ | with_reducible refine Zb.mk_ ?_ _ | with_reducible refine Zb.dr ?_ | with_reducible refine Zb.drN ?_ | refine Zb.up (by assumption) ?_ | refine Zb.up (Hid.out (by assumption)) ?_))) (hO:Old.n≤base:=by first | assumption | exact Nat.zero_le _ | omega | ((first | with_reducible refine Zb.le ?_ | with_reducible refine Zb.le1 ?_ | with_reducible refine Zb.le2 ?_ | with_reducible refine Zb.le3 ?_);repeat (first | assumption | exact Zb.up (by assumption) hOl | exact Zb.up (Hid.out (by assumption)) hOl | with_reducible refine Zb.set ?_ _ _ | with_reducible refine Zb.mk_ ?_ _ | with_reducible refine Zb.dr ?_ | with_reducible refine Zb.drN ?_ | refine Zb.up (by assumption) ?_ | refine Zb.up (Hid.out (by assumption)) ?_))):
 Calls Tryz.prog 172 #[.slice (some ⟨g,0,none⟩) n cap,.int .u32 d] w fun e w'=>∃Q:List Nat,e= .returned (.int .u32 ((val ds % d.toNat:Nat):Int))∧Q.length=ds.length∧okD Q∧val Q=val ds / d.toNat∧
  w'.ownsRow base 123 1 (.slice (some ⟨g,0,none⟩) n cap) n (Q.map uc)∧w.grownBy w' (some g):=by
 have q:=hOl.le;have hl:ds.length=n:=by simpa using h.1
 have HL:=JZ hl;clear hl;go_enter Tryz.func172,Tryz.ntmps172;go_wp2
 go_loopw [5,6] (fun x i wr=>∃(z r:Int) (Q:List Nat),-1≤z∧z < n∧i= .int .i64 z∧x= .int .u64 r∧0≤r∧r < d∧n≤Q.length∧Q.length≤n∧okD Q∧wr.ownsRow base 123 1 (.slice (some ⟨g,0,none⟩) n cap) n (Q.map uc)∧w.grownBy wr (some g)∧
  (∀i:Nat,i≤z→dg Q i=dg ds i)∧val (ds.drop (z+1).toNat)=d.toNat * val (Q.drop (z+1).toNat)+r.toNat) (fun _ i _=>(intOf i+1).toNat)
 case atStart=>exact ⟨(n:Int) - 1,0,ds,by omega,by omega,rfl,rfl,by omega,by omega,by rw [HL.out];exact JY _,by rw [HL.out];exact JY _,ok,h,World.grownBy.refl _ _,fun _ _=>rfl,by
  rw [List.drop_eq_nil_of_le (by rw [HL.out];omega)];simp [val]⟩
 case round=>
  obtain ⟨z,r,Q,t,hz,rfl,rfl,r0,r1,hQ,o,c,a,f,b,l⟩:=hrel;have HS:=JZ b;have HE:=JZ l;clear b l;rcases Int.lt_or_le z 0 with h0 | h0
  ·obtain rfl:z= -1:=by omega
   go_wp2;go_ret;obtain ⟨e1,e2⟩:=Zxp d0 r0 r1 HE.out;exact ⟨Q,WZ e1,by rw [HL.out];omega,c,e2,a,f⟩
  ·obtain ⟨j,rfl⟩:=JT h0;have hc:=Zxn a (k:=j) (by omega);have hf:=a.frozenAt j;have x0:=Zr Q j;have x1:=Yk c j;have s:=Ui x0 x1 r0 (by omega);have m:=Zqz d0 r0 r1 x0 x1;obtain ⟨p,u⟩:=m;go_wp2;go_roundw
   case rel=>
    obtain ⟨e1,e2⟩:=Zra (Q:=Q) d0 r0 (show j < Q.length by omega) (HS.out j (by omega)) HE.out;exact ⟨(j:Int) - 1,_,Q.set j ((r * 4294967296+di Q j) / d).toNat,by omega,by omega,rfl,rfl,Int.emod_nonneg _ (by omega),Int.emod_lt_of_pos _ (by omega),by simpa using hQ,by simpa using o,ZN c j (by unfold B32;omega),Ybj a j p,Ww f _ _,
     fun i hi=>by rw [Yj (by omega)];exact HS.out i (by omega),e2⟩
   case measure=>simp [intOf]
theorem Zoq {w wr:World} {g b:Nat} {n off:Nat} {ds:List Nat} (hg:w.grownBy wr (some g)) (hne:b≠g) (h:∀k,k < n→w.cell? ⟨b,off+k,none⟩=some (.int .u32 (di ds k))) {k:Nat} (hk:k < n):wr.cell? ⟨b,off+k,none⟩=some (.int .u32 (di ds k)):=
 hg.cell (h k hk) (by simp;exact hne)
def KnG (U vs:List Nat) (m:Nat) (w:World) (s7:Value) (wx:World):Prop:=
 ∃(G:Int) (k:Nat),s7= .int .u64 G∧0≤G∧G≤4294967295∧((vt U (m+3) / vt vs (m+2):Nat):Int)≤G∧G.toNat * vt vs (m+2)≤vt U (m+3)+vt vs (m+2)∧wx=w.drewN k
theorem Yga {T v:Int} (hv:2147483648≤v) (hT:T≤v * 4294967296+4294967295):T / v≤4294967298:=by
 have:T / v < 4294967298+1:=by
  rw [Int.ediv_lt_iff_lt_mul (by omega)];omega
 omega
theorem We {z:Int} (h0:0≤z) (h1:z≤18446744073709551615):bits .and .u64 z 4294967295=z % 4294967296:=by
 obtain ⟨n,rfl⟩:=JT h0;have e:=u64_and_nat n 4294967295 (by omega) (by decide);have e2:n &&& 4294967295=n % 4294967296:=Nat.and_two_pow_sub_one_eq_mod n 32;rw [e2] at e;rw [show ((4294967295:Int))=((4294967295:Nat):Int) from rfl,e];omega
theorem XO {X:List Nat} {o k d:Nat}:(X.set (o+k) d).drop o=(X.drop o).set k d:=by
 rw [List.drop_set,if_neg (by omega),Nat.add_sub_cancel_left]
theorem Zmp {vs:List Nat} {m:Nat} (_ok:okD vs) (h:2147483648≤di vs (m+1)):0 < vt vs (m+2):=by
 rw [Zmn];have:0 < dg vs (m+1) * B32^(m+1):=Nat.mul_pos (by rw [Yq] at h;omega) (Nat.pow_pos B32_pos);omega
theorem Ybn {Y Y0 X vs:List Nat} {n R:Nat} {z:Int} (okY:okD Y) (okV:okD vs) (hV:0 < vt vs n) (z0:0≤z) (z1:z≤1) (h:(vt Y n:Int)+z * ((B32^n:Nat):Int)=vt Y0 n+vt vs n) (hY:vt Y0 n=vt X n) (hX:vt X n+vt vs n=R % vt vs n+B32^n):
 z=1∧vt Y n=R % vt vs n:=by
 have h1:=Uz okY n;have h2:=Uz okV n;have h3:=Nat.mod_lt R hV;have hz:z=0∨z=1:=by omega
 generalize R % vt vs n=r at *;generalize B32^n=p at *;rcases hz with rfl | rfl
 ·omega
 ·exact ⟨rfl,by omega⟩
theorem Ybo {G R v T:Int} (h:G * v+R=T):(G - 1) * v+(R+v)=T:=by rw [Int.sub_mul];omega
theorem Yad {U vs:List Nat} {m:Nat} (h:vt U (m+3) < B32 * vt vs (m+2)):((vt U (m+3) / vt vs (m+2):Nat):Int)≤4294967295:=by
 have:vt U (m+3) / vt vs (m+2) < B32:=by
  rw [Nat.div_lt_iff_lt_mul (Nat.pos_of_ne_zero (fun e=>by rw [e] at h;simp at h))];exact h
 unfold B32 at this;omega
theorem Yae {G x:Int} (h:0≤G) (hx:0 < G * x):1≤G:=by
 rcases Int.lt_or_eq_of_le h with h1 | h1
 ·omega
 ·subst h1;simp at hx
theorem Zor {U vs:List Nat} {m k:Nat} {w:World} {G R T:Int} (okV:okD vs) (hG:1≤G) (hv:1≤di vs (m+1)) (_R0:0≤R) (v00:0≤di vs m) (v01:di vs m≤4294967295) (u00:0≤di U m) (rb:4294967296≤R+di vs (m+1))
 (T1:T≤di vs (m+1) * 4294967296+4294967295) (hT:di U (m+2) * 4294967296+di U (m+1)=T) (hGR:G * di vs (m+1)+R=T) (hq:((vt U (m+3) / vt vs (m+2):Nat):Int)≤G - 1):KnG U vs m w (.int .u64 (G - 1)) (w.drewN k):=by
 have e:=Ybo hGR;have a:G - 1 < 4294967296:=by
  have:(G - 1) * di vs (m+1) < 4294967296 * di vs (m+1):=by omega
  exact Int.lt_of_mul_lt_mul_right this (by omega)
 have ht:(G - 1) * di vs m≤4294967295 * 4294967295:=Int.mul_le_mul (by omega) v01 v00 (by omega);exact ⟨G - 1,k,rfl,by omega,by omega,hq,Zmo (R:=R+di vs (m+1)) okV (by omega) (by omega) (by omega) hv (by rw [hT];exact e) (by omega),rfl⟩
theorem Zmq [Old] (g o m cu b2 off2 cv:Nat) (O vs:List Nat) (w:World) (hO:YD w g O) (okO:okD O) (hlen:o+m+3≤O.length) (hcu:m+3≤cu) (hcu':cu≤9223372036854775807)
 (okV:okD vs) (hne:b2≠g) (hv:∀k,k < m+2→w.cell? ⟨b2,off2+k,none⟩=some (.int .u32 (di vs k)))
 (hm:m≤1099511627776) (hnorm:2147483648≤di vs (m+1)) (hlt:vt (O.drop o) (m+3) < B32 * vt vs (m+2)) (hOl:Zb w:=by (repeat (first | assumption | exact Zb.up (by assumption) hOl | exact Zb.up (Hid.out (by assumption)) hOl | with_reducible refine Zb.set ?_ _ _ | with_reducible refine Zb.mk_ ?_ _ | with_reducible refine Zb.dr ?_ | with_reducible refine Zb.drN ?_ | refine Zb.up (by assumption) ?_ | refine Zb.up (Hid.out (by assumption)) ?_))):
 Calls Tryz.prog 177 #[.slice (some ⟨g,o,none⟩) (m+3) cu,.slice (some ⟨b2,off2,none⟩) (m+2) cv] w fun e w'=>∃O':List Nat,
  e= .returned (.int .u32 ((vt (O.drop o) (m+3) / vt vs (m+2):Nat):Int))∧YD w' g O'∧O'.length=O.length∧okD O'∧(∀i,i < o∨o+m+3≤i→dg O' i=dg O i)∧vt (O'.drop o) (m+3)=vt (O.drop o) (m+3) % vt vs (m+2)∧w.grownBy w' (some g):=by
 have am:=hOl.le;obtain ⟨U,hU⟩:∃U,U=O.drop o:=⟨_,rfl⟩;rw [← hU] at hlt;rw [← hU];have HV:=JZ hv;have HT:=JZ hlt;clear hv hlt;have d:okD U:=hU▸Zcz okO o;have a6:w.cell? ⟨g,o+(m+2),none⟩=some (.int .u32 (di U (m+2))):=by rw [hO.cell (by omega),hU];simp [di,WY]
 have a7:w.cell? ⟨g,o+(m+1),none⟩=some (.int .u32 (di U (m+1))):=by rw [hO.cell (by omega),hU];simp [di,WY]
 have a8:w.cell? ⟨g,o+m,none⟩=some (.int .u32 (di U m)):=by rw [hO.cell (by omega),hU];simp [di,WY]
 have a9:=HV.out (m+1) (by omega);have aa:=HV.out m (by omega);have HU:=JZ hU;clear hU;have I:=Zr U (m+2);have ab:=Yk d (m+2);have J:=Zr U (m+1);have ac:=Yk d (m+1);have n:=Zr U m;have K:=Yk d m;have ad:=Zr vs (m+1);have an:=Yk okV (m+1);have f:=Zr vs m;have C:=Yk okV m;have L:=Yeh okV HT.out;have i1:IntKind.i64.wrap ((m:Int)+2 - 1)=(m:Int)+1:=by rw [IntWalk.i64_in _ (by omega)];omega
 have i2:((m:Int)+2).toNat=m+2:=by omega
 have i3:((m:Int)+1).toNat=m+1:=by omega
 have i4:(0:Int)≤(m:Int)+2:=by omega
 have i5:(0:Int)≤(m:Int)+1:=by omega
 have i6:(m:Int)+2 < (m:Int)+3:=by omega
 have i7:(m:Int)+1 < (m:Int)+3:=by omega
 have i8:(m:Int)+1 < (m:Int)+2:=by omega
 have r1:IntKind.u64.wrap (di U (m+2))=di U (m+2):=u64_in _ I (by omega);have r2:IntKind.u64.wrap (di U (m+1))=di U (m+1):=u64_in _ J (by omega);have r3:IntKind.u64.wrap (di U (m+2) * 4294967296)=di U (m+2) * 4294967296:=u64_in _ (by omega) (by omega);have r4:=Ui J ac I ab;go_enter Tryz.func177,Tryz.ntmps177;go_wp2
 go_quiet (fail)
 go_wp2;clear r1 r2 r3 r4 a6 a7;have q1:IntKind.u64.wrap (di vs (m+1))=di vs (m+1):=u64_in _ ad (by omega)
 go_quiet (fail)
 generalize hT:di U (m+2) * 4294967296+di U (m+1)=T at *;have T0:0≤T:=by omega
 have T1:T≤di vs (m+1) * 4294967296+4294967295:=by omega
 have l:=JZ hT;clear hT;have M:vt U (m+3) / vt vs (m+2) * vt vs (m+2)≤vt U (m+3):=Nat.div_mul_le_self _ _;have HQ:=JZ M;clear M
 go_upto_block 0 with (fail)
 go_cut [7] (fun s7 wx=>KnG U vs m w s7 wx)
 case first=>
  go_wp2_with fail
  go_loopw [7,8] (fun x y wr=>∃(G R:Int) (k:Nat),x= .int .u64 G∧y= .int .u64 R∧wr=w.drewN k∧0≤G∧G≤4294967298∧0≤R∧R≤4294967295∧G * di vs (m+1)+R=T∧((vt U (m+3) / vt vs (m+2):Nat):Int)≤G) (fun x _ _=>(intOf x).toNat)
  case atStart=>
   exact ⟨_,_,_,rfl,rfl,World.drewN_drewN _ _ _,Int.ediv_nonneg T0 (by omega),Yga (by omega) T1,Int.emod_nonneg _ (by omega),by have:=Int.emod_lt_of_pos T (show 0 < di vs (m+1) by omega);omega,by rw [Int.mul_comm];exact Int.mul_ediv_add_emod _ _,by rw [← l.out];exact Ybm d HQ.out (by omega)⟩
  case round=>
   obtain ⟨G,R,k,rfl,rfl,rfl,G0,G1,R0,R1,a3,q⟩:=hrel;have h:=JZ a3;have D:=JZ q;clear a3 q;have j1:IntKind.i64.wrap ((m:Int)+2 - 2)=(m:Int):=(by rw [IntWalk.i64_in _ (by omega)];omega);have j2:(0:Int)≤(m:Int):=(by omega);have j3:(m:Int) < (m:Int)+2:=(by omega);have j4:(m:Int) < (m:Int)+3:=(by omega);rcases Int.lt_or_le (R+di vs (m+1)) 4294967296 with rb | rb
   ·rcases Int.lt_or_le G 4294967296 with gb | gb
    ·have gd:decide (4294967296≤G)=false:=(by simp;omega);have p0:0≤G * di vs m:=Int.mul_nonneg G0 f;have p1:G * di vs m≤4294967295 * 4294967295:=Int.mul_le_mul (by omega) C f (by omega);have s1:IntKind.u64.wrap (di vs m)=di vs m:=u64_in _ f (by omega);have s2:IntKind.u64.wrap (G * di vs m)=G * di vs m:=u64_in _ p0 (by omega);have s3:IntKind.u64.wrap (R * 4294967296)=R * 4294967296:=u64_in _ (by omega) (by omega);have s4:IntKind.u64.wrap (di U m)=di U m:=u64_in _ n (by omega);have s5:=Ui n K R0 R1;rcases Int.lt_or_le (R * 4294967296+di U m) (G * di vs m) with tt | tt
     ·have td:decide (R * 4294967296+di U m < G * di vs m)=true:=(by simpa using tt);have g1:1≤G:=Yae (x:=di vs m) G0 (by omega);go_wp2
      go_quiet (fail)
      go_wp2;go_roundw
      case rel=>exact ⟨G - 1,_,_,rfl,rfl,rfl,by omega,by omega,by omega,by omega,Ybo h.out,Zto d HQ.out G0 R0 (by rw [l.out];exact h.out) tt⟩
      case measure=>simp [intOf];omega
     ·have td:decide (R * 4294967296+di U m < G * di vs m)=false:=(by simpa using tt);go_wp2
      go_quiet (fail)
      go_wp2
      go_meet
      exact ⟨G,_,rfl,G0,by omega,D.out,Zmo okV G0 (by omega) R0 (by omega) (by rw [l.out];exact h.out) tt,World.drewN_drewN _ _ _⟩
    ·have gd:decide (4294967296≤G)=true:=(by simpa using gb);go_wp2
     go_quiet (fail)
     go_wp2;go_roundw
     case rel=>exact ⟨G - 1,_,_,rfl,rfl,rfl,by omega,by omega,by omega,by omega,Ybo h.out,by have:=Yad HT.out;omega⟩
     case measure=>simp [intOf];omega
   ·rcases Int.lt_or_le G 4294967296 with gb | gb
    ·have gd:decide (4294967296≤G)=false:=(by simp;omega);have p0:0≤G * di vs m:=Int.mul_nonneg G0 f;have p1:G * di vs m≤4294967295 * 4294967295:=Int.mul_le_mul (by omega) C f (by omega);have s1:IntKind.u64.wrap (di vs m)=di vs m:=u64_in _ f (by omega);have s2:IntKind.u64.wrap (G * di vs m)=G * di vs m:=u64_in _ p0 (by omega);have s3:IntKind.u64.wrap (R * 4294967296)=R * 4294967296:=u64_in _ (by omega) (by omega);have s4:IntKind.u64.wrap (di U m)=di U m:=u64_in _ n (by omega);have s5:=Ui n K R0 R1;rcases Int.lt_or_le (R * 4294967296+di U m) (G * di vs m) with tt | tt
     ·have td:decide (R * 4294967296+di U m < G * di vs m)=true:=(by simpa using tt);have g1:1≤G:=Yae (x:=di vs m) G0 (by omega);go_wp2
      go_quiet (fail)
      go_wp2
      go_meet
      exact Zor okV (by omega) (by omega) R0 f C n rb T1 l.out h.out (Zto d HQ.out G0 R0 (by rw [l.out];exact h.out) tt)
     ·have td:decide (R * 4294967296+di U m < G * di vs m)=false:=(by simpa using tt);go_wp2
      go_quiet (fail)
      go_wp2
      go_meet
      exact ⟨G,_,rfl,G0,by omega,D.out,Zmo okV G0 (by omega) R0 (by omega) (by rw [l.out];exact h.out) tt,World.drewN_drewN _ _ _⟩
    ·have gd:decide (4294967296≤G)=true:=(by simpa using gb);go_wp2
     go_quiet (fail)
     go_wp2
     go_meet
     exact Zor okV (by omega) (by omega) R0 f C n rb T1 l.out h.out (by have:=Yad HT.out;omega)
 case rest=>
  obtain ⟨G,k0,rfl,G0,G1,q,a4,rfl⟩:=hcut;have D:=JZ q;have ae:=JZ a4;clear q a4 a8 a9 aa i1 i2 i3 i4 i5 i6 i7 i8 q1 L;go_wp2_with fail
  go_loopw [9,10,85] (fun cy bo i wr=>∃(k:Nat) (X:List Nat) (c b:Int),k≤m+2∧i= .int .i64 k∧cy= .int .u64 c∧bo= .int .i64 b∧0≤c∧c≤4294967295∧0≤b∧b≤1∧O.length≤X.length∧X.length≤O.length∧YD wr g X∧okD X∧w.grownBy wr (some g)∧
   (∀i,i < o→dg X i=dg O i)∧(∀i,o+k≤i→dg X i=dg O i)∧(vt (X.drop o) k:Int) - (c+b) * ((B32^k:Nat):Int)=vt U k - G * vt vs k) (fun _ _ i _=>m+2 - (intOf i).toNat)
  case atStart=>exact ⟨0,O,0,0,by omega,rfl,rfl,rfl,by omega,by omega,by omega,by omega,JY _,JY _,hO,okO,⟨rfl,rfl,rfl,JY _,fun _ _ _=>rfl⟩,fun _ _=>rfl,fun _ _=>rfl,by simp [YN]⟩
  case round=>
   obtain ⟨k,X,c,b,hk,rfl,rfl,rfl,c0,c1,b0,b1,hX,a5,hB,r,a,H,s,t⟩:=hrel;have HE:=JZ t;have E:=JZ H;have p:=JZ s;clear t H s;rcases JX k (m+2) with hkl | hkl
   ·have hv:=Zoq a hne HV.out hkl;have x0:=Zr vs k;have x1:=Yk okV k;have p0:0≤G * di vs k:=Int.mul_nonneg G0 x0;have p1:G * di vs k≤4294967295 * 4294967295:=Int.mul_le_mul G1 x1 x0 (by omega);have hu:wr.cell? ⟨g,o+k,none⟩=some (.int .u32 (di U k)):=(by rw [hB.cell (by omega),Yq,p.out _ (JY _),HU.out,Yq,WY]);have hf:=hB.frozen (o+k);have y0:=Zr U k;have y1:=Yk d k;have af:=We (show 0≤c+G * di vs k by omega) (show c+G * di vs k≤18446744073709551615 by omega);go_wp2
    ·go_roundw
     case rel=>exact ⟨k+1,X.set (o+k) ((di U k - b - (c+G * di vs k)) % 4294967296).toNat,_,1,by omega,by go_num,rfl,rfl,by omega,by omega,by omega,by omega,by simpa using hX,by simpa using a5,hB.setI _ (by omega),ZN r _ (by unfold B32;omega),Ww a _ _,
      fun i hi=>by rw [Yj (by omega)];exact E.out i hi,fun i hi=>by rw [Yj (by omega)];exact p.out i (by omega),by
       rw [XO];exact Zjn (y:=(c+G * di vs k) % 4294967296) (by rw [List.length_drop];omega) (by omega) (by omega) (by omega) HE.out⟩
     case measure=>simp [intOf];omega
    ·go_roundw
     case rel=>exact ⟨k+1,X.set (o+k) (di U k - b - (c+G * di vs k) % 4294967296).toNat,_,0,by omega,by go_num,rfl,rfl,by omega,by omega,by omega,by omega,by simpa using hX,by simpa using a5,hB.setI _ (by omega),ZN r _ (by unfold B32;omega),Ww a _ _,
      fun i hi=>by rw [Yj (by omega)];exact E.out i hi,fun i hi=>by rw [Yj (by omega)];exact p.out i (by omega),by
       rw [XO];exact Zjn (y:=(c+G * di vs k) % 4294967296) (by rw [List.length_drop];omega) (by omega) (by omega) (by omega) HE.out⟩
     case measure=>simp [intOf];omega
   ·obtain rfl:k=m+2:=by omega
    have hu:wr.cell? ⟨g,o+(m+2),none⟩=some (.int .u32 (di U (m+2))):=(by rw [hB.cell (by omega),Yq,p.out _ (JY _),HU.out,Yq,WY]);have hf:=hB.frozen (o+(m+2));have y0:=Zr U (m+2);have y1:=Yk d (m+2);obtain ⟨u,v⟩:=Zxr (Zcz r o) okV (Zmp okV hnorm) rfl D.out ae.out HE.out;rcases Int.lt_or_le (di U (m+2) - b - c) 0 with ht | ht
    ·obtain ⟨e1,e2,e3⟩:=v ht;clear u v;have E2:=JZ e2;have E3:=JZ e3;have E1:=JZ e1;have t1: -1≤di U (m+2) - b - c:=(by omega);have g1:1≤G:=(by have:=Int.natCast_nonneg (vt U (m+2+1) / vt vs (m+2));omega);clear e1 e2 e3;obtain ⟨Y0,j⟩:∃Y0,Y0=X.set (o+(m+2)) ((di U (m+2) - b - c) % 4294967296).toNat:=⟨_,rfl⟩;have N:YD (wr.setCell ⟨g,o+(m+2),none⟩ (.int .u32 ((di U (m+2) - b - c) % 4294967296))) g Y0:=(by rw [j];exact hB.setI _ (by omega));have P:okD Y0:=(by rw [j];exact ZN r _ (by unfold B32;omega));have S:w.grownBy (wr.setCell ⟨g,o+(m+2),none⟩ (.int .u32 ((di U (m+2) - b - c) % 4294967296))) (some g):=Ww a _ _;have lY:Y0.length=X.length:=(by rw [j];simp);have ag:O.length≤Y0.length:=(by omega);have ah:Y0.length≤O.length:=(by omega);clear lY;have V:∀i,i < o→dg Y0 i=dg O i:=fun i hi=>by rw [j,Yj (by omega)];exact E.out i hi
     have Z:∀i,o+m+3≤i→dg Y0 i=dg O i:=fun i hi=>by rw [j,Yj (by omega)];exact p.out i (by omega)
     have F:di Y0 (o+(m+2))=4294967295:=(by rw [j,Yq,VT (by omega),E1.out];rfl);have a0:vt (Y0.drop o) (m+2)=vt (X.drop o) (m+2):=(by rw [j,XO,Zjk (JY _)]);have ai:=JZ V;have aj:=JZ Z;have a1:=JZ F;have ak:=JZ a0;clear V Z F a0 j;go_wp2_with fail;clear hu hf a hB
     go_loopw [15,138] (fun cy i wr=>∃(k:Nat) (Y:List Nat) (z:Int),k≤m+2∧i= .int .i64 k∧cy= .int .u64 z∧0≤z∧z≤1∧O.length≤Y.length∧Y.length≤O.length∧YD wr g Y∧okD Y∧w.grownBy wr (some g)∧
      (∀i,i < o∨o+k≤i→dg Y i=dg Y0 i)∧(vt (Y.drop o) k:Int)+z * ((B32^k:Nat):Int)=vt (Y0.drop o) k+vt vs k) (fun _ i _=>m+2 - (intOf i).toNat)
     case atStart=>exact ⟨0,Y0,0,by omega,rfl,rfl,by omega,by omega,ag,ah,N,P,S,fun _ _=>rfl,by simp [YN]⟩
     case round=>
      clear N S;obtain ⟨k,Y,z,ao,rfl,rfl,z0,z1,hY,al,hB,A,a,B,t⟩:=hrel;have a2:=JZ t;have HS:=JZ B;clear t B;rcases JX k (m+2) with hkl' | hkl'
      ·have hv:=Zoq a hne HV.out hkl';have x0:=Zr vs k;have x1:=Yk okV k;have hu:wr.cell? ⟨g,o+k,none⟩=some (.int .u32 (di (Y0.drop o) k)):=(by rw [hB.cell (by omega),Yq,HS.out _ (.inr (JY _)),Yq,WY]);have hf:=hB.frozen (o+k);have w0:=Zr (Y0.drop o) k;have w1:=Yk (Zcz P o) k;go_wp2;go_roundw
       case rel=>exact ⟨k+1,Y.set (o+k) ((z+(di (Y0.drop o) k+di vs k)) % 4294967296).toNat,_,by omega,by go_num,rfl,by omega,by omega,by simpa using hY,by simpa using al,hB.setI _ (by omega),ZN A _ (by unfold B32;omega),Ww a _ _,
        fun i hi=>by rw [Yj (by omega)];exact HS.out i (by omega),by
         rw [XO,← Int.add_assoc];exact Vn (by rw [List.length_drop];omega) z0 rfl a2.out⟩
       case measure=>simp [intOf];omega
      ·obtain rfl:k=m+2:=by omega
       have hu:wr.cell? ⟨g,o+(m+2),none⟩=some (.int .u32 4294967295):=(by rw [hB.cell (by omega),Yq,HS.out _ (.inr (JY _)),← Yq,a1.out]);have hf:=hB.frozen (o+(m+2));obtain ⟨f1,f2⟩:=Ybn (Zcz A o) (okV) (Zmp okV hnorm) z0 z1 a2.out ak.out E3.out;subst f1;go_wp2;go_ret;refine ⟨Y.set (o+(m+2)) 0,WZ E2.out,hB.set_ _ 0,by simp;omega,ZN A _ B32_pos,fun i hi=>?_,?_,Ww a _ _⟩
       ·rw [Yj (by omega),HS.out i (by omega)];rcases hi with hi | hi
        ·exact ai.out i hi
        ·exact aj.out i hi
       ·rw [XO,UN (by rw [List.length_drop];omega),f2];simp
    ·obtain ⟨e1,e2,e3⟩:=u ht;clear u v;have E2:=JZ e2;have E3:=JZ e3;have E1:=JZ e1;have t1:di U (m+2) - b - c≤0:=(by omega);clear e1 e2 e3;go_wp2;go_ret;refine ⟨X.set (o+(m+2)) (di U (m+2) - b - c).toNat,WZ E2.out,hB.setI _ (by omega),by simp;omega,ZN r _ (by unfold B32;omega),fun i hi=>?_,?_,Ww a _ _⟩
     ·rw [Yj (by omega)];rcases hi with hi | hi
      ·exact E.out i hi
      ·exact p.out i (by omega)
     ·rw [XO,UN (by rw [List.length_drop];omega),E1.out];simpa using E3.out
theorem YD.grown {w w':World} {g g':Nat} {ds:List Nat} (h:YD w g' ds) (hg:w.grownBy w' (some g)) (hne:g'≠g):YD w' g' ds:=
 (hg.block g' h.lt (by simp;exact hne)).trans h
theorem YD.far {w:World} {g g':Nat} {ds:List Nat} (h:YD w g' ds) (hne:g'≠g) (k:Nat) (u:Value):YD (w.setCell ⟨g,k,none⟩ u) g' ds:=
 (heap_setCell_other w ⟨g,k,none⟩ g' u hne).trans h
theorem YD.alloc {w:World} {g:Nat} {ds:List Nat} (h:YD w g ds) (o:Obj):YD (w.alloc o) g ds:=(Below.heap_alloc w o g h.lt).trans h
theorem below_grown {B:Nat} {w0 w w':World} {g:Nat} (h:Below B w0 w) (hg:w.grownBy w' (some g)) (hB:B≤g) (hs:B≤w.heap.size):Below B w0 w':=
 h.grown hg hs (fun k hk=>by simp at hk;omega)
theorem Ybt {ds:List Nat} {i s:Nat} (h:2147483648≤di ds i * 2^s):2147483648≤dg ds i * 2^s:=by
 rw [Yq,Yw,← Int.natCast_mul] at h;omega
theorem Zos {ds:List Nat} {i s:Nat} (h:di ds i * 2^s≤4294967295):dg ds i * 2^s≤4294967295:=by
 rw [Yq,Yw,← Int.natCast_mul] at h;omega
theorem Ztt {O OV:List Nat} {j m:Nat} (okO:okD O) (h:vt (O.drop ((j:Int)+1).toNat) (m+2) < vt OV (m+2)):vt (O.drop j) (m+3) < B32 * vt OV (m+2):=by
 rw [show ((j:Int)+1).toNat=j+1 from by omega] at h;rw [Yei,List.drop_drop,WY];have h1:=Ztb okO (j+0);have h2:B32 * (vt (O.drop (j+1)) (m+2)+1)≤B32 * vt OV (m+2):=Nat.mul_le_mul_left _ h;rw [Nat.mul_add,Nat.mul_one] at h2;omega
theorem Zmu [Old] (v1 v2:Value) (X Y l m:Nat) (w:World) (h1:ZQ w v1 (Zo X)) (h2:ZQ w v2 (Zo Y)) (hl1:(Zo X).length=l) (hl2:(Zo Y).length=m+2) (hlm:m+2≤l) (hs:l≤549755813888) (hOl:Zb w:=by (repeat (first | assumption | exact Zb.up (by assumption) hOl | exact Zb.up (Hid.out (by assumption)) hOl | with_reducible refine Zb.set ?_ _ _ | with_reducible refine Zb.mk_ ?_ _ | with_reducible refine Zb.dr ?_ | with_reducible refine Zb.drN ?_ | refine Zb.up (by assumption) ?_ | refine Zb.up (Hid.out (by assumption)) ?_))):
 Calls Tryz.prog 173 #[v1,v2] w fun e w'=>∃q r,e= .returned (.tuple #[q,r])∧ZQ w' q (Zo (X / Y))∧ZQ w' r (Zo (X % Y))∧Below w.heap.size w w':=by
 have b1:=hOl.le;obtain ⟨A,n1,c,rfl⟩:=h1.shape;obtain ⟨kl,ar,b5,kc⟩:=h1.len;obtain ⟨A2,n2,c2,rfl⟩:=h2.shape;obtain ⟨jl,au,b6,jc⟩:=h2.len;obtain rfl:n1=l:=by omega
 obtain rfl:n2=m+2:=by omega
 obtain ⟨b2,b0,rfl,b7,b⟩:=h2.at_ (by omega);have hy:=b (m+1) (by omega);clear b;have y1:=Yk (Yb Y) (m+1);have G:0 < Y:=by
  rcases JV Y with e | e
  ·subst e;rw [digs_zero] at hl2;simp at hl2
  ·exact e
 have y0:1≤di (Zo Y) (m+1):=by
  have:=VV G;rw [hl2] at this;rw [Yq];simp at this;omega
 have H:=JZ hl1;have I:=JZ hl2;clear hl1 hl2 kl ar jl au;go_enter Tryz.func173,Tryz.ntmps173;go_wp2_with fail;refine (Zjq _ _ y0 y1).mono ?_;rintro e w1 ⟨s,rfl,rfl,a,a6,a7⟩;have af:=JZ a6;have ag:=JZ a7;clear a6 a7;go_wp2_with fail;refine (Zab _ (Zo Y) s _ h2 a (by rw [I.out];omega)).mono ?_;rw [I.out];rintro e w1 ⟨OV,rfl,a8,lV,y,hV,n⟩;have LV:=JZ lV;have HV:=JZ hV;clear lV hV;go_wp2_with fail;refine (Zab _ (Zo X) s _ (h1.below n) a (by rw [H.out];omega)).mono ?_;rw [H.out];rintro e w2 ⟨OU,rfl,a9,lU,av,hU,o⟩;have LU:=JZ lU;have HU:=JZ hU;clear lU hU;have L:=YE (n1 - (m+2)+1) (by omega);have d:((n1 - (m+2)+1:Nat):Int)=(n1:Int) - ((m:Int)+2)+1:=by omega
 rw [d] at L;clear d;have ah:=a8.lt;have ay:=a9.lt;have b3:=o.size;have az:=n.size;obtain ⟨a0,g⟩:=Zxy (ys:=Zo Y) rfl I.out a (Ybt af.out) (Zos ag.out) y (by rw [HV.out,Zl]);have f:0 < vt OV (m+2):=Zmp y (by rw [Yq];omega);have B:vt OV (m+2)≤B32^(m+2):=Nat.le_of_lt (Uz y _);have M:=Zrc (X:=X) (l:=n1) (m:=m) (OU:=OU) (OV:=OV) (by have:=Yn X;rwa [H.out] at this) a hlm (by rw [HU.out,Zl]) (by rw [LU.out];exact JY _) g;have ai:=JZ a0;have N:=JZ g;have P:=JZ f;have aj:=JZ B;have ak:=JZ M;clear a0 g f B M;have R:X * 2^s=val OU:=by rw [HU.out,Zl]
 have al:=JZ R;clear R;generalize ad:w.heap.size=gV at *;generalize ae:w1.heap.size=gU at *;have am:=JZ ad;have b4:=JZ ae;clear ad ae;go_wp2;clear L
 go_loopw [10] (fun i wr=>∃(z:Int) (O Q:List Nat),-1≤z∧z≤(n1:Int) - (m+2)∧i= .int .i64 z∧n1+1≤O.length∧O.length≤n1+1∧n1 - (m+2)+1≤Q.length∧Q.length≤n1 - (m+2)+1∧YD wr gU O∧YD wr gV OV∧YD wr w2.heap.size Q∧okD O∧okD Q∧Below gV w wr∧
  (∀i:Nat,z+1+(m+2)≤i→dg O i=0)∧vt (O.drop (z+1).toNat) (m+2) < vt OV (m+2)∧X * 2^s=vt OV (m+2) * val (Q.drop (z+1).toNat) * B32^(z+1).toNat+val O) (fun i _=>(intOf i+1).toNat)
 case atStart=>
  refine ⟨_,OU,List.replicate (n1 - (m+2)+1) 0,?_,?_,rfl,?_,?_,by simp,by simp,a9.alloc _,(a8.below o ah).alloc _,?_,av,ZM _,?_,?_,?_,?_⟩
  ·omega
  ·omega
  ·rw [LU.out];exact JY _
  ·rw [LU.out];exact JY _
  ·exact YD.zeros w2 (n1 - (m+2)+1)
  ·have:=(n.trans (o.mono (by omega))).alloc (by omega) (.cells (zc (n1 - (m+2)+1)) 123);exact this
  ·exact fun i hi=>Wv (by rw [LU.out];omega)
  ·have e:((n1:Int) - ((m:Int)+2)+1).toNat=n1 - (m+2)+1:=(by omega);rw [e];exact ak.out
  ·rw [List.drop_eq_nil_of_le (by simp;omega),al.out];simp [val]
 case round=>
  obtain ⟨z,O,Q,b8,b9,rfl,hO,a1,hQ,a2,u,D,v,x,a3,a4,h,E,a5⟩:=hrel;have HZ:=JZ h;have HR:=JZ E;have HE:=JZ a5;clear h E a5;rcases Int.lt_or_le z 0 with h0 | h0
  ·obtain rfl:z= -1:=by omega
   have S:∀i,m+2≤i→dg O i=0:=fun i hi=>HZ.out i (by omega)
   obtain ⟨e1,e2⟩:=Zxz (X:=X) (Y:=Y) (s:=s) (m:=m) (O:=O) (Q:=Q) (OV:=OV) (by have:=HE.out;simpa using this) ai.out S (by have:=HR.out;simpa using this);have E1:=JZ e1;have E2:=JZ e2;clear e1 e2 S;have an:ZQ wr (.slice (some ⟨w2.heap.size,0,none⟩) (n1 - (m+2)+1) (n1 - (m+2)+1)) Q:=by
    have:=v.dig a3 (c:=n1 - (m+2)+1) a2 (by unfold maxLen;omega)
    rwa [show Q.length=n1 - (m+2)+1 from by omega] at this
   have ao:ZQ wr (.slice (some ⟨gU,0,none⟩) (m+2) (n1+1)) (O.take (m+2)):=by
    have:=u.dig x (c:=n1+1) a1 (by unfold maxLen;omega);exact this.take (by omega) (by omega) (by unfold maxLen;omega)
   have k1:(0:Int)≤(m:Int)+2:=(by omega);have k2:(m:Int)+2≤(n1:Int)+1:=(by omega);have k3:((m:Int)+2).toNat=m+2:=(by omega);go_wp2_with fail
   go_region_held3 (fun _=>True) (exact trivial)
    (first | (go_at_call 143;refine (Ya _ Q _ (an.keep (ZG.drew _))).mono ?_;rintro e w5 ⟨v5,rfl,aw,rfl⟩) | (go_at_call 178;refine (Zfr _ (O.take (m+2)) s _ (ao.keep (ZG.drew _)) a (by rw [List.length_take];omega)).mono ?_;rintro e w6 ⟨v6,rfl,ax,F⟩))
   go_wp2;go_ret2;refine ⟨v5,v6,rfl,?_,?_,?_⟩
   ·have:=aw.below F;rwa [E1.out] at this
   ·have h6:ZQ w6 v6 (Zo (vt O (m+2) / 2^s)):=ax
    rwa [E2.out] at h6
   ·rw [am.out];exact a4.trans ((Ve F).mono (by have:=u.lt;omega))
  ·obtain ⟨j,rfl⟩:=JT h0;have hq:=v.cell (k:=j) (by omega);have T:=v.frozen j;go_wp2_with fail;rw [show j+(m+2)+1 - j=m+3 from by omega];refine (Zmq gU j m (n1+1 - j) gV 0 (m+2+1) O OV wr u x (by omega) (by omega) (by omega) y (by omega) ?_ (by omega) ?_ ?_).mono ?_
   ·intro k hk;rw [Nat.zero_add];exact D.cell (by rw [LV.out];omega)
   ·rw [Yq];have:=N.out;omega
   ·exact Ztt x HR.out
   rintro e w5 ⟨O2,rfl,aa,ab,ac,p,t,K⟩;obtain ⟨f1,f2,f3⟩:=Zts (U:=X * 2^s) (Q:=Q) (show j < Q.length by omega) P.out aj.out (fun i hi=>HZ.out i (by omega)) p t (by have:=HE.out;rwa [show ((j:Int)+1).toNat=j+1 from by omega] at this);have C:vt (O.drop j) (m+3) / vt OV (m+2) < B32:=by
    rw [Nat.div_lt_iff_lt_mul P.out];exact Ztt x HR.out
   have F1:=JZ f1;have F2:=JZ f2;have F3:=JZ f3;have V:=JZ ab;have ap:=D.grown K (by omega);have J:=v.grown K (by omega);have Z:=below_grown a4 K (by omega) (by have:=u.lt;omega);generalize vt (O.drop j) (m+3) / vt OV (m+2)=qd at *;have aq:=JZ C;clear f1 f2 f3 ab p t C hq T;have hq:=J.cell (k:=j) (by omega);have T:=J.frozen j;go_wp2;go_roundw
   case rel=>
    refine ⟨(j:Int) - 1,O2,Q.set j qd,?_,?_,rfl,?_,?_,?_,?_,aa.far (by omega) _ _,ap.far (by omega) _ _,J.set_ j qd,ac,ZN a3 _ aq.out,Z.setCell (by show gV≤w2.heap.size;omega) _,?_,?_,?_⟩
    ·omega
    ·omega
    ·rw [V.out];exact hO
    ·rw [V.out];exact a1
    ·simpa using hQ
    ·simpa using a2
    ·exact fun i hi=>F1.out i (by omega)
    ·rw [show ((j:Int) - 1+1).toNat=j from by omega];exact F2.out
    ·rw [show ((j:Int) - 1+1).toNat=j from by omega];exact F3.out
   case measure=>simp [intOf]
theorem Zac {X:Nat} (h:(Zo X).length≤2):X < B32 * B32:=by
 have h1:=Yn X;have h2:B32^(Zo X).length≤B32^2:=Nat.pow_le_pow_right B32_pos h;rw [show B32^2=B32 * B32 from by rw [Nat.pow_succ,Nat.pow_one]] at h2;omega
theorem Zbq [Old] (v1 v2:Value) (X Y:Nat) (w:World) (h1:ZQ w v1 (Zo X)) (h2:ZQ w v2 (Zo Y)) (hY:0 < Y) (hs:(Zo X).length≤549755813888) (hs2:(Zo Y).length≤549755813888) (hOl:Zb w:=by (repeat (first | assumption | exact Zb.up (by assumption) hOl | exact Zb.up (Hid.out (by assumption)) hOl | with_reducible refine Zb.set ?_ _ _ | with_reducible refine Zb.mk_ ?_ _ | with_reducible refine Zb.dr ?_ | with_reducible refine Zb.drN ?_ | refine Zb.up (by assumption) ?_ | refine Zb.up (Hid.out (by assumption)) ?_))):
 Calls Tryz.prog 165 #[v1,v2] w fun e w'=>∃q r,e= .returned (.tuple #[q,r])∧ZQ w' q (Zo (X / Y))∧ZQ w' r (Zo (X % Y))∧Below w.heap.size w w':=by
 have L:=hOl.le;have hq:X < Y→X / Y=0∧X % Y=X:=fun h=>⟨Nat.div_eq_of_lt h,Nat.mod_eq_of_lt h⟩
 have HQ:=JZ hq;clear hq;obtain ⟨A,n1,c,rfl⟩:=h1.shape;obtain ⟨kl,P,R,kc⟩:=h1.len;obtain ⟨A2,n2,c2,rfl⟩:=h2.shape;obtain ⟨jl,S,T,jc⟩:=h2.len;have M:1≤n2:=by have:=Y3 hY;omega
 go_enter Tryz.func165,Tryz.ntmps165;go_wp2_with fail;refine (Yh _ _ X Y _ h1 h2).mono ?_;rintro e w1 ⟨rfl,b⟩;have g1:=h1.below b;have g2:=h2.below b;rcases JX X Y with hlt | hge
 ·rw [VW hlt];go_wp2_with fail;refine (Zaa _ (Zo X) _ g1 (by omega)).mono ?_;rintro e w2 ⟨v',rfl,d,a⟩;go_wp2;go_ret2;obtain ⟨e1,e2⟩:=HQ.out hlt;rw [e1,e2];exact ⟨_,_,rfl,by rw [digs_zero];exact ZQ.nil _ _ _ (by simp),Va d (Yb X),b.trans (a.mono b.size)⟩
 ·have N:0≤cmpN X Y:=by
   rcases Nat.eq_or_lt_of_le hge with e | e
   ·rw [Zmj e.symm];decide
   ·rw [Zdl e];decide
  generalize cmpN X Y=cc at *;have J:=Zv hge;rcases JX 2 n1 with hn | hn
  ·rcases JX 1 n2 with hm | hm
   ·have t1:((n2:Int)==1)=false:=(by simp;omega);go_wp2_with fail;refine (Zmu _ _ X Y n1 (n2 - 2) _ g1 g2 (by omega) (by omega) (by omega) (by omega)).mono ?_;rintro e w2 ⟨q,r,rfl,hq,hr,a⟩;go_wp2;go_ret2;exact ⟨_,_,rfl,hq,hr,b.trans (a.mono b.size)⟩
   ·obtain rfl:n2=1:=by omega
    obtain ⟨b2,K,rfl,U,i⟩:=g2.at_ (by omega);have hy:=i 0 (by omega);rw [Nat.add_zero] at hy;clear i;have t:Y < B32:=by
     have:=Yn Y;have e:(Zo Y).length=1:=by omega
     rwa [e,Nat.pow_one] at this
    have u:di (Zo Y) 0=(Y:Int):=(by rw [Zda hY t];simp [di,dg]);have y1:=Yk (Yb Y) 0;have y0:1≤di (Zo Y) 0:=(by omega);have l:=JZ u;clear u t;go_wp2_with fail;refine (Zaa _ (Zo X) _ g1 (by omega)).mono ?_;rintro e w2 ⟨v',rfl,d,a⟩;have z:(Zo X).length=n1:=(by omega);rw [z] at d;obtain ⟨gg,cap,rfl,F,_⟩:=d.form (by omega);have O:=cell_later a hy;go_wp2_with fail;refine (Zml _ _ _ _ (Zo X) _ _ d (Yb X) (by omega) y0 y1).mono ?_;rintro e w3 ⟨Q,rfl,lQ,G,vQ,p,y⟩;have g:Below w1.heap.size w1 w3:=below_grown a y F a.size;rw [Zl] at vQ;rw [Zl];have j:((X % (di (Zo Y) 0).toNat:Nat):Int)=((X % Y:Nat):Int):=(by rw [l.out,JP]);rw [j];have B:((X % Y:Nat):Int)≤4294967295:=(by have:=Nat.mod_lt X hY;have:=l.out;omega);have v:0≤((X % Y:Nat):Int):=(by omega);obtain ⟨rz,o⟩:∃rz:Int,rz=((X % Y:Nat):Int):=⟨_,rfl⟩;rw [← o] at B v ⊢;have C:=JZ o;have VQ:=JZ vQ;clear j o vQ lQ;have D:=Va p G;go_wp2_with fail;refine (Ya _ Q _ D).mono ?_;rintro e w4 ⟨v4,rfl,H,rfl⟩;go_wp2_with fail;refine (YL rz _ v (by omega)).mono ?_;rintro e w5 ⟨v5,rfl,s,f⟩;go_wp2;go_ret2;refine ⟨_,_,rfl,?_,?_,b.trans ((g.trans (f.mono g.size)).mono b.size)⟩
    ·have:=H.below f
     rwa [VQ.out,l.out,JP] at this
    ·rwa [C.out,JP] at s
  ·have m:X < B32 * B32:=Zac (by omega);have n:Y < B32 * B32:=Zac (by omega);go_wp2_with fail;refine (Wo _ X _ g1 m).mono ?_;rintro e w2 ⟨rfl,a⟩;go_wp2_with fail;refine (Wo _ Y _ (g2.below a) n).mono ?_;rintro e w3 ⟨rfl,g⟩;have x1:(X:Int)≤18446744073709551615:=(by unfold B32 at m;omega);have y1:(Y:Int)≤18446744073709551615:=(by unfold B32 at n;omega);have x0:(0:Int)≤X:=(by omega);have y0:(1:Int)≤Y:=(by omega);have d0:(0:Int)≤(X:Int) / Y:=Int.ediv_nonneg x0 (by omega);have d1:(X:Int) / Y≤X:=Int.ediv_le_self _ x0;have m0:(0:Int)≤(X:Int) % Y:=Int.emod_nonneg _ (by omega);have m1:(X:Int) % Y < Y:=Int.emod_lt_of_pos _ (by omega);have ed:(X:Int) / Y=((X / Y:Nat):Int):=(by rw [Int.natCast_ediv]);have em:(X:Int) % Y=((X % Y:Nat):Int):=(by rw [Int.natCast_emod]);have ED:=JZ ed;have EM:=JZ em;clear ed em m n;generalize (X:Int)=zx at *;generalize (Y:Int)=zy at *;have q0:¬zy=0:=(by omega);have q1:IntKind.u64.wrap (zx.tdiv zy)=zx / zy:=IntWalk.u64_quo zx zy ⟨x0,x1,y0⟩;have q2:zx.tmod zy=zx % zy:=Int.tmod_eq_emod_of_nonneg x0;have q3:IntKind.u64.wrap (zx % zy)=zx % zy:=u64_in _ m0 (by omega);go_wp2_with fail
   go_region_held3 (fun _=>True) (exact trivial)
    (first | (go_at_call_of 159 (Value.int IntKind.u64 (zx / zy));refine (YL (zx / zy) _ d0 (by omega)).mono ?_;rintro e w5 ⟨v5,rfl,s,f⟩) | (go_at_call 159;refine (YL (zx % zy) _ m0 (by omega)).mono ?_;rintro e w6 ⟨v6,rfl,I,k⟩))
   go_wp2;go_ret2;refine ⟨v5,v6,rfl,?_,?_,?_⟩
   ·have:=s.below k
    rwa [ED.out,JP] at this
   ·rwa [EM.out,JP] at I
   ·have E:=(Ve f).trans (k.mono f.size);have x:=a.trans (g.mono a.size);exact b.trans ((x.trans (E.mono x.size)).mono b.size)
theorem Zya {x y:Int} (hx:0≤x) (hy:0 < y):Nat.gcd y.toNat (x % y).toNat=Nat.gcd x.toNat y.toNat:=by
 obtain ⟨a,rfl⟩:=JT hx;obtain ⟨b,rfl⟩:=JT (Int.le_of_lt hy);rw [← Int.natCast_emod,JP,JP,JP,Nat.gcd_comm a b,Nat.gcd_rec b a,Nat.gcd_comm]
theorem Zdp [Old] (x y:Int) (w:World) (x0:0≤x) (x1:x≤18446744073709551615) (y0:0≤y) (y1:y≤18446744073709551615) (hOl:Zb w:=by (repeat (first | assumption | exact Zb.up (by assumption) hOl | exact Zb.up (Hid.out (by assumption)) hOl | with_reducible refine Zb.set ?_ _ _ | with_reducible refine Zb.mk_ ?_ _ | with_reducible refine Zb.dr ?_ | with_reducible refine Zb.drN ?_ | refine Zb.up (by assumption) ?_ | refine Zb.up (Hid.out (by assumption)) ?_))):
 Calls Tryz.prog 170 #[.int .u64 x,.int .u64 y] w fun e w'=>e= .returned (.int .u64 ((Nat.gcd x.toNat y.toNat:Nat):Int))∧Below w.heap.size w w':=by
 have c:=hOl.le;go_enter Tryz.func170,Tryz.ntmps170;go_wp2
 go_loopw [0,1] (fun s t wr=>∃(a b:Int) (q:Nat),s= .int .u64 a∧t= .int .u64 b∧0≤a∧a≤18446744073709551615∧0≤b∧b≤18446744073709551615∧wr=w.drewN q∧Nat.gcd a.toNat b.toNat=Nat.gcd x.toNat y.toNat) (fun _ t _=>(intOf t).toNat)
 case atStart=>exact ⟨x,y,0,rfl,rfl,x0,x1,y0,y1,rfl,rfl⟩
 case round=>
  obtain ⟨a,b,q,rfl,rfl,a0,a1,b0,b1,rfl,hg⟩:=hrel;have HG:=JZ hg;clear hg;rcases Int.lt_or_eq_of_le b0 with h | h
  ·have t1:(b !=0)=true:=(by simp;omega);have q0:¬b=0:=(by omega);have m0:0≤a % b:=Int.emod_nonneg _ (by omega);have m1:a % b < b:=Int.emod_lt_of_pos _ h;have q2:a.tmod b=a % b:=Int.tmod_eq_emod_of_nonneg a0;have q3:IntKind.u64.wrap (a % b)=a % b:=u64_in _ m0 (by omega);go_wp2
   go_quiet (fail)
   go_wp2;go_roundw
   case rel=>exact ⟨b,a % b,q+nq,rfl,rfl,b0,b1,m0,by omega,World.drewN_drewN _ _ _,by rw [Zya a0 h];exact HG.out⟩
   case measure=>simp [intOf];omega
  ·subst h;go_wp2;go_ret;refine ⟨WZ ?_,below_drewN' _ _⟩;rw [← HG.out];simp;omega
theorem Ztv (O p q b a c u v x y pw P Q pr qr r t:Int) (h:O+(p - q - b) * pw=u * a - v * c) (e1:p+u * x=pr+4294967296 * P) (e2:q+v * y=qr+4294967296 * Q) (e3:pr - qr - b=r - 4294967296 * t):
 O+r * pw+(P - Q - t) * (pw * 4294967296)=u * (a+x * pw) - v * (c+y * pw):=by grind
theorem XY {O xs ys:List Nat} {k:Nat} {p q b u v P Q pr qr r t:Int} (hk:k < O.length) (hr:0≤r) (e1:p+u * di xs k=pr+4294967296 * P) (e2:q+v * di ys k=qr+4294967296 * Q) (e3:pr - qr - b=r - 4294967296 * t)
 (h:(vt O k:Int)+(p - q - b) * ((B32^k:Nat):Int)=u * vt xs k - v * vt ys k):
 (vt (O.set k r.toNat) (k+1):Int)+(P - Q - t) * ((B32^(k+1):Nat):Int)=u * vt xs (k+1) - v * vt ys (k+1):=by
 rw [Y4 hk hr,Z4,Z4,Yz];exact Ztv _ _ _ _ _ _ _ _ _ _ _ _ _ _ _ _ _ h e1 e2 e3
theorem Zot {O xs ys:List Nat} {n R:Nat} {p q b u v:Int} (okO:okD O) (hO:O.length=n) (hx:xs.length≤n) (hy:ys.length≤n) (hR:u * val xs - v * val ys=(R:Int)) (hlt:R < B32^n)
 (h:(vt O n:Int)+(p - q - b) * ((B32^n:Nat):Int)=u * vt xs n - v * vt ys n):val O=R:=by
 rw [Xy hx,Xy hy,Xy (by omega),hR] at h;have hv:=Zdk okO;rw [hO] at hv;generalize p - q - b=c at *;generalize B32^n=P at *;have hc:c=0:=by
  rcases Int.lt_trichotomy c 0 with g | g | g
  ·have:c * (P:Int)≤(-1) * P:=Int.mul_le_mul_of_nonneg_right (by omega) (by omega);omega
  ·exact g
  ·have:1 * (P:Int)≤c * P:=Int.mul_le_mul_of_nonneg_right (by omega) (by omega);omega
 subst hc;omega
theorem Zrd [Old] (v1 v2:Value) (xs ys:List Nat) (u v:Int) (R:Nat) (w:World) (h1:ZQ w v1 xs) (h2:ZQ w v2 ys) (hcmp:xs.length < ys.length) (u0:0≤u) (u1:u≤4294967295) (w0:0≤v) (w1:v≤4294967295) (hs:ys.length≤549755813888)
 (hR:u * val xs - v * val ys=(R:Int)) (hlt:R < B32^(ys.length)) (hOl:Zb w:=by (repeat (first | assumption | exact Zb.up (by assumption) hOl | exact Zb.up (Hid.out (by assumption)) hOl | with_reducible refine Zb.set ?_ _ _ | with_reducible refine Zb.mk_ ?_ _ | with_reducible refine Zb.dr ?_ | with_reducible refine Zb.drN ?_ | refine Zb.up (by assumption) ?_ | refine Zb.up (Hid.out (by assumption)) ?_))):
 Calls Tryz.prog 169 #[v1,.int .u64 u,v2,.int .u64 v] w fun e w'=>∃v',e= .returned v'∧ZQ w' v' (Zo R)∧Below w.heap.size w w':=by
 have B:=hOl.le;have HR:=JZ hR;have m:=JZ hlt;clear hR hlt;obtain ⟨A,l,c,rfl⟩:=h1.shape;obtain ⟨hl,C,D,hc⟩:=h1.len;obtain ⟨A2,l2,c2,rfl⟩:=h2.shape;obtain ⟨kl,E,F,kc⟩:=h2.len;have n:=YE l2 (by omega);have o:(l:Int) < l2:=by omega
 go_enter Tryz.func169,Tryz.ntmps169;go_wp2;clear n
 go_loopw [11,12,13,24] (fun ps qs bs i wr=>∃(k:Nat) (O:List Nat) (p q b:Int),k≤l2∧i= .int .i64 k∧ps= .int .u64 p∧qs= .int .u64 q∧bs= .int .i64 b∧0≤p∧p≤4294967295∧0≤q∧q≤4294967295∧0≤b∧b≤1∧l2≤O.length∧O.length≤l2∧YD wr w.heap.size O∧okD O∧Below w.heap.size w wr∧
  (vt O k:Int)+(p - q - b) * ((B32^k:Nat):Int)=u * vt xs k - v * vt ys k) (fun _ _ _ i _=>l2 - (intOf i).toNat)
 case atStart=>exact ⟨0,List.replicate l2 0,0,0,0,by omega,rfl,rfl,rfl,rfl,by omega,by omega,by omega,by omega,by omega,by omega,by simp,by simp,YD.zeros w _,ZM _,(JR _ _).alloc (JY _) _,by simp [YN]⟩
 case round=>
  obtain ⟨k,O,p,q,b,hk,rfl,rfl,rfl,rfl,p0,p1,q0,q1,b0,b1,hO,g,hB,ok,a,j⟩:=hrel;have HE:=JZ j;clear j;rcases JX k l2 with hkl | hkl
  ·have ho:=hB.cell (k:=k) (by omega);have hf:=hB.frozen k;have x0:=Zr xs k;have x1:=Yk h1.ok k;have y0:=Zr ys k;have y1:=Yk h2.ok k;have a0:0≤u * di xs k:=Int.mul_nonneg u0 x0;have a1:u * di xs k≤4294967295 * 4294967295:=Int.mul_le_mul u1 x1 x0 (by omega);have c0:0≤v * di ys k:=Int.mul_nonneg w0 y0;have c1:v * di ys k≤4294967295 * 4294967295:=Int.mul_le_mul w1 y1 y0 (by omega);obtain ⟨bY,y,rfl,t,d⟩:=h2.at_ (by omega);have hy:=XC a t d hkl;clear d;rcases JX k l with hk2 | hk2
   ·skip
    obtain ⟨bx,z,rfl,x,f⟩:=h1.at_ (by omega);have hx:=XC a x f hk2;clear f;have r:=We (show 0≤p+u * di xs k by omega) (show p+u * di xs k≤18446744073709551615 by omega);have s:=We (show 0≤q+v * di ys k by omega) (show q+v * di ys k≤18446744073709551615 by omega);go_wp2
    ·go_roundw
     case rel=>exact ⟨k+1,O.set k _,_,_,1,by omega,by go_num,rfl,rfl,rfl,by omega,by omega,by omega,by omega,by omega,by omega,by simpa using hO,by simpa using g,hB.setI k (by omega),ZN ok k (by unfold B32;omega),a.setCell (JY _) _,XY (pr:=(p+u * di xs k) % 4294967296) (qr:=(q+v * di ys k) % 4294967296) (by omega) (by omega) (by omega) (by omega) (by omega) HE.out⟩
     case measure=>simp [intOf];omega
    ·go_roundw
     case rel=>exact ⟨k+1,O.set k _,_,_,0,by omega,by go_num,rfl,rfl,rfl,by omega,by omega,by omega,by omega,by omega,by omega,by simpa using hO,by simpa using g,hB.setI k (by omega),ZN ok k (by unfold B32;omega),a.setCell (JY _) _,XY (pr:=(p+u * di xs k) % 4294967296) (qr:=(q+v * di ys k) % 4294967296) (by omega) (by omega) (by omega) (by omega) (by omega) HE.out⟩
     case measure=>simp [intOf];omega
   ·have h:di xs k=0:=(by rw [Yq,Wv (by omega)];rfl);have HX:=JZ h;clear h;have r:=We (show 0≤p by omega) (show p≤18446744073709551615 by omega);have s:=We (show 0≤q+v * di ys k by omega) (show q+v * di ys k≤18446744073709551615 by omega);go_wp2
    ·go_roundw
     case rel=>exact ⟨k+1,O.set k _,_,_,1,by omega,by go_num,rfl,rfl,rfl,by omega,by omega,by omega,by omega,by omega,by omega,by simpa using hO,by simpa using g,hB.setI k (by omega),ZN ok k (by unfold B32;omega),a.setCell (JY _) _,XY (pr:=(p) % 4294967296) (qr:=(q+v * di ys k) % 4294967296) (by omega) (by omega) (by rw [HX.out];omega) (by omega) (by omega) HE.out⟩
     case measure=>simp [intOf];omega
    ·go_roundw
     case rel=>exact ⟨k+1,O.set k _,_,_,0,by omega,by go_num,rfl,rfl,rfl,by omega,by omega,by omega,by omega,by omega,by omega,by simpa using hO,by simpa using g,hB.setI k (by omega),ZN ok k (by unfold B32;omega),a.setCell (JY _) _,XY (pr:=(p) % 4294967296) (qr:=(q+v * di ys k) % 4294967296) (by omega) (by omega) (by rw [HX.out];omega) (by omega) (by omega) HE.out⟩
     case measure=>simp [intOf];omega
  ·obtain rfl:k=l2:=by omega
   go_wp2_with fail;refine (Ya _ O _ ?_).mono ?_
   ·have:=hB.dig ok (c:=k) g (by unfold maxLen;omega)
    rwa [show O.length=k from by omega] at this
   rintro e w1 ⟨v',rfl,hv,rfl⟩;go_wp2_with fail;go_ret;refine ⟨_,rfl,?_,a⟩
   rwa [Zot ok (show O.length=k by omega) (by omega) (by omega) HR.out (by have:=m.out;rwa [show ys.length=k from by omega] at this) HE.out] at hv
theorem Zre [Old] (v1 v2:Value) (xs ys:List Nat) (u v:Int) (R:Nat) (w:World) (h1:ZQ w v1 xs) (h2:ZQ w v2 ys) (hcmp:ys.length≤xs.length) (u0:0≤u) (u1:u≤4294967295) (w0:0≤v) (w1:v≤4294967295) (hs:xs.length≤549755813888)
 (hR:u * val xs - v * val ys=(R:Int)) (hlt:R < B32^(xs.length)) (hOl:Zb w:=by (repeat (first | assumption | exact Zb.up (by assumption) hOl | exact Zb.up (Hid.out (by assumption)) hOl | with_reducible refine Zb.set ?_ _ _ | with_reducible refine Zb.mk_ ?_ _ | with_reducible refine Zb.dr ?_ | with_reducible refine Zb.drN ?_ | refine Zb.up (by assumption) ?_ | refine Zb.up (Hid.out (by assumption)) ?_))):
 Calls Tryz.prog 169 #[v1,.int .u64 u,v2,.int .u64 v] w fun e w'=>∃v',e= .returned v'∧ZQ w' v' (Zo R)∧Below w.heap.size w w':=by
 have B:=hOl.le;have HR:=JZ hR;have m:=JZ hlt;clear hR hlt;obtain ⟨A,l,c,rfl⟩:=h1.shape;obtain ⟨hl,C,D,hc⟩:=h1.len;obtain ⟨A2,l2,c2,rfl⟩:=h2.shape;obtain ⟨kl,E,F,kc⟩:=h2.len;have n:=YE l (by omega);have o:¬(l:Int) < l2:=by omega
 go_enter Tryz.func169,Tryz.ntmps169;go_wp2;clear n
 go_loopw [11,12,13,24] (fun ps qs bs i wr=>∃(k:Nat) (O:List Nat) (p q b:Int),k≤l∧i= .int .i64 k∧ps= .int .u64 p∧qs= .int .u64 q∧bs= .int .i64 b∧0≤p∧p≤4294967295∧0≤q∧q≤4294967295∧0≤b∧b≤1∧l≤O.length∧O.length≤l∧YD wr w.heap.size O∧okD O∧Below w.heap.size w wr∧
  (vt O k:Int)+(p - q - b) * ((B32^k:Nat):Int)=u * vt xs k - v * vt ys k) (fun _ _ _ i _=>l - (intOf i).toNat)
 case atStart=>exact ⟨0,List.replicate l 0,0,0,0,by omega,rfl,rfl,rfl,rfl,by omega,by omega,by omega,by omega,by omega,by omega,by simp,by simp,YD.zeros w _,ZM _,(JR _ _).alloc (JY _) _,by simp [YN]⟩
 case round=>
  obtain ⟨k,O,p,q,b,hk,rfl,rfl,rfl,rfl,p0,p1,q0,q1,b0,b1,hO,g,hB,ok,a,j⟩:=hrel;have HE:=JZ j;clear j;rcases JX k l with hkl | hkl
  ·have ho:=hB.cell (k:=k) (by omega);have hf:=hB.frozen k;have x0:=Zr xs k;have x1:=Yk h1.ok k;have y0:=Zr ys k;have y1:=Yk h2.ok k;have a0:0≤u * di xs k:=Int.mul_nonneg u0 x0;have a1:u * di xs k≤4294967295 * 4294967295:=Int.mul_le_mul u1 x1 x0 (by omega);have c0:0≤v * di ys k:=Int.mul_nonneg w0 y0;have c1:v * di ys k≤4294967295 * 4294967295:=Int.mul_le_mul w1 y1 y0 (by omega);obtain ⟨bx,y,rfl,t,d⟩:=h1.at_ (by omega);have hx:=XC a t d hkl;clear d;rcases JX k l2 with hk2 | hk2
   ·skip
    obtain ⟨bY,z,rfl,x,f⟩:=h2.at_ (by omega);have hy:=XC a x f hk2;clear f;have r:=We (show 0≤p+u * di xs k by omega) (show p+u * di xs k≤18446744073709551615 by omega);have s:=We (show 0≤q+v * di ys k by omega) (show q+v * di ys k≤18446744073709551615 by omega);go_wp2
    ·go_roundw
     case rel=>exact ⟨k+1,O.set k _,_,_,1,by omega,by go_num,rfl,rfl,rfl,by omega,by omega,by omega,by omega,by omega,by omega,by simpa using hO,by simpa using g,hB.setI k (by omega),ZN ok k (by unfold B32;omega),a.setCell (JY _) _,XY (pr:=(p+u * di xs k) % 4294967296) (qr:=(q+v * di ys k) % 4294967296) (by omega) (by omega) (by omega) (by omega) (by omega) HE.out⟩
     case measure=>simp [intOf];omega
    ·go_roundw
     case rel=>exact ⟨k+1,O.set k _,_,_,0,by omega,by go_num,rfl,rfl,rfl,by omega,by omega,by omega,by omega,by omega,by omega,by simpa using hO,by simpa using g,hB.setI k (by omega),ZN ok k (by unfold B32;omega),a.setCell (JY _) _,XY (pr:=(p+u * di xs k) % 4294967296) (qr:=(q+v * di ys k) % 4294967296) (by omega) (by omega) (by omega) (by omega) (by omega) HE.out⟩
     case measure=>simp [intOf];omega
   ·have h:di ys k=0:=(by rw [Yq,Wv (by omega)];rfl);have HY:=JZ h;clear h;have r:=We (show 0≤p+u * di xs k by omega) (show p+u * di xs k≤18446744073709551615 by omega);have s:=We (show 0≤q by omega) (show q≤18446744073709551615 by omega);go_wp2
    ·go_roundw
     case rel=>exact ⟨k+1,O.set k _,_,_,1,by omega,by go_num,rfl,rfl,rfl,by omega,by omega,by omega,by omega,by omega,by omega,by simpa using hO,by simpa using g,hB.setI k (by omega),ZN ok k (by unfold B32;omega),a.setCell (JY _) _,XY (pr:=(p+u * di xs k) % 4294967296) (qr:=(q) % 4294967296) (by omega) (by omega) (by omega) (by rw [HY.out];omega) (by omega) HE.out⟩
     case measure=>simp [intOf];omega
    ·go_roundw
     case rel=>exact ⟨k+1,O.set k _,_,_,0,by omega,by go_num,rfl,rfl,rfl,by omega,by omega,by omega,by omega,by omega,by omega,by simpa using hO,by simpa using g,hB.setI k (by omega),ZN ok k (by unfold B32;omega),a.setCell (JY _) _,XY (pr:=(p+u * di xs k) % 4294967296) (qr:=(q) % 4294967296) (by omega) (by omega) (by omega) (by rw [HY.out];omega) (by omega) HE.out⟩
     case measure=>simp [intOf];omega
  ·obtain rfl:k=l:=by omega
   go_wp2_with fail;refine (Ya _ O _ ?_).mono ?_
   ·have:=hB.dig ok (c:=k) g (by unfold maxLen;omega)
    rwa [show O.length=k from by omega] at this
   rintro e w1 ⟨v',rfl,hv,rfl⟩;go_wp2_with fail;go_ret;refine ⟨_,rfl,?_,a⟩
   rwa [Zot ok (show O.length=k by omega) (by omega) (by omega) HR.out (by have:=m.out;rwa [show xs.length=k from by omega] at this) HE.out] at hv
end Go.Proofs.YtncmobkhenfhpaaGreat
