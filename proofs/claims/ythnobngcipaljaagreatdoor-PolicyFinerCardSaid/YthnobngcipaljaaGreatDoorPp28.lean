/- Contract: Chance. The error of a season and a member's number. Contract: Alone (of the program). Contract: Play. -/
import Derived.Test.YthnobngcipaljaaGreatDoorPp27
import Derived.Test.YthnobngcipaljaaGreatDoorPp09
import Derived.Test.YthnobngcipaljaaGreatDoorPp11
import Derived.Test.YthnobngcipaljaaGreatDoorPp12
import Derived.Test.YthnobngcipaljaaGreatDoorPp25
import Derived.OwnWalk
set_option maxRecDepth 1000000
set_option maxHeartbeats 64000000
set_option linter.unusedVariables false
set_option linter.unusedSimpArgs false
set_option linter.constructorNameAsVariable false
open Go.Lib (hid)
namespace Go.Tw
open Go.RowKit Go.Flow
def wTo (s:Q0b) (k:Nat):Int:=((List.range k).map fun i=>Q0i s.members i).sum
theorem Y7a (s:Q0b) (k:Nat):wTo s (k + 1)=wTo s k + Q0i s.members k:=by unfold wTo; rw [List.range_succ,List.map_append,List.sum_append]; simp
theorem Z2g (s:Q0b):wTo s s.members.length=Q2c s (allL s):=by unfold wTo Q2c allL; rw [List.map_map]; rfl
theorem Z1i {s:Q0b} (hV:Q1b s):∀ k,k <= s.members.length -> (k:Int) <= wTo s k /\ wTo s k <= 1000 * k
 | 0,_=>by simp [wTo]
 | k + 1,h=>by
   have ih:=Z1i hV k (by omega)
   have:=hV.weights k (by omega)
   rw [Y7a]; omega
def X6g (s:Q0b) (p:List Rul):Ratio:=if Q1g s p=0 then Y6q s p else ⟨0,0⟩
end Go.Tw
namespace Go.Proofs
open Go.RowKit Go.Tw Go.Flow
attribute [local go_sem] Oper.semAt_some
theorem Y1f (w:World) (v u:Value) (s:Q0b) (p:List Rul) (hv:Q0h w v s) (hu:Q0w w u p) (hs:Q3k s) (hp:p.length <= 1000) :
    Calls Tryz.prog 64 #[v,u] w fun e w'=>e=.returned (.tuple #[.agg #[.int .i64 (X6g s p).num,.int .i64 (X6g s p).den],.int .i64 (Q1g s p)]) /\ Ext w w':=by
 obtain ⟨a,b,rfl,h2⟩:=hv;obtain ⟨rv,rfl,hr⟩:=hu;obtain ⟨A,capa,rfl,-,-,-⟩:=h2.ships.opened;obtain ⟨M,capb,rfl,-,-,-⟩:=h2.members.opened;obtain ⟨R,capr,rfl,-,-,-⟩:=hr.opened;have H2:=hid h2;have HR:=hid hr;have HS:=hid hs;clear h2 hr hs;go_enter Tryz.func64,Tryz.ntmps64;go_wp2_with fail;change Calls _ _ _ (((w.alloc (.cells #[.int .i64 s.limit,.slice A s.ships.length capa,.slice M s.members.length capb] 34)).alloc (.cells #[.slice R p.length capr] 38)).alloc (.cells #[.int .i64 0,.int .i64 0] 107)) _;obtain ⟨W,hWW,k0,k1,k2,HXW,eW⟩:=X2z w 34 #[.int .i64 s.limit,.slice A s.ships.length capa,.slice M s.members.length capb] 38 #[.slice R p.length capr] 107 #[.int .i64 0,.int .i64 0];rw [hWW];clear hWW;have K0:=hid k0;have K2:=hid k2;clear k0 k1 k2;refine (X6i _ _ _ s p ⟨_,_,rfl,H2.out.ext HXW.out⟩ ⟨_,rfl,HR.out.ext HXW.out⟩ HS.out hp).mono ?_;rintro e w5 ⟨x5,rfl,hi5,hx5⟩;have HX5:=hid (HXW.out.trans hx5);have HK0:=hid (K0.out.ext hx5);have HK2:=hid (K2.out.ext hx5)
 by_cases he:Q1g s p=0
 . obtain ⟨hV,hre⟩:=Q4o he
   have HV:=hid hV;have h8:=hV.some;have hF:X6g s p=Y6q s p:=if_pos he;have HF:=hid hF;have HER:=hid he;have hne:(Q1g s p != 0)=false:=by simp [he]
   have hkr:Y8s s p=Q3r s p:=if_pos he;rw [hkr] at hi5;have hkl:=kept_len s p;have hkb:0 <= Q2c s (Q3r s p) /\ Q2c s (Q3r s p) <= 8000:=by have h:=Y9i hV (Q8t s p); omega
   have hwa:=Z1i hV s.members.length (Nat.le_refl _);rw [Z2g] at hwa;have HPW:=hid (Y1q w5 _ x5 s (Q3r s p) ⟨_,_,rfl,H2.out.ext HX5.out⟩ hi5 hV (Q8t s p) (by omega))
   have HCS:Hid (Y6q s p=lowest (Q2c s (Q3r s p)) (Q2c s (allL s))):=hid rfl;have HWA:=hid (Z2g s);obtain ⟨E,hE⟩:∃ E,Q1g s p=E:=⟨_,rfl⟩;have HE0:=hid (hE.symm.trans he);obtain ⟨A5,c5,hs5,-,-,-⟩:=hi5.opened;subst hs5;have c0:=(HK0.out).cell 0;have c1:=(HK0.out).cell 1;have c2:=(HK0.out).cell 2;simp only [Go.Tw.gA,Go.Tw.gB,Go.Tw.gC] at c0 c1 c2;rw [hE] at hne ⊢;rw [HE0.out];obtain ⟨kw,hkw⟩:∃ z,Q2c s (Q3r s p)=z:=⟨_,rfl⟩;obtain ⟨aw,haw⟩:∃ z,Q2c s (allL s)=z:=⟨_,rfl⟩;rw [hkw] at HPW HCS hkb;rw [haw] at HCS HWA hwa;obtain ⟨kl,hkle⟩:∃ z,(Q3r s p).length=z:=⟨_,rfl⟩;rw [hkle] at HPW ⊢;clear he hE hx5 hV hF hkr hkw haw hre hi5 hkl hkle;go_wp2_with (go_at_call 134; refine HPW.out.mono ?_; rintro e w6 ⟨rfl,hx6⟩; refine halted ?_);have HX6:=hid hx6;have k6:=HK0.out.ext hx6;replace c0:=hx6.cell c0;replace c1:=hx6.cell c1;replace c2:=hx6.cell c2;clear hx6 k6;unfold Q1i;go_wp2
   go_loopw [9,30] (fun o i wr=>∃ (k:Nat),k <= s.members.length /\ i=.int .i64 k /\ o=.int .i64 (wTo s k) /\ Ext w6 wr) (fun _ i _=>s.members.length - (intOf i).toNat)
   case atStart=>exact ⟨0,Nat.zero_le _,rfl,by simp [wTo],Ext.refl _⟩
   case round =>
    clear c0 c1 c2;obtain ⟨k,hk,rfl,rfl,hx⟩:=hrel;have HX:=hid hx
    by_cases hlt:k < s.members.length
    . obtain ⟨bm,off,capx,capy,capz,X,Y,Z,hm⟩:=Q2l (H2.out.ext (HX5.out.trans (HX6.out.trans hx))).members hlt
      have hkI:(k:Int) < s.members.length:=by omega
      obtain rfl:=hm.addr;have e0:=hm.e0;have e1:=hm.e1;have e2:=hm.e2;have e3:=hm.e3;have e4:=hm.e4;have hst:=Y7a s k;have hwb:=Z1i HV.out (k + 1) hlt;obtain ⟨nm,hnm⟩:∃ x,Q1h s.members k=x:=⟨_,rfl⟩;obtain ⟨wt,hwt⟩:∃ x,Q0i s.members k=x:=⟨_,rfl⟩;obtain ⟨lc,hlc⟩:∃ x,(Q0c s.members k).length=x:=⟨_,rfl⟩;obtain ⟨lo,hlo⟩:∃ x,(Q0t s.members k).length=x:=⟨_,rfl⟩;obtain ⟨li,hli⟩:∃ x,(Q0y s.members k).length=x:=⟨_,rfl⟩;rw [hnm] at e0;rw [hwt] at e1 hst;rw [hlc] at e2;rw [hlo] at e3;rw [hli] at e4;have HST:=hid hst;rw [hst] at hwb;obtain ⟨sm,hsm⟩:∃ x,wTo s k=x:=⟨_,rfl⟩;rw [hsm] at hwb HST ⊢;have hws:IntKind.i64.wrap (sm + wt)=sm + wt:=Q2v _ (by omega) (by omega)
      have hbox:=Ext.box wr (.cells #[.string nm,.int .i64 wt,.slice X lc capx,.slice Y lo capy,.slice Z li capz] 69);have K3:=Blk.made wr 69 #[.string nm,.int .i64 wt,.slice X lc capx,.slice Y lo capy,.slice Z li capz];have d0:=(K3).cell 0;have d1:=(K3).cell 1;have d2:=(K3).cell 2;have d3:=(K3).cell 3;have d4:=(K3).cell 4;simp only [Go.Tw.gA,Go.Tw.gB,Go.Tw.gC] at d0 d1 d2 d3 d4;have HX9:=hid (hx.trans hbox);clear hm hst hnm hwt hlc hlo hli hsm hbox K3 hx
      go_light
      go_wp2;go_roundw
      case rel=>exact ⟨k + 1,by omega,by go_num,by rw [HST.out],HX9.out⟩
      case measure=>simp [intOf]; omega
    . have hke:k=s.members.length:=by omega
      subst hke;rw [HWA.out];clear hx;go_wp2;have hab:1 <= aw /\ aw <= 8000:=by omega
      obtain ⟨w7,rfl⟩:∃ X,X=wr:=⟨_,rfl⟩;have HW7:=hid (HX5.out.trans (HX6.out.trans HX.out));have HB7:=hid (HK2.out.ext (HX6.out.trans HX.out));clear hwa
      go_loopw [12,13] (fun x y wr=>∃ (p q:Int),x=.int .i64 p /\ y=.int .i64 q /\ 0 <= p /\ 0 <= q /\ p <= 8000 /\ q <= 8000 /\ (0 < p ∨ 0 < q) /\ Int.gcd p q=Int.gcd kw aw /\ Ext w7 wr) (fun _ y _=>(intOf y).toNat)
      case atStart=>exact ⟨kw,aw,rfl,rfl,hkb.1,by omega,hkb.2,hab.2,by omega,rfl,Ext.refl _⟩
      case round =>
       obtain ⟨p',q',rfl,rfl,hp',hq',hp2,hq2,hpq,hg,hx0⟩:=hrel
       by_cases hz:q'=0
       . subst hz
         have hpg:p'=(Int.gcd kw aw:Int):=by rw [<- hg,Int.gcd_zero]; omega
         have hdz:¬ p'=0:=by omega
         have HPG:=hid hpg;clear hg hpg;have hq1:kw / p' <= kw:=Int.ediv_le_self _ hkb.1;have hq2':aw / p' <= aw:=Int.ediv_le_self _ (by omega)
         have hq3:0 <= kw / p':=Int.ediv_nonneg hkb.1 hp';have hq4:0 <= aw / p':=Int.ediv_nonneg (by omega) hp'
         have hq5:kw.tdiv p'=kw / p':=Int.tdiv_eq_ediv_of_nonneg hkb.1;have hq6:aw.tdiv p'=aw / p':=Int.tdiv_eq_ediv_of_nonneg (by omega)
         have hq7:IntKind.i64.wrap (kw / p')=kw / p':=Q2v _ (by omega) (by omega)
         have hq8:IntKind.i64.wrap (aw / p')=aw / p':=Q2v _ (by omega) (by omega)
         have HX0:=hid hx0;have hdr:=(Ext.refl wr).drew;go_wp2;refine Flow.Q4m [.p,.p,.p,.p,.p,.p,.p,.last,.last] [0,1,2,3,4,5,6,7,8] [[],[],[0,1],[],[],[3,4],[0,1,2,3,4,5],[0,1,2,3,4,5,6],[0,1,2,3,4,5,6,7]] [7,8]
          [.c 0 (.int .i64 kw),.c 1 (.int .i64 p'),.c 2 (.int .i64 (kw / p')),.c 3 (.int .i64 aw),.c 4 (.int .i64 p'),.c 5 (.int .i64 (aw / p')),.c 6 (.agg #[.int .i64 (kw / p'),.int .i64 (aw / p')]),.none,.none]
          [fun v w1 w'=>Blk w' (w.heap.size + 1 + 1) 107 #[.int .i64 (kw / p'),.int .i64 (aw / p')] /\ (∀ n,n <= w.heap.size + 1 + 1 -> Below n w1 w'),fun v w1 w'=>v 8=.int .i64 0 /\ Blk w' (w.heap.size + 1 + 1) 107 #[.int .i64 (kw / p'),.int .i64 (aw / p')] /\ (∀ n,n <= w.heap.size + 1 + 1 -> Below n w1 w')] (by kernel_rfl) rfl (by kernel_rfl) ⟨?g0,?g1,?g2,?g3,?g4,?g5,?g6,?g7,?g8,trivial⟩ ?post
         case g0 | g1 | g3 | g4=>
          intro v w1 hx;intro bb hbb;subst hbb;refine ⟨_,fun w=>?_,rfl⟩;go_simp
         case g2 | g5 | g6=>
          intro v w1 hx;(repeat intro (zq:v _=_));intro bb hbb;subst hbb;refine ⟨_,fun w=>?_,rfl⟩;go_simp
         case g7=>
          intro v w1 hx;(repeat intro (zq:v _=_));intro wl hT;obtain rfl:wl=w1:=hT;intro bb hbb;intro K hK;have o1:bb.eval (.tmp 4)=.pointer (some ⟨w.heap.size + 1 + 1,0,none⟩):=by rw [hbb]; dsimp only; (try simp (discharger:=decide) only [eval_put_ne]); rfl
          have o2:bb.eval (.tmp 53)=.agg #[.int .i64 (kw / p'),.int .i64 (aw / p')]:=by rw [hbb]; dsimp only; (try simp (discharger:=decide) only [eval_put_ne]); rw [Q0a (by simp only [size_put]; exact (by decide:53 < 54))]; assumption
          exact Q2b (.tmp 4) (.tmp 53) _ rfl Tryz.Y0s o1 o2 (HB7.out.ext (HX0.out.trans (hdr.trans hx))) rfl rfl X3z (fun vv w' hb hl ho=>hK _ _ ⟨hb,hl⟩)
         case g8=>
          intro v w1 hx;(repeat intro (zq:v _=_));intro wl hT;replace hT:(fun v w1 w'=>Blk w' (w.heap.size + 1 + 1) 107 #[.int .i64 (kw / p'),.int .i64 (aw / p')] /\ (∀ n,n <= w.heap.size + 1 + 1 -> Below n w1 w')) v w1 wl:=hT;intro bb hbb;subst hbb;intro K hK;go_simp;exact hK _ _ ⟨rfl,hT⟩
         case post =>
          intro v w1 hx;(iterate 7 intro (zq:v _=_));intro w2 hE;replace hE:(fun v w1 w'=>v 8=.int .i64 0 /\ Blk w' (w.heap.size + 1 + 1) 107 #[.int .i64 (kw / p'),.int .i64 (aw / p')] /\ (∀ n,n <= w.heap.size + 1 + 1 -> Below n w1 w')) v w1 w2:=hE;simp only [Flow.acts,Act.put];go_simp;obtain ⟨h8v,hb9,hl9⟩:=hE;have HX9:Hid (Ext w w2):=hid (Below.trans (HW7.out.trans (HX0.out.trans (hdr.trans hx))) (hl9 _ (by omega)))
          try rw [h8v]
          clear hx hdr hl9;(repeat clear zq);go_wp2;refine bodyPost_ret (Q4c Tryz.results64 rfl hb9 Tryz.Z6t Tryz.Y0s rfl) rfl ?_;exact ⟨by rw [HER.out,HF.out,HCS.out,HPG.out]; rfl,HX9.out⟩
       . have hq0:0 < q':=by omega
         have hst:=Z4r p' q' hp' hq0;have htm:p' % q' < q':=Int.emod_lt_of_pos p' hq0;have htn:=Int.emod_nonneg p' (show q' ≠ 0 by omega)
         rw [Int.tmod_eq_emod_of_nonneg hp'] at hst;go_wp2
         go_quiet (fail)
         all_goals go_wp2
         go_roundw
         case rel=>exact ⟨q',p' % q',rfl,by go_num,by omega,htn,hq2,by omega,Or.inl hq0,by rw [hst,hg],hx0.drewN _⟩
         case measure=>exact (Int.toNat_lt_toNat hq0).2 htm
 . have HF:Hid (X6g s p=⟨0,0⟩):=hid (if_neg he)
   have hne:(Q1g s p != 0)=true:=by simp [he]
   obtain ⟨E,hE⟩:∃ E,Q1g s p=E:=⟨_,rfl⟩;have HPE:=hid hE;have hp2:=HK2.out;obtain ⟨A5,c5,hs5,-,-,-⟩:=hi5.opened;subst hs5;rw [hE] at hne ⊢;clear he hE hx5 hi5;go_wp2_with (with_reducible (refine Q7g ?_); refine Q0s rfl _ _ _ rfl Tryz.Y0s rfl rfl hp2 rfl rfl X3z ?_; intro w9 hb9 hl9 ho9);refine bodyPost_ret (Q4c Tryz.results64 rfl hb9 Tryz.Z6t Tryz.Y0s rfl) rfl ?_;exact ⟨by rw [HPE.out,HF.out]; rfl,Below.trans HX5.out (hl9 _ (by omega))⟩
end Go.Proofs
namespace Go.Proofs
open Go.RowKit Go.Tw Go.Flow
def Q5j (s:Q0b) (n:Int):Int:=Q0g [s.err,Q0x (X1k s n) 10]
theorem X8o {s:Q0b} {n:Int} (h:Q5j s n=0):Q1b s /\ 0 <= n /\ n < s.members.length:=by
 unfold Q5j Q0g at h
 by_cases he:s.err=0
 . rw [if_pos he] at h
   refine ⟨Q1b.of he,?_⟩;unfold Q0g X1k Q0x at h
   by_cases h0:n < 0 <;> by_cases h1:(s.members.length:Int) <= n <;> simp [h0,h1] at h ⊢ <;> omega
 . rw [if_neg he] at h; exact absurd h he
end Go.Proofs
namespace Go.Proofs
open Go.RowKit Go.Tw Go.Flow
attribute [local go_sem] Oper.semAt_some
attribute [local go_sem ↓] X3e X1f
def X8t (s:Q0b) (n:Int):List Bool:=if Q5j s n=0 then (alone s n.toNat).getD [] else []
def Y3d (s:Q0b) (n:Int):Int:=if Q5j s n=0 then (if (alone s n.toNat).isSome then 0 else 24) else Q5j s n
theorem Q8w (w:World):Q1q w (.slice none 0 0) []:=Go.Tw.Rows.nil _ _ _
theorem Z0l (w:World) (v:Value) (s:Q0b) (n:Int) (hv:Q0h w v s) (hs:Q3k s) :
    Calls Tryz.prog 50 #[v,.int .i64 n] w fun e w'=>∃ x,e=.returned (.tuple #[x,.int .i64 (countB (X8t s n)),.int .i64 (Y3d s n)]) /\ Q1q w' x (X8t s n) /\ Ext w w':=by
 obtain ⟨a,b,rfl,h2⟩:=hv;obtain ⟨A,capa,rfl,-,-,-⟩:=h2.ships.opened;obtain ⟨B,capb,rfl,-,-,-⟩:=h2.members.opened;have H2:=hid h2;have HS:=hid hs;have HE1:Hid (∀ (W:World) (u:Value),Q0d W u [s.err,Q0x (X1k s n) 10] -> Calls Tryz.prog 96 #[u] W fun e W'=>e=.returned (.int .i64 (Q5j s n)) /\ W=W'):=hid (fun W u h=>first_any W u _ h);clear h2 hs;go_enter Tryz.func50,Tryz.ntmps50;go_upto_region 1 with fail;change Code.wp _ _ _ _ (w.alloc (.cells #[.int .i64 s.limit,.slice A s.ships.length capa,.slice B s.members.length capb] 34));obtain ⟨W,hWW,k0,HXW,eW⟩:=Q1t w 34 #[.int .i64 s.limit,.slice A s.ships.length capa,.slice B s.members.length capb];rw [hWW];clear hWW;have K0:=hid k0;clear k0;have hdr:=(Ext.refl W).drew;have HSE:Hid (∀ W',Ext W W' -> Q0h W' (.agg #[.int .i64 s.limit,.slice A s.ships.length capa,.slice B s.members.length capb]) s):=hid (fun W' hW=>⟨_,_,rfl,H2.out.ext (HXW.out.trans hW)⟩);refine Flow.Q1o [.w,.w,.w,.p,.w,.w,.w,.p] [0,1,2,3,4,5,6,7] [[],[0],[],[],[1,2,3],[1,4],[4,5],[0,1,2,3,4,5,6]]
  [.c 0 (.agg #[.int .i64 s.limit,.slice A s.ships.length capa,.slice B s.members.length capb]),.c 1 (.int .i64 s.err),.c 2 (.agg #[.int .i64 s.limit,.slice A s.ships.length capa,.slice B s.members.length capb]),.c 3 (.int .i64 n),.c 4 (.int .i64 (Q0x (X1k s n) 10)),⟨fun v wz=>(fun v w'=>Q0d w' (v 5) [s.err,Q0x (X1k s n) 10]) v wz,by intro v a b hx h; exact Q0d.ext h hx⟩,.c 6 (.int .i64 (Q5j s n)),.c 7 (.int .i64 (Q5j s n))]
  (by kernel_rfl) rfl (by kernel_rfl) ⟨?g0,?g1,?g2,?g3,?g4,?g5,?g6,?g7,trivial⟩ ?post
 case g0 | g2=>
  intro v w1 hx;intro bb hbb;intro K hK;have o1:bb.eval (.tmp 2)=.pointer (some ⟨w.heap.size,0,none⟩):=by rw [hbb]; dsimp only; (try simp (discharger:=decide) only [eval_put_ne]); rfl
  exact Q0p (.tmp 2) _ rfl Tryz.X6u Tryz.Q9o o1 (K0.out.ext (hdr.trans hx)) rfl (hK _ _ (Ext.refl _) rfl)
 case g1=>
  intro v w1 hx;(repeat intro (zq:v _=_));intro bb hbb;subst hbb;intro K hK;go_simp;refine Q0e (Q1u w1 _ s (HSE.out w1 (hdr.trans hx)) HS.out) ?_;rintro e w2 ⟨rfl,hx2⟩;exact ⟨_,rfl,hK _ _ hx2 rfl⟩
 case g3=>
  intro v w1 hx;intro bb hbb;subst hbb;refine ⟨_,fun w=>?_,rfl⟩;go_simp
 case g4=>
  intro v w1 hx;(repeat intro (zq:v _=_));intro bb hbb;subst hbb;intro K hK;go_simp;refine Q0e (Q5o w1 _ s n (HSE.out w1 (hdr.trans hx))) ?_;rintro e w2 ⟨rfl,hx2⟩;exact ⟨_,rfl,hK _ _ hx2 rfl⟩
 case g5=>
  intro v w1 hx;(repeat intro (zq:v _=_));intro bb hbb;subst hbb;intro K hK;go_simp;exact hK _ _ (Ext.box _ _) (Q3q (l:=[s.err,Q0x (X1k s n) 10]) (by simp))
 case g6=>
  intro v w1 hx (q4:v 4=_) (q5:(fun v w'=>Q0d w' (v 5) [s.err,Q0x (X1k s n) 10]) v w1);intro bb hbb;subst hbb;intro K hK;go_simp;refine Q0e (HE1.out w1 _ q5) ?_;rintro e w2 ⟨rfl,rfl⟩;exact ⟨_,rfl,hK _ _ (Ext.refl _) rfl⟩
 case g7=>
  intro v w1 hx (q0:v 0=_) (q1:v 1=_) (q2:v 2=_) (q3:v 3=_) (q4:v 4=_) _ (q6:v 6=_);intro bb hbb;subst hbb;refine ⟨_,fun w=>?_,rfl⟩;go_simp
 case post =>
  intro v w1 hx (q0:v 0=_) (q1:v 1=_) (q2:v 2=_) (q3:v 3=_) (q4:v 4=_) (q5:(fun v w'=>Q0d w' (v 5) [s.err,Q0x (X1k s n) 10]) v w1) (q6:v 6=_) (q7:v 7=_);simp only [Flow.All,Flow.acts,Act.put];go_simp;have HX5:=hid (HXW.out.trans (hdr.trans hx));have HK5:=hid (K0.out.ext (hdr.trans hx));obtain ⟨w5,rfl⟩:∃ X,X=w1:=⟨_,rfl⟩;clear hx hdr q0 q1 q2 q3 q4 q5 q6 q7
  by_cases he:Q5j s n=0
  . obtain ⟨hvs,hn0,hn1⟩:=X8o he
    have HV:=hid hvs;have HFB:Hid (X8t s n=(alone s n.toNat).getD []):=hid (if_pos he);have HFE:Hid (Y3d s n=if (alone s n.toNat).isSome then 0 else 24):=hid (if_pos he)
    have hne:(Q5j s n != 0)=false:=by simp [he]
    obtain ⟨i,rfl⟩:∃ i:Nat,n=(i:Int):=⟨n.toNat,by omega⟩
    have him:i < s.members.length:=by omega
    rw [Int.toNat_natCast] at HFB HFE;obtain ⟨E,hE⟩:∃ E,Q5j s (i:Int)=E:=⟨_,rfl⟩;rw [hE] at hne ⊢;obtain ⟨bm,off,capx,capy,capz,X,Y,Z,hme⟩:=Q2l (H2.out.members.ext HX5.out) him;have hA:=hme.addr;subst hA;have HE0:=hid hme.e0;have HE1':=hid hme.e1;have HE2:=hid hme.e2;have HE3:=hid hme.e3;have HE4:=hid hme.e4;have HM2:=hid (fun W' hW=>hme.mem (W:=W') hW);have hT:=(hvs.shaped i him).1;have h6:=hvs.tides;have HAL:=hid (fun (W:World) (u:Value) (hu:X0q W u (Q2e s i))=>X7q W u (Q2e s i) s.limit s.ships.length hu hT (by omega) h6.1 (X2q hvs him (Nat.le_refl _)))
    have hal:∀ b,alone s i=some b -> b.length=s.ships.length:=fun b hb=>Q5w _ _ _ _ b hb;have HAD:Hid ((Q2e s i).Q3n s.limit s.ships.length (2 ^ s.ships.length)=alone s i):=hid rfl;rw [HAD.out] at HAL;obtain ⟨o,ho⟩:∃ o,alone s i=o:=⟨_,rfl⟩;rw [ho] at HAL HFB HFE hal;have hdr:=(Ext.refl w5).drew;obtain ⟨nm,hnm⟩:∃ x,Q1h s.members i=x:=⟨_,rfl⟩;obtain ⟨wt,hwt⟩:∃ x,Q0i s.members i=x:=⟨_,rfl⟩;obtain ⟨lc,hlc⟩:∃ x,(Q0c s.members i).length=x:=⟨_,rfl⟩;obtain ⟨lo,hlo⟩:∃ x,(Q0t s.members i).length=x:=⟨_,rfl⟩;obtain ⟨li,hli⟩:∃ x,(Q0y s.members i).length=x:=⟨_,rfl⟩;rw [hnm] at HE0 HM2;rw [hwt] at HE1' HM2;rw [hlc] at HE2 HM2;rw [hlo] at HE3 HM2;rw [hli] at HE4 HM2;have hiI:(i:Int) < s.members.length:=by omega
    have HSZ:Hid (0 < s.ships.length /\ s.ships.length <= 6):=hid h6;clear he hE hvs hn0 hn1 hme hT ho hnm hwt hlc hlo hli h6;go_wp2;refine Flow.Q1o [.p,.w,.p,.p,.w,.p,.w,.w,.p] [0,1,2,3,4,5,6,7,8] [[],[0],[],[1,2],[3],[],[5],[4,6],[0,1,2,3,4,5,6,7]]
     [.c 0 (.pointer (some ⟨w.heap.size,2,none⟩)),.c 1 (.slice (some ⟨bm,off,none⟩) s.members.length capb),.c 2 (.int .i64 (i:Int)),.c 3 (.pointer (some ⟨bm,off + i * 5,none⟩)),.c 4 (.agg #[.string nm,.int .i64 wt,.slice X lc capx,.slice Y lo capy,.slice Z li capz]),.c 5 (.pointer (some ⟨w.heap.size,0,none⟩)),.c 6 (.int .i64 s.limit),⟨fun v wz=>(fun v w'=>Q7a w' (v 7) o) v wz,by intro v a b hx h; exact Q7a.ext h hx⟩,.is 8 (fun v=>v 7)]
     (by kernel_rfl) rfl (by kernel_rfl) ⟨?g0,?g1,?g2,?g3,?g4,?g5,?g6,?g7,?g8,trivial⟩ ?post
    case g0 | g2 | g5=>
     intro v w1 hx;intro bb hbb;subst hbb;refine ⟨_,fun w=>?_,rfl⟩;go_simp
    case g1 | g6=>
     intro v w1 hx;(repeat intro (zq:v _=_));intro bb hbb;subst hbb;have n0:w1.cell? ⟨w.heap.size,2,none⟩=some (.slice (some ⟨bm,off,none⟩) s.members.length capb):=(HK5.out.ext (hdr.trans hx)).cell 2;have n1:w1.cell? ⟨w.heap.size,0,none⟩=some (.int .i64 s.limit):=(HK5.out.ext (hdr.trans hx)).cell 0;intro K hK;go_simp;exact hK _ _ (Ext.refl _) rfl
    case g3=>
     intro v w1 hx;(repeat intro (zq:v _=_));intro bb hbb;subst hbb;refine ⟨_,fun w=>?_,rfl⟩;go_simp
    case g4=>
     intro v w1 hx;(repeat intro (zq:v _=_));intro bb hbb;subst hbb;have f0:=(hdr.trans hx).cell HE0.out;have f1:=(hdr.trans hx).cell HE1'.out;have f2:=(hdr.trans hx).cell HE2.out;have f3:=(hdr.trans hx).cell HE3.out;have f4:=(hdr.trans hx).cell HE4.out;intro K hK;go_simp;exact hK _ _ (Ext.refl _) rfl
    case g7=>
     intro v w1 hx;(repeat intro (zq:v _=_));intro bb hbb;subst hbb;intro K hK;go_simp;refine Q0e (HAL.out w1 _ (HM2.out w1 (hdr.trans hx))) ?_;rintro e w2 ⟨x,rfl,h1,hx2⟩;exact ⟨_,rfl,hK _ _ hx2 h1⟩
    case g8=>
     intro v w1 hx (q0:v 0=_) (q1:v 1=_) (q2:v 2=_) (q3:v 3=_) (q4:v 4=_) (q5:v 5=_) (q6:v 6=_) _;intro bb hbb;subst hbb;refine ⟨_,fun w=>?_,rfl⟩;go_simp
    case post =>
     intro v w1 hx;(iterate 7 intro (zq:v _=_));intro (q7:(fun v w'=>Q7a w' (v 7) o) v w1) (q8:v 8=v 7);simp only [Flow.All,Flow.acts,Act.put];go_simp;have hq:Q7a w1 (v 7) o:=q7;have HXX:=hid (HX5.out.trans (hdr.trans hx));clear hx hdr q7 q8;(repeat clear zq);obtain ⟨xv,hxv⟩:∃ z,v 7=z:=⟨_,rfl⟩;rw [hxv] at hq ⊢;cases o with
     | none =>
       replace hq:xv=.slice none 0 0:=hq;subst hq;have HC0:Hid (countB []=0):=hid rfl;clear hal hxv;go_wp2_with (first | (go_at_call 129; refine (Q5n _ _ [] (Q8w _)).mono ?_; rintro e w6 ⟨rfl,hx6⟩) | (go_at_call 119; refine (Q6f _ _ _).mono ?_; rintro e w7 ⟨rfl,rfl⟩))
       go_ret3
       exact ⟨_,by rw [HFB.out,HFE.out]; rfl,by rw [HFB.out]; exact Q8w _,HXX.out.trans hx6⟩
     | some b =>
       replace hq:Q0q w1 0 4 .bool xv b:=hq;have hbl:=hal b rfl;have HBO:=hid (hq.bools (by have:=HSZ.out; omega))
       obtain ⟨ab,cb,rfl⟩:∃ ab cb,xv=.slice (some ab) b.length cb:=by
        rcases hq.2 with ⟨_,h0⟩ | ⟨g,cap,cur,he,_⟩
        . have:=HSZ.out; omega
        . exact ⟨_,_,he⟩
       clear hal hxv hq hbl;go_wp2_with (first | (go_at_call 129; refine (Q5n _ _ b HBO.out).mono ?_; rintro e w6 ⟨rfl,hx6⟩) | (go_at_call 119; refine (Q6f _ _ _).mono ?_; rintro e w7 ⟨rfl,rfl⟩))
       go_ret3
       have HG:Hid (X8t s (i:Int)=b /\ Y3d s (i:Int)=0):=hid ⟨by rw [HFB.out]; rfl,by rw [HFE.out]; rfl⟩
       exact ⟨.slice (some ab) b.length cb,by rw [HG.out.1,HG.out.2]; rfl,by rw [HG.out.1]; exact HBO.out.ext hx6,HXX.out.trans hx6⟩
  . have HFB:Hid (X8t s n=[]):=hid (if_neg he)
    have HFE:Hid (Y3d s n=Q5j s n):=hid (if_neg he);have hne:(Q5j s n != 0)=true:=by simp [he]
    clear he;go_wp2
    go_ret3
    exact ⟨_,by rw [HFB.out,HFE.out]; rfl,by rw [HFB.out]; exact Q8w _,HX5.out⟩
end Go.Proofs
namespace Go.Proofs
open Go.RowKit Go.Tw Go.Flow
attribute [local go_sem] Oper.semAt_some
def X1r (s:Q0b) (p:List Rul) (n:Int):Int:=Q0g [Q1g s p,Q0x (X1k s n) 10]
theorem Y8x {s:Q0b} {p:List Rul} {n:Int} (h:X1r s p n=0):Q1b s /\ Q2d s.hist p=0 /\ 0 <= n /\ n < s.members.length:=by
 obtain ⟨h1,h2⟩:=Q1r h;obtain ⟨h3,h4⟩:=Q4o h1;refine ⟨h3,h4,?_⟩;unfold X1k Q0x at h2
 by_cases h0:n < 0 <;> by_cases h1:(s.members.length:Int) <= n <;> simp [h0,h1] at h2 ⊢ <;> omega
def Z5x (s:Q0b) (p:List Rul) (n:Int):List Bool:=if X1r s p n=0 then Q0m p (Q0c s.members n.toNat) else []
def Z4j (s:Q0b) (p:List Rul) (n:Int):List Int:=if X1r s p n=0 then (Q2e s n.toNat).X3n (Q0m p (Q0c s.members n.toNat)) else []
theorem Y2b {a:World} {g i k n c m d:Nat} {T:TypeId} {A B:Option Addr} {u:Value} (hg:Blk a g T #[.slice A n c,.slice B m d]) (h:a.cell? ⟨i,k,none⟩=some u) (hu:∀ A n c,u ≠ .slice A n c):i ≠ g:=by
 rintro rfl;rw [hg.cell] at h
 rcases k with _ | _ | k
 . simp at h; exact hu _ _ _ h.symm
 . simp at h; exact hu _ _ _ h.symm
 . simp at h
theorem Y9q {a b:World} {g n c m d:Nat} {T:TypeId} {A B:Option Addr} {v:Value} {l:List Int} (h:Q0d a v l) (hg:Blk a g T #[.slice A n c,.slice B m d]) (hk:∀ k,k < a.heap.size -> k ≠ g -> b.heap[k]?=a.heap[k]?):Q0d b v l:=by
 obtain ⟨f,⟨A',cap,hv,hn,hcap,hc⟩,h2⟩:=h;refine ⟨f,⟨A',cap,hv,hn,hcap,fun j hj=>?_⟩,h2⟩;obtain ⟨b',off,hA,hcell⟩:=hc j hj;have e:=h2 j (by omega)
 simp only [Nat.mul_one,Nat.add_zero] at e;exact ⟨b',off,hA,X1g hcell (Y2b hg hcell (by rw [e]; intro _ _ _ hh; cases hh)) hk⟩
theorem Y6m {a b:World} {g n c m d:Nat} {T:TypeId} {A B:Option Addr} {v:Value} {l:List Bool} (h:Q1q a v l) (hg:Blk a g T #[.slice A n c,.slice B m d]) (hk:∀ k,k < a.heap.size -> k ≠ g -> b.heap[k]?=a.heap[k]?):Q1q b v l:=by
 obtain ⟨f,⟨A',cap,hv,hn,hcap,hc⟩,h2⟩:=h;refine ⟨f,⟨A',cap,hv,hn,hcap,fun j hj=>?_⟩,h2⟩;obtain ⟨b',off,hA,hcell⟩:=hc j hj;have e:=h2 j (by omega)
 simp only [Nat.mul_one,Nat.add_zero] at e;exact ⟨b',off,hA,X1g hcell (Y2b hg hcell (by rw [e]; intro _ _ _ hh; cases hh)) hk⟩
theorem Tryz.Z9k (w:World):(isAgg 96).run Tryz.prog w=.ok true w:=by kernel_rfl
theorem Tryz.Y7b (w:World):(sizeOf 96).run Tryz.prog w=.ok 2 w:=by kernel_rfl
theorem Y1w {A B:Option Addr} {n c m d:Nat}:∀ u ∈ (#[Value.slice A n c,.slice B m d]:Array Value).toList,u.oneCell'=true:=by
 intro u hu;simp only [List.mem_cons,List.not_mem_nil,or_false] at hu
 rcases hu with rfl | rfl <;> rfl
def Z4m (s:Q0b) (p:List Rul) (n:Int) (e:Ending) (w':World):Prop:=∃ x y,e=.returned (.tuple #[.agg #[x,y],.int .i64 (X1r s p n)]) /\ Q1q w' x (Z5x s p n) /\ Q0d w' y (Z4j s p n)
theorem Z1f (w:World) (v u:Value) (s:Q0b) (p:List Rul) (n:Int) (hv:Q0h w v s) (hu:Q0w w u p) (hs:Q3k s) (hp:p.length <= 1000) :
    Calls Tryz.prog 57 #[v,u,.int .i64 n] w fun e w'=>Z4m s p n e w' /\ Ext w w':=by
 obtain ⟨a,b,rfl,h2⟩:=hv;obtain ⟨rv,rfl,hr⟩:=hu;obtain ⟨A,capa,rfl,-,-,-⟩:=h2.ships.opened;obtain ⟨B,capb,rfl,-,-,-⟩:=h2.members.opened;obtain ⟨R,capr,rfl,-,-,-⟩:=hr.opened;have H2:=hid h2;have HR:=hid hr;have HS:=hid hs;have HE1:Hid (∀ (W:World) (u:Value),Q0d W u [Q1g s p,Q0x (X1k s n) 10] -> Calls Tryz.prog 96 #[u] W fun e W'=>e=.returned (.int .i64 (X1r s p n)) /\ W=W'):=hid (fun W u h=>first_any W u _ h);clear h2 hr hs;go_enter Tryz.func57,Tryz.ntmps57;go_upto_region 1 with fail;change Code.wp _ _ _ _ (((w.alloc (.cells #[.int .i64 s.limit,.slice A s.ships.length capa,.slice B s.members.length capb] 34)).alloc (.cells #[.slice R p.length capr] 38)).alloc (.cells #[.slice none 0 0,.slice none 0 0] 96));obtain ⟨W,hWW,k0,k1,k2,HXW,eW⟩:=X2z w 34 #[.int .i64 s.limit,.slice A s.ships.length capa,.slice B s.members.length capb] 38 #[.slice R p.length capr] 96 #[.slice none 0 0,.slice none 0 0];rw [hWW];clear hWW;have K0:=hid k0;have K1:=hid k1;have K2:=hid k2;clear k0 k1 k2;have hdr:=(Ext.refl W).drew;have HSE:Hid (∀ W',Ext W W' -> Q0h W' (.agg #[.int .i64 s.limit,.slice A s.ships.length capa,.slice B s.members.length capb]) s):=hid (fun W' hW=>⟨_,_,rfl,H2.out.ext (HXW.out.trans hW)⟩);have HPO:Hid (∀ W',Ext W W' -> Q0w W' (.agg #[.slice R p.length capr]) p):=hid (fun W' hW=>⟨_,rfl,HR.out.ext (HXW.out.trans hW)⟩);refine Flow.Q1o [.w,.w,.w,.w,.p,.w,.w,.w,.p] [0,1,2,3,4,5,6,7,8] [[],[],[0,1],[],[],[2,3,4],[2,5],[5,6],[0,1,2,3,4,5,6,7]]
  [.c 0 (.agg #[.int .i64 s.limit,.slice A s.ships.length capa,.slice B s.members.length capb]),.c 1 (.agg #[.slice R p.length capr]),.c 2 (.int .i64 (Q1g s p)),.c 3 (.agg #[.int .i64 s.limit,.slice A s.ships.length capa,.slice B s.members.length capb]),.c 4 (.int .i64 n),.c 5 (.int .i64 (Q0x (X1k s n) 10)),⟨fun v wz=>(fun v w'=>Q0d w' (v 6) [Q1g s p,Q0x (X1k s n) 10]) v wz,by intro v a b hx h; exact Q0d.ext h hx⟩,.c 7 (.int .i64 (X1r s p n)),.c 8 (.int .i64 (X1r s p n))]
  (by kernel_rfl) rfl (by kernel_rfl) ⟨?g0,?g1,?g2,?g3,?g4,?g5,?g6,?g7,?g8,trivial⟩ ?post
 case g0 | g3=>
  intro v w1 hx;intro bb hbb;intro K hK;have o1:bb.eval (.tmp 3)=.pointer (some ⟨w.heap.size,0,none⟩):=by rw [hbb]; dsimp only; (try simp (discharger:=decide) only [eval_put_ne]); rfl
  exact Q0p (.tmp 3) _ rfl Tryz.X6u Tryz.Q9o o1 (K0.out.ext (hdr.trans hx)) rfl (hK _ _ (Ext.refl _) rfl)
 case g1=>
  intro v w1 hx;intro bb hbb;intro K hK;have o1:bb.eval (.tmp 4)=.pointer (some ⟨w.heap.size + 1,0,none⟩):=by rw [hbb]; dsimp only; (try simp (discharger:=decide) only [eval_put_ne]); rfl
  exact Q0p (.tmp 4) _ rfl Tryz.Q8b Tryz.Q4b o1 (K1.out.ext (hdr.trans hx)) rfl (hK _ _ (Ext.refl _) rfl)
 case g2=>
  intro v w1 hx;(repeat intro (zq:v _=_));intro bb hbb;subst hbb;intro K hK;go_simp;refine Q0e (Q3t w1 _ _ s p (HSE.out w1 (hdr.trans hx)) (HPO.out w1 (hdr.trans hx)) HS.out hp) ?_;rintro e w2 ⟨rfl,hx2⟩;exact ⟨_,rfl,hK _ _ hx2 rfl⟩
 case g4=>
  intro v w1 hx;intro bb hbb;subst hbb;refine ⟨_,fun w=>?_,rfl⟩;go_simp
 case g5=>
  intro v w1 hx;(repeat intro (zq:v _=_));intro bb hbb;subst hbb;intro K hK;go_simp;refine Q0e (Q5o w1 _ s n (HSE.out w1 (hdr.trans hx))) ?_;rintro e w2 ⟨rfl,hx2⟩;exact ⟨_,rfl,hK _ _ hx2 rfl⟩
 case g6=>
  intro v w1 hx;(repeat intro (zq:v _=_));intro bb hbb;subst hbb;intro K hK;go_simp;exact hK _ _ (Ext.box _ _) (Q3q (l:=[Q1g s p,Q0x (X1k s n) 10]) (by simp))
 case g7=>
  intro v w1 hx (q5:v 5=_) (q6:(fun v w'=>Q0d w' (v 6) [Q1g s p,Q0x (X1k s n) 10]) v w1);intro bb hbb;subst hbb;intro K hK;go_simp;refine Q0e (HE1.out w1 _ q6) ?_;rintro e w2 ⟨rfl,rfl⟩;exact ⟨_,rfl,hK _ _ (Ext.refl _) rfl⟩
 case g8=>
  intro v w1 hx (q0:v 0=_) (q1:v 1=_) (q2:v 2=_) (q3:v 3=_) (q4:v 4=_) (q5:v 5=_) _ (q7:v 7=_);intro bb hbb;subst hbb;refine ⟨_,fun w=>?_,rfl⟩;go_simp
 case post =>
  intro v w1 hx;(iterate 6 intro (zq:v _=_));intro (q6:(fun v w'=>Q0d w' (v 6) [Q1g s p,Q0x (X1k s n) 10]) v w1);(iterate 2 intro (zq:v _=_));simp only [Flow.All,Flow.acts,Act.put];go_simp;have HX5:=hid (HXW.out.trans (hdr.trans hx));have HK0:=hid (K0.out.ext (hdr.trans hx));have HK1:=hid (K1.out.ext (hdr.trans hx));have HK2:=hid (K2.out.ext (hdr.trans hx));obtain ⟨w5,rfl⟩:∃ X,X=w1:=⟨_,rfl⟩;clear hx hdr q6;(repeat clear zq)
  by_cases he:X1r s p n=0
  . obtain ⟨hV,hre,hn0,hn1⟩:=Y8x he
    have h6:=hV.tides;have HF:Hid (Z5x s p n=Q0m p (Q0c s.members n.toNat) /\ Z4j s p n=(Q2e s n.toNat).X3n (Q0m p (Q0c s.members n.toNat))):=hid ⟨if_pos he,if_pos he⟩;have hne:(X1r s p n != 0)=false:=by simp [he]
    obtain ⟨i,rfl⟩:∃ i:Nat,n=(i:Int):=⟨n.toNat,by omega⟩
    have him:i < s.members.length:=by omega
    rw [Int.toNat_natCast] at HF;have HPE:=hid he;have hok:=X2q hV him (n:=s.ships.length) (Nat.le_refl _);have hcl:(Q0m p (Q0c s.members i)).length=s.ships.length:=by rw [Q2n,(hV.shaped i him).1]
    have HCC:=hid (Q6a w5 _ _ s p ⟨_,_,rfl,H2.out.ext HX5.out⟩ ⟨_,rfl,HR.out.ext HX5.out⟩ hV hre);have HPK:=hid (fun (W:World) (v u:Value) (hv:X0q W v (Q2e s i)) (hu:Q1q W u (Q0m p (Q0c s.members i)))=>X8q W v u (Q2e s i) _ hv hu (by omega) (by rw [hcl]; exact hok))
    have HCG:=hid (Q5r p him);obtain ⟨E,hE⟩:∃ E,X1r s p (i:Int)=E:=⟨_,rfl⟩;have HE0:=hid (hE.symm.trans he);have c0:=(HK0.out).cell 0;have c1:=(HK0.out).cell 1;have c2:=(HK0.out).cell 2;simp only [Go.Tw.gA,Go.Tw.gB,Go.Tw.gC] at c0 c1 c2;have d0:=(HK1.out).cell 0;simp only [Go.Tw.gA,Go.Tw.gB] at d0;rw [hE] at hne ⊢;rw [HE0.out];clear hV hre hn0 hn1 he hE hok hcl h6;go_wp2_with (go_at_call 109; refine HCC.out.mono ?_; rintro e w6 ⟨x6,rfl,h1,h2⟩; refine halted ?_);have HX6:=hid h2;obtain ⟨Ab,cb,hab,-,-,hcc⟩:=h1.opened;subst hab;rw [Q2r] at hcc ⊢;obtain ⟨bu,ou,uk,hU,-,hxk,hbk⟩:=hcc i him;subst hU;rw [HCG.out] at hbk;obtain ⟨Uk,ck,hk,-,-,-⟩:=hbk.opened;subst hk;have HBK:=hid hbk;obtain ⟨bm,off,capx,capy,capz,X,Y,Z,hme⟩:=Q2l (H2.out.ext (HX5.out.trans h2)).members him;obtain rfl:=hme.addr;have HME:=hid (hme.mem (Ext.refl w6));have e0:=hme.e0;have e1:=hme.e1;have e2:=hme.e2;have e3:=hme.e3;have e4:=hme.e4;have k6:=(HK0.out.ext h2).cell 2;simp only [Go.Tw.gA,Go.Tw.gB,Go.Tw.gC] at k6;have hiI:(i:Int) < s.members.length:=by omega
    have hpb:=HK2.out.ext h2;have HPP:=hid (HPK.out w6 _ _ HME.out HBK.out);clear h1 h2 hcc hbk hme c0 c1 c2 d0;unfold Q1i;go_wp2_with (go_at_call 127; refine HPP.out.mono ?_; rintro e w7 ⟨x7,rfl,h1,h2⟩; refine halted ?_);have HX7:=hid h2;obtain ⟨R7,c7,hs7,-,-,-⟩:=h1.opened;subst hs7;have HI7:=hid h1;have hpb7:=hpb.ext h2;clear h1 h2 hpb e0 e1 e2 e3 e4 k6;unfold Q1i;go_wp2_with (with_reducible (refine Q7g ?_); refine Q0s rfl _ _ _ rfl Tryz.Y7b rfl rfl hpb7 rfl rfl Y1w ?_; intro w9 hb9 hl9 ho9);refine bodyPost_ret (Q4c Tryz.results57 rfl hb9 Tryz.Z9k Tryz.Y7b rfl) rfl ?_;exact ⟨⟨_,_,by rw [HPE.out]; rfl,by rw [HF.out.1]; exact Y6m (HBK.out.ext HX7.out) hpb7 (fun k _ hk=>ho9 k hk),by rw [HF.out.2]; exact Y9q HI7.out hpb7 (fun k _ hk=>ho9 k hk)⟩,Below.trans (HX5.out.trans (HX6.out.trans HX7.out)) (hl9 _ (by omega))⟩
  . have HF:Hid (Z5x s p n=[] /\ Z4j s p n=[]):=hid ⟨if_neg he,if_neg he⟩
    have hne:(X1r s p n != 0)=true:=by simp [he]
    obtain ⟨E,hE⟩:∃ E,X1r s p n=E:=⟨_,rfl⟩;have HPE:=hid hE;have hp2:=HK2.out;rw [hE] at hne ⊢;clear he hE;go_wp2_with (with_reducible (refine Q7g ?_); refine Q0s rfl _ _ _ rfl Tryz.Y7b rfl rfl hp2 rfl rfl Y1w ?_; intro w9 hb9 hl9 ho9);refine bodyPost_ret (Q4c Tryz.results57 rfl hb9 Tryz.Z9k Tryz.Y7b rfl) rfl ?_;exact ⟨⟨_,_,by rw [HPE.out]; rfl,by rw [HF.out.1]; exact Go.Tw.Rows.nil _ _ _,by rw [HF.out.2]; exact Go.Tw.Rows.nil _ _ _⟩,Below.trans HX5.out (hl9 _ (by omega))⟩
end Go.Proofs
