/- Contract: Chance. The error of a season and a member's number. Contract: Alone (of the program). Contract: Play. -/
import Derived.Test.YthnobngcipaljaaGreatDoorPo28
import Derived.Test.YthnobngcipaljaaGreatDoorPo08
import Derived.Test.YthnobngcipaljaaGreatDoorPo18
import Derived.Test.YthnobngcipaljaaGreatDoorPo13
import Derived.Test.YthnobngcipaljaaGreatDoorPo26
import Derived.OwnWalk
set_option maxRecDepth 1000000
set_option maxHeartbeats 64000000
set_option linter.unusedVariables false
set_option linter.unusedSimpArgs false
set_option linter.constructorNameAsVariable false
namespace Go.Tw
open Go.RowKit Go.Flow
def wTo (s:Q0b) (k:Nat):Int:=((List.range k).map fun i=>Q0k s.members i).sum
theorem Y9j (s:Q0b) (k:Nat):wTo s (k + 1) = wTo s k + Q0k s.members k:=by unfold wTo; rw [List.range_succ,List.map_append,List.sum_append]; simp
theorem Z3l (s:Q0b):wTo s s.members.length = Q2e s (allL s):=by unfold wTo Q2e allL; rw [List.map_map]; rfl
theorem Z3n {s:Q0b} (hV:Q0y s):∀ k,k <= s.members.length -> (k:Int) <= wTo s k /\ wTo s k <= 1000 * k
 | 0,_=>by simp [wTo]
 | k + 1,h=>by
   have ih:=Z3n hV k (by omega)
   have:=hV.weights k (by omega)
   rw [Y9j]; omega
def X8j (s:Q0b) (p:List Rul):Ratio:=if Q1i s p = 0 then Y8f s p else ⟨0,0⟩
end Go.Tw
namespace Go.Proofs
open Go.RowKit Go.Tw Go.Flow
attribute [local go_sem] Oper.semAt_some
theorem Y6l (w:World) (v u:Value) (s:Q0b) (p:List Rul) (hv:Q0h w v s) (hu:Q1c w u p) (hs:Q3d s) (hp:p.length <= 1000) :
    Calls Tryz.prog 64 #[v,u] w fun e w'=>e = .returned (.tuple #[.agg #[.int .i64 (X8j s p).num,.int .i64 (X8j s p).den],.int .i64 (Q1i s p)]) /\ Ext w w':=by
 obtain ⟨a,b,rfl,h2⟩:=hv;obtain ⟨rv,rfl,hr⟩:=hu;obtain ⟨A,capa,rfl,-,-,-⟩:=h2.ships.opened;obtain ⟨M,capb,rfl,-,-,-⟩:=h2.members.opened;obtain ⟨R,capr,rfl,-,-,-⟩:=hr.opened;have H2:=Lib.hid h2;have HR:=Lib.hid hr;have HS:=Lib.hid hs;clear h2 hr hs;go_enter Tryz.func64,Tryz.ntmps64;go_wp2_with fail;change Calls _ _ _ (((w.alloc (.cells #[.int .i64 s.limit,.slice A s.ships.length capa,.slice M s.members.length capb] 34)).alloc (.cells #[.slice R p.length capr] 38)).alloc (.cells #[.int .i64 0,.int .i64 0] 107)) _;obtain ⟨W,hWW,k0,k1,k2,HXW,eW⟩:=X7w w 34 #[.int .i64 s.limit,.slice A s.ships.length capa,.slice M s.members.length capb] 38 #[.slice R p.length capr] 107 #[.int .i64 0,.int .i64 0];rw [hWW];clear hWW;have K0:=Lib.hid k0;have K2:=Lib.hid k2;clear k0 k1 k2;refine (X7d _ _ _ s p ⟨_,_,rfl,H2.out.ext HXW.out⟩ ⟨_,rfl,HR.out.ext HXW.out⟩ HS.out hp).mono ?_;rintro e w5 ⟨x5,rfl,hi5,hx5⟩;have HX5:=Lib.hid (HXW.out.trans hx5);have HK0:=Lib.hid (K0.out.ext hx5);have HK2:=Lib.hid (K2.out.ext hx5)
 by_cases he:Q1i s p = 0
 . obtain ⟨hV,hre⟩:=Q4s he
   have HV:=Lib.hid hV;have h8:=hV.some;have hF:X8j s p = Y8f s p:=if_pos he;have HF:=Lib.hid hF;have HER:=Lib.hid he;have hne:(Q1i s p != 0) = false:=by simp [he]
   have hkr:Z2n s p = Q3r s p:=if_pos he;rw [hkr] at hi5;have hkl:=kept_len s p;have hkb:0 <= Q2e s (Q3r s p) /\ Q2e s (Q3r s p) <= 8000:=by have h:=Z1m hV (Q9s s p); omega
   have hwa:=Z3n hV s.members.length (Nat.le_refl _);rw [Z3l] at hwa;have HPW:=Lib.hid (Y4j w5 _ x5 s (Q3r s p) ⟨_,_,rfl,H2.out.ext HX5.out⟩ hi5 hV (Q9s s p) (by omega))
   have HCS:Hid (Y8f s p = lowest (Q2e s (Q3r s p)) (Q2e s (allL s))):=Lib.hid rfl;have HWA:=Lib.hid (Z3l s);obtain ⟨E,hE⟩:∃ E,Q1i s p = E:=⟨_,rfl⟩;have HE0:=Lib.hid (hE.symm.trans he);obtain ⟨A5,c5,hs5,-,-,-⟩:=hi5.opened;subst hs5;have c0:=(HK0.out).cell 0;have c1:=(HK0.out).cell 1;have c2:=(HK0.out).cell 2;simp only [Go.Tw.gA,Go.Tw.gB,Go.Tw.gC] at c0 c1 c2;rw [hE] at hne ⊢;rw [HE0.out];obtain ⟨kw,hkw⟩:∃ z,Q2e s (Q3r s p) = z:=⟨_,rfl⟩;obtain ⟨aw,haw⟩:∃ z,Q2e s (allL s) = z:=⟨_,rfl⟩;rw [hkw] at HPW HCS hkb;rw [haw] at HCS HWA hwa;obtain ⟨kl,hkle⟩:∃ z,(Q3r s p).length = z:=⟨_,rfl⟩;rw [hkle] at HPW ⊢;clear he hE hx5 hV hF hkr hkw haw hre hi5 hkl hkle;go_wp2_with (go_at_call 134; refine HPW.out.mono ?_; rintro e w6 ⟨rfl,hx6⟩; refine halted ?_);have HX6:=Lib.hid hx6;have k6:=HK0.out.ext hx6;replace c0:=hx6.cell c0;replace c1:=hx6.cell c1;replace c2:=hx6.cell c2;clear hx6 k6;unfold Q1j;go_wp2
   go_loopw [9,30] (fun o i wr=>∃ (k:Nat),k <= s.members.length /\ i = .int .i64 k /\ o = .int .i64 (wTo s k) /\ Ext w6 wr) (fun _ i _=>s.members.length - (intOf i).toNat)
   case atStart=>exact ⟨0,Nat.zero_le _,rfl,by simp [wTo],Ext.refl _⟩
   case round =>
    clear c0 c1 c2;obtain ⟨k,hk,rfl,rfl,hx⟩:=hrel;have HX:=Lib.hid hx
    by_cases hlt:k < s.members.length
    . obtain ⟨bm,off,capx,capy,capz,X,Y,Z,hm⟩:=Q2k (H2.out.ext (HX5.out.trans (HX6.out.trans hx))).members hlt
      have hkI:(k:Int) < s.members.length:=by omega
      obtain rfl:=hm.addr;have e0:=hm.e0;have e1:=hm.e1;have e2:=hm.e2;have e3:=hm.e3;have e4:=hm.e4;have hst:=Y9j s k;have hwb:=Z3n HV.out (k + 1) hlt;obtain ⟨nm,hnm⟩:∃ x,Q1k s.members k = x:=⟨_,rfl⟩;obtain ⟨wt,hwt⟩:∃ x,Q0k s.members k = x:=⟨_,rfl⟩;obtain ⟨lc,hlc⟩:∃ x,(Q0c s.members k).length = x:=⟨_,rfl⟩;obtain ⟨lo,hlo⟩:∃ x,(Q0r s.members k).length = x:=⟨_,rfl⟩;obtain ⟨li,hli⟩:∃ x,(Q0z s.members k).length = x:=⟨_,rfl⟩;rw [hnm] at e0;rw [hwt] at e1 hst;rw [hlc] at e2;rw [hlo] at e3;rw [hli] at e4;have HST:=Lib.hid hst;rw [hst] at hwb;obtain ⟨sm,hsm⟩:∃ x,wTo s k = x:=⟨_,rfl⟩;rw [hsm] at hwb HST ⊢;have hws:IntKind.i64.wrap (sm + wt) = sm + wt:=Q2p _ (by omega) (by omega)
      have hbox:=Ext.box wr (.cells #[.string nm,.int .i64 wt,.slice X lc capx,.slice Y lo capy,.slice Z li capz] 69);have K3:=Blk.made wr 69 #[.string nm,.int .i64 wt,.slice X lc capx,.slice Y lo capy,.slice Z li capz];have d0:=(K3).cell 0;have d1:=(K3).cell 1;have d2:=(K3).cell 2;have d3:=(K3).cell 3;have d4:=(K3).cell 4;simp only [Go.Tw.gA,Go.Tw.gB,Go.Tw.gC] at d0 d1 d2 d3 d4;have HX9:=Lib.hid (hx.trans hbox);clear hm hst hnm hwt hlc hlo hli hsm hbox K3 hx
      go_light
      go_wp2;go_roundw
      case rel=>exact ⟨k + 1,by omega,by go_num,by rw [HST.out],HX9.out⟩
      case measure=>simp [intOf]; omega
    . have hke:k = s.members.length:=by omega
      subst hke;rw [HWA.out];clear hx;go_wp2;have hab:1 <= aw /\ aw <= 8000:=by omega
      obtain ⟨w7,rfl⟩:∃ X,X = wr:=⟨_,rfl⟩;have HW7:=Lib.hid (HX5.out.trans (HX6.out.trans HX.out));have HB7:=Lib.hid (HK2.out.ext (HX6.out.trans HX.out));clear hwa
      go_loopw [12,13] (fun x y wr=>∃ (p q:Int),x = .int .i64 p /\ y = .int .i64 q /\ 0 <= p /\ 0 <= q /\ p <= 8000 /\ q <= 8000 /\ (0 < p ∨ 0 < q) /\ Int.gcd p q = Int.gcd kw aw /\ Ext w7 wr) (fun _ y _=>(intOf y).toNat)
      case atStart=>exact ⟨kw,aw,rfl,rfl,hkb.1,by omega,hkb.2,hab.2,by omega,rfl,Ext.refl _⟩
      case round =>
       obtain ⟨p',q',rfl,rfl,hp',hq',hp2,hq2,hpq,hg,hx0⟩:=hrel
       by_cases hz:q' = 0
       . subst hz
         have hpg:p' = (Int.gcd kw aw:Int):=by rw [<- hg,Int.gcd_zero]; omega
         have hdz:¬ p' = 0:=by omega
         have HPG:=Lib.hid hpg;clear hg hpg;have hq1:kw / p' <= kw:=Int.ediv_le_self _ hkb.1;have hq2':aw / p' <= aw:=Int.ediv_le_self _ (by omega)
         have hq3:0 <= kw / p':=Int.ediv_nonneg hkb.1 hp';have hq4:0 <= aw / p':=Int.ediv_nonneg (by omega) hp'
         have hq5:kw.tdiv p' = kw / p':=Int.tdiv_eq_ediv_of_nonneg hkb.1;have hq6:aw.tdiv p' = aw / p':=Int.tdiv_eq_ediv_of_nonneg (by omega)
         have hq7:IntKind.i64.wrap (kw / p') = kw / p':=Q2p _ (by omega) (by omega)
         have hq8:IntKind.i64.wrap (aw / p') = aw / p':=Q2p _ (by omega) (by omega)
         have HX0:=Lib.hid hx0;have hdr:=(Ext.refl wr).drew;go_wp2;refine Flow.Q5l [.p,.p,.p,.p,.p,.p,.p,.last,.last] [0,1,2,3,4,5,6,7,8] [[],[],[0,1],[],[],[3,4],[0,1,2,3,4,5],[0,1,2,3,4,5,6],[0,1,2,3,4,5,6,7]] [7,8]
          [.c 0 (.int .i64 kw),.c 1 (.int .i64 p'),.c 2 (.int .i64 (kw / p')),.c 3 (.int .i64 aw),.c 4 (.int .i64 p'),.c 5 (.int .i64 (aw / p')),.c 6 (.agg #[.int .i64 (kw / p'),.int .i64 (aw / p')]),.none,.none]
          [fun v w1 w'=>Blk w' (w.heap.size + 1 + 1) 107 #[.int .i64 (kw / p'),.int .i64 (aw / p')] /\ (∀ n,n <= w.heap.size + 1 + 1 -> Below n w1 w'),fun v w1 w'=>v 8 = .int .i64 0 /\ Blk w' (w.heap.size + 1 + 1) 107 #[.int .i64 (kw / p'),.int .i64 (aw / p')] /\ (∀ n,n <= w.heap.size + 1 + 1 -> Below n w1 w')] (by kernel_rfl) rfl (by kernel_rfl) ⟨?g0,?g1,?g2,?g3,?g4,?g5,?g6,?g7,?g8,trivial⟩ ?post
         case g0 | g1 | g3 | g4=>
          intro v w1 hx;intro bb hbb;subst hbb;refine ⟨_,fun w=>?_,rfl⟩;go_simp
         case g2 | g5 | g6=>
          intro v w1 hx;(repeat intro (zq:v _ = _));intro bb hbb;subst hbb;refine ⟨_,fun w=>?_,rfl⟩;go_simp
         case g7=>
          intro v w1 hx;(repeat intro (zq:v _ = _));intro wl hT;obtain rfl:wl = w1:=hT;intro bb hbb;intro K hK;have o1:bb.eval (.tmp 4) = .pointer (some ⟨w.heap.size + 1 + 1,0,none⟩):=by rw [hbb]; dsimp only; (try simp (discharger:=decide) only [eval_put_ne]); rfl
          have o2:bb.eval (.tmp 53) = .agg #[.int .i64 (kw / p'),.int .i64 (aw / p')]:=by rw [hbb]; dsimp only; (try simp (discharger:=decide) only [eval_put_ne]); rw [Q0a (by simp only [size_put]; exact (by decide:53 < 54))]; assumption
          exact Q2c (.tmp 4) (.tmp 53) _ rfl Tryz.Y2n o1 o2 (HB7.out.ext (HX0.out.trans (hdr.trans hx))) rfl rfl X7b (fun vv w' hb hl ho=>hK _ _ ⟨hb,hl⟩)
         case g8=>
          intro v w1 hx;(repeat intro (zq:v _ = _));intro wl hT;replace hT:(fun v w1 w'=>Blk w' (w.heap.size + 1 + 1) 107 #[.int .i64 (kw / p'),.int .i64 (aw / p')] /\ (∀ n,n <= w.heap.size + 1 + 1 -> Below n w1 w')) v w1 wl:=hT;intro bb hbb;subst hbb;intro K hK;go_simp;exact hK _ _ ⟨rfl,hT⟩
         case post =>
          intro v w1 hx;(iterate 7 intro (zq:v _ = _));intro w2 hE;replace hE:(fun v w1 w'=>v 8 = .int .i64 0 /\ Blk w' (w.heap.size + 1 + 1) 107 #[.int .i64 (kw / p'),.int .i64 (aw / p')] /\ (∀ n,n <= w.heap.size + 1 + 1 -> Below n w1 w')) v w1 w2:=hE;simp only [Flow.acts,Act.put];go_simp;obtain ⟨h8v,hb9,hl9⟩:=hE;have HX9:Hid (Ext w w2):=Lib.hid (Below.trans (HW7.out.trans (HX0.out.trans (hdr.trans hx))) (hl9 _ (by omega)))
          try rw [h8v]
          clear hx hdr hl9;(repeat clear zq);go_wp2;refine bodyPost_ret (Q4i Tryz.results64 rfl hb9 Tryz.Z9i Tryz.Y2n rfl) rfl ?_;exact ⟨by rw [HER.out,HF.out,HCS.out,HPG.out]; rfl,HX9.out⟩
       . have hq0:0 < q':=by omega
         have hst:=Z7p p' q' hp' hq0;have htm:p' % q' < q':=Int.emod_lt_of_pos p' hq0;have htn:=Int.emod_nonneg p' (show q' ≠ 0 by omega)
         rw [Int.tmod_eq_emod_of_nonneg hp'] at hst;go_wp2
         go_quiet (fail)
         all_goals go_wp2
         go_roundw
         case rel=>exact ⟨q',p' % q',rfl,by go_num,by omega,htn,hq2,by omega,Or.inl hq0,by rw [hst,hg],hx0.drewN _⟩
         case measure=>exact (Int.toNat_lt_toNat hq0).2 htm
 . have HF:Hid (X8j s p = ⟨0,0⟩):=Lib.hid (if_neg he)
   have hne:(Q1i s p != 0) = true:=by simp [he]
   obtain ⟨E,hE⟩:∃ E,Q1i s p = E:=⟨_,rfl⟩;have HPE:=Lib.hid hE;have hp2:=HK2.out;obtain ⟨A5,c5,hs5,-,-,-⟩:=hi5.opened;subst hs5;rw [hE] at hne ⊢;clear he hE hx5 hi5;go_wp2_with (with_reducible (refine Q7l ?_); refine Q0u rfl _ _ _ rfl Tryz.Y2n rfl rfl hp2 rfl rfl X7b ?_; intro w9 hb9 hl9 ho9);refine bodyPost_ret (Q4i Tryz.results64 rfl hb9 Tryz.Z9i Tryz.Y2n rfl) rfl ?_;exact ⟨by rw [HPE.out,HF.out]; rfl,Below.trans HX5.out (hl9 _ (by omega))⟩
end Go.Proofs
namespace Go.Proofs
open Go.RowKit Go.Tw Go.Flow
def Q3m (s:Q0b) (n:Int):Int:=Q0j [s.err,Q0q (Q6h s n) 10]
theorem X2w {s:Q0b} {n:Int} (h:Q3m s n = 0):Q0y s /\ 0 <= n /\ n < s.members.length:=by
 unfold Q3m Q0j at h
 by_cases he:s.err = 0
 . rw [if_pos he] at h
   refine ⟨Q0y.of he,?_⟩;unfold Q0j Q6h Q0q at h
   by_cases h0:n < 0 <;> by_cases h1:(s.members.length:Int) <= n <;> simp [h0,h1] at h ⊢ <;> omega
 . rw [if_neg he] at h; exact absurd h he
end Go.Proofs
namespace Go.Proofs
open Go.RowKit Go.Tw Go.Flow
attribute [local go_sem] Oper.semAt_some
attribute [local go_sem ↓] X4r X1h
def Q6u (s:Q0b) (n:Int):List Bool:=if Q3m s n = 0 then (alone s n.toNat).getD [] else []
def X4i (s:Q0b) (n:Int):Int:=if Q3m s n = 0 then (if (alone s n.toNat).isSome then 0 else 24) else Q3m s n
theorem Q9l (w:World):Q0x w (.slice none 0 0) []:=Go.Tw.Rows.nil _ _ _
theorem Y1g (w:World) (v:Value) (s:Q0b) (n:Int) (hv:Q0h w v s) (hs:Q3d s) :
    Calls Tryz.prog 50 #[v,.int .i64 n] w fun e w'=>∃ x,e = .returned (.tuple #[x,.int .i64 (countB (Q6u s n)),.int .i64 (X4i s n)]) /\ Q0x w' x (Q6u s n) /\ Ext w w':=by
 obtain ⟨a,b,rfl,h2⟩:=hv;obtain ⟨A,capa,rfl,-,-,-⟩:=h2.ships.opened;obtain ⟨B,capb,rfl,-,-,-⟩:=h2.members.opened;have H2:=Lib.hid h2;have HS:=Lib.hid hs;have HE1:Hid (∀ (W:World) (u:Value),Q0d W u [s.err,Q0q (Q6h s n) 10] -> Calls Tryz.prog 96 #[u] W fun e W'=>e = .returned (.int .i64 (Q3m s n)) /\ W = W'):=Lib.hid (fun W u h=>first_any W u _ h);clear h2 hs;go_enter Tryz.func50,Tryz.ntmps50;go_upto_region 1 with fail;change Code.wp _ _ _ _ (w.alloc (.cells #[.int .i64 s.limit,.slice A s.ships.length capa,.slice B s.members.length capb] 34));obtain ⟨W,hWW,k0,HXW,eW⟩:=Q1q w 34 #[.int .i64 s.limit,.slice A s.ships.length capa,.slice B s.members.length capb];rw [hWW];clear hWW;have K0:=Lib.hid k0;clear k0;have hdr:=(Ext.refl W).drew;have HSE:Hid (∀ W',Ext W W' -> Q0h W' (.agg #[.int .i64 s.limit,.slice A s.ships.length capa,.slice B s.members.length capb]) s):=Lib.hid (fun W' hW=>⟨_,_,rfl,H2.out.ext (HXW.out.trans hW)⟩);refine Flow.Q1h [.w,.w,.w,.p,.w,.w,.w,.p] [0,1,2,3,4,5,6,7] [[],[0],[],[],[1,2,3],[1,4],[4,5],[0,1,2,3,4,5,6]]
  [.c 0 (.agg #[.int .i64 s.limit,.slice A s.ships.length capa,.slice B s.members.length capb]),.c 1 (.int .i64 s.err),.c 2 (.agg #[.int .i64 s.limit,.slice A s.ships.length capa,.slice B s.members.length capb]),.c 3 (.int .i64 n),.c 4 (.int .i64 (Q0q (Q6h s n) 10)),⟨fun v wz=>(fun v w'=>Q0d w' (v 5) [s.err,Q0q (Q6h s n) 10]) v wz,by intro v a b hx h; exact Q0d.ext h hx⟩,.c 6 (.int .i64 (Q3m s n)),.c 7 (.int .i64 (Q3m s n))]
  (by kernel_rfl) rfl (by kernel_rfl) ⟨?g0,?g1,?g2,?g3,?g4,?g5,?g6,?g7,trivial⟩ ?post
 case g0 | g2=>
  intro v w1 hx;intro bb hbb;intro K hK;have o1:bb.eval (.tmp 2) = .pointer (some ⟨w.heap.size,0,none⟩):=by rw [hbb]; dsimp only; (try simp (discharger:=decide) only [eval_put_ne]); rfl
  exact Q0l (.tmp 2) _ rfl Tryz.X7e Tryz.Q8c o1 (K0.out.ext (hdr.trans hx)) rfl (hK _ _ (Ext.refl _) rfl)
 case g1=>
  intro v w1 hx;(repeat intro (zq:v _ = _));intro bb hbb;subst hbb;intro K hK;go_simp;refine Q0e (Q1s w1 _ s (HSE.out w1 (hdr.trans hx)) HS.out) ?_;rintro e w2 ⟨rfl,hx2⟩;exact ⟨_,rfl,hK _ _ hx2 rfl⟩
 case g3=>
  intro v w1 hx;intro bb hbb;subst hbb;refine ⟨_,fun w=>?_,rfl⟩;go_simp
 case g4=>
  intro v w1 hx;(repeat intro (zq:v _ = _));intro bb hbb;subst hbb;intro K hK;go_simp;refine Q0e (Q4l w1 _ s n (HSE.out w1 (hdr.trans hx))) ?_;rintro e w2 ⟨rfl,hx2⟩;exact ⟨_,rfl,hK _ _ hx2 rfl⟩
 case g5=>
  intro v w1 hx;(repeat intro (zq:v _ = _));intro bb hbb;subst hbb;intro K hK;go_simp;exact hK _ _ (Ext.box _ _) (Q3i (l:=[s.err,Q0q (Q6h s n) 10]) (by simp))
 case g6=>
  intro v w1 hx (q4:v 4 = _) (q5:(fun v w'=>Q0d w' (v 5) [s.err,Q0q (Q6h s n) 10]) v w1);intro bb hbb;subst hbb;intro K hK;go_simp;refine Q0e (HE1.out w1 _ q5) ?_;rintro e w2 ⟨rfl,rfl⟩;exact ⟨_,rfl,hK _ _ (Ext.refl _) rfl⟩
 case g7=>
  intro v w1 hx (q0:v 0 = _) (q1:v 1 = _) (q2:v 2 = _) (q3:v 3 = _) (q4:v 4 = _) _ (q6:v 6 = _);intro bb hbb;subst hbb;refine ⟨_,fun w=>?_,rfl⟩;go_simp
 case post =>
  intro v w1 hx (q0:v 0 = _) (q1:v 1 = _) (q2:v 2 = _) (q3:v 3 = _) (q4:v 4 = _) (q5:(fun v w'=>Q0d w' (v 5) [s.err,Q0q (Q6h s n) 10]) v w1) (q6:v 6 = _) (q7:v 7 = _);simp only [Flow.All,Flow.acts,Act.put];go_simp;have HX5:=Lib.hid (HXW.out.trans (hdr.trans hx));have HK5:=Lib.hid (K0.out.ext (hdr.trans hx));obtain ⟨w5,rfl⟩:∃ X,X = w1:=⟨_,rfl⟩;clear hx hdr q0 q1 q2 q3 q4 q5 q6 q7
  by_cases he:Q3m s n = 0
  . obtain ⟨hvs,hn0,hn1⟩:=X2w he
    have HV:=Lib.hid hvs;have HFB:Hid (Q6u s n = (alone s n.toNat).getD []):=Lib.hid (if_pos he);have HFE:Hid (X4i s n = if (alone s n.toNat).isSome then 0 else 24):=Lib.hid (if_pos he)
    have hne:(Q3m s n != 0) = false:=by simp [he]
    obtain ⟨i,rfl⟩:∃ i:Nat,n = (i:Int):=⟨n.toNat,by omega⟩
    have him:i < s.members.length:=by omega
    rw [Int.toNat_natCast] at HFB HFE;obtain ⟨E,hE⟩:∃ E,Q3m s (i:Int) = E:=⟨_,rfl⟩;rw [hE] at hne ⊢;obtain ⟨bm,off,capx,capy,capz,X,Y,Z,hme⟩:=Q2k (H2.out.members.ext HX5.out) him;have hA:=hme.addr;subst hA;have HE0:=Lib.hid hme.e0;have HE1':=Lib.hid hme.e1;have HE2:=Lib.hid hme.e2;have HE3:=Lib.hid hme.e3;have HE4:=Lib.hid hme.e4;have HM2:=Lib.hid (fun W' hW=>hme.mem (W:=W') hW);have hT:=(hvs.shaped i him).1;have h6:=hvs.tides;have HAL:=Lib.hid (fun (W:World) (u:Value) (hu:X1r W u (Q1l s i))=>Y0r W u (Q1l s i) s.limit s.ships.length hu hT (by omega) h6.1 (Q7y hvs him (Nat.le_refl _)))
    have hal:∀ b,alone s i = some b -> b.length = s.ships.length:=fun b hb=>Q5w _ _ _ _ b hb;have HAD:Hid ((Q1l s i).Q3a s.limit s.ships.length (2 ^ s.ships.length) = alone s i):=Lib.hid rfl;rw [HAD.out] at HAL;obtain ⟨o,ho⟩:∃ o,alone s i = o:=⟨_,rfl⟩;rw [ho] at HAL HFB HFE hal;have hdr:=(Ext.refl w5).drew;obtain ⟨nm,hnm⟩:∃ x,Q1k s.members i = x:=⟨_,rfl⟩;obtain ⟨wt,hwt⟩:∃ x,Q0k s.members i = x:=⟨_,rfl⟩;obtain ⟨lc,hlc⟩:∃ x,(Q0c s.members i).length = x:=⟨_,rfl⟩;obtain ⟨lo,hlo⟩:∃ x,(Q0r s.members i).length = x:=⟨_,rfl⟩;obtain ⟨li,hli⟩:∃ x,(Q0z s.members i).length = x:=⟨_,rfl⟩;rw [hnm] at HE0 HM2;rw [hwt] at HE1' HM2;rw [hlc] at HE2 HM2;rw [hlo] at HE3 HM2;rw [hli] at HE4 HM2;have hiI:(i:Int) < s.members.length:=by omega
    have HSZ:Hid (0 < s.ships.length /\ s.ships.length <= 6):=Lib.hid h6;clear he hE hvs hn0 hn1 hme hT ho hnm hwt hlc hlo hli h6;go_wp2;refine Flow.Q1h [.p,.w,.p,.p,.w,.p,.w,.w,.p] [0,1,2,3,4,5,6,7,8] [[],[0],[],[1,2],[3],[],[5],[4,6],[0,1,2,3,4,5,6,7]]
     [.c 0 (.pointer (some ⟨w.heap.size,2,none⟩)),.c 1 (.slice (some ⟨bm,off,none⟩) s.members.length capb),.c 2 (.int .i64 (i:Int)),.c 3 (.pointer (some ⟨bm,off + i * 5,none⟩)),.c 4 (.agg #[.string nm,.int .i64 wt,.slice X lc capx,.slice Y lo capy,.slice Z li capz]),.c 5 (.pointer (some ⟨w.heap.size,0,none⟩)),.c 6 (.int .i64 s.limit),⟨fun v wz=>(fun v w'=>Q7u w' (v 7) o) v wz,by intro v a b hx h; exact Q7u.ext h hx⟩,.is 8 (fun v=>v 7)]
     (by kernel_rfl) rfl (by kernel_rfl) ⟨?g0,?g1,?g2,?g3,?g4,?g5,?g6,?g7,?g8,trivial⟩ ?post
    case g0 | g2 | g5=>
     intro v w1 hx;intro bb hbb;subst hbb;refine ⟨_,fun w=>?_,rfl⟩;go_simp
    case g1 | g6=>
     intro v w1 hx;(repeat intro (zq:v _ = _));intro bb hbb;subst hbb;have n0:w1.cell? ⟨w.heap.size,2,none⟩ = some (.slice (some ⟨bm,off,none⟩) s.members.length capb):=(HK5.out.ext (hdr.trans hx)).cell 2;have n1:w1.cell? ⟨w.heap.size,0,none⟩ = some (.int .i64 s.limit):=(HK5.out.ext (hdr.trans hx)).cell 0;intro K hK;go_simp;exact hK _ _ (Ext.refl _) rfl
    case g3=>
     intro v w1 hx;(repeat intro (zq:v _ = _));intro bb hbb;subst hbb;refine ⟨_,fun w=>?_,rfl⟩;go_simp
    case g4=>
     intro v w1 hx;(repeat intro (zq:v _ = _));intro bb hbb;subst hbb;have f0:=(hdr.trans hx).cell HE0.out;have f1:=(hdr.trans hx).cell HE1'.out;have f2:=(hdr.trans hx).cell HE2.out;have f3:=(hdr.trans hx).cell HE3.out;have f4:=(hdr.trans hx).cell HE4.out;intro K hK;go_simp;exact hK _ _ (Ext.refl _) rfl
    case g7=>
     intro v w1 hx;(repeat intro (zq:v _ = _));intro bb hbb;subst hbb;intro K hK;go_simp;refine Q0e (HAL.out w1 _ (HM2.out w1 (hdr.trans hx))) ?_;rintro e w2 ⟨x,rfl,h1,hx2⟩;exact ⟨_,rfl,hK _ _ hx2 h1⟩
    case g8=>
     intro v w1 hx (q0:v 0 = _) (q1:v 1 = _) (q2:v 2 = _) (q3:v 3 = _) (q4:v 4 = _) (q5:v 5 = _) (q6:v 6 = _) _;intro bb hbb;subst hbb;refine ⟨_,fun w=>?_,rfl⟩;go_simp
    case post =>
     intro v w1 hx;(iterate 7 intro (zq:v _ = _));intro (q7:(fun v w'=>Q7u w' (v 7) o) v w1) (q8:v 8 = v 7);simp only [Flow.All,Flow.acts,Act.put];go_simp;have hq:Q7u w1 (v 7) o:=q7;have HXX:=Lib.hid (HX5.out.trans (hdr.trans hx));clear hx hdr q7 q8;(repeat clear zq);obtain ⟨xv,hxv⟩:∃ z,v 7 = z:=⟨_,rfl⟩;rw [hxv] at hq ⊢;cases o with
     | none =>
       replace hq:xv = .slice none 0 0:=hq;subst hq;have HC0:Hid (countB [] = 0):=Lib.hid rfl;clear hal hxv;go_wp2_with (first | (go_at_call 129; refine (Q5u _ _ [] (Q9l _)).mono ?_; rintro e w6 ⟨rfl,hx6⟩) | (go_at_call 119; refine (Q5o _ _ _).mono ?_; rintro e w7 ⟨rfl,rfl⟩))
       go_ret3
       exact ⟨_,by rw [HFB.out,HFE.out]; rfl,by rw [HFB.out]; exact Q9l _,HXX.out.trans hx6⟩
     | some b =>
       replace hq:Q0t w1 0 4 .bool xv b:=hq;have hbl:=hal b rfl;have HBO:=Lib.hid (hq.bools (by have:=HSZ.out; omega))
       obtain ⟨ab,cb,rfl⟩:∃ ab cb,xv = .slice (some ab) b.length cb:=by
        rcases hq.2 with ⟨_,h0⟩ | ⟨g,cap,cur,he,_⟩
        . have:=HSZ.out; omega
        . exact ⟨_,_,he⟩
       clear hal hxv hq hbl;go_wp2_with (first | (go_at_call 129; refine (Q5u _ _ b HBO.out).mono ?_; rintro e w6 ⟨rfl,hx6⟩) | (go_at_call 119; refine (Q5o _ _ _).mono ?_; rintro e w7 ⟨rfl,rfl⟩))
       go_ret3
       have HG:Hid (Q6u s (i:Int) = b /\ X4i s (i:Int) = 0):=Lib.hid ⟨by rw [HFB.out]; rfl,by rw [HFE.out]; rfl⟩
       exact ⟨.slice (some ab) b.length cb,by rw [HG.out.1,HG.out.2]; rfl,by rw [HG.out.1]; exact HBO.out.ext hx6,HXX.out.trans hx6⟩
  . have HFB:Hid (Q6u s n = []):=Lib.hid (if_neg he)
    have HFE:Hid (X4i s n = Q3m s n):=Lib.hid (if_neg he);have hne:(Q3m s n != 0) = true:=by simp [he]
    clear he;go_wp2
    go_ret3
    exact ⟨_,by rw [HFB.out,HFE.out]; rfl,by rw [HFB.out]; exact Q9l _,HX5.out⟩
end Go.Proofs
namespace Go.Proofs
open Go.RowKit Go.Tw Go.Flow
attribute [local go_sem] Oper.semAt_some
def X3z (s:Q0b) (p:List Rul) (n:Int):Int:=Q0j [Q1i s p,Q0q (Q6h s n) 10]
theorem Z1h {s:Q0b} {p:List Rul} {n:Int} (h:X3z s p n = 0):Q0y s /\ Q2g s.hist p = 0 /\ 0 <= n /\ n < s.members.length:=by
 obtain ⟨h1,h2⟩:=Q1v h;obtain ⟨h3,h4⟩:=Q4s h1;refine ⟨h3,h4,?_⟩;unfold Q6h Q0q at h2
 by_cases h0:n < 0 <;> by_cases h1:(s.members.length:Int) <= n <;> simp [h0,h1] at h2 ⊢ <;> omega
def Z7k (s:Q0b) (p:List Rul) (n:Int):List Bool:=if X3z s p n = 0 then Q0o p (Q0c s.members n.toNat) else []
def Z7h (s:Q0b) (p:List Rul) (n:Int):List Int:=if X3z s p n = 0 then (Q1l s n.toNat).Q3e (Q0o p (Q0c s.members n.toNat)) else []
theorem Y3m {a:World} {g i k n c m d:Nat} {T:TypeId} {A B:Option Addr} {u:Value} (hg:Blk a g T #[.slice A n c,.slice B m d]) (h:a.cell? ⟨i,k,none⟩ = some u) (hu:∀ A n c,u ≠ .slice A n c):i ≠ g:=by
 rintro rfl;rw [hg.cell] at h
 rcases k with _ | _ | k
 . simp at h; exact hu _ _ _ h.symm
 . simp at h; exact hu _ _ _ h.symm
 . simp at h
theorem Z2p {a b:World} {g n c m d:Nat} {T:TypeId} {A B:Option Addr} {v:Value} {l:List Int} (h:Q0d a v l) (hg:Blk a g T #[.slice A n c,.slice B m d]) (hk:∀ k,k < a.heap.size -> k ≠ g -> b.heap[k]? = a.heap[k]?):Q0d b v l:=by
 obtain ⟨f,⟨A',cap,hv,hn,hcap,hc⟩,h2⟩:=h;refine ⟨f,⟨A',cap,hv,hn,hcap,fun j hj=>?_⟩,h2⟩;obtain ⟨b',off,hA,hcell⟩:=hc j hj;have e:=h2 j (by omega)
 simp only [Nat.mul_one,Nat.add_zero] at e;exact ⟨b',off,hA,X1w hcell (Y3m hg hcell (by rw [e]; intro _ _ _ hh; cases hh)) hk⟩
theorem Y8n {a b:World} {g n c m d:Nat} {T:TypeId} {A B:Option Addr} {v:Value} {l:List Bool} (h:Q0x a v l) (hg:Blk a g T #[.slice A n c,.slice B m d]) (hk:∀ k,k < a.heap.size -> k ≠ g -> b.heap[k]? = a.heap[k]?):Q0x b v l:=by
 obtain ⟨f,⟨A',cap,hv,hn,hcap,hc⟩,h2⟩:=h;refine ⟨f,⟨A',cap,hv,hn,hcap,fun j hj=>?_⟩,h2⟩;obtain ⟨b',off,hA,hcell⟩:=hc j hj;have e:=h2 j (by omega)
 simp only [Nat.mul_one,Nat.add_zero] at e;exact ⟨b',off,hA,X1w hcell (Y3m hg hcell (by rw [e]; intro _ _ _ hh; cases hh)) hk⟩
theorem Tryz.J1r (w:World):(isAgg 96).run Tryz.prog w = .ok true w:=by kernel_rfl
theorem Tryz.Y9i (w:World):(sizeOf 96).run Tryz.prog w = .ok 2 w:=by kernel_rfl
theorem Y4y {A B:Option Addr} {n c m d:Nat}:∀ u ∈ (#[Value.slice A n c,.slice B m d]:Array Value).toList,u.oneCell' = true:=by
 intro u hu;simp only [List.mem_cons,List.not_mem_nil,or_false] at hu
 rcases hu with rfl | rfl <;> rfl
def Z8t (s:Q0b) (p:List Rul) (n:Int) (e:Ending) (w':World):Prop:=∃ x y,e = .returned (.tuple #[.agg #[x,y],.int .i64 (X3z s p n)]) /\ Q0x w' x (Z7k s p n) /\ Q0d w' y (Z7h s p n)
theorem Z5m (w:World) (v u:Value) (s:Q0b) (p:List Rul) (n:Int) (hv:Q0h w v s) (hu:Q1c w u p) (hs:Q3d s) (hp:p.length <= 1000) :
    Calls Tryz.prog 57 #[v,u,.int .i64 n] w fun e w'=>Z8t s p n e w' /\ Ext w w':=by
 obtain ⟨a,b,rfl,h2⟩:=hv;obtain ⟨rv,rfl,hr⟩:=hu;obtain ⟨A,capa,rfl,-,-,-⟩:=h2.ships.opened;obtain ⟨B,capb,rfl,-,-,-⟩:=h2.members.opened;obtain ⟨R,capr,rfl,-,-,-⟩:=hr.opened;have H2:=Lib.hid h2;have HR:=Lib.hid hr;have HS:=Lib.hid hs;have HE1:Hid (∀ (W:World) (u:Value),Q0d W u [Q1i s p,Q0q (Q6h s n) 10] -> Calls Tryz.prog 96 #[u] W fun e W'=>e = .returned (.int .i64 (X3z s p n)) /\ W = W'):=Lib.hid (fun W u h=>first_any W u _ h);clear h2 hr hs;go_enter Tryz.func57,Tryz.ntmps57;go_upto_region 1 with fail;change Code.wp _ _ _ _ (((w.alloc (.cells #[.int .i64 s.limit,.slice A s.ships.length capa,.slice B s.members.length capb] 34)).alloc (.cells #[.slice R p.length capr] 38)).alloc (.cells #[.slice none 0 0,.slice none 0 0] 96));obtain ⟨W,hWW,k0,k1,k2,HXW,eW⟩:=X7w w 34 #[.int .i64 s.limit,.slice A s.ships.length capa,.slice B s.members.length capb] 38 #[.slice R p.length capr] 96 #[.slice none 0 0,.slice none 0 0];rw [hWW];clear hWW;have K0:=Lib.hid k0;have K1:=Lib.hid k1;have K2:=Lib.hid k2;clear k0 k1 k2;have hdr:=(Ext.refl W).drew;have HSE:Hid (∀ W',Ext W W' -> Q0h W' (.agg #[.int .i64 s.limit,.slice A s.ships.length capa,.slice B s.members.length capb]) s):=Lib.hid (fun W' hW=>⟨_,_,rfl,H2.out.ext (HXW.out.trans hW)⟩);have HPO:Hid (∀ W',Ext W W' -> Q1c W' (.agg #[.slice R p.length capr]) p):=Lib.hid (fun W' hW=>⟨_,rfl,HR.out.ext (HXW.out.trans hW)⟩);refine Flow.Q1h [.w,.w,.w,.w,.p,.w,.w,.w,.p] [0,1,2,3,4,5,6,7,8] [[],[],[0,1],[],[],[2,3,4],[2,5],[5,6],[0,1,2,3,4,5,6,7]]
  [.c 0 (.agg #[.int .i64 s.limit,.slice A s.ships.length capa,.slice B s.members.length capb]),.c 1 (.agg #[.slice R p.length capr]),.c 2 (.int .i64 (Q1i s p)),.c 3 (.agg #[.int .i64 s.limit,.slice A s.ships.length capa,.slice B s.members.length capb]),.c 4 (.int .i64 n),.c 5 (.int .i64 (Q0q (Q6h s n) 10)),⟨fun v wz=>(fun v w'=>Q0d w' (v 6) [Q1i s p,Q0q (Q6h s n) 10]) v wz,by intro v a b hx h; exact Q0d.ext h hx⟩,.c 7 (.int .i64 (X3z s p n)),.c 8 (.int .i64 (X3z s p n))]
  (by kernel_rfl) rfl (by kernel_rfl) ⟨?g0,?g1,?g2,?g3,?g4,?g5,?g6,?g7,?g8,trivial⟩ ?post
 case g0 | g3=>
  intro v w1 hx;intro bb hbb;intro K hK;have o1:bb.eval (.tmp 3) = .pointer (some ⟨w.heap.size,0,none⟩):=by rw [hbb]; dsimp only; (try simp (discharger:=decide) only [eval_put_ne]); rfl
  exact Q0l (.tmp 3) _ rfl Tryz.X7e Tryz.Q8c o1 (K0.out.ext (hdr.trans hx)) rfl (hK _ _ (Ext.refl _) rfl)
 case g1=>
  intro v w1 hx;intro bb hbb;intro K hK;have o1:bb.eval (.tmp 4) = .pointer (some ⟨w.heap.size + 1,0,none⟩):=by rw [hbb]; dsimp only; (try simp (discharger:=decide) only [eval_put_ne]); rfl
  exact Q0l (.tmp 4) _ rfl Tryz.X0r Tryz.Q4z o1 (K1.out.ext (hdr.trans hx)) rfl (hK _ _ (Ext.refl _) rfl)
 case g2=>
  intro v w1 hx;(repeat intro (zq:v _ = _));intro bb hbb;subst hbb;intro K hK;go_simp;refine Q0e (Q3v w1 _ _ s p (HSE.out w1 (hdr.trans hx)) (HPO.out w1 (hdr.trans hx)) HS.out hp) ?_;rintro e w2 ⟨rfl,hx2⟩;exact ⟨_,rfl,hK _ _ hx2 rfl⟩
 case g4=>
  intro v w1 hx;intro bb hbb;subst hbb;refine ⟨_,fun w=>?_,rfl⟩;go_simp
 case g5=>
  intro v w1 hx;(repeat intro (zq:v _ = _));intro bb hbb;subst hbb;intro K hK;go_simp;refine Q0e (Q4l w1 _ s n (HSE.out w1 (hdr.trans hx))) ?_;rintro e w2 ⟨rfl,hx2⟩;exact ⟨_,rfl,hK _ _ hx2 rfl⟩
 case g6=>
  intro v w1 hx;(repeat intro (zq:v _ = _));intro bb hbb;subst hbb;intro K hK;go_simp;exact hK _ _ (Ext.box _ _) (Q3i (l:=[Q1i s p,Q0q (Q6h s n) 10]) (by simp))
 case g7=>
  intro v w1 hx (q5:v 5 = _) (q6:(fun v w'=>Q0d w' (v 6) [Q1i s p,Q0q (Q6h s n) 10]) v w1);intro bb hbb;subst hbb;intro K hK;go_simp;refine Q0e (HE1.out w1 _ q6) ?_;rintro e w2 ⟨rfl,rfl⟩;exact ⟨_,rfl,hK _ _ (Ext.refl _) rfl⟩
 case g8=>
  intro v w1 hx (q0:v 0 = _) (q1:v 1 = _) (q2:v 2 = _) (q3:v 3 = _) (q4:v 4 = _) (q5:v 5 = _) _ (q7:v 7 = _);intro bb hbb;subst hbb;refine ⟨_,fun w=>?_,rfl⟩;go_simp
 case post =>
  intro v w1 hx;(iterate 6 intro (zq:v _ = _));intro (q6:(fun v w'=>Q0d w' (v 6) [Q1i s p,Q0q (Q6h s n) 10]) v w1);(iterate 2 intro (zq:v _ = _));simp only [Flow.All,Flow.acts,Act.put];go_simp;have HX5:=Lib.hid (HXW.out.trans (hdr.trans hx));have HK0:=Lib.hid (K0.out.ext (hdr.trans hx));have HK1:=Lib.hid (K1.out.ext (hdr.trans hx));have HK2:=Lib.hid (K2.out.ext (hdr.trans hx));obtain ⟨w5,rfl⟩:∃ X,X = w1:=⟨_,rfl⟩;clear hx hdr q6;(repeat clear zq)
  by_cases he:X3z s p n = 0
  . obtain ⟨hV,hre,hn0,hn1⟩:=Z1h he
    have h6:=hV.tides;have HF:Hid (Z7k s p n = Q0o p (Q0c s.members n.toNat) /\ Z7h s p n = (Q1l s n.toNat).Q3e (Q0o p (Q0c s.members n.toNat))):=Lib.hid ⟨if_pos he,if_pos he⟩;have hne:(X3z s p n != 0) = false:=by simp [he]
    obtain ⟨i,rfl⟩:∃ i:Nat,n = (i:Int):=⟨n.toNat,by omega⟩
    have him:i < s.members.length:=by omega
    rw [Int.toNat_natCast] at HF;have HPE:=Lib.hid he;have hok:=Q7y hV him (n:=s.ships.length) (Nat.le_refl _);have hcl:(Q0o p (Q0c s.members i)).length = s.ships.length:=by rw [Q2r,(hV.shaped i him).1]
    have HCC:=Lib.hid (Q6f w5 _ _ s p ⟨_,_,rfl,H2.out.ext HX5.out⟩ ⟨_,rfl,HR.out.ext HX5.out⟩ hV hre);have HPK:=Lib.hid (fun (W:World) (v u:Value) (hv:X1r W v (Q1l s i)) (hu:Q0x W u (Q0o p (Q0c s.members i)))=>X4d W v u (Q1l s i) _ hv hu (by omega) (by rw [hcl]; exact hok))
    have HCG:=Lib.hid (Q6d p him);obtain ⟨E,hE⟩:∃ E,X3z s p (i:Int) = E:=⟨_,rfl⟩;have HE0:=Lib.hid (hE.symm.trans he);have c0:=(HK0.out).cell 0;have c1:=(HK0.out).cell 1;have c2:=(HK0.out).cell 2;simp only [Go.Tw.gA,Go.Tw.gB,Go.Tw.gC] at c0 c1 c2;have d0:=(HK1.out).cell 0;simp only [Go.Tw.gA,Go.Tw.gB] at d0;rw [hE] at hne ⊢;rw [HE0.out];clear hV hre hn0 hn1 he hE hok hcl h6;go_wp2_with (go_at_call 109; refine HCC.out.mono ?_; rintro e w6 ⟨x6,rfl,h1,h2⟩; refine halted ?_);have HX6:=Lib.hid h2;obtain ⟨Ab,cb,hab,-,-,hcc⟩:=h1.opened;subst hab;rw [Q2v] at hcc ⊢;obtain ⟨bu,ou,uk,hU,-,hxk,hbk⟩:=hcc i him;subst hU;rw [HCG.out] at hbk;obtain ⟨Uk,ck,hk,-,-,-⟩:=hbk.opened;subst hk;have HBK:=Lib.hid hbk;obtain ⟨bm,off,capx,capy,capz,X,Y,Z,hme⟩:=Q2k (H2.out.ext (HX5.out.trans h2)).members him;obtain rfl:=hme.addr;have HME:=Lib.hid (hme.mem (Ext.refl w6));have e0:=hme.e0;have e1:=hme.e1;have e2:=hme.e2;have e3:=hme.e3;have e4:=hme.e4;have k6:=(HK0.out.ext h2).cell 2;simp only [Go.Tw.gA,Go.Tw.gB,Go.Tw.gC] at k6;have hiI:(i:Int) < s.members.length:=by omega
    have hpb:=HK2.out.ext h2;have HPP:=Lib.hid (HPK.out w6 _ _ HME.out HBK.out);clear h1 h2 hcc hbk hme c0 c1 c2 d0;unfold Q1j;go_wp2_with (go_at_call 127; refine HPP.out.mono ?_; rintro e w7 ⟨x7,rfl,h1,h2⟩; refine halted ?_);have HX7:=Lib.hid h2;obtain ⟨R7,c7,hs7,-,-,-⟩:=h1.opened;subst hs7;have HI7:=Lib.hid h1;have hpb7:=hpb.ext h2;clear h1 h2 hpb e0 e1 e2 e3 e4 k6;unfold Q1j;go_wp2_with (with_reducible (refine Q7l ?_); refine Q0u rfl _ _ _ rfl Tryz.Y9i rfl rfl hpb7 rfl rfl Y4y ?_; intro w9 hb9 hl9 ho9);refine bodyPost_ret (Q4i Tryz.results57 rfl hb9 Tryz.J1r Tryz.Y9i rfl) rfl ?_;exact ⟨⟨_,_,by rw [HPE.out]; rfl,by rw [HF.out.1]; exact Y8n (HBK.out.ext HX7.out) hpb7 (fun k _ hk=>ho9 k hk),by rw [HF.out.2]; exact Z2p HI7.out hpb7 (fun k _ hk=>ho9 k hk)⟩,Below.trans (HX5.out.trans (HX6.out.trans HX7.out)) (hl9 _ (by omega))⟩
  . have HF:Hid (Z7k s p n = [] /\ Z7h s p n = []):=Lib.hid ⟨if_neg he,if_neg he⟩
    have hne:(X3z s p n != 0) = true:=by simp [he]
    obtain ⟨E,hE⟩:∃ E,X3z s p n = E:=⟨_,rfl⟩;have HPE:=Lib.hid hE;have hp2:=HK2.out;rw [hE] at hne ⊢;clear he hE;go_wp2_with (with_reducible (refine Q7l ?_); refine Q0u rfl _ _ _ rfl Tryz.Y9i rfl rfl hp2 rfl rfl Y4y ?_; intro w9 hb9 hl9 ho9);refine bodyPost_ret (Q4i Tryz.results57 rfl hb9 Tryz.J1r Tryz.Y9i rfl) rfl ?_;exact ⟨⟨_,_,by rw [HPE.out]; rfl,by rw [HF.out.1]; exact Go.Tw.Rows.nil _ _ _,by rw [HF.out.2]; exact Go.Tw.Rows.nil _ _ _⟩,Below.trans HX5.out (hl9 _ (by omega))⟩
end Go.Proofs
