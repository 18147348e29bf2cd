/- Contract: Doomed (of the program): a range over a function inside a loop. -/
import Derived.Test.YthnobngcipaljaaGreatDoorPp28
import Derived.Test.YthnobngcipaljaaGreatDoorPp16
import Derived.Test.YthnobngcipaljaaGreatDoorPp06
import Derived.Test.YthnobngcipaljaaGreatDoorPp09
set_option maxRecDepth 1000000
set_option maxHeartbeats 64000000
set_option linter.unusedVariables false
set_option linter.unusedSimpArgs false
set_option linter.constructorNameAsVariable false
open Go.Lib (hid)
namespace Go.Proofs
open Go.RowKit Go.Tw Go.Flow
attribute [local go_sem] Oper.semAt_some
def Q9u (m:Mem) (lim:Int) (t j:Nat):Bool:=(List.range j).any fun n=>m.keeps lim (Q5u n t)
theorem Y3f (m:Mem) (lim:Int) (t j:Nat):Q9u m lim t (j + 1)=(Q9u m lim t j || m.keeps lim (Q5u j t)):=by
 unfold Q9u; rw [List.range_succ,List.any_append]; simp
def X5q (s:Q0b) (n:Int):Int:=if Q5j s n=0 then (if (Q7o s n.toNat).isSome then 0 else 7) else Q5j s n
def X4a (s:Q0b) (n:Int):Int:=if Q5j s n=0 then (((Q7o s n.toNat).getD 0:Nat):Int) else 0
theorem Z3y {s:Q0b} {i k:Nat} (hk:k < s.ships.length) (h0:∀ t,t < k -> (Q2e s i).X2v s.limit (t + 1)=true) (h1:(Q2e s i).X2v s.limit (k + 1)=false):Q7o s i=some k:=by
 unfold Q7o;rw [List.find?_eq_some_iff_getElem];refine ⟨by simp [h1],k,by simpa using hk,by simp,fun j hj=>?_⟩
 simp [h0 j hj]
theorem Z0f {s:Q0b} {i:Nat} (h0:∀ t,t < s.ships.length -> (Q2e s i).X2v s.limit (t + 1)=true):Q7o s i=none:=by
 unfold Q7o;rw [List.find?_eq_none];intro t ht;simp [h0 t (List.mem_range.1 ht)]
theorem Y4y (w:World) (v:Value) (s:Q0b) (n:Int) (hv:Q0h w v s) (hs:Q3k s) :
    Calls Tryz.prog 41 #[v,.int .i64 n] w fun e w'=>e=.returned (.tuple #[.int .i64 (X4a s n),.int .i64 (X5q s n)]) /\ Ext w w':=by
 obtain ⟨a,b,rfl,h2⟩:=hv;obtain ⟨A,capa,rfl,-,-,-⟩:=h2.ships.opened;obtain ⟨B,capb,rfl,-,-,-⟩:=h2.members.opened;have H2:=hid h2;have HS:=hid hs;have HE1:Hid (∀ (W:World) (u:Value),Q0d W u [s.err,Q0x (X1k s n) 10] -> Calls Tryz.prog 96 #[u] W fun e W'=>e=.returned (.int .i64 (Q5j s n)) /\ W=W'):=hid (fun W u h=>first_any W u _ h);clear h2 hs;refine (callsIn_wide (n:=9)).1 ?_;refine callsIn_of_wp_marks Tryz.func41 rfl trivial ?_ rfl;simp only [Tryz.ntmps41,List.size_toArray,List.length_cons,List.length_nil,Nat.reduceAdd,Nat.reduceSub,Array.replicate_succ,Array.replicate_zero,List.push_toArray,List.append_toArray,List.nil_append,List.cons_append]
 gi_wp2_with fail
 obtain ⟨W,hWW,k0,k1,HXW,eW⟩:=Q4e w 34 #[.int .i64 s.limit,.slice A s.ships.length capa,.slice B s.members.length capb] 3 #[.int .i64 n];rw [hWW];clear hWW;obtain ⟨gs,hgs⟩:∃ x,w.heap.size=x:=⟨_,rfl⟩;have HGS:=hid hgs;rw [hgs] at k0 k1 eW ⊢;have K0:=hid k0;have K1:=hid k1;clear k0 k1 hgs;have hdr:=(Ext.refl W).drew;have HSE:Hid (∀ W',Ext W W' -> Q0h W' (.agg #[.int .i64 s.limit,.slice A s.ships.length capa,.slice B s.members.length capb]) s):=hid (fun W' hW=>⟨_,_,rfl,H2.out.ext (HXW.out.trans hW)⟩);refine Y9t ?_
 gi_wp2_with fail
 refine wpIn_wide.2 ?_;refine Flow.Q1o [.w,.w,.w,.w,.w,.w,.w,.p] [0,1,2,3,4,5,6,7] [[],[0],[],[],[1,2,3],[1,4],[4,5],[0,1,2,3,4,5,6]]
  [.c 0 (.agg #[.int .i64 s.limit,.slice A s.ships.length capa,.slice B s.members.length capb]),.c 1 (.int .i64 s.err),.c 2 (.agg #[.int .i64 s.limit,.slice A s.ships.length capa,.slice B s.members.length capb]),.c 3 (.int .i64 n),.c 4 (.int .i64 (Q0x (X1k s n) 10)),⟨fun v wz=>(fun v w'=>Q0d w' (v 5) [s.err,Q0x (X1k s n) 10]) v wz,by intro v a b hx h; exact Q0d.ext h hx⟩,.c 6 (.int .i64 (Q5j s n)),.c 7 (.int .i64 (Q5j s n))]
  (by kernel_rfl) rfl (by kernel_rfl) ⟨?g0,?g1,?g2,?g3,?g4,?g5,?g6,?g7,trivial⟩ ?post
 case g0 | g2=>
  intro v w1 hx;intro bb hbb;intro K hK;have o1:bb.eval (.tmp 2)=.pointer (some ⟨gs,0,none⟩):=by rw [hbb]; dsimp only; (try simp (discharger:=decide) only [eval_put_ne]); rfl
  exact Q0p (.tmp 2) _ rfl Tryz.X6u Tryz.Q9o o1 (K0.out.ext (hdr.trans hx)) rfl (hK _ _ (Ext.refl _) rfl)
 case g1=>
  intro v w1 hx;(repeat intro (zq:v _=_));intro bb hbb;subst hbb;intro K hK;go_simp;refine Q0e (Q1u w1 _ s (HSE.out w1 (hdr.trans hx)) HS.out) ?_;rintro e w2 ⟨rfl,hx2⟩;exact ⟨_,rfl,hK _ _ hx2 rfl⟩
 case g3=>
  intro v w1 hx;intro bb hbb;subst hbb;have n0:w1.cell? ⟨gs + 1,0,none⟩=some (.int .i64 n):=(K1.out.ext (hdr.trans hx)).cell 0;intro K hK;go_simp;exact hK _ _ (Ext.refl _) rfl
 case g4=>
  intro v w1 hx;(repeat intro (zq:v _=_));intro bb hbb;subst hbb;intro K hK;go_simp;refine Q0e (Q5o w1 _ s n (HSE.out w1 (hdr.trans hx))) ?_;rintro e w2 ⟨rfl,hx2⟩;exact ⟨_,rfl,hK _ _ hx2 rfl⟩
 case g5=>
  intro v w1 hx;(repeat intro (zq:v _=_));intro bb hbb;subst hbb;intro K hK;go_simp;exact hK _ _ (Ext.box _ _) (Q3q (l:=[s.err,Q0x (X1k s n) 10]) (by simp))
 case g6=>
  intro v w1 hx (q4:v 4=_) (q5:(fun v w'=>Q0d w' (v 5) [s.err,Q0x (X1k s n) 10]) v w1);intro bb hbb;subst hbb;intro K hK;go_simp;refine Q0e (HE1.out w1 _ q5) ?_;rintro e w2 ⟨rfl,rfl⟩;exact ⟨_,rfl,hK _ _ (Ext.refl _) rfl⟩
 case g7=>
  intro v w1 hx (q0:v 0=_) (q1:v 1=_) (q2:v 2=_) (q3:v 3=_) (q4:v 4=_) _ (q6:v 6=_);intro bb hbb;subst hbb;refine ⟨_,fun w=>?_,rfl⟩;go_simp
 case post =>
  intro v w1 hx (q0:v 0=_) (q1:v 1=_) (q2:v 2=_) (q3:v 3=_) (q4:v 4=_) (q5:(fun v w'=>Q0d w' (v 5) [s.err,Q0x (X1k s n) 10]) v w1) (q6:v 6=_) (q7:v 7=_);simp only [Flow.All,Flow.acts,Act.put];go_simp;have HX5:=hid (HXW.out.trans (hdr.trans hx));have HK5:=hid (K0.out.ext (hdr.trans hx));have HI5:=hid (K1.out.ext (hdr.trans hx));have HZ5:Hid (gs + 1 + 1 <= w1.heap.size):=hid (by have:=(hdr.trans hx).size; omega)
  obtain ⟨w5,rfl⟩:∃ X,X=w1:=⟨_,rfl⟩;obtain ⟨y5,hy5⟩:∃ z,v 5=z:=⟨_,rfl⟩;rw [hy5];clear hx hdr hy5 eW q0 q1 q2 q3 q4 q5 q6 q7
  by_cases he:Q5j s n=0
  . obtain ⟨hvs,hn0,hn1⟩:=X8o he
    have hne:(Q5j s n != 0)=false:=by simp [he]
    obtain ⟨i,rfl⟩:∃ i:Nat,n=(i:Int):=⟨n.toNat,by omega⟩
    have him:i < s.members.length:=by omega
    have HDT:Hid (X4a s (i:Int)=(((Q7o s i).getD 0:Nat):Int)):=hid (by unfold X4a; rw [if_pos he,Int.toNat_natCast])
    have HDE:Hid (X5q s (i:Int)=if (Q7o s i).isSome then 0 else 7):=hid (by unfold X5q; rw [if_pos he,Int.toNat_natCast])
    obtain ⟨E,hE⟩:∃ E,Q5j s (i:Int)=E:=⟨_,rfl⟩;rw [hE] at hne ⊢;obtain ⟨bm,off,capx,capy,capz,X,Y,Z,hme⟩:=Q2l (H2.out.members.ext HX5.out) him;have hA:=hme.addr;subst hA;have HE0:=hid hme.e0;have HE1':=hid hme.e1;have HE2:=hid hme.e2;have HE3:=hid hme.e3;have HE4:=hid hme.e4;have HM2:=hid (fun W' hW=>hme.mem (W:=W') hW);have h6:=hvs.tides;have HOK:=hid (fun t (ht:t <= s.ships.length)=>X2q hvs him ht);obtain ⟨m,hm⟩:∃ m,Q2e s i=m:=⟨_,rfl⟩;have HDA:=hid (fun k (hk:k < s.ships.length) h0 h1=>Z3y (s:=s) (i:=i) (k:=k) hk h0 h1);have HDN:=hid (fun h0=>Z0f (s:=s) (i:=i) h0);rw [hm] at HM2 HOK HDA HDN;obtain ⟨nm,hnm⟩:∃ x,Q1h s.members i=x:=⟨_,rfl⟩;obtain ⟨wt,hwt⟩:∃ x,Q0i s.members i=x:=⟨_,rfl⟩;obtain ⟨lc,hlc⟩:∃ x,(Q0c s.members i).length=x:=⟨_,rfl⟩;obtain ⟨lo,hlo⟩:∃ x,(Q0t s.members i).length=x:=⟨_,rfl⟩;obtain ⟨li,hli⟩:∃ x,(Q0y s.members i).length=x:=⟨_,rfl⟩;rw [hnm] at HE0 HM2;rw [hwt] at HE1' HM2;rw [hlc] at HE2 HM2;rw [hlo] at HE3 HM2;rw [hli] at HE4 HM2;have hiI:(i:Int) < s.members.length:=by omega
    have HSZ:Hid (0 < s.ships.length /\ s.ships.length <= 6):=hid h6;obtain ⟨T,hT⟩:∃ T,s.ships.length=T:=⟨_,rfl⟩;rw [hT] at HK5 HOK HDA HDN HSZ ⊢;obtain ⟨lim,hlim⟩:∃ l,s.limit=l:=⟨_,rfl⟩;rw [hlim] at HK5 HDA HDN ⊢;have HIM:Hid (i < s.members.length):=hid him;obtain ⟨M,hM⟩:∃ M,s.members.length=M:=⟨_,rfl⟩;rw [hM] at HK5 hiI HIM ⊢;have c1:w5.cell? ⟨gs,1,none⟩=some (.slice A T capa):=HK5.out.cell 1;clear he hE hvs hn0 hn1 hme hm hnm hwt hlc hlo hli h6 hT hlim hM him HSE H2 HS HE1
    gi_wp2_with fail
    refine wpIn_label ?_
    gi_wp2_with fail
    refine X5m 25 T 0 [9,10,25,26,27,28,29,30,44,45,47] [] (fun k a Ds W=>a.tmps.getD 25 undef=.int .i64 k /\ k <= T /\ (∀ t,t < k -> m.X2v lim (t + 1)=true) /\ Marked W Ds /\ (∀ D,D ∈ Ds -> w5.heap.size <= D) /\ Ext w5 W) (fun k a Ds w h=>by rw [h.1]; rfl) rfl (by kernel_rfl) ⟨rfl,Nat.zero_le _,fun t h=>absurd h (Nat.not_lt_zero _),Marked.nil _,(fun D h=>absurd h List.not_mem_nil),Ext.refl _⟩ ?round
    rintro k u Ds wr ⟨h25,hk,hsv,hmk,hdl,hxr⟩ K hK;simp only [X2w,List.foldl_cons,List.foldl_nil,List.setIfInBounds_toArray,List.set_cons_succ,List.set_cons_zero] at h25 ⊢;replace h25:u 25=.int .i64 k:=h25;rw [h25];have HSV:=hid hsv;have HMK:=hid hmk;have HDL:=hid hdl;have HXR:=hid hxr;have HKK:=hid hK;clear h25 hsv hmk hdl c1 hK
    by_cases hlt:k < T
    . have hkI:(k:Int) < T:=by omega
      have hlt6:=HSZ.out;have hw1:IntKind.i64.wrap ((k:Int) + 1)=((k + 1:Nat):Int):=by rw [Q2v _ (by omega) (by omega)]; omega
      have hszr:w5.heap.size <= wr.heap.size:=hxr.size;clear hxr
      gi_wp2_with (refine ⟨trivial,?_⟩; gi_at_call 112; refine halted ?_)
      unfold Q1i;clear HXW W K0 K1;obtain ⟨W,hWW,k0,HXW,eW⟩:=Q1t wr 4 #[.bool false];rw [hWW];clear hWW;have e1:((k:Int) + 1)=((k + 1:Nat):Int):=by omega
      rw [e1];refine (callsIn_wide.2 (Y0n W ((k + 1:Nat):Int))).mono ?_;rintro e w' ⟨rfl,hbe,hse,hxe⟩;rw [eW] at hbe hse ⊢;replace k0:=k0.ext hxe;have HXW':=hid (HXW.out.trans hxe);obtain ⟨gb,hgb⟩:∃ x,wr.heap.size=x:=⟨_,rfl⟩;have HGB:=hid hgb;rw [hgb] at k0 hbe hse ⊢;obtain ⟨tp,htp⟩:∃ t,k + 1=t:=⟨_,rfl⟩;have HTP:=hid htp;rw [htp] at hbe ⊢;have hT8:tp <= 8:=by omega
      have hB0:Q9u m lim tp 0=false:=rfl;clear hxe hgb HXW eW e1 htp hw1
      gi_wp2_with fail
      refine Q9s (n:=9) rfl (by omega) (gf:=170) (lb:=#[.pointer (some ⟨gb + 1,0,none⟩)]) rfl trivial (enters_of Tryz.func170 (by kernel_rfl) rfl)
       (X1n _ (gb + 1) tp w' hT8 hbe) rfl (fun h1 h2=>Eq.trans h2 h1) (fun h=>h.same (by omega)) (fun h ho=>h.own ho)
       (fun j W=>Blk W gb 4 #[.bool (Q9u m lim tp j)] /\ Below gb w' W /\ Marked W Ds)
       (fun j A B ⟨h1,h2,h3⟩ hx=>⟨h1.ext hx,Below.trans h2 (hx.mono (by have:=h1.lt; omega)),h3.ext hx⟩)
       (fun h ⟨h1,h2,h3⟩=>⟨h.blk h1,Below.trans h2 (h.below (by omega)),h3.turns (fun D hD=>by have:=HMK.out.lt hD; have:=HGB.out; omega) h⟩)
       ⟨k0,Below.refl _ _,HMK.out.ext HXW'.out⟩ ?frm ?assign ?body ?done
      case assign =>
       intro l x W K hK
       gi_wp2
       exact hK
      case done =>
       rintro D W hD ⟨hb,hB,hmw⟩ hDD;have hsz:=HXW'.out.size;have hxw:Ext w W:=HX5.out.trans (HXR.out.trans (Below.trans HXW'.out (hB.mono (by have:=HGB.out; omega))))
       have hx5:Ext w5 W:=HXR.out.trans (Below.trans HXW'.out (hB.mono (by have:=HGB.out; omega)))
       have hmk2:Marked W (D :: Ds):=hmw.cons hDD fun E hE=>by have:=HMK.out.lt hE; omega
       have hdl2:∀ E,E ∈ D :: Ds -> w5.heap.size <= E:=fun E hE=>by
        rcases List.mem_cons.1 hE with rfl | hE
        . omega
        . exact HDL.out E hE
       have hsb:Q9u m lim tp (2 ^ tp)=m.X2v lim (k + 1):=by rw [<- HTP.out]; rfl
       rw [hsb] at hb;have HXWW:=hid hxw;have HX5W:=hid hx5;have HMK2:=hid hmk2;have HDL2:=hid hdl2;clear hxw hx5 hmk2 hdl2 hsb hmw hDD hsz hB;have hcell:=hb.cell 0;cases hsv:m.X2v lim (k + 1) with
       | false =>
         rw [hsv] at hcell;have hdn:Q7o s i=some k:=HDA.out k hlt HSV.out hsv;clear hsv hb
         gi_wp2
         change LeavesInM Fence.wide 9 Tryz.prog Tryz.f41 _ _ (marks (D :: Ds)) _ _;refine Q4x (n0:=w.heap.size) (fun W=>Ext w W) (fun A B h ht=>Below.trans h (ht.below (Nat.le_refl _))) ?_ (D :: Ds) _ HMK2.out (fun E h=>Nat.le_trans HX5.out.size (HDL2.out E h)) HXWW.out;intro W hW;exact ⟨_,results_tmp2 rfl _ _ _,by rw [HDT.out,HDE.out,hdn]; rfl,hW⟩
       | true =>
         rw [hsv] at hcell;have HSV2:=hid (fun t (ht:t < k + 1)=>by
          rcases Nat.lt_or_ge t k with h | h
          . exact HSV.out t h
          . have e:t=k:=by omega
            subst e; exact hsv:∀ t,t < k + 1 -> m.X2v lim (t + 1)=true)
         clear hsv hb
         gi_wp2
         exact HKK.out _ _ (D :: Ds) hlt (by kernel_rfl) rfl ⟨rfl,hlt,HSV2.out,HMK2.out,HDL2.out,HX5W.out⟩
      case body =>
       rintro l j v W hj ⟨hb,hB,hmw⟩ hv;have hsz:=HXW'.out.size;have hxr5:Ext w5 W:=HXR.out.trans (Below.trans HXW'.out (hB.mono (by have:=HGB.out; omega)))
       have hlow:gs + 1 + 1 <= gb:=by have:=HZ5.out; have:=HXR.out.size; have:=HGB.out; omega
       have HK0:=hid (HK5.out.ext hxr5);have HK1:=hid (HI5.out.ext hxr5);have HX5W:=hid hxr5;have HBB:=hid hb;have HMW:=hid hmw;have HBW:=hid hB;have hcll:=X3w j tp;have hst:=Y3f m lim tp j;obtain ⟨cl,hcl⟩:∃ x,Q5u j tp=x:=⟨_,rfl⟩;rw [hcl] at hv hcll hst;have HOV:=hid hv;obtain ⟨Av,cv,rfl,-⟩:=hv.shape;have HKE:=hid (fun (w1:World) (hx:Ext W w1)=>Q8y w1 _ _ m lim cl (HM2.out w1 (hxr5.trans hx)) ((HOV.out.bools (by omega)).ext hx) (by omega) (by rw [hcll]; exact HOK.out tp (by have:=HTP.out; omega)))
       obtain ⟨kp,hkp⟩:∃ x,m.keeps lim cl=x:=⟨_,rfl⟩;rw [hkp] at hst HKE;obtain ⟨st,hstt⟩:∃ x,Q9u m lim tp j=x:=⟨_,rfl⟩;rw [hstt] at hst HBB;have HNX:=hid hst;have HSZW:Hid (gb + 1 + 1 <= W.heap.size):=hid (by have:=hB.size; omega)
       have hdr:=(Ext.refl W).drew;have hbwt:gb < W.heap.size:=by have:=HSZW.out; omega
       have HG1:=hid hlow;clear hv hcl hkp hstt hst hb hmw hsz hxr5 hcll hB;cases st with
       | true =>
         gi_wp2
         refine Flow.Y7w [.w,.p,.p,.w,.w,.p,.w,.p,.w,.p,.w,.p,.last] [0,1,2,3,4,5,6,7,8,9,10,11,12] [[],[0],[0,1],[0,1,2],[0,1],[0,1,2,3,4],[0,1,2,3,4,5],[0,1],[0,1,7],[0,1],[0,1,2,3,4,5,6,7,8,9],[0,1,2,3,4,5,6,7,8,9,10],[0,1,2,3,4,5,6,7,8,9,10,11]] [12]
          [.c 0 (.bool true),.c 1 (.bool true),.c 2 (undef),.c 3 (undef),.c 4 (undef),.c 5 (undef),.c 6 (undef),.c 7 (undef),.c 8 (undef),.c 9 (undef),.c 10 (undef),.c 11 (.bool true),.none]
          [fun v w1 w'=>w'=w1.setCell ⟨gb,0,none⟩ (.bool true)] (by kernel_rfl) (by kernel_rfl) rfl (by kernel_rfl) ⟨?g0,?g1,?g2,?g3,?g4,?g5,?g6,?g7,?g8,?g9,?g10,?g11,?g12,trivial⟩ ?post
         case g0=>
          intro v w1 hx;intro bb hbb;subst hbb;have n0:w1.cell? ⟨gb,0,none⟩=some (.bool true):=(HBB.out.ext (hdr.trans hx)).cell 0;intro K hK;go_simp;exact hK _ _ (Ext.refl _) rfl
         case g1 | g11=>
          intro v w1 hx;(repeat intro (zq:v _=_));intro bb hbb;subst hbb;refine ⟨_,fun w=>?_,rfl⟩;go_simp
         case g2 | g3 | g4 | g5 | g6 | g7 | g8 | g9 | g10=>
          intro v w1 hx;(repeat intro (zq:v _=_));intro bb hbb;exact Flow.Q1c (d:=33) rfl rfl (by rw [hbb]; simp only [size_put]; exact (by decide:33 < 50)) (by rw [hbb]; dsimp only; (try simp (discharger:=decide) only [eval_put_ne]); rw [Q0a (by simp only [size_put]; exact (by decide:33 < 50))]; assumption) rfl
         case g12=>
          intro v w1 hx;(repeat intro (zq:v _=_));intro wl hT;obtain rfl:wl=w1:=hT;intro bb hbb;intro K hK;have o1:bb.eval (.tmp 10)=.pointer (some ⟨gb,0,none⟩):=by rw [hbb]; dsimp only; (try simp (discharger:=decide) only [eval_put_ne]); rfl
          have o2:bb.eval (.tmp 43)=.bool true:=by rw [hbb]; dsimp only; (try simp (discharger:=decide) only [eval_put_ne]); rw [Q0a (by simp only [size_put]; exact (by decide:43 < 50))]; assumption
          exact Q3y (.tmp 10) (.tmp 43) rfl Tryz.Y7m o1 o2 rfl rfl (HBB.out.ext (hdr.trans hx)) Nat.zero_lt_one (fun vv=>hK _ _ rfl)
         case post =>
          intro v w1 hx;(iterate 12 intro (zq:v _=_));intro w2 hE;replace hE:(fun v w1 w'=>w'=w1.setCell ⟨gb,0,none⟩ (.bool true)) v w1 w2:=hE;simp only [Flow.acts,Act.put];go_simp;subst hE;have HX:=hid (hdr.trans hx);clear hx hdr;(repeat clear zq)
          gi_wp2
          exact ⟨(X4k HX.out).trans (KeepsOthers.setCell _ _ _),(Q2p _ _ _ _ (by show gb + 1 ≠ gb; omega)).trans (Below.block HX.out _ (by have:=HSZW.out; omega)),
           by rw [HNX.out]; exact (HBB.out.ext HX.out).set 0 _,(Below.trans HBW.out (HX.out.mono (by omega))).setCell (p:=⟨gb,0,none⟩) (Nat.le_refl _) _,(HMW.out.ext HX.out).keeps (KeepsOthers.setCell _ _ _)⟩
       | false =>
         gi_wp2
         refine Flow.Y7w [.w,.p,.p,.w,.w,.p,.w,.p,.w,.p,.w,.p,.last] [0,1,2,3,4,5,6,7,8,9,10,11,12] [[],[0],[0,1],[0,1,2],[0,1],[0,1,2,3,4],[0,1,2,3,4,5],[0,1],[0,1,7],[0,1],[0,1,2,3,4,5,6,7,8,9],[0,1,2,3,4,5,6,7,8,9,10],[0,1,2,3,4,5,6,7,8,9,10,11]] [12]
          [.c 0 (.bool false),.c 1 (.bool false),.c 2 (.pointer (some ⟨gs,2,none⟩)),.c 3 (.slice (some ⟨bm,off,none⟩) M capb),.c 4 (.int .i64 (i:Int)),.c 5 (.pointer (some ⟨bm,off + i * 5,none⟩)),.c 6 (.agg #[.string nm,.int .i64 wt,.slice X lc capx,.slice Y lo capy,.slice Z li capz]),.c 7 (.pointer (some ⟨gs,0,none⟩)),.c 8 (.int .i64 lim),.c 9 (.slice Av cl.length cv),.c 10 (.bool kp),.c 11 (.bool kp),.none]
          [fun v w1 w'=>w'=w1.setCell ⟨gb,0,none⟩ (.bool kp)] (by kernel_rfl) (by kernel_rfl) rfl (by kernel_rfl) ⟨?g0,?g1,?g2,?g3,?g4,?g5,?g6,?g7,?g8,?g9,?g10,?g11,?g12,trivial⟩ ?post
         case g0=>
          intro v w1 hx;intro bb hbb;subst hbb;have n0:w1.cell? ⟨gb,0,none⟩=some (.bool false):=(HBB.out.ext (hdr.trans hx)).cell 0;intro K hK;go_simp;exact hK _ _ (Ext.refl _) rfl
         case g1 | g11=>
          intro v w1 hx;(repeat intro (zq:v _=_));intro bb hbb;subst hbb;refine ⟨_,fun w=>?_,rfl⟩;go_simp
         case g2 | g5 | g7 | g9=>
          intro v w1 hx;(repeat intro (zq:v _=_));intro bb hbb;refine Flow.Q0l (d:=33) rfl rfl (by rw [hbb]; simp only [size_put]; exact (by decide:33 < 50)) (by rw [hbb]; dsimp only; (try simp (discharger:=decide) only [eval_put_ne]); rw [Q0a (by simp only [size_put]; exact (by decide:33 < 50))]; assumption) ?_
          subst hbb;refine ⟨_,fun w=>?_,rfl⟩;go_simp
         case g3 | g4 | g8=>
          intro v w1 hx;(repeat intro (zq:v _=_));intro bb hbb;refine Flow.Q0l (d:=33) rfl rfl (by rw [hbb]; simp only [size_put]; exact (by decide:33 < 50)) (by rw [hbb]; dsimp only; (try simp (discharger:=decide) only [eval_put_ne]); rw [Q0a (by simp only [size_put]; exact (by decide:33 < 50))]; assumption) ?_
          subst hbb;have n0:w1.cell? ⟨gs,2,none⟩=some (.slice (some ⟨bm,off,none⟩) M capb):=(HK0.out.ext (hdr.trans hx)).cell 2;have n1:w1.cell? ⟨gs + 1,0,none⟩=some (.int .i64 (i:Int)):=(HK1.out.ext (hdr.trans hx)).cell 0;have n2:w1.cell? ⟨gs,0,none⟩=some (.int .i64 lim):=(HK0.out.ext (hdr.trans hx)).cell 0;intro K hK;go_simp;exact hK _ _ (Ext.refl _) rfl
         case g6=>
          intro v w1 hx;(repeat intro (zq:v _=_));intro bb hbb;have f0:=(HX5W.out.trans (hdr.trans hx)).cell HE0.out;have f1:=(HX5W.out.trans (hdr.trans hx)).cell HE1'.out;have f2:=(HX5W.out.trans (hdr.trans hx)).cell HE2.out;have f3:=(HX5W.out.trans (hdr.trans hx)).cell HE3.out;have f4:=(HX5W.out.trans (hdr.trans hx)).cell HE4.out;refine Flow.Q0l (d:=33) rfl rfl (by rw [hbb]; simp only [size_put]; exact (by decide:33 < 50)) (by rw [hbb]; dsimp only; (try simp (discharger:=decide) only [eval_put_ne]); rw [Q0a (by simp only [size_put]; exact (by decide:33 < 50))]; assumption) ?_
          subst hbb;intro K hK;go_simp;exact hK _ _ (Ext.refl _) rfl
         case g10=>
          intro v w1 hx;(repeat intro (zq:v _=_));intro bb hbb;refine Flow.Q0l (d:=33) rfl rfl (by rw [hbb]; simp only [size_put]; exact (by decide:33 < 50)) (by rw [hbb]; dsimp only; (try simp (discharger:=decide) only [eval_put_ne]); rw [Q0a (by simp only [size_put]; exact (by decide:33 < 50))]; assumption) ?_
          subst hbb;intro K hK;go_simp;refine Q0e (HKE.out w1 (hdr.trans hx)) ?_;rintro e w2 ⟨rfl,hx2⟩;exact ⟨_,rfl,hK _ _ hx2 rfl⟩
         case g12=>
          intro v w1 hx;(repeat intro (zq:v _=_));intro wl hT;obtain rfl:wl=w1:=hT;intro bb hbb;intro K hK;have o1:bb.eval (.tmp 10)=.pointer (some ⟨gb,0,none⟩):=by rw [hbb]; dsimp only; (try simp (discharger:=decide) only [eval_put_ne]); rfl
          have o2:bb.eval (.tmp 43)=.bool kp:=by rw [hbb]; dsimp only; (try simp (discharger:=decide) only [eval_put_ne]); rw [Q0a (by simp only [size_put]; exact (by decide:43 < 50))]; assumption
          exact Q3y (.tmp 10) (.tmp 43) rfl Tryz.Y7m o1 o2 rfl rfl (HBB.out.ext (hdr.trans hx)) Nat.zero_lt_one (fun vv=>hK _ _ rfl)
         case post =>
          intro v w1 hx;(iterate 12 intro (zq:v _=_));intro w2 hE;replace hE:(fun v w1 w'=>w'=w1.setCell ⟨gb,0,none⟩ (.bool kp)) v w1 w2:=hE;simp only [Flow.acts,Act.put];go_simp;subst hE;have HX:=hid (hdr.trans hx);clear hx hdr;(repeat clear zq)
          gi_wp2
          exact ⟨(X4k HX.out).trans (KeepsOthers.setCell _ _ _),(Q2p _ _ _ _ (by show gb + 1 ≠ gb; omega)).trans (Below.block HX.out _ (by have:=HSZW.out; omega)),
           by rw [HNX.out]; exact (HBB.out.ext HX.out).set 0 _,(Below.trans HBW.out (HX.out.mono (by omega))).setCell (p:=⟨gb,0,none⟩) (Nat.le_refl _) _,(HMW.out.ext HX.out).keeps (KeepsOthers.setCell _ _ _)⟩
    . have hkI:¬ (k:Int) < T:=by omega
      have hkT:k=T:=by omega
      subst hkT;clear hxr
      gi_wp2_with fail
      have hdn:Q7o s i=none:=HDN.out HSV.out;change LeavesInM Fence.wide 9 Tryz.prog Tryz.f41 _ _ (marks Ds) _ _;refine Q4x (n0:=w.heap.size) (fun W=>Ext w W) (fun A B h ht=>Below.trans h (ht.below (Nat.le_refl _))) ?_ Ds _ HMK.out (fun D h=>Nat.le_trans HX5.out.size (HDL.out D h)) (HX5.out.trans HXR.out);intro W hW;exact ⟨_,results_tmp2 rfl _ _ _,by rw [HDT.out,HDE.out,hdn]; rfl,hW⟩
  . have HFB:Hid (X4a s n=0):=hid (if_neg he)
    have HFE:Hid (X5q s n=Q5j s n):=hid (if_neg he);have hne:(Q5j s n != 0)=true:=by simp [he]
    clear he
    gi_wp2
    change LeavesInM Fence.wide 9 Tryz.prog Tryz.f41 _ _ (marks []) _ _;refine Q4x (n0:=w.heap.size) (fun W=>Ext w W) (fun A B h ht=>Below.trans h (ht.below (Nat.le_refl _))) ?_ [] _ (Marked.nil _) (fun D h=>absurd h List.not_mem_nil) HX5.out;intro W hW;exact ⟨_,results_tmp2 rfl _ _ _,by rw [HFB.out,HFE.out]; rfl,hW⟩
end Go.Proofs
