/- The walk through FaultMerged from region 28 on: the merged trees. -/
import Derived.Test.YtgopmebjbkdfgaaGreatDoorMz40
import Derived.Deep.DeepCutAuto
set_option maxRecDepth 1000000
set_option maxHeartbeats 64000000
set_option linter.unusedVariables false
set_option linter.unusedSimpArgs false
set_option linter.constructorNameAsVariable false
namespace Go.Proofs
open Go.RowKit Go.Tw Go.Flow
attribute [local go_sem ↓] Q8m Q7e X0e
theorem J3f (W0 WB:World) (t o M1 M2:Tree) (A B G:Option Addr) (capa capb capg gT:Nat) (g11 g13 g19 g21 l1 l2 c1 c2 capA5 capB5 capG5 capA6 capB6 capG6 nn:Nat) (A1 A2 A5 B5 G5 A6 B6 G6:Option Addr) (xn xd yn yd:Int) (hn:nn < 256) (he:t.err = 0) (hf:Few t) (hsz:t.size <= 5) (ht:Q3u WB (.slice A t.basics.length capa) (.slice B t.causes.length capb) (.slice G t.gates.length capg) t) (k0:Blk WB gT 26 #[.slice A t.basics.length capa,.slice B t.causes.length capb,.slice G t.gates.length capg]) (hx0:Ext W0 WB) (hmo:X9s t o) (hpx:Q9j t t.Q0b = ⟨xn,xd⟩) (hpy:Q9j o o.Q0b = ⟨yn,yd⟩) (hl1:(t.sets false).length = l1) (hl2:(o.sets false).length = l2) (hm1:Q0k t o Q4v = M1) (hm2:Q0k t o sOr = M2) (k11:Blk WB g11 52 #[.int .i64 xn,.int .i64 xd]) (k13:Blk WB g13 52 #[.int .i64 yn,.int .i64 yd]) (k19:Blk WB g19 33 #[.slice A5 M1.basics.length capA5,.slice B5 M1.causes.length capB5,.slice G5 M1.gates.length capG5]) (ht1:Q3u WB (.slice A5 M1.basics.length capA5) (.slice B5 M1.causes.length capB5) (.slice G5 M1.gates.length capG5) M1) (k21:Blk WB g21 33 #[.slice A6 M2.basics.length capA6,.slice B6 M2.causes.length capB6,.slice G6 M2.gates.length capG6]) (ht2:Q3u WB (.slice A6 M2.basics.length capA6) (.slice B6 M2.causes.length capB6) (.slice G6 M2.gates.length capG6) M2) (hT:Tab WB) (F:Array Value) (hF:F.size = 364) (f2:F[2]? = some (.int .u8 nn)) (f3:F[3]? = some (.pointer (some ⟨gT,0,none⟩))) (f11:F[11]? = some (.pointer (some ⟨g11,0,none⟩))) (f13:F[13]? = some (.pointer (some ⟨g13,0,none⟩))) (f15:F[15]? = some (.slice A1 l1 c1)) (f17:F[17]? = some (.slice A2 l2 c2)) (f19:F[19]? = some (.pointer (some ⟨g19,0,none⟩))) (f21:F[21]? = some (.pointer (some ⟨g21,0,none⟩))) :
    (codeFrom Tryz.f4 28).wp Tryz.prog (bodyPost Tryz.prog Tryz.f4 (fun e w'=>e = .returned (.bool true) /\ Ext W0 w')) ⟨F,[]⟩ WB:=by
 obtain ⟨u,rfl⟩:=Z0s hF;replace f2:u 2 = _:=Option.some.inj f2;replace f3:u 3 = _:=Option.some.inj f3;replace f11:u 11 = _:=Option.some.inj f11;replace f13:u 13 = _:=Option.some.inj f13;replace f15:u 15 = _:=Option.some.inj f15;replace f17:u 17 = _:=Option.some.inj f17;replace f19:u 19 = _:=Option.some.inj f19;replace f21:u 21 = _:=Option.some.inj f21;rw [f2,f3,f11,f13,f15,f17,f19,f21];clear hF f2 f3 f11 f13 f15 f17 f19 f21
 conv=>arg 2; whnf
 have HE:=Lib.hid he;have HF:=Lib.hid hf;have HSZ:=Lib.hid hsz;have HT:=Lib.hid ht;have K0:=Lib.hid k0;have HMO:=Lib.hid hmo;have HPX:=Lib.hid hpx;have HPY:=Lib.hid hpy;have HL1:=Lib.hid hl1;have HL2:=Lib.hid hl2;have HM1:=Lib.hid hm1;have HM2:=Lib.hid hm2;have K11:=Lib.hid k11;have K13:=Lib.hid k13;have K19:=Lib.hid k19;have HD1:=Lib.hid ht1;have K21:=Lib.hid k21;have HD2:=Lib.hid ht2;have HTAB:=Lib.hid hT;have HW0:=Lib.hid hx0;have HV:=Lib.hid (Valid.of he);have HX:=Lib.hid (Ext.refl WB);obtain ⟨_,_,he1,_,hcap1,_⟩:=ht.basics.opened;cases he1;obtain ⟨_,_,he1,_,hcap2,_⟩:=ht.causes.opened;cases he1;obtain ⟨_,_,he1,_,hcap3,_⟩:=ht.gates.opened;cases he1;clear hx0 he hf ht k0 hmo hpx hpy hl1 hl2 hm1 hm2 k11 k13 k19 ht1 k21 ht2 hT;obtain ⟨⟨un,ud⟩,hu⟩:∃ r,Q9j M1 M1.Q0b = r:=⟨_,rfl⟩;obtain ⟨⟨vn,vd⟩,hv⟩:∃ r,Q9j M2 M2.Q0b = r:=⟨_,rfl⟩;have HMF:Hid (J6r xn xd yn yd un ud vn vd):=Lib.hid (J7l HMO.out HPX.out HPY.out (by rw [HM1.out]; exact hu) (by rw [HM2.out]; exact hv))
 have HU1:=Lib.hid hu;have HU2:=Lib.hid hv;have HE1:Hid (M1.err = 0):=Lib.hid (by rw [<- HM1.out]; exact HMO.out.err (.inl rfl))
 have HE2:Hid (M2.err = 0):=Lib.hid (by rw [<- HM2.out]; exact HMO.out.err (.inr rfl))
 have HL3:Hid ((M1.sets false).length = l1 * l2):=Lib.hid (by rw [<- HM1.out,<- HL1.out,<- HL2.out]; exact J1g (Valid.of HMO.out.ea) (Valid.of HMO.out.eo) (Valid.of (HMO.out.err (.inl rfl))))
 have HL4:Hid ((M2.sets false).length = l1 + l2):=Lib.hid (by rw [<- HM2.out,<- HL1.out,<- HL2.out]; exact J3q (Valid.of HMO.out.ea) (Valid.of HMO.out.eo) (Valid.of (HMO.out.err (.inr rfl))))
 have hb1:l1 <= 35:=by rw [<- HL1.out]; exact (Y3w (by have:=HMO.out.sa; omega) false).1
 have hb2:l2 <= 35:=by rw [<- HL2.out]; exact (Y3w (by have:=HMO.out.so; omega) false).1
 have hb3:l1 * l2 <= 1225:=Nat.mul_le_mul hb1 hb2;clear hu hv hsz;have k19_0:=K19.out.cell 0;have k19_1:=K19.out.cell 1;have k19_2:=K19.out.cell 2;simp only [Go.Tw.gA,Go.Tw.gB,Go.Tw.gC] at k19_0 k19_1 k19_2;go_wp2_with fail;clear k19_0 k19_1 k19_2;refine (X4m _ _ M1 un ud HE1.out HU1.out ⟨_,_,_,rfl,HD1.out⟩).mono ?_;rintro e w1 ⟨rfl,hx⟩;have hxx:Ext WB w1:=hx;replace HX:=Lib.hid (HX.out.trans hxx);replace HT:=Lib.hid (HT.out.ext hxx);replace K0:=Lib.hid (K0.out.ext hxx);replace K11:=Lib.hid (K11.out.ext hxx);replace K13:=Lib.hid (K13.out.ext hxx);replace K19:=Lib.hid (K19.out.ext hxx);replace HD1:=Lib.hid (HD1.out.ext hxx);replace K21:=Lib.hid (K21.out.ext hxx);replace HD2:=Lib.hid (HD2.out.ext hxx);replace HTAB:=Lib.hid (HTAB.out.ext hxx);clear hx hxx;have k21_0:=(K21.out.ext (Ext.box w1 (.cells #[.int .i64 un,.int .i64 ud] 52))).cell 0;have k21_1:=(K21.out.ext (Ext.box w1 (.cells #[.int .i64 un,.int .i64 ud] 52))).cell 1;have k21_2:=(K21.out.ext (Ext.box w1 (.cells #[.int .i64 un,.int .i64 ud] 52))).cell 2;simp only [Go.Tw.gA,Go.Tw.gB,Go.Tw.gC] at k21_0 k21_1 k21_2;go_wp2_with fail;clear k21_0 k21_1 k21_2;change Calls _ _ _ (w1.alloc (.cells #[.int .i64 un,.int .i64 ud] 52)) _;obtain ⟨W,hWW,k0,HXW,eW⟩:=Q3j w1 52 #[.int .i64 un,.int .i64 ud];rw [hWW];clear hWW;refine (X4m _ _ M2 vn vd HE2.out HU2.out ⟨_,_,_,rfl,HD2.out.ext HXW.out⟩).mono ?_;rintro e w2 ⟨rfl,hx⟩;have hxx:Ext w1 w2:=HXW.out.trans hx;replace HX:=Lib.hid (HX.out.trans hxx);replace HT:=Lib.hid (HT.out.ext hxx);replace K0:=Lib.hid (K0.out.ext hxx);replace K11:=Lib.hid (K11.out.ext hxx);replace K13:=Lib.hid (K13.out.ext hxx);replace K19:=Lib.hid (K19.out.ext hxx);replace HD1:=Lib.hid (HD1.out.ext hxx);replace K21:=Lib.hid (K21.out.ext hxx);replace HD2:=Lib.hid (HD2.out.ext hxx);replace HTAB:=Lib.hid (HTAB.out.ext hxx);have K23:=Lib.hid (k0.ext hx);clear hx hxx HXW eW k0;obtain ⟨g23,hg23⟩:∃ g,w1.heap.size = g:=⟨_,rfl⟩;rw [hg23] at K23 ⊢;clear hg23;have k19_0:=(K19.out.ext (Ext.box w2 (.cells #[.int .i64 vn,.int .i64 vd] 52))).cell 0;have k19_1:=(K19.out.ext (Ext.box w2 (.cells #[.int .i64 vn,.int .i64 vd] 52))).cell 1;have k19_2:=(K19.out.ext (Ext.box w2 (.cells #[.int .i64 vn,.int .i64 vd] 52))).cell 2;simp only [Go.Tw.gA,Go.Tw.gB,Go.Tw.gC] at k19_0 k19_1 k19_2;go_wp2_with fail;clear k19_0 k19_1 k19_2;change Calls _ _ _ (w2.alloc (.cells #[.int .i64 vn,.int .i64 vd] 52)) _;obtain ⟨W,hWW,k0,HXW,eW⟩:=Q3j w2 52 #[.int .i64 vn,.int .i64 vd];rw [hWW];clear hWW;refine (J0b _ _ M1 false HE1.out ⟨_,_,_,rfl,HD1.out.ext HXW.out⟩ (HTAB.out.ext HXW.out)).mono ?_;rintro e w3 ⟨xs,rfl,hs,hx⟩;have hxx:Ext w2 w3:=HXW.out.trans hx;replace HX:=Lib.hid (HX.out.trans hxx);replace HT:=Lib.hid (HT.out.ext hxx);replace K0:=Lib.hid (K0.out.ext hxx);replace K11:=Lib.hid (K11.out.ext hxx);replace K13:=Lib.hid (K13.out.ext hxx);replace K19:=Lib.hid (K19.out.ext hxx);replace HD1:=Lib.hid (HD1.out.ext hxx);replace K21:=Lib.hid (K21.out.ext hxx);replace HD2:=Lib.hid (HD2.out.ext hxx);replace HTAB:=Lib.hid (HTAB.out.ext hxx);replace K23:=Lib.hid (K23.out.ext hxx);have K25:=Lib.hid (k0.ext hx);obtain ⟨A3,c3,rfl,_,_,_⟩:=hs.opened;clear hs;clear hx hxx HXW eW k0;obtain ⟨g25,hg25⟩:∃ g,w2.heap.size = g:=⟨_,rfl⟩;rw [hg25] at K25 ⊢;clear hg25;obtain ⟨n3,hn3⟩:∃ n,(M1.sets false).length = n:=⟨_,rfl⟩;rw [hn3];have HN3:=Lib.hid (hn3.symm.trans HL3.out);clear hn3;have k21_0:=K21.out.cell 0;have k21_1:=K21.out.cell 1;have k21_2:=K21.out.cell 2;simp only [Go.Tw.gA,Go.Tw.gB,Go.Tw.gC] at k21_0 k21_1 k21_2;go_wp2_with fail;clear k21_0 k21_1 k21_2;refine (J0b _ _ M2 false HE2.out ⟨_,_,_,rfl,HD2.out⟩ HTAB.out).mono ?_;rintro e w4 ⟨xs,rfl,hs,hx⟩;have hxx:Ext w3 w4:=hx;replace HX:=Lib.hid (HX.out.trans hxx);replace HT:=Lib.hid (HT.out.ext hxx);replace K0:=Lib.hid (K0.out.ext hxx);replace K11:=Lib.hid (K11.out.ext hxx);replace K13:=Lib.hid (K13.out.ext hxx);replace K19:=Lib.hid (K19.out.ext hxx);replace HD1:=Lib.hid (HD1.out.ext hxx);replace K21:=Lib.hid (K21.out.ext hxx);replace HD2:=Lib.hid (HD2.out.ext hxx);replace HTAB:=Lib.hid (HTAB.out.ext hxx)
 replace K23:=Lib.hid (K23.out.ext hxx);replace K25:=Lib.hid (K25.out.ext hxx);obtain ⟨A4,c4,rfl,_,_,_⟩:=hs.opened;clear hs;clear hx hxx;obtain ⟨n4,hn4⟩:∃ n,(M2.sets false).length = n:=⟨_,rfl⟩;rw [hn4];have HN4:=Lib.hid (hn4.symm.trans HL4.out);clear hn4;go_upto_region 32 with fail;have HPR:=Lib.hid (J7p HMF.out);have HLO1:Hid (∀ w,Calls Tryz.prog 22 #[.int .i64 (xn * yn),.int .i64 (xd * yd)] w fun e w'=>e = .returned (.agg #[.int .i64 un,.int .i64 ud]) /\ Ext w w'):=by
  refine Lib.hid fun w=>?_;have h:=Y0q w _ _ HPR.out.a1.1 HPR.out.a1.2 HPR.out.a2.1 HPR.out.a2.2;rw [HMF.out.band] at h;exact h
 have HLO2:Hid (∀ w,Calls Tryz.prog 22 #[.int .i64 (xd * yd - (xd - xn) * (yd - yn)),.int .i64 (xd * yd)] w fun e w'=>e = .returned (.agg #[.int .i64 vn,.int .i64 vd]) /\ Ext w w'):=by
  refine Lib.hid fun w=>?_;have h:=Y0q w _ _ HPR.out.a3.1 HPR.out.a3.2 HPR.out.a2.1 HPR.out.a2.2;rw [HMF.out.bor] at h;exact h
 obtain ⟨_,_,_,y1,y2,y3,y4,y5,y6⟩:=HPR.out;have hn3I:(n3:Int) = (l1:Int) * (l2:Int):=by rw [HN3.out]; exact Int.natCast_mul l1 l2
 have hn4I:(n4:Int) = (l1:Int) + (l2:Int):=by rw [HN4.out]; exact Int.natCast_add l1 l2
 have y7:IntKind.i64.wrap ((l1:Int) * (l2:Int)) = (l1:Int) * (l2:Int):=by rw [<- hn3I]; exact wrap_in (by omega) (by have:=HN3.out; omega)
 have y8:IntKind.i64.wrap ((l1:Int) + (l2:Int)) = (l1:Int) + (l2:Int):=wrap_in (by omega) (by omega)
 have y9:((n3:Int) != (l1:Int) * (l2:Int)) = false:=by rw [hn3I]; simp
 have y10:((n4:Int) != (l1:Int) + (l2:Int)) = false:=by rw [hn4I]; simp
 clear HPR hn3I hn4I hb3;have hdr:=(Ext.refl w4).drew;refine Flow.Q3o [.p,.p,.p,.p,.p,.p,.p,.p,.p,.p,.p,.p,.p,.p,.p,.w,.p,.w,.p,.w,.p,.p,.w,.p,.w,.p,.w,.p,.p,.p,.w,.p,.w,.p,.w,.p,.p,.w,.p,.w,.p,.p,.w,.p,.w,.p,.p,.p,.p,.w,.p,.w,.p,.w,.p,.p,.p,.p,.p,.p,.p,.p,.p,.p,.p,.p,.p,.p,.p,.p,.p,.p,.p,.p,.p,.p] [0,1,2,3,4,5,6,7,8,9,10,11,12,13,14,15,16,17,18,19,20,21,22,23,24,25,26,27,28,29,30,31,32,33,34,35,36,37,38,39,40,41,42,43,44,45,46,47,48,49,50,51,52,53,54,55,56,57,58,59,60,61,62,63,64,65,66,67,68,69,70,71,72,73,74,75] [[],[0],[1],[2],[2,3],[2,4],[2,5],[6],[6,7],[6,8],[6,9],[10],[10,11],[10,12],[10,13],[14],[14],[14,16],[14],[14,18],[14,17,19],[14],[14,21],[14],[14,23],[14,22,24],[14,20,25],[14,15,26],[14,27],[26,28],[29],[29],[29,31],[29],[29,33],[29,32,34],[29],[29,36],[29],[29,38],[29,37,39],[29],[29,41],[29],[29,43],[29,42,44],[29,40,45],[29,35,46],[29],[29,48],[29],[29,50],[29,49,51],[29,47,52],[29,30,53],[29,54],[53,55],[56],[56,57],[56],[56,59],[56],[56,61],[56,60,62],[56,58,63],[56,64],[56,65],[66],[66,67],[66],[66,69],[66],[66,71],[66,70,72],[66,68,73],[66,74]]
  [.c 0 (.int .i64 0),.c 1 (.bool false),.c 2 (.bool false),.c 3 (.int .i64 0),.c 4 (.bool false),.c 5 (.bool false),.c 6 (.bool false),.c 7 (.int .i64 0),.c 8 (.bool false),.c 9 (.bool false),.c 10 (.bool false),.c 11 (.int .i64 0),.c 12 (.bool false),.c 13 (.bool false),.c 14 (.bool false),.c 15 (.agg #[.int .i64 un,.int .i64 ud]),.c 16 (.pointer (some ⟨g11,0,none⟩)),.c 17 (.int .i64 xn),.c 18 (.pointer (some ⟨g13,0,none⟩)),.c 19 (.int .i64 yn),.c 20 (.int .i64 (xn * yn)),.c 21 (.pointer (some ⟨g11,1,none⟩)),.c 22 (.int .i64 xd),.c 23 (.pointer (some ⟨g13,1,none⟩)),.c 24 (.int .i64 yd),.c 25 (.int .i64 (xd * yd)),.c 26 (.agg #[.int .i64 un,.int .i64 ud]),.c 27 (.bool false),.c 28 (.bool false),.c 29 (.bool false),.c 30 (.agg #[.int .i64 vn,.int .i64 vd]),.c 31 (.pointer (some ⟨g11,1,none⟩)),.c 32 (.int .i64 xd),.c 33 (.pointer (some ⟨g13,1,none⟩)),.c 34 (.int .i64 yd),.c 35 (.int .i64 (xd * yd)),.c 36 (.pointer (some ⟨g11,1,none⟩)),.c 37 (.int .i64 xd),.c 38 (.pointer (some ⟨g11,0,none⟩)),.c 39 (.int .i64 xn),.c 40 (.int .i64 (xd - xn)),.c 41 (.pointer (some ⟨g13,1,none⟩)),.c 42 (.int .i64 yd),.c 43 (.pointer (some ⟨g13,0,none⟩)),.c 44 (.int .i64 yn),.c 45 (.int .i64 (yd - yn)),.c 46 (.int .i64 ((xd - xn) * (yd - yn))),.c 47 (.int .i64 (xd * yd - (xd - xn) * (yd - yn))),.c 48 (.pointer (some ⟨g11,1,none⟩)),.c 49 (.int .i64 xd),.c 50 (.pointer (some ⟨g13,1,none⟩)),.c 51 (.int .i64 yd),.c 52 (.int .i64 (xd * yd)),.c 53 (.agg #[.int .i64 vn,.int .i64 vd]),.c 54 (.bool false),.c 55 (.bool false),.c 56 (.bool false),.c 57 (.slice A3 n3 c3),.c 58 (.int .i64 ((n3:Nat):Int)),.c 59 (.slice A1 l1 c1),.c 60 (.int .i64 ((l1:Nat):Int)),.c 61 (.slice A2 l2 c2),.c 62 (.int .i64 ((l2:Nat):Int)),.c 63 (.int .i64 ((l1:Int) * (l2:Int))),.c 64 (.bool false),.c 65 (.bool false),.c 66 (.bool false),.c 67 (.slice A4 n4 c4),.c 68 (.int .i64 ((n4:Nat):Int)),.c 69 (.slice A1 l1 c1),.c 70 (.int .i64 ((l1:Nat):Int)),.c 71 (.slice A2 l2 c2),.c 72 (.int .i64 ((l2:Nat):Int)),.c 73 (.int .i64 ((l1:Int) + (l2:Int))),.c 74 (.bool false),.c 75 (.bool false)]
  (by kernel_rfl) rfl (by kernel_rfl) ?owed ?post
 case owed =>
  refine ⟨?g0,?g1,?g2,?g3,?g4,?g5,?g6,?g7,?g8,?g9,?g10,?g11,?g12,?g13,?g14,?g15,?g16,?g17,?g18,?g19,?g20,?g21,?g22,?g23,?g24,?g25,?g26,?g27,?g28,?g29,?g30,?g31,?g32,?g33,?g34,?g35,?g36,?g37,?g38,?g39,?g40,?g41,?g42,?g43,?g44,?g45,?g46,?g47,?g48,?g49,?g50,?g51,?g52,?g53,?g54,?g55,?g56,?g57,?g58,?g59,?g60,?g61,?g62,?g63,?g64,?g65,?g66,?g67,?g68,?g69,?g70,?g71,?g72,?g73,?g74,?g75,trivial⟩
  case g0=>
   as_aux_lemma =>
   intro v w1 hx;intro bb hbb;have fo0:bb.eval (.tmp 24) = .int .i64 0:=by rw [hbb]; dsimp only; (try simp (discharger:=decide) only [Flow.eval_put_ne,Flow.Q0c]); rfl
   clear hbb;refine ⟨_,fun w=>?_,rfl⟩;unfold execOp;simp only [fo0];clear fo0;go_simp
  case g1=>
   as_aux_lemma =>
   intro v w1 hx;(repeat intro (zq:v _ = _));intro bb hbb;have fo0:bb.eval (.tmp 241) = .int .i64 0:=by rw [hbb]; dsimp only; (try simp (discharger:=decide) only [Flow.eval_put_ne,Flow.Q0c]); rw [Flow.Q0a (by simp only [Flow.size_put]; exact (by decide:241 < 364))]; assumption
   clear hbb;refine ⟨_,fun w=>?_,rfl⟩;unfold execOp;simp only [fo0];clear fo0;go_simp
  case g2=>
   as_aux_lemma =>
   intro v w1 hx;(repeat intro (zq:v _ = _));intro bb hbb;have fo0:bb.eval (.tmp 242) = .bool false:=by rw [hbb]; dsimp only; (try simp (discharger:=decide) only [Flow.eval_put_ne,Flow.Q0c]); rw [Flow.Q0a (by simp only [Flow.size_put]; exact (by decide:242 < 364))]; assumption
   clear hbb;refine ⟨_,fun w=>?_,rfl⟩;unfold execOp;simp only [fo0];clear fo0;go_simp
  case g3=>
   as_aux_lemma =>
   intro v w1 hx;(repeat intro (zq:v _ = _));intro bb hbb;refine Flow.Q0h (d:=243) rfl rfl (by rw [hbb]; simp only [size_put]; exact (by decide:243 < 364)) (by rw [hbb]; dsimp only; (try simp (discharger:=decide) only [eval_put_ne]); rw [Q0a (by simp only [size_put]; exact (by decide:243 < 364))]; assumption) ?_
   have fo0:bb.eval (.tmp 26) = .int .i64 0:=by rw [hbb]; dsimp only; (try simp (discharger:=decide) only [Flow.eval_put_ne,Flow.Q0c]); rfl
   clear hbb;refine ⟨_,fun w=>?_,rfl⟩;unfold execOp;simp only [fo0];clear fo0;go_simp
  case g4=>
   as_aux_lemma =>
   intro v w1 hx;(repeat intro (zq:v _ = _));intro bb hbb;refine Flow.Q0h (d:=243) rfl rfl (by rw [hbb]; simp only [size_put]; exact (by decide:243 < 364)) (by rw [hbb]; dsimp only; (try simp (discharger:=decide) only [eval_put_ne]); rw [Q0a (by simp only [size_put]; exact (by decide:243 < 364))]; assumption) ?_
   have fo0:bb.eval (.tmp 244) = .int .i64 0:=by rw [hbb]; dsimp only; (try simp (discharger:=decide) only [Flow.eval_put_ne,Flow.Q0c]); rw [Flow.Q0a (by simp only [Flow.size_put]; exact (by decide:244 < 364))]; assumption
   clear hbb;refine ⟨_,fun w=>?_,rfl⟩;unfold execOp;simp only [fo0];clear fo0;go_simp
  case g5=>
   as_aux_lemma =>
   intro v w1 hx;(repeat intro (zq:v _ = _));intro bb hbb;have fo0:bb.eval (.tmp 243) = .bool false:=by rw [hbb]; dsimp only; (try simp (discharger:=decide) only [Flow.eval_put_ne,Flow.Q0c]); rw [Flow.Q0a (by simp only [Flow.size_put]; exact (by decide:243 < 364))]; assumption
   have fo1:bb.eval (.tmp 245) = .bool false:=by rw [hbb]; dsimp only; (try simp (discharger:=decide) only [Flow.eval_put_ne,Flow.Q0c]); rw [Flow.Q0a (by simp only [Flow.size_put]; exact (by decide:245 < 364))]; assumption
   clear hbb;refine ⟨_,fun w=>?_,rfl⟩;unfold execOp;simp only [fo0,fo1];clear fo0 fo1;go_simp
  case g6=>
   as_aux_lemma =>
   intro v w1 hx;(repeat intro (zq:v _ = _));intro bb hbb;have fo0:bb.eval (.tmp 246) = .bool false:=by rw [hbb]; dsimp only; (try simp (discharger:=decide) only [Flow.eval_put_ne,Flow.Q0c]); rw [Flow.Q0a (by simp only [Flow.size_put]; exact (by decide:246 < 364))]; assumption
   clear hbb;refine ⟨_,fun w=>?_,rfl⟩;unfold execOp;simp only [fo0];clear fo0;go_simp
  case g7=>
   as_aux_lemma =>
   intro v w1 hx;(repeat intro (zq:v _ = _));intro bb hbb;refine Flow.Q0h (d:=247) rfl rfl (by rw [hbb]; simp only [size_put]; exact (by decide:247 < 364)) (by rw [hbb]; dsimp only; (try simp (discharger:=decide) only [eval_put_ne]); rw [Q0a (by simp only [size_put]; exact (by decide:247 < 364))]; assumption) ?_
   have fo0:bb.eval (.tmp 28) = .int .i64 0:=by rw [hbb]; dsimp only; (try simp (discharger:=decide) only [Flow.eval_put_ne,Flow.Q0c]); rfl
   clear hbb;refine ⟨_,fun w=>?_,rfl⟩;unfold execOp;simp only [fo0];clear fo0;go_simp
  case g8=>
   as_aux_lemma =>
   intro v w1 hx;(repeat intro (zq:v _ = _));intro bb hbb;refine Flow.Q0h (d:=247) rfl rfl (by rw [hbb]; simp only [size_put]; exact (by decide:247 < 364)) (by rw [hbb]; dsimp only; (try simp (discharger:=decide) only [eval_put_ne]); rw [Q0a (by simp only [size_put]; exact (by decide:247 < 364))]; assumption) ?_
   have fo0:bb.eval (.tmp 248) = .int .i64 0:=by rw [hbb]; dsimp only; (try simp (discharger:=decide) only [Flow.eval_put_ne,Flow.Q0c]); rw [Flow.Q0a (by simp only [Flow.size_put]; exact (by decide:248 < 364))]; assumption
   clear hbb;refine ⟨_,fun w=>?_,rfl⟩;unfold execOp;simp only [fo0];clear fo0;go_simp
  case g9=>
   as_aux_lemma =>
   intro v w1 hx;(repeat intro (zq:v _ = _));intro bb hbb;have fo0:bb.eval (.tmp 247) = .bool false:=by rw [hbb]; dsimp only; (try simp (discharger:=decide) only [Flow.eval_put_ne,Flow.Q0c]); rw [Flow.Q0a (by simp only [Flow.size_put]; exact (by decide:247 < 364))]; assumption
   have fo1:bb.eval (.tmp 249) = .bool false:=by rw [hbb]; dsimp only; (try simp (discharger:=decide) only [Flow.eval_put_ne,Flow.Q0c]); rw [Flow.Q0a (by simp only [Flow.size_put]; exact (by decide:249 < 364))]; assumption
   clear hbb;refine ⟨_,fun w=>?_,rfl⟩;unfold execOp;simp only [fo0,fo1];clear fo0 fo1;go_simp
  case g10=>
   as_aux_lemma =>
   intro v w1 hx;(repeat intro (zq:v _ = _));intro bb hbb;have fo0:bb.eval (.tmp 250) = .bool false:=by rw [hbb]; dsimp only; (try simp (discharger:=decide) only [Flow.eval_put_ne,Flow.Q0c]); rw [Flow.Q0a (by simp only [Flow.size_put]; exact (by decide:250 < 364))]; assumption
   clear hbb;refine ⟨_,fun w=>?_,rfl⟩;unfold execOp;simp only [fo0];clear fo0;go_simp
  case g11=>
   as_aux_lemma =>
   intro v w1 hx;(repeat intro (zq:v _ = _));intro bb hbb;refine Flow.Q0h (d:=251) rfl rfl (by rw [hbb]; simp only [size_put]; exact (by decide:251 < 364)) (by rw [hbb]; dsimp only; (try simp (discharger:=decide) only [eval_put_ne]); rw [Q0a (by simp only [size_put]; exact (by decide:251 < 364))]; assumption) ?_
   have fo0:bb.eval (.tmp 30) = .int .i64 0:=by rw [hbb]; dsimp only; (try simp (discharger:=decide) only [Flow.eval_put_ne,Flow.Q0c]); rfl
   clear hbb;refine ⟨_,fun w=>?_,rfl⟩;unfold execOp;simp only [fo0];clear fo0;go_simp
  case g12=>
   as_aux_lemma =>
   intro v w1 hx;(repeat intro (zq:v _ = _));intro bb hbb;refine Flow.Q0h (d:=251) rfl rfl (by rw [hbb]; simp only [size_put]; exact (by decide:251 < 364)) (by rw [hbb]; dsimp only; (try simp (discharger:=decide) only [eval_put_ne]); rw [Q0a (by simp only [size_put]; exact (by decide:251 < 364))]; assumption) ?_
   have fo0:bb.eval (.tmp 252) = .int .i64 0:=by rw [hbb]; dsimp only; (try simp (discharger:=decide) only [Flow.eval_put_ne,Flow.Q0c]); rw [Flow.Q0a (by simp only [Flow.size_put]; exact (by decide:252 < 364))]; assumption
   clear hbb;refine ⟨_,fun w=>?_,rfl⟩;unfold execOp;simp only [fo0];clear fo0;go_simp
  case g13=>
   as_aux_lemma =>
   intro v w1 hx;(repeat intro (zq:v _ = _));intro bb hbb;have fo0:bb.eval (.tmp 251) = .bool false:=by rw [hbb]; dsimp only; (try simp (discharger:=decide) only [Flow.eval_put_ne,Flow.Q0c]); rw [Flow.Q0a (by simp only [Flow.size_put]; exact (by decide:251 < 364))]; assumption
   have fo1:bb.eval (.tmp 253) = .bool false:=by rw [hbb]; dsimp only; (try simp (discharger:=decide) only [Flow.eval_put_ne,Flow.Q0c]); rw [Flow.Q0a (by simp only [Flow.size_put]; exact (by decide:253 < 364))]; assumption
   clear hbb;refine ⟨_,fun w=>?_,rfl⟩;unfold execOp;simp only [fo0,fo1];clear fo0 fo1;go_simp
  case g14=>
   as_aux_lemma =>
   intro v w1 hx;(repeat intro (zq:v _ = _));intro bb hbb;have fo0:bb.eval (.tmp 254) = .bool false:=by rw [hbb]; dsimp only; (try simp (discharger:=decide) only [Flow.eval_put_ne,Flow.Q0c]); rw [Flow.Q0a (by simp only [Flow.size_put]; exact (by decide:254 < 364))]; assumption
   clear hbb;refine ⟨_,fun w=>?_,rfl⟩;unfold execOp;simp only [fo0];clear fo0;go_simp
  case g15=>
   as_aux_lemma =>
   intro v w1 hx;(repeat intro (zq:v _ = _));intro bb hbb;refine Flow.Q0h (d:=255) rfl rfl (by rw [hbb]; simp only [size_put]; exact (by decide:255 < 364)) (by rw [hbb]; dsimp only; (try simp (discharger:=decide) only [eval_put_ne]); rw [Q0a (by simp only [size_put]; exact (by decide:255 < 364))]; assumption) ?_
   intro K2 hK2;have o1:bb.eval (.tmp 23) = .pointer (some ⟨g23,0,none⟩):=by rw [hbb]; dsimp only; (try simp (discharger:=decide) only [eval_put_ne]); rfl
   exact Q0m (.tmp 23) _ rfl Tryz.Q5l Tryz.Q1r o1 (K23.out.ext (hdr.trans hx)) rfl (hK2 _ _ (Ext.refl _) rfl)
  case g16 | g21=>
   as_aux_lemma =>
   intro v w1 hx;(repeat intro (zq:v _ = _));intro bb hbb;refine Flow.Q0h (d:=255) rfl rfl (by rw [hbb]; simp only [size_put]; exact (by decide:255 < 364)) (by rw [hbb]; dsimp only; (try simp (discharger:=decide) only [eval_put_ne]); rw [Q0a (by simp only [size_put]; exact (by decide:255 < 364))]; assumption) ?_
   have fo0:bb.eval (.tmp 11) = .pointer (some ⟨g11,0,none⟩):=by rw [hbb]; dsimp only; (try simp (discharger:=decide) only [Flow.eval_put_ne,Flow.Q0c]); rfl
   clear hbb;refine ⟨_,fun w=>?_,rfl⟩;unfold execOp;simp only [fo0];clear fo0;go_simp
  case g17=>
   as_aux_lemma =>
   intro v w1 hx;(repeat intro (zq:v _ = _));intro bb hbb;have n0:w1.cell? ⟨g11,0,none⟩ = some (.int .i64 xn):=(K11.out.ext (hdr.trans hx)).cell 0;refine Flow.Q0h (d:=255) rfl rfl (by rw [hbb]; simp only [size_put]; exact (by decide:255 < 364)) (by rw [hbb]; dsimp only; (try simp (discharger:=decide) only [eval_put_ne]); rw [Q0a (by simp only [size_put]; exact (by decide:255 < 364))]; assumption) ?_
   have fo0:bb.eval (.tmp 257) = .pointer (some ⟨g11,0,none⟩):=by rw [hbb]; dsimp only; (try simp (discharger:=decide) only [Flow.eval_put_ne,Flow.Q0c]); rw [Flow.Q0a (by simp only [Flow.size_put]; exact (by decide:257 < 364))]; assumption
   clear hbb;intro K hK;unfold execOp;simp only [fo0];clear fo0;go_simp;exact hK _ _ (Ext.refl _) rfl
  case g18 | g23=>
   as_aux_lemma =>
   intro v w1 hx;(repeat intro (zq:v _ = _));intro bb hbb;refine Flow.Q0h (d:=255) rfl rfl (by rw [hbb]; simp only [size_put]; exact (by decide:255 < 364)) (by rw [hbb]; dsimp only; (try simp (discharger:=decide) only [eval_put_ne]); rw [Q0a (by simp only [size_put]; exact (by decide:255 < 364))]; assumption) ?_
   have fo0:bb.eval (.tmp 13) = .pointer (some ⟨g13,0,none⟩):=by rw [hbb]; dsimp only; (try simp (discharger:=decide) only [Flow.eval_put_ne,Flow.Q0c]); rfl
   clear hbb;refine ⟨_,fun w=>?_,rfl⟩;unfold execOp;simp only [fo0];clear fo0;go_simp
  case g19=>
   as_aux_lemma =>
   intro v w1 hx;(repeat intro (zq:v _ = _));intro bb hbb;have n0:w1.cell? ⟨g13,0,none⟩ = some (.int .i64 yn):=(K13.out.ext (hdr.trans hx)).cell 0;refine Flow.Q0h (d:=255) rfl rfl (by rw [hbb]; simp only [size_put]; exact (by decide:255 < 364)) (by rw [hbb]; dsimp only; (try simp (discharger:=decide) only [eval_put_ne]); rw [Q0a (by simp only [size_put]; exact (by decide:255 < 364))]; assumption) ?_
   have fo0:bb.eval (.tmp 259) = .pointer (some ⟨g13,0,none⟩):=by rw [hbb]; dsimp only; (try simp (discharger:=decide) only [Flow.eval_put_ne,Flow.Q0c]); rw [Flow.Q0a (by simp only [Flow.size_put]; exact (by decide:259 < 364))]; assumption
   clear hbb;intro K hK;unfold execOp;simp only [fo0];clear fo0;go_simp;exact hK _ _ (Ext.refl _) rfl
  case g20=>
   as_aux_lemma =>
   intro v w1 hx;(repeat intro (zq:v _ = _));intro bb hbb;refine Flow.Q0h (d:=255) rfl rfl (by rw [hbb]; simp only [size_put]; exact (by decide:255 < 364)) (by rw [hbb]; dsimp only; (try simp (discharger:=decide) only [eval_put_ne]); rw [Q0a (by simp only [size_put]; exact (by decide:255 < 364))]; assumption) ?_
   have fo0:bb.eval (.tmp 258) = .int .i64 xn:=by rw [hbb]; dsimp only; (try simp (discharger:=decide) only [Flow.eval_put_ne,Flow.Q0c]); rw [Flow.Q0a (by simp only [Flow.size_put]; exact (by decide:258 < 364))]; assumption
   have fo1:bb.eval (.tmp 260) = .int .i64 yn:=by rw [hbb]; dsimp only; (try simp (discharger:=decide) only [Flow.eval_put_ne,Flow.Q0c]); rw [Flow.Q0a (by simp only [Flow.size_put]; exact (by decide:260 < 364))]; assumption
   clear hbb;refine ⟨_,fun w=>?_,rfl⟩;unfold execOp;simp only [fo0,fo1];clear fo0 fo1;go_simp
  case g22=>
   as_aux_lemma =>
   intro v w1 hx;(repeat intro (zq:v _ = _));intro bb hbb;have n0:w1.cell? ⟨g11,1,none⟩ = some (.int .i64 xd):=(K11.out.ext (hdr.trans hx)).cell 1;refine Flow.Q0h (d:=255) rfl rfl (by rw [hbb]; simp only [size_put]; exact (by decide:255 < 364)) (by rw [hbb]; dsimp only; (try simp (discharger:=decide) only [eval_put_ne]); rw [Q0a (by simp only [size_put]; exact (by decide:255 < 364))]; assumption) ?_
   have fo0:bb.eval (.tmp 262) = .pointer (some ⟨g11,1,none⟩):=by rw [hbb]; dsimp only; (try simp (discharger:=decide) only [Flow.eval_put_ne,Flow.Q0c]); rw [Flow.Q0a (by simp only [Flow.size_put]; exact (by decide:262 < 364))]; assumption
   clear hbb;intro K hK;unfold execOp;simp only [fo0];clear fo0;go_simp;exact hK _ _ (Ext.refl _) rfl
  case g24=>
   as_aux_lemma =>
   intro v w1 hx;(repeat intro (zq:v _ = _));intro bb hbb;have n0:w1.cell? ⟨g13,1,none⟩ = some (.int .i64 yd):=(K13.out.ext (hdr.trans hx)).cell 1;refine Flow.Q0h (d:=255) rfl rfl (by rw [hbb]; simp only [size_put]; exact (by decide:255 < 364)) (by rw [hbb]; dsimp only; (try simp (discharger:=decide) only [eval_put_ne]); rw [Q0a (by simp only [size_put]; exact (by decide:255 < 364))]; assumption) ?_
   have fo0:bb.eval (.tmp 264) = .pointer (some ⟨g13,1,none⟩):=by rw [hbb]; dsimp only; (try simp (discharger:=decide) only [Flow.eval_put_ne,Flow.Q0c]); rw [Flow.Q0a (by simp only [Flow.size_put]; exact (by decide:264 < 364))]; assumption
   clear hbb;intro K hK;unfold execOp;simp only [fo0];clear fo0;go_simp;exact hK _ _ (Ext.refl _) rfl
  case g25=>
   as_aux_lemma =>
   intro v w1 hx;(repeat intro (zq:v _ = _));intro bb hbb;refine Flow.Q0h (d:=255) rfl rfl (by rw [hbb]; simp only [size_put]; exact (by decide:255 < 364)) (by rw [hbb]; dsimp only; (try simp (discharger:=decide) only [eval_put_ne]); rw [Q0a (by simp only [size_put]; exact (by decide:255 < 364))]; assumption) ?_
   have fo0:bb.eval (.tmp 263) = .int .i64 xd:=by rw [hbb]; dsimp only; (try simp (discharger:=decide) only [Flow.eval_put_ne,Flow.Q0c]); rw [Flow.Q0a (by simp only [Flow.size_put]; exact (by decide:263 < 364))]; assumption
   have fo1:bb.eval (.tmp 265) = .int .i64 yd:=by rw [hbb]; dsimp only; (try simp (discharger:=decide) only [Flow.eval_put_ne,Flow.Q0c]); rw [Flow.Q0a (by simp only [Flow.size_put]; exact (by decide:265 < 364))]; assumption
   clear hbb;refine ⟨_,fun w=>?_,rfl⟩;unfold execOp;simp only [fo0,fo1];clear fo0 fo1;go_simp
  case g26=>
   as_aux_lemma =>
   intro v w1 hx;(repeat intro (zq:v _ = _));intro bb hbb;refine Flow.Q0h (d:=255) rfl rfl (by rw [hbb]; simp only [size_put]; exact (by decide:255 < 364)) (by rw [hbb]; dsimp only; (try simp (discharger:=decide) only [eval_put_ne]); rw [Q0a (by simp only [size_put]; exact (by decide:255 < 364))]; assumption) ?_
   subst hbb;intro K hK;go_simp;refine Q0d (HLO1.out w1) ?_;rintro e w2 ⟨rfl,hx2⟩;exact ⟨_,rfl,hK _ _ hx2 rfl⟩
  case g27=>
   as_aux_lemma =>
   intro v w1 hx;(repeat intro (zq:v _ = _));intro bb hbb;refine Flow.Q0h (d:=255) rfl rfl (by rw [hbb]; simp only [size_put]; exact (by decide:255 < 364)) (by rw [hbb]; dsimp only; (try simp (discharger:=decide) only [eval_put_ne]); rw [Q0a (by simp only [size_put]; exact (by decide:255 < 364))]; assumption) ?_
   have fo0:bb.eval (.tmp 256) = .agg #[.int .i64 un,.int .i64 ud]:=by rw [hbb]; dsimp only; (try simp (discharger:=decide) only [Flow.eval_put_ne,Flow.Q0c]); rw [Flow.Q0a (by simp only [Flow.size_put]; exact (by decide:256 < 364))]; assumption
   have fo1:bb.eval (.tmp 267) = .agg #[.int .i64 un,.int .i64 ud]:=by rw [hbb]; dsimp only; (try simp (discharger:=decide) only [Flow.eval_put_ne,Flow.Q0c]); rw [Flow.Q0a (by simp only [Flow.size_put]; exact (by decide:267 < 364))]; assumption
   clear hbb;refine ⟨_,fun w=>?_,rfl⟩;unfold execOp;simp only [fo0,fo1];clear fo0 fo1;go_simp
  case g28=>
   as_aux_lemma =>
   intro v w1 hx;(repeat intro (zq:v _ = _));intro bb hbb;have fo0:bb.eval (.tmp 255) = .bool false:=by rw [hbb]; dsimp only; (try simp (discharger:=decide) only [Flow.eval_put_ne,Flow.Q0c]); rw [Flow.Q0a (by simp only [Flow.size_put]; exact (by decide:255 < 364))]; assumption
   have fo1:bb.eval (.tmp 268) = .bool false:=by rw [hbb]; dsimp only; (try simp (discharger:=decide) only [Flow.eval_put_ne,Flow.Q0c]); rw [Flow.Q0a (by simp only [Flow.size_put]; exact (by decide:268 < 364))]; assumption
   clear hbb;refine ⟨_,fun w=>?_,rfl⟩;unfold execOp;simp only [fo0,fo1];clear fo0 fo1;go_simp
  case g29=>
   as_aux_lemma =>
   intro v w1 hx;(repeat intro (zq:v _ = _));intro bb hbb;have fo0:bb.eval (.tmp 269) = .bool false:=by rw [hbb]; dsimp only; (try simp (discharger:=decide) only [Flow.eval_put_ne,Flow.Q0c]); rw [Flow.Q0a (by simp only [Flow.size_put]; exact (by decide:269 < 364))]; assumption
   clear hbb;refine ⟨_,fun w=>?_,rfl⟩;unfold execOp;simp only [fo0];clear fo0;go_simp
  case g30=>
   as_aux_lemma =>
   intro v w1 hx;(repeat intro (zq:v _ = _));intro bb hbb;refine Flow.Q0h (d:=270) rfl rfl (by rw [hbb]; simp only [size_put]; exact (by decide:270 < 364)) (by rw [hbb]; dsimp only; (try simp (discharger:=decide) only [eval_put_ne]); rw [Q0a (by simp only [size_put]; exact (by decide:270 < 364))]; assumption) ?_
   intro K2 hK2;have o1:bb.eval (.tmp 25) = .pointer (some ⟨g25,0,none⟩):=by rw [hbb]; dsimp only; (try simp (discharger:=decide) only [eval_put_ne]); rfl
   exact Q0m (.tmp 25) _ rfl Tryz.Q5l Tryz.Q1r o1 (K25.out.ext (hdr.trans hx)) rfl (hK2 _ _ (Ext.refl _) rfl)
  case g31 | g36 | g38 | g48=>
   as_aux_lemma =>
   intro v w1 hx;(repeat intro (zq:v _ = _));intro bb hbb;refine Flow.Q0h (d:=270) rfl rfl (by rw [hbb]; simp only [size_put]; exact (by decide:270 < 364)) (by rw [hbb]; dsimp only; (try simp (discharger:=decide) only [eval_put_ne]); rw [Q0a (by simp only [size_put]; exact (by decide:270 < 364))]; assumption) ?_
   have fo0:bb.eval (.tmp 11) = .pointer (some ⟨g11,0,none⟩):=by rw [hbb]; dsimp only; (try simp (discharger:=decide) only [Flow.eval_put_ne,Flow.Q0c]); rfl
   clear hbb;refine ⟨_,fun w=>?_,rfl⟩;unfold execOp;simp only [fo0];clear fo0;go_simp
  case g32=>
   as_aux_lemma =>
   intro v w1 hx;(repeat intro (zq:v _ = _));intro bb hbb;have n0:w1.cell? ⟨g11,1,none⟩ = some (.int .i64 xd):=(K11.out.ext (hdr.trans hx)).cell 1;refine Flow.Q0h (d:=270) rfl rfl (by rw [hbb]; simp only [size_put]; exact (by decide:270 < 364)) (by rw [hbb]; dsimp only; (try simp (discharger:=decide) only [eval_put_ne]); rw [Q0a (by simp only [size_put]; exact (by decide:270 < 364))]; assumption) ?_
   have fo0:bb.eval (.tmp 272) = .pointer (some ⟨g11,1,none⟩):=by rw [hbb]; dsimp only; (try simp (discharger:=decide) only [Flow.eval_put_ne,Flow.Q0c]); rw [Flow.Q0a (by simp only [Flow.size_put]; exact (by decide:272 < 364))]; assumption
   clear hbb;intro K hK;unfold execOp;simp only [fo0];clear fo0;go_simp;exact hK _ _ (Ext.refl _) rfl
  case g33 | g41 | g43 | g50=>
   as_aux_lemma =>
   intro v w1 hx;(repeat intro (zq:v _ = _));intro bb hbb;refine Flow.Q0h (d:=270) rfl rfl (by rw [hbb]; simp only [size_put]; exact (by decide:270 < 364)) (by rw [hbb]; dsimp only; (try simp (discharger:=decide) only [eval_put_ne]); rw [Q0a (by simp only [size_put]; exact (by decide:270 < 364))]; assumption) ?_
   have fo0:bb.eval (.tmp 13) = .pointer (some ⟨g13,0,none⟩):=by rw [hbb]; dsimp only; (try simp (discharger:=decide) only [Flow.eval_put_ne,Flow.Q0c]); rfl
   clear hbb;refine ⟨_,fun w=>?_,rfl⟩;unfold execOp;simp only [fo0];clear fo0;go_simp
  case g34=>
   as_aux_lemma =>
   intro v w1 hx;(repeat intro (zq:v _ = _));intro bb hbb;have n0:w1.cell? ⟨g13,1,none⟩ = some (.int .i64 yd):=(K13.out.ext (hdr.trans hx)).cell 1;refine Flow.Q0h (d:=270) rfl rfl (by rw [hbb]; simp only [size_put]; exact (by decide:270 < 364)) (by rw [hbb]; dsimp only; (try simp (discharger:=decide) only [eval_put_ne]); rw [Q0a (by simp only [size_put]; exact (by decide:270 < 364))]; assumption) ?_
   have fo0:bb.eval (.tmp 274) = .pointer (some ⟨g13,1,none⟩):=by rw [hbb]; dsimp only; (try simp (discharger:=decide) only [Flow.eval_put_ne,Flow.Q0c]); rw [Flow.Q0a (by simp only [Flow.size_put]; exact (by decide:274 < 364))]; assumption
   clear hbb;intro K hK;unfold execOp;simp only [fo0];clear fo0;go_simp;exact hK _ _ (Ext.refl _) rfl
  case g35=>
   as_aux_lemma =>
   intro v w1 hx;(repeat intro (zq:v _ = _));intro bb hbb;refine Flow.Q0h (d:=270) rfl rfl (by rw [hbb]; simp only [size_put]; exact (by decide:270 < 364)) (by rw [hbb]; dsimp only; (try simp (discharger:=decide) only [eval_put_ne]); rw [Q0a (by simp only [size_put]; exact (by decide:270 < 364))]; assumption) ?_
   have fo0:bb.eval (.tmp 273) = .int .i64 xd:=by rw [hbb]; dsimp only; (try simp (discharger:=decide) only [Flow.eval_put_ne,Flow.Q0c]); rw [Flow.Q0a (by simp only [Flow.size_put]; exact (by decide:273 < 364))]; assumption
   have fo1:bb.eval (.tmp 275) = .int .i64 yd:=by rw [hbb]; dsimp only; (try simp (discharger:=decide) only [Flow.eval_put_ne,Flow.Q0c]); rw [Flow.Q0a (by simp only [Flow.size_put]; exact (by decide:275 < 364))]; assumption
   clear hbb;refine ⟨_,fun w=>?_,rfl⟩;unfold execOp;simp only [fo0,fo1];clear fo0 fo1;go_simp
  case g37=>
   as_aux_lemma =>
   intro v w1 hx;(repeat intro (zq:v _ = _));intro bb hbb;have n0:w1.cell? ⟨g11,1,none⟩ = some (.int .i64 xd):=(K11.out.ext (hdr.trans hx)).cell 1;refine Flow.Q0h (d:=270) rfl rfl (by rw [hbb]; simp only [size_put]; exact (by decide:270 < 364)) (by rw [hbb]; dsimp only; (try simp (discharger:=decide) only [eval_put_ne]); rw [Q0a (by simp only [size_put]; exact (by decide:270 < 364))]; assumption) ?_
   have fo0:bb.eval (.tmp 277) = .pointer (some ⟨g11,1,none⟩):=by rw [hbb]; dsimp only; (try simp (discharger:=decide) only [Flow.eval_put_ne,Flow.Q0c]); rw [Flow.Q0a (by simp only [Flow.size_put]; exact (by decide:277 < 364))]; assumption
   clear hbb;intro K hK;unfold execOp;simp only [fo0];clear fo0;go_simp;exact hK _ _ (Ext.refl _) rfl
  case g39=>
   as_aux_lemma =>
   intro v w1 hx;(repeat intro (zq:v _ = _));intro bb hbb;have n0:w1.cell? ⟨g11,0,none⟩ = some (.int .i64 xn):=(K11.out.ext (hdr.trans hx)).cell 0;refine Flow.Q0h (d:=270) rfl rfl (by rw [hbb]; simp only [size_put]; exact (by decide:270 < 364)) (by rw [hbb]; dsimp only; (try simp (discharger:=decide) only [eval_put_ne]); rw [Q0a (by simp only [size_put]; exact (by decide:270 < 364))]; assumption) ?_
   have fo0:bb.eval (.tmp 279) = .pointer (some ⟨g11,0,none⟩):=by rw [hbb]; dsimp only; (try simp (discharger:=decide) only [Flow.eval_put_ne,Flow.Q0c]); rw [Flow.Q0a (by simp only [Flow.size_put]; exact (by decide:279 < 364))]; assumption
   clear hbb;intro K hK;unfold execOp;simp only [fo0];clear fo0;go_simp;exact hK _ _ (Ext.refl _) rfl
  case g40=>
   as_aux_lemma =>
   intro v w1 hx;(repeat intro (zq:v _ = _));intro bb hbb;refine Flow.Q0h (d:=270) rfl rfl (by rw [hbb]; simp only [size_put]; exact (by decide:270 < 364)) (by rw [hbb]; dsimp only; (try simp (discharger:=decide) only [eval_put_ne]); rw [Q0a (by simp only [size_put]; exact (by decide:270 < 364))]; assumption) ?_
   have fo0:bb.eval (.tmp 278) = .int .i64 xd:=by rw [hbb]; dsimp only; (try simp (discharger:=decide) only [Flow.eval_put_ne,Flow.Q0c]); rw [Flow.Q0a (by simp only [Flow.size_put]; exact (by decide:278 < 364))]; assumption
   have fo1:bb.eval (.tmp 280) = .int .i64 xn:=by rw [hbb]; dsimp only; (try simp (discharger:=decide) only [Flow.eval_put_ne,Flow.Q0c]); rw [Flow.Q0a (by simp only [Flow.size_put]; exact (by decide:280 < 364))]; assumption
   clear hbb;refine ⟨_,fun w=>?_,rfl⟩;unfold execOp;simp only [fo0,fo1];clear fo0 fo1;go_simp
  case g42=>
   as_aux_lemma =>
   intro v w1 hx;(repeat intro (zq:v _ = _));intro bb hbb;have n0:w1.cell? ⟨g13,1,none⟩ = some (.int .i64 yd):=(K13.out.ext (hdr.trans hx)).cell 1;refine Flow.Q0h (d:=270) rfl rfl (by rw [hbb]; simp only [size_put]; exact (by decide:270 < 364)) (by rw [hbb]; dsimp only; (try simp (discharger:=decide) only [eval_put_ne]); rw [Q0a (by simp only [size_put]; exact (by decide:270 < 364))]; assumption) ?_
   have fo0:bb.eval (.tmp 282) = .pointer (some ⟨g13,1,none⟩):=by rw [hbb]; dsimp only; (try simp (discharger:=decide) only [Flow.eval_put_ne,Flow.Q0c]); rw [Flow.Q0a (by simp only [Flow.size_put]; exact (by decide:282 < 364))]; assumption
   clear hbb;intro K hK;unfold execOp;simp only [fo0];clear fo0;go_simp;exact hK _ _ (Ext.refl _) rfl
  case g44=>
   as_aux_lemma =>
   intro v w1 hx;(repeat intro (zq:v _ = _));intro bb hbb;have n0:w1.cell? ⟨g13,0,none⟩ = some (.int .i64 yn):=(K13.out.ext (hdr.trans hx)).cell 0;refine Flow.Q0h (d:=270) rfl rfl (by rw [hbb]; simp only [size_put]; exact (by decide:270 < 364)) (by rw [hbb]; dsimp only; (try simp (discharger:=decide) only [eval_put_ne]); rw [Q0a (by simp only [size_put]; exact (by decide:270 < 364))]; assumption) ?_
   have fo0:bb.eval (.tmp 284) = .pointer (some ⟨g13,0,none⟩):=by rw [hbb]; dsimp only; (try simp (discharger:=decide) only [Flow.eval_put_ne,Flow.Q0c]); rw [Flow.Q0a (by simp only [Flow.size_put]; exact (by decide:284 < 364))]; assumption
   clear hbb;intro K hK;unfold execOp;simp only [fo0];clear fo0;go_simp;exact hK _ _ (Ext.refl _) rfl
  case g45=>
   as_aux_lemma =>
   intro v w1 hx;(repeat intro (zq:v _ = _));intro bb hbb;refine Flow.Q0h (d:=270) rfl rfl (by rw [hbb]; simp only [size_put]; exact (by decide:270 < 364)) (by rw [hbb]; dsimp only; (try simp (discharger:=decide) only [eval_put_ne]); rw [Q0a (by simp only [size_put]; exact (by decide:270 < 364))]; assumption) ?_
   have fo0:bb.eval (.tmp 283) = .int .i64 yd:=by rw [hbb]; dsimp only; (try simp (discharger:=decide) only [Flow.eval_put_ne,Flow.Q0c]); rw [Flow.Q0a (by simp only [Flow.size_put]; exact (by decide:283 < 364))]; assumption
   have fo1:bb.eval (.tmp 285) = .int .i64 yn:=by rw [hbb]; dsimp only; (try simp (discharger:=decide) only [Flow.eval_put_ne,Flow.Q0c]); rw [Flow.Q0a (by simp only [Flow.size_put]; exact (by decide:285 < 364))]; assumption
   clear hbb;refine ⟨_,fun w=>?_,rfl⟩;unfold execOp;simp only [fo0,fo1];clear fo0 fo1;go_simp
  case g46=>
   as_aux_lemma =>
   intro v w1 hx;(repeat intro (zq:v _ = _));intro bb hbb;refine Flow.Q0h (d:=270) rfl rfl (by rw [hbb]; simp only [size_put]; exact (by decide:270 < 364)) (by rw [hbb]; dsimp only; (try simp (discharger:=decide) only [eval_put_ne]); rw [Q0a (by simp only [size_put]; exact (by decide:270 < 364))]; assumption) ?_
   have fo0:bb.eval (.tmp 281) = .int .i64 (xd - xn):=by rw [hbb]; dsimp only; (try simp (discharger:=decide) only [Flow.eval_put_ne,Flow.Q0c]); rw [Flow.Q0a (by simp only [Flow.size_put]; exact (by decide:281 < 364))]; assumption
   have fo1:bb.eval (.tmp 286) = .int .i64 (yd - yn):=by rw [hbb]; dsimp only; (try simp (discharger:=decide) only [Flow.eval_put_ne,Flow.Q0c]); rw [Flow.Q0a (by simp only [Flow.size_put]; exact (by decide:286 < 364))]; assumption
   clear hbb;refine ⟨_,fun w=>?_,rfl⟩;unfold execOp;simp only [fo0,fo1];clear fo0 fo1;go_simp
  case g47=>
   as_aux_lemma =>
   intro v w1 hx;(repeat intro (zq:v _ = _));intro bb hbb;refine Flow.Q0h (d:=270) rfl rfl (by rw [hbb]; simp only [size_put]; exact (by decide:270 < 364)) (by rw [hbb]; dsimp only; (try simp (discharger:=decide) only [eval_put_ne]); rw [Q0a (by simp only [size_put]; exact (by decide:270 < 364))]; assumption) ?_
   have fo0:bb.eval (.tmp 276) = .int .i64 (xd * yd):=by rw [hbb]; dsimp only; (try simp (discharger:=decide) only [Flow.eval_put_ne,Flow.Q0c]); rw [Flow.Q0a (by simp only [Flow.size_put]; exact (by decide:276 < 364))]; assumption
   have fo1:bb.eval (.tmp 287) = .int .i64 ((xd - xn) * (yd - yn)):=by rw [hbb]; dsimp only; (try simp (discharger:=decide) only [Flow.eval_put_ne,Flow.Q0c]); rw [Flow.Q0a (by simp only [Flow.size_put]; exact (by decide:287 < 364))]; assumption
   clear hbb;refine ⟨_,fun w=>?_,rfl⟩;unfold execOp;simp only [fo0,fo1];clear fo0 fo1;go_simp
  case g49=>
   as_aux_lemma =>
   intro v w1 hx;(repeat intro (zq:v _ = _));intro bb hbb;have n0:w1.cell? ⟨g11,1,none⟩ = some (.int .i64 xd):=(K11.out.ext (hdr.trans hx)).cell 1;refine Flow.Q0h (d:=270) rfl rfl (by rw [hbb]; simp only [size_put]; exact (by decide:270 < 364)) (by rw [hbb]; dsimp only; (try simp (discharger:=decide) only [eval_put_ne]); rw [Q0a (by simp only [size_put]; exact (by decide:270 < 364))]; assumption) ?_
   have fo0:bb.eval (.tmp 289) = .pointer (some ⟨g11,1,none⟩):=by rw [hbb]; dsimp only; (try simp (discharger:=decide) only [Flow.eval_put_ne,Flow.Q0c]); rw [Flow.Q0a (by simp only [Flow.size_put]; exact (by decide:289 < 364))]; assumption
   clear hbb;intro K hK;unfold execOp;simp only [fo0];clear fo0;go_simp;exact hK _ _ (Ext.refl _) rfl
  case g51=>
   as_aux_lemma =>
   intro v w1 hx;(repeat intro (zq:v _ = _));intro bb hbb;have n0:w1.cell? ⟨g13,1,none⟩ = some (.int .i64 yd):=(K13.out.ext (hdr.trans hx)).cell 1;refine Flow.Q0h (d:=270) rfl rfl (by rw [hbb]; simp only [size_put]; exact (by decide:270 < 364)) (by rw [hbb]; dsimp only; (try simp (discharger:=decide) only [eval_put_ne]); rw [Q0a (by simp only [size_put]; exact (by decide:270 < 364))]; assumption) ?_
   have fo0:bb.eval (.tmp 291) = .pointer (some ⟨g13,1,none⟩):=by rw [hbb]; dsimp only; (try simp (discharger:=decide) only [Flow.eval_put_ne,Flow.Q0c]); rw [Flow.Q0a (by simp only [Flow.size_put]; exact (by decide:291 < 364))]; assumption
   clear hbb;intro K hK;unfold execOp;simp only [fo0];clear fo0;go_simp;exact hK _ _ (Ext.refl _) rfl
  case g52=>
   as_aux_lemma =>
   intro v w1 hx;(repeat intro (zq:v _ = _));intro bb hbb;refine Flow.Q0h (d:=270) rfl rfl (by rw [hbb]; simp only [size_put]; exact (by decide:270 < 364)) (by rw [hbb]; dsimp only; (try simp (discharger:=decide) only [eval_put_ne]); rw [Q0a (by simp only [size_put]; exact (by decide:270 < 364))]; assumption) ?_
   have fo0:bb.eval (.tmp 290) = .int .i64 xd:=by rw [hbb]; dsimp only; (try simp (discharger:=decide) only [Flow.eval_put_ne,Flow.Q0c]); rw [Flow.Q0a (by simp only [Flow.size_put]; exact (by decide:290 < 364))]; assumption
   have fo1:bb.eval (.tmp 292) = .int .i64 yd:=by rw [hbb]; dsimp only; (try simp (discharger:=decide) only [Flow.eval_put_ne,Flow.Q0c]); rw [Flow.Q0a (by simp only [Flow.size_put]; exact (by decide:292 < 364))]; assumption
   clear hbb;refine ⟨_,fun w=>?_,rfl⟩;unfold execOp;simp only [fo0,fo1];clear fo0 fo1;go_simp
  case g53=>
   as_aux_lemma =>
   intro v w1 hx;(repeat intro (zq:v _ = _));intro bb hbb;refine Flow.Q0h (d:=270) rfl rfl (by rw [hbb]; simp only [size_put]; exact (by decide:270 < 364)) (by rw [hbb]; dsimp only; (try simp (discharger:=decide) only [eval_put_ne]); rw [Q0a (by simp only [size_put]; exact (by decide:270 < 364))]; assumption) ?_
   subst hbb;intro K hK;go_simp;refine Q0d (HLO2.out w1) ?_;rintro e w2 ⟨rfl,hx2⟩;exact ⟨_,rfl,hK _ _ hx2 rfl⟩
  case g54=>
   as_aux_lemma =>
   intro v w1 hx;(repeat intro (zq:v _ = _));intro bb hbb;refine Flow.Q0h (d:=270) rfl rfl (by rw [hbb]; simp only [size_put]; exact (by decide:270 < 364)) (by rw [hbb]; dsimp only; (try simp (discharger:=decide) only [eval_put_ne]); rw [Q0a (by simp only [size_put]; exact (by decide:270 < 364))]; assumption) ?_
   have fo0:bb.eval (.tmp 271) = .agg #[.int .i64 vn,.int .i64 vd]:=by rw [hbb]; dsimp only; (try simp (discharger:=decide) only [Flow.eval_put_ne,Flow.Q0c]); rw [Flow.Q0a (by simp only [Flow.size_put]; exact (by decide:271 < 364))]; assumption
   have fo1:bb.eval (.tmp 294) = .agg #[.int .i64 vn,.int .i64 vd]:=by rw [hbb]; dsimp only; (try simp (discharger:=decide) only [Flow.eval_put_ne,Flow.Q0c]); rw [Flow.Q0a (by simp only [Flow.size_put]; exact (by decide:294 < 364))]; assumption
   clear hbb;refine ⟨_,fun w=>?_,rfl⟩;unfold execOp;simp only [fo0,fo1];clear fo0 fo1;go_simp
  case g55=>
   as_aux_lemma =>
   intro v w1 hx;(repeat intro (zq:v _ = _));intro bb hbb;have fo0:bb.eval (.tmp 270) = .bool false:=by rw [hbb]; dsimp only; (try simp (discharger:=decide) only [Flow.eval_put_ne,Flow.Q0c]); rw [Flow.Q0a (by simp only [Flow.size_put]; exact (by decide:270 < 364))]; assumption
   have fo1:bb.eval (.tmp 295) = .bool false:=by rw [hbb]; dsimp only; (try simp (discharger:=decide) only [Flow.eval_put_ne,Flow.Q0c]); rw [Flow.Q0a (by simp only [Flow.size_put]; exact (by decide:295 < 364))]; assumption
   clear hbb;refine ⟨_,fun w=>?_,rfl⟩;unfold execOp;simp only [fo0,fo1];clear fo0 fo1;go_simp
  case g56=>
   as_aux_lemma =>
   intro v w1 hx;(repeat intro (zq:v _ = _));intro bb hbb;have fo0:bb.eval (.tmp 296) = .bool false:=by rw [hbb]; dsimp only; (try simp (discharger:=decide) only [Flow.eval_put_ne,Flow.Q0c]); rw [Flow.Q0a (by simp only [Flow.size_put]; exact (by decide:296 < 364))]; assumption
   clear hbb;refine ⟨_,fun w=>?_,rfl⟩;unfold execOp;simp only [fo0];clear fo0;go_simp
  case g57=>
   as_aux_lemma =>
   intro v w1 hx;(repeat intro (zq:v _ = _));intro bb hbb;refine Flow.Q0h (d:=297) rfl rfl (by rw [hbb]; simp only [size_put]; exact (by decide:297 < 364)) (by rw [hbb]; dsimp only; (try simp (discharger:=decide) only [eval_put_ne]); rw [Q0a (by simp only [size_put]; exact (by decide:297 < 364))]; assumption) ?_
   have fo0:bb.eval (.tmp 27) = .slice A3 n3 c3:=by rw [hbb]; dsimp only; (try simp (discharger:=decide) only [Flow.eval_put_ne,Flow.Q0c]); rfl
   clear hbb;refine ⟨_,fun w=>?_,rfl⟩;unfold execOp;simp only [fo0];clear fo0;go_simp
  case g58=>
   as_aux_lemma =>
   intro v w1 hx;(repeat intro (zq:v _ = _));intro bb hbb;refine Flow.Q0h (d:=297) rfl rfl (by rw [hbb]; simp only [size_put]; exact (by decide:297 < 364)) (by rw [hbb]; dsimp only; (try simp (discharger:=decide) only [eval_put_ne]); rw [Q0a (by simp only [size_put]; exact (by decide:297 < 364))]; assumption) ?_
   have fo0:bb.eval (.tmp 298) = .slice A3 n3 c3:=by rw [hbb]; dsimp only; (try simp (discharger:=decide) only [eval_put_ne]); rw [Q0a (by simp only [size_put]; exact (by decide:298 < 364))]; assumption
   exact ⟨_,fun w=>Q8a _ _ rfl (by kernel_rfl) fo0 w,rfl⟩
  case g59=>
   as_aux_lemma =>
   intro v w1 hx;(repeat intro (zq:v _ = _));intro bb hbb;refine Flow.Q0h (d:=297) rfl rfl (by rw [hbb]; simp only [size_put]; exact (by decide:297 < 364)) (by rw [hbb]; dsimp only; (try simp (discharger:=decide) only [eval_put_ne]); rw [Q0a (by simp only [size_put]; exact (by decide:297 < 364))]; assumption) ?_
   have fo0:bb.eval (.tmp 15) = .slice A1 l1 c1:=by rw [hbb]; dsimp only; (try simp (discharger:=decide) only [Flow.eval_put_ne,Flow.Q0c]); rfl
   clear hbb;refine ⟨_,fun w=>?_,rfl⟩;unfold execOp;simp only [fo0];clear fo0;go_simp
  case g60=>
   as_aux_lemma =>
   intro v w1 hx;(repeat intro (zq:v _ = _));intro bb hbb;refine Flow.Q0h (d:=297) rfl rfl (by rw [hbb]; simp only [size_put]; exact (by decide:297 < 364)) (by rw [hbb]; dsimp only; (try simp (discharger:=decide) only [eval_put_ne]); rw [Q0a (by simp only [size_put]; exact (by decide:297 < 364))]; assumption) ?_
   have fo0:bb.eval (.tmp 300) = .slice A1 l1 c1:=by rw [hbb]; dsimp only; (try simp (discharger:=decide) only [eval_put_ne]); rw [Q0a (by simp only [size_put]; exact (by decide:300 < 364))]; assumption
   exact ⟨_,fun w=>Q8a _ _ rfl (by kernel_rfl) fo0 w,rfl⟩
  case g61=>
   as_aux_lemma =>
   intro v w1 hx;(repeat intro (zq:v _ = _));intro bb hbb;refine Flow.Q0h (d:=297) rfl rfl (by rw [hbb]; simp only [size_put]; exact (by decide:297 < 364)) (by rw [hbb]; dsimp only; (try simp (discharger:=decide) only [eval_put_ne]); rw [Q0a (by simp only [size_put]; exact (by decide:297 < 364))]; assumption) ?_
   have fo0:bb.eval (.tmp 17) = .slice A2 l2 c2:=by rw [hbb]; dsimp only; (try simp (discharger:=decide) only [Flow.eval_put_ne,Flow.Q0c]); rfl
   clear hbb;refine ⟨_,fun w=>?_,rfl⟩;unfold execOp;simp only [fo0];clear fo0;go_simp
  case g62=>
   as_aux_lemma =>
   intro v w1 hx;(repeat intro (zq:v _ = _));intro bb hbb;refine Flow.Q0h (d:=297) rfl rfl (by rw [hbb]; simp only [size_put]; exact (by decide:297 < 364)) (by rw [hbb]; dsimp only; (try simp (discharger:=decide) only [eval_put_ne]); rw [Q0a (by simp only [size_put]; exact (by decide:297 < 364))]; assumption) ?_
   have fo0:bb.eval (.tmp 302) = .slice A2 l2 c2:=by rw [hbb]; dsimp only; (try simp (discharger:=decide) only [eval_put_ne]); rw [Q0a (by simp only [size_put]; exact (by decide:302 < 364))]; assumption
   exact ⟨_,fun w=>Q8a _ _ rfl (by kernel_rfl) fo0 w,rfl⟩
  case g63=>
   as_aux_lemma =>
   intro v w1 hx;(repeat intro (zq:v _ = _));intro bb hbb;refine Flow.Q0h (d:=297) rfl rfl (by rw [hbb]; simp only [size_put]; exact (by decide:297 < 364)) (by rw [hbb]; dsimp only; (try simp (discharger:=decide) only [eval_put_ne]); rw [Q0a (by simp only [size_put]; exact (by decide:297 < 364))]; assumption) ?_
   have fo0:bb.eval (.tmp 301) = .int .i64 ((l1:Nat):Int):=by rw [hbb]; dsimp only; (try simp (discharger:=decide) only [Flow.eval_put_ne,Flow.Q0c]); rw [Flow.Q0a (by simp only [Flow.size_put]; exact (by decide:301 < 364))]; assumption
   have fo1:bb.eval (.tmp 303) = .int .i64 ((l2:Nat):Int):=by rw [hbb]; dsimp only; (try simp (discharger:=decide) only [Flow.eval_put_ne,Flow.Q0c]); rw [Flow.Q0a (by simp only [Flow.size_put]; exact (by decide:303 < 364))]; assumption
   clear hbb;refine ⟨_,fun w=>?_,rfl⟩;unfold execOp;simp only [fo0,fo1];clear fo0 fo1;go_simp
  case g64=>
   as_aux_lemma =>
   intro v w1 hx;(repeat intro (zq:v _ = _));intro bb hbb;refine Flow.Q0h (d:=297) rfl rfl (by rw [hbb]; simp only [size_put]; exact (by decide:297 < 364)) (by rw [hbb]; dsimp only; (try simp (discharger:=decide) only [eval_put_ne]); rw [Q0a (by simp only [size_put]; exact (by decide:297 < 364))]; assumption) ?_
   have fo0:bb.eval (.tmp 299) = .int .i64 ((n3:Nat):Int):=by rw [hbb]; dsimp only; (try simp (discharger:=decide) only [Flow.eval_put_ne,Flow.Q0c]); rw [Flow.Q0a (by simp only [Flow.size_put]; exact (by decide:299 < 364))]; assumption
   have fo1:bb.eval (.tmp 304) = .int .i64 ((l1:Int) * (l2:Int)):=by rw [hbb]; dsimp only; (try simp (discharger:=decide) only [Flow.eval_put_ne,Flow.Q0c]); rw [Flow.Q0a (by simp only [Flow.size_put]; exact (by decide:304 < 364))]; assumption
   clear hbb;refine ⟨_,fun w=>?_,rfl⟩;unfold execOp;simp only [fo0,fo1];clear fo0 fo1;go_simp
  case g65=>
   as_aux_lemma =>
   intro v w1 hx;(repeat intro (zq:v _ = _));intro bb hbb;have fo0:bb.eval (.tmp 297) = .bool false:=by rw [hbb]; dsimp only; (try simp (discharger:=decide) only [Flow.eval_put_ne,Flow.Q0c]); rw [Flow.Q0a (by simp only [Flow.size_put]; exact (by decide:297 < 364))]; assumption
   have fo1:bb.eval (.tmp 305) = .bool false:=by rw [hbb]; dsimp only; (try simp (discharger:=decide) only [Flow.eval_put_ne,Flow.Q0c]); rw [Flow.Q0a (by simp only [Flow.size_put]; exact (by decide:305 < 364))]; assumption
   clear hbb;refine ⟨_,fun w=>?_,rfl⟩;unfold execOp;simp only [fo0,fo1];clear fo0 fo1;go_simp
  case g66=>
   as_aux_lemma =>
   intro v w1 hx;(repeat intro (zq:v _ = _));intro bb hbb;have fo0:bb.eval (.tmp 306) = .bool false:=by rw [hbb]; dsimp only; (try simp (discharger:=decide) only [Flow.eval_put_ne,Flow.Q0c]); rw [Flow.Q0a (by simp only [Flow.size_put]; exact (by decide:306 < 364))]; assumption
   clear hbb;refine ⟨_,fun w=>?_,rfl⟩;unfold execOp;simp only [fo0];clear fo0;go_simp
  case g67=>
   as_aux_lemma =>
   intro v w1 hx;(repeat intro (zq:v _ = _));intro bb hbb;refine Flow.Q0h (d:=307) rfl rfl (by rw [hbb]; simp only [size_put]; exact (by decide:307 < 364)) (by rw [hbb]; dsimp only; (try simp (discharger:=decide) only [eval_put_ne]); rw [Q0a (by simp only [size_put]; exact (by decide:307 < 364))]; assumption) ?_
   have fo0:bb.eval (.tmp 29) = .slice A4 n4 c4:=by rw [hbb]; dsimp only; (try simp (discharger:=decide) only [Flow.eval_put_ne,Flow.Q0c]); rfl
   clear hbb;refine ⟨_,fun w=>?_,rfl⟩;unfold execOp;simp only [fo0];clear fo0;go_simp
  case g68=>
   as_aux_lemma =>
   intro v w1 hx;(repeat intro (zq:v _ = _));intro bb hbb;refine Flow.Q0h (d:=307) rfl rfl (by rw [hbb]; simp only [size_put]; exact (by decide:307 < 364)) (by rw [hbb]; dsimp only; (try simp (discharger:=decide) only [eval_put_ne]); rw [Q0a (by simp only [size_put]; exact (by decide:307 < 364))]; assumption) ?_
   have fo0:bb.eval (.tmp 308) = .slice A4 n4 c4:=by rw [hbb]; dsimp only; (try simp (discharger:=decide) only [eval_put_ne]); rw [Q0a (by simp only [size_put]; exact (by decide:308 < 364))]; assumption
   exact ⟨_,fun w=>Q8a _ _ rfl (by kernel_rfl) fo0 w,rfl⟩
  case g69=>
   as_aux_lemma =>
   intro v w1 hx;(repeat intro (zq:v _ = _));intro bb hbb;refine Flow.Q0h (d:=307) rfl rfl (by rw [hbb]; simp only [size_put]; exact (by decide:307 < 364)) (by rw [hbb]; dsimp only; (try simp (discharger:=decide) only [eval_put_ne]); rw [Q0a (by simp only [size_put]; exact (by decide:307 < 364))]; assumption) ?_
   have fo0:bb.eval (.tmp 15) = .slice A1 l1 c1:=by rw [hbb]; dsimp only; (try simp (discharger:=decide) only [Flow.eval_put_ne,Flow.Q0c]); rfl
   clear hbb;refine ⟨_,fun w=>?_,rfl⟩;unfold execOp;simp only [fo0];clear fo0;go_simp
  case g70=>
   as_aux_lemma =>
   intro v w1 hx;(repeat intro (zq:v _ = _));intro bb hbb;refine Flow.Q0h (d:=307) rfl rfl (by rw [hbb]; simp only [size_put]; exact (by decide:307 < 364)) (by rw [hbb]; dsimp only; (try simp (discharger:=decide) only [eval_put_ne]); rw [Q0a (by simp only [size_put]; exact (by decide:307 < 364))]; assumption) ?_
   have fo0:bb.eval (.tmp 310) = .slice A1 l1 c1:=by rw [hbb]; dsimp only; (try simp (discharger:=decide) only [eval_put_ne]); rw [Q0a (by simp only [size_put]; exact (by decide:310 < 364))]; assumption
   exact ⟨_,fun w=>Q8a _ _ rfl (by kernel_rfl) fo0 w,rfl⟩
  case g71=>
   as_aux_lemma =>
   intro v w1 hx;(repeat intro (zq:v _ = _));intro bb hbb;refine Flow.Q0h (d:=307) rfl rfl (by rw [hbb]; simp only [size_put]; exact (by decide:307 < 364)) (by rw [hbb]; dsimp only; (try simp (discharger:=decide) only [eval_put_ne]); rw [Q0a (by simp only [size_put]; exact (by decide:307 < 364))]; assumption) ?_
   have fo0:bb.eval (.tmp 17) = .slice A2 l2 c2:=by rw [hbb]; dsimp only; (try simp (discharger:=decide) only [Flow.eval_put_ne,Flow.Q0c]); rfl
   clear hbb;refine ⟨_,fun w=>?_,rfl⟩;unfold execOp;simp only [fo0];clear fo0;go_simp
  case g72=>
   as_aux_lemma =>
   intro v w1 hx;(repeat intro (zq:v _ = _));intro bb hbb;refine Flow.Q0h (d:=307) rfl rfl (by rw [hbb]; simp only [size_put]; exact (by decide:307 < 364)) (by rw [hbb]; dsimp only; (try simp (discharger:=decide) only [eval_put_ne]); rw [Q0a (by simp only [size_put]; exact (by decide:307 < 364))]; assumption) ?_
   have fo0:bb.eval (.tmp 312) = .slice A2 l2 c2:=by rw [hbb]; dsimp only; (try simp (discharger:=decide) only [eval_put_ne]); rw [Q0a (by simp only [size_put]; exact (by decide:312 < 364))]; assumption
   exact ⟨_,fun w=>Q8a _ _ rfl (by kernel_rfl) fo0 w,rfl⟩
  case g73=>
   as_aux_lemma =>
   intro v w1 hx;(repeat intro (zq:v _ = _));intro bb hbb;refine Flow.Q0h (d:=307) rfl rfl (by rw [hbb]; simp only [size_put]; exact (by decide:307 < 364)) (by rw [hbb]; dsimp only; (try simp (discharger:=decide) only [eval_put_ne]); rw [Q0a (by simp only [size_put]; exact (by decide:307 < 364))]; assumption) ?_
   have fo0:bb.eval (.tmp 311) = .int .i64 ((l1:Nat):Int):=by rw [hbb]; dsimp only; (try simp (discharger:=decide) only [Flow.eval_put_ne,Flow.Q0c]); rw [Flow.Q0a (by simp only [Flow.size_put]; exact (by decide:311 < 364))]; assumption
   have fo1:bb.eval (.tmp 313) = .int .i64 ((l2:Nat):Int):=by rw [hbb]; dsimp only; (try simp (discharger:=decide) only [Flow.eval_put_ne,Flow.Q0c]); rw [Flow.Q0a (by simp only [Flow.size_put]; exact (by decide:313 < 364))]; assumption
   clear hbb;refine ⟨_,fun w=>?_,rfl⟩;unfold execOp;simp only [fo0,fo1];clear fo0 fo1;go_simp
  case g74=>
   as_aux_lemma =>
   intro v w1 hx;(repeat intro (zq:v _ = _));intro bb hbb;refine Flow.Q0h (d:=307) rfl rfl (by rw [hbb]; simp only [size_put]; exact (by decide:307 < 364)) (by rw [hbb]; dsimp only; (try simp (discharger:=decide) only [eval_put_ne]); rw [Q0a (by simp only [size_put]; exact (by decide:307 < 364))]; assumption) ?_
   have fo0:bb.eval (.tmp 309) = .int .i64 ((n4:Nat):Int):=by rw [hbb]; dsimp only; (try simp (discharger:=decide) only [Flow.eval_put_ne,Flow.Q0c]); rw [Flow.Q0a (by simp only [Flow.size_put]; exact (by decide:309 < 364))]; assumption
   have fo1:bb.eval (.tmp 314) = .int .i64 ((l1:Int) + (l2:Int)):=by rw [hbb]; dsimp only; (try simp (discharger:=decide) only [Flow.eval_put_ne,Flow.Q0c]); rw [Flow.Q0a (by simp only [Flow.size_put]; exact (by decide:314 < 364))]; assumption
   clear hbb;refine ⟨_,fun w=>?_,rfl⟩;unfold execOp;simp only [fo0,fo1];clear fo0 fo1;go_simp
  case g75=>
   as_aux_lemma =>
   intro v w1 hx;(repeat intro (zq:v _ = _));intro bb hbb;have fo0:bb.eval (.tmp 307) = .bool false:=by rw [hbb]; dsimp only; (try simp (discharger:=decide) only [Flow.eval_put_ne,Flow.Q0c]); rw [Flow.Q0a (by simp only [Flow.size_put]; exact (by decide:307 < 364))]; assumption
   have fo1:bb.eval (.tmp 315) = .bool false:=by rw [hbb]; dsimp only; (try simp (discharger:=decide) only [Flow.eval_put_ne,Flow.Q0c]); rw [Flow.Q0a (by simp only [Flow.size_put]; exact (by decide:315 < 364))]; assumption
   clear hbb;refine ⟨_,fun w=>?_,rfl⟩;unfold execOp;simp only [fo0,fo1];clear fo0 fo1;go_simp
 case post =>
  intro v w1 hx;(iterate 76 intro (zq:v _ = _));simp only [List.append_eq,List.cons_append,List.nil_append,Flow.All,Flow.acts,Act.put];go_simp;have hxx:=hdr.trans hx;replace HX:=Lib.hid (HX.out.trans hxx);replace HT:=Lib.hid (HT.out.ext hxx);replace K0:=Lib.hid (K0.out.ext hxx);replace K11:=Lib.hid (K11.out.ext hxx);replace K13:=Lib.hid (K13.out.ext hxx);replace K19:=Lib.hid (K19.out.ext hxx);replace HD1:=Lib.hid (HD1.out.ext hxx);replace K21:=Lib.hid (K21.out.ext hxx);replace HD2:=Lib.hid (HD2.out.ext hxx);replace HTAB:=Lib.hid (HTAB.out.ext hxx);replace K23:=Lib.hid (K23.out.ext hxx);replace K25:=Lib.hid (K25.out.ext hxx);clear hxx hx hdr;(repeat clear zq);obtain ⟨w5,rfl⟩:∃ X,X = w1:=⟨_,rfl⟩;clear y1 y2 y3 y4 y5 y6 y7 y8 y9 y10 HLO1 HLO2 hb1 hb2;go_upto_if 316 with fail
  go_step
  go_step
  go_step
  go_step
  exact J3s W0 w5 t _ _ _ _ _ _ gT nn hn HE.out HF.out HSZ.out HT.out K0.out (HW0.out.trans HX.out) _ rfl rfl rfl
end Go.Proofs
