/- Contract of the basin: a step. A run of the basin on lists: the volumes behind each step, up to the first step that is not fine. No program in sight. The steps of a run, visited by a function that is handed the rounds of a loop. A loop over an iterator that stores into a box of its own between two rounds: the law of the walk. No program in sight. The steps of a run, collected. Contracts of the basin: passages, Collect, run. Contract of the basin: run. Contracts of the basin: the check of a condition, of volumes; the checked run. Contracts of the basin: the checks of all conditions, CheckVolumes, the checked run. Contract of the basin: levels. Contracts of the basin: volumes, Run. Contract of the basin: First. Contract of the law's own function: keelSea. A range over an iterator that hands over values which lie in memory: the iterator's contract says of each value what holds of it where it is handed over; the law of the statement over such a contract (no round is left early). Turning a rule of a policy changes what is done after its history alone: plain lists, no program is in sight. Plain law: the rules of a policy as a map from keys to closings. Contracts: key. -/
import Derived.Test.YtodinjclfmiohaaGreatKp02
import Derived.Test.YtodinjclfmiohaaGreatKp03
import Derived.OwnWalk
import Derived.RangeFuncNested
import Derived.RangeFuncBound
import Derived.RangeFuncCalls
import Derived.RangeFuncLeaves
import Derived.Shelf.RegionOpen
import Derived.WalkKit
import Derived.OwnWalkIn
import Derived.TacticsInMore
import Derived.LoopNIn
import Derived.LoopIn
import Derived.Test.YtodinjclfmiohaaGreatKp01
import Derived.Maps.AppendAt
import Derived.Scope
import Derived.WalkMore
import Derived.OrdersIn
import Derived.TacticsIn
import Derived.RangeFuncFrom
import Derived.Laws.BytesArg
set_option maxRecDepth 1000000
set_option maxHeartbeats 64000000
set_option linter.unusedVariables false
set_option linter.unusedSimpArgs false
set_option linter.constructorNameAsVariable false
namespace Go.Proofs
open Go.RowKit Go.Tw Go.Flow
attribute [local go_sem] Oper.semAt_some
theorem Tryz.X8d (w:World):(sizeOf 3).run Tryz.prog w = .ok 1 w:=by kernel_rfl
theorem StB.low {w w':World} {go gb b M:Nat} {V:List Int} {q:Bool} (h:StB w go gb b V q) (hx:Below M w w') (h1:go < M) (h2:gb < M) (h3:b < M):StB w' go gb b V q:=⟨h.o.below hx h1,h.q.below hx h2,h.r.below hx h3⟩
theorem Z0t (w:World) (vb vv vc:Value) (x:Q1b) (V:List Int) (c:Cond) (hv:Q1s w vb x) (hV:Q0b w vv V) (hc:X6h w vc c) (hb:x.Ok) (hl:V.length = x.nodes.length) (hil:c.inflow.length = x.nodes.length) (hbn:Bnd V 100000000) (hib:∀ k,0 <= ix c.inflow k /\ ix c.inflow k <= 100000) (ht:-1024 <= c.tide /\ c.tide <= 1024) :
    Calls Tryz.prog 179 #[vb,vv,vc] w fun e w'=>∃ f b,e = .returned (.tuple #[f,.slice (some ⟨b,0,none⟩) x.nodes.length x.nodes.length,.bool (Q3b x V c).2.1]) /\ Q0g w' 0 3 (.int .i64) f (Q3b x V c).2.2 /\ Q0g w' 0 3 (.int .i64) (.slice (some ⟨b,0,none⟩) x.nodes.length x.nodes.length) (Q3b x V c).1 /\ Ext w w':=by
 obtain ⟨i0,hi,hz0,hz1,hz2⟩:=info_parts Tryz.info3;obtain ⟨va,vl,rfl,h2⟩:=hv;obtain ⟨A,capa,rfl,-,-,-⟩:=h2.nodes.opened;obtain ⟨L,capl,rfl,-,-,-⟩:=h2.links.opened;obtain ⟨vi,rfl,hxi⟩:=hc;obtain ⟨X,capx,rfl,-,-,-⟩:=hxi.opened;obtain ⟨VA,capv,rfl,-,-,hcv⟩:=hV.opened;have H2:=Lib.hid h2;have HXI:=Lib.hid hxi;have HOK:=Lib.hid hb;have HVB:=Lib.hid hbn;have HIB:=Lib.hid hib;have HTD:=Lib.hid ht;obtain ⟨n,hn⟩:∃ z,x.nodes.length = z:=⟨_,rfl⟩;obtain ⟨m,hm⟩:∃ z,x.links.length = z:=⟨_,rfl⟩;obtain ⟨td,htd⟩:∃ z,c.tide = z:=⟨_,rfl⟩;obtain ⟨op,hop⟩:∃ z,c.opn = z:=⟨_,rfl⟩;have HN:=Lib.hid hn;have HM:=Lib.hid hm;have HTO:=Lib.hid (And.intro htd hop);have HL:=Lib.hid (hl.trans hn);have HIL:=Lib.hid (hil.trans hn);have HN8:Hid (1 <= n /\ n <= 8):=Lib.hid (by rw [<- hn]; exact hb.some)
 have hn8:=HN8.out;rw [hl] at hcv ⊢;rw [hil];rw [hn] at hcv ⊢;rw [hm,htd,hop];have HCV:Hid (∀ j u,(V.map (Value.int .i64))[j]? = some u -> ∃ b off,VA = some ⟨b,off,none⟩ /\ w.cell? ⟨b,off + j,none⟩ = some u):=Lib.hid (fun j u hj=>by
  rw [List.getElem?_map] at hj;obtain ⟨y,hy,rfl⟩:=Option.map_eq_some_iff.1 hj;obtain ⟨hjl,rfl⟩:=List.getElem?_eq_some_iff.1 hy;obtain ⟨b,off,he,hcell⟩:=hcv j (by have:=HL.out; omega)
  exact ⟨b,off,he,by rw [hcell,Q6r hjl]⟩)
 have HFL:Hid ((V.map (Value.int .i64)).length = n * 1):=Lib.hid (by rw [List.length_map,HL.out]; omega)
 have HFS:Hid ((V.map (Value.int .i64)).length = (madeCells #[Value.int .i64 0] n).size):=Lib.hid (by rw [HFL.out]; simp [madeCells])
 have HONE:Hid (∀ u ∈ V.map (Value.int .i64),u.oneCell' = true):=Lib.hid (fun u hu=>by obtain ⟨y,_,rfl⟩:=List.mem_map.1 hu; rfl)
 clear hcv h2 hxi hb hbn hib ht hn hm htd hop hl hil hV;go_enter Tryz.func179,Tryz.ntmps179;go_wp2_with (refine Q5d (o:=⟨some 22,_,_,_,_,_⟩) rfl ?_; refine X0r (.tmp 21) _ _ rfl i0 _ 1 8 Tryz.underlying44 hi hz0 hz1 hz2 n rfl (by omega) (by decide) ?_; refine halted ?_)
 unfold Q5f;obtain ⟨W,hWW,k0,k1,k2,HXW,eW⟩:=X3m w 40 #[.slice A n capa,.slice L m capl] 49 #[.int .i64 td,.bool op,.slice X n capx] 3 (madeCells #[.int .i64 0] n);rw [hWW];clear hWW;obtain ⟨g,hg⟩:∃ z,w.heap.size = z:=⟨_,rfl⟩;have HG:=Lib.hid hg;rw [hg] at k0 k1 k2 eW ⊢;obtain ⟨b,hb⟩:∃ z,g + 1 + 1 = z:=⟨_,rfl⟩;rw [hb] at k2 eW ⊢;have HB:=Lib.hid hb;have hxp:=Ext.box W (.cells #[.slice (some ⟨b,0,none⟩) n n] 44);have hbp:=Blk.made W 44 #[.slice (some ⟨b,0,none⟩) n n];go_upto_region 2 with fail;obtain ⟨go,hgo⟩:∃ z,b + 1 = z:=⟨_,rfl⟩;obtain ⟨W2,hwt⟩:∃ z,W.alloc (.cells #[.slice (some ⟨b,0,none⟩) n n] 44) = z:=⟨_,rfl⟩;rw [hwt,eW,hgo] at hbp;rw [hwt] at hxp;rw [hwt,hgo];have K0:=Lib.hid (k0.ext hxp);have K1:=Lib.hid (k1.ext hxp);have K2:=Lib.hid (k2.ext hxp);have KO:=Lib.hid hbp;have HGO:Hid (go = b + 1):=Lib.hid hgo.symm;have HX2:=Lib.hid (HXW.out.trans hxp);have c0:=hbp.cell 0;simp only [Go.Tw.gA,Go.Tw.gB] at c0;clear k0 k1 k2 hxp hbp hgo hwt eW hb hg;go_wp2_with (refine Q6k rfl (.tmp 23) (.tmp 24) _ _ rfl 3 Tryz.underlying44 (sz:=1) Tryz.X8d (n:=n) (g:=b) rfl rfl K2.out (V.map (Value.int .i64)) (by rw [HFL.out]) (fun j u hj=>by obtain ⟨b',o',e1,e2⟩:=HCV.out j u hj; exact ⟨b',o',e1,HX2.out.cell e2⟩) (by rw [HFS.out]; exact Nat.le_refl _) HONE.out ?_; intro w4 hb4 hl4 ho4; refine halted ?_)
 unfold Q5f;rw [Q9c _ _ HFS.out] at hb4;have hgb2:g + 1 < b:=by have:=HB.out; omega
 have HX4:Hid (Ext w w4):=Lib.hid (Below.trans HX2.out (hl4 _ (by have:=HG.out; omega)))
 have K04:=K0.out.below (hl4 b (Nat.le_refl _)) (by omega)
 have K14:=K1.out.below (hl4 b (Nat.le_refl _)) hgb2;have KO4:=Q5w KO.out (ho4 go (by have:=HGO.out; omega))
 have hgo4:=KO4.lt;have hxp:=Ext.box w4 (.cells #[.bool true] 4);have hbp:=Blk.made w4 4 #[.bool true];go_upto_region 5 with fail;obtain ⟨gb,hgb⟩:∃ z,w4.heap.size = z:=⟨_,rfl⟩;obtain ⟨W5,hwt⟩:∃ z,w4.alloc (.cells #[.bool true] 4) = z:=⟨_,rfl⟩;rw [hwt,hgb] at hbp;rw [hwt] at hxp;rw [hwt,hgb];rw [hgb] at hgo4;have HGB:Hid (g + 1 < b /\ b < go /\ go < gb):=Lib.hid (by have:=HGO.out; omega)
 have K05:=Lib.hid (K04.ext hxp);have K15:=Lib.hid (K14.ext hxp);have HST:Hid (StB W5 go gb b V true):=Lib.hid ⟨by rw [HL.out]; exact KO4.ext hxp,hbp,hb4.ext hxp⟩
 have HX5:=Lib.hid (HX4.out.trans hxp);have c2:=K15.out.cell 2;simp only [Go.Tw.gA,Go.Tw.gB,Go.Tw.gC] at c2;clear hb4 hl4 ho4 hgb2 K04 K14 KO4 hgo4 hxp hbp hwt hgb c0 K0 K1 K2 KO HX4 HX2;go_wp2_with fail;clear c2
 go_loopw [30] (fun iv wr=>∃ k:Nat,k <= n /\ iv = .int .i64 k /\ StB wr go gb b (Q5u V c.inflow k).1 (Q5u V c.inflow k).2 /\ Below b W5 wr) (fun iv _=>n - (intOf iv).toNat)
 case atStart=>exact ⟨0,Nat.zero_le _,rfl,HST.out,Below.refl _ _⟩
 case round =>
  obtain ⟨k,hk,rfl,hst,hlow⟩:=hrel;have HS:=Lib.hid hst;have HLO:=Lib.hid hlow;have HXR:Hid (Ext w wr):=Lib.hid (Below.trans HX5.out (hlow.mono (by have:=HG.out; have:=HGB.out; omega)))
  by_cases hlt:k < n
  . have hkI:(k:Int) < (n:Int):=by omega
    have HK:=Lib.hid hlt;have HWK:Hid (wrap64 ((k:Int) + 1) = (k:Int) + 1):=Lib.hid (by have:=HN8.out; unfold wrap64; omega)
    obtain ⟨X9,c9,h9,-,-,hcx⟩:=(HXI.out.ext HXR.out).opened;obtain ⟨bx,ox,hbx,hcell⟩:=hcx k (by rw [HIL.out]; exact hlt)
    injection h9 with k1 k2 k3;subst k1 k3;subst hbx;obtain ⟨hib1,hib2⟩:=X3b HVB.out HIB.out k (by rw [HL.out]; omega)
    have HBD:Hid (∀ j,j < (Q5u V c.inflow k).1.length -> -4000000000000000000 <= ix (Q5u V c.inflow k).1 j + ix c.inflow k /\ ix (Q5u V c.inflow k).1 j + ix c.inflow k <= 4000000000000000000):=Lib.hid (fun j _=>by have:=hib1 j; have:=HIB.out k; omega)
    have HIN:Hid ((k:Int) = -1 ∨ (0 <= (k:Int) /\ (k:Int) < (Q5u V c.inflow k).1.length)):=Lib.hid (.inr ⟨by omega,by rw [Q5c,HL.out]; exact hkI⟩)
    clear hcx hib1 hib2 hst hlow k2;go_wp2_with fail;refine (add_any _ (k:Int) (ix c.inflow k) go gb b _ _ HS.out HIN.out HBD.out).mono ?_;rintro e w6 ⟨rfl,hs6,htw⟩;have HS6:Hid (StB w6 go gb b (Q5u V c.inflow (k + 1)).1 (Q5u V c.inflow (k + 1)).2):=Lib.hid hs6;have HL6:=Lib.hid (HLO.out.trans (htw.1 b (by have:=HGB.out; omega) (Nat.le_refl _)))
    clear hs6 htw hcell;go_wp2;go_roundw
    case rel=>exact ⟨k + 1,by have:=HK.out; omega,by (try rw [HWK.out]); go_num,HS6.out,HL6.out⟩
    case measure=>have:=HK.out; (try rw [HWK.out]); simp [intOf]; omega
  . have hkI:¬ (k:Int) < (n:Int):=by omega
    have hke:n = k:=by omega
    subst hke;clear hkI hlt hk hst hlow HST;have HUB:Hid (Bnd (Q5u V c.inflow n).1 100100000):=Lib.hid (X3b HVB.out HIB.out n (by rw [HL.out]; exact Nat.le_refl _)).1
    have HEQ:Hid (Q3b x V c = Q3y x c (Q5u V c.inflow n).1 (Q5u V c.inflow n).2 m):=Lib.hid (by unfold Q3b; rw [HIL.out,HM.out])
    have HUL:Hid ((Q5u V c.inflow n).1.length = n):=Lib.hid ((Q5c _ _ _).trans HL.out);obtain ⟨U,hU⟩:∃ z,(Q5u V c.inflow n).1 = z:=⟨_,rfl⟩;obtain ⟨q,hq⟩:∃ z,(Q5u V c.inflow n).2 = z:=⟨_,rfl⟩;rw [hU,hq] at HEQ HS;rw [hU] at HUB HUL;clear hU hq HXI HVB HIB HL HIL HCV HFL HFS HONE;go_wp2_with fail;refine (table_any _).mono ?_;rintro e w6 ⟨tb,rfl,hm6,hx6⟩;have HX6:Hid (Ext w w6):=Lib.hid (HXR.out.trans hx6);have hgb:=HGB.out;have K06:=Lib.hid ((K05.out.below HLO.out (by omega)).ext hx6)
    have K16:=Lib.hid ((K15.out.below HLO.out (by omega)).ext hx6)
    have HS6:=Lib.hid (HS.out.ext hx6);have HM6:=Lib.hid hm6;have hs6:gb < w6.heap.size:=by have:=HS6.out.q.lt; omega
    have HB6:Hid (∃ B,w6.heap.size = B /\ gb < B /\ b < B /\ tb < B /\ go < B):=Lib.hid ⟨_,rfl,hs6,by omega,hm6.lt,by omega⟩
    have c1:=K06.out.cell 1;simp only [Go.Tw.gA,Go.Tw.gB,Go.Tw.gC] at c1;clear hm6 hx6 hgb hs6 K05 K15 HLO HS HX5 HXR;obtain ⟨B,hB,hB1,hB2,hB3,hB4⟩:=HB6.out;have HBS:=Lib.hid (And.intro hB1 (And.intro hB2 (And.intro hB3 hB4)));have HBB:=Lib.hid hB;clear hB hB1 hB2 hB3 hB4 HB6;go_wp2_with fail;clear c1
    go_loopw [14,44] (fun fv iv wr=>∃ k:Nat,k <= m /\ iv = .int .i64 k /\ StB wr go gb b (Q3y x c U q k).1 (Q3y x c U q k).2.1 /\ Q0g wr B 3 (.int .i64) fv (Q3y x c U q k).2.2 /\ Q1m wr tb X2a /\ Below b w6 wr) (fun _ iv _=>m - (intOf iv).toNat)
    case atStart=>exact ⟨0,Nat.zero_le _,rfl,HS6.out,Q0g.nil _ _ _ _,HM6.out,Below.refl _ _⟩
    case round =>
     obtain ⟨j,hj,rfl,hst,hown,hmap,hlow⟩:=hrel;have HS:=Lib.hid hst;have HOWN:=Lib.hid hown;have HMAP:=Lib.hid hmap;have HLO:=Lib.hid hlow;have HGBO:=HGB.out;have HXR:Hid (Ext w wr):=Lib.hid (Below.trans HX6.out (hlow.mono (by have:=HG.out; omega)))
     have HBR:Hid (B <= wr.heap.size):=Lib.hid (by have:=HBB.out; have:=hlow.size; omega)
     by_cases hlt:j < m
     . have hkI:(j:Int) < (m:Int):=by omega
       have HK:=Lib.hid hlt;have HWK:Hid (wrap64 ((j:Int) + 1) = (j:Int) + 1):=Lib.hid (by have:=HOK.out.many; have:=HM.out; unfold wrap64; omega)
       obtain ⟨L9,c9,h9,-,-,hcx⟩:=(H2.out.ext HXR.out).links.opened;obtain ⟨bx,ox,hbx,-,d0,d1,d2,d3,d4,-⟩:=hcx j (by rw [HM.out]; exact hlt)
       rw [HM.out] at h9;injection h9 with k1 k2 k3;subst k1 k3;subst hbx;obtain ⟨l,hl⟩:∃ z,lk x.links j = z:=⟨_,rfl⟩;rw [hl] at d0 d1 d2 d3 d4;obtain ⟨kd,lf,lt,la,lr⟩:=l;obtain ⟨nd,fl,hlr⟩:=Z6v HOK.out HTD.out (HUL.out.trans HN.out.symm) HUB.out q (j:=j) (by rw [HM.out]; exact hlt) hl
       have HLR:=Lib.hid hlr;have HND:Hid (nd < n):=Lib.hid (by rw [<- HN.out]; exact hlr.inN)
       dsimp only at d0 d1 d2 d3 d4;clear hcx hl hst hown hmap hlow k2 HGBO hlt hj hlr;go_upto_region 15 with fail;clear d0 d1 d2 d3 d4;obtain ⟨gl,hgl⟩:∃ z,wr.heap.size = z:=⟨_,rfl⟩;have hxb:=Ext.box wr (.cells (lkC kd lf lt la lr) 106);have hkb:=Blk.made wr 106 (lkC kd lf lt la lr);obtain ⟨W7,hW7⟩:∃ z,wr.alloc (.cells (lkC kd lf lt la lr) 106) = z:=⟨_,rfl⟩;rw [hW7,hgl] at hkb;rw [hW7] at hxb ⊢;rw [hgl];have HKB:=Lib.hid hkb;have HXB:=Lib.hid hxb;have HGL:=Lib.hid hgl;have c0:=(hkb).cell 0;have c1:=(hkb).cell 1;have c2:=(hkb).cell 2;have c3:=(hkb).cell 3;have c4:=(hkb).cell 4;simp only [Go.Tw.gA,Go.Tw.gB,Go.Tw.gC] at c0 c1 c2 c3 c4;clear hW7 hxb hkb hgl;go_wp2_with fail;refine (Z0y _ kd lf lt la lr).mono ?_;rintro e w8 ⟨rfl,hx8⟩;rw [HLR.out.node];have HXX:=Lib.hid (HXB.out.trans hx8);have HKL:=Lib.hid (HKB.out.ext hx8);clear c0 c1 c2 c3 c4 hx8 HKB HXB;go_upto_region 16 with fail;obtain ⟨A9,p9,g9,-,-,hcn⟩:=(H2.out.ext (HXR.out.trans HXX.out)).nodes.opened;obtain ⟨bn,on,hbn,-,-,e1,-,-⟩:=hcn nd (by rw [HN.out]; exact HND.out)
       rw [HN.out] at g9;injection g9 with k1 k2 k3;subst k1 k3;subst hbn;obtain ⟨ar,har⟩:∃ z,Q4x x.nodes nd = z:=⟨_,rfl⟩;obtain ⟨Uj,hUj⟩:∃ z,(Q3y x c U q j).1 = z:=⟨_,rfl⟩;obtain ⟨u,hu⟩:∃ z,ix Uj nd = z:=⟨_,rfl⟩;have HUJ:Hid (Uj.length = n):=Lib.hid (by rw [<- hUj,Q3w]; exact HUL.out)
       have hgb:=HGB.out;have H06:=Lib.hid ((K06.out.below HLO.out (by omega)).ext HXX.out)
       have H16:=Lib.hid ((K16.out.below HLO.out (by omega)).ext HXX.out)
       have HS8:=HS.out.ext HXX.out;rw [hUj] at HS8;have HO8:Hid (Blk w8 go 44 #[.slice (some ⟨b,0,none⟩) n n]):=Lib.hid (by have:=HS8.o; rw [HUJ.out] at this; exact this)
       have HR8:Hid (w8.cell? ⟨b,nd,none⟩ = some (.int .i64 u)):=Lib.hid (by rw [<- hu]; exact Q9b HS8.r (by rw [HUJ.out]; exact HND.out))
       have HM8:=Lib.hid (HMAP.out.ext HXX.out);rw [har] at e1;have HE1:=Lib.hid e1;have HFL:Hid (∀ W,Calls Tryz.prog (X0c kd) #[plV kd lf lt la lr u ar td op] W fun e w'=>e = .returned (.int .i64 fl) /\ Ext W w'):=Lib.hid (fun W=>by
        have h1:=HLR.out.flow;have h2:=HLR.out.pl;rw [hUj,hu,har,HTO.out.1] at h1 h2;rw [HTO.out.2] at h1;rw [<- h1];exact Z0f W ⟨kd,lf,lt,la,lr⟩ HLR.out.kind u ar td op h2)
       have HUU:=Lib.hid hUj;clear hcn k2 e1 har hu hUj hgb HS8;have hdr:=(Ext.refl w8).drew;refine Flow.Q1p [.p,.p,.w,.w,.p,.w,.w,.p,.p,.w,.p,.w,.p,.p,.p,.w,.p,.w,.p,.w,.p,.w,.p] [0,1,2,3,4,5,6,7,8,9,10,11,12,13,14,15,16,17,18,19,20,21,22] [[],[],[1],[0,2],[3],[],[],[],[6,7],[8],[],[10],[],[11,12],[13],[14],[],[16],[],[18],[5,9,15,17,19],[4,20],[0,1,2,3,4,5,6,7,8,9,10,11,12,13,14,15,16,17,18,19,20,21]]
        [.c 0 (.map (some tb)),.c 1 (.pointer (some ⟨gl,0,none⟩)),.c 2 (.string kd),.c 3 (kdV (Z2b kd) (Z1s kd) (X0c kd)),.c 4 (.func (.func (X0c kd)) #[] #[]),.c 5 (lkV kd lf lt la lr),.c 6 (.slice (some ⟨b,0,none⟩) n n),.c 7 (.int .i64 (nd:Nat)),.c 8 (.pointer (some ⟨b,nd,none⟩)),.c 9 (.int .i64 u),.c 10 (.pointer (some ⟨g,0,none⟩)),.c 11 (.slice (some ⟨bn,on,none⟩) n capa),.c 12 (.int .i64 (nd:Nat)),.c 13 (.pointer (some ⟨bn,on + nd * 3,none⟩)),.c 14 (.pointer (some ⟨bn,on + nd * 3 + 1,none⟩)),.c 15 (.int .i64 ar),.c 16 (.pointer (some ⟨g + 1,0,none⟩)),.c 17 (.int .i64 td),.c 18 (.pointer (some ⟨g + 1,1,none⟩)),.c 19 (.bool op),.c 20 (plV kd lf lt la lr u ar td op),.c 21 (.int .i64 fl),.c 22 (.int .i64 fl)]
        (by kernel_rfl) rfl (by kernel_rfl) ⟨?g0,?g1,?g2,?g3,?g4,?g5,?g6,?g7,?g8,?g9,?g10,?g11,?g12,?g13,?g14,?g15,?g16,?g17,?g18,?g19,?g20,?g21,?g22,trivial⟩ ?post
       case g0=>
        intro v w1 hx;intro bb hbb;have fo0:bb.eval (.tmp 15) = .map (some tb):=by rw [hbb]; dsimp only; (try simp (discharger:=decide) only [Flow.eval_put_ne,Flow.Q0m]); rfl
        clear hbb;refine ⟨_,fun w=>?_,rfl⟩;unfold execOp;simp only [fo0];clear fo0;go_simp
       case g1=>
        intro v w1 hx;intro bb hbb;have fo0:bb.eval (.tmp 17) = .pointer (some ⟨gl,0,none⟩):=by rw [hbb]; dsimp only; (try simp (discharger:=decide) only [Flow.eval_put_ne,Flow.Q0m]); rfl
        clear hbb;refine ⟨_,fun w=>?_,rfl⟩;unfold execOp;simp only [fo0];clear fo0;go_simp
       case g2=>
        intro v w1 hx;(repeat intro (zq:v _ = _));intro bb hbb;have n0:w1.cell? ⟨gl,0,none⟩ = some (.string kd):=(HKL.out.ext (hdr.trans hx)).cell 0;have fo0:bb.eval (.tmp 51) = .pointer (some ⟨gl,0,none⟩):=by rw [hbb]; dsimp only; (try simp (discharger:=decide) only [Flow.eval_put_ne,Flow.Q0m]); rw [Flow.Q0a (by simp only [Flow.size_put]; exact (by decide:51 < 91))]; assumption
        clear hbb;intro K hK;unfold execOp;simp only [fo0];clear fo0;go_simp;exact hK _ _ (Ext.refl _) rfl
       case g3=>
        intro v w1 hx;(repeat intro (zq:v _ = _));intro bb hbb;have hlk:=Q4c (P:=Tryz.prog) (HM8.out.ext (hdr.trans hx)) X4n X7f (Z1x _) kd false;rw [if_neg (by simp),X6q HLR.out.kind,Option.getD_some] at hlk
        have fo0:bb.eval (.tmp 50) = .map (some tb):=by rw [hbb]; dsimp only; (try simp (discharger:=decide) only [Flow.eval_put_ne,Flow.Q0m]); rw [Flow.Q0a (by simp only [Flow.size_put]; exact (by decide:50 < 91))]; assumption
        have fo1:bb.eval (.tmp 52) = .string kd:=by rw [hbb]; dsimp only; (try simp (discharger:=decide) only [Flow.eval_put_ne,Flow.Q0m]); rw [Flow.Q0a (by simp only [Flow.size_put]; exact (by decide:52 < 91))]; assumption
        clear hbb;intro K hK;unfold execOp;simp only [fo0,fo1];clear fo0 fo1;go_simp;exact hK _ _ (Ext.refl _) rfl
       case g4=>
        intro v w1 hx;(repeat intro (zq:v _ = _));intro bb hbb;have hfk:=X8g (Z2b kd) (Z1s kd) (X0c kd);have fo0:bb.eval (.tmp 53) = kdV (Z2b kd) (Z1s kd) (X0c kd):=by rw [hbb]; dsimp only; (try simp (discharger:=decide) only [Flow.eval_put_ne,Flow.Q0m]); rw [Flow.Q0a (by simp only [Flow.size_put]; exact (by decide:53 < 91))]; assumption
        clear hbb;refine ⟨_,fun w=>?_,rfl⟩;unfold execOp;simp only [fo0];clear fo0;go_simp
       case g5=>
        intro v w1 hx;intro bb hbb;intro K2 hK2;have o1:bb.eval (.tmp 17) = .pointer (some ⟨gl,0,none⟩):=by rw [hbb]; dsimp only; (try simp (discharger:=decide) only [eval_put_ne]); rfl
        exact Q0s (.tmp 17) _ rfl Tryz.Z2p Tryz.Y8w o1 (HKL.out.ext (hdr.trans hx)) rfl (hK2 _ _ (Ext.refl _) rfl)
       case g6=>
        intro v w1 hx;intro bb hbb;have n0:w1.cell? ⟨go,0,none⟩ = some (.slice (some ⟨b,0,none⟩) n n):=(HO8.out.ext (hdr.trans hx)).cell 0;have fo0:bb.eval (.tmp 9) = .pointer (some ⟨go,0,none⟩):=by rw [hbb]; dsimp only; (try simp (discharger:=decide) only [Flow.eval_put_ne,Flow.Q0m]); rfl
        clear hbb;intro K hK;unfold execOp;simp only [fo0];clear fo0;go_simp;exact hK _ _ (Ext.refl _) rfl
       case g7 | g12=>
        intro v w1 hx;intro bb hbb;have fo0:bb.eval (.tmp 18) = .int .i64 (nd:Nat):=by rw [hbb]; dsimp only; (try simp (discharger:=decide) only [Flow.eval_put_ne,Flow.Q0m]); rfl
        clear hbb;refine ⟨_,fun w=>?_,rfl⟩;unfold execOp;simp only [fo0];clear fo0;go_simp
       case g8=>
        intro v w1 hx;(repeat intro (zq:v _ = _));intro bb hbb;have hnd:(nd:Int) < (n:Int):=by (have:=HND.out; omega)
        have fo0:bb.eval (.tmp 56) = .slice (some ⟨b,0,none⟩) n n:=by rw [hbb]; dsimp only; (try simp (discharger:=decide) only [Flow.eval_put_ne,Flow.Q0m]); rw [Flow.Q0a (by simp only [Flow.size_put]; exact (by decide:56 < 91))]; assumption
        have fo1:bb.eval (.tmp 57) = .int .i64 (nd:Nat):=by rw [hbb]; dsimp only; (try simp (discharger:=decide) only [Flow.eval_put_ne,Flow.Q0m]); rw [Flow.Q0a (by simp only [Flow.size_put]; exact (by decide:57 < 91))]; assumption
        clear hbb;refine ⟨_,fun w=>?_,rfl⟩;unfold execOp;simp only [fo0,fo1];clear fo0 fo1;go_simp
       case g9=>
        intro v w1 hx;(repeat intro (zq:v _ = _));intro bb hbb;have n0:=(hdr.trans hx).cell HR8.out;have fo0:bb.eval (.tmp 58) = .pointer (some ⟨b,nd,none⟩):=by rw [hbb]; dsimp only; (try simp (discharger:=decide) only [Flow.eval_put_ne,Flow.Q0m]); rw [Flow.Q0a (by simp only [Flow.size_put]; exact (by decide:58 < 91))]; assumption
        clear hbb;intro K hK;unfold execOp;simp only [fo0];clear fo0;go_simp;exact hK _ _ (Ext.refl _) rfl
       case g10=>
        intro v w1 hx;intro bb hbb;have fo0:bb.eval (.tmp 3) = .pointer (some ⟨g,0,none⟩):=by rw [hbb]; dsimp only; (try simp (discharger:=decide) only [Flow.eval_put_ne,Flow.Q0m]); rfl
        clear hbb;refine ⟨_,fun w=>?_,rfl⟩;unfold execOp;simp only [fo0];clear fo0;go_simp
       case g11=>
        intro v w1 hx;(repeat intro (zq:v _ = _));intro bb hbb;have n0:w1.cell? ⟨g,0,none⟩ = some (.slice (some ⟨bn,on,none⟩) n capa):=(H06.out.ext (hdr.trans hx)).cell 0;have fo0:bb.eval (.tmp 60) = .pointer (some ⟨g,0,none⟩):=by rw [hbb]; dsimp only; (try simp (discharger:=decide) only [Flow.eval_put_ne,Flow.Q0m]); rw [Flow.Q0a (by simp only [Flow.size_put]; exact (by decide:60 < 91))]; assumption
        clear hbb;intro K hK;unfold execOp;simp only [fo0];clear fo0;go_simp;exact hK _ _ (Ext.refl _) rfl
       case g13=>
        intro v w1 hx;(repeat intro (zq:v _ = _));intro bb hbb;have hnd:(nd:Int) < (n:Int):=by (have:=HND.out; omega)
        have fo0:bb.eval (.tmp 61) = .slice (some ⟨bn,on,none⟩) n capa:=by rw [hbb]; dsimp only; (try simp (discharger:=decide) only [Flow.eval_put_ne,Flow.Q0m]); rw [Flow.Q0a (by simp only [Flow.size_put]; exact (by decide:61 < 91))]; assumption
        have fo1:bb.eval (.tmp 62) = .int .i64 (nd:Nat):=by rw [hbb]; dsimp only; (try simp (discharger:=decide) only [Flow.eval_put_ne,Flow.Q0m]); rw [Flow.Q0a (by simp only [Flow.size_put]; exact (by decide:62 < 91))]; assumption
        clear hbb;refine ⟨_,fun w=>?_,rfl⟩;unfold execOp;simp only [fo0,fo1];clear fo0 fo1;go_simp
       case g14=>
        intro v w1 hx;(repeat intro (zq:v _ = _));intro bb hbb;have fo0:bb.eval (.tmp 63) = .pointer (some ⟨bn,on + nd * 3,none⟩):=by rw [hbb]; dsimp only; (try simp (discharger:=decide) only [Flow.eval_put_ne,Flow.Q0m]); rw [Flow.Q0a (by simp only [Flow.size_put]; exact (by decide:63 < 91))]; assumption
        clear hbb;refine ⟨_,fun w=>?_,rfl⟩;unfold execOp;simp only [fo0];clear fo0;go_simp
       case g15=>
        intro v w1 hx;(repeat intro (zq:v _ = _));intro bb hbb;have n0:=(hdr.trans hx).cell HE1.out;have fo0:bb.eval (.tmp 64) = .pointer (some ⟨bn,on + nd * 3 + 1,none⟩):=by rw [hbb]; dsimp only; (try simp (discharger:=decide) only [Flow.eval_put_ne,Flow.Q0m]); rw [Flow.Q0a (by simp only [Flow.size_put]; exact (by decide:64 < 91))]; assumption
        clear hbb;intro K hK;unfold execOp;simp only [fo0];clear fo0;go_simp;exact hK _ _ (Ext.refl _) rfl
       case g16 | g18=>
        intro v w1 hx;intro bb hbb;have fo0:bb.eval (.tmp 5) = .pointer (some ⟨g + 1,0,none⟩):=by rw [hbb]; dsimp only; (try simp (discharger:=decide) only [Flow.eval_put_ne,Flow.Q0m]); rfl
        clear hbb;refine ⟨_,fun w=>?_,rfl⟩;unfold execOp;simp only [fo0];clear fo0;go_simp
       case g17=>
        intro v w1 hx;(repeat intro (zq:v _ = _));intro bb hbb;have n0:w1.cell? ⟨g + 1,0,none⟩ = some (.int .i64 td):=(H16.out.ext (hdr.trans hx)).cell 0;have fo0:bb.eval (.tmp 66) = .pointer (some ⟨g + 1,0,none⟩):=by rw [hbb]; dsimp only; (try simp (discharger:=decide) only [Flow.eval_put_ne,Flow.Q0m]); rw [Flow.Q0a (by simp only [Flow.size_put]; exact (by decide:66 < 91))]; assumption
        clear hbb;intro K hK;unfold execOp;simp only [fo0];clear fo0;go_simp;exact hK _ _ (Ext.refl _) rfl
       case g19=>
        intro v w1 hx;(repeat intro (zq:v _ = _));intro bb hbb;have n0:w1.cell? ⟨g + 1,1,none⟩ = some (.bool op):=(H16.out.ext (hdr.trans hx)).cell 1;have fo0:bb.eval (.tmp 68) = .pointer (some ⟨g + 1,1,none⟩):=by rw [hbb]; dsimp only; (try simp (discharger:=decide) only [Flow.eval_put_ne,Flow.Q0m]); rw [Flow.Q0a (by simp only [Flow.size_put]; exact (by decide:68 < 91))]; assumption
        clear hbb;intro K hK;unfold execOp;simp only [fo0];clear fo0;go_simp;exact hK _ _ (Ext.refl _) rfl
       case g20=>
        intro v w1 hx;(repeat intro (zq:v _ = _));intro bb hbb;subst hbb;refine ⟨_,fun w=>?_,rfl⟩;go_simp
       case g21=>
        intro v w1 hx;(repeat intro (zq:v _ = _));intro bb hbb;subst hbb;have hen:=Y1x kd;intro K hK;go_simp;refine Q0d (HFL.out w1) ?_;rintro e w2 ⟨rfl,hx2⟩;exact ⟨_,rfl,hK _ _ hx2 rfl⟩
       case g22=>
        intro v w1 hx;(repeat intro (zq:v _ = _));intro bb hbb;have fo0:bb.eval (.tmp 71) = .int .i64 fl:=by rw [hbb]; dsimp only; (try simp (discharger:=decide) only [Flow.eval_put_ne,Flow.Q0m]); rw [Flow.Q0a (by simp only [Flow.size_put]; exact (by decide:71 < 91))]; assumption
        clear hbb;refine ⟨_,fun w=>?_,rfl⟩;unfold execOp;simp only [fo0];clear fo0;go_simp
       case post =>
        intro v w1 hx;(iterate 23 intro (zq:v _ = _));simp only [Flow.All,Flow.acts,Act.put];go_simp;have HX9:=Lib.hid (HXX.out.trans (hdr.trans hx));have HKL9:=Lib.hid (HKL.out.ext (hdr.trans hx));clear hx hdr HXX HKL H06 H16 HO8 HR8 HM8 HE1
        (repeat clear zq)
        have hwn:IntKind.i64.wrap (-fl) = -fl:=Q1t (by have:=HLR.out.bd; omega) (by have:=HLR.out.bd; omega)
        have c1:=HKL9.out.cell 1;have c2:=HKL9.out.cell 2;simp only [Go.Tw.gA,Go.Tw.gB,Go.Tw.gC] at c1 c2;have HS9:Hid (StB w1 go gb b (Q3y x c U q j).1 (Q3y x c U q j).2.1):=Lib.hid (HS.out.ext HX9.out);have HB9:Hid (B <= w1.heap.size):=Lib.hid (by have:=HBR.out; have:=HX9.out.size; omega)
        have HM9:Hid (Q1m w1 tb X2a):=Lib.hid (HMAP.out.ext HX9.out);have HO9:Hid (Q0g w1 B 3 (.int .i64) u14 (Q3y x c U q j).2.2):=Lib.hid (HOWN.out.below HX9.out);have HL9:Hid (Below b w6 w1):=Lib.hid (HLO.out.trans (HX9.out.mono (by have:=HBR.out; have:=HBS.out.2.1; omega)))
        have HGN:Hid (gl ≠ gb /\ gl ≠ b):=Lib.hid (by have:=HBS.out; have:=HBR.out; have:=HGL.out; omega)
        clear HS HMAP HOWN HLO HX9 HXR HBR;go_wp2_with fail;refine (add_any _ lf (-fl) go gb b _ _ HS9.out (by have:=HLR.out.src; rw [Q3w,HUL.out]; rw [HN.out] at this; exact this) (fun k _=>HLR.out.b1 k)).mono ?_
        rintro e w10 ⟨rfl,hs10,ht10⟩;have HS10:=Lib.hid hs10;have HT10:=Lib.hid ht10;have HKL10:=Lib.hid (Q5w HKL9.out (ht10.2 gl HGN.out.1 HGN.out.2));have c2:=HKL10.out.cell 2;simp only [Go.Tw.gA,Go.Tw.gB,Go.Tw.gC] at c2;clear hs10 ht10 c1 hwn;go_wp2_with fail;refine (add_any _ lt fl go gb b _ _ HS10.out (by have:=HLR.out.dst; rw [Q9l,Q3w,HUL.out]; rw [HN.out] at this; exact this) (fun k _=>HLR.out.b2 k)).mono ?_
        rintro e w11 ⟨rfl,hs11,ht11⟩;have HS11:Hid (StB w11 go gb b (Q3y x c U q (j + 1)).1 (Q3y x c U q (j + 1)).2.1):=Lib.hid (by rw [HLR.out.next]; exact hs11)
        have HT11:Hid (Two gb b w1 w11):=Lib.hid (HT10.out.trans ht11);have hown:=Q0g.two HO9.out HBS.out.1 HBS.out.2.1 HT11.out;have HM11:Hid (Q1m w11 tb X2a):=Lib.hid (Q1m.two HM9.out HS9.out HT11.out);have HB11:Hid (B <= w11.heap.size):=Lib.hid (by have:=HB9.out; have:=(HT11.out.1 b (by have:=HGB.out; omega) (Nat.le_refl _)).size; omega)
        have HL11:Hid (Below b w6 w11):=Lib.hid (HL9.out.trans (HT11.out.1 b (by have:=HGB.out; omega) (Nat.le_refl _)))
        have hll:(Q3y x c U q j).2.2.length <= 16:=by rw [Q5p]; have:=HK.out; have:=HM.out; have:=HOK.out.many; omega
        have hxx:=Ext.refl w11;have hB11:=HB11.out;clear hs11 ht11 c2 HS9 HS10 HT10 HM9 HO9 HB9;go_wp2_with (at_builtin; refine wpList_append_own _ rfl _ _ 44 rfl (B) 3 i0 (.int .i64 0) 1 8 Tryz.underlying44 hi hz0 hz1 hz2 rfl (by decide) _ _ _ rfl (World.ownsRow.alloc hown _) ⟨w11.heap.size,0,none⟩ 1 1 [.int .i64 fl] rfl rfl ?_ ?_ ?_ ?_ ?_ ?_; exact Q4h _ _ _; (focus (simp [Value.oneCell'])); (focus (unfold maxLen; omega)); (focus omega); (focus (have:=hxx.size; simp at this ⊢; omega)); intro v' w1 hown' hgrow _)
        have hlo:=X8z hown (Nat.le_refl B) HB11.out hgrow;have HL12:=Lib.hid (HL11.out.trans (hlo.mono (by have:=HBS.out; omega)))
        have HS12:=Lib.hid (HS11.out.low hlo HBS.out.2.2.2 HBS.out.1 HBS.out.2.1);have HM12:=Lib.hid (Q1m.low HM11.out hlo HBS.out.2.2.1);have HO12:Hid (Q0g w1 B 3 (.int .i64) v' (Q3y x c U q (j + 1)).2.2):=Lib.hid (by rw [HLR.out.next]; exact Q0g.snoc hown')
        clear hlo hown hown' hgrow hxx hll hB11;go_wp2;go_roundw
        case rel=>exact ⟨j + 1,by have:=HK.out; omega,by (try rw [HWK.out]); go_num,HS12.out,HO12.out,HM12.out,HL12.out⟩
        case measure=>have:=HK.out; (try rw [HWK.out]); simp [intOf]; omega
     . have hkI:¬ (j:Int) < (m:Int):=by omega
       have hjm:m = j:=by omega
       subst hjm;have HEX:Hid ((Q3y x c U q m).2.2.length <= 17592186043904):=Lib.hid (by rw [Q5p]; have:=HM.out; have:=HOK.out.many; omega)
       have HF:Hid (Q0g wr 0 3 (.int .i64) u14 (Q3b x V c).2.2):=Lib.hid (by rw [HEQ.out]; exact Y7f hown)
       have HV:Hid (Q0g wr 0 3 (.int .i64) (.slice (some ⟨b,0,none⟩) n n) (Q3b x V c).1):=Lib.hid (by rw [HEQ.out]; exact X4g hst.r ((Q3w ..).trans HUL.out) (by have:=HN8.out; unfold maxLen; omega))
       have c0:=hst.o.cell 0;have c1:=hst.q.cell 0;simp only [Go.Tw.gA,Go.Tw.gB,Go.Tw.gC] at c0 c1;rw [Q3w,HUL.out] at c0;rw [<- HEQ.out] at c1;clear hst hown hmap hlow HGBO hlt hj;go_upto_region 21 with fail
       go_quiet (fail)
       all_goals go_wp2
       all_goals go_ret3
       all_goals exact ⟨_,_,rfl,HF.out,HV.out,HXR.out.drewN _⟩
end Go.Proofs
namespace Go.Tw
open Go.Ba
def Q3a (x:Q1b) (V:List Int) (l:List Cond):Nat -> List Int
 | 0=>V
 | k + 1=>(Q3b x (Q3a x V l k) (cd l k)).1
def Q2t (x:Q1b) (V:List Int) (l:List Cond) (k:Nat):Bool:=(Q3b x (Q3a x V l k) (cd l k)).2.1
def Q8f (x:Q1b) (V:List Int) (l:List Cond) (k:Nat):List Int:=(Q3b x (Q3a x V l k) (cd l k)).2.2
def Runs (x:Q1b) (V:List Int) (l:List Cond) (m:Nat):Prop :=
 (m = l.length /\ ∀ j,j < m -> Q2t x V l j = true) ∨ ∃ k,k < l.length /\ m = k + 1 /\ Q2t x V l k = false /\ ∀ j,j < k -> Q2t x V l j = true
theorem Runs.le {x:Q1b} {V:List Int} {l:List Cond} {m:Nat} (h:Runs x V l m):m <= l.length:=by
 rcases h with ⟨h,-⟩ | ⟨k,h,h2,-⟩ <;> omega
theorem Y9m (x:Q1b) (V:List Int) (c:Cond):(Q3b x V c).1.length = V.length:=by unfold Q3b; rw [Q3w,Q5c]
theorem Q5m (x:Q1b) (V:List Int) (l:List Cond):∀ k,(Q3a x V l k).length = V.length
 | 0=>rfl
 | k + 1=>by unfold Q3a; rw [Y9m,Q5m x V l k]
theorem X3n {V:List Int} {i n:Int} (hi:i = -1 ∨ (0 <= i /\ i < V.length)) (h:∀ k,ix V k <= 100000000) (hf:Q4y (Q4j V i n) i = true):∀ k,ix (Q4j V i n) k <= 100000000:=by
 intro k
 rcases hi with rfl | ⟨h0,h1⟩
 . unfold Q4j; rw [if_pos (by decide)]; exact h k
 . unfold Q4y at hf
   have hlt:¬ i < 0:=by omega
   simp only [hlt,decide_false,Bool.false_or,decide_eq_true_eq] at hf
   by_cases e:i.toNat = k
   . subst e; exact hf
   . unfold Q4j
     rw [if_neg hlt,Y4r _ (by omega),if_neg e]
     exact h k
theorem X8w {V X:List Int} (hV:∀ k,ix V k <= 100000000):∀ k,k <= V.length -> (Q5u V X k).2 = true -> ∀ j,ix (Q5u V X k).1 j <= 100000000
 | 0,_,_=>hV
 | k + 1,hk,h=>by
   have h':((Q5u V X k).2 && Q4y (Q4j (Q5u V X k).1 k (ix X k)) k) = true:=h;rw [Bool.and_eq_true] at h';exact X3n (.inr ⟨by omega,by rw [Q5c]; omega⟩) (X8w hV k (by omega) h'.1) h'.2
theorem Y0h {x:Q1b} (hx:x.Ok) {c:Cond} {U:List Int} {q:Bool} (hl:U.length = x.nodes.length) (hU:q = true -> ∀ k,ix U k <= 100000000):∀ k,k <= x.links.length -> (Q3y x c U q k).2.1 = true -> ∀ j,ix (Q3y x c U q k).1 j <= 100000000
 | 0,_,h=>hU h
 | k + 1,hk,h=>by
   have hf:=hx.links k (by omega)
   obtain ⟨e1,e2,-,-⟩:=Fits.Z2s hf;have h':(((Q3y x c U q k).2.1 && Q4y (Q4j (Q3y x c U q k).1 (lk x.links k).src (-(Q2g x c k (Q3y x c U q k).1))) (lk x.links k).src) && Q4y (Q4j (Q4j (Q3y x c U q k).1 (lk x.links k).src (-(Q2g x c k (Q3y x c U q k).1))) (lk x.links k).dst (Q2g x c k (Q3y x c U q k).1)) (lk x.links k).dst) = true:=h;rw [Bool.and_eq_true,Bool.and_eq_true] at h';refine X3n (by rw [Q9l,Q3w,hl]; exact e2) ?_ h'.2
   exact X3n (by rw [Q3w,hl]; exact e1) (Y0h hx hl hU k (by omega) h'.1.1) h'.1.2
structure Q5i (x:Q1b) (l:List Cond):Prop where
 len:∀ k,k < l.length -> (cd l k).inflow.length = x.nodes.length
 inflow:∀ k,k < l.length -> ∀ j,0 <= ix (cd l k).inflow j /\ ix (cd l k).inflow j <= 100000
 tide:∀ k,k < l.length -> -1024 <= (cd l k).tide /\ (cd l k).tide <= 1024
theorem Z0z {x:Q1b} (hx:x.Ok) {V:List Int} (hl:V.length = x.nodes.length) (hV:Bnd V 100000000) {c:Cond} (hcl:c.inflow.length = x.nodes.length) (hci:∀ j,0 <= ix c.inflow j /\ ix c.inflow j <= 100000) (hct:c.tide <= 1024) (hf:(Q3b x V c).2.1 = true) :
    Bnd (Q3b x V c).1 100000000:=by
 have hb:=X3b hV hci c.inflow.length (by omega)
 have hU:Bnd (Q5u V c.inflow c.inflow.length).1 100100000:=hb.1;have h1:=X7t hx hct (by rw [Q5c,hl]) (by decide) hU (Q5u V c.inflow c.inflow.length).2 (k:=x.links.length) (Nat.le_refl _)
 have h2:=Y0h hx (c:=c) (U:=(Q5u V c.inflow c.inflow.length).1) (q:=(Q5u V c.inflow c.inflow.length).2) (by rw [Q5c,hl]) (X8w (fun k=>(hV k).2) c.inflow.length (by omega)) x.links.length (Nat.le_refl _) hf
 exact fun k=>⟨(h1 k).1,h2 k⟩
theorem X5c {x:Q1b} (hx:x.Ok) {V:List Int} (hl:V.length = x.nodes.length) (hV:Bnd V 100000000) {l:List Cond} (hc:Q5i x l):∀ k,k <= l.length -> (∀ j,j < k -> Q2t x V l j = true) -> Bnd (Q3a x V l k) 100000000
 | 0,_,_=>hV
 | k + 1,hk,h=>by
   have ih:=X5c hx hl hV hc k (by omega) fun j hj=>h j (by omega)
   exact Z0z hx (by rw [Q5m,hl]) ih (hc.len k hk) (hc.inflow k hk) (hc.tide k hk).2 (h k (by omega))
end Go.Tw
namespace Go.Tw
open Go.RowKit Go.Flow Go.Ba
abbrev Q8z (td:Int) (op:Bool) (a f u:Value):Array Value:=#[.int .i64 td,.bool op,a,f,u]
abbrev Y8e (td:Int) (op:Bool) (a f u:Value):Value:=.agg (Q8z td op a f u)
structure Y6f (W0 W:World) (x:Q1b) (V:List Int) (l:List Cond) (k:Nat) (a f u:Value):Prop where
 inflow:Q0b W0 a (cd l k).inflow
 flows:Q0g W 0 3 (.int .i64) f (Q8f x V l k)
 vols:if Q2t x V l k = true then (∃ b,u = .slice (some ⟨b,0,none⟩) x.nodes.length x.nodes.length) /\ Q0g W 0 3 (.int .i64) u (Q3a x V l (k + 1)) else u = .slice none 0 0
def Q7p (B:Nat) (W W':World):Prop:=Below B W W' /\ ∀ v L,Q0g W 0 3 (.int .i64) v L -> Q0g W' 0 3 (.int .i64) v L
theorem Q7p.trans {B:Nat} {W1 W2 W3:World} (h:Q7p B W1 W2) (k:Q7p B W2 W3):Q7p B W1 W3:=⟨h.1.trans k.1,fun v L hv=>k.2 v L (h.2 v L hv)⟩
theorem Y6f.keep {B:Nat} {W0 W W':World} {x:Q1b} {V:List Int} {l:List Cond} {k:Nat} {a f u:Value} (h:Y6f W0 W x V l k a f u) (hk:Q7p B W W'):Y6f W0 W' x V l k a f u:=by
 refine ⟨h.inflow,hk.2 _ _ h.flows,?_⟩;have hv:=h.vols
 by_cases e:Q2t x V l k = true
 . rw [if_pos e] at hv ⊢; exact ⟨hv.1,hk.2 _ _ hv.2⟩
 . rw [if_neg e] at hv ⊢; exact hv
theorem Y6f.ext {W0 W W':World} {x:Q1b} {V:List Int} {l:List Cond} {k:Nat} {a f u:Value} (h:Y6f W0 W x V l k a f u) (hx:Ext W W'):Y6f W0 W' x V l k a f u :=
 h.keep (B:=0) ⟨hx.mono (Nat.zero_le _),fun _ _ hv=>Q0g.below hv hx⟩
theorem Blk.off {w:World} {g b k:Nat} {T:TypeId} {cs:Array Value} (h:Blk w g T cs) (hne:g ≠ b) (u:Value):Blk (w.setCell ⟨b,k,none⟩ u) g T cs:=by
 unfold Blk at h ⊢;rw [Below.heap_setCell _ _ _ _ hne]; exact h
end Go.Tw
namespace Go.Proofs
open Go.RowKit Go.Tw Go.Flow Go.Ba Go.Shelf
attribute [local go_sem] Oper.semAt_some
theorem X8b (n L:Nat) (hn:1 <= n) (W0 W:World) (x:Q1b) (V:List Int) (l:List Cond) (va vl vv vc:Value) (gl gb gv B0:Nat) (J:Nat -> World -> Prop)
    (hx:Q5x W0 va vl x) (hV:Q0b W0 vv V) (hc:Q1v W0 vc l) (hok:x.Ok) (hlen:V.length = x.nodes.length) (hbn:Bnd V 100000000) (hco:Q5i x l) (hlm:l.length <= 4096)
    (hX:Ext W0 W) (kl:Blk W gl 45 #[vc]) (kb:Blk W gb 40 #[va,vl]) (kv:Blk W gv 44 #[vv])
    (hl0:W0.heap.size <= gv) (hlB:gl < B0 /\ gb < B0 /\ gv < B0 /\ W0.heap.size <= B0) (hne:gl ≠ gv /\ gb ≠ gv)
    (hJE:∀ k A B,J k A -> Ext A B -> J k B) (hJS:∀ k A cs u,J k A -> Blk A gv 44 cs -> J k (A.setCell ⟨gv,0,none⟩ u))
    (hY:∀ k a f u W1,J k W1 -> Y6f W0 W1 x V l k a f u -> k < l.length -> YieldAt Fence.wide (n - 1) Tryz.prog L #[Y8e (cd l k).tide (cd l k).opn a f u] W1 fun e W'=>e = .returned (.bool true) /\ J (k + 1) W' /\ Q7p B0 W1 W')
    (h0:J 0 W) :
    CallsIn Fence.wide n Tryz.prog 178 #[.func (.yield L) #[] #[],.pointer (some ⟨gl,0,none⟩),.pointer (some ⟨gb,0,none⟩),.pointer (some ⟨gv,0,none⟩)] W fun e W'=>(∃ v,e = .returned v) /\ ∃ m,Runs x V l m /\ J m W':=by
 obtain ⟨A,capa,rfl,-,-,-⟩:=hx.nodes.opened;obtain ⟨LL,capl,rfl,-,-,-⟩:=hx.links.opened;obtain ⟨C,capc,rfl,-,-,-⟩:=hc.opened;have HX:=Lib.hid hx;have HC:=Lib.hid hc;have HOK:=Lib.hid hok;have HCO:=Lib.hid hco;have HJE:=Lib.hid hJE;have HJS:=Lib.hid hJS;have HY:=Lib.hid hY;have HL:=Lib.hid hlen;have HBN:=Lib.hid hbn;have HLB:=Lib.hid hlB;have HNE:=Lib.hid hne;have HL0:=Lib.hid hl0;obtain ⟨m,hm⟩:∃ z,l.length = z:=⟨_,rfl⟩;have HM:=Lib.hid hm;have HMB:Hid (m <= 4096):=Lib.hid (by rw [<- hm]; exact hlm)
 rw [hm] at kl;have c0:=kl.cell 0;simp only [Go.Tw.gA,Go.Tw.gB] at c0;have H0:Hid (J 0 W /\ Ext W0 W /\ Blk W gl 45 #[.slice C m capc] /\ Blk W gb 40 #[.slice A x.nodes.length capa,.slice LL x.links.length capl] /\ (∃ u,Blk W gv 44 #[u] /\ (Q0b W0 u (Q3a x V l 0) ∨ Q0g W 0 3 (.int .i64) u (Q3a x V l 0)))):=Lib.hid ⟨h0,hX,kl,kb,vv,kv,.inl hV⟩;clear hx hc hok hco hJE hJS hY hlen hbn hlB hne hl0 hm hlm h0 hX kl kb kv hV;refine callsIn_of_wp Tryz.func178 rfl trivial ?_ rfl;simp only [Tryz.ntmps178,List.size_toArray,List.length_cons,List.length_nil,Nat.reduceAdd,Nat.reduceSub,Array.replicate_succ,Array.replicate_zero,List.push_toArray,List.append_toArray,List.nil_append,List.cons_append]
 gi_wp2
 clear c0
 gi_loopw [12] (fun iv wr=>∃ k:Nat,k <= m /\ iv = .int .i64 k /\ (∀ j,j < k -> Q2t x V l j = true) /\ J k wr /\ Ext W0 wr /\ Blk wr gl 45 #[.slice C m capc] /\ Blk wr gb 40 #[.slice A x.nodes.length capa,.slice LL x.links.length capl] /\ (∃ u,Blk wr gv 44 #[u] /\ (Q0b W0 u (Q3a x V l k) ∨ Q0g wr 0 3 (.int .i64) u (Q3a x V l k)))) (fun iv _=>m - (intOf iv).toNat)
 case atStart=>exact ⟨0,Nat.zero_le _,rfl,fun j hj=>absurd hj (Nat.not_lt_zero _),H0.out⟩
 case round =>
  obtain ⟨k,hk,rfl,hfi,hj,hxr,kl,kb,u,kv,hu⟩:=hrel;clear H0;have HFI:=Lib.hid hfi;have HJ:=Lib.hid hj;have HXR:=Lib.hid hxr;have HKL:=Lib.hid kl;have HKB:=Lib.hid kb;have HKV:=Lib.hid kv
  by_cases hlt:k < m
  . have hkI:(k:Int) < (m:Int):=by omega
    have HK:=Lib.hid hlt;have HWK:Hid (wrap64 ((k:Int) + 1) = (k:Int) + 1):=Lib.hid (by have:=HMB.out; unfold wrap64; omega)
    obtain ⟨L9,c9,h9,-,-,hcx⟩:=HC.out.opened;obtain ⟨bx,ox,a,hbx,-,d0,d1,d2,ha⟩:=hcx k (by rw [HM.out]; exact hlt)
    injection h9 with k1 k2 k3;subst k1 k3;subst hbx;have hcl:=HCO.out.len k (by rw [HM.out]; exact hlt)
    have hci:=HCO.out.inflow k (by rw [HM.out]; exact hlt)
    have hct:=HCO.out.tide k (by rw [HM.out]; exact hlt)
    have hvb:=X5c HOK.out HL.out HBN.out HCO.out k (by rw [HM.out]; omega) hfi
    have hvl:=Q5m x V l k;rw [HL.out] at hvl;have hyy:=fun f u W1=>HY.out k a f u W1;have hfe:Q2t x V l k = (Q3b x (Q3a x V l k) (cd l k)).2.1:=rfl;have hfl:Q8f x V l k = (Q3b x (Q3a x V l k) (cd l k)).2.2:=rfl;have hvo:Q3a x V l (k + 1) = (Q3b x (Q3a x V l k) (cd l k)).1:=rfl;obtain ⟨c,hcc⟩:∃ z,cd l k = z:=⟨_,rfl⟩;rw [hcc] at d0 d1 ha hcl hci hct hyy hfe hfl hvo;obtain ⟨td,op,ins⟩:=c;dsimp only at d0 d1 ha hcl hci hct hyy;obtain ⟨AI,capi,rfl,-,-,-⟩:=ha.opened;replace d0:=hxr.cell d0;replace d1:=hxr.cell d1;replace d2:=hxr.cell d2;have hin:Q0b W0 (.slice AI ins.length capi) (cd l k).inflow:=by rw [hcc]; exact ha
    have HIN:=Lib.hid hin;have HYY:=Lib.hid hyy;have HFE:=Lib.hid hfe;have HFL:=Lib.hid hfl;have HVO:=Lib.hid hvo;have hcond:∀ W',Ext W0 W' -> X6h W' (.agg #[.int .i64 td,.bool op,.slice AI ins.length capi]) ⟨td,op,ins⟩:=fun W' h=>⟨_,rfl,ha.ext h⟩;have HCD:=Lib.hid hcond;obtain ⟨U,hU⟩:∃ z,Q3a x V l k = z:=⟨_,rfl⟩;rw [hU] at hu hvb hvl HFE HFL HVO;have HU:=Lib.hid hu;have HSTEP:Hid (∀ W',Ext wr W' -> Calls Tryz.prog 179 #[.agg #[.slice A x.nodes.length capa,.slice LL x.links.length capl],u,.agg #[.int .i64 td,.bool op,.slice AI ins.length capi]] W' fun e w'=>∃ f b,e = .returned (.tuple #[f,.slice (some ⟨b,0,none⟩) x.nodes.length x.nodes.length,.bool (Q3b x U ⟨td,op,ins⟩).2.1]) /\ Q0g w' 0 3 (.int .i64) f (Q3b x U ⟨td,op,ins⟩).2.2 /\ Q0g w' 0 3 (.int .i64) (.slice (some ⟨b,0,none⟩) x.nodes.length x.nodes.length) (Q3b x U ⟨td,op,ins⟩).1 /\ Ext W' w'):=Lib.hid fun W' hw=>by
     refine Z0t W' _ _ _ x U ⟨td,op,ins⟩ ⟨_,_,rfl,HX.out.ext (HXR.out.trans hw)⟩ ?_ (HCD.out W' (HXR.out.trans hw)) HOK.out hvl hcl hvb hci hct
     rcases HU.out with h | h
     . exact h.ext (HXR.out.trans hw)
     . exact (h.ints (by rw [hvl]; have:=HOK.out.some; omega)).ext hw
    have hsl:(Q3b x U ⟨td,op,ins⟩).2.2.length = x.links.length:=by unfold Q3b; exact Q5p _ _ _ _ _
    obtain ⟨st,hst⟩:∃ z,Q3b x U ⟨td,op,ins⟩ = z:=⟨_,rfl⟩;rw [hst] at HSTEP HFE HFL HVO hsl;obtain ⟨so,sq,sf⟩:=st;dsimp only at HSTEP HFE HFL HVO hsl;have HSL:Hid (sf.length <= 17592186043904):=Lib.hid (by rw [hsl]; have:=HOK.out.many; omega)
    clear hsl;have hkb2:=Blk.made wr 49 #[.int .i64 td,.bool op,.slice AI ins.length capi];have hxb:=Ext.box wr (.cells #[.int .i64 td,.bool op,.slice AI ins.length capi] 49);have e0:=hkb2.cell 0;have e1:=hkb2.cell 1;have e2:=hkb2.cell 2;have b0:=kb.cell 0;have b1:=kb.cell 1;have v0:=kv.cell 0;simp only [Go.Tw.gA,Go.Tw.gB,Go.Tw.gC] at e0 e1 e2 b0 b1 v0;replace b0:=hxb.cell b0;replace b1:=hxb.cell b1;replace v0:=hxb.cell v0;have HKC:=Lib.hid hkb2;have HXB:=Lib.hid hxb;clear hcx hk hfi hj hxr kl kb kv hu hlt hcl hci hct hvb hvl hyy hfe hfl hvo ha hin hcond hkb2 hxb k2 hst hU hcc
    gi_wp2_with fail
    refine ⟨trivial,(callsIn_wide.2 (HSTEP.out _ HXB.out)).mono ?_⟩;rintro e w8 ⟨f,b,rfl,hf,hv,hx8⟩;obtain ⟨FA,capf,rfl,-,-,-⟩:=(hf.ints HSL.out).opened;have HX8:=Lib.hid (HXR.out.trans (HXB.out.trans hx8));have HW8:=Lib.hid (HXB.out.trans hx8);have HF:=Lib.hid hf;have HV:=Lib.hid hv;have HJ8:Hid (J k w8):=Lib.hid (HJE.out k _ _ HJ.out HW8.out);have HKL8:=Lib.hid (HKL.out.ext HW8.out);have HKB8:=Lib.hid (HKB.out.ext HW8.out);have HKV8:=Lib.hid (HKV.out.ext HW8.out);replace e0:=hx8.cell e0;replace e1:=hx8.cell e1;replace e2:=hx8.cell e2;clear b0 b1 v0 hf hv hx8 d0 d1 d2 HSTEP HKC HXB HKL HKB HKV HJ HXR;cases sq with
    | true =>
      have hp:Y6f W0 w8 x V l k (.slice AI ins.length capi) (.slice FA sf.length capf) (.slice (some ⟨b,0,none⟩) x.nodes.length x.nodes.length):=⟨HIN.out,by rw [HFL.out]; exact HF.out,by rw [if_pos HFE.out]; exact ⟨⟨_,rfl⟩,by rw [HVO.out]; exact HV.out⟩⟩
      obtain ⟨fn,tmps,assign,body,hy,hR⟩:=HYY.out (.slice FA sf.length capf) _ w8 HJ8.out hp (by rw [HM.out]; exact HK.out)
      have HR:=Lib.hid hR;simp only [Y8e,Q8z] at hy;clear hp hR
      gi_wp2
      refine HR.out.mono ?_;rintro e W3 ⟨rfl,hJ3,hk3⟩;have HJ3:=Lib.hid hJ3;have HK3:=Lib.hid hk3;have hkv3:=HKV8.out.below hk3.1 HLB.out.2.2.1;have HKV3:=Lib.hid hkv3;have v0:=hkv3.cell 0;have f0:=hkv3.frozen 0;simp only [Go.Tw.gA,Go.Tw.gB] at v0;clear hJ3 hk3 hkv3 hy HR e0 e1 e2
      gi_wp2
      go_roundw
      case rel =>
       refine ⟨k + 1,by have:=HK.out; omega,by (try rw [HWK.out]); go_num,fun j hj=>?_,HJS.out (k + 1) W3 _ _ HJ3.out HKV3.out,?_,?_,?_,?_⟩
       . rcases Nat.lt_succ_iff_lt_or_eq.1 hj with h | rfl
         . exact HFI.out j h
         . exact HFE.out
       . exact (Below.trans HX8.out (HK3.out.1.mono HLB.out.2.2.2)).setCell (p:=⟨gv,0,none⟩) HL0.out _
       . exact (HKL8.out.below HK3.out.1 HLB.out.1).off HNE.out.1 _
       . exact (HKB8.out.below HK3.out.1 HLB.out.2.1).off HNE.out.2 _
       . refine ⟨_,HKV3.out.set 0 _,.inr ?_⟩
         rw [HVO.out];exact Q3e (HK3.out.2 _ _ HV.out) HKV3.out (by decide)
      case measure=>have:=HK.out; (try rw [HWK.out]); simp [intOf]; omega
    | false =>
      have hp:Y6f W0 w8 x V l k (.slice AI ins.length capi) (.slice FA sf.length capf) (.slice none 0 0):=⟨HIN.out,by rw [HFL.out]; exact HF.out,by rw [if_neg (by rw [HFE.out]; decide)]⟩
      obtain ⟨fn,tmps,assign,body,hy,hR⟩:=HYY.out (.slice FA sf.length capf) _ w8 HJ8.out hp (by rw [HM.out]; exact HK.out)
      have HR:=Lib.hid hR;simp only [Y8e,Q8z] at hy;clear hp hR
      gi_wp2
      refine HR.out.mono ?_;rintro e W3 ⟨rfl,hJ3,-⟩;have HJ3:=Lib.hid hJ3;clear hJ3 hy HR e0 e1 e2
      gi_wp2
      refine bodyPost_ret (results_none rfl _ _ _) rfl ?_;exact ⟨⟨_,rfl⟩,k + 1,.inr ⟨k,by rw [HM.out]; exact HK.out,rfl,HFE.out,HFI.out⟩,HJ3.out⟩
  . obtain rfl:k = m:=by omega
    have hkI:¬ (k:Int) < (k:Int):=by omega
    clear kl kb kv hu hxr hfi
    gi_wp2
    go_end0
    exact ⟨⟨_,rfl⟩,k,.inl ⟨HM.out.symm,HFI.out⟩,HJ.out⟩
end Go.Proofs
namespace Go.Tw
open Go.RowKit Go.Flow
def Z5g (F:Fence) (n:Nat) (P:Program) (gf:Nat) (lb:Array Value) (gv:Nat) (T:TypeId) (Y:Nat -> Value -> World -> Prop) (Kp:World -> World -> Prop) (S:Nat -> Prop) (N:Nat) (w:World):Prop :=
 ∀ (l:Nat) (J:Nat -> World -> Prop) (W:World),Ext w W -> (∀ k A B,J k A -> Ext A B -> J k B) -> (∀ k A cs u,J k A -> Blk A gv T cs -> J k (A.setCell ⟨gv,0,none⟩ u)) ->
  (∀ k v W1,J k W1 -> Y k v W1 -> k < N -> YieldAt F (n - 1) P l #[v] W1 fun e W'=>e = .returned (.bool true) /\ J (k + 1) W' /\ Kp W1 W') -> J 0 W ->
  CallsIn F n P gf (#[.func (.yield l) #[] #[]] ++ lb) W fun e W'=>(∃ v,e = .returned v) /\ ∃ m,S m /\ J m W'
theorem Q8n {F:Fence} {n:Nat} {P:Program} {g:Operand} {ps:Array Tmp} {assign body:Code} {Q:Exit -> Act -> World -> Prop} {a:Act} {w:World}
    (hro:F.round = none) (h1:1 <= n) {gf:Nat} {lb:Array Value} (hg:a.eval g = .func (.func gf) #[] lb) (hFg:F.fn gf) (eg:∀ args w,(callFunc gf args).run P w = .ok (.enter gf args) w) (hps:ps.size = 1)
    (gv:Nat) (T:TypeId) (hgv:gv < w.heap.size) (I:Nat -> World -> Prop) (Y:Nat -> Value -> World -> Prop) (Kp:World -> World -> Prop) (S:Nat -> Prop) (N:Nat)
    (hseq:Z5g F (n - 1) P gf lb gv T Y Kp S N w)
    (hIE:∀ k A B,I k A -> Ext A B -> I k B) (hIs:∀ k A cs u,I k A -> Blk A gv T cs -> I k (A.setCell ⟨gv,0,none⟩ u))
    (hIp:∀ k A l o o',I k A -> w.heap.size <= l -> A.heap[l]? = some o -> o.isCells = false -> I k (A.putObj l o'))
    (hKt:∀ {A B C:World},Kp A B -> Kp B C -> Kp A C) (hKb:∀ (W:World) (l:Nat) (o o':Obj),w.heap.size <= l -> W.heap[l]? = some o -> o.isCells = false -> Kp W (W.putObj l o')) (h0:I 0 w)
    (hround:∀ (l k:Nat) (v:Value) (W:World),w.heap.size <= l -> I k W -> Y k v W -> k < N ->
     assign.wpIn (F.inRound l) (n - 1 - 1) P (Exit.then (fun a1 W1=>KeepsFrom w.heap.size W W1 /\ Kp W W1 /\ ∀ (r r':Loop),W1.heap[l]? = some (.loop r) ->
      body.wpIn (F.inRound l) (n - 1 - 1) P (fun e _ W3=>e = .normal /\ KeepsFrom w.heap.size (W1.putObj l (.loop r')) W3 /\ Kp (W1.putObj l (.loop r')) W3 /\ I (k + 1) W3) a1 (W1.putObj l (.loop r'))) (fun _ _ _=>False))
      { tmps:=(ps.zip #[v]).foldl (fun t (p,v)=>t.setIfInBounds p v) a.tmps,defers:=[] } W)
    (hdone:∀ (D m:Nat) (W:World),w.heap.size <= D -> S m -> I m W -> W.heap[D]? = some (.deferred (some [])) -> Q .normal { a with defers:={ target:=.collected D,args:=#[] } :: a.defers } W) :
    (Code.rangeFunc g ps assign body).wpIn F n P Q a w:=by
 refine wpIn_rangeFunc ?_;intro fn hfn;rw [hro];obtain ⟨rec,hrec⟩:∃ rec:LoopState -> Option Code -> Loop,rec = fun st pe=>{ state:=st,pending:=pe,fn,tmps:=a.tmps,params:=ps,assign,body,defers:=w.heap.size }:=⟨_,rfl⟩
 obtain ⟨W1,hW1⟩:∃ W1,(w.alloc (.deferred (some []))).alloc (.loop (rec .ready none)) = W1:=⟨_,rfl⟩;have hL1:W1.heap[w.heap.size + 1]? = some (.loop (rec .ready none)):=by
  rw [<- hW1]; have:=World.alloc_heap_new (w.alloc (.deferred (some []))) (.loop (rec .ready none)); rwa [World.size_alloc] at this
 have hK1:W1.heap[w.heap.size]? = some (.deferred (some [])):=by
  rw [<- hW1]; exact (Below.heap_alloc _ _ _ (by simp)).trans (World.alloc_heap_new w _)
 have hx1:Ext w W1:=by rw [<- hW1]; exact (Ext.box w _).trans (Ext.box _ _)
 have hI1:I 0 W1:=hIE _ _ _ h0 hx1;refine ⟨w.heap.size + 1,[{ target:=.collected w.heap.size,args:=#[] }],W1,{ target:=.fn (.func gf) lb,args:=#[.func (.yield (w.heap.size + 1)) #[] #[]] },W1,gf,
  #[.func (.yield (w.heap.size + 1)) #[] #[]] ++ lb,W1,?_,?_,?_,?_,fun _=>h1,?_⟩
 . rw [<- hW1,hrec]; exact run_enterLoop_outer _ _ _ _ _
 . simp only [resolve,hg]
   simp [go_sem]
 . intro f' hf'; simp [Target.leads] at hf'; subst hf'; exact hFg
 . simp [invoke,go_sem,eg]
 . refine (hseq (w.heap.size + 1) (fun k W=>I k W /\ W.heap[w.heap.size + 1]? = some (.loop (rec .ready none)) /\ W.heap[w.heap.size]? = some (.deferred (some []))) W1 hx1
    (fun k A B hs hx=>⟨hIE _ _ _ hs.1 hx,(Below.block hx _ (Array.getElem?_eq_some_iff.1 hs.2.1).1).trans hs.2.1,(Below.block hx _ (Array.getElem?_eq_some_iff.1 hs.2.2).1).trans hs.2.2⟩)
    (fun k A cs u hs hb=>⟨hIs _ _ _ _ hs.1 hb,(Below.heap_setCell _ _ _ _ (by show w.heap.size + 1 ≠ gv; omega)).trans hs.2.1,(Below.heap_setCell _ _ _ _ (by show w.heap.size ≠ gv; omega)).trans hs.2.2⟩)
    ?_ ⟨hI1,hL1,hK1⟩).mono ?_
   . rintro k x W ⟨hi,hl,hk⟩ hyx hlen
     have hlt:w.heap.size + 1 < W.heap.size:=(Array.getElem?_eq_some_iff.1 hl).1;have hy:=run_yield (P:=P) (args:=#[x]) hl (by rw [hrec]; exact hps.symm)
     rw [hrec] at hy;refine ⟨fn,_,assign,body,hy,roundIn_of_wpIn hfn (wpIn_mono (hround (w.heap.size + 1) k x W (by omega) hi hyx hlen) ?_)⟩
     clear hy;rintro e a1 Wa ha;cases e with
     | normal =>
       obtain ⟨hkfa,hkpa,hb⟩:=ha;have hla:=hkfa.same _ _ (by omega) hl rfl
       have hka:=hkfa.same _ _ (Nat.le_refl _) hk rfl;have hlta:w.heap.size + 1 < Wa.heap.size:=(Array.getElem?_eq_some_iff.1 hla).1;refine ⟨_,run_beginRound hla (by rw [hrec]),?_⟩
       have hl2:(Wa.putObj (w.heap.size + 1) (.loop { rec .ready none with state:=.busy })).heap[w.heap.size + 1]? = some (.loop { rec .ready none with state:=.busy }):=World.putObj_heap_same hlta;have hk2:(Wa.putObj (w.heap.size + 1) (.loop { rec .ready none with state:=.busy })).heap[w.heap.size]? = some (.deferred (some [])):=(World.putObj_heap_other (by omega)).trans hka
       have hw2:Kp Wa (Wa.putObj (w.heap.size + 1) (.loop { rec .ready none with state:=.busy })):=hKb _ _ _ _ (by omega) hla rfl
       refine wpIn_mono (hb _ { rec .ready none with state:=.busy } hla) ?_;rintro e a3 W3 ⟨rfl,hk3,hkp3,hi3⟩;have hl3:=hk3.same _ _ (by omega) hl2 rfl
       have hr:=run_endRound (P:=P) none hl3;have hlt3:=(Array.getElem?_eq_some_iff.1 hl3).1;rw [hrec] at hr hl3;refine ⟨_,_,hr,rfl,⟨hIp _ _ _ _ _ hi3 (by omega) hl3 rfl,?_,?_⟩,hKt hkpa (hKt (hKt hw2 hkp3) (hKb _ _ _ _ (by omega) hl3 rfl))⟩
       . rw [hrec]; exact World.putObj_heap_same hlt3
       . exact (World.putObj_heap_other (by omega)).trans (hk3.same _ _ (Nat.le_refl _) hk2 rfl)
     | ret=>exact ha.elim
     | exit id=>exact ha.elim
     | goto t=>exact ha.elim
     | panic ch=>exact ha.elim
     | outgrown=>exact ha.elim
   . rintro e W2 ⟨⟨v,rfl⟩,m,hS,hi,hl,hk⟩
     exact ⟨none,_,by have:=run_endLoop (P:=P) hl (by rw [hrec]; simp); rw [hrec] at this; exact this,hdone _ m _ (Nat.le_refl _) hS (hIp _ _ _ _ _ hi (by omega) hl rfl) ((World.putObj_heap_other (by omega)).trans hk)⟩
end Go.Tw
namespace Go.Tw
open Go.RowKit Go.Flow Go.Ba
structure PsV where
 td:Int
 op:Bool
 a:Value
 f:Value
 u:Value
def Z4d (p:PsV):List Value:=[.int .i64 p.td,.bool p.op,p.a,p.f,p.u]
def X8c (W0 W:World) (x:Q1b) (V:List Int) (l:List Cond) (ps:List PsV):Prop:=∀ k (h:k < ps.length),ps[k].td = (cd l k).tide /\ ps[k].op = (cd l k).opn /\ Y6f W0 W x V l k ps[k].a ps[k].f ps[k].u
theorem X8c.keep {B:Nat} {W0 W W':World} {x:Q1b} {V:List Int} {l:List Cond} {ps:List PsV} (h:X8c W0 W x V l ps) (hk:Q7p B W W'):X8c W0 W' x V l ps:=fun k hl=>⟨(h k hl).1,(h k hl).2.1,(h k hl).2.2.keep hk⟩
theorem X8c.snoc {W0 W:World} {x:Q1b} {V:List Int} {l:List Cond} {ps:List PsV} {p:PsV} (h:X8c W0 W x V l ps) (h1:p.td = (cd l ps.length).tide) (h2:p.op = (cd l ps.length).opn) (h3:Y6f W0 W x V l ps.length p.a p.f p.u):X8c W0 W x V l (ps ++ [p]):=fun k hk=>by
 by_cases e:k < ps.length
 . rw [List.getElem_append_left e]; exact h k e
 . have e2:k = ps.length:=by rw [List.length_append,List.length_singleton] at hk; omega
   subst e2;rw [List.getElem_append_right (Nat.le_refl _)];simp only [Nat.sub_self,List.getElem_cons_zero];exact ⟨h1,h2,h3⟩
theorem X4f {B:Nat} {W W':World} (h:Ext W W') (hB:B <= W.heap.size):Q7p B W W':=⟨h.mono hB,fun _ _ hv=>Q0g.below hv h⟩
theorem Q4e {W:World} {l:Nat} {o:Obj} (o':Obj) (hl:W.heap[l]? = some o) (ho:o.isCells = false) (b:Nat) (c:Obj) (hb:W.heap[b]? = some c) (hc:c.isCells = true):(W.putObj l o').heap[b]? = some c:=by
 refine (World.putObj_heap_other (fun e=>?_)).trans hb;subst e;rw [hl] at hb; cases hb; rw [ho] at hc; cases hc
theorem X6v {α:Type} {W W':World} {base:Nat} {e:TypeId} {enc:α -> Value} {v:Value} {l:List α} (h:Q0g W base e enc v l) (hk:∀ (b:Nat) (o:Obj),W.heap[b]? = some o -> o.isCells = true -> W'.heap[b]? = some o):Q0g W' base e enc v l:=by
 obtain ⟨h1,h2⟩:=h;refine ⟨h1,?_⟩
 rcases h2 with h2 | ⟨g,cap,cur,hv,hbg,hg,r⟩
 . exact .inl h2
 . exact .inr ⟨g,cap,cur,hv,hbg,hk _ _ hg rfl,r⟩
theorem Q9u {α:Type} {W W':World} {base k:Nat} {e:TypeId} {enc:α -> List Value} {v:Value} {l:List α} (h:Q1r W base e k enc v l) (hk:∀ (b:Nat) (o:Obj),W.heap[b]? = some o -> o.isCells = true -> W'.heap[b]? = some o):Q1r W' base e k enc v l:=by
 obtain ⟨h1,h2⟩:=h;refine ⟨h1,?_⟩
 rcases h2 with h2 | ⟨g,cap,cur,hv,hbg,hg,r⟩
 . exact .inl h2
 . exact .inr ⟨g,cap,cur,hv,hbg,hk _ _ hg rfl,r⟩
theorem X3t {B:Nat} {w W:World} (hB:B <= w.heap.size) {l:Nat} {o:Obj} (o':Obj) (hw:w.heap.size <= l) (hl:W.heap[l]? = some o) (ho:o.isCells = false):Q7p B W (W.putObj l o') :=
 ⟨(Below.refl B W).grown (grownBy_putObj' W l o') (by have:=(Array.getElem?_eq_some_iff.1 hl).1; omega) (fun k e=>by cases e; omega),fun _ _ hv=>X6v hv (Q4e o' hl ho)⟩
def X5m (W0:World) (x:Q1b) (V:List Int) (l:List Cond) (gs k:Nat) (W:World):Prop:=∃ v ps,ps.length = k /\ Blk W gs 121 #[v] /\ Q1r W gs 125 5 Z4d v ps /\ X8c W0 W x V l ps /\ Ext W0 W
theorem X5m.ext {W0:World} {x:Q1b} {V:List Int} {l:List Cond} {gs k:Nat} {A B:World} (h:X5m W0 x V l gs k A) (hx:Ext A B):X5m W0 x V l gs k B:=by
 obtain ⟨v,ps,h1,h2,h3,h4,h5⟩:=h;exact ⟨v,ps,h1,h2.ext hx,Q1r.below h3 hx,h4.keep (X4f hx (Nat.le_refl _)),h5.trans hx⟩
theorem X5m.set {W0:World} {x:Q1b} {V:List Int} {l:List Cond} {gs k gv:Nat} {A:World} {cs:Array Value} {u:Value} (h:X5m W0 x V l gs k A) (hb:Blk A gv 44 cs) (hg:gv < gs) (h0:W0.heap.size <= gv):X5m W0 x V l gs k (A.setCell ⟨gv,0,none⟩ u):=by
 obtain ⟨v,ps,h1,h2,h3,h4,h5⟩:=h;have hk:Q7p 0 A (A.setCell ⟨gv,0,none⟩ u):=⟨(Below.refl 0 A).setCell (p:=⟨gv,0,none⟩) (Nat.zero_le _) u,fun _ _ hv=>Q3e hv hb (by decide)⟩
 exact ⟨v,ps,h1,h2.off (by omega) u,Q1r.setCell h3 (p:=⟨gv,0,none⟩) hg u,h4.keep hk,Below.setCell h5 (p:=⟨gv,0,none⟩) h0 u⟩
theorem X5m.put {W0:World} {x:Q1b} {V:List Int} {l:List Cond} {gs k:Nat} {A:World} (h:X5m W0 x V l gs k A) {j:Nat} {o:Obj} (o':Obj) (hj:W0.heap.size <= j) (hl:A.heap[j]? = some o) (ho:o.isCells = false):X5m W0 x V l gs k (A.putObj j o'):=by
 obtain ⟨v,ps,h1,h2,h3,h4,h5⟩:=h;have hk:Q7p W0.heap.size A (A.putObj j o'):=⟨(Below.refl W0.heap.size A).grown (grownBy_putObj' A j o') h5.size (fun k e=>by cases e; exact hj),fun _ _ hv=>X6v hv (Q4e o' hl ho)⟩
 exact ⟨v,ps,h1,Q4e o' hl ho _ _ h2 rfl,Q9u h3 (Q4e o' hl ho),h4.keep hk,Below.trans h5 hk.1⟩
end Go.Tw
namespace Go.Proofs
open Go.RowKit Go.Tw Go.Flow Go.Ba Go.Shelf
attribute [local go_sem] Oper.semAt_some
theorem Tryz.Z3k:(Tryz.prog.info? 125).map (fun i=>(i.zero,i.size,i.bytes)) = some (some (.agg #[.int .i64 0,.bool false,.slice none 0 0,.slice none 0 0,.slice none 0 0]),5,88):=by kernel_rfl
theorem X7l (W0 w:World) (x:Q1b) (V:List Int) (l:List Cond) (va vl vv vc:Value) (gl gb gv:Nat)
    (hx:Q5x W0 va vl x) (hV:Q0b W0 vv V) (hc:Q1v W0 vc l) (hok:x.Ok) (hlen:V.length = x.nodes.length) (hbn:Bnd V 100000000) (hco:Q5i x l) (hlm:l.length <= 4096)
    (hX:Ext W0 w) (kl:Blk w gl 45 #[vc]) (kb:Blk w gb 40 #[va,vl]) (kv:Blk w gv 44 #[vv]) (hl0:W0.heap.size <= gv) (hne:gl ≠ gv /\ gb ≠ gv) :
    Calls Tryz.prog 177 #[.slice none 0 0,.func (.func 178) #[] #[.pointer (some ⟨gl,0,none⟩),.pointer (some ⟨gb,0,none⟩),.pointer (some ⟨gv,0,none⟩)]] w fun e w' =>
     ∃ v ps,e = .returned v /\ Q1r w' w.heap.size 125 5 Z4d v ps /\ Runs x V l ps.length /\ X8c W0 w' x V l ps /\ Ext W0 w':=by
 obtain ⟨i0,hi,hz0,hz1,hz2⟩:=info_parts Tryz.Z3k;refine (callsIn_wide (n:=12)).1 ?_;refine callsIn_of_wp_marks Tryz.func177 rfl trivial ?_ rfl;simp only [Tryz.ntmps177,List.size_toArray,List.length_cons,List.length_nil,Nat.reduceAdd,Nat.reduceSub,Array.replicate_succ,Array.replicate_zero,List.push_toArray,List.append_toArray,List.nil_append,List.cons_append]
 gi_wp2
 have hxb:=Ext.box w (.cells #[.slice none 0 0] 121);have hkb:=Blk.made w 121 #[.slice none 0 0];have hsz:(w.alloc (.cells #[.slice none 0 0] 121)).heap.size = w.heap.size + 1:=World.size_alloc _ _;obtain ⟨W1,hW1⟩:∃ z,w.alloc (.cells #[.slice none 0 0] 121) = z:=⟨_,rfl⟩;rw [hW1] at hxb hkb hsz ⊢;have hgv:=kv.lt;have hgl:=kl.lt;have hgb:=kb.lt;have h0w:W0.heap.size <= w.heap.size:=hX.size;refine Q8n (n:=12) rfl (by omega) (gf:=178) (lb:=#[.pointer (some ⟨gl,0,none⟩),.pointer (some ⟨gb,0,none⟩),.pointer (some ⟨gv,0,none⟩)]) rfl trivial (enters_of Tryz.func178 (by kernel_rfl) rfl) rfl
  gv 44 (by omega) (X5m W0 x V l w.heap.size) (fun k v W=>∃ a f u,v = Y8e (cd l k).tide (cd l k).opn a f u /\ Y6f W0 W x V l k a f u) (Q7p w.heap.size) (Runs x V l) l.length
  ?seq (fun k A B h hx=>h.ext hx) (fun k A cs u h hb=>h.set hb (by omega) hl0) (fun k A j o o' h hj hl ho=>h.put o' (by omega) hl ho) (fun h k=>h.trans k) (fun W j o o' hj hl ho=>X3t (w:=W1) (by omega) o' hj hl ho)
  ⟨_,[],rfl,hkb,Q1r.nil _ _ _ _ _,fun k hk=>absurd hk (Nat.not_lt_zero _),hX.trans hxb⟩ ?round ?done
 case seq =>
  intro j J W hx' hJE hJS hY hJ0;have hxw:=hxb.trans hx';exact X8b 11 j (by omega) W0 W x V l va vl vv vc gl gb gv w.heap.size J hx hV hc hok hlen hbn hco hlm (hX.trans hxw) (kl.ext hxw) (kb.ext hxw) (kv.ext hxw) hl0 ⟨hgl,hgb,hgv,h0w⟩ hne hJE hJS
   (fun k a f u W1 hj hp hk=>hY k _ W1 hj ⟨a,f,u,rfl,hp⟩ hk) hJ0
 case round =>
  rintro j k v W hj ⟨v0,ps,rfl,hb,ho,hp,hx2⟩ ⟨a,f,u,rfl,hpr⟩ hk;obtain ⟨AI,capi,rfl,-,-,-⟩:=hpr.inflow.opened;have hfl:(Q8f x V l ps.length).length = x.links.length:=by unfold Q8f Q3b; exact Q5p _ _ _ _ _
  obtain ⟨FA,capf,rfl,-,-,-⟩:=(hpr.flows.ints (by rw [hfl]; have:=hok.many; omega)).opened
  obtain ⟨UA,un,uc,rfl⟩:∃ A n c,u = .slice A n c:=by
   have hv:=hpr.vols
   by_cases e:Q2t x V l ps.length = true
   . rw [if_pos e] at hv; obtain ⟨⟨b,rfl⟩,-⟩:=hv; exact ⟨_,_,_,rfl⟩
   . rw [if_neg e] at hv; exact ⟨_,_,_,hv⟩
  obtain ⟨lc,hlc⟩:∃ z,cd l ps.length = z:=⟨_,rfl⟩;have HLC:=Lib.hid hlc;rw [hlc] at hpr ⊢;obtain ⟨td,op,ins⟩:=lc;dsimp only;obtain ⟨nf,hnf⟩:∃ z,(Q8f x V l ps.length).length = z:=⟨_,rfl⟩;obtain ⟨ni,hni⟩:∃ z,ins.length = z:=⟨_,rfl⟩;dsimp only at hpr;rw [hnf,hni] at hpr;rw [hnf,hni];have HB:=Lib.hid hb;have HO:=Lib.hid ho;have HP:=Lib.hid hp;have HX2:=Lib.hid hx2;have HPR:=Lib.hid hpr;have HGS:Hid (w.heap.size < W.heap.size):=Lib.hid hb.lt;have HK:=Lib.hid hk;clear hfl hnf hni hb ho hp hx2 hpr hlc
  gi_wp2
  have hgs:=HGS.out;refine ⟨(KeepsOthers.alloc _ _).from _,X4f (Ext.box _ _) (by omega),?_⟩
  intro r r' hr;have hxb2:=Ext.box W (.cells (Q8z td op (.slice AI ni capi) (.slice FA nf capf) (.slice UA un uc)) 125);have hkb2:=Blk.made W 125 (Q8z td op (.slice AI ni capi) (.slice FA nf capf) (.slice UA un uc));unfold Q8z at hxb2 hkb2;obtain ⟨W2,hW2⟩:∃ z,W.alloc (.cells #[.int .i64 td,.bool op,.slice AI ni capi,.slice FA nf capf,.slice UA un uc] 125) = z:=⟨_,rfl⟩;rw [hW2] at hxb2 hkb2 hr ⊢;have hk3:Q7p w.heap.size W2 (W2.putObj j (.loop r')):=X3t (w:=W1) (by omega) _ hj hr rfl
  have hx3:Ext W0 (W2.putObj j (.loop r')):=Below.trans (HX2.out.trans hxb2) (hk3.1.mono h0w);have hb3:=Q4e (.loop r') hr rfl _ _ hkb2 rfl;have hs3:=Q4e (.loop r') hr rfl _ _ (HB.out.ext hxb2) rfl;have ho3:=Q9u (Q1r.below HO.out hxb2) (Q4e (.loop r') hr rfl);have hkw:Q7p w.heap.size W (W2.putObj j (.loop r')):=(X4f hxb2 (by omega)).trans hk3
  obtain ⟨W3,hW3⟩:∃ z,W2.putObj j (.loop r') = z:=⟨_,rfl⟩;rw [hW3] at hk3 hx3 hb3 hs3 ho3 hkw ⊢;replace hb3:Blk W3 W.heap.size 125 #[.int .i64 td,.bool op,.slice AI ni capi,.slice FA nf capf,.slice UA un uc]:=hb3;replace hs3:Blk W3 w.heap.size 121 #[v0]:=hs3;have e0:=hb3.cell 0;have e1:=hb3.cell 1;have e2:=hb3.cell 2;have e3:=hb3.cell 3;have e4:=hb3.cell 4;have s0:=hs3.cell 0;simp only [Go.Tw.gA,Go.Tw.gB,Go.Tw.gC] at e0 e1 e2 e3 e4 s0;have hxs:=hkw.1;have hlm2:ps.length <= 4096:=by omega
  have hbox:Boxed W3 w.heap.size 121 v0:=hs3;have hle:w.heap.size <= W3.heap.size:=Nat.le_of_lt hs3.lt;have HKW:=Lib.hid hkw;have HX3:=Lib.hid hx3;clear hW2 hW3 hkb2 hxb2 hr hk3 hkw hx3 hb3 hs3 HB HO HX2 hk
  gi_wp2_with (gi_at_builtin; refine wpListIn_append_own _ rfl _ _ 121 rfl (w.heap.size) 125 i0 (.agg #[.int .i64 0,.bool false,.slice none 0 0,.slice none 0 0,.slice none 0 0]) 5 88 Tryz.underlying121 hi hz0 hz1 hz2 rfl (by decide) _ _ _ rfl (World.ownsRow.alloc ho3 _) ⟨W3.heap.size,0,none⟩ 1 1 [.int .i64 td,.bool op,.slice AI ni capi,.slice FA nf capf,.slice UA un uc] rfl rfl ?_ ?_ ?_ ?_ ?_ ?_; exact Z1o _ _ _; (focus (simp [Value.oneCell'])); (focus (unfold maxLen; omega)); (focus omega); (focus (have:=hxs.size; simp at this ⊢; omega)); intro v' w1 hown' hgrow _; obtain ⟨g',cap',rfl⟩:=ownsRow_succ hown'; obtain ⟨hv1,hv2,hr2,hk2,hb2⟩:=hbox.appended (by decide) ho3 hle (Nat.le_refl _) hown' hgrow; have hc1:=hv1.cell; have hf1:=hv1.frozen)
  have hki:Q7p w.heap.size W3 (w1.setCell ⟨w.heap.size,0,none⟩ (.slice (some ⟨g',0,none⟩) (ps.length + 1) cap')):=⟨hb2,fun v L hv=>Q3e (Q2k (Q0g.below hv (Ext.box W3 _)) (World.ownsRow.alloc ho3 _) (by decide) hgrow) hv1 (by decide)⟩
  refine ⟨hk2.from _,hki,_,ps ++ [⟨td,op,.slice AI ni capi,.slice FA nf capf,.slice UA un uc⟩],by simp,hv2,Q1r.snoc (x:=(⟨td,op,.slice AI ni capi,.slice FA nf capf,.slice UA un uc⟩:PsV)) hr2,?_,Below.trans HX3.out (hki.1.mono h0w)⟩
  exact X8c.snoc ((HP.out.keep HKW.out).keep hki) (by rw [HLC.out]) (by rw [HLC.out]) ((HPR.out.keep HKW.out).keep hki)
 case done =>
  rintro D m W hD hS ⟨v,ps,rfl,hb,ho,hp,hx2⟩ hK;have c0:=hb.cell 0;simp only [Go.Tw.gA,Go.Tw.gB] at c0;have HO:=Lib.hid ho;have HP:=Lib.hid hp;have HX2:=Lib.hid hx2;have HS:=Lib.hid hS;clear hb ho hp hx2 hS
  gi_wp2
  refine ⟨by simp,.inl ⟨_,_,rfl,run_takeDeferred hK,?_⟩⟩
  have hkk:Q7p W0.heap.size W (W.putObj D (.deferred none)):=X3t (w:=W1) (by omega) _ hD hK rfl
  exact ⟨_,results_tmp rfl _ _ _,v,ps,rfl,Q9u HO.out (Q4e _ hK rfl),HS.out,HP.out.keep hkk,Below.trans HX2.out hkk.1⟩
end Go.Proofs
namespace Go.Tw
open Go.RowKit Go.Flow Go.Ba
def Z0w (v:Value):Prop:=∃ A n c,v = .slice A n c
def Z4f (_:World) (c:Nat -> Value) (p:PsV):Prop:=c 0 = .int .i64 p.td /\ c 1 = .bool p.op /\ c 2 = p.a /\ c 3 = p.f /\ c 4 = p.u /\ Z0w p.a /\ Z0w p.f /\ Z0w p.u
theorem Z4f.ext (w w':World) (c:Nat -> Value) (x:PsV) (_:Ext w w') (h:Z4f w c x):Z4f w' c x:=h
def Q6q:World -> Value -> List PsV -> Prop:=Rows 5 Z4f
theorem Q6q.ext {w w':World} {v:Value} {l:List PsV} (h:Q6q w v l) (hx:Ext w w'):Q6q w' v l:=Rows.ext Z4f.ext h hx
theorem Q6q.opened {w:World} {v:Value} {l:List PsV} (h:Q6q w v l) :
    ∃ A cap,v = .slice A l.length cap /\ l.length <= 17592186043904 /\ l.length <= cap /\ ∀ k (hk:k < l.length),∃ b off A1 n1 c1 A2 n2 c2 A3 n3 c3,A = some ⟨b,off,none⟩ /\ b < w.heap.size /\
     w.cell? ⟨b,off + k * 5,none⟩ = some (.int .i64 l[k].td) /\ w.cell? ⟨b,off + k * 5 + 1,none⟩ = some (.bool l[k].op) /\ w.cell? ⟨b,off + k * 5 + 2,none⟩ = some (.slice A1 n1 c1) /\
     w.cell? ⟨b,off + k * 5 + 3,none⟩ = some (.slice A2 n2 c2) /\ w.cell? ⟨b,off + k * 5 + 4,none⟩ = some (.slice A3 n3 c3) /\ l[k].a = .slice A1 n1 c1 /\ l[k].f = .slice A2 n2 c2 /\ l[k].u = .slice A3 n3 c3:=by
 obtain ⟨c,⟨A,cap,hv,hn,hcap,hc⟩,h2⟩:=h;refine ⟨A,cap,hv,hn,hcap,fun k hk=>?_⟩;obtain ⟨b,off,hA,h0⟩:=hc (k * 5) (by omega)
 obtain ⟨b',off',hA',h1⟩:=hc (k * 5 + 1) (by omega)
 rw [hA] at hA'; cases hA';obtain ⟨b',off',hA',h3⟩:=hc (k * 5 + 2) (by omega)
 rw [hA] at hA'; cases hA';obtain ⟨b',off',hA',h4⟩:=hc (k * 5 + 3) (by omega)
 rw [hA] at hA'; cases hA';obtain ⟨b',off',hA',h5⟩:=hc (k * 5 + 4) (by omega)
 rw [hA] at hA'; cases hA';obtain ⟨e0,e1,e2,e3,e4,⟨A1,n1,c1,s1⟩,⟨A2,n2,c2,s2⟩,⟨A3,n3,c3,s3⟩⟩:=h2 k hk;simp only [Nat.add_zero] at e0 e1 e2 e3 e4;refine ⟨b,off,A1,n1,c1,A2,n2,c2,A3,n3,c3,hA,World.block_lt_of_cell? w _ h0,?_,?_,?_,?_,?_,s1,s2,s3⟩
 . rw [h0,e0]
 . rw [Nat.add_assoc,h1,e1]
 . rw [Nat.add_assoc,h3,e2,s1]
 . rw [Nat.add_assoc,h4,e3,s2]
 . rw [Nat.add_assoc,h5,e4,s3]
theorem X8c.sl {W0 W:World} {x:Q1b} {V:List Int} {l:List Cond} {ps:List PsV} (h:X8c W0 W x V l ps) (hx:x.links.length <= 16) (p:PsV) (hp:p ∈ ps):Z0w p.a /\ Z0w p.f /\ Z0w p.u:=by
 obtain ⟨k,hk,rfl⟩:=List.getElem_of_mem hp;obtain ⟨-,-,h3⟩:=h k hk;have hfl:(Q8f x V l k).length = x.links.length:=by unfold Q8f Q3b; exact Q5p _ _ _ _ _
 obtain ⟨A1,c1,e1,-⟩:=h3.inflow.opened;obtain ⟨A2,c2,e2,-⟩:=(h3.flows.ints (by rw [hfl]; omega)).opened
 refine ⟨⟨_,_,_,e1⟩,⟨_,_,_,e2⟩,?_⟩;have hv:=h3.vols
 by_cases e:Q2t x V l k = true
 . rw [if_pos e] at hv; obtain ⟨⟨b,e3⟩,-⟩:=hv; exact ⟨_,_,_,e3⟩
 . rw [if_neg e] at hv; exact ⟨_,_,_,hv⟩
theorem Q1r.pas {w:World} {base:Nat} {v:Value} {ps:List PsV} (h:Q1r w base 125 5 Z4d v ps) (hl:ps.length <= 17592186043904) (hs:∀ p ∈ ps,Z0w p.a /\ Z0w p.f /\ Z0w p.u):Q6q w v ps :=
 Q1r.rows (R:=Z4f) h hl (fun _=>rfl) (fun p hp=>⟨rfl,rfl,rfl,rfl,rfl,hs p hp⟩) (fun c c' p hc h=>by
  obtain ⟨h0,h1,h2,h3,h4,h5⟩:=h;exact ⟨by rw [<- hc 0 (by omega)]; exact h0,by rw [<- hc 1 (by omega)]; exact h1,by rw [<- hc 2 (by omega)]; exact h2,by rw [<- hc 3 (by omega)]; exact h3,by rw [<- hc 4 (by omega)]; exact h4,h5⟩)
end Go.Tw
namespace Go.Proofs
open Go.RowKit Go.Tw Go.Flow Go.Ba Go.Shelf
attribute [local go_sem] Oper.semAt_some
theorem Y1a (w:World) (A B C D:Option Addr) (n capa m capl nv capv nc capc:Nat) :
    Calls Tryz.prog 146 #[.agg #[.slice A n capa,.slice B m capl],.slice C nv capv,.slice D nc capc] w fun e w'=>∃ gl gb gv,e = .returned (.func (.func 178) #[] #[.pointer (some ⟨gl,0,none⟩),.pointer (some ⟨gb,0,none⟩),.pointer (some ⟨gv,0,none⟩)]) /\
     Blk w' gl 45 #[.slice D nc capc] /\ Blk w' gb 40 #[.slice A n capa,.slice B m capl] /\ Blk w' gv 44 #[.slice C nv capv] /\ w.heap.size <= gv /\ gl ≠ gv /\ gb ≠ gv /\ Ext w w':=by
 go_enter Tryz.func146,Tryz.ntmps146;go_upto_region 1 with fail;obtain ⟨W,hWW,k0,k1,k2,HXW,eW⟩:=X3m w 40 #[.slice A n capa,.slice B m capl] 44 #[.slice C nv capv] 45 #[.slice D nc capc];rw [hWW];clear hWW;go_wp2;go_ret;exact ⟨_,_,_,rfl,k2,k0,k1,by omega,by omega,by omega,HXW.out⟩
theorem Y2t (W0 w:World) (x:Q1b) (V:List Int) (l:List Cond) (va vl vv vc:Value) (gl gb gv:Nat)
    (hx:Q5x W0 va vl x) (hV:Q0b W0 vv V) (hc:Q1v W0 vc l) (hok:x.Ok) (hlen:V.length = x.nodes.length) (hbn:Bnd V 100000000) (hco:Q5i x l) (hlm:l.length <= 4096)
    (hX:Ext W0 w) (kl:Blk w gl 45 #[vc]) (kb:Blk w gb 40 #[va,vl]) (kv:Blk w gv 44 #[vv]) (hl0:W0.heap.size <= gv) (hne:gl ≠ gv /\ gb ≠ gv) :
    Calls Tryz.prog 145 #[.func (.func 178) #[] #[.pointer (some ⟨gl,0,none⟩),.pointer (some ⟨gb,0,none⟩),.pointer (some ⟨gv,0,none⟩)]] w fun e w' =>
     ∃ v ps,e = .returned v /\ Q6q w' v ps /\ Runs x V l ps.length /\ X8c W0 w' x V l ps /\ Ext W0 w':=by
 have HC:=Lib.hid (X7l W0 w x V l va vl vv vc gl gb gv hx hV hc hok hlen hbn hco hlm hX kl kb kv hl0 hne);have HM:=Lib.hid hok.many;have HL:=Lib.hid hlm;clear hx hV hc hok hlen hbn hco hX kl kb kv hl0 hne hlm;go_enter Tryz.func145,Tryz.ntmps145;go_wp2_with fail;refine HC.out.mono ?_;rintro e w2 ⟨v,ps,rfl,ho,hr,hp,hx2⟩;have HO:Hid (Q6q w2 v ps):=Lib.hid (Q1r.pas ho (by have:=hr.le; have:=HL.out; omega) (hp.sl HM.out))
 have HR:=Lib.hid hr;have HP:=Lib.hid hp;have HX2:=Lib.hid hx2;clear ho hr hp hx2;go_wp2;go_ret;exact ⟨_,_,rfl,HO.out,HR.out,HP.out,HX2.out⟩
end Go.Proofs
namespace Go.Tw
open Go.RowKit Go.Flow Go.Ba
def X4c (x:Q1b) (V:List Int) (l:List Cond) (er:Int) (ps:List PsV):Prop:=(er = 0 /\ ps.length = l.length /\ ∀ j,j < l.length -> Q2t x V l j = true) ∨ (er = 4 /\ ps = [] /\ ∃ j,j < l.length /\ Q2t x V l j = false)
theorem Q6q.nil (w:World):Q6q w (.slice none 0 0) []:=Rows.nil _ _ _
end Go.Tw
namespace Go.Proofs
open Go.RowKit Go.Tw Go.Flow Go.Ba Go.Shelf
attribute [local go_sem] Oper.semAt_some
theorem Tryz.X1q (w:World):(isAgg 40).run Tryz.prog w = .ok true w:=by kernel_rfl
theorem Tryz.Z6e (b:Addr) (n c:Nat) (w:World):(binOp .eql 44 (.slice (some b) n c) (.slice none 0 0)).run Tryz.prog w = .ok (.bool false) w:=by kernel_rfl
theorem Tryz.Z5f (w:World):(binOp .eql 44 (.slice none 0 0) (.slice none 0 0)).run Tryz.prog w = .ok (.bool true) w:=by kernel_rfl
theorem Tryz.Q7c (w:World):(sizeOf 40).run Tryz.prog w = .ok 2 w:=by kernel_rfl
theorem run_any (w:World) (vb vv vc:Value) (x:Q1b) (V:List Int) (l:List Cond)
    (hb:Q1s w vb x) (hV:Q0b w vv V) (hc:Q1v w vc l) (hok:x.Ok) (hlen:V.length = x.nodes.length) (hbn:Bnd V 100000000) (hco:Q5i x l) (hlm:l.length <= 4096) :
    Calls Tryz.prog 78 #[vb,vv,vc] w fun e w'=>∃ v ps er,e = .returned (.tuple #[v,.int .i64 er]) /\ Q6q w' v ps /\ X4c x V l er ps /\ X8c w w' x V l ps /\ Ext w w':=by
 obtain ⟨va,vl,rfl,h2⟩:=hb;obtain ⟨A,capa,rfl,-,-,-⟩:=h2.nodes.opened;obtain ⟨L,capl,rfl,-,-,-⟩:=h2.links.opened;obtain ⟨C,capc,rfl,-,-,-⟩:=hV.opened;obtain ⟨D,capd,rfl,-,-,-⟩:=hc.opened;have HCOL:Hid (∀ W gl gb gv,Ext w W -> Blk W gl 45 #[.slice D l.length capd] -> Blk W gb 40 #[.slice A x.nodes.length capa,.slice L x.links.length capl] -> Blk W gv 44 #[.slice C V.length capc] -> w.heap.size <= gv -> gl ≠ gv -> gb ≠ gv ->
     Calls Tryz.prog 145 #[.func (.func 178) #[] #[.pointer (some ⟨gl,0,none⟩),.pointer (some ⟨gb,0,none⟩),.pointer (some ⟨gv,0,none⟩)]] W fun e w' =>
      ∃ v ps,e = .returned v /\ Q6q w' v ps /\ Runs x V l ps.length /\ X8c w w' x V l ps /\ Ext w w'):=Lib.hid fun W gl gb gv hX k1 k2 k3 h0 n1 n2 =>
  Y2t w W x V l _ _ _ _ gl gb gv h2 hV hc hok hlen hbn hco hlm hX k1 k2 k3 h0 ⟨n1,n2⟩
 have HLM:=Lib.hid hlm;obtain ⟨n,hn⟩:∃ z,x.nodes.length = z:=⟨_,rfl⟩;obtain ⟨m,hm⟩:∃ z,x.links.length = z:=⟨_,rfl⟩;obtain ⟨nv,hnv⟩:∃ z,V.length = z:=⟨_,rfl⟩;rw [hn,hm,hnv] at HCOL;rw [hn,hm,hnv];clear h2 hV hc hok hlen hbn hco hlm hn hm hnv;go_enter Tryz.func78,Tryz.ntmps78;go_upto_region 1 with fail;obtain ⟨W,hWW,k0,HXW,eW⟩:=Q2q w 40 #[.slice A n capa,.slice L m capl];rw [hWW];clear hWW;have K0:=Lib.hid k0;have HWS:Hid (w.heap.size <= W.heap.size):=Lib.hid HXW.out.size;clear k0 eW;go_wp2_with (first | (refine Q0j rfl _ _ rfl Tryz.X1q Tryz.Q7c rfl K0.out rfl ?_) | fail)
 refine (Y1a _ A L C D n capa m capl nv capc l.length capd).mono ?_;rintro e w2 ⟨gl,gb,gv,rfl,k1,k2,k3,h0,n1,n2,hx2⟩;have hcol:=HCOL.out w2 gl gb gv (HXW.out.trans hx2) k1 k2 k3 (Nat.le_trans HWS.out h0) n1 n2;have HC:=Lib.hid hcol;clear hcol k1 k2 k3 h0 n1 n2 hx2 HCOL K0;go_wp2_with fail;refine HC.out.mono ?_;rintro e w3 ⟨v,ps,rfl,hip,hr,hp,hx3⟩;obtain ⟨P,capp,rfl,-,-,hcell⟩:=hip.opened;have HIP:=Lib.hid hip;have HR:=Lib.hid hr;have HP:=Lib.hid hp;have HX3:=Lib.hid hx3;clear hip hp hx3 HC
 rcases Nat.eq_zero_or_pos ps.length with hz | hz
 . have hres:X4c x V l 0 ps:=by
    rcases hr with ⟨h,hf⟩ | ⟨k,hk,h,-⟩
    . exact .inl ⟨rfl,h,by rw [<- h]; exact hf⟩
    . omega
   have HRES:=Lib.hid hres;obtain ⟨mm,hmm⟩:∃ z,ps.length = z:=⟨_,rfl⟩;have HMM:=Lib.hid hmm;rw [hmm] at hz ⊢;subst hz;clear hcell hr hres hmm;go_wp2;go_ret2;exact ⟨_,ps,0,rfl,by have:=HIP.out; rw [HMM.out] at this; exact this,HRES.out,HP.out,HX3.out⟩
 . obtain ⟨kk,hkk⟩:∃ kk,ps.length = kk + 1:=⟨ps.length - 1,by omega⟩
   obtain ⟨b,off,A1,n1,c1,A2,n2,c2,A3,n3,c3,rfl,-,-,-,-,-,d4,-,-,hu⟩:=hcell kk (by omega)
   obtain ⟨-,-,h3⟩:=HP.out kk (by omega)
   have hv:=h3.vols;rw [hu] at hv;obtain ⟨mm,hmm⟩:∃ z,ps.length = z:=⟨_,rfl⟩;have HMM:=Lib.hid hmm;have hml:mm <= 4096:=by have:=hr.le; have:=HLM.out; omega
   rw [hmm] at hz hkk ⊢;have hwn:IntKind.i64.wrap ((mm:Int) - 1) = (kk:Int):=by rw [Q1t (by omega) (by omega)]; omega
   have hkI:(kk:Int) < (mm:Int):=by omega
   have hzI:(0:Int) < (mm:Int):=by omega
   rcases hr with ⟨h,hf⟩ | ⟨k,hk,h,hnf,hf⟩
   . rw [if_pos (hf kk (by omega))] at hv
     obtain ⟨⟨b3,e3⟩,-⟩:=hv;injection e3 with e3 e4 e5;subst e3;have hres:X4c x V l 0 ps:=.inl ⟨rfl,h,by rw [<- h]; exact hf⟩
     have HRES:=Lib.hid hres;have HML:=Lib.hid hml;have hq:=Tryz.Z6e ⟨b3,0,none⟩ x.nodes.length x.nodes.length w3;clear hcell hf h hres hmm h3 hu hkk hml hz;go_wp2;go_ret2;exact ⟨_,ps,0,rfl,by have:=HIP.out; rw [HMM.out] at this; exact this,HRES.out,HP.out,HX3.out⟩
   . have:k = kk:=by omega
     subst this;rw [if_neg (by rw [hnf]; decide)] at hv
     injection hv with e3 e4 e5;subst e3 e4 e5;have hq:=Tryz.Z5f w3;have hres:X4c x V l 4 []:=.inr ⟨rfl,rfl,k,hk,hnf⟩;have HRES:=Lib.hid hres;clear hcell hf h hres hmm h3 hu hkk hml hz hnf hk;go_wp2;go_ret2;exact ⟨_,[],4,rfl,Q6q.nil _,HRES.out,fun k hk=>absurd hk (Nat.not_lt_zero _),HX3.out⟩
end Go.Proofs
namespace Go.Proofs
open Go.RowKit Go.Tw Go.Flow Go.Ba
attribute [local go_sem] Oper.semAt_some
theorem X6r {l:List Int} {a b:Int} (h:∀ k,k < l.length -> a <= ix l k /\ ix l k <= b):∀ y ∈ l.map (fun x=>Q0e x a b),y = 0:=by
 intro y hy;rw [List.mem_map] at hy;obtain ⟨z,hz,rfl⟩:=hy;obtain ⟨k,hk,rfl⟩:=List.getElem_of_mem hz;have:=h k hk;rw [Q6r hk] at this;exact Q2j.2 this
theorem Z5n (w:World) (x:Int) (h:-1024 <= x /\ x <= 1024):Calls Tryz.prog 153 #[.int .i64 x] w fun e w'=>e = .returned (.int .i64 0) /\ w = w':=by
 have:=X8l w x
 rwa [Q2j.2 h] at this
theorem Y8t (w:World) (vb vv:Value) (x:Q1b) (V:List Int) (hb:Q1s w vb x) (hv:Q0b w vv V) (hl:V.length = x.nodes.length) (hbn:Bnd V 100000000) (hle:V.length <= 4096) :
    Calls Tryz.prog 152 #[vb,vv] w fun e w'=>e = .returned (.int .i64 0) /\ Ext w w':=by
 have h:=X2t w vb vv x V hb hv hle;have e:Y0e x V = 0:=by
  unfold Y0e;rw [Q8i (X6r fun k _=>hbn k),hl];have:(((x.nodes.length:Nat):Int) != (x.nodes.length:Int)) = false:=by simp
  rw [this]; rfl
 rwa [e] at h
theorem X7k (w:World) (vb vc:Value) (x:Q1b) (c:Cond) (hb:Q1s w vb x) (hc:X6h w vc c) (hl:c.inflow.length = x.nodes.length) (hi:∀ k,0 <= ix c.inflow k /\ ix c.inflow k <= 100000) (ht:-1024 <= c.tide /\ c.tide <= 1024) (hle:x.nodes.length <= 8) :
    Calls Tryz.prog 86 #[vb,vc] w fun e w'=>e = .returned (.int .i64 0) /\ Ext w w':=by
 obtain ⟨va,vl,rfl,h2⟩:=hb;obtain ⟨A,capa,rfl,-,-,-⟩:=h2.nodes.opened;obtain ⟨L,capl,rfl,-,-,-⟩:=h2.links.opened;obtain ⟨td,op,ins⟩:=c;obtain ⟨vi,rfl,hxi⟩:=hc;dsimp only at hxi hl hi ht ⊢;obtain ⟨X,capx,rfl,-,-,-⟩:=hxi.opened;have HXI:=Lib.hid hxi;have HT:=Lib.hid ht;have HZ:Hid (∀ y ∈ ins.map (fun x=>Q0e x 0 100000),y = 0):=Lib.hid (X6r fun k _=>hi k);have HLE:Hid (ins.length <= 4096):=Lib.hid (by rw [hl]; omega)
 obtain ⟨n,hn⟩:∃ z,x.nodes.length = z:=⟨_,rfl⟩;obtain ⟨m,hm⟩:∃ z,x.links.length = z:=⟨_,rfl⟩;rw [hn] at hl ⊢;rw [hm];have hne:((ins.length:Int) != (n:Int)) = false:=by rw [hl]; simp
 clear h2 hxi hi ht hle hn hm hl;go_enter Tryz.func86,Tryz.ntmps86;go_upto_region 1 with fail;obtain ⟨W,hWW,k0,k1,HXW,eW⟩:=Q5t w 40 #[.slice A n capa,.slice L m capl] 49 #[.int .i64 td,.bool op,.slice X ins.length capx];rw [hWW];clear hWW;obtain ⟨g,hg⟩:∃ z,w.heap.size = z:=⟨_,rfl⟩;rw [hg] at k0 k1 eW ⊢;have K0:=Lib.hid k0;have K1:=Lib.hid k1;have hdr:=(Ext.refl W).drew;clear k0 k1 eW hg;refine Flow.Q1p [.p,.w,.w,.p,.w,.p,.p,.w,.p,.p,.w,.p,.w,.w,.w,.w,.w,.p] [0,1,2,3,4,5,6,7,8,9,10,11,12,13,14,15,16,17] [[],[0],[1],[],[3],[4],[],[6],[7],[5,8],[2,9],[],[11],[10,12],[13],[2,10,14],[14,15],[0,1,2,3,4,5,6,7,8,9,10,11,12,13,14,15,16]]
  [.c 0 (.pointer (some ⟨g + 1,0,none⟩)),.c 1 (.int .i64 td),.c 2 (.int .i64 0),.c 3 (.pointer (some ⟨g + 1,2,none⟩)),.c 4 (.slice X ins.length capx),.c 5 (.int .i64 ((ins.length:Nat):Int)),.c 6 (.pointer (some ⟨g,0,none⟩)),.c 7 (.slice A n capa),.c 8 (.int .i64 ((n:Nat):Int)),.c 9 (.bool false),.c 10 (.int .i64 0),.c 11 (.pointer (some ⟨g + 1,2,none⟩)),.c 12 (.slice X ins.length capx),⟨fun v wz=>(fun v w'=>Q0b w' (v 13) (ins.map fun x=>Q0e x 0 100000)) v wz,by intro v a b hx h; exact Q0b.ext h hx⟩,.c 14 (.int .i64 0),⟨fun v wz=>Q0b wz (v 15) [0,0,0],fun _ _ _ hx h=>h.ext hx⟩,.c 16 (.int .i64 0),.c 17 (.int .i64 0)]
  (by kernel_rfl) rfl (by kernel_rfl) ⟨?g0,?g1,?g2,?g3,?g4,?g5,?g6,?g7,?g8,?g9,?g10,?g11,?g12,?g13,?g14,?g15,?g16,?g17,trivial⟩ ?post
 case g0 | g3 | g6 | g11=>
  intro v w1 hx;intro bb hbb;subst hbb;refine ⟨_,fun w=>?_,rfl⟩;go_simp
 case g1 | g4 | g7 | g12=>
  intro v w1 hx;(repeat intro (zq:v _ = _));intro bb hbb;subst hbb;have n0:w1.cell? ⟨g + 1,0,none⟩ = some (.int .i64 td):=(K1.out.ext (hdr.trans hx)).cell 0;have n1:w1.cell? ⟨g + 1,2,none⟩ = some (.slice X ins.length capx):=(K1.out.ext (hdr.trans hx)).cell 2;have n2:w1.cell? ⟨g,0,none⟩ = some (.slice A n capa):=(K0.out.ext (hdr.trans hx)).cell 0;intro K hK;go_simp;exact hK _ _ (Ext.refl _) rfl
 case g2=>
  intro v w1 hx;(repeat intro (zq:v _ = _));intro bb hbb;subst hbb;intro K hK;go_simp;refine Q0d (Z5n w1 td HT.out) ?_;rintro e w2 ⟨rfl,rfl⟩;exact ⟨_,rfl,hK _ _ (Ext.refl _) rfl⟩
 case g5 | g8 | g9=>
  intro v w1 hx;(repeat intro (zq:v _ = _));intro bb hbb;subst hbb;refine ⟨_,fun w=>?_,rfl⟩;go_simp
 case g10=>
  intro v w1 hx;(repeat intro (zq:v _ = _));intro bb hbb;subst hbb;intro K hK;go_simp;refine Q0d (Q9o w1 false 2 rfl) ?_;rintro e w2 ⟨rfl,rfl⟩;exact ⟨_,rfl,hK _ _ (Ext.refl _) rfl⟩
 case g13=>
  intro v w1 hx;(repeat intro (zq:v _ = _));intro bb hbb;subst hbb;intro K hK;go_simp;refine Q0d (X8o w1 _ ins (HXI.out.ext (HXW.out.trans (hdr.trans hx))) HLE.out) ?_;rintro e w2 ⟨x,rfl,h1,hx2⟩;exact ⟨_,rfl,hK _ _ hx2 h1⟩
 case g14=>
  intro v w1 hx (q13:(fun v w'=>Q0b w' (v 13) (ins.map fun x=>Q0e x 0 100000)) v w1);intro bb hbb;subst hbb;intro K hK;go_simp;refine Q0d (Q5g w1 _ _ q13 HZ.out) ?_;rintro e w2 ⟨rfl,rfl⟩;exact ⟨_,rfl,hK _ _ (Ext.refl _) rfl⟩
 case g15=>
  intro v w1 hx;(repeat intro (zq:v _ = _));intro bb hbb;subst hbb;intro K hK;go_simp;exact hK _ _ (Ext.box _ _) (Q2b (l:=[0,0,0]) (by simp))
 case g16=>
  intro v w1 hx (q14:v 14 = _) (q15:Q0b w1 (v 15) [0,0,0]);intro bb hbb;subst hbb;intro K hK;go_simp;refine Q0d (Q5g w1 _ [0,0,0] q15 (by simp)) ?_
  rintro e w2 ⟨rfl,rfl⟩;exact ⟨_,rfl,hK _ _ (Ext.refl _) rfl⟩
 case g17=>
  intro v w1 hx (q0:v 0 = _) (q1:v 1 = _) (q2:v 2 = _) (q3:v 3 = _) (q4:v 4 = _) (q5:v 5 = _) (q6:v 6 = _) (q7:v 7 = _) (q8:v 8 = _) (q9:v 9 = _) (q10:v 10 = _) (q11:v 11 = _) (q12:v 12 = _) _ (q14:v 14 = _) _ (q16:v 16 = _);intro bb hbb;subst hbb;refine ⟨_,fun w=>?_,rfl⟩;go_simp
 case post =>
  intro v w1 hx;(iterate 13 intro (zq:v _ = _));intro (q13:(fun v w'=>Q0b w' (v 13) (ins.map fun x=>Q0e x 0 100000)) v w1);(iterate 1 intro (zq:v _ = _));intro (q15:Q0b w1 (v 15) [0,0,0]);(iterate 2 intro (zq:v _ = _));simp only [Flow.All,Flow.acts,Act.put];go_simp;have HX9:=Lib.hid (HXW.out.trans (hdr.trans hx));clear hx hdr q13 q15;go_wp2;go_ret;exact ⟨rfl,HX9.out⟩
end Go.Proofs
namespace Go.Proofs
open Go.RowKit Go.Tw Go.Flow Go.Ba
attribute [local go_sem] Oper.semAt_some
theorem Z0g {W0 W:World} {x:Q1b} {V:List Int} {l:List Cond} {ps:List PsV} (h:X8c W0 W x V l ps) (hx:Ext W0 W):X8c W W x V l ps:=fun k hk=>⟨(h k hk).1,(h k hk).2.1,⟨(h k hk).2.2.inflow.ext hx,(h k hk).2.2.flows,(h k hk).2.2.vols⟩⟩
theorem Tryz.Z5k (w:World):(isAgg 49).run Tryz.prog w = .ok true w:=by kernel_rfl
theorem Tryz.Z2t (w:World):(sizeOf 49).run Tryz.prog w = .ok 3 w:=by kernel_rfl
theorem X9h (w:World) (x:Q1b) (v vb:Value) (l:List Cond) (hv:Q1v w v l) (hb:Q1s w vb x) (hco:Q5i x l) (hle:x.nodes.length <= 8) (hm:l.length <= 96) :
    Calls Tryz.prog 85 #[v,.func (.func 86) #[vb] #[]] w fun e w'=>∃ r,e = .returned r /\ Q0b w' r (List.replicate l.length 0) /\ Ext w w':=by
 obtain ⟨i0,hi,hz0,hz1,hz2⟩:=info_parts Tryz.Q8u;obtain ⟨A1,cap,rfl,-,-,-⟩:=hv.opened;have HV:=Lib.hid hv;have HCO:=Lib.hid hco;have HB:=Lib.hid hb;have HL:=Lib.hid hm;have HN8:=Lib.hid hle;have hen:=enters_of Tryz.func86 (by kernel_rfl) rfl
 obtain ⟨m,hmm⟩:∃ z,l.length = z:=⟨_,rfl⟩;have HM:=Lib.hid hmm;rw [hmm];clear hv hco hb hm hmm hle;go_enter Tryz.func85,Tryz.ntmps85;go_wp2
 go_loopw [5,10] (fun o i wr=>∃ k:Nat,k <= m /\ i = .int .i64 k /\ Q0g wr w.heap.size 34 (.int .i64) o (List.replicate k 0) /\ Ext w wr) (fun _ i _=>m - (intOf i).toNat)
 case atStart=>exact ⟨0,Nat.zero_le _,rfl,Q0g.nil _ _ _ _,Ext.refl _⟩
 case round =>
  obtain ⟨k,hk,rfl,hown,hx⟩:=hrel;have HOWN:=Lib.hid hown;have HXR:=Lib.hid hx
  by_cases hlt:k < m
  . have hkI:(k:Int) < (m:Int):=by omega
    have HK:=Lib.hid hlt;have HWK:Hid (wrap64 ((k:Int) + 1) = (k:Int) + 1):=Lib.hid (by have:=HL.out; have:=HM.out; unfold wrap64; omega)
    obtain ⟨L9,c9,h9,-,-,hcx⟩:=(HV.out.ext hx).opened;obtain ⟨bx,ox,a,hbx,-,d0,d1,d2,ha⟩:=hcx k (by rw [HM.out]; exact hlt)
    rw [HM.out] at h9;injection h9 with k1 k2 k3;subst k1 k3;subst hbx;have hcl:=HCO.out.len k (by rw [HM.out]; exact hlt)
    have hci:=HCO.out.inflow k (by rw [HM.out]; exact hlt)
    have hct:=HCO.out.tide k (by rw [HM.out]; exact hlt)
    obtain ⟨c,hcc⟩:∃ z,cd l k = z:=⟨_,rfl⟩;rw [hcc] at d0 d1 ha hcl hci hct;obtain ⟨td,op,ins⟩:=c;dsimp only at d0 d1 ha hcl hci hct;obtain ⟨AI,capi,rfl,-,-,-⟩:=ha.opened;have HCALL:Hid (∀ W,Ext wr W -> Calls Tryz.prog 86 #[vb,.agg #[.int .i64 td,.bool op,.slice AI ins.length capi]] W fun e w'=>e = .returned (.int .i64 0) /\ Ext W w'):=Lib.hid fun W hw =>
     X7k W _ _ x ⟨td,op,ins⟩ (HB.out.ext (HXR.out.trans hw)) ⟨_,rfl,ha.ext hw⟩ hcl hci hct HN8.out
    obtain ⟨ni,hni⟩:∃ z,ins.length = z:=⟨_,rfl⟩;rw [hni] at d2 HCALL;clear hcx hcc hown hx k2 hk hlt ha hcl hci hct hni;go_upto_region 5 with fail;clear d0 d1 d2;have hxb:=Ext.box wr (.cells #[.int .i64 td,.bool op,.slice AI ni capi] 49);have hkb:=Blk.made wr 49 #[.int .i64 td,.bool op,.slice AI ni capi];obtain ⟨gl,hgl⟩:∃ z,wr.heap.size = z:=⟨_,rfl⟩;obtain ⟨W7,hW7⟩:∃ z,wr.alloc (.cells #[.int .i64 td,.bool op,.slice AI ni capi] 49) = z:=⟨_,rfl⟩;rw [hW7,hgl] at hkb;rw [hW7] at hxb ⊢;rw [hgl];have HKB:=Lib.hid hkb;have HXB:=Lib.hid hxb;clear hW7 hxb hkb hgl;go_wp2_with (first | (refine Q0j rfl _ _ rfl Tryz.Z5k Tryz.Z2t rfl HKB.out rfl ?_) | fail)
    refine (HCALL.out _ HXB.out).mono ?_;rintro e w8 ⟨rfl,hx8⟩;have hx:=HXR.out.trans (HXB.out.trans hx8);have hown:=HOWN.out.below (HXB.out.trans hx8);have hll:(List.replicate k (0:Int)).length <= 4096:=by rw [List.length_replicate]; have:=HK.out; have:=HL.out; have:=HM.out; omega
    clear HKB HXB hx8 HCALL;go_wp2_with (at_builtin; refine wpList_append_own _ rfl _ _ 178 rfl (w.heap.size) 34 i0 (.int .i64 0) 1 8 Tryz.underlying178 hi hz0 hz1 hz2 rfl (by decide) _ _ _ rfl (World.ownsRow.alloc hown _) ⟨w8.heap.size,0,none⟩ 1 1 [.int .i64 0] rfl rfl ?_ ?_ ?_ ?_ ?_ ?_; exact Q4h _ _ _; (focus (simp [Value.oneCell'])); (focus (unfold maxLen; omega)); (focus omega); (focus (have:=hx.size; simp at this ⊢; omega)); intro v' w1 hown' hgrow _)
    have hx':=Q2r hx hown (Nat.le_refl _) hgrow;go_wp2;go_roundw
    case rel=>exact ⟨k + 1,by have:=HK.out; omega,by (try rw [HWK.out]); go_num,by have h:=Q0g.snoc hown'; rwa [<- List.replicate_succ'] at h,hx'⟩
    case measure=>have:=HK.out; (try rw [HWK.out]); simp [intOf]; omega
  . obtain rfl:k = m:=by omega
    have hkI:¬ (k:Int) < (k:Int):=by omega
    have HLE:Hid ((List.replicate k (0:Int)).length <= 17592186043904):=Lib.hid (by rw [List.length_replicate]; have:=HL.out; have:=HM.out; omega)
    clear hown hx;go_wp2;go_ret;exact ⟨_,rfl,HOWN.out.ints HLE.out,HXR.out⟩
theorem X1e (w:World) (vb vv:Value) (x:Q1b) (V:List Int) (hb:Q1s w vb x) (hv:Q0b w vv V) (hx:x.Fine) (hl:V.length = x.nodes.length) (hbn:Bnd V 100000000) :
    Calls Tryz.prog 84 #[vb,vv] w fun e w'=>e = .returned (.int .i64 0) /\ Ext w w':=by
 obtain ⟨va,vl,rfl,h2⟩:=hb;obtain ⟨A,capa,rfl,-,-,-⟩:=h2.nodes.opened;obtain ⟨L,capl,rfl,-,-,-⟩:=h2.links.opened;obtain ⟨C,capc,rfl,-,-,-⟩:=hv.opened;have HB:Hid (∀ W,Ext w W -> Q1s W (.agg #[.slice A x.nodes.length capa,.slice L x.links.length capl]) x):=Lib.hid fun W h=>⟨_,_,rfl,h2.ext h⟩;have HV:=Lib.hid hv;have HF:=Lib.hid hx;have HL:=Lib.hid hl;have HBN:=Lib.hid hbn;have HLE:Hid (V.length <= 4096):=Lib.hid (by rw [hl]; have:=hx.ok.some; omega)
 obtain ⟨n,hn⟩:∃ z,x.nodes.length = z:=⟨_,rfl⟩;obtain ⟨m,hm⟩:∃ z,x.links.length = z:=⟨_,rfl⟩;rw [hn,hm] at HB;rw [hn,hm];clear h2 hv hx hl hbn hn hm;go_enter Tryz.func84,Tryz.ntmps84;go_upto_region 1 with fail;obtain ⟨W,hWW,k0,HXW,eW⟩:=Q2q w 40 #[.slice A n capa,.slice L m capl];rw [hWW];clear hWW;obtain ⟨g,hg⟩:∃ z,w.heap.size = z:=⟨_,rfl⟩;rw [hg] at k0 eW ⊢;have K0:=Lib.hid k0;have hdr:=(Ext.refl W).drew;clear k0 eW hg;refine Flow.Q1p [.w,.w,.w,.p,.w,.w,.w,.p] [0,1,2,3,4,5,6,7] [[],[0],[],[],[1,2,3],[1,4],[4,5],[0,1,2,3,4,5,6]]
  [.c 0 (.agg #[.slice A n capa,.slice L m capl]),.c 1 (.int .i64 0),.c 2 (.agg #[.slice A n capa,.slice L m capl]),.c 3 (.slice C V.length capc),.c 4 (.int .i64 0),⟨fun v wz=>Q0b wz (v 5) [0,0],fun _ _ _ hx h=>h.ext hx⟩,.c 6 (.int .i64 0),.c 7 (.int .i64 0)]
  (by kernel_rfl) rfl (by kernel_rfl) ⟨?g0,?g1,?g2,?g3,?g4,?g5,?g6,?g7,trivial⟩ ?post
 case g0 | g2=>
  intro v w1 hx;intro bb hbb;intro K hK;have o1:bb.eval (.tmp 2) = .pointer (some ⟨g,0,none⟩):=by rw [hbb]; dsimp only; (try simp (discharger:=decide) only [eval_put_ne]); rfl
  exact Q0s (.tmp 2) _ rfl Tryz.X1q Tryz.Q7c o1 (K0.out.ext (hdr.trans hx)) rfl (hK _ _ (Ext.refl _) rfl)
 case g1=>
  intro v w1 hx;(repeat intro (zq:v _ = _));intro bb hbb;subst hbb;intro K hK;go_simp;refine Q0d (X5g w1 _ x (HB.out w1 (HXW.out.trans (hdr.trans hx))) HF.out) ?_;rintro e w2 ⟨rfl,hx2⟩;exact ⟨_,rfl,hK _ _ hx2 rfl⟩
 case g3=>
  intro v w1 hx;intro bb hbb;subst hbb;refine ⟨_,fun w=>?_,rfl⟩;go_simp
 case g4=>
  intro v w1 hx;(repeat intro (zq:v _ = _));intro bb hbb;subst hbb;intro K hK;go_simp;refine Q0d (Y8t w1 _ _ x V (HB.out w1 (HXW.out.trans (hdr.trans hx))) (HV.out.ext (HXW.out.trans (hdr.trans hx))) HL.out HBN.out HLE.out) ?_;rintro e w2 ⟨rfl,hx2⟩;exact ⟨_,rfl,hK _ _ hx2 rfl⟩
 case g5=>
  intro v w1 hx;(repeat intro (zq:v _ = _));intro bb hbb;subst hbb;intro K hK;go_simp;exact hK _ _ (Ext.box _ _) (Q2b (l:=[0,0]) (by simp))
 case g6=>
  intro v w1 hx (q4:v 4 = _) (q5:Q0b w1 (v 5) [0,0]);intro bb hbb;subst hbb;intro K hK;go_simp;refine Q0d (Q5g w1 _ [0,0] q5 (by simp)) ?_
  rintro e w2 ⟨rfl,rfl⟩;exact ⟨_,rfl,hK _ _ (Ext.refl _) rfl⟩
 case g7=>
  intro v w1 hx (q0:v 0 = _) (q1:v 1 = _) (q2:v 2 = _) (q3:v 3 = _) (q4:v 4 = _) _ (q6:v 6 = _);intro bb hbb;subst hbb;refine ⟨_,fun w=>?_,rfl⟩;go_simp
 case post =>
  intro v w1 hx;(iterate 5 intro (zq:v _ = _));intro (q5:Q0b w1 (v 5) [0,0]);(iterate 2 intro (zq:v _ = _));simp only [Flow.All,Flow.acts,Act.put];go_simp;have HX9:=Lib.hid (HXW.out.trans (hdr.trans hx));clear hx hdr q5;go_wp2;go_ret;exact ⟨rfl,HX9.out⟩
theorem X4m (w:World) (vb vv vc:Value) (x:Q1b) (V:List Int) (l:List Cond)
    (hb:Q1s w vb x) (hV:Q0b w vv V) (hc:Q1v w vc l) (hf:x.Fine) (hlen:V.length = x.nodes.length) (hbn:Bnd V 100000000) (hco:Q5i x l) (hlm:l.length <= 96) :
    Calls Tryz.prog 34 #[vb,vv,vc] w fun e w'=>∃ v ps er,e = .returned (.tuple #[v,.int .i64 er]) /\ Q6q w' v ps /\ X4c x V l er ps /\ X8c w' w' x V l ps /\ Ext w w':=by
 obtain ⟨va,vl,rfl,h2⟩:=hb;obtain ⟨A,capa,rfl,-,-,-⟩:=h2.nodes.opened;obtain ⟨L,capl,rfl,-,-,-⟩:=h2.links.opened;obtain ⟨C,capc,rfl,-,-,-⟩:=hV.opened;obtain ⟨D,capd,rfl,-,-,-⟩:=hc.opened;have HB:Hid (∀ W,Ext w W -> Q1s W (.agg #[.slice A x.nodes.length capa,.slice L x.links.length capl]) x):=Lib.hid fun W h=>⟨_,_,rfl,h2.ext h⟩;have HV:=Lib.hid hV;have HC:=Lib.hid hc;have HF:=Lib.hid hf;have HL:=Lib.hid hlen;have HBN:=Lib.hid hbn;have HCO:=Lib.hid hco;have HLM:=Lib.hid hlm;have HN8:Hid (x.nodes.length <= 8):=Lib.hid hf.ok.some.2;have hgt:decide ((96:Int) < (l.length:Int)) = false:=by simp; omega
 obtain ⟨n,hn⟩:∃ z,x.nodes.length = z:=⟨_,rfl⟩;obtain ⟨m,hm⟩:∃ z,x.links.length = z:=⟨_,rfl⟩;rw [hn,hm] at HB;rw [hn,hm];clear h2 hV hc hf hlen hbn hco hlm hn hm;go_enter Tryz.func34,Tryz.ntmps34;go_upto_region 1 with fail;obtain ⟨W,hWW,k0,HXW,eW⟩:=Q2q w 40 #[.slice A n capa,.slice L m capl];rw [hWW];clear hWW;obtain ⟨g,hg⟩:∃ z,w.heap.size = z:=⟨_,rfl⟩;rw [hg] at k0 eW ⊢;have K0:=Lib.hid k0;have hdr:=(Ext.refl W).drew;clear k0 eW hg;refine Flow.Q1p [.w,.p,.w,.p,.p,.p,.w,.p,.w,.p,.w,.w,.w,.w,.p] [0,1,2,3,4,5,6,7,8,9,10,11,12,13,14] [[],[],[0,1],[],[3],[4],[2,5],[],[],[8],[6,7,9],[10],[2,6,11],[11,12],[0,1,2,3,4,5,6,7,8,9,10,11,12,13]]
  [.c 0 (.agg #[.slice A n capa,.slice L m capl]),.c 1 (.slice C V.length capc),.c 2 (.int .i64 0),.c 3 (.slice D l.length capd),.c 4 (.int .i64 ((l.length:Nat):Int)),.c 5 (.bool false),.c 6 (.int .i64 0),.c 7 (.slice D l.length capd),.c 8 (.agg #[.slice A n capa,.slice L m capl]),.c 9 (.func (.func 86) #[.agg #[.slice A n capa,.slice L m capl]] #[]),⟨fun v wz=>(fun v w'=>Q0b w' (v 10) (List.replicate l.length 0)) v wz,by intro v a b hx h; exact Q0b.ext h hx⟩,.c 11 (.int .i64 0),⟨fun v wz=>Q0b wz (v 12) [0,0,0],fun _ _ _ hx h=>h.ext hx⟩,.c 13 (.int .i64 0),.c 14 (.int .i64 0)]
  (by kernel_rfl) rfl (by kernel_rfl) ⟨?g0,?g1,?g2,?g3,?g4,?g5,?g6,?g7,?g8,?g9,?g10,?g11,?g12,?g13,?g14,trivial⟩ ?post
 case g0 | g8=>
  intro v w1 hx;intro bb hbb;intro K hK;have o1:bb.eval (.tmp 3) = .pointer (some ⟨g,0,none⟩):=by rw [hbb]; dsimp only; (try simp (discharger:=decide) only [eval_put_ne]); rfl
  exact Q0s (.tmp 3) _ rfl Tryz.X1q Tryz.Q7c o1 (K0.out.ext (hdr.trans hx)) rfl (hK _ _ (Ext.refl _) rfl)
 case g1 | g3 | g7=>
  intro v w1 hx;intro bb hbb;subst hbb;refine ⟨_,fun w=>?_,rfl⟩;go_simp
 case g2=>
  intro v w1 hx;(repeat intro (zq:v _ = _));intro bb hbb;subst hbb;intro K hK;go_simp;refine Q0d (X1e w1 _ _ x V (HB.out w1 (HXW.out.trans (hdr.trans hx))) (HV.out.ext (HXW.out.trans (hdr.trans hx))) HF.out HL.out HBN.out) ?_;rintro e w2 ⟨rfl,hx2⟩;exact ⟨_,rfl,hK _ _ hx2 rfl⟩
 case g4 | g5 | g9=>
  intro v w1 hx;(repeat intro (zq:v _ = _));intro bb hbb;subst hbb;refine ⟨_,fun w=>?_,rfl⟩;go_simp
 case g6=>
  intro v w1 hx;(repeat intro (zq:v _ = _));intro bb hbb;subst hbb;intro K hK;go_simp;refine Q0d (Q9o w1 false 5 rfl) ?_;rintro e w2 ⟨rfl,rfl⟩;exact ⟨_,rfl,hK _ _ (Ext.refl _) rfl⟩
 case g10=>
  intro v w1 hx;(repeat intro (zq:v _ = _));intro bb hbb;subst hbb;intro K hK;go_simp;refine Q0d (X9h w1 x _ _ l (HC.out.ext (HXW.out.trans (hdr.trans hx))) (HB.out w1 (HXW.out.trans (hdr.trans hx))) HCO.out HN8.out HLM.out) ?_;rintro e w2 ⟨r,rfl,h1,hx2⟩;exact ⟨_,rfl,hK _ _ hx2 h1⟩
 case g11=>
  intro v w1 hx (q10:(fun v w'=>Q0b w' (v 10) (List.replicate l.length 0)) v w1);intro bb hbb;subst hbb;intro K hK;go_simp;refine Q0d (Q5g w1 _ _ q10 (fun y hy=>(List.mem_replicate.1 hy).2)) ?_;rintro e w2 ⟨rfl,rfl⟩;exact ⟨_,rfl,hK _ _ (Ext.refl _) rfl⟩
 case g12=>
  intro v w1 hx;(repeat intro (zq:v _ = _));intro bb hbb;subst hbb;intro K hK;go_simp;exact hK _ _ (Ext.box _ _) (Q2b (l:=[0,0,0]) (by simp))
 case g13=>
  intro v w1 hx (q11:v 11 = _) (q12:Q0b w1 (v 12) [0,0,0]);intro bb hbb;subst hbb;intro K hK;go_simp;refine Q0d (Q5g w1 _ [0,0,0] q12 (by simp)) ?_
  rintro e w2 ⟨rfl,rfl⟩;exact ⟨_,rfl,hK _ _ (Ext.refl _) rfl⟩
 case g14=>
  intro v w1 hx (q0:v 0 = _) (q1:v 1 = _) (q2:v 2 = _) (q3:v 3 = _) (q4:v 4 = _) (q5:v 5 = _) (q6:v 6 = _) (q7:v 7 = _) (q8:v 8 = _) (q9:v 9 = _) _ (q11:v 11 = _) _ (q13:v 13 = _);intro bb hbb;subst hbb;refine ⟨_,fun w=>?_,rfl⟩;go_simp
 case post =>
  intro v w1 hx;(iterate 10 intro (zq:v _ = _));intro (q10:(fun v w'=>Q0b w' (v 10) (List.replicate l.length 0)) v w1);(iterate 1 intro (zq:v _ = _));intro (q12:Q0b w1 (v 12) [0,0,0]);(iterate 2 intro (zq:v _ = _));simp only [Flow.All,Flow.acts,Act.put];go_simp;have hx9:=HXW.out.trans (hdr.trans hx);have HX9:=Lib.hid hx9;have HK9:=Lib.hid (K0.out.ext (hdr.trans hx));have hrun:=run_any w1 _ _ _ x V l (HB.out w1 hx9) (HV.out.ext hx9) (HC.out.ext hx9) HF.out.ok HL.out HBN.out HCO.out (by have:=HLM.out; omega)
  have HRUN:=Lib.hid hrun;clear hx hdr hx9 hrun q10 q12 hgt;go_wp2_with (first | (refine Q0j rfl _ _ rfl Tryz.X1q Tryz.Q7c rfl HK9.out rfl ?_) | fail)
  refine HRUN.out.mono ?_;rintro e w4 ⟨v,ps,er,rfl,hip,hr,hp,hx4⟩;have HIP:=Lib.hid hip;have HR:=Lib.hid hr;have HP:=Lib.hid (Z0g hp hx4);have HX4:=Lib.hid (HX9.out.trans hx4);clear hip hr hp hx4;go_wp2;go_ret2;exact ⟨_,_,_,rfl,HIP.out,HR.out,HP.out,HX4.out⟩
end Go.Proofs
namespace Go.Tw
open Go.Ba
def Y6g (x:Q1b) (V:List Int):Nat -> List Int
 | 0=>V
 | k + 1=>(Y6g x V k).set k (ix V k / Q4x x.nodes k)
theorem Q7e (x:Q1b) (V:List Int):∀ k,(Y6g x V k).length = V.length
 | 0=>rfl
 | k + 1=>by unfold Y6g; rw [List.length_set,Q7e x V k]
theorem Y2x (x:Q1b) (V:List Int):∀ k,k <= V.length -> ∀ j,ix (Y6g x V k) j = if j < k then ix V j / Q4x x.nodes j else ix V j
 | 0,_,j=>by rw [if_neg (Nat.not_lt_zero _)]; rfl
 | k + 1,hk,j=>by
   unfold Y6g;rw [Y4r _ (by rw [Q7e]; omega),Y2x x V k (by omega)]
   by_cases e:k = j
   . subst e; rw [if_pos rfl,if_pos (Nat.lt_succ_self _)]
   . rw [if_neg e]
     by_cases h:j < k
     . rw [if_pos h,if_pos (by omega)]
     . rw [if_neg h,if_neg (by omega)]
end Go.Tw
namespace Go.Proofs
open Go.RowKit Go.Tw Go.Flow Go.Ba
attribute [local go_sem] Oper.semAt_some
theorem Tryz.Z2u (w:World):(isAgg 40).run Tryz.prog w = .ok true w:=by kernel_rfl
theorem Tryz.Z0i (w:World):(sizeOf 40).run Tryz.prog w = .ok 2 w:=by kernel_rfl
theorem Tryz.Z6i (w:World):(isAgg 105).run Tryz.prog w = .ok true w:=by kernel_rfl
theorem Tryz.Z4x (w:World):(sizeOf 105).run Tryz.prog w = .ok 3 w:=by kernel_rfl
theorem Y5g (w:World) (vb vv:Value) (x:Q1b) (V:List Int) (hv:Q1s w vb x) (hV:Q0b w vv V) (hb:x.Ok) (hl:V.length = x.nodes.length) (hbn:Bnd V 100000000) :
    Calls Tryz.prog 87 #[vb,vv] w fun e w'=>∃ b,e = .returned (.slice (some ⟨b,0,none⟩) x.nodes.length x.nodes.length) /\ Q0b w' (.slice (some ⟨b,0,none⟩) x.nodes.length x.nodes.length) (Y6g x V x.nodes.length) /\ Ext w w':=by
 obtain ⟨i0,hi,hz0,hz1,hz2⟩:=info_parts Tryz.info3;obtain ⟨va,vl,rfl,h2⟩:=hv;obtain ⟨A,capa,rfl,-,-,-⟩:=h2.nodes.opened;obtain ⟨L,capl,rfl,-,-,-⟩:=h2.links.opened;obtain ⟨VA,capv,rfl,-,-,hcv⟩:=hV.opened;have H2:=Lib.hid h2;have HOK:=Lib.hid hb;have HVB:=Lib.hid hbn;obtain ⟨n,hn⟩:∃ z,x.nodes.length = z:=⟨_,rfl⟩;obtain ⟨m,hm⟩:∃ z,x.links.length = z:=⟨_,rfl⟩;have HN:=Lib.hid hn;have HL:=Lib.hid (hl.trans hn);have HN8:Hid (1 <= n /\ n <= 8):=Lib.hid (by rw [<- hn]; exact hb.some)
 have hn8:=HN8.out;rw [hl] at hcv ⊢;rw [hn] at hcv ⊢;rw [hm];have HCV:Hid (∀ j u,(V.map (Value.int .i64))[j]? = some u -> ∃ b off,VA = some ⟨b,off,none⟩ /\ w.cell? ⟨b,off + j,none⟩ = some u):=Lib.hid (fun j u hj=>by
  rw [List.getElem?_map] at hj;obtain ⟨y,hy,rfl⟩:=Option.map_eq_some_iff.1 hj;obtain ⟨hjl,rfl⟩:=List.getElem?_eq_some_iff.1 hy;obtain ⟨b,off,he,hcell⟩:=hcv j (by have:=HL.out; omega)
  exact ⟨b,off,he,by rw [hcell,Q6r hjl]⟩)
 have HFL:Hid ((V.map (Value.int .i64)).length = n * 1):=Lib.hid (by rw [List.length_map,HL.out]; omega)
 have HFS:Hid ((V.map (Value.int .i64)).length = (madeCells #[Value.int .i64 0] n).size):=Lib.hid (by rw [HFL.out]; simp [madeCells])
 have HONE:Hid (∀ u ∈ V.map (Value.int .i64),u.oneCell' = true):=Lib.hid (fun u hu=>by obtain ⟨y,_,rfl⟩:=List.mem_map.1 hu; rfl)
 clear hcv h2 hb hbn hn hm hl hV;go_enter Tryz.func87,Tryz.ntmps87;go_wp2_with (refine Q5d (o:=⟨some 10,_,_,_,_,_⟩) rfl ?_; refine X0r (.tmp 9) _ _ rfl i0 _ 1 8 Tryz.underlying44 hi hz0 hz1 hz2 n rfl (by omega) (by decide) ?_; refine halted ?_)
 unfold Q5f;obtain ⟨W,hWW,k0,k1,HXW,eW⟩:=Q5t w 40 #[.slice A n capa,.slice L m capl] 3 (madeCells #[.int .i64 0] n);rw [hWW];clear hWW;obtain ⟨g,hg⟩:∃ z,w.heap.size = z:=⟨_,rfl⟩;have HG:=Lib.hid hg;rw [hg] at k0 k1 eW ⊢;obtain ⟨b,hb⟩:∃ z,g + 1 = z:=⟨_,rfl⟩;rw [hb] at k1 eW ⊢;have HB:=Lib.hid hb;have K0:=Lib.hid k0;have K1:=Lib.hid k1;clear k0 k1 eW hb hg;go_upto_region 2 with fail;go_wp2_with (refine Q6k rfl (.tmp 11) (.tmp 12) _ _ rfl 3 Tryz.underlying44 (sz:=1) Tryz.X8d (n:=n) (g:=b) rfl rfl K1.out (V.map (Value.int .i64)) (by rw [HFL.out]) (fun j u hj=>by obtain ⟨b',o',e1,e2⟩:=HCV.out j u hj; exact ⟨b',o',e1,HXW.out.cell e2⟩) (by rw [HFS.out]; exact Nat.le_refl _) HONE.out ?_; intro w4 hb4 hl4 ho4; refine halted ?_)
 unfold Q5f;rw [Q9c _ _ HFS.out] at hb4;have HX4:Hid (Ext w w4):=Lib.hid (Below.trans HXW.out (hl4 _ (by have:=HG.out; have:=HB.out; omega)))
 have K04:=Lib.hid (K0.out.below (hl4 b (Nat.le_refl _)) (by have:=HB.out; omega))
 have HB4:Hid (Blk w4 b 3 (Y2o V)):=Lib.hid hb4;have c0:=K04.out.cell 0;simp only [Go.Tw.gA,Go.Tw.gB] at c0;clear hb4 hl4 ho4 K0 K1;go_wp2_with fail;clear c0
 go_loopw [17] (fun iv wr=>∃ k:Nat,k <= n /\ iv = .int .i64 k /\ Blk wr b 3 (Y2o (Y6g x V k)) /\ Below b w4 wr) (fun iv _=>n - (intOf iv).toNat)
 case atStart=>exact ⟨0,Nat.zero_le _,rfl,HB4.out,Below.refl _ _⟩
 case round =>
  obtain ⟨k,hk,rfl,hbk,hlow⟩:=hrel;have HBK:=Lib.hid hbk;have HLO:=Lib.hid hlow;have HXR:Hid (Ext w wr):=Lib.hid (Below.trans HX4.out (hlow.mono (by have:=HG.out; have:=HB.out; omega)))
  by_cases hlt:k < n
  . have hkI:(k:Int) < (n:Int):=by omega
    have HK:=Lib.hid hlt;have HWK:Hid (wrap64 ((k:Int) + 1) = (k:Int) + 1):=Lib.hid (by have:=HN8.out; unfold wrap64; omega)
    obtain ⟨L9,c9,h9,-,-,hcx⟩:=(H2.out.ext HXR.out).nodes.opened;obtain ⟨bx,ox,hbx,-,d0,d1,d2,-⟩:=hcx k (by rw [HN.out]; exact hlt)
    rw [HN.out] at h9;injection h9 with k1 k2 k3;subst k1 k3;subst hbx;have har0:=HOK.out.areas k (by rw [HN.out]; exact hlt)
    have hvk:ix (Y6g x V k) k = ix V k:=by rw [Y2x x V k (by rw [HL.out]; omega),if_neg (Nat.lt_irrefl _)]
    have hck:=Q9b hbk (k:=k) (by rw [Q7e,HL.out]; exact hlt)
    rw [hvk] at hck;have hvb:=HVB.out k;have hnext:Y6g x V (k + 1) = (Y6g x V k).set k (ix V k / Q4x x.nodes k):=rfl;obtain ⟨nm,hnm⟩:∃ z,X2i x.nodes k = z:=⟨_,rfl⟩;obtain ⟨ar,har⟩:∃ z,Q4x x.nodes k = z:=⟨_,rfl⟩;obtain ⟨li,hli⟩:∃ z,Q9m x.nodes k = z:=⟨_,rfl⟩;obtain ⟨vk,hvk⟩:∃ z,ix V k = z:=⟨_,rfl⟩;rw [hnm] at d0;rw [har] at d1 har0 hnext;rw [hli] at d2;rw [hvk] at hck hvb hnext;have HAR:=Lib.hid har0;have HVK:Hid (0 <= vk /\ vk <= 1000000000000000):=Lib.hid (by omega)
    have HNX:=Lib.hid hnext;have HCK:=Lib.hid hck;clear hcx hnm har hli hvk hbk hlow k2 har0 hvb hnext hk hlt hck;go_upto_region 6 with fail;clear d0 d1 d2;obtain ⟨gl,hgl⟩:∃ z,wr.heap.size = z:=⟨_,rfl⟩;have hxb:=Ext.box wr (.cells (ndC nm ar li) 105);have hkb:=Blk.made wr 105 (ndC nm ar li);obtain ⟨W7,hW7⟩:∃ z,wr.alloc (.cells (ndC nm ar li) 105) = z:=⟨_,rfl⟩;rw [hW7,hgl] at hkb;rw [hW7] at hxb ⊢;rw [hgl];have KL:=Lib.hid hkb;have HXB:=Lib.hid hxb;have hdr:=(Ext.refl W7).drew;clear hW7 hxb hkb hgl;refine Flow.Q4k [.p,.p,.w,.p,.p,.p,.w,.w,.p,.last] [0,1,2,3,4,5,6,7,8,9] [[],[],[],[],[],[3,4],[3,4,5],[2,3,4,5,6],[0,1,2,3,4,5,6,7],[0,1,2,3,4,5,6,7,8]] [9]
     [.c 0 (.slice (some ⟨b,0,none⟩) n n),.c 1 (.int .i64 k),.c 2 (.agg (ndC nm ar li)),.c 3 (.slice (some ⟨b,0,none⟩) n n),.c 4 (.int .i64 k),.c 5 (.pointer (some ⟨b,k,none⟩)),.c 6 (.int .i64 vk),.c 7 (.int .i64 (vk / ar)),.c 8 (.pointer (some ⟨b,k,none⟩)),.none]
     [fun v w1 w'=>w' = w1.setCell ⟨b,k,none⟩ (.int .i64 (vk / ar))] (by kernel_rfl) rfl (by kernel_rfl) ⟨?g0,?g1,?g2,?g3,?g4,?g5,?g6,?g7,?g8,?g9,trivial⟩ ?post
    case g0 | g1 | g3 | g4=>
     intro v w1 hx;intro bb hbb;subst hbb;refine ⟨_,fun w=>?_,rfl⟩;go_simp
    case g2=>
     intro v w1 hx;intro bb hbb;intro K hK;have o1:bb.eval (.tmp 7) = .pointer (some ⟨gl,0,none⟩):=by rw [hbb]; dsimp only; (try simp (discharger:=decide) only [eval_put_ne]); rfl
     exact Q0s (.tmp 7) _ rfl Tryz.Z6i Tryz.Z4x o1 (KL.out.ext (hdr.trans hx)) rfl (hK _ _ (Ext.refl _) rfl)
    case g5 | g8=>
     intro v w1 hx;(repeat intro (zq:v _ = _));intro bb hbb;subst hbb;have hkI2:=hkI;refine ⟨_,fun w=>?_,rfl⟩;go_simp
    case g6=>
     intro v w1 hx;(repeat intro (zq:v _ = _));intro bb hbb;subst hbb;have n0:=(HXB.out.trans (hdr.trans hx)).cell HCK.out;intro K hK;go_simp;exact hK _ _ (Ext.refl _) rfl
    case g7=>
     intro v w1 hx;(repeat intro (zq:v _ = _));intro bb hbb;subst hbb;intro K hK;go_simp;refine Q0d (Y7o w1 nm ar li vk HAR.out HVK.out) ?_;rintro e w2 ⟨rfl,hx2⟩;exact ⟨_,rfl,hK _ _ hx2 rfl⟩
    case g9=>
     intro v w1 hx;(repeat intro (zq:v _ = _));intro wl hT;obtain rfl:wl = w1:=hT;intro bb hbb;intro K2 hK2;have o1:bb.eval (.tmp 30) = .pointer (some ⟨b,k,none⟩):=by rw [hbb]; dsimp only; (try simp (discharger:=decide) only [eval_put_ne]); rw [Q0a (by simp only [size_put]; exact (by decide:30 < 33))]; assumption
     have o2:bb.eval (.tmp 29) = .int .i64 (vk / ar):=by rw [hbb]; dsimp only; (try simp (discharger:=decide) only [eval_put_ne]); rw [Q0a (by simp only [size_put]; exact (by decide:29 < 33))]; assumption
     exact Q5b _ _ rfl Tryz.X8d (g:=b) (k:=k) o1 o2 rfl rfl (HBK.out.ext (HXB.out.trans (hdr.trans hx))) (by simp [Y2o,Q7e,HL.out]; exact HK.out) (fun v'=>hK2 _ _ rfl)
    case post =>
     intro v w1 hx;(iterate 9 intro (zq:v _ = _));intro w2 hE;replace hE:(fun v w1 w'=>w' = w1.setCell ⟨b,k,none⟩ (.int .i64 (vk / ar))) v w1 w2:=hE;simp only [Flow.acts,Act.put];go_simp;have hxx:=HXB.out.trans (hdr.trans hx);have hb2:=(HBK.out.ext hxx).set k (.int .i64 (vk / ar));rw [X7x,<- HNX.out] at hb2;have hl2:=(Below.trans HLO.out (hxx.mono (Nat.le_of_lt HBK.out.lt))).setCell (p:=⟨b,k,none⟩) (Nat.le_refl _) (.int .i64 (vk / ar));have HB2:=Lib.hid hb2;have HL2:=Lib.hid hl2;clear hb2 hl2 hxx hx hdr hE KL HXB;(repeat clear zq);go_wp2;go_roundw
     case rel=>exact ⟨k + 1,by have:=HK.out; omega,by (try rw [HWK.out]); go_num,HB2.out,HL2.out⟩
     case measure=>have:=HK.out; (try rw [HWK.out]); simp [intOf]; omega
  . obtain rfl:k = n:=by omega
    have hkI:¬ (k:Int) < (k:Int):=by omega
    clear hbk hlow;go_wp2;go_ret;exact ⟨b,rfl,Y8s HBK.out (by rw [Q7e,HL.out]) (by have:=HN8.out; omega),HXR.out⟩
def Z2f (x:Q1b) (V:List Int) (k:Nat):Bool:=decide (Q9m x.nodes k < ix V k / Q4x x.nodes k)
def Q8k (x:Q1b) (V:List Int) (k:Nat):List Int:=((List.range k).filter (Z2f x V)).map fun j:Nat=>(j:Int)
theorem X6s (x:Q1b) (V:List Int) (k:Nat):Q8k x V (k + 1) = if Z2f x V k = true then Q8k x V k ++ [(k:Int)] else Q8k x V k:=by
 unfold Q8k;rw [List.range_succ,List.filter_append,List.map_append]
 by_cases h:Z2f x V k = true
 . rw [if_pos h]; simp [h]
 . rw [if_neg h]; simp [h]
theorem X8r (x:Q1b) (V:List Int) (k:Nat):(Q8k x V k).length <= k:=by
 unfold Q8k;rw [List.length_map];exact Nat.le_trans (List.length_filter_le _ _) (by simp)
theorem Y8r (w:World) (vb vv:Value) (x:Q1b) (V:List Int) (hv:Q1s w vb x) (hV:Q0b w vv V) (hb:x.Ok) (hl:V.length = x.nodes.length) (hbn:Bnd V 100000000) :
    Calls Tryz.prog 35 #[vb,vv] w fun e w'=>∃ r,e = .returned r /\ Q0b w' r (Q8k x V x.nodes.length) /\ Ext w w':=by
 obtain ⟨i0,hi,hz0,hz1,hz2⟩:=info_parts Tryz.info3;obtain ⟨va,vl,rfl,h2⟩:=hv;obtain ⟨A,capa,rfl,-,-,-⟩:=h2.nodes.opened;obtain ⟨L,capl,rfl,-,-,-⟩:=h2.links.opened;have HLV:Hid (∀ W,Ext w W -> Calls Tryz.prog 87 #[.agg #[.slice A x.nodes.length capa,.slice L x.links.length capl],vv] W fun e w'=>∃ b,e = .returned (.slice (some ⟨b,0,none⟩) x.nodes.length x.nodes.length) /\ Q0b w' (.slice (some ⟨b,0,none⟩) x.nodes.length x.nodes.length) (Y6g x V x.nodes.length) /\ Ext W w'):=Lib.hid fun W h =>
  Y5g W _ _ x V ⟨_,_,rfl,h2.ext h⟩ (hV.ext h) hb hl hbn
 have H2:=Lib.hid h2;have HOK:=Lib.hid hb;have HVB:=Lib.hid hbn;obtain ⟨n,hn⟩:∃ z,x.nodes.length = z:=⟨_,rfl⟩;obtain ⟨m,hm⟩:∃ z,x.links.length = z:=⟨_,rfl⟩;have HN:=Lib.hid hn;have HL:=Lib.hid (hl.trans hn);have HN8:Hid (1 <= n /\ n <= 8):=Lib.hid (by rw [<- hn]; exact hb.some)
 rw [hn,hm] at HLV;rw [hn,hm];clear h2 hb hbn hn hm hl hV;go_enter Tryz.func35,Tryz.ntmps35;go_upto_region 2 with fail;obtain ⟨W,hWW,k0,HXW,eW⟩:=Q2q w 40 #[.slice A n capa,.slice L m capl];rw [hWW];clear hWW;obtain ⟨g,hg⟩:∃ z,w.heap.size = z:=⟨_,rfl⟩;rw [hg] at k0 eW ⊢;have K0:=Lib.hid k0;have HG:Hid (g = w.heap.size):=Lib.hid hg.symm;clear k0 eW hg;go_wp2_with (first | (refine Q0j rfl _ _ rfl Tryz.Z2u Tryz.Z0i rfl K0.out rfl ?_) | fail)
 refine (HLV.out _ HXW.out).mono ?_;rintro e w4 ⟨b,rfl,hlv,hx4⟩;have HX4:=Lib.hid (HXW.out.trans hx4);have HK4:=Lib.hid (K0.out.ext hx4);have HLV4:=Lib.hid hlv;obtain ⟨B,hB⟩:∃ z,w4.heap.size = z:=⟨_,rfl⟩;have HB:=Lib.hid hB;clear hlv hx4 hB K0 HLV;go_wp2_with fail
 go_loopw [5,12] (fun fv iv wr=>∃ k:Nat,k <= n /\ iv = .int .i64 k /\ Q0g wr B 3 (.int .i64) fv (Q8k x V k) /\ Ext w4 wr) (fun _ iv _=>n - (intOf iv).toNat)
 case atStart=>exact ⟨0,Nat.zero_le _,rfl,Q0g.nil _ _ _ _,Ext.refl _⟩
 case round =>
  obtain ⟨k,hk,rfl,hown,hx⟩:=hrel;have HOWN:=Lib.hid hown;have HX:=Lib.hid hx;have HKR:=Lib.hid (HK4.out.ext hx)
  by_cases hlt:k < n
  . have hkI:(k:Int) < (n:Int):=by omega
    have HK:=Lib.hid hlt;have HWK:Hid (wrap64 ((k:Int) + 1) = (k:Int) + 1):=Lib.hid (by have:=HN8.out; unfold wrap64; omega)
    obtain ⟨L9,c9,h9,-,-,hcx⟩:=(H2.out.ext (HX4.out.trans hx)).nodes.opened;obtain ⟨bx,ox,hbx,-,-,-,d2,-⟩:=hcx k (by rw [HN.out]; exact hlt)
    rw [HN.out] at h9;injection h9 with k1 k2 k3;subst k1 k3;subst hbx;obtain ⟨L8,c8,h8,-,-,hcy⟩:=(HLV4.out.ext hx).opened;have hll2:(Y6g x V n).length = n:=by rw [Q7e,HL.out]
    obtain ⟨by_,oy,hby,e0⟩:=hcy k (by rw [hll2]; exact hlt)
    injection h8 with j1 j2 j3;subst j1;injection hby with hby
    injection hby with hb1 hb2 hb3;subst hb1 hb2;rw [Y2x x V n (by rw [HL.out]; exact Nat.le_refl _) k,if_pos hlt,Nat.zero_add] at e0
    have hsn:=X6s x V k;obtain ⟨q,hq⟩:∃ q,Z2f x V k = q:=⟨_,rfl⟩;have hq0:=hq;unfold Z2f at hq0;rw [hq] at hsn;obtain ⟨lv,hlv⟩:∃ z,ix V k / Q4x x.nodes k = z:=⟨_,rfl⟩;obtain ⟨li,hli⟩:∃ z,Q9m x.nodes k = z:=⟨_,rfl⟩;rw [hlv] at e0 hq0;rw [hli] at d2 hq0;have c0:=HKR.out.cell 0;simp only [Go.Tw.gA,Go.Tw.gB] at c0;have hll:(Q8k x V k).length <= 8:=Nat.le_trans (X8r x V k) (by have:=HN8.out; omega)
    have HSN:=Lib.hid hsn;have HLL:=Lib.hid hll;have hle:B <= wr.heap.size:=by have:=HB.out; have:=hx.size; omega
    clear hcx hcy k2 hk hlv hli hq hsn j2 j3 hll2 hb3;cases q with
    | true =>
      have hgt:li < lv:=by simpa using hq0
      clear hq0;go_wp2_with (at_builtin; refine wpList_append_own _ rfl _ _ 44 rfl (B) 3 i0 (.int .i64 0) 1 8 Tryz.underlying44 hi hz0 hz1 hz2 rfl (by decide) _ _ _ rfl (World.ownsRow.alloc hown _) ⟨wr.heap.size,0,none⟩ 1 1 [.int .i64 k] rfl rfl ?_ ?_ ?_ ?_ ?_ ?_; exact Q4h _ _ _; (focus (simp [Value.oneCell'])); (focus (unfold maxLen; omega)); (focus omega); (focus (have:=hx.size; simp at this ⊢; omega)); intro v' w1 hown' hgrow _)
      have hx':Ext w4 w1:=Q2r hx hown (by have:=HB.out; omega) hgrow
      have HX':=Lib.hid hx';have HOW':Hid (Q0g w1 B 3 (.int .i64) v' (Q8k x V (k + 1))):=Lib.hid (by rw [HSN.out,if_pos rfl]; exact Q0g.snoc hown')
      clear hx' hown' hgrow hown hx hle;go_wp2;go_roundw
      case rel=>exact ⟨k + 1,by have:=HK.out; omega,by (try rw [HWK.out]); go_num,HOW'.out,HX'.out⟩
      case measure=>have:=HK.out; (try rw [HWK.out]); simp [intOf]; omega
    | false =>
      have hgt:¬ li < lv:=by simpa using hq0
      have HOW':Hid (Q0g wr B 3 (.int .i64) u5 (Q8k x V (k + 1))):=Lib.hid (by rw [HSN.out,if_neg (by simp)]; exact HOWN.out)
      clear hq0 hown hx hle;go_wp2;go_roundw
      case rel=>exact ⟨k + 1,by have:=HK.out; omega,by (try rw [HWK.out]); go_num,HOW'.out,HX.out⟩
      case measure=>have:=HK.out; (try rw [HWK.out]); simp [intOf]; omega
  . obtain rfl:k = n:=by omega
    have hkI:¬ (k:Int) < (k:Int):=by omega
    have HLE:Hid ((Q8k x V k).length <= 17592186043904):=Lib.hid (Nat.le_trans (X8r x V k) (by have:=HN8.out; omega))
    clear hown hx;go_wp2;go_ret;exact ⟨_,rfl,HOWN.out.ints HLE.out,HX4.out.trans HX.out⟩
end Go.Proofs
namespace Go.Tw
open Go.RowKit Go.Flow Go.Ba
def Q9h (x:Q1b) (V:List Int) (l:List Cond) (m:Nat):List (List Int):=(List.range m).map fun k=>Q3a x V l (k + 1)
end Go.Tw
namespace Go.Proofs
open Go.RowKit Go.Tw Go.Flow Go.Ba
attribute [local go_sem] Oper.semAt_some
theorem Tryz.Y8y:(Tryz.prog.info? 44).map (fun i=>(i.zero,i.size,i.bytes)) = some (some (.slice none 0 0),1,24):=by kernel_rfl
theorem Tryz.Z5r (w:World):(isAgg 125).run Tryz.prog w = .ok true w:=by kernel_rfl
theorem Tryz.Z3h (w:World):(sizeOf 125).run Tryz.prog w = .ok 5 w:=by kernel_rfl
theorem X9q (w:World) (td:Int) (op:Bool) (A1 A2 A3:Option Addr) (n1 c1 n2 c2 n3 c3:Nat) :
    Calls Tryz.prog 99 #[Y8e td op (.slice A1 n1 c1) (.slice A2 n2 c2) (.slice A3 n3 c3)] w fun e w'=>e = .returned (.slice A3 n3 c3) /\ Ext w w':=by
 have hx:=Ext.box w (.cells (Q8z td op (.slice A1 n1 c1) (.slice A2 n2 c2) (.slice A3 n3 c3)) 125);have hk:=(Blk.made w 125 (Q8z td op (.slice A1 n1 c1) (.slice A2 n2 c2) (.slice A3 n3 c3))).cell 4;simp only [Go.Tw.gA,Go.Tw.gB,Go.Tw.gC] at hk;go_enter Tryz.func99,Tryz.ntmps99;go_wp2;go_ret;exact ⟨rfl,hx⟩
theorem X8k (w:World) (v:Value) (ps:List PsV) (ll:List (List Int)) (hv:Q6q w v ps) (hr:∀ k (hk:k < ps.length),Q0b w ps[k].u (ll.getD k [])) (hle:ps.length <= 4096) (hl:ll.length = ps.length) :
    Calls Tryz.prog 98 #[v,.func (.func 99) #[] #[]] w fun e w'=>∃ x,e = .returned x /\ Q3j w' x ll /\ Ext w w':=by
 obtain ⟨i0,hi,hz0,hz1,hz2⟩:=info_parts Tryz.Y8y;obtain ⟨A,cap,rfl,-,-,-⟩:=hv.opened;have hen:=enters_of Tryz.func99 (by kernel_rfl) rfl
 have HV:=Lib.hid hv;have HR:=Lib.hid hr;have HLL:=Lib.hid hl;have HLE:=Lib.hid hle;obtain ⟨m,hm⟩:∃ z,ps.length = z:=⟨_,rfl⟩;have HM:=Lib.hid hm;rw [hm];clear hv hr hl hle hm;go_enter Tryz.func98,Tryz.ntmps98;go_wp2
 go_loopw [5,10] (fun o i wr=>∃ (k:Nat) (vs:List Value),k <= m /\ i = .int .i64 k /\ Q0g wr w.heap.size 44 idV o vs /\ Reads w vs (ll.take k) /\ Ext w wr) (fun _ i _=>m - (intOf i).toNat)
 case atStart=>exact ⟨0,[],Nat.zero_le _,rfl,Q0g.nil _ _ _ _,⟨rfl,fun i hi=>by simp at hi⟩,Ext.refl _⟩
 case round =>
  obtain ⟨k,vs,hk,rfl,hown,hrd,hx⟩:=hrel;have hlen:vs.length = k:=by have:=hrd.1; rw [List.length_take,HLL.out,HM.out] at this; omega
  have HRD:=Lib.hid hrd;have HOWN:=Lib.hid hown;have HXR:=Lib.hid hx;clear hrd
  by_cases hlt:k < m
  . have hkI:(k:Int) < (m:Int):=by omega
    have HK:=Lib.hid hlt;have HWK:Hid (wrap64 ((k:Int) + 1) = (k:Int) + 1):=Lib.hid (by have:=HLE.out; have:=HM.out; unfold wrap64; omega)
    have hkl:k < ps.length:=by rw [HM.out]; exact hlt
    obtain ⟨L9,c9,h9,-,-,hcx⟩:=(HV.out.ext hx).opened;obtain ⟨bx,ox,A1,n1,c1,A2,n2,c2,A3,n3,c3,hbx,-,d0,d1,d2,d3,d4,-,-,hu⟩:=hcx k hkl;have hru:=HR.out k hkl;rw [hu] at hru;rw [HM.out] at h9;injection h9 with k1 k2 k3;subst k1 k3;subst hbx;have HRS:Hid (Reads w (vs ++ [.slice A3 n3 c3]) (ll.take (k + 1))):=Lib.hid (by
     have e:ll.take (k + 1) = ll.take k ++ [ll.getD k []]:=by
      rw [List.take_succ_eq_append_getElem (by rw [HLL.out]; exact hkl)]; simp [HLL.out,hkl]
     rw [e]; exact HRD.out.snoc hru)
    obtain ⟨td,htd⟩:∃ z,ps[k].td = z:=⟨_,rfl⟩;obtain ⟨op,hop⟩:∃ z,ps[k].op = z:=⟨_,rfl⟩;rw [htd] at d0;rw [hop] at d1;have HLEN:=Lib.hid hlen;have hll0:vs.length <= 4096:=by have:=HLE.out; have:=HM.out; omega
    have HLL0:=Lib.hid hll0;clear hcx htd hop hu hru hown hx k2 hk hlt hkl hlen hll0;go_upto_region 5 with fail;clear d0 d1 d2 d3 d4;obtain ⟨gl,hgl⟩:∃ z,wr.heap.size = z:=⟨_,rfl⟩;have hxb:=Ext.box wr (.cells (Q8z td op (.slice A1 n1 c1) (.slice A2 n2 c2) (.slice A3 n3 c3)) 125);have hkb:=Blk.made wr 125 (Q8z td op (.slice A1 n1 c1) (.slice A2 n2 c2) (.slice A3 n3 c3));obtain ⟨W7,hW7⟩:∃ z,wr.alloc (.cells (Q8z td op (.slice A1 n1 c1) (.slice A2 n2 c2) (.slice A3 n3 c3)) 125) = z:=⟨_,rfl⟩;rw [hW7,hgl] at hkb;rw [hW7] at hxb ⊢;rw [hgl];have HKB:=Lib.hid hkb;have HXB:=Lib.hid hxb;clear hW7 hxb hkb hgl;go_wp2_with (first | (refine Q0j rfl _ _ rfl Tryz.Z5r Tryz.Z3h rfl HKB.out rfl ?_) | fail)
    refine (X9q _ td op A1 A2 A3 n1 c1 n2 c2 n3 c3).mono ?_;rintro e w8 ⟨rfl,hx8⟩;have hx:=HXR.out.trans (HXB.out.trans hx8);have hown:=HOWN.out.below (HXB.out.trans hx8);have hll:=HLL0.out;clear HKB HXB hx8;go_wp2_with (at_builtin; refine wpList_append_own _ rfl _ _ 84 rfl (w.heap.size) 44 i0 (.slice none 0 0) 1 24 Tryz.underlying84 hi hz0 hz1 hz2 rfl (by decide) _ _ _ rfl (World.ownsRow.alloc hown _) ⟨w8.heap.size,0,none⟩ 1 1 [.slice A3 n3 c3] rfl rfl ?_ ?_ ?_ ?_ ?_ ?_; exact Q4h _ _ _; (focus (simp [Value.oneCell'])); (focus (unfold maxLen; omega)); (focus omega); (focus (have:=hx.size; simp at this ⊢; omega)); intro v' w1 hown' hgrow _)
    have hx':=Q2r hx hown (Nat.le_refl _) hgrow;go_wp2;go_roundw
    case rel=>exact ⟨k + 1,vs ++ [.slice A3 n3 c3],by have:=HK.out; omega,by (try rw [HWK.out]); go_num,Q0g.snoc (x:=Value.slice A3 n3 c3) hown',HRS.out,hx'⟩
    case measure=>have:=HK.out; (try rw [HWK.out]); simp [intOf]; omega
  . obtain rfl:k = m:=by omega
    have hkI:¬ (k:Int) < (k:Int):=by omega
    have hrd2:=HRD.out;rw [List.take_of_length_le (by rw [HLL.out,HM.out]; exact Nat.le_refl _)] at hrd2
    have HRD2:=Lib.hid hrd2;have HLB:Hid (ll.length <= 17592186043904):=Lib.hid (by rw [HLL.out]; have:=HLE.out; omega)
    clear hown hx hlen hrd2;go_wp2;go_ret;exact ⟨_,rfl,HOWN.out.Z5d (HRD2.out.ext HXR.out) HLB.out,HXR.out⟩
theorem X2k (w:World) (v:Value) (ps:List PsV) (ll:List (List Int)) (hv:Q6q w v ps) (hr:∀ k (hk:k < ps.length),Q0b w ps[k].u (ll.getD k [])) (hle:ps.length <= 4096) (hl:ll.length = ps.length) :
    Calls Tryz.prog 50 #[v] w fun e w'=>∃ x,e = .returned x /\ Q3j w' x ll /\ Ext w w':=by
 have HC:=Lib.hid (X8k w v ps ll hv hr hle hl);clear hv hr hle hl;go_enter Tryz.func50,Tryz.ntmps50;go_wp2_with fail;refine HC.out.mono ?_;rintro e w2 ⟨x,rfl,hx,hx2⟩;have HX:=Lib.hid hx;have HX2:=Lib.hid hx2;clear hx hx2;go_wp2;go_ret;exact ⟨_,rfl,HX.out,HX2.out⟩
theorem X2d (w:World) (vb vv vc:Value) (x:Q1b) (V:List Int) (l:List Cond)
    (hb:Q1s w vb x) (hV:Q0b w vv V) (hc:Q1v w vc l) (hf:x.Fine) (hlen:V.length = x.nodes.length) (hbn:Bnd V 100000000) (hco:Q5i x l) (hlm:l.length <= 96) :
    Calls Tryz.prog 21 #[vb,vv,vc] w fun e w'=>∃ r er ll,e = .returned (.tuple #[r,.int .i64 er]) /\ Q3j w' r ll /\ ((er = 0 /\ ll = Q9h x V l l.length /\ ∀ j,j < l.length -> Q2t x V l j = true) ∨ (er = 4 /\ ll = [] /\ ∃ j,j < l.length /\ Q2t x V l j = false)) /\ Ext w w':=by
 obtain ⟨va,vl,rfl,h2⟩:=hb;obtain ⟨A,capa,rfl,-,-,-⟩:=h2.nodes.opened;obtain ⟨L,capl,rfl,-,-,-⟩:=h2.links.opened;have HCK:Hid (∀ W,Ext w W -> Calls Tryz.prog 34 #[.agg #[.slice A x.nodes.length capa,.slice L x.links.length capl],vv,vc] W fun e w'=>∃ v ps er,e = .returned (.tuple #[v,.int .i64 er]) /\ Q6q w' v ps /\ X4c x V l er ps /\ X8c w' w' x V l ps /\ Ext W w'):=Lib.hid fun W h =>
  X4m W _ _ _ x V l ⟨_,_,rfl,h2.ext h⟩ (hV.ext h) (hc.ext h) hf hlen hbn hco hlm
 have HN8:=Lib.hid hf.ok.some;have HLN:=Lib.hid hlen;have HLM:=Lib.hid hlm;obtain ⟨n,hn⟩:∃ z,x.nodes.length = z:=⟨_,rfl⟩;obtain ⟨m,hm⟩:∃ z,x.links.length = z:=⟨_,rfl⟩;rw [hn,hm] at HCK;rw [hn,hm];clear h2 hV hc hf hlen hbn hco hlm hn hm;go_enter Tryz.func21,Tryz.ntmps21;go_upto_region 1 with fail;obtain ⟨W,hWW,k0,HXW,eW⟩:=Q2q w 40 #[.slice A n capa,.slice L m capl];rw [hWW];clear hWW;have K0:=Lib.hid k0;clear k0 eW;go_wp2_with (first | (refine Q0j rfl _ _ rfl Tryz.X1q Tryz.Q7c rfl K0.out rfl ?_) | fail)
 refine (HCK.out _ HXW.out).mono ?_;rintro e w2 ⟨v,ps,er,rfl,hip,hr,hp,hx2⟩;obtain ⟨ll,hll⟩:∃ ll,(ll = if er = 0 then Q9h x V l l.length else []):=⟨_,rfl⟩
 have hlen:ll.length = ps.length:=by
  rcases hr with ⟨h0,h,-⟩ | ⟨h0,rfl,-⟩
  . rw [hll,if_pos h0,h]; simp [Q9h]
  . rw [hll,if_neg (by omega)]; rfl
 have hrd:∀ k (hk:k < ps.length),Q0b w2 ps[k].u (ll.getD k []):=fun k hk=>by
  rcases hr with ⟨h0,h,hf⟩ | ⟨h0,rfl,-⟩
  . have hv:=(hp k hk).2.2.vols
    rw [if_pos (hf k (by omega))] at hv
    have e:ll.getD k [] = Q3a x V l (k + 1):=by
     rw [hll,if_pos h0];have:k < l.length:=by omega
     simp [Q9h,this]
    rw [e];exact hv.2.ints (by rw [Q5m,HLN.out]; have:=HN8.out; omega)
  . exact absurd hk (Nat.not_lt_zero _)
 have hres:(er = 0 /\ ll = Q9h x V l l.length /\ ∀ j,j < l.length -> Q2t x V l j = true) ∨ (er = 4 /\ ll = [] /\ ∃ j,j < l.length /\ Q2t x V l j = false):=by
  rcases hr with ⟨h0,h,hf⟩ | ⟨h0,rfl,hf⟩
  . exact .inl ⟨h0,by rw [hll,if_pos h0],hf⟩
  . exact .inr ⟨h0,by rw [hll,if_neg (by omega)],hf⟩
 have hpl:ps.length <= 4096:=by
  rcases hr with ⟨-,h,-⟩ | ⟨-,rfl,-⟩
  . rw [h]; have:=HLM.out; omega
  . exact Nat.zero_le _
 have HVO:=Lib.hid (X2k w2 v ps ll hip hrd hpl hlen);have HRES:=Lib.hid hres;have HX2:=Lib.hid (HXW.out.trans hx2);clear hip hr hp hx2 hll hlen hrd hres hpl HCK K0;go_wp2_with fail;refine HVO.out.mono ?_;rintro e w3 ⟨r,rfl,hri,hx3⟩;have HRI:=Lib.hid hri;have HX3:=Lib.hid (HX2.out.trans hx3);clear hri hx3;go_wp2;go_ret2;exact ⟨_,_,ll,rfl,HRI.out,HRES.out,HX3.out⟩
end Go.Proofs
namespace Go.Tw
open Go.RowKit Go.Flow Go.Ba
def X2q (x:Q1b) (V:List Int) (l:List Cond) (k:Nat):List Int:=Go.Proofs.Q8k x (Q3a x V l (k + 1)) x.nodes.length
end Go.Tw
namespace Go.Proofs
open Go.RowKit Go.Tw Go.Flow Go.Ba
attribute [local go_sem] Oper.semAt_some
theorem X5x (w:World) (vb vv vc:Value) (x:Q1b) (V:List Int) (l:List Cond)
    (hb:Q1s w vb x) (hV:Q0b w vv V) (hc:Q1v w vc l) (hf:x.Fine) (hlen:V.length = x.nodes.length) (hbn:Bnd V 100000000) (hco:Q5i x l) (hlm:l.length <= 96) :
    Calls Tryz.prog 12 #[vb,vv,vc] w fun e w'=>∃ i j er,e = .returned (.tuple #[.int .i64 i,.int .i64 j,.int .i64 er]) /\ ((er = 4 /\ ∃ j,j < l.length /\ Q2t x V l j = false) ∨
     ((∀ j,j < l.length -> Q2t x V l j = true) /\ ((er = 0 /\ ∃ k,k < l.length /\ X2q x V l k ≠ []) ∨ (er = 7 /\ ∀ k,k < l.length -> X2q x V l k = [])))) /\ Ext w w':=by
 obtain ⟨va,vl,rfl,h2⟩:=hb;obtain ⟨A,capa,rfl,-,-,-⟩:=h2.nodes.opened;obtain ⟨L,capl,rfl,-,-,-⟩:=h2.links.opened;have HCK:Hid (∀ W,Ext w W -> Calls Tryz.prog 34 #[.agg #[.slice A x.nodes.length capa,.slice L x.links.length capl],vv,vc] W fun e w'=>∃ v ps er,e = .returned (.tuple #[v,.int .i64 er]) /\ Q6q w' v ps /\ X4c x V l er ps /\ X8c w' w' x V l ps /\ Ext W w'):=Lib.hid fun W h =>
  X4m W _ _ _ x V l ⟨_,_,rfl,h2.ext h⟩ (hV.ext h) (hc.ext h) hf hlen hbn hco hlm
 have HAB:Hid (∀ W u k,Ext w W -> k < l.length -> (∀ j,j < l.length -> Q2t x V l j = true) -> Q0b W u (Q3a x V l (k + 1)) -> Calls Tryz.prog 35 #[.agg #[.slice A x.nodes.length capa,.slice L x.links.length capl],u] W fun e w'=>∃ r,e = .returned r /\ Q0b w' r (X2q x V l k) /\ Ext W w'):=Lib.hid fun W u k h hk hfi hu =>
  Y8r W _ u x _ ⟨_,_,rfl,h2.ext h⟩ hu hf.ok (by rw [Q5m,hlen]) (X5c hf.ok hlen hbn hco (k + 1) hk (fun j hj=>hfi j (by omega)))
 have HN8:=Lib.hid hf.ok.some;have HLN:=Lib.hid hlen;have HLM:=Lib.hid hlm;obtain ⟨n,hn⟩:∃ z,x.nodes.length = z:=⟨_,rfl⟩;obtain ⟨m,hm⟩:∃ z,x.links.length = z:=⟨_,rfl⟩;rw [hn,hm] at HCK HAB;rw [hn,hm];clear h2 hV hc hf hlen hbn hco hlm hn hm;go_enter Tryz.func12,Tryz.ntmps12;go_upto_region 1 with fail;obtain ⟨W,hWW,k0,HXW,eW⟩:=Q2q w 40 #[.slice A n capa,.slice L m capl];rw [hWW];clear hWW;obtain ⟨g,hg⟩:∃ z,w.heap.size = z:=⟨_,rfl⟩;rw [hg] at k0 eW ⊢;have K0:=Lib.hid k0;have HG:=Lib.hid hg;clear k0 eW hg;refine wp_scope_straight ?_;go_wp2_with (first | (refine Q0j rfl _ _ rfl Tryz.X1q Tryz.Q7c rfl K0.out rfl ?_) | fail)
 refine (HCK.out _ HXW.out).mono ?_;rintro e w2 ⟨v,ps,er,rfl,hip,hr,hp,hx2⟩;have HX2:=Lib.hid (HXW.out.trans hx2);have HK2:=Lib.hid (K0.out.ext hx2)
 rcases hr with ⟨rfl,hpl,hfi⟩ | ⟨rfl,-,hnf⟩
 . obtain ⟨P,capp,rfl,-,-,-⟩:=hip.opened
   have HIP:=Lib.hid hip;have HP:=Lib.hid hp;have HFI:=Lib.hid hfi;obtain ⟨q,hq⟩:∃ z,l.length = z:=⟨_,rfl⟩;have HQ:=Lib.hid hq;have HPL:=Lib.hid hpl;rw [hpl,hq];have HQM:Hid (q <= 96):=Lib.hid (by rw [<- hq]; exact HLM.out)
   clear hip hp hfi hq hpl hx2 K0 HCK;go_wp2;refine wp_label ?_;go_wp2
   go_loopw [11,12,13,30] (fun a b c iv wr=>∃ k:Nat,k <= q /\ iv = .int .i64 k /\ a = .int .i64 0 /\ b = .int .i64 0 /\ c = .bool false /\ (∀ j,j < k -> X2q x V l j = []) /\ Ext w2 wr) (fun _ _ _ iv _=>q - (intOf iv).toNat)
   case atStart=>exact ⟨0,Nat.zero_le _,rfl,rfl,rfl,rfl,fun j hj=>absurd hj (Nat.not_lt_zero _),Ext.refl _⟩
   case round =>
    obtain ⟨k,hk,rfl,rfl,rfl,rfl,hno,hx⟩:=hrel;have HNO:=Lib.hid hno;have HXR:=Lib.hid hx
    by_cases hlt:k < q
    . have hkI:(k:Int) < (q:Int):=by omega
      have HK:=Lib.hid hlt;have HWK:Hid (wrap64 ((k:Int) + 1) = (k:Int) + 1):=Lib.hid (by have:=HQM.out; unfold wrap64; omega)
      have hkl:k < ps.length:=by rw [HPL.out,HQ.out]; exact hlt
      obtain ⟨L9,c9,h9,-,-,hcx⟩:=(HIP.out.ext hx).opened;obtain ⟨bx,ox,A1,n1,c1,A2,n2,c2,A3,n3,c3,hbx,-,d0,d1,d2,d3,d4,-,-,hu⟩:=hcx k hkl;have hvo:=(HP.out k hkl).2.2.vols;rw [if_pos (HFI.out k (by rw [HQ.out]; exact hlt)),hu] at hvo
      have hui:=hvo.2.ints (by rw [Q5m,HLN.out]; have:=HN8.out; omega)
      have HUI:=Lib.hid hui;rw [HPL.out,HQ.out] at h9;injection h9 with k1 k2 k3;subst k1 k3;subst hbx;obtain ⟨td,htd⟩:∃ z,ps[k].td = z:=⟨_,rfl⟩;obtain ⟨op,hop⟩:∃ z,ps[k].op = z:=⟨_,rfl⟩;rw [htd] at d0;rw [hop] at d1;clear hcx htd hop hu hvo hui k2 hk hkl hno hlt;go_upto_region 8 with fail;clear d0 d1 d2 d3 d4;obtain ⟨gl,hgl⟩:∃ z,wr.heap.size = z:=⟨_,rfl⟩;have hxb:=Ext.box wr (.cells (Q8z td op (.slice A1 n1 c1) (.slice A2 n2 c2) (.slice A3 n3 c3)) 125);have hkb:=Blk.made wr 125 (Q8z td op (.slice A1 n1 c1) (.slice A2 n2 c2) (.slice A3 n3 c3));obtain ⟨W7,hW7⟩:∃ z,wr.alloc (.cells (Q8z td op (.slice A1 n1 c1) (.slice A2 n2 c2) (.slice A3 n3 c3)) 125) = z:=⟨_,rfl⟩;rw [hW7,hgl] at hkb;rw [hW7] at hxb ⊢;rw [hgl];have hxx:=hx.trans hxb;have HXX:=Lib.hid hxx;have HKB:=Lib.hid (HK2.out.ext hxx);have e4:=hkb.cell 4;simp only [Go.Tw.gA,Go.Tw.gB,Go.Tw.gC] at e4;have hab:=HAB.out W7 _ k (HX2.out.trans hxx) (by rw [HQ.out]; exact HK.out) HFI.out (HUI.out.ext hxx)
      have HABK:=Lib.hid hab;clear hW7 hxb hkb hgl hx hxx hab;go_wp2_with (first | (refine Q0j rfl _ _ rfl Tryz.X1q Tryz.Q7c rfl HKB.out rfl ?_) | fail)
      refine HABK.out.mono ?_;rintro e w8 ⟨r,rfl,hri,hx8⟩;obtain ⟨R,capr,rfl,-,-,hcr⟩:=hri.opened;have HX8:=Lib.hid (HXX.out.trans hx8);have HCR:=Lib.hid hcr;obtain ⟨na,hna⟩:∃ z,(X2q x V l k).length = z:=⟨_,rfl⟩;have HNA:=Lib.hid hna;rw [hna];clear e4 hri hcr hna hx8 HKB HABK;go_wp2_with fail
      go_loopw [11,12,13,40] (fun a b c iv wi=>a = .int .i64 0 /\ b = .int .i64 0 /\ c = .bool false /\ iv = .int .i64 0 /\ wi = w8) (fun _ _ _ _ _=>0)
      case atStart=>exact ⟨rfl,rfl,rfl,rfl,rfl⟩
      case round =>
       obtain ⟨rfl,rfl,rfl,rfl,rfl⟩:=hrel
       rcases Nat.eq_zero_or_pos na with hz | hz
       . subst hz
         have hab0:X2q x V l k = []:=List.length_eq_zero_iff.1 HNA.out;have HAB0:=Lib.hid hab0;clear hab0;go_wp2;go_roundw
         case rel =>
          refine ⟨k + 1,by have:=HK.out; omega,by (try rw [HWK.out]); go_num,rfl,rfl,rfl,fun j hj=>?_,HX8.out⟩
          rcases Nat.lt_succ_iff_lt_or_eq.1 hj with h | rfl
          . exact HNO.out j h
          . exact HAB0.out
         case measure=>have:=HK.out; (try rw [HWK.out]); simp [intOf]; omega
       . obtain ⟨b0,o0,rfl,hc0⟩:=HCR.out 0 (by rw [HNA.out]; exact hz)
         have hzI:(0:Int) < (na:Int):=by omega
         obtain ⟨a0,ha0⟩:∃ z,ix (X2q x V l k) 0 = z:=⟨_,rfl⟩;rw [ha0,Nat.add_zero] at hc0;have hnn:X2q x V l k ≠ []:=fun e=>by have:=HNA.out; rw [e] at this; simp at this; omega
         have HNN:=Lib.hid hnn;clear ha0 hnn;go_wp2_with (go_at_call 36; refine (Q9o _ false 7 rfl).mono ?_; rintro e w9 ⟨rfl,rfl⟩)
         (try simp only [Exit.noGoto_ret])
         go_ret3
         exact ⟨_,_,_,rfl,.inr ⟨HFI.out,.inl ⟨rfl,k,by rw [HQ.out]; exact HK.out,HNN.out⟩⟩,HX2.out.trans HX8.out⟩
    . obtain rfl:k = q:=by omega
      have hkI:¬ (k:Int) < (k:Int):=by omega
      clear hx hno;go_wp2_with (go_at_call 36; refine (X4e _ true 7).mono ?_; rintro e w9 ⟨rfl,rfl⟩)
      (try simp only [Exit.noGoto_ret])
      go_ret3
      exact ⟨_,_,_,rfl,.inr ⟨HFI.out,.inr ⟨rfl,by rw [HQ.out]; exact HNO.out⟩⟩,HX2.out.trans HXR.out⟩
 . have HNF:=Lib.hid hnf
   clear hnf hip hp hx2 K0 HCK;go_wp2
   (try simp only [Exit.noGoto_ret])
   go_ret3
   exact ⟨_,_,_,rfl,.inl ⟨rfl,HNF.out⟩,HX2.out⟩
end Go.Proofs
namespace Go.Tw
open Go.RowKit Go.Flow Go.Ba
theorem Y4f {α:Type} {w:World} {b:Nat} {T:TypeId} {cs:Array Value} {k:Nat} {R:World -> (Nat -> Value) -> α -> Prop} {l:List α} (h:Blk w b T cs) (hs:cs.size = l.length * k) (hl:l.length <= 17592186043904) (hR:∀ j (hj:j < l.length),R w (fun i=>cs.getD (j * k + i) undef) l[j]):Rows k R w (.slice (some ⟨b,0,none⟩) l.length l.length) l:=by
 refine ⟨fun j=>cs.getD j undef,⟨some ⟨b,0,none⟩,l.length,rfl,hl,Nat.le_refl _,fun j hj=>⟨b,0,rfl,?_⟩⟩,hR⟩;rw [Nat.zero_add,h.cell,Array.getElem?_eq_getElem (by omega)]
 simp [Array.getD,show j < cs.size by omega]
def Z0q:ByteArray:=⟨#[112,111,110,100]⟩
def Q3k (lim:Int):Q1b:=⟨[⟨Z0q,1,lim⟩],[⟨Q1y,-1,0,0,1⟩]⟩
theorem X3x {lim:Int} (h:0 <= lim /\ lim <= 1024):(Q3k lim).Fine:=by
 have z:∀ {k:Nat},k < 1 -> k = 0:=fun h=>by omega
 refine ⟨⟨(show 1 <= 1 /\ 1 <= 8 by decide),(show 1 <= 16 by decide),fun k hk=>?_,fun k hk=>?_,fun k hk=>?_,fun k hk=>?_,fun k hk=>?_⟩,fun k hk=>?_,fun k hk=>?_,fun j k hj hk=>?_⟩
 . obtain rfl:=z hk; show (1:Int) <= 1 /\ (1:Int) <= 1000; decide
 . obtain rfl:=z hk; exact h
 . obtain rfl:=z hk; show Y6c Q1y ≠ none; decide
 . obtain rfl:=z hk; show Lk.Fits (Q4r.Q9j ⟨Q1y,-1,0,0,1⟩) 1; exact (by
    have hk:(Q4r.Q9j ⟨Q1y,-1,0,0,1⟩).kind = .barrier:=by show (Y6c Q1y).getD .barrier = .barrier; unfold Y6c; rw [if_pos rfl]; rfl
    exact ⟨by decide,by decide,by rw [hk]; exact ⟨rfl,by decide,by decide⟩⟩)
 . obtain rfl:=z hk; show (0:Int) <= 1024 /\ (1:Int) <= 1000; decide
 . obtain rfl:=z hk; show Y0s ⟨Q1y,-1,0,0,1⟩ 1; exact ⟨by decide,by decide,by decide,by decide,by decide,by decide⟩
 . obtain rfl:=z hk; show nameB Z0q = true; decide
 . have:k < 1:=hk
   omega
end Go.Tw
namespace Go.Proofs
open Go.RowKit Go.Tw Go.Flow Go.Ba
attribute [local go_sem] Oper.semAt_some
theorem Q8a (w:World) (lim:Int) :
    Calls Tryz.prog 22 #[.int .i64 lim] w fun e w'=>∃ u,e = .returned u /\ Q1s w' u (Q3k lim) /\ Ext w w':=by
 go_enter Tryz.func22,Tryz.ntmps22;go_wp2;obtain ⟨W,hWW,k0,k1,k2,HXW,eW⟩:=X3m w 40 #[.slice (some ⟨w.heap.size + 1,0,none⟩) 1 1,.slice (some ⟨w.heap.size + 1 + 1,0,none⟩) 1 1] 105 #[.string ⟨#[112,111,110,100]⟩,.int .i64 1,.int .i64 lim] 106 #[.string ⟨#[98,97,114,114,105,101,114]⟩,.int .i64 (-1),.int .i64 0,.int .i64 0,.int .i64 1];rw [hWW];clear hWW;refine bodyPost_ret (Q5y Tryz.results22 rfl k0 Tryz.X1q Tryz.Q7c) rfl ?_;refine ⟨_,rfl,⟨_,_,rfl,?_,?_⟩,HXW.out⟩
 . exact Y4f (l:=([⟨Z0q,1,lim⟩]:List X3v)) k1 rfl (show 1 <= 17592186043904 by decide) (fun j hj=>by
    have:j = 0:=by have:j < 1:=hj; omega
    subst this; exact ⟨rfl,rfl,rfl,(show Short Z0q by unfold Short; decide)⟩)
 . exact Y4f (l:=([⟨Q1y,-1,0,0,1⟩]:List Q4r)) k2 rfl (show 1 <= 17592186043904 by decide) (fun j hj=>by
    have:j = 0:=by have:j < 1:=hj; omega
    subst this; exact ⟨rfl,rfl,rfl,rfl,rfl,(show Short Q1y by unfold Short; decide)⟩)
end Go.Proofs
namespace Go.Flow
open Go.RowKit Go.Tw
def Turns (B:Nat) (A A':World):Prop:=∃ l o o',B <= l /\ A.heap[l]? = some o /\ o.isCells = false /\ A' = A.putObj l o'
theorem Turns.cells {B:Nat} {A A':World} (h:Turns B A A') {b:Nat} {o:Obj} (hb:A.heap[b]? = some o) (hc:o.isCells = true):A'.heap[b]? = some o:=by
 obtain ⟨l,o1,o',hB,hl,hn,rfl⟩:=h;have hne:b ≠ l:=fun e=>by subst e; rw [hb] at hl; cases hl; rw [hc] at hn; cases hn
 rw [World.putObj_heap_other hne]; exact hb
theorem Turns.cell {B:Nat} {A A':World} (h:Turns B A A') {p:Addr} {v:Value} (hp:A.cell? p = some v):A'.cell? p = some v:=by
 have hlt:=World.block_lt_of_cell? A p hp;have hb:A.heap[p.block]? = some A.heap[p.block]:=Array.getElem?_eq_getElem hlt;have hc:A.heap[p.block].isCells = true:=by
  unfold World.cell? at hp;rw [hb] at hp;cases ho:A.heap[p.block] <;> rw [ho] at hp <;> simp_all [Obj.isCells]
 have hb2:=h.cells hb hc;unfold World.cell? at hp ⊢;rw [hb2]; rw [hb] at hp; exact hp
theorem Turns.below {B n:Nat} {A A':World} (h:Turns B A A') (hn:n <= B):Below n A A':=by
 obtain ⟨l,o,o',hB,hl,_,rfl⟩:=h;have hlt:=(Array.getElem?_eq_some_iff.1 hl).1;refine Below.grown (Below.refl n A) (grownBy_putObj' A l o') (by omega) (fun k e=>by cases e; omega)
theorem Turns.own {α:Type} {B b:Nat} {A A':World} (h:Turns B A A') {T:TypeId} {enc:α -> Value} {v:Value} {l:List α} (ho:Q0g A b T enc v l):Q0g A' b T enc v l:=by
 obtain ⟨h1,h2⟩:=ho;refine ⟨h1,?_⟩
 rcases h2 with h2 | ⟨g,cap,cur,hv,hbg,hgl,r⟩
 . exact .inl h2
 . exact .inr ⟨g,cap,cur,hv,hbg,h.cells hgl rfl,r⟩
theorem Turns.blk {B g:Nat} {A A':World} (h:Turns B A A') {T:TypeId} {cs:Array Value} (hb:Blk A g T cs):Blk A' g T cs:=h.cells hb rfl
theorem Turns.same {B b:Nat} {A A':World} (h:Turns B A A') (hb:b < B):A'.heap[b]? = A.heap[b]?:=by
 obtain ⟨l,o,o',hB,hl,_,rfl⟩:=h;exact World.putObj_heap_other (by omega)
end Go.Flow
namespace Go.Tw
theorem Q4w {p:List Rul} {k:Nat} (hk:k < p.length):Q0l p k = p[k].classes:=by unfold Q0l; rw [Q0r _ hk]
theorem Y8l {p:List Rul} {k:Nat} (hk:k < p.length):Q3d p k = p[k].close:=by unfold Q3d; rw [Q0r _ hk]
theorem Z0p (p:List Rul) (n:Nat):(X8s p n).length = p.length:=by simp [X8s]
theorem X9p (p:List Rul) (n:Nat):(X8s p n).map Rul.classes = p.map Rul.classes:=by
 refine List.ext_getElem (by simp [X8s]) fun i h1 h2=>?_
 have hi:i < p.length:=by simpa using h2
 simp [X8s,Q4w hi]
theorem Y5u {h:List (List Int)} {p:List Rul} {n:Nat} (hp:Q0x h p = 0):Q0x h (X8s p n) = 0:=by
 rw [Q1o] at hp ⊢;rw [X9p,hp]
end Go.Tw
namespace Go.Tw
open Go.RowKit
theorem X9l (s k:ByteArray) (v:Value):∀ l,Q5k k (X5t s v l) = if k = s then some v else Q5k k l
 | []=>by
   unfold X5t Q5k
   by_cases h:k = s
   . rw [if_pos (str_eq h),if_pos h]
   . rw [if_neg (by rw [X3w h]; simp),if_neg h]; rfl
 | p :: l=>by
   unfold X5t
   by_cases hs:s = p.1
   . rw [if_pos (str_eq hs)]
     by_cases h:k = s
     . simp only [Q5k]; rw [if_pos (str_eq h),if_pos h]
     . simp only [Q5k]; rw [if_neg (by rw [X3w h]; simp),if_neg h,if_neg (by rw [<- hs,X3w h]; simp)]
   . rw [if_neg (by rw [X3w hs]; simp)]
     simp only [Q5k]
     by_cases hk:k = p.1
     . rw [if_pos (str_eq hk),if_pos (str_eq hk),if_neg (fun e=>hs (by rw [<- e,hk]))]
     . have h1:¬ (k == p.1) = true:=by rw [X3w hk]; simp
       rw [if_neg h1,X9l s k v l]
       by_cases h:k = s
       . rw [if_pos h,if_pos h]
       . rw [if_neg h,if_neg h,if_neg h1]
def Q3o (p:List Rul):Nat -> List (ByteArray × Value)
 | 0=>[]
 | k + 1=>X5t (X0s (Q0l p k)) (.bool (Q3d p k)) (Q3o p k)
theorem Y8g (p:List Rul) (r:Rul) (h:List Int) (hn:h = r.classes -> h ∉ p.map Rul.classes):look (p ++ [r]) h = if h = r.classes then r.close else look p h:=by
 unfold look;rw [List.find?_append]
 by_cases he:h = r.classes
 . have h0:p.find? (fun x=>x.classes == h) = none:=by
    rw [List.find?_eq_none];intro x hx hxe;exact hn he (List.mem_map.2 ⟨x,hx,by simpa using hxe⟩)
   rw [h0,if_pos he];simp [he]
 . rw [if_neg he]
   have h1:(r.classes == h) = false:=by rw [beq_eq_false_iff_ne]; exact fun e=>he e.symm
   cases hf:p.find? (fun x=>x.classes == h) with
   | some x=>simp
   | none=>simp [h1]
theorem Y3x {p:List Rul} (hn:(p.map Rul.classes).Nodup) (hd:∀ k,k < p.length -> Digits (Q0l p k)) {h:List Int} (hh:Digits h) :
    ∀ k,k <= p.length -> (Q5k (X0s h) (Q3o p k)).getD (.bool false) = .bool (look (p.take k) h)
 | 0,_=>rfl
 | k + 1,hk=>by
   have hlt:k < p.length:=by omega
   rw [Q3o,X9l,List.take_succ_eq_append_getElem hlt];have hnot:h = p[k].classes -> h ∉ (p.take k).map Rul.classes:=by
    rintro rfl hm;obtain ⟨x,hx,he⟩:=List.mem_map.1 hm;obtain ⟨j,hj,rfl⟩:=List.getElem_of_mem hx;rw [List.length_take] at hj;rw [List.getElem_take] at he;have hpw:=List.pairwise_iff_getElem.1 hn j k (by simp; omega) (by simpa using hlt) (by omega)
    simp only [List.getElem_map] at hpw;exact hpw he
   rw [Y8g _ _ _ hnot]
   by_cases he:h = p[k].classes
   . rw [if_pos he,if_pos (by rw [he,Q4w hlt]),Y8l hlt]; rfl
   . rw [if_neg he,if_neg (fun e=>he (by rw [Z1q hh (hd k hlt) e,Q4w hlt]))]
     exact Y3x hn hd hh k (by omega)
theorem X9f {p:List Rul} (hn:(p.map Rul.classes).Nodup) (hd:∀ k,k < p.length -> Digits (Q0l p k)) {h:List Int} (hh:Digits h) :
    (Q5k (X0s h) (Q3o p p.length)).getD (.bool false) = .bool (look p h):=by
 rw [Y3x hn hd hh _ (Nat.le_refl _),List.take_length]
end Go.Tw
namespace Go.Proofs
open Go.RowKit Go.Tw Go.Flow
theorem Tryz.Z5w:(Tryz.prog.info? 5).map (fun i=>(i.zero,i.size,i.bytes)) = some (some (.int .u8 0),1,1):=by kernel_rfl
theorem Y8i (W:World) (x:Int) (h:0 <= x /\ x <= 9) :
    Calls Tryz.prog 116 #[.int .i64 x] W fun e W'=>e = .returned (.int .u8 x) /\ W = W':=by
 have hc:(convert 3 5 (.int .i64 x)).run Tryz.prog W = .ok (.int .u8 x) W:=by
  have hw:IntKind.u8.wrap x = x:=by simp [IntKind.wrap,IntKind.bits,IntKind.signed]; omega
  have h1:Tryz.prog.underlying 3 = some (.int .i64):=by kernel_rfl
  have h2:Tryz.prog.underlying 5 = some (.int .u8):=by kernel_rfl
  simp [convert,run_underlying h1,run_underlying h2,Conv.intToInt,hw]
 go_enter Tryz.func116,Tryz.ntmps116;go_wp2;go_ret;exact ⟨rfl,rfl⟩
theorem Z1n (l:List Int) {k:Nat} (hk:k < l.length):l.take k ++ [ix l k] = l.take (k + 1):=by
 rw [List.take_succ_eq_append_getElem hk,Q6r hk]
theorem X5v (w:World) (v:Value) (l:List Int) (hv:Q0b w v l) (hle:l.length <= 4096) (hd:Digits l) :
    Calls Tryz.prog 115 #[v,.func (.func 116) #[] #[]] w fun e w'=>∃ x,e = .returned x /\ Q0g w' w.heap.size 5 (.int .u8) x l /\ Ext w w':=by
 obtain ⟨i0,hi,hz0,hz1,hz2⟩:=info_parts Tryz.Z5w;obtain ⟨A,cap,rfl,hl,hcap,hc⟩:=hv.opened;have HC:=Lib.hid hc;have HD:=Lib.hid hd;clear hv hc hd;go_enter Tryz.func115,Tryz.ntmps115;go_wp2
 go_loopw [5,10] (fun o i wr=>∃ (k:Nat),k <= l.length /\ i = .int .i64 k /\ Q0g wr w.heap.size 5 (.int .u8) o (l.take k) /\ Ext w wr) (fun _ i _=>l.length - (intOf i).toNat)
 case atStart=>exact ⟨0,Nat.zero_le _,rfl,Q0g.nil _ _ _ _,Ext.refl _⟩
 case round =>
  obtain ⟨k,hk,rfl,hown,hx⟩:=hrel;have hlen:(l.take k).length = k:=by rw [List.length_take]; omega
  by_cases hlt:k < l.length
  . obtain ⟨b,off,rfl,hcell⟩:=HC.out k hlt
    have HTK:=Lib.hid (Z1n l hlt);have hdk:=HD.out (ix l k) (by rw [Q6r hlt]; exact List.getElem_mem hlt)
    obtain ⟨s,hs⟩:∃ s,ix l k = s:=⟨_,rfl⟩;rw [hs] at hcell HTK hdk;have HFS:=Lib.hid (Y8i wr s hdk);replace hcell:=hx.cell hcell;have hll:(l.take k).length <= 4096:=by omega
    clear hs hlen hdk;go_wp2_with (first | (refine HFS.out.mono ?_; rintro e w9 ⟨rfl,rfl⟩) | (at_builtin; refine wpList_append_own _ rfl _ _ 215 rfl (w.heap.size) 5 i0 (.int .u8 0) 1 1 Tryz.underlying215 hi hz0 hz1 hz2 rfl (by decide) _ _ _ rfl (World.ownsRow.alloc hown _) ⟨wr.heap.size,0,none⟩ 1 1 [.int .u8 s] rfl rfl ?_ ?_ ?_ ?_ ?_ ?_; exact Q4h _ _ _; (focus (simp [Value.oneCell'])); (focus (unfold maxLen; omega)); (focus omega); (focus (have:=hx.size; simp at this ⊢; omega)); intro v' w1 hown' hgrow _))
    have hx':=Q2r hx hown (Nat.le_refl _) hgrow;go_wp2;go_roundw
    case rel=>exact ⟨k + 1,by omega,by go_num,by rw [<- HTK.out]; exact Q0g.snoc hown',hx'⟩
    case measure=>simp [intOf]; omega
  . have HE:Hid (l.take k = l):=Lib.hid (List.take_of_length_le (by omega))
    rw [HE.out] at hown;have HOWN:=Lib.hid hown;clear hown hlen;go_wp2;go_ret;exact ⟨_,rfl,HOWN.out,hx⟩
theorem X8f (w:World) {base:Nat} {u:Value} {l:List Int} (hu:Q0g w base 5 (.int .u8) u l) :
    (convert 215 9 u).run Tryz.prog w = .ok (.string (X0s l)) w:=by
 have h1:Tryz.prog.underlying 215 = some (.slice 5):=by kernel_rfl
 have h2:Tryz.prog.underlying 5 = some (.int .u8):=by kernel_rfl
 have h3:Tryz.prog.underlying 9 = some .string:=by kernel_rfl
 rcases hu.cells2 with ⟨rfl,rfl⟩ | ⟨g,c,rfl,-,-,-,hcell⟩
 . rw [run_convert_bytes_nil w _ _ h1 h2 0 0 _ h3]; rfl
 . rw [run_convert_bytes_arg w _ _ h1 h2 g 0 l.length c l rfl (fun i hi=>by rw [hcell i hi]; simp [hi]) _ h3]; rfl
theorem Y2y (w:World) (v:Value) (l:List Int) (hv:Q0b w v l) (hle:l.length <= 4096) (hd:Digits l) :
    Calls Tryz.prog 61 #[v] w fun e w'=>e = .returned (.string (X0s l)) /\ Ext w w':=by
 have HM:=Lib.hid (X5v w v l hv hle hd);obtain ⟨A,cap,rfl,-,-,-⟩:=hv.opened;clear hv hd;go_enter Tryz.func61,Tryz.ntmps61;go_wp2_with fail;refine HM.out.mono ?_;rintro e w5 ⟨u,rfl,hu,hx5⟩;have hcv:=X8f w5 hu;have HX:=Lib.hid hx5;clear hu hx5;go_wp2;go_ret;exact ⟨rfl,HX.out⟩
end Go.Proofs
