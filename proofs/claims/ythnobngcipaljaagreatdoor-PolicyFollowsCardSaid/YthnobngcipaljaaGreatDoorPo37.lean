/- The law PolicyFollows. The law PolicyFollows: for every input the call returns true, and each argument reads afterwards as before: the row's statement, and its tied card. The listed tables of math/bits, strconv and policy are as the program's text lays them. -/
import Derived.Test.YthnobngcipaljaaGreatDoorPo33
import Derived.Test.YthnobngcipaljaaGreatDoorPo34
import Derived.Test.YthnobngcipaljaaGreatDoorPo36
import Derived.Test.YthnobngcipaljaaGreatDoorPo18
set_option maxRecDepth 1000000
set_option maxHeartbeats 64000000
set_option linter.unusedVariables false
set_option linter.unusedSimpArgs false
set_option linter.constructorNameAsVariable false
namespace Go.Proofs
open Go.RowKit Go.Tw Go.Flow
attribute [local go_sem] Oper.semAt_some
theorem X6c {α:Type} (f:α -> Value):∀ l:List α,l.flatMap (fun x=>[f x]) = l.map f
 | []=>rfl
 | x :: l=>by rw [List.flatMap_cons,X6c f l]; rfl
theorem Words.hid {w:World} (h:Words w):Hid (Words w):=Lib.hid h
structure J2m (s:Q0b) (n:Int) (l:List Bool) (f1:Int) (fl:List Int) (ab:List Bool) (cb ae dt de:Int):Prop where
 f1:Q2f s n l = f1
 fl:Q8j s n l = fl
 ab:Q6u s n = ab
 cb:countB (Q6u s n) = cb
 ae:X4i s n = ae
 dt:Q9c s n = dt
 de:Q8y s n = de
theorem J2m.bad {s:Q0b} {n:Int} {l:List Bool} {f1:Int} {fl:List Int} {ab:List Bool} {cb ae dt de E:Int} (h:J2m s n l f1 fl ab cb ae dt de) (hE:E ≠ 0) (he:Q3m s n = E) (hf:Q2f s n l = E):f1 = E /\ fl = [] /\ ab = [] /\ cb = 0 /\ ae = E /\ dt = 0 /\ de = E:=by
 have h1:Q3m s n ≠ 0:=by rw [he]; exact hE
 have h2:Q2f s n l ≠ 0:=by rw [hf]; exact hE
 have hab:Q6u s n = []:=if_neg h1;refine ⟨by rw [<- h.f1,hf],by rw [<- h.fl]; exact if_neg h2,by rw [<- h.ab,hab],by rw [<- h.cb,hab]; rfl,by rw [<- h.ae,<- he]; exact if_neg h1,by rw [<- h.dt]; exact if_neg h1,by rw [<- h.de,<- he]; exact if_neg h1⟩
theorem J4m {s:Q0b} {n:Int} {l:List Bool} (h:s.err ≠ 0):Q3m s n = s.err /\ Q2f s n l = s.err:=by
 refine ⟨?_,?_⟩
 . unfold Q3m; rw [Q0g,if_neg h]
 . unfold Q2f; rw [Q0g,if_neg h]
theorem J3e {s:Q0b} {n:Int} {l:List Bool} (h:s.err = 0) (hm:Q6h s n = true):Q3m s n = 10 /\ Q2f s n l = 10:=by
 have hw:Q0q (Q6h s n) 10 = 10:=by rw [hm]; rfl
 refine ⟨?_,?_⟩
 . unfold Q3m; rw [Q0g,if_pos h,Q0g,hw]; rfl
 . unfold Q2f; rw [Q0g,if_pos h,Q0g,hw]; rfl
theorem J2m.good {s:Q0b} {i:Nat} {l:List Bool} {f1:Int} {fl:List Int} {ab:List Bool} {cb ae dt de:Int} (h:J2m s (i:Int) l f1 fl ab cb ae dt de) (he:s.err = 0) (hi:i < s.members.length) :
    ab = (alone s i).getD [] /\ cb = Z5u (alone s i) /\ ae = Z4p (alone s i) /\ dt = J1h (Q3s s i) /\ de = J0p (Q3s s i) /\ (l.length = s.ships.length -> f1 = 0 /\ fl = (Q1l s i).Q3e l) /\ (l.length ≠ s.ships.length -> f1 = 2 /\ fl = []):=by
 have hm:Q6h s (i:Int) = false:=by unfold Q6h; simp; omega
 have hw:Q0q (Q6h s (i:Int)) 10 = 0:=by rw [hm]; rfl
 have hsm:Q3m s (i:Int) = 0:=by
  unfold Q3m;rw [Q0g,if_pos he,Q0g,if_pos hw]; rfl
 have hab:Q6u s (i:Int) = (alone s i).getD []:=by unfold Q6u; rw [if_pos hsm,Int.toNat_natCast]
 refine ⟨by rw [<- h.ab,hab],?_,?_,?_,?_,fun hl=>?_,fun hl=>?_⟩
 . rw [<- h.cb,hab]; cases alone s i <;> rfl
 . rw [<- h.ae]; unfold X4i; rw [if_pos hsm,Int.toNat_natCast]; cases alone s i <;> rfl
 . rw [<- h.dt]; unfold Q9c; rw [if_pos hsm,Int.toNat_natCast]; cases Q3s s i <;> rfl
 . rw [<- h.de]; unfold Q8y; rw [if_pos hsm,Int.toNat_natCast]; cases Q3s s i <;> rfl
 . have hf:Q2f s (i:Int) l = 0:=by
    unfold Q2f;rw [Q0g,if_pos he,Q0g,if_pos hw,hl]; simp [Q0q,Q0j]
   exact ⟨by rw [<- h.f1,hf],by rw [<- h.fl]; unfold Q8j; rw [if_pos hf,Int.toNat_natCast]⟩
 . have hf:Q2f s (i:Int) l = 2:=by
    unfold Q2f;rw [Q0g,if_pos he,Q0g,if_pos hw]; simp [Q0q,Q0j,hl]
   exact ⟨by rw [<- h.f1,hf],by rw [<- h.fl]; unfold Q8j; rw [if_neg (by rw [hf]; decide)]⟩
theorem X3f (w:World) (v u:Value) (s:Q0b) (n:Int) (l:List Bool) (hv:Q0h w v s) (hu:Q0x w u l) (hW:Words w) :
    Calls Tryz.prog 7 #[v,.int .i64 n,u] w fun e w'=>e = .returned (.bool true) /\ Ext w w':=by
 obtain ⟨i0,hi,hz0,hz1,hz2⟩:=info_parts Tryz.X5z;obtain ⟨a,b,rfl,h2⟩:=hv;obtain ⟨A,capa,rfl,-,-,-⟩:=h2.ships.opened;obtain ⟨B,capb,rfl,-,-,-⟩:=h2.members.opened;obtain ⟨U,capu,eu,hl0,hcapu,hcu⟩:=hu.opened;have HU:=Lib.hid hu;have HCU:=Lib.hid hcu;rw [eu] at HU ⊢;clear hcu hu eu;have HXA:=Lib.hid (Ext.refl w);have HWD:=Lib.hid hW;have H2:=Lib.hid h2;have HL:=Lib.hid (rfl:l.length = l.length);obtain ⟨L,hL⟩:∃ L,l.length = L:=⟨_,rfl⟩;have HLL:=Lib.hid hL;obtain ⟨T,hT⟩:∃ T,s.ships.length = T:=⟨_,rfl⟩;have HT:=Lib.hid hT;obtain ⟨M,hM⟩:∃ M,s.members.length = M:=⟨_,rfl⟩;have HM:=Lib.hid hM;obtain ⟨lim,hlim⟩:∃ k,s.limit = k:=⟨_,rfl⟩;have HSEA:Hid (∀ W,Q4m W (.slice A T capa) (.slice B M capb) s -> Q0h W (.agg #[.int .i64 lim,.slice A T capa,.slice B M capb]) s):=Lib.hid (fun W h=>⟨_,_,by rw [hlim],h⟩)
 rw [hT,hM] at H2;rw [hL] at HU hl0;rw [hL,hT,hM,hlim];clear h2 hW HL hL hT hM hlim;go_enter Tryz.func7,Tryz.ntmps7;go_wp2_with fail;change Calls _ _ _ (w.alloc (.cells #[.int .i64 lim,.slice A T capa,.slice B M capb] 25)) _;obtain ⟨W,hWW,k0,HXW,eW⟩:=Q1q w 25 #[.int .i64 lim,.slice A T capa,.slice B M capb];rw [hWW];clear hWW;refine (Y0v _ _ s (HSEA.out _ (H2.out.ext HXW.out))).mono ?_;rintro e w1 ⟨q,rfl,hq,hx⟩;have hxx:Ext w w1:=HXW.out.trans hx;replace HXA:=Lib.hid (HXA.out.trans hxx);replace HWD:=Lib.hid (HWD.out.ext hxx);replace H2:=Lib.hid (H2.out.ext hxx);replace HU:=Lib.hid (HU.out.ext hxx);have KB:=Lib.hid (k0.ext hx);clear hx hxx HXW eW k0;obtain ⟨gs,hgs⟩:∃ z,w.heap.size = z:=⟨_,rfl⟩;rw [hgs] at KB ⊢;clear hgs;cases q with
 | false =>
   clear hq;go_wp2_with fail;refine (Q4o _ HWD.out).mono ?_;rintro e w2 ⟨rfl,hx⟩;have hxx:Ext w1 w2:=hx;replace HXA:=Lib.hid (HXA.out.trans hxx);replace HWD:=Lib.hid (HWD.out.ext hxx);clear hx hxx;go_wp2;go_ret;exact ⟨rfl,HXA.out⟩
 | true =>
   have hs:Q3d s:=hq.1 rfl;have HS:=Lib.hid hs;clear hs hq
   by_cases h8:8 < L
   . have h8I:(8:Int) < L:=by omega
     go_wp2_with fail;refine (Q4o _ HWD.out).mono ?_;rintro e w2 ⟨rfl,hx⟩;have hxx:Ext w1 w2:=hx;replace HXA:=Lib.hid (HXA.out.trans hxx);replace HWD:=Lib.hid (HWD.out.ext hxx);clear hx hxx;go_wp2;go_ret;exact ⟨rfl,HXA.out⟩
   have h8I:¬ (8:Int) < L:=by omega
   have d0KB:=KB.out.cell 0;have d1KB:=KB.out.cell 1;have d2KB:=KB.out.cell 2;simp only [Go.Tw.gA,Go.Tw.gB,Go.Tw.gC] at d0KB d1KB d2KB;go_wp2_with fail;refine (X7v _ _ s (HSEA.out _ H2.out) HS.out).mono ?_;rintro e w2 ⟨g1,rfl,hg,hx⟩;have hxx:Ext w1 w2:=hx;replace HXA:=Lib.hid (HXA.out.trans hxx);replace HWD:=Lib.hid (HWD.out.ext hxx);replace H2:=Lib.hid (H2.out.ext hxx);replace HU:=Lib.hid (HU.out.ext hxx);replace KB:=Lib.hid (KB.out.ext hxx);clear hx hxx d0KB d1KB d2KB;have HG:=Lib.hid hg;clear hg;go_wp2_with (at_builtin; refine halted ?_);unfold Q1j;have hbx:=Ext.box w2 (.cells #[] 4);have hes:(w2.alloc (.cells #[] 4)).heap.size = w2.heap.size + 1:=by simp
   have hown:Q1d (w2.alloc (.cells #[] 4)) w2.heap.size 4 1 (fun b=>[Value.bool b]) (.slice (some ⟨w2.heap.size,0,none⟩) 0 0) ([]:List Bool):=World.ownsRow_made w2 #[] 0 (Nat.le_refl _) (by unfold maxLen; omega) rfl
   obtain ⟨wb,hwb⟩:∃ Z,w2.alloc (.cells #[] 4) = Z:=⟨_,rfl⟩;rw [hwb] at hbx hes hown ⊢;clear hwb;have hA:0 < l.length -> ∃ ad,U = some ad /\ ∀ j z,(l.flatMap fun b=>[Value.bool b])[j]? = some z -> wb.cell? (ad.add j) = some z:=fun h0=>by
    obtain ⟨bu,ou,he,_,_⟩:=HCU.out 0 h0;refine ⟨_,he,fun j z hj=>?_⟩;rw [X6c,List.getElem?_map] at hj;obtain ⟨y,hy,rfl⟩:=Option.map_eq_some_iff.1 hj;obtain ⟨hjl,rfl⟩:=List.getElem?_eq_some_iff.1 hy;obtain ⟨b',o',he',hc'⟩:=HCU.out j hjl;rw [he] at he';cases he';have:=(HXA.out.trans hbx).cell hc'.2;rw [addr_add,this];simp [bx,hjl]
   refine Q1m (o:=⟨some 37,_,_,_,_,_⟩) rfl ?_;refine Q6n (.tmp 35) (.tmp 36) 82 rfl w2.heap.size 4 i0 (.bool false) 1 1 Tryz.underlying82 hi hz0 hz1 hz2 rfl (by decide) (fun b=>[Value.bool b]) (fun _=>rfl) _ [] l rfl hown U capu (by rw [HLL.out]; rfl) hA (fun z hz=>?_) (by rw [HLL.out]; simp; omega) (by decide) hbx.size (fun v' w9 hown' hgrow=>?_)
   . rw [X6c] at hz
     obtain ⟨y,_,rfl⟩:=List.mem_map.1 hz;rfl
   have hxc:Ext w2 w9:=Below.grown hbx hgrow hbx.size (fun j hj=>(hown.lt j hj).1);have hob:Q0t w9 w2.heap.size 4 .bool v' l:=by have h:=hown'; unfold Q1d at h; rw [X6c] at h; exact h
   have HV:=Lib.hid (hob.bools (by rw [HLL.out]; omega))
   replace HXA:=Lib.hid (HXA.out.trans hxc);replace HWD:=Lib.hid (HWD.out.ext hxc);replace H2:=Lib.hid (H2.out.ext hxc);replace HU:=Lib.hid (HU.out.ext hxc);replace KB:=Lib.hid (KB.out.ext hxc);replace HG:=Lib.hid (HG.out.ext hxc);obtain ⟨w3,rfl⟩:∃ Z,Z = w9:=⟨_,rfl⟩;clear hbx hes hown hA hown' hgrow hxc hob;go_wp2_with fail;refine (Y8e _ _ _ s n l HG.out HV.out HS.out).mono ?_;rintro e w4 ⟨xf,rfl,hf,hx⟩;have hxx:Ext w3 w4:=hx;replace HXA:=Lib.hid (HXA.out.trans hxx);clear HG HV;replace HWD:=Lib.hid (HWD.out.ext hxx);replace H2:=Lib.hid (H2.out.ext hxx);replace HU:=Lib.hid (HU.out.ext hxx);replace KB:=Lib.hid (KB.out.ext hxx);clear hx hxx;have FF:=Lib.hid hf;clear hf;have d0KB:=KB.out.cell 0;have d1KB:=KB.out.cell 1;have d2KB:=KB.out.cell 2;simp only [Go.Tw.gA,Go.Tw.gB,Go.Tw.gC] at d0KB d1KB d2KB;go_wp2_with fail;refine (X7v _ _ s (HSEA.out _ H2.out) HS.out).mono ?_;rintro e w5 ⟨g2,rfl,hg,hx⟩;have hxx:Ext w4 w5:=hx;replace HXA:=Lib.hid (HXA.out.trans hxx);replace HWD:=Lib.hid (HWD.out.ext hxx);replace H2:=Lib.hid (H2.out.ext hxx);replace HU:=Lib.hid (HU.out.ext hxx);replace KB:=Lib.hid (KB.out.ext hxx);replace FF:=Lib.hid (FF.out.ext hxx);clear hx hxx d0KB d1KB d2KB;have HG:=Lib.hid hg;clear hg;go_wp2_with fail;refine (Y1g _ _ s n HG.out HS.out).mono ?_;rintro e w6 ⟨xa,rfl,ha,hx⟩;have hxx:Ext w5 w6:=hx;replace HXA:=Lib.hid (HXA.out.trans hxx);clear HG;replace HWD:=Lib.hid (HWD.out.ext hxx);replace H2:=Lib.hid (H2.out.ext hxx);replace HU:=Lib.hid (HU.out.ext hxx);replace KB:=Lib.hid (KB.out.ext hxx);replace FF:=Lib.hid (FF.out.ext hxx);clear hx hxx;have FA:=Lib.hid ha;clear ha;have d0KB:=KB.out.cell 0;have d1KB:=KB.out.cell 1;have d2KB:=KB.out.cell 2;simp only [Go.Tw.gA,Go.Tw.gB,Go.Tw.gC] at d0KB d1KB d2KB;go_wp2_with fail;refine (X7v _ _ s (HSEA.out _ H2.out) HS.out).mono ?_;rintro e w7 ⟨g3,rfl,hg,hx⟩;have hxx:Ext w6 w7:=hx;replace HXA:=Lib.hid (HXA.out.trans hxx);replace HWD:=Lib.hid (HWD.out.ext hxx);replace H2:=Lib.hid (H2.out.ext hxx);replace HU:=Lib.hid (HU.out.ext hxx);replace KB:=Lib.hid (KB.out.ext hxx);replace FF:=Lib.hid (FF.out.ext hxx);replace FA:=Lib.hid (FA.out.ext hxx);clear hx hxx d0KB d1KB d2KB;have HG:=Lib.hid hg;clear hg;go_wp2_with fail;refine (X6o _ _ s n HG.out HS.out).mono ?_;rintro e w8 ⟨rfl,hx⟩;have hxx:Ext w7 w8:=hx;replace HXA:=Lib.hid (HXA.out.trans hxx);clear HG;replace HWD:=Lib.hid (HWD.out.ext hxx);replace H2:=Lib.hid (H2.out.ext hxx);replace HU:=Lib.hid (HU.out.ext hxx);replace KB:=Lib.hid (KB.out.ext hxx);replace FF:=Lib.hid (FF.out.ext hxx);replace FA:=Lib.hid (FA.out.ext hxx);clear hx hxx;have d0KB:=KB.out.cell 0;have d1KB:=KB.out.cell 1;have d2KB:=KB.out.cell 2;simp only [Go.Tw.gA,Go.Tw.gB,Go.Tw.gC] at d0KB d1KB d2KB;go_wp2_with fail;refine (X5k _ _ s (HSEA.out _ H2.out)).mono ?_;rintro e w9 ⟨rfl,hx⟩;have hxx:Ext w8 w9:=hx;replace HXA:=Lib.hid (HXA.out.trans hxx);replace HWD:=Lib.hid (HWD.out.ext hxx);replace H2:=Lib.hid (H2.out.ext hxx);replace HU:=Lib.hid (HU.out.ext hxx);replace KB:=Lib.hid (KB.out.ext hxx);replace FF:=Lib.hid (FF.out.ext hxx);replace FA:=Lib.hid (FA.out.ext hxx);clear hx hxx d0KB d1KB d2KB;obtain ⟨f1,hf1⟩:∃ z,Q2f s n l = z:=⟨_,rfl⟩;obtain ⟨fl,hfl⟩:∃ z,Q8j s n l = z:=⟨_,rfl⟩;obtain ⟨ab,hab⟩:∃ z,Q6u s n = z:=⟨_,rfl⟩;obtain ⟨cb,hcb⟩:∃ z,countB (Q6u s n) = z:=⟨_,rfl⟩;obtain ⟨ae,hae⟩:∃ z,X4i s n = z:=⟨_,rfl⟩;obtain ⟨dt,hdt⟩:∃ z,Q9c s n = z:=⟨_,rfl⟩;obtain ⟨de,hde⟩:∃ z,Q8y s n = z:=⟨_,rfl⟩;have HFV:Hid (J2m s n l f1 fl ab cb ae dt de):=Lib.hid ⟨hf1,hfl,hab,hcb,hae,hdt,hde⟩;rw [hfl] at FF;rw [hab] at FA;rw [hcb,hf1,hae,hdt,hde];clear hf1 hfl hab hcb hae hdt hde
   by_cases he:s.err = 0
   . by_cases hn0:n < 0
     . have hm:Q6h s n = true:=by unfold Q6h; simp; omega
       rw [he];obtain ⟨e1,e2,e3,e4,e5,e6,e7⟩:=HFV.out.bad (by decide) (J3e (l:=l) he hm).1 (J3e he hm).2
       rw [e2] at FF;rw [e3] at FA;rw [e1,e4,e5,e6,e7];clear e1 e2 e3 e4 e5 e6 e7;go_wp2_with fail;refine (Q6r _ _ _ _ FF.out (Go.Tw.Rows.nil _ _ _)).mono ?_;rintro e w10 ⟨rfl,hx⟩;have hxx:Ext w9 w10:=hx;replace HXA:=Lib.hid (HXA.out.trans hxx);clear FF;replace HWD:=Lib.hid (HWD.out.ext hxx);replace H2:=Lib.hid (H2.out.ext hxx);replace HU:=Lib.hid (HU.out.ext hxx);replace KB:=Lib.hid (KB.out.ext hxx);replace FA:=Lib.hid (FA.out.ext hxx);clear hx hxx;go_wp2_with fail;refine (X0m _ _ _ _ FA.out (Go.Tw.Rows.nil _ _ _)).mono ?_;rintro e w11 ⟨rfl,hx⟩;have hxx:Ext w10 w11:=hx;replace HXA:=Lib.hid (HXA.out.trans hxx);clear FA;replace HWD:=Lib.hid (HWD.out.ext hxx);replace H2:=Lib.hid (H2.out.ext hxx);replace HU:=Lib.hid (HU.out.ext hxx);replace KB:=Lib.hid (KB.out.ext hxx);clear hx hxx;go_wp2_with fail;refine (Q4o _ HWD.out).mono ?_;rintro e w12 ⟨rfl,hx⟩;have hxx:Ext w11 w12:=hx;replace HXA:=Lib.hid (HXA.out.trans hxx);replace HWD:=Lib.hid (HWD.out.ext hxx);replace H2:=Lib.hid (H2.out.ext hxx);replace HU:=Lib.hid (HU.out.ext hxx);replace KB:=Lib.hid (KB.out.ext hxx);clear hx hxx;go_wp2;go_ret;exact ⟨rfl,HXA.out⟩
     . by_cases hnM:(M:Int) <= n
       . have hm:Q6h s n = true:=by unfold Q6h; simp; have:=HM.out; omega
         have d2:w9.cell? ⟨gs,2,none⟩ = some (.slice B M capb):=KB.out.cell 2;rw [he];obtain ⟨e1,e2,e3,e4,e5,e6,e7⟩:=HFV.out.bad (by decide) (J3e (l:=l) he hm).1 (J3e he hm).2
         rw [e2] at FF;rw [e3] at FA;rw [e1,e4,e5,e6,e7];clear e1 e2 e3 e4 e5 e6 e7;go_wp2_with fail;refine (Q6r _ _ _ _ FF.out (Go.Tw.Rows.nil _ _ _)).mono ?_;rintro e w10 ⟨rfl,hx⟩;have hxx:Ext w9 w10:=hx;replace HXA:=Lib.hid (HXA.out.trans hxx);clear FF;replace HWD:=Lib.hid (HWD.out.ext hxx);replace H2:=Lib.hid (H2.out.ext hxx);replace HU:=Lib.hid (HU.out.ext hxx);replace KB:=Lib.hid (KB.out.ext hxx);replace FA:=Lib.hid (FA.out.ext hxx);clear hx hxx;go_wp2_with fail;refine (X0m _ _ _ _ FA.out (Go.Tw.Rows.nil _ _ _)).mono ?_;rintro e w11 ⟨rfl,hx⟩;have hxx:Ext w10 w11:=hx;replace HXA:=Lib.hid (HXA.out.trans hxx);clear FA;replace HWD:=Lib.hid (HWD.out.ext hxx);replace H2:=Lib.hid (H2.out.ext hxx);replace HU:=Lib.hid (HU.out.ext hxx);replace KB:=Lib.hid (KB.out.ext hxx);clear hx hxx;go_wp2_with fail;refine (Q4o _ HWD.out).mono ?_;rintro e w12 ⟨rfl,hx⟩;have hxx:Ext w11 w12:=hx;replace HXA:=Lib.hid (HXA.out.trans hxx);replace HWD:=Lib.hid (HWD.out.ext hxx);replace H2:=Lib.hid (H2.out.ext hxx);replace HU:=Lib.hid (HU.out.ext hxx);replace KB:=Lib.hid (KB.out.ext hxx);clear hx hxx;go_wp2;go_ret;exact ⟨rfl,HXA.out⟩
       . have hnI:¬ (M:Int) <= n:=hnM
         obtain ⟨i,rfl⟩:∃ i:Nat,n = (i:Int):=⟨n.toNat,by omega⟩
         have him:i < s.members.length:=by have:=HM.out; omega
         obtain ⟨e3,e4,e5,e6,e7,hsame,hdiff⟩:=HFV.out.good he him;have hvs:=Q0y.of he;have HVS:=Lib.hid hvs;have hT6:=hvs.tides;rw [e3] at FA;rw [he,e4,e5,e6,e7];clear e3 e4 e5 e6 e7;have d2:w9.cell? ⟨gs,2,none⟩ = some (.slice B M capb):=KB.out.cell 2;have d1:w9.cell? ⟨gs,1,none⟩ = some (.slice A T capa):=KB.out.cell 1;have hok:=Q7y hvs him (Nat.le_refl _);have hni0:¬ ((i:Int) < 0):=by omega
         obtain ⟨aq,haq⟩:∃ z,Z5u (alone s i) = z:=⟨_,rfl⟩;obtain ⟨az,haz⟩:∃ z,Z4p (alone s i) = z:=⟨_,rfl⟩;obtain ⟨dc,hdc⟩:∃ z,J1h (Q3s s i) = z:=⟨_,rfl⟩;obtain ⟨dz,hdz⟩:∃ z,J0p (Q3s s i) = z:=⟨_,rfl⟩;have HRA:=Lib.hid (fun (W:World) (hW:Q4m W (.slice A T capa) (.slice B M capb) s)=>Z1r W _ s i (HSEA.out W hW) HVS.out him);have HRD:=Lib.hid (fun (W:World) (hW:Q4m W (.slice A T capa) (.slice B M capb) s)=>Y7x W _ s i (HSEA.out W hW) HVS.out him);rw [haq,haz] at HRA;rw [hdc,hdz] at HRD;rw [haq,haz,hdc,hdz];clear haq haz hdc hdz;have hin:∀ x ∈ (Q1l s i).inflow,0 <= x /\ x <= 1024:=hvs.inflow i him
         by_cases hLT:L = T
         . skip
           obtain ⟨e1,e2⟩:=hsame (by rw [HLL.out,HT.out,hLT])
           rw [e1];rw [e2] at FF;subst hLT;have hne:((L:Int) != (L:Int)) = false:=by simp
           clear e1 e2 hsame hdiff he hvs;have d0KB:=KB.out.cell 0;simp only [Go.Tw.gA,Go.Tw.gB] at d0KB;go_wp2_with fail;refine (X0v _ _ _ s i l (HSEA.out _ H2.out) him HU.out (by rw [HLL.out]; omega) (by rw [HLL.out,<- HT.out]; exact hok.out) (by rw [HLL.out,<- HT.out]; exact hok.inf) hin).mono ?_
           rintro e w10 ⟨xr,rfl,hr,hx⟩;have hxx:Ext w9 w10:=hx;replace HXA:=Lib.hid (HXA.out.trans hxx);replace HWD:=Lib.hid (HWD.out.ext hxx);replace H2:=Lib.hid (H2.out.ext hxx);replace HU:=Lib.hid (HU.out.ext hxx);replace KB:=Lib.hid (KB.out.ext hxx);replace FF:=Lib.hid (FF.out.ext hxx);replace FA:=Lib.hid (FA.out.ext hxx);clear hx hxx d0KB;clear d1 d2;have FR:=Lib.hid hr;clear hr;have d0KB:=KB.out.cell 0;have d1KB:=KB.out.cell 1;have d2KB:=KB.out.cell 2;simp only [Go.Tw.gA,Go.Tw.gB,Go.Tw.gC] at d0KB d1KB d2KB;go_wp2_with fail;refine (HRA.out _ H2.out).mono ?_;rintro e w11 ⟨xb,rfl,hb,hx⟩;have hxx:Ext w10 w11:=hx;replace HXA:=Lib.hid (HXA.out.trans hxx);replace HWD:=Lib.hid (HWD.out.ext hxx);replace H2:=Lib.hid (H2.out.ext hxx);replace HU:=Lib.hid (HU.out.ext hxx);replace KB:=Lib.hid (KB.out.ext hxx);replace FF:=Lib.hid (FF.out.ext hxx);replace FA:=Lib.hid (FA.out.ext hxx);replace FR:=Lib.hid (FR.out.ext hxx);clear hx hxx d0KB d1KB d2KB;have FB:=Lib.hid hb;clear hb;have d0KB:=KB.out.cell 0;have d1KB:=KB.out.cell 1;have d2KB:=KB.out.cell 2;simp only [Go.Tw.gA,Go.Tw.gB,Go.Tw.gC] at d0KB d1KB d2KB;go_wp2_with fail;refine (HRD.out _ H2.out).mono ?_;rintro e w12 ⟨rfl,hx⟩;have hxx:Ext w11 w12:=hx;replace HXA:=Lib.hid (HXA.out.trans hxx);replace HWD:=Lib.hid (HWD.out.ext hxx);replace H2:=Lib.hid (H2.out.ext hxx);replace HU:=Lib.hid (HU.out.ext hxx);replace KB:=Lib.hid (KB.out.ext hxx);replace FF:=Lib.hid (FF.out.ext hxx);replace FA:=Lib.hid (FA.out.ext hxx);replace FR:=Lib.hid (FR.out.ext hxx);replace FB:=Lib.hid (FB.out.ext hxx);clear hx hxx d0KB d1KB d2KB;go_wp2_with fail;refine (Q6r _ _ _ _ FF.out FR.out).mono ?_;rintro e w13 ⟨rfl,hx⟩;have hxx:Ext w12 w13:=hx;replace HXA:=Lib.hid (HXA.out.trans hxx);clear FF;replace HWD:=Lib.hid (HWD.out.ext hxx);replace H2:=Lib.hid (H2.out.ext hxx);replace HU:=Lib.hid (HU.out.ext hxx);replace KB:=Lib.hid (KB.out.ext hxx);replace FA:=Lib.hid (FA.out.ext hxx);replace FR:=Lib.hid (FR.out.ext hxx);replace FB:=Lib.hid (FB.out.ext hxx);clear hx hxx;go_wp2_with fail;refine (X0m _ _ _ _ FA.out FB.out).mono ?_;rintro e w14 ⟨rfl,hx⟩;have hxx:Ext w13 w14:=hx;replace HXA:=Lib.hid (HXA.out.trans hxx);clear FA;replace HWD:=Lib.hid (HWD.out.ext hxx);replace H2:=Lib.hid (H2.out.ext hxx);replace HU:=Lib.hid (HU.out.ext hxx);replace KB:=Lib.hid (KB.out.ext hxx);replace FR:=Lib.hid (FR.out.ext hxx);replace FB:=Lib.hid (FB.out.ext hxx);clear hx hxx;go_wp2_with fail;refine (Q4o _ HWD.out).mono ?_;rintro e w15 ⟨rfl,hx⟩;have hxx:Ext w14 w15:=hx;replace HXA:=Lib.hid (HXA.out.trans hxx);replace HWD:=Lib.hid (HWD.out.ext hxx);replace H2:=Lib.hid (H2.out.ext hxx);replace HU:=Lib.hid (HU.out.ext hxx);replace KB:=Lib.hid (KB.out.ext hxx);replace FR:=Lib.hid (FR.out.ext hxx);replace FB:=Lib.hid (FB.out.ext hxx);clear hx hxx;go_wp2;go_ret;exact ⟨rfl,HXA.out⟩
         . skip
           obtain ⟨e1,e2⟩:=hdiff (by rw [HLL.out,HT.out]; exact hLT)
           rw [e1];rw [e2] at FF;have hne:((L:Int) != (T:Int)) = true:=by simp; omega
           clear e1 e2 hsame hdiff he hvs;have d0KB:=KB.out.cell 0;simp only [Go.Tw.gA,Go.Tw.gB] at d0KB;go_wp2_with fail;refine (HRA.out _ H2.out).mono ?_;rintro e w10 ⟨xb,rfl,hb,hx⟩;have hxx:Ext w9 w10:=hx;replace HXA:=Lib.hid (HXA.out.trans hxx);replace HWD:=Lib.hid (HWD.out.ext hxx);replace H2:=Lib.hid (H2.out.ext hxx);replace HU:=Lib.hid (HU.out.ext hxx);replace KB:=Lib.hid (KB.out.ext hxx);replace FF:=Lib.hid (FF.out.ext hxx);replace FA:=Lib.hid (FA.out.ext hxx);clear hx hxx d0KB;clear d1 d2;have FB:=Lib.hid hb;clear hb;have d0KB:=KB.out.cell 0;have d1KB:=KB.out.cell 1;have d2KB:=KB.out.cell 2;simp only [Go.Tw.gA,Go.Tw.gB,Go.Tw.gC] at d0KB d1KB d2KB;go_wp2_with fail;refine (HRD.out _ H2.out).mono ?_;rintro e w11 ⟨rfl,hx⟩;have hxx:Ext w10 w11:=hx;replace HXA:=Lib.hid (HXA.out.trans hxx);replace HWD:=Lib.hid (HWD.out.ext hxx);replace H2:=Lib.hid (H2.out.ext hxx);replace HU:=Lib.hid (HU.out.ext hxx);replace KB:=Lib.hid (KB.out.ext hxx);replace FF:=Lib.hid (FF.out.ext hxx);replace FA:=Lib.hid (FA.out.ext hxx);replace FB:=Lib.hid (FB.out.ext hxx);clear hx hxx d0KB d1KB d2KB;go_wp2_with fail;refine (Q6r _ _ _ _ FF.out (Go.Tw.Rows.nil _ _ _)).mono ?_;rintro e w12 ⟨rfl,hx⟩;have hxx:Ext w11 w12:=hx;replace HXA:=Lib.hid (HXA.out.trans hxx);clear FF;replace HWD:=Lib.hid (HWD.out.ext hxx);replace H2:=Lib.hid (H2.out.ext hxx);replace HU:=Lib.hid (HU.out.ext hxx);replace KB:=Lib.hid (KB.out.ext hxx);replace FA:=Lib.hid (FA.out.ext hxx);replace FB:=Lib.hid (FB.out.ext hxx);clear hx hxx;go_wp2_with fail;refine (X0m _ _ _ _ FA.out FB.out).mono ?_;rintro e w13 ⟨rfl,hx⟩;have hxx:Ext w12 w13:=hx;replace HXA:=Lib.hid (HXA.out.trans hxx);clear FA;replace HWD:=Lib.hid (HWD.out.ext hxx);replace H2:=Lib.hid (H2.out.ext hxx);replace HU:=Lib.hid (HU.out.ext hxx);replace KB:=Lib.hid (KB.out.ext hxx);replace FB:=Lib.hid (FB.out.ext hxx);clear hx hxx;go_wp2_with fail;refine (Q4o _ HWD.out).mono ?_;rintro e w14 ⟨rfl,hx⟩;have hxx:Ext w13 w14:=hx;replace HXA:=Lib.hid (HXA.out.trans hxx);replace HWD:=Lib.hid (HWD.out.ext hxx);replace H2:=Lib.hid (H2.out.ext hxx);replace HU:=Lib.hid (HU.out.ext hxx);replace KB:=Lib.hid (KB.out.ext hxx);replace FB:=Lib.hid (FB.out.ext hxx);clear hx hxx;go_wp2;go_ret;exact ⟨rfl,HXA.out⟩
   . obtain ⟨h1,h2⟩:=J4m (n:=n) (l:=l) he
     obtain ⟨E,hE⟩:∃ E,s.err = E:=⟨_,rfl⟩;rw [hE] at h1 h2 he ⊢;have hE0:(E == 0) = false:=by simp [he]
     obtain ⟨e1,e2,e3,e4,e5,e6,e7⟩:=HFV.out.bad he h1 h2;rw [e2] at FF;rw [e3] at FA;rw [e1,e4,e5,e6,e7];clear e1 e2 e3 e4 e5 e6 e7;go_wp2_with fail;refine (Q6r _ _ _ _ FF.out (Go.Tw.Rows.nil _ _ _)).mono ?_;rintro e w10 ⟨rfl,hx⟩;have hxx:Ext w9 w10:=hx;replace HXA:=Lib.hid (HXA.out.trans hxx);clear FF;replace HWD:=Lib.hid (HWD.out.ext hxx);replace H2:=Lib.hid (H2.out.ext hxx);replace HU:=Lib.hid (HU.out.ext hxx);replace KB:=Lib.hid (KB.out.ext hxx);replace FA:=Lib.hid (FA.out.ext hxx);clear hx hxx;go_wp2_with fail;refine (X0m _ _ _ _ FA.out (Go.Tw.Rows.nil _ _ _)).mono ?_;rintro e w11 ⟨rfl,hx⟩;have hxx:Ext w10 w11:=hx;replace HXA:=Lib.hid (HXA.out.trans hxx);clear FA;replace HWD:=Lib.hid (HWD.out.ext hxx);replace H2:=Lib.hid (H2.out.ext hxx);replace HU:=Lib.hid (HU.out.ext hxx);replace KB:=Lib.hid (KB.out.ext hxx);clear hx hxx;go_wp2_with fail;refine (Q4o _ HWD.out).mono ?_;rintro e w12 ⟨rfl,hx⟩;have hxx:Ext w11 w12:=hx;replace HXA:=Lib.hid (HXA.out.trans hxx);replace HWD:=Lib.hid (HWD.out.ext hxx);replace H2:=Lib.hid (H2.out.ext hxx);replace HU:=Lib.hid (HU.out.ext hxx);replace KB:=Lib.hid (KB.out.ext hxx);clear hx hxx;go_wp2;go_ret;exact ⟨rfl,HXA.out⟩
theorem X1g (w:World) (v:Value) (s:Q0b) (n:Int) (U:Option Addr) (L capu:Nat) (hv:Q0h w v s) (h8:8 < L) (hW:Words w) :
    Calls Tryz.prog 7 #[v,.int .i64 n,.slice U L capu] w fun e w'=>e = .returned (.bool true) /\ Ext w w':=by
 obtain ⟨a,b,rfl,h2⟩:=hv;obtain ⟨A,capa,rfl,-,-,-⟩:=h2.ships.opened;obtain ⟨B,capb,rfl,-,-,-⟩:=h2.members.opened;have HXA:=Lib.hid (Ext.refl w);have HWD:=Lib.hid hW;have H2:=Lib.hid h2;obtain ⟨T,hT⟩:∃ T,s.ships.length = T:=⟨_,rfl⟩;have HT:=Lib.hid hT;obtain ⟨M,hM⟩:∃ M,s.members.length = M:=⟨_,rfl⟩;have HM:=Lib.hid hM;obtain ⟨lim,hlim⟩:∃ k,s.limit = k:=⟨_,rfl⟩;have HSEA:Hid (∀ W,Q4m W (.slice A T capa) (.slice B M capb) s -> Q0h W (.agg #[.int .i64 lim,.slice A T capa,.slice B M capb]) s):=Lib.hid (fun W h=>⟨_,_,by rw [hlim],h⟩)
 rw [hT,hM] at H2;rw [hT,hM,hlim];clear h2 hW hT hM hlim;go_enter Tryz.func7,Tryz.ntmps7;have h8I:(8:Int) < L:=by omega
 go_wp2_with fail;change Calls _ _ _ (w.alloc (.cells #[.int .i64 lim,.slice A T capa,.slice B M capb] 25)) _;obtain ⟨W,hWW,k0,HXW,eW⟩:=Q1q w 25 #[.int .i64 lim,.slice A T capa,.slice B M capb];rw [hWW];clear hWW;refine (Y0v _ _ s (HSEA.out _ (H2.out.ext HXW.out))).mono ?_;rintro e w1 ⟨q,rfl,hq,hx⟩;have hxx:Ext w w1:=HXW.out.trans hx;replace HXA:=Lib.hid (HXA.out.trans hxx);replace HWD:=Lib.hid (HWD.out.ext hxx);replace H2:=Lib.hid (H2.out.ext hxx);clear hx hxx HXW eW k0;clear hq;cases q with
 | false =>
   go_wp2_with fail;refine (Q4o _ HWD.out).mono ?_;rintro e w2 ⟨rfl,hx⟩;have hxx:Ext w1 w2:=hx;replace HXA:=Lib.hid (HXA.out.trans hxx);replace HWD:=Lib.hid (HWD.out.ext hxx);clear hx hxx;go_wp2;go_ret;exact ⟨rfl,HXA.out⟩
 | true =>
   go_wp2_with fail;refine (Q4o _ HWD.out).mono ?_;rintro e w2 ⟨rfl,hx⟩;have hxx:Ext w1 w2:=hx;replace HXA:=Lib.hid (HXA.out.trans hxx);replace HWD:=Lib.hid (HWD.out.ext hxx);clear hx hxx;go_wp2;go_ret;exact ⟨rfl,HXA.out⟩
end Go.Proofs
namespace Go.Proofs.YthnobngcipaljaaGreatDoor
open Go.ChangeShapes Go.WideShapes Go.ChangeAt Go.RowKit Go.Tw
theorem Q9y (os:Os) (started:os.Started) (H:Type) (enc:TypeId × Value -> H) :
    ReturnsInHanded {} Tryz.checked os 7 .any (fun w args=>(Rows.policyFollowsSpec.pre enc Tryz.prog Tryz.f7 Rows.policyFollowsRow.domain false w args /\ laidMetH Tryz.prog Z2r w) /\ sizedMet enc Tryz.prog Tryz.f7 (OpenSpec.ofChange Rows.policyFollowsSpec) false w args)
     (Rows.policyFollowsSpec.post enc Tryz.prog Tryz.f7 false true false false):=by
 refine returnsInHanded_of_change_and (C:=Tryz.checked) (X:=fun w _=>laidMetH Tryz.prog Z2r w) (fun _ _ _ hh h=>h.of_heap hh) own started (by kernel_rfl) Tryz.func7
  (ChangeSpec.witness_shaped (enc:=enc) (C:=Tryz.checked) (os:=os) (X:=fun w _=>laidMetH Tryz.prog Z2r w) false (World.laidAll Tryz.prog os Z2r) #[.agg #[.int .i64 0,.slice none 0 0,.slice none 0 0],.int .i64 0,.slice none 0 0] 8 (World.laidAll_os _ _ _)
   (World.shaped_of_ZipB (by kernel_rfl) (by kernel_rfl)) (by kernel_rfl) (by kernel_rfl) (by kernel_rfl)
   (by rw [MakeChecks.laidMetH_plain _ _ _ (by kernel_rfl)]; exact laidMet_laidAll _ (by kernel_rfl) (by kernel_rfl))) ?_
 intro W base args ds gs before hval0 hW hc hsz0 hL _;have hval:∀ (j:Nat) t v,Tryz.f7.params[j]? = some t -> args[j]? = some v -> Value.okWide Tryz.prog W .any base t v:=hval0;have hsz:(DataW.weightsEach Tryz.prog (Tryz.f7.params.toList ++ Rows.policyFollowsSpec.plain.varTypes Tryz.prog) (ds ++ gs)).all (· <= reachBytes) = true:=hsz0;have hW':=hW;obtain ⟨p,q,hA0,hV,rfl,hfz,hnd⟩:=hW;have hA:DataW.TrodAll enc Tryz.prog W 0 (fun _=>true) true Tryz.f7.params.toList args.toList ds p:=hA0;rw [Tryz.params7] at hA hval hsz;obtain ⟨v0,vs0,d0,ds0,p0,q0,hargs,rfl,rfl,h0,r0⟩:=trodAll_cons hA;obtain ⟨v1,vs1,d1,ds1,p1,q1,rfl,rfl,rfl,h1,r1⟩:=trodAll_cons r0;obtain ⟨v2,vs2,d2,ds2,p2,q2,rfl,rfl,rfl,h2,r2⟩:=trodAll_cons r1;obtain ⟨rfl,rfl,rfl⟩:=trodAll_nil r2;obtain rfl:args = #[v0,v1,v2]:=by cases args; simp_all
 obtain ⟨rfl,rfl⟩:=trodVars_none hV;have hfit:∀ x ∈ DataW.weightsEach Tryz.prog [25,3,82] [d0,d1,d2],x <= 140737488351232:=fun x hx=>by
  have:=List.all_eq_true.1 (show (DataW.weightsEach Tryz.prog [25,3,82] [d0,d1,d2]).all (· <= reachBytes) = true from hsz) x hx
  exact Nat.le_trans (of_decide_eq_true this) (by decide)
 obtain ⟨f0,g0⟩:=Q3g hfit;obtain ⟨f1,g1⟩:=Q3g g0;obtain ⟨f2,g2⟩:=Q3g g1;have k0:=h0;have lt0:∀ x ∈ p0,x.block < W.heap.size:=by obtain ⟨m,hm⟩:=k0; exact DataW.trod_lt m _ _ _ hm
 obtain ⟨t0,HI0⟩:=X8x (hval 0 25 v0 rfl rfl) h0 f0;have k1:=h1;have lt1:∀ x ∈ p1,x.block < W.heap.size:=by obtain ⟨m,hm⟩:=k1; exact DataW.trod_lt m _ _ _ hm
 obtain ⟨z1,rfl,rfl,rfl,wz1⟩:=open_int Tryz.underlying3 (hval 1 3 v1 rfl rfl) h1;have k2:=h2;have lt2:∀ x ∈ p2,x.block < W.heap.size:=by obtain ⟨m,hm⟩:=k2; exact DataW.trod_lt m _ _ _ hm
 obtain ⟨a2,len2,cap2,rfl⟩:=okWide_slice Tryz.underlying82 (hval 2 82 v2 rfl rfl);have hcall:Calls Tryz.prog 7 #[v0,.int .i64 z1,.slice a2 len2 cap2] W fun e W'=>e = .returned (.bool true) /\ Ext W W':=by
  by_cases hb2:len2 <= 8
  . obtain ⟨t2,HI2⟩:∃ l,Q0x W (.slice a2 len2 cap2) l:=by
     obtain ⟨m,hm⟩:=h2;exact Y1z (fun a n c he=>by cases he; omega) (by simpa [Value.cells] using hm) f2
    exact X3f _ _ _ _ _ _ HI0 HI2 (X1n hL)
  . exact X1g _ _ _ _ _ _ _ HI0 (by omega) (X1n hL)
 clear hA0 hval0 hsz0;refine hcall.mono fun e W' ⟨he,bel⟩=>?_;subst he;exact ⟨_,rfl,_,_,_,[],_,[],hW',trodAll_mk1 (shut_bool Tryz.underlying4 _),(trodAll_cons_mk (Below.trod laidOut (by kernel_rfl) (of_decide_eq_true (by kernel_rfl)) k0 bel lt0) (trodAll_cons_mk (shut_int Tryz.underlying3 wz1) (trodAll_cons_mk (Below.trod laidOut (by kernel_rfl) (of_decide_eq_true (by kernel_rfl)) k2 bel lt2) trodAll_mk0))),rfl,bel.frame _,fun h=>by cases h⟩
theorem Q6c:Tryz.pinned.checked.prog.funcNamed Rows.policyFollowsRow.func = some 7:=by kernel_rfl
theorem Q8a:Tryz.f7.isInstance Tryz.pinned.checked.prog Rows.policyFollowsRow.origin Rows.policyFollowsRow.targs:=of_decide_eq_true (by kernel_rfl)
theorem X5p:(Rows.policyFollowsRow.wf (OpenSpec.ofChange Rows.policyFollowsSpec):Bool) = true:=by kernel_rfl
theorem X5v:(Tryz.f7.params.all (Tryz.prog.readableRec ·):Bool) = true:=by kernel_rfl
theorem X5l:(namedTie Tryz.prog Rows.policyFollowsRow.named Rows.policyFollowsSpec.vars:Bool) = true:=by kernel_rfl
theorem X5q:((Rows.policyFollowsRow.stops == []):Bool) = true:=by kernel_rfl
theorem X5i:((Rows.policyFollowsRow.knobs == []):Bool) = true:=by kernel_rfl
theorem X5m:((Rows.policyFollowsRow.inPlace == Tryz.prog.inPlace 7):Bool) = true:=by kernel_rfl
theorem X2z:((Rows.policyFollowsRow.unfollowed == Tryz.prog.unfollowed 7):Bool) = true:=by kernel_rfl
theorem X3n:((Rows.policyFollowsRow.recurses == Tryz.prog.recurses 7):Bool) = true:=by kernel_rfl
theorem X3p:((Rows.policyFollowsRow.named == Tryz.prog.varsNamed 7):Bool) = true:=by kernel_rfl
theorem X3d:((Rows.policyFollowsRow.maps == (Tryz.f7.params.toList ++ Rows.policyFollowsSpec.plain.varTypes Tryz.prog).any (Tryz.prog.mapsRec ·)):Bool) = true:=by kernel_rfl
theorem X3q:((Rows.policyFollowsRow.ifaces == (Tryz.f7.params.toList ++ Rows.policyFollowsSpec.plain.varTypes Tryz.prog).any (Tryz.prog.ifacesRec ·)):Bool) = true:=by kernel_rfl
theorem X2v:((Rows.policyFollowsRow.mapsOut == Tryz.prog.mapsAmong Tryz.f7.resultTypes.toList):Bool) = true:=by kernel_rfl
theorem X3h:((Rows.policyFollowsRow.loops == (Tryz.f7.params.toList ++ Rows.policyFollowsSpec.plain.varTypes Tryz.prog).any (Tryz.prog.loopsFrom ·)):Bool) = true:=by kernel_rfl
theorem X3y:((Rows.policyFollowsRow.wideKeys == (Tryz.f7.params.toList ++ Rows.policyFollowsSpec.plain.varTypes Tryz.prog ++ Tryz.f7.resultTypes.toList).any (Tryz.prog.wideKeysFrom ·)):Bool) = true:=by kernel_rfl
theorem X3g:(Rows.policyFollowsSpec.vars.all (Tryz.prog.varReadable ·):Bool) = true:=by kernel_rfl
theorem X2r:(Tryz.f7.resultTypes.all (fun t=>Tryz.prog.readableRec t && decide (t < Tryz.prog.types.size)):Bool) = true:=by kernel_rfl
theorem X3r:((Rows.policyFollowsRow.ifacesOut == Tryz.f7.resultTypes.toList.any (Tryz.prog.ifacesRec ·)):Bool) = true:=by kernel_rfl
theorem X4c:((Rows.policyFollowsRow.loopsOut == Tryz.f7.resultTypes.toList.any (Tryz.prog.loopsFrom ·)):Bool) = true:=by kernel_rfl
theorem X4e:((Rows.policyFollowsRow.plainKeys == Tryz.prog.plainKeys):Bool) = true:=by kernel_rfl
theorem X2x:(Rows.policyFollowsRow.shortTexts.isNone:Bool) = true:=by kernel_rfl
theorem X4f:((Rows.policyFollowsRow.lifted == Tryz.prog.liftsFinal):Bool) = true:=by kernel_rfl
theorem X3c:((Tryz.prog.make == some Rows.policyFollowsRow.make):Bool) = true:=by kernel_rfl
theorem X3w:(Rows.policyFollowsRow.domain.isEmpty && (Rows.policyFollowsRow.kinds == []):Bool) = true:=by kernel_rfl
theorem X2u:((Rows.policyFollowsRow.pinned == Rows.policyFollowsRow.pinnedBy):Bool) = true:=by kernel_rfl
theorem X4b:((Rows.policyFollowsRow.veiled == (Tryz.f7.params.toList ++ Rows.policyFollowsSpec.plain.varTypes Tryz.prog ++ Tryz.f7.resultTypes.toList).any (Tryz.prog.veiledRec ·)):Bool) = true:=by kernel_rfl
theorem X2y:(Rows.policyFollowsRow.veiledFits Tryz.prog Tryz.f7.params.toList (Tryz.f7.params.toList ++ Rows.policyFollowsSpec.plain.varTypes Tryz.prog ++ Tryz.f7.resultTypes.toList):Bool) = true:=by kernel_rfl
theorem Q9x:joinedFacts Tryz.pinned.checked.prog 7 Tryz.f7 Rows.policyFollowsSpec Rows.policyFollowsRow = true :=
 Z6d Tryz.prog 7 Tryz.f7 Rows.policyFollowsSpec Rows.policyFollowsRow X5p J0u J0q X5v X5l X5q Z9u X5i J0a X5m X2z X3n X3p X3d X3q X2v X3h X3y X3g X2r X3r X4c X4e X2x Z8q Z8b X4f X3c X3w X2u X4b X2y
theorem X0s:Rows.PolicyFollowsSaid :=
 OpenClaim.holds_of_wide 7 Tryz.f7 rfl rfl rfl rfl rfl rfl rfl ⟨rfl,rfl,rfl,rfl,rfl⟩ rfl rfl rfl rfl rfl Q6c Tryz.func7 Q9x
  Q8a (by unfold Func.isWrapper; first | (rw [if_pos (by decide +kernel)]; kernel_rfl) | (rw [if_neg (by decide +kernel)]; exact ⟨rfl,rfl⟩))
  (fun os started H enc _=>Q9y os started H enc)
theorem Q9z:Rows.policyFollowsRow.wfByText (OpenSpec.ofChange Rows.policyFollowsSpec) = true:=by kernel_rfl
theorem X1s:Tryz.pinned.checked.prog.mainIs = some (Rows.policyFollowsCard.stood.harness.1,Rows.policyFollowsCard.stood.harness.2.toList):=by kernel_rfl
theorem X0w:Rows.policyFollowsCard.stood.looks = Tryz.pinned.checked.prog.looks []:=by kernel_rfl
theorem X2d:false = Rows.policyFollowsRow.goesBy Tryz.pinned.checked.prog:=by kernel_rfl
theorem Q8s:([25,3,82].all fun u=>!Tryz.prog.wantsStandIn u) = true:=by kernel_rfl
theorem policyFollows_card:Rows.PolicyFollowsCardSaid :=
 Claim7.holds_tied_plain_at .later [] [.data,.data,.data,.widerDeep] true _ false X0s (fun _ h=>by cases h) Q9z (fun _ h=>by cases h) policyFollows_row_tie rfl ⟨rfl,rfl⟩ X1s rfl
  (fun f fn hf hfn=>by
   obtain rfl:f = 7:=Option.some.inj (Q6c.symm.trans hf) |>.symm
   obtain rfl:fn = Tryz.f7:=(Option.some.inj (Tryz.func7.symm.trans hfn)).symm;exact ⟨X0w,fun j t ht=>by
    have ht:#[25,3,82][j]? = some t:=Tryz.params7 ▸ ht;have hm:t ∈ [25,3,82]:=by simpa using Array.mem_of_getElem? ht
    exact (show Tryz.prog.wantsStandIn t = false by simpa using List.all_eq_true.1 Q8s t hm)⟩)
  X2d
#print axioms policyFollows_card
end Go.Proofs.YthnobngcipaljaaGreatDoor
