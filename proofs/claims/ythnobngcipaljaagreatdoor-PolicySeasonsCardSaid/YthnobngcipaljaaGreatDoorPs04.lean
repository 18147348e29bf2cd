/- The law PolicySeasons. -/
import Derived.Test.YthnobngcipaljaaGreatDoorPo34
import Derived.Test.YthnobngcipaljaaGreatDoorPo36
import Derived.Test.YthnobngcipaljaaGreatDoorPs01
import Derived.Test.YthnobngcipaljaaGreatDoorPs02
import Derived.Test.YthnobngcipaljaaGreatDoorPs03
set_option maxRecDepth 1000000
set_option maxHeartbeats 64000000
set_option linter.unusedVariables false
set_option linter.unusedSimpArgs false
set_option linter.constructorNameAsVariable false
namespace Go.Proofs
open Go.RowKit Go.Tw Go.Flow
attribute [local go_sem] Oper.semAt_some
def J5d (w:World) (x:Value) (p:List Rul):Prop:=∃ vo qs,x = .agg #[vo] /\ Q1d w 0 115 2 Z3h vo qs /\ qs.map (·.2) = p /\ RuR w qs
def unA:Value -> Array Value
 | .agg cs=>cs
 | _=>#[]
theorem J6l (p:List Rul):Value.bool (X7s p p) = .bool true:=by unfold X7s; simp
theorem J6w (l:List (List Int)):Value.bool (decide (l = l)) = .bool true:=by simp
theorem J7x.q {w w':World} {x:Value} {p:List Rul} (h:J7x 115 w w' x p):J5d w' x p:=let ⟨vo,qs,h1,h2,h3,h4⟩:=h; ⟨vo,qs,h1,J5f h2 (Nat.zero_le _),h3,h4⟩
theorem J5d.ext {w w':World} {x:Value} {p:List Rul} (h:J5d w x p) (hx:Ext w w'):J5d w' x p:=let ⟨vo,qs,h1,h2,h3,h4⟩:=h; ⟨vo,qs,h1,h2.below hx,h3,h4.ext hx⟩
theorem J7k {w w':World} {base k g:Nat} {e S:TypeId} {α:Type} {enc:α -> List Value} {v:Value} {l:List α} {cs:Array Value} (h:Q1d w base e k enc v l) (hb:Blk w g S cs) (hT:S ≠ e) (ho:∀ k,k ≠ g -> w'.heap[k]? = w.heap[k]?):Q1d w' base e k enc v l:=by
 obtain ⟨h1,h2⟩:=h;refine ⟨h1,?_⟩
 rcases h2 with h2 | ⟨g',cap,cur,hv,hbb,hgl,r⟩
 . exact .inl h2
 . refine .inr ⟨g',cap,cur,hv,hbb,?_,r⟩
   rw [ho g' ?_]; exact hgl;rintro rfl;unfold Blk at hb;rw [hb] at hgl;injection hgl with hgl;injection hgl with _ h3 _;exact hT h3
theorem J5d.only {w w':World} {x:Value} {p:List Rul} {g:Nat} {S:TypeId} {cs:Array Value} (h:J5d w x p) (hb:Blk w g S cs) (h1:S ≠ 115) (h2:S ≠ 3) (ho:∀ k,k ≠ g -> w'.heap[k]? = w.heap[k]?):J5d w' x p :=
 let ⟨vo,qs,e,a,b,c⟩:=h; ⟨vo,qs,e,J7k a hb h1 ho,b,fun q hq=>Q7b (c q hq) hb h2 ho⟩
theorem J5d.shape {w:World} {x:Value} {p:List Rul} (h:J5d w x p):∃ X c,x = .agg #[.slice X p.length c]:=by
 obtain ⟨vo,qs,rfl,ho,rfl,-⟩:=h;obtain ⟨b,c,rfl,-⟩:=ho.shape;exact ⟨b,c,by rw [List.length_map]⟩
theorem J5d.is {w:World} {x:Value} {p:List Rul} (h:J5d w x p) (hl:p.length <= 4096) (hs:∀ r ∈ p,r.classes.length <= 4096):Q1c w x p:=by
 obtain ⟨vo,qs,rfl,ho,rfl,hr⟩:=h;exact ⟨vo,rfl,J6u ho (by rw [List.length_map] at hl; omega) hr fun q hq=>hs _ (List.mem_map_of_mem hq)⟩
theorem LL.only {w w':World} {B:Nat} {v:Value} {ll:List (List Int)} {g:Nat} {S:TypeId} {cs:Array Value} (h:LL w B v ll) (hb:Blk w g S cs) (h1:S ≠ 22) (h2:S ≠ 3) (ho:∀ k,k ≠ g -> w'.heap[k]? = w.heap[k]?):LL w' B v ll:=by
 obtain ⟨vs,a,b,c⟩:=h;refine ⟨vs,?_,b,fun j hj=>Q7b (c j hj) hb h2 ho⟩;obtain ⟨a1,a2⟩:=a;refine ⟨a1,?_⟩
 rcases a2 with a2 | ⟨g',cap,cur,hv,hbb,hgl,r⟩
 . exact .inl a2
 . refine .inr ⟨g',cap,cur,hv,hbb,?_,r⟩
   rw [ho g' ?_]; exact hgl;rintro rfl;unfold Blk at hb;rw [hb] at hgl;injection hgl with hgl;injection hgl with _ h3 _;exact h1 h3
theorem J4s {s:Q0b} (hS:Q0y s) (c:Bool):(always s c).length <= 4096 /\ ∀ r ∈ always s c,r.classes.length <= 4096:=by
 refine ⟨by have:=Z7m hS; unfold always; rw [List.length_map]; omega,fun r hr=>?_⟩
 obtain ⟨h,hh,rfl⟩:=List.mem_map.1 hr;have:=Z3t hS h hh;show h.length <= 4096;omega
theorem J6q (s:Q0b) (c:Bool):(J4v s c).length <= 4096:=by
 unfold J4v
 by_cases h:s.err = 0
 . rw [if_pos h]; exact (J4s (Q0y.of h) c).1
 . rw [if_neg h]; exact Nat.zero_le _
theorem J5q (w:World) (v:Value) (s:Q0b) (hv:Q0h w v s) (hW:Words w) :
    Calls Tryz.prog 6 #[v] w fun e w'=>e = .returned (.bool true) /\ Ext w w':=by
 obtain ⟨a,b,rfl,h2⟩:=hv;obtain ⟨A,capa,rfl,-,-,-⟩:=h2.ships.opened;obtain ⟨B,capb,rfl,-,-,-⟩:=h2.members.opened;have HXA:=Lib.hid (Ext.refl w);have HWD:=Lib.hid hW;have H2:=Lib.hid h2;obtain ⟨T,hT⟩:∃ T,s.ships.length = T:=⟨_,rfl⟩;have HT:=Lib.hid hT;obtain ⟨M,hM⟩:∃ M,s.members.length = M:=⟨_,rfl⟩;have HM:=Lib.hid hM;obtain ⟨lim,hlim⟩:∃ k,s.limit = k:=⟨_,rfl⟩;have HSEA:Hid (∀ W,Q4m W (.slice A T capa) (.slice B M capb) s -> Q0h W (.agg #[.int .i64 lim,.slice A T capa,.slice B M capb]) s):=Lib.hid (fun W h=>⟨_,_,by rw [hlim],h⟩)
 rw [hT,hM] at H2;rw [hT,hM,hlim];clear h2 hW hT hM hlim;go_enter Tryz.func6,Tryz.ntmps6;go_wp2_with fail;change Calls _ _ _ (w.alloc (.cells #[.int .i64 lim,.slice A T capa,.slice B M capb] 25)) _;obtain ⟨W,hWW,k0,HXW,eW⟩:=Q1q w 25 #[.int .i64 lim,.slice A T capa,.slice B M capb];rw [hWW];clear hWW;refine (Y0v _ _ s (HSEA.out _ (H2.out.ext HXW.out))).mono ?_;rintro e w1 ⟨q,rfl,hq,hx⟩;have hxx:Ext w w1:=HXW.out.trans hx;replace HXA:=Lib.hid (HXA.out.trans hxx);replace HWD:=Lib.hid (HWD.out.ext hxx);replace H2:=Lib.hid (H2.out.ext hxx);have KB:=Lib.hid (k0.ext hx);clear hx hxx HXW eW k0;obtain ⟨gs,hgs⟩:∃ z,w.heap.size = z:=⟨_,rfl⟩;rw [hgs] at KB ⊢;clear hgs;cases q with
 | false =>
   clear hq;go_wp2_with fail;refine (Q4o _ HWD.out).mono ?_;rintro e w2 ⟨rfl,hx⟩;have hxx:Ext w1 w2:=hx;replace HXA:=Lib.hid (HXA.out.trans hxx);replace HWD:=Lib.hid (HWD.out.ext hxx);clear hx hxx;go_wp2;go_ret;exact ⟨rfl,HXA.out⟩
 | true =>
   have hs:Q3d s:=hq.1 rfl;have HS:=Lib.hid hs;clear hs hq;have d0KB:=KB.out.cell 0;have d1KB:=KB.out.cell 1;have d2KB:=KB.out.cell 2;simp only [Go.Tw.gA,Go.Tw.gB,Go.Tw.gC] at d0KB d1KB d2KB;go_wp2_with fail;refine (X7v _ _ s (HSEA.out _ H2.out) HS.out).mono ?_;rintro e w2 ⟨g1,rfl,hg,hx⟩;have hxx:Ext w1 w2:=hx;replace HXA:=Lib.hid (HXA.out.trans hxx);replace HWD:=Lib.hid (HWD.out.ext hxx);replace H2:=Lib.hid (H2.out.ext hxx);replace KB:=Lib.hid (KB.out.ext hxx);clear hx hxx d0KB d1KB d2KB;have HG:=Lib.hid hg;clear hg;go_wp2_with fail;refine (X9t _ _ s HG.out HS.out).mono ?_;rintro e w3 ⟨xh,rfl,hh,hx⟩;have hxx:Ext w2 w3:=hx;replace HXA:=Lib.hid (HXA.out.trans hxx);clear HG;replace HWD:=Lib.hid (HWD.out.ext hxx);replace H2:=Lib.hid (H2.out.ext hxx);replace KB:=Lib.hid (KB.out.ext hxx);clear hx hxx;have FH:=Lib.hid hh;clear hh;have d0KB:=KB.out.cell 0;have d1KB:=KB.out.cell 1;have d2KB:=KB.out.cell 2;simp only [Go.Tw.gA,Go.Tw.gB,Go.Tw.gC] at d0KB d1KB d2KB;go_wp2_with fail;refine (X7v _ _ s (HSEA.out _ H2.out) HS.out).mono ?_;rintro e w4 ⟨g2,rfl,hg,hx⟩;have hxx:Ext w3 w4:=hx;replace HXA:=Lib.hid (HXA.out.trans hxx);replace HWD:=Lib.hid (HWD.out.ext hxx);replace H2:=Lib.hid (H2.out.ext hxx);replace KB:=Lib.hid (KB.out.ext hxx);replace FH:=Lib.hid (FH.out.ext hxx);clear hx hxx d0KB d1KB d2KB;have HG:=Lib.hid hg;clear hg;go_wp2_with fail;refine (J6m _ _ s false HG.out HS.out).mono ?_;rintro e w5 ⟨⟨xo,rfl,ho⟩,hx⟩;have hxx:Ext w4 w5:=hx;replace HXA:=Lib.hid (HXA.out.trans hxx);clear HG;replace HWD:=Lib.hid (HWD.out.ext hxx);replace H2:=Lib.hid (H2.out.ext hxx);replace KB:=Lib.hid (KB.out.ext hxx);replace FH:=Lib.hid (FH.out.ext hxx);clear hx hxx;obtain ⟨Xxo,co,rfl,-,-,-⟩:=ho.opened;obtain ⟨no,hno⟩:∃ z,(J4v s false).length = z:=⟨_,rfl⟩;rw [hno] at ho ⊢;clear hno;have FO:=Lib.hid ho;clear ho;have hbx:=Ext.box w5 (.cells #[.slice Xxo no co] 38);have d0KB:=(KB.out.ext hbx).cell 0;have d1KB:=(KB.out.ext hbx).cell 1;have d2KB:=(KB.out.ext hbx).cell 2;simp only [Go.Tw.gA,Go.Tw.gB,Go.Tw.gC] at d0KB d1KB d2KB;go_wp2_with fail;change Calls _ _ _ (w5.alloc (.cells #[.slice Xxo no co] 38)) _;obtain ⟨W,hWW,k0,HXW,eW⟩:=Q1q w5 38 #[.slice Xxo no co];rw [hWW];clear hWW;refine (X7v _ _ s (HSEA.out _ (H2.out.ext HXW.out)) HS.out).mono ?_;rintro e w6 ⟨g3,rfl,hg,hx⟩;have hxx:Ext w5 w6:=HXW.out.trans hx;replace HXA:=Lib.hid (HXA.out.trans hxx);replace HWD:=Lib.hid (HWD.out.ext hxx);replace H2:=Lib.hid (H2.out.ext hxx);replace KB:=Lib.hid (KB.out.ext hxx);replace FH:=Lib.hid (FH.out.ext hxx);replace FO:=Lib.hid (FO.out.ext hxx);have KO:=Lib.hid (k0.ext hx);clear hx hxx HXW eW k0 hbx d0KB d1KB d2KB;have HG:=Lib.hid hg;clear hg;obtain ⟨go,hgo⟩:∃ z,w5.heap.size = z:=⟨_,rfl⟩;rw [hgo] at KO ⊢;clear hgo;go_wp2_with fail;refine (J6m _ _ s true HG.out HS.out).mono ?_;rintro e w7 ⟨⟨xc,rfl,ho⟩,hx⟩;have hxx:Ext w6 w7:=hx;replace HXA:=Lib.hid (HXA.out.trans hxx);clear HG;replace HWD:=Lib.hid (HWD.out.ext hxx);replace H2:=Lib.hid (H2.out.ext hxx);replace KB:=Lib.hid (KB.out.ext hxx);replace FH:=Lib.hid (FH.out.ext hxx);replace FO:=Lib.hid (FO.out.ext hxx);replace KO:=Lib.hid (KO.out.ext hxx);clear hx hxx;obtain ⟨Xxc,cc,rfl,-,-,-⟩:=ho.opened;obtain ⟨nc,hno⟩:∃ z,(J4v s true).length = z:=⟨_,rfl⟩;rw [hno] at ho ⊢;clear hno;have FC:=Lib.hid ho;clear ho;have hbx:=Ext.box w7 (.cells #[.slice Xxc nc cc] 38);have d0KB:=(KB.out.ext hbx).cell 0;have d1KB:=(KB.out.ext hbx).cell 1;have d2KB:=(KB.out.ext hbx).cell 2;simp only [Go.Tw.gA,Go.Tw.gB,Go.Tw.gC] at d0KB d1KB d2KB;go_wp2_with fail;change Calls _ _ _ (w7.alloc (.cells #[.slice Xxc nc cc] 38)) _;obtain ⟨W,hWW,k0,HXW,eW⟩:=Q1q w7 38 #[.slice Xxc nc cc];rw [hWW];clear hWW;refine (X5k _ _ s (HSEA.out _ (H2.out.ext HXW.out))).mono ?_;rintro e w8 ⟨rfl,hx⟩;have hxx:Ext w7 w8:=HXW.out.trans hx;replace HXA:=Lib.hid (HXA.out.trans hxx);replace HWD:=Lib.hid (HWD.out.ext hxx);replace H2:=Lib.hid (H2.out.ext hxx);replace KB:=Lib.hid (KB.out.ext hxx);replace FH:=Lib.hid (FH.out.ext hxx);replace FO:=Lib.hid (FO.out.ext hxx);replace KO:=Lib.hid (KO.out.ext hxx)
   replace FC:=Lib.hid (FC.out.ext hxx);have KC:=Lib.hid (k0.ext hx);clear hx hxx HXW eW k0 hbx d0KB d1KB d2KB;obtain ⟨gc,hgc⟩:∃ z,w7.heap.size = z:=⟨_,rfl⟩;rw [hgc] at KC ⊢;clear hgc;obtain ⟨PO,hPO⟩:∃ z,J4v s false = z:=⟨_,rfl⟩;obtain ⟨PC,hPC⟩:∃ z,J4v s true = z:=⟨_,rfl⟩;obtain ⟨HL,hHL⟩:∃ z,Z7e s = z:=⟨_,rfl⟩;have hpl:=J6q s false;have hpl2:=J6q s true;rw [hPO] at FO hpl;rw [hPC] at FC hpl2;rw [hHL] at FH;have HPOL:=Lib.hid hpl;have HPCL:=Lib.hid hpl2;have HPO:=Lib.hid hPO;have HPC:=Lib.hid hPC;have HHL:=Lib.hid hHL;clear hpl hpl2 hPO hPC hHL
   by_cases he:s.err = 0
   . skip
     have HVS:=Lib.hid (Q0y.of he);have HER:=Lib.hid he;have hpo:PO = always s false:=by rw [<- HPO.out]; exact if_pos he
     have hpc:PC = always s true:=by rw [<- HPC.out]; exact if_pos he
     have hhl:HL = s.hist:=by rw [<- HHL.out]; exact if_pos he
     have HPA:=Lib.hid hpo;have HPB:=Lib.hid hpc;have HHA:=Lib.hid hhl;rw [he];clear he hpo hpc hhl;go_wp2_with fail;obtain ⟨W,hWW,k0,k1,HXW,eW⟩:=Q4e w8 47 #[.slice none 0 0] 47 #[.slice none 0 0];rw [hWW];clear hWW;obtain ⟨ga,hga⟩:∃ z,w8.heap.size = z:=⟨_,rfl⟩;rw [hga] at k0 k1 ⊢;have HGA:=Lib.hid hga;have KA:=Lib.hid k0;have KD:=Lib.hid k1;clear k0 k1 hga eW;have hdr:=(Ext.refl W).drew;refine Flow.Q5l [.w,.w,.w,.w,.w,.w,.last,.last,.last] [0,1,2,3,4,5,6,7,8] [[],[0],[],[0,1,2],[],[0,1,2,3,4],[0,1,2,3,4,5],[0,1,2,3,4,5,6],[0,1,2,3,4,5,6,7]] [6,7,8]
      [.c 0 (.agg #[.int .i64 lim,.slice A T capa,.slice B M capb]),⟨fun v wz=>(fun v w'=>LL w' 0 (v 1) s.hist) v wz,by intro v a b hx h; exact LL.ext h hx⟩,.c 2 (.agg #[.int .i64 lim,.slice A T capa,.slice B M capb]),⟨fun v wz=>(fun v w'=>J5d w' (v 3) (always s false)) v wz,by intro v a b hx h; exact J5d.ext h hx⟩,.c 4 (.agg #[.int .i64 lim,.slice A T capa,.slice B M capb]),⟨fun v wz=>(fun v w'=>J5d w' (v 5) (always s true)) v wz,by intro v a b hx h; exact J5d.ext h hx⟩,.none,.none,.none]
      [fun v w1 w'=>v 6 = v 1 /\ w' = w1 /\ LL w' 0 (v 1) s.hist /\ J5d w' (v 3) (always s false) /\ J5d w' (v 5) (always s true) /\ Ext W w',fun v w1 w'=>v 6 = v 1 /\ LL w' 0 (v 1) s.hist /\ J5d w' (v 3) (always s false) /\ J5d w' (v 5) (always s true) /\ Blk w' ga 47 (unA (v 3)) /\ Blk w' (ga + 1) 47 #[.slice none 0 0] /\ Below ga W w',fun v w1 w'=>v 6 = v 1 /\ LL w' 0 (v 1) s.hist /\ J5d w' (v 3) (always s false) /\ J5d w' (v 5) (always s true) /\ Blk w' ga 47 (unA (v 3)) /\ Blk w' (ga + 1) 47 (unA (v 5)) /\ Below ga W w'] (by kernel_rfl) rfl (by kernel_rfl) ⟨?g0,?g1,?g2,?g3,?g4,?g5,?g6,?g7,?g8,trivial⟩ ?post
     case g0 | g2 | g4=>
      intro v w1 hx;intro bb hbb;intro K2 hK2;have o1:bb.eval (.tmp 1) = .pointer (some ⟨gs,0,none⟩):=by rw [hbb]; dsimp only; (try simp (discharger:=decide) only [eval_put_ne]); rfl
      exact Q0l (.tmp 1) _ rfl Tryz.Y9z Tryz.Y2p o1 (KB.out.ext (HXW.out.trans (hdr.trans hx))) rfl (hK2 _ _ (Ext.refl _) rfl)
     case g1=>
      intro v w1 hx;(repeat intro (zq:v _ = _));intro bb hbb;subst hbb;intro K2 hK2;go_simp;refine Q0e (J5b w1 _ s (HSEA.out _ (H2.out.ext (HXW.out.trans (hdr.trans hx)))) HER.out) ?_;rintro e w2 ⟨u,rfl,hu,hx2⟩;exact ⟨_,rfl,hK2 _ _ hx2 (hu.weaken (Nat.zero_le _))⟩
     case g3=>
      intro v w1 hx (q0:v 0 = _) _ (q2:v 2 = _);intro bb hbb;subst hbb;intro K2 hK2;go_simp;refine Q0e (J6s w1 _ s false (HSEA.out _ (H2.out.ext (HXW.out.trans (hdr.trans hx)))) HER.out) ?_;rintro e w2 ⟨u,rfl,hu,hx2⟩;exact ⟨_,rfl,hK2 _ _ hx2 hu.q⟩
     case g5=>
      intro v w1 hx (q0:v 0 = _) _ (q2:v 2 = _) _ (q4:v 4 = _);intro bb hbb;subst hbb;intro K2 hK2;go_simp;refine Q0e (J6s w1 _ s true (HSEA.out _ (H2.out.ext (HXW.out.trans (hdr.trans hx)))) HER.out) ?_;rintro e w2 ⟨u,rfl,hu,hx2⟩;exact ⟨_,rfl,hK2 _ _ hx2 hu.q⟩
     case g6=>
      intro v w1 hx (q0:v 0 = _) (q1:(fun v w'=>LL w' 0 (v 1) s.hist) v w1) (q2:v 2 = _) (q3:(fun v w'=>J5d w' (v 3) (always s false)) v w1) (q4:v 4 = _) (q5:(fun v w'=>J5d w' (v 5) (always s true)) v w1);intro wl hT;obtain rfl:wl = w1:=hT;intro bb hbb;intro K hK;have o1:bb.eval (.tmp 40) = v 1:=by rw [hbb]; dsimp only; (try simp (discharger:=decide) only [eval_put_ne]); rw [Q0a (by simp only [size_put]; exact (by decide:40 < 85))]
      go_simp;exact hK _ _ ⟨by first | rfl | exact o1,rfl,q1,q3,q5,hdr.trans hx⟩
     case g7=>
      intro v w1 hx (q0:v 0 = _) _ (q2:v 2 = _) _ (q4:v 4 = _) _;intro wl hT;replace hT:(fun v w1 w'=>v 6 = v 1 /\ w' = w1 /\ LL w' 0 (v 1) s.hist /\ J5d w' (v 3) (always s false) /\ J5d w' (v 5) (always s true) /\ Ext W w') v w1 wl:=hT;intro bb hbb;intro K hK;obtain ⟨hT0,rfl,hT1,hT2,hT3,hT4⟩:=hT;obtain ⟨X3,c3,e3⟩:=hT2.shape;have o1:bb.eval (.tmp 11) = .pointer (some ⟨ga,0,none⟩):=by rw [hbb]; dsimp only; (try simp (discharger:=decide) only [eval_put_ne]); rfl
      have o2:bb.eval (.tmp 42) = .agg #[.slice X3 (always s false).length c3]:=by rw [<- e3]; rw [hbb]; dsimp only; (try simp (discharger:=decide) only [eval_put_ne]); rw [Q0a (by simp only [size_put]; exact (by decide:42 < 85))]
      exact Q2c (.tmp 11) (.tmp 42) _ rfl Tryz.J0b o1 o2 (KA.out.ext hT4) rfl rfl (by intro u hu; simp only [List.mem_cons,List.not_mem_nil,or_false] at hu; rw [hu]; rfl) (fun vv w' hb hl ho=>hK _ _ ⟨hT0,hT1.only (KA.out.ext hT4) (by decide) (by decide) ho,hT2.only (KA.out.ext hT4) (by decide) (by decide) ho,hT3.only (KA.out.ext hT4) (by decide) (by decide) ho,by show Blk w' ga 47 (unA (v 3)); rw [e3]; exact hb,J6n (KD.out.ext hT4) (Nat.succ_ne_self ga) ho,Below.trans (hT4.mono (by have:=KA.out.lt; omega)) (hl ga (Nat.le_refl _))⟩)
     case g8=>
      intro v w1 hx (q0:v 0 = _) _ (q2:v 2 = _) _ (q4:v 4 = _) _;intro wl hT;replace hT:(fun v w1 w'=>v 6 = v 1 /\ LL w' 0 (v 1) s.hist /\ J5d w' (v 3) (always s false) /\ J5d w' (v 5) (always s true) /\ Blk w' ga 47 (unA (v 3)) /\ Blk w' (ga + 1) 47 #[.slice none 0 0] /\ Below ga W w') v w1 wl:=hT;intro bb hbb;intro K hK;obtain ⟨hT0,hT1,hT2,hT3,hT5,hT6,hT7⟩:=hT;obtain ⟨X3,c3,e3⟩:=hT3.shape;have o1:bb.eval (.tmp 12) = .pointer (some ⟨ga + 1,0,none⟩):=by rw [hbb]; dsimp only; (try simp (discharger:=decide) only [eval_put_ne]); rfl
      have o2:bb.eval (.tmp 44) = .agg #[.slice X3 (always s true).length c3]:=by rw [<- e3]; rw [hbb]; dsimp only; (try simp (discharger:=decide) only [Flow.eval_put_ne,Flow.J6v]); rw [Flow.Q0a (by simp only [Flow.size_put]; exact (by decide:44 < 85))]
      exact Q2c (.tmp 12) (.tmp 44) _ rfl Tryz.J0b o1 o2 hT6 rfl rfl (by intro u hu; simp only [List.mem_cons,List.not_mem_nil,or_false] at hu; rw [hu]; rfl) (fun vv w' hb hl ho=>hK _ _ ⟨hT0,hT1.only hT6 (by decide) (by decide) ho,hT2.only hT6 (by decide) (by decide) ho,hT3.only hT6 (by decide) (by decide) ho,J6n hT5 (Nat.succ_ne_self ga).symm ho,by show Blk w' (ga + 1) 47 (unA (v 5)); rw [e3]; exact hb,Below.trans hT7 (hl ga (Nat.le_succ _))⟩)
     case post =>
      intro v w1 hx (q0:v 0 = _) (q1:(fun v w'=>LL w' 0 (v 1) s.hist) v w1) (q2:v 2 = _) (q3:(fun v w'=>J5d w' (v 3) (always s false)) v w1) (q4:v 4 = _) (q5:(fun v w'=>J5d w' (v 5) (always s true)) v w1);intro w2 hE;replace hE:(fun v w1 w'=>v 6 = v 1 /\ LL w' 0 (v 1) s.hist /\ J5d w' (v 3) (always s false) /\ J5d w' (v 5) (always s true) /\ Blk w' ga 47 (unA (v 3)) /\ Blk w' (ga + 1) 47 (unA (v 5)) /\ Below ga W w') v w1 w2:=hE;simp only [Flow.acts,Act.put];go_simp;obtain ⟨h6,h1,h3,h5,hb0,hb1,hbl⟩:=hE;obtain ⟨wz,rfl⟩:∃ Z,Z = w2:=⟨_,rfl⟩;obtain ⟨Xa,ca,e3⟩:=h3.shape;obtain ⟨Xb,cb,e5⟩:=h5.shape;rw [e3] at h3 hb0;rw [e5] at h5 hb1;obtain ⟨na,hna⟩:∃ z,(always s false).length = z:=⟨_,rfl⟩;obtain ⟨nb,hnb⟩:∃ z,(always s true).length = z:=⟨_,rfl⟩;rw [hna] at h3 hb0;rw [hnb] at h5 hb1;have FA:=Lib.hid (h3.is (J4s HVS.out false).1 (J4s HVS.out false).2);have FB:=Lib.hid (h5.is (J4s HVS.out true).1 (J4s HVS.out true).2);have FY:=Lib.hid (J7n HVS.out h1);rw [<- HPA.out] at FA;rw [<- HPB.out] at FB;rw [<- HHA.out] at FY;replace KA:Hid (Blk _ _ _ _):=hb0;replace KD:Hid (Blk _ _ _ _):=hb1;obtain ⟨yv,hyv⟩:∃ z,v 1 = z:=⟨_,rfl⟩;rw [hyv] at FY ⊢;have hx0:Ext w8 wz:=Below.trans HXW.out (hbl.mono (by rw [HGA.out]; exact Nat.le_refl _))
      replace HXA:=Lib.hid (HXA.out.trans hx0);replace HWD:=Lib.hid (HWD.out.ext hx0);replace H2:=Lib.hid (H2.out.ext hx0);replace KB:=Lib.hid (KB.out.ext hx0);replace FH:=Lib.hid (FH.out.ext hx0);replace FO:=Lib.hid (FO.out.ext hx0);replace KO:=Lib.hid (KO.out.ext hx0);replace FC:=Lib.hid (FC.out.ext hx0);replace KC:=Lib.hid (KC.out.ext hx0);clear hx hdr hx0 h1 h3 h5 h6 hb0 hb1 hbl hyv hna hnb e3 e5 HXW q0 q1 q2 q3 q4 q5;go_wp2_with fail;have hdr:=(Ext.refl wz).drew;refine Flow.Q1h [.w,.w,.w,.p,.p,.p,.p,.p,.w,.p,.p,.p,.p,.p,.p,.p,.w,.w,.w,.w,.p,.p,.p,.p,.p,.p,.p,.w,.w,.w,.w,.p,.p,.p,.p,.p,.p,.p,.w,.p,.p] [0,1,2,3,4,5,6,7,8,9,10,11,12,13,14,15,16,17,18,19,20,21,22,23,24,25,26,27,28,29,30,31,32,33,34,35,36,37,38,39,40] [[],[0],[1],[],[2,3],[2,4],[5],[5],[5,6,7],[5,8],[8,9],[10],[10],[10,11,12],[10,13],[10,14],[15],[15,16],[15],[15,17,18],[15,19],[19,20],[21],[21],[21,22,23],[21,24],[21,25],[26],[26,27],[26],[26,28,29],[26,30],[30,31],[32],[32],[32,33,34],[32,35],[32,36],[37],[37,38],[0,1,2,3,4,5,6,7,8,9,10,11,12,13,14,15,16,17,18,19,20,21,22,23,24,25,26,27,28,29,30,31,32,33,34,35,36,37,38,39]]
       [.c 0 (.agg #[.int .i64 lim,.slice A T capa,.slice B M capb]),⟨fun v wz=>(fun v w'=>Q0h w' (v 1) s) v wz,by intro v a b hx h; exact Q0h.ext h hx⟩,.c 2 (.int .i64 0),.c 3 (.int .i64 0),.c 4 (.bool true),.c 5 (.bool true),.c 6 (xh),.c 7 (yv),.c 8 (.bool true),.c 9 (.bool true),.c 10 (.bool true),.c 11 (.int .i64 0),.c 12 (.int .i64 0),.c 13 (.bool true),.c 14 (.bool true),.c 15 (.bool true),.c 16 (.agg #[.slice Xxo no co]),⟨fun v wz=>(fun v w'=>Q1c w' (v 17) PO) v wz,by intro v a b hx h; exact Q1c.ext h hx⟩,.c 18 (.agg #[.slice Xa na ca]),.c 19 (.bool true),.c 20 (.bool true),.c 21 (.bool true),.c 22 (.int .i64 0),.c 23 (.int .i64 0),.c 24 (.bool true),.c 25 (.bool true),.c 26 (.bool true),.c 27 (.agg #[.slice Xxc nc cc]),⟨fun v wz=>(fun v w'=>Q1c w' (v 28) PC) v wz,by intro v a b hx h; exact Q1c.ext h hx⟩,.c 29 (.agg #[.slice Xb nb cb]),.c 30 (.bool true),.c 31 (.bool true),.c 32 (.bool true),.c 33 (.int .i64 0),.c 34 (.int .i64 0),.c 35 (.bool true),.c 36 (.bool true),.c 37 (.bool true),.c 38 (.bool true),.c 39 (.bool true),.c 40 (.bool true)]
       (by kernel_rfl) rfl (by kernel_rfl) ?owed ?post
      case owed =>
       refine ⟨?g0,?g1,?g2,?g3,?g4,?g5,?g6,?g7,?g8,?g9,?g10,?g11,?g12,?g13,?g14,?g15,?g16,?g17,?g18,?g19,?g20,?g21,?g22,?g23,?g24,?g25,?g26,?g27,?g28,?g29,?g30,?g31,?g32,?g33,?g34,?g35,?g36,?g37,?g38,?g39,?g40,trivial⟩
       case g0=>
        intro v w1 hx;intro bb hbb;intro K2 hK2;have o1:bb.eval (.tmp 1) = .pointer (some ⟨gs,0,none⟩):=by rw [hbb]; dsimp only; (try simp (discharger:=decide) only [eval_put_ne]); rfl
        exact Q0l (.tmp 1) _ rfl Tryz.Y9z Tryz.Y2p o1 (KB.out.ext (hdr.trans hx)) rfl (hK2 _ _ (Ext.refl _) rfl)
       case g1=>
        intro v w1 hx;(repeat intro (zq:v _ = _));intro bb hbb;subst hbb;intro K2 hK2;go_simp;refine Q0e (X7v w1 _ s (HSEA.out _ (H2.out.ext (hdr.trans hx))) HS.out) ?_;rintro e w2 ⟨u,rfl,hu,hx2⟩;exact ⟨_,rfl,hK2 _ _ hx2 hu⟩
       case g2=>
        intro v w1 hx (q1:(fun v w'=>Q0h w' (v 1) s) v w1);intro bb hbb;subst hbb;intro K2 hK2;go_simp;refine Q0e (Q1s w1 _ s q1 HS.out) ?_;rintro e w2 ⟨rfl,hx2⟩;rw [HER.out];exact ⟨_,rfl,hK2 _ _ hx2 rfl⟩
       case g3=>
        intro v w1 hx;intro bb hbb;subst hbb;refine ⟨_,fun w=>?_,rfl⟩;go_simp
       case g4 | g5 | g9 | g10 | g14 | g15 | g20 | g21 | g25 | g26 | g31 | g32 | g36 | g37 | g39=>
        intro v w1 hx;(repeat intro (zq:v _ = _));intro bb hbb;subst hbb;refine ⟨_,fun w=>?_,rfl⟩;go_simp
       case g6 | g7=>
        intro v w1 hx;(repeat intro (zq:v _ = _));intro bb hbb;refine Flow.Q0i (d:=50) rfl rfl (by rw [hbb]; simp only [size_put]; exact (by decide:50 < 85)) (by rw [hbb]; dsimp only; (try simp (discharger:=decide) only [eval_put_ne]); rw [Q0a (by simp only [size_put]; exact (by decide:50 < 85))]; assumption) ?_
        subst hbb;refine ⟨_,fun w=>?_,rfl⟩;go_simp
       case g8=>
        intro v w1 hx;(repeat intro (zq:v _ = _));intro bb hbb;refine Flow.Q0i (d:=50) rfl rfl (by rw [hbb]; simp only [size_put]; exact (by decide:50 < 85)) (by rw [hbb]; dsimp only; (try simp (discharger:=decide) only [eval_put_ne]); rw [Q0a (by simp only [size_put]; exact (by decide:50 < 85))]; assumption) ?_
        subst hbb;intro K2 hK2;go_simp;refine Q0e (J6e w1 _ _ HL HL (FH.out.ext (hdr.trans hx)) (FY.out.ext (hdr.trans hx))) ?_;rintro e w2 ⟨rfl,hx2⟩;exact ⟨_,rfl,hK2 _ _ hx2 (J6w HL)⟩
       case g11 | g12 | g13=>
        intro v w1 hx;(repeat intro (zq:v _ = _));intro bb hbb;refine Flow.Q0i (d:=55) rfl rfl (by rw [hbb]; simp only [size_put]; exact (by decide:55 < 85)) (by rw [hbb]; dsimp only; (try simp (discharger:=decide) only [eval_put_ne]); rw [Q0a (by simp only [size_put]; exact (by decide:55 < 85))]; assumption) ?_
        subst hbb;refine ⟨_,fun w=>?_,rfl⟩;go_simp
       case g16=>
        intro v w1 hx;(repeat intro (zq:v _ = _));intro bb hbb;refine Flow.Q0i (d:=60) rfl rfl (by rw [hbb]; simp only [size_put]; exact (by decide:60 < 85)) (by rw [hbb]; dsimp only; (try simp (discharger:=decide) only [eval_put_ne]); rw [Q0a (by simp only [size_put]; exact (by decide:60 < 85))]; assumption) ?_
        intro K2 hK2;have o1:bb.eval (.tmp 5) = .pointer (some ⟨go,0,none⟩):=by rw [hbb]; dsimp only; (try simp (discharger:=decide) only [eval_put_ne]); rfl
        exact Q0l (.tmp 5) _ rfl Tryz.X0r Tryz.Q4z o1 (KO.out.ext (hdr.trans hx)) rfl (hK2 _ _ (Ext.refl _) rfl)
       case g17=>
        intro v w1 hx;(repeat intro (zq:v _ = _));intro bb hbb;refine Flow.Q0i (d:=60) rfl rfl (by rw [hbb]; simp only [size_put]; exact (by decide:60 < 85)) (by rw [hbb]; dsimp only; (try simp (discharger:=decide) only [eval_put_ne]); rw [Q0a (by simp only [size_put]; exact (by decide:60 < 85))]; assumption) ?_
        subst hbb;intro K2 hK2;go_simp;refine Q0e (Z0a w1 _ PO ⟨_,rfl,FO.out.ext (hdr.trans hx)⟩ HPOL.out) ?_;rintro e w2 ⟨u,rfl,hu,hx2⟩;exact ⟨_,rfl,hK2 _ _ hx2 hu⟩
       case g18=>
        intro v w1 hx;(repeat intro (zq:v _ = _));intro bb hbb;refine Flow.Q0i (d:=60) rfl rfl (by rw [hbb]; simp only [size_put]; exact (by decide:60 < 85)) (by rw [hbb]; dsimp only; (try simp (discharger:=decide) only [eval_put_ne]); rw [Q0a (by simp only [size_put]; exact (by decide:60 < 85))]; assumption) ?_
        intro K2 hK2;have o1:bb.eval (.tmp 11) = .pointer (some ⟨ga,0,none⟩):=by rw [hbb]; dsimp only; (try simp (discharger:=decide) only [eval_put_ne]); rfl
        exact Q0l (.tmp 11) _ rfl Tryz.J2n Tryz.J0b o1 (KA.out.ext (hdr.trans hx)) rfl (hK2 _ _ (Ext.refl _) rfl)
       case g19=>
        intro v w1 hx (q15:v 15 = _) (q17:(fun v w'=>Q1c w' (v 17) PO) v w1) (q18:v 18 = _);intro bb hbb;refine Flow.Q0i (d:=60) rfl rfl (by rw [hbb]; simp only [size_put]; exact (by decide:60 < 85)) (by rw [hbb]; dsimp only; (try simp (discharger:=decide) only [eval_put_ne]); rw [Q0a (by simp only [size_put]; exact (by decide:60 < 85))]; exact q15) ?_
        subst hbb;intro K2 hK2;go_simp;refine Q0e (X9m w1 _ _ PO PO q17 (FA.out.ext (hdr.trans hx))) ?_;rintro e w2 ⟨rfl,hx2⟩;exact ⟨_,rfl,hK2 _ _ hx2 (J6l PO)⟩
       case g22 | g23 | g24=>
        intro v w1 hx;(repeat intro (zq:v _ = _));intro bb hbb;refine Flow.Q0i (d:=66) rfl rfl (by rw [hbb]; simp only [size_put]; exact (by decide:66 < 85)) (by rw [hbb]; dsimp only; (try simp (discharger:=decide) only [eval_put_ne]); rw [Q0a (by simp only [size_put]; exact (by decide:66 < 85))]; assumption) ?_
        subst hbb;refine ⟨_,fun w=>?_,rfl⟩;go_simp
       case g27=>
        intro v w1 hx;(repeat intro (zq:v _ = _));intro bb hbb;refine Flow.Q0i (d:=71) rfl rfl (by rw [hbb]; simp only [size_put]; exact (by decide:71 < 85)) (by rw [hbb]; dsimp only; (try simp (discharger:=decide) only [eval_put_ne]); rw [Q0a (by simp only [size_put]; exact (by decide:71 < 85))]; assumption) ?_
        intro K2 hK2;have o1:bb.eval (.tmp 7) = .pointer (some ⟨gc,0,none⟩):=by rw [hbb]; dsimp only; (try simp (discharger:=decide) only [eval_put_ne]); rfl
        exact Q0l (.tmp 7) _ rfl Tryz.X0r Tryz.Q4z o1 (KC.out.ext (hdr.trans hx)) rfl (hK2 _ _ (Ext.refl _) rfl)
       case g28=>
        intro v w1 hx;(repeat intro (zq:v _ = _));intro bb hbb;refine Flow.Q0i (d:=71) rfl rfl (by rw [hbb]; simp only [size_put]; exact (by decide:71 < 85)) (by rw [hbb]; dsimp only; (try simp (discharger:=decide) only [eval_put_ne]); rw [Q0a (by simp only [size_put]; exact (by decide:71 < 85))]; assumption) ?_
        subst hbb;intro K2 hK2;go_simp;refine Q0e (Z0a w1 _ PC ⟨_,rfl,FC.out.ext (hdr.trans hx)⟩ HPCL.out) ?_;rintro e w2 ⟨u,rfl,hu,hx2⟩;exact ⟨_,rfl,hK2 _ _ hx2 hu⟩
       case g29=>
        intro v w1 hx;(repeat intro (zq:v _ = _));intro bb hbb;refine Flow.Q0i (d:=71) rfl rfl (by rw [hbb]; simp only [size_put]; exact (by decide:71 < 85)) (by rw [hbb]; dsimp only; (try simp (discharger:=decide) only [eval_put_ne]); rw [Q0a (by simp only [size_put]; exact (by decide:71 < 85))]; assumption) ?_
        intro K2 hK2;have o1:bb.eval (.tmp 12) = .pointer (some ⟨ga + 1,0,none⟩):=by rw [hbb]; dsimp only; (try simp (discharger:=decide) only [eval_put_ne]); rfl
        exact Q0l (.tmp 12) _ rfl Tryz.J2n Tryz.J0b o1 (KD.out.ext (hdr.trans hx)) rfl (hK2 _ _ (Ext.refl _) rfl)
       case g30=>
        intro v w1 hx (q26:v 26 = _) (q28:(fun v w'=>Q1c w' (v 28) PC) v w1) (q29:v 29 = _);intro bb hbb;refine Flow.Q0i (d:=71) rfl rfl (by rw [hbb]; simp only [size_put]; exact (by decide:71 < 85)) (by rw [hbb]; dsimp only; (try simp (discharger:=decide) only [eval_put_ne]); rw [Q0a (by simp only [size_put]; exact (by decide:71 < 85))]; exact q26) ?_
        subst hbb;intro K2 hK2;go_simp;refine Q0e (X9m w1 _ _ PC PC q28 (FB.out.ext (hdr.trans hx))) ?_;rintro e w2 ⟨rfl,hx2⟩;exact ⟨_,rfl,hK2 _ _ hx2 (J6l PC)⟩
       case g33 | g34 | g35=>
        intro v w1 hx;(repeat intro (zq:v _ = _));intro bb hbb;refine Flow.Q0i (d:=77) rfl rfl (by rw [hbb]; simp only [size_put]; exact (by decide:77 < 85)) (by rw [hbb]; dsimp only; (try simp (discharger:=decide) only [eval_put_ne]); rw [Q0a (by simp only [size_put]; exact (by decide:77 < 85))]; assumption) ?_
        subst hbb;refine ⟨_,fun w=>?_,rfl⟩;go_simp
       case g38=>
        intro v w1 hx;(repeat intro (zq:v _ = _));intro bb hbb;refine Flow.Q0i (d:=82) rfl rfl (by rw [hbb]; simp only [size_put]; exact (by decide:82 < 85)) (by rw [hbb]; dsimp only; (try simp (discharger:=decide) only [eval_put_ne]); rw [Q0a (by simp only [size_put]; exact (by decide:82 < 85))]; assumption) ?_
        subst hbb;intro K hK;go_simp;refine Q0e (Q4o w1 (HWD.out.ext (hdr.trans hx))) ?_;rintro e w2 ⟨rfl,hx2⟩;exact ⟨_,rfl,hK _ _ hx2 rfl⟩
       case g40=>
        intro v w1 hx (q0:v 0 = _) _ (q2:v 2 = _) (q3:v 3 = _) (q4:v 4 = _) (q5:v 5 = _) (q6:v 6 = _) (q7:v 7 = _) (q8:v 8 = _) (q9:v 9 = _) (q10:v 10 = _) (q11:v 11 = _) (q12:v 12 = _) (q13:v 13 = _) (q14:v 14 = _) (q15:v 15 = _) (q16:v 16 = _) _ (q18:v 18 = _) (q19:v 19 = _) (q20:v 20 = _) (q21:v 21 = _) (q22:v 22 = _) (q23:v 23 = _) (q24:v 24 = _) (q25:v 25 = _) (q26:v 26 = _) (q27:v 27 = _) _ (q29:v 29 = _) (q30:v 30 = _) (q31:v 31 = _) (q32:v 32 = _) (q33:v 33 = _) (q34:v 34 = _) (q35:v 35 = _) (q36:v 36 = _) (q37:v 37 = _) (q38:v 38 = _) (q39:v 39 = _);intro bb hbb;subst hbb;refine ⟨_,fun w=>?_,rfl⟩;go_simp
      case post =>
       intro v w1 hx;(iterate 1 intro (zq:v _ = _));intro (q1:(fun v w'=>Q0h w' (v 1) s) v w1);(iterate 15 intro (zq:v _ = _));intro (q17:(fun v w'=>Q1c w' (v 17) PO) v w1);(iterate 10 intro (zq:v _ = _));intro (q28:(fun v w'=>Q1c w' (v 28) PC) v w1);(iterate 12 intro (zq:v _ = _));simp only [Flow.All,Flow.acts,Act.put];go_simp;have hxz:=HXA.out.trans (hdr.trans hx);clear hx hdr q1 q17 q28;(repeat clear zq);go_wp2;go_ret;exact ⟨rfl,hxz⟩
   . skip
     obtain ⟨E,hE⟩:∃ E,s.err = E:=⟨_,rfl⟩;have hpo:PO = []:=by rw [<- HPO.out]; exact if_neg he
     have hpc:PC = []:=by rw [<- HPC.out]; exact if_neg he
     have hhl:HL = []:=by rw [<- HHL.out]; exact if_neg he
     rw [hE] at he ⊢;have HER:=Lib.hid hE;have hE0:(E == 0) = false:=by simp [he]
     have HPA:=Lib.hid hpo;have HPB:=Lib.hid hpc;have HHA:=Lib.hid hhl;clear hE hpo hpc hhl;go_wp2_with fail;obtain ⟨W,hWW,k0,k1,HXW,eW⟩:=Q4e w8 47 #[.slice none 0 0] 47 #[.slice none 0 0];rw [hWW];clear hWW;replace HXA:=Lib.hid (HXA.out.trans HXW.out);replace HWD:=Lib.hid (HWD.out.ext HXW.out);replace H2:=Lib.hid (H2.out.ext HXW.out);replace KB:=Lib.hid (KB.out.ext HXW.out);replace FH:=Lib.hid (FH.out.ext HXW.out);replace FO:=Lib.hid (FO.out.ext HXW.out);replace KO:=Lib.hid (KO.out.ext HXW.out);replace FC:=Lib.hid (FC.out.ext HXW.out);replace KC:=Lib.hid (KC.out.ext HXW.out);obtain ⟨ga,hga⟩:∃ z,w8.heap.size = z:=⟨_,rfl⟩;rw [hga] at k0 k1 ⊢;have HGA:=Lib.hid hga;have KA:=Lib.hid k0;have KD:=Lib.hid k1;clear k0 k1 hga eW;have FA:Hid (Q1c W (.agg #[.slice none 0 0]) PO):=Lib.hid ⟨_,rfl,by rw [HPA.out]; exact Go.Tw.Rows.nil _ _ _⟩
     have FB:Hid (Q1c W (.agg #[.slice none 0 0]) PC):=Lib.hid ⟨_,rfl,by rw [HPB.out]; exact Go.Tw.Rows.nil _ _ _⟩
     have FY:Hid (Q3o W (.slice none 0 0) HL):=Lib.hid (by rw [HHA.out]; exact Go.Tw.Rows.nil _ _ _)
     have hdr:=(Ext.refl W).drew;refine Flow.Q1h [.w,.w,.w,.p,.p,.p,.p,.p,.w,.p,.p,.p,.p,.p,.p,.p,.w,.w,.w,.w,.p,.p,.p,.p,.p,.p,.p,.w,.w,.w,.w,.p,.p,.p,.p,.p,.p,.p,.w,.p,.p] [0,1,2,3,4,5,6,7,8,9,10,11,12,13,14,15,16,17,18,19,20,21,22,23,24,25,26,27,28,29,30,31,32,33,34,35,36,37,38,39,40] [[],[0],[1],[],[2,3],[2,4],[5],[5],[5,6,7],[5,8],[8,9],[10],[10],[10,11,12],[10,13],[10,14],[15],[15,16],[15],[15,17,18],[15,19],[19,20],[21],[21],[21,22,23],[21,24],[21,25],[26],[26,27],[26],[26,28,29],[26,30],[30,31],[32],[32],[32,33,34],[32,35],[32,36],[37],[37,38],[0,1,2,3,4,5,6,7,8,9,10,11,12,13,14,15,16,17,18,19,20,21,22,23,24,25,26,27,28,29,30,31,32,33,34,35,36,37,38,39]]
      [.c 0 (.agg #[.int .i64 lim,.slice A T capa,.slice B M capb]),⟨fun v wz=>(fun v w'=>Q0h w' (v 1) s) v wz,by intro v a b hx h; exact Q0h.ext h hx⟩,.c 2 (.int .i64 E),.c 3 (.int .i64 E),.c 4 (.bool true),.c 5 (.bool true),.c 6 (xh),.c 7 (.slice none 0 0),.c 8 (.bool true),.c 9 (.bool true),.c 10 (.bool true),.c 11 (.int .i64 E),.c 12 (.int .i64 E),.c 13 (.bool true),.c 14 (.bool true),.c 15 (.bool true),.c 16 (.agg #[.slice Xxo no co]),⟨fun v wz=>(fun v w'=>Q1c w' (v 17) PO) v wz,by intro v a b hx h; exact Q1c.ext h hx⟩,.c 18 (.agg #[.slice none 0 0]),.c 19 (.bool true),.c 20 (.bool true),.c 21 (.bool true),.c 22 (.int .i64 E),.c 23 (.int .i64 E),.c 24 (.bool true),.c 25 (.bool true),.c 26 (.bool true),.c 27 (.agg #[.slice Xxc nc cc]),⟨fun v wz=>(fun v w'=>Q1c w' (v 28) PC) v wz,by intro v a b hx h; exact Q1c.ext h hx⟩,.c 29 (.agg #[.slice none 0 0]),.c 30 (.bool true),.c 31 (.bool true),.c 32 (.bool true),.c 33 (.int .i64 E),.c 34 (.int .i64 E),.c 35 (.bool true),.c 36 (.bool true),.c 37 (.bool true),.c 38 (.bool true),.c 39 (.bool true),.c 40 (.bool true)]
      (by kernel_rfl) rfl (by kernel_rfl) ?owed ?post
     case owed =>
      refine ⟨?g0,?g1,?g2,?g3,?g4,?g5,?g6,?g7,?g8,?g9,?g10,?g11,?g12,?g13,?g14,?g15,?g16,?g17,?g18,?g19,?g20,?g21,?g22,?g23,?g24,?g25,?g26,?g27,?g28,?g29,?g30,?g31,?g32,?g33,?g34,?g35,?g36,?g37,?g38,?g39,?g40,trivial⟩
      case g0=>
       intro v w1 hx;intro bb hbb;intro K2 hK2;have o1:bb.eval (.tmp 1) = .pointer (some ⟨gs,0,none⟩):=by rw [hbb]; dsimp only; (try simp (discharger:=decide) only [eval_put_ne]); rfl
       exact Q0l (.tmp 1) _ rfl Tryz.Y9z Tryz.Y2p o1 (KB.out.ext (hdr.trans hx)) rfl (hK2 _ _ (Ext.refl _) rfl)
      case g1=>
       intro v w1 hx;(repeat intro (zq:v _ = _));intro bb hbb;subst hbb;intro K2 hK2;go_simp;refine Q0e (X7v w1 _ s (HSEA.out _ (H2.out.ext (hdr.trans hx))) HS.out) ?_;rintro e w2 ⟨u,rfl,hu,hx2⟩;exact ⟨_,rfl,hK2 _ _ hx2 hu⟩
      case g2=>
       intro v w1 hx (q1:(fun v w'=>Q0h w' (v 1) s) v w1);intro bb hbb;subst hbb;intro K2 hK2;go_simp;refine Q0e (Q1s w1 _ s q1 HS.out) ?_;rintro e w2 ⟨rfl,hx2⟩;rw [HER.out];exact ⟨_,rfl,hK2 _ _ hx2 rfl⟩
      case g3=>
       intro v w1 hx;intro bb hbb;subst hbb;refine ⟨_,fun w=>?_,rfl⟩;go_simp
      case g4 | g5 | g9 | g10 | g14 | g15 | g20 | g21 | g25 | g26 | g31 | g32 | g36 | g37 | g39=>
       intro v w1 hx;(repeat intro (zq:v _ = _));intro bb hbb;subst hbb;refine ⟨_,fun w=>?_,rfl⟩;go_simp
      case g6 | g7=>
       intro v w1 hx;(repeat intro (zq:v _ = _));intro bb hbb;refine Flow.Q0i (d:=50) rfl rfl (by rw [hbb]; simp only [size_put]; exact (by decide:50 < 85)) (by rw [hbb]; dsimp only; (try simp (discharger:=decide) only [eval_put_ne]); rw [Q0a (by simp only [size_put]; exact (by decide:50 < 85))]; assumption) ?_
       subst hbb;refine ⟨_,fun w=>?_,rfl⟩;go_simp
      case g8=>
       intro v w1 hx;(repeat intro (zq:v _ = _));intro bb hbb;refine Flow.Q0i (d:=50) rfl rfl (by rw [hbb]; simp only [size_put]; exact (by decide:50 < 85)) (by rw [hbb]; dsimp only; (try simp (discharger:=decide) only [eval_put_ne]); rw [Q0a (by simp only [size_put]; exact (by decide:50 < 85))]; assumption) ?_
       subst hbb;intro K2 hK2;go_simp;refine Q0e (J6e w1 _ _ HL HL (FH.out.ext (hdr.trans hx)) (FY.out.ext (hdr.trans hx))) ?_;rintro e w2 ⟨rfl,hx2⟩;exact ⟨_,rfl,hK2 _ _ hx2 (J6w HL)⟩
      case g11 | g12 | g13=>
       intro v w1 hx;(repeat intro (zq:v _ = _));intro bb hbb;refine Flow.Q0i (d:=55) rfl rfl (by rw [hbb]; simp only [size_put]; exact (by decide:55 < 85)) (by rw [hbb]; dsimp only; (try simp (discharger:=decide) only [eval_put_ne]); rw [Q0a (by simp only [size_put]; exact (by decide:55 < 85))]; assumption) ?_
       subst hbb;refine ⟨_,fun w=>?_,rfl⟩;go_simp
      case g16=>
       intro v w1 hx;(repeat intro (zq:v _ = _));intro bb hbb;refine Flow.Q0i (d:=60) rfl rfl (by rw [hbb]; simp only [size_put]; exact (by decide:60 < 85)) (by rw [hbb]; dsimp only; (try simp (discharger:=decide) only [eval_put_ne]); rw [Q0a (by simp only [size_put]; exact (by decide:60 < 85))]; assumption) ?_
       intro K2 hK2;have o1:bb.eval (.tmp 5) = .pointer (some ⟨go,0,none⟩):=by rw [hbb]; dsimp only; (try simp (discharger:=decide) only [eval_put_ne]); rfl
       exact Q0l (.tmp 5) _ rfl Tryz.X0r Tryz.Q4z o1 (KO.out.ext (hdr.trans hx)) rfl (hK2 _ _ (Ext.refl _) rfl)
      case g17=>
       intro v w1 hx;(repeat intro (zq:v _ = _));intro bb hbb;refine Flow.Q0i (d:=60) rfl rfl (by rw [hbb]; simp only [size_put]; exact (by decide:60 < 85)) (by rw [hbb]; dsimp only; (try simp (discharger:=decide) only [eval_put_ne]); rw [Q0a (by simp only [size_put]; exact (by decide:60 < 85))]; assumption) ?_
       subst hbb;intro K2 hK2;go_simp;refine Q0e (Z0a w1 _ PO ⟨_,rfl,FO.out.ext (hdr.trans hx)⟩ HPOL.out) ?_;rintro e w2 ⟨u,rfl,hu,hx2⟩;exact ⟨_,rfl,hK2 _ _ hx2 hu⟩
      case g18=>
       intro v w1 hx;(repeat intro (zq:v _ = _));intro bb hbb;refine Flow.Q0i (d:=60) rfl rfl (by rw [hbb]; simp only [size_put]; exact (by decide:60 < 85)) (by rw [hbb]; dsimp only; (try simp (discharger:=decide) only [eval_put_ne]); rw [Q0a (by simp only [size_put]; exact (by decide:60 < 85))]; assumption) ?_
       intro K2 hK2;have o1:bb.eval (.tmp 11) = .pointer (some ⟨ga,0,none⟩):=by rw [hbb]; dsimp only; (try simp (discharger:=decide) only [eval_put_ne]); rfl
       exact Q0l (.tmp 11) _ rfl Tryz.J2n Tryz.J0b o1 (KA.out.ext (hdr.trans hx)) rfl (hK2 _ _ (Ext.refl _) rfl)
      case g19=>
       intro v w1 hx (q15:v 15 = _) (q17:(fun v w'=>Q1c w' (v 17) PO) v w1) (q18:v 18 = _);intro bb hbb;refine Flow.Q0i (d:=60) rfl rfl (by rw [hbb]; simp only [size_put]; exact (by decide:60 < 85)) (by rw [hbb]; dsimp only; (try simp (discharger:=decide) only [eval_put_ne]); rw [Q0a (by simp only [size_put]; exact (by decide:60 < 85))]; exact q15) ?_
       subst hbb;intro K2 hK2;go_simp;refine Q0e (X9m w1 _ _ PO PO q17 (FA.out.ext (hdr.trans hx))) ?_;rintro e w2 ⟨rfl,hx2⟩;exact ⟨_,rfl,hK2 _ _ hx2 (J6l PO)⟩
      case g22 | g23 | g24=>
       intro v w1 hx;(repeat intro (zq:v _ = _));intro bb hbb;refine Flow.Q0i (d:=66) rfl rfl (by rw [hbb]; simp only [size_put]; exact (by decide:66 < 85)) (by rw [hbb]; dsimp only; (try simp (discharger:=decide) only [eval_put_ne]); rw [Q0a (by simp only [size_put]; exact (by decide:66 < 85))]; assumption) ?_
       subst hbb;refine ⟨_,fun w=>?_,rfl⟩;go_simp
      case g27=>
       intro v w1 hx;(repeat intro (zq:v _ = _));intro bb hbb;refine Flow.Q0i (d:=71) rfl rfl (by rw [hbb]; simp only [size_put]; exact (by decide:71 < 85)) (by rw [hbb]; dsimp only; (try simp (discharger:=decide) only [eval_put_ne]); rw [Q0a (by simp only [size_put]; exact (by decide:71 < 85))]; assumption) ?_
       intro K2 hK2;have o1:bb.eval (.tmp 7) = .pointer (some ⟨gc,0,none⟩):=by rw [hbb]; dsimp only; (try simp (discharger:=decide) only [eval_put_ne]); rfl
       exact Q0l (.tmp 7) _ rfl Tryz.X0r Tryz.Q4z o1 (KC.out.ext (hdr.trans hx)) rfl (hK2 _ _ (Ext.refl _) rfl)
      case g28=>
       intro v w1 hx;(repeat intro (zq:v _ = _));intro bb hbb;refine Flow.Q0i (d:=71) rfl rfl (by rw [hbb]; simp only [size_put]; exact (by decide:71 < 85)) (by rw [hbb]; dsimp only; (try simp (discharger:=decide) only [eval_put_ne]); rw [Q0a (by simp only [size_put]; exact (by decide:71 < 85))]; assumption) ?_
       subst hbb;intro K2 hK2;go_simp;refine Q0e (Z0a w1 _ PC ⟨_,rfl,FC.out.ext (hdr.trans hx)⟩ HPCL.out) ?_;rintro e w2 ⟨u,rfl,hu,hx2⟩;exact ⟨_,rfl,hK2 _ _ hx2 hu⟩
      case g29=>
       intro v w1 hx;(repeat intro (zq:v _ = _));intro bb hbb;refine Flow.Q0i (d:=71) rfl rfl (by rw [hbb]; simp only [size_put]; exact (by decide:71 < 85)) (by rw [hbb]; dsimp only; (try simp (discharger:=decide) only [eval_put_ne]); rw [Q0a (by simp only [size_put]; exact (by decide:71 < 85))]; assumption) ?_
       intro K2 hK2;have o1:bb.eval (.tmp 12) = .pointer (some ⟨ga + 1,0,none⟩):=by rw [hbb]; dsimp only; (try simp (discharger:=decide) only [eval_put_ne]); rfl
       exact Q0l (.tmp 12) _ rfl Tryz.J2n Tryz.J0b o1 (KD.out.ext (hdr.trans hx)) rfl (hK2 _ _ (Ext.refl _) rfl)
      case g30=>
       intro v w1 hx (q26:v 26 = _) (q28:(fun v w'=>Q1c w' (v 28) PC) v w1) (q29:v 29 = _);intro bb hbb;refine Flow.Q0i (d:=71) rfl rfl (by rw [hbb]; simp only [size_put]; exact (by decide:71 < 85)) (by rw [hbb]; dsimp only; (try simp (discharger:=decide) only [eval_put_ne]); rw [Q0a (by simp only [size_put]; exact (by decide:71 < 85))]; exact q26) ?_
       subst hbb;intro K2 hK2;go_simp;refine Q0e (X9m w1 _ _ PC PC q28 (FB.out.ext (hdr.trans hx))) ?_;rintro e w2 ⟨rfl,hx2⟩;exact ⟨_,rfl,hK2 _ _ hx2 (J6l PC)⟩
      case g33 | g34 | g35=>
       intro v w1 hx;(repeat intro (zq:v _ = _));intro bb hbb;refine Flow.Q0i (d:=77) rfl rfl (by rw [hbb]; simp only [size_put]; exact (by decide:77 < 85)) (by rw [hbb]; dsimp only; (try simp (discharger:=decide) only [eval_put_ne]); rw [Q0a (by simp only [size_put]; exact (by decide:77 < 85))]; assumption) ?_
       subst hbb;refine ⟨_,fun w=>?_,rfl⟩;go_simp
      case g38=>
       intro v w1 hx;(repeat intro (zq:v _ = _));intro bb hbb;refine Flow.Q0i (d:=82) rfl rfl (by rw [hbb]; simp only [size_put]; exact (by decide:82 < 85)) (by rw [hbb]; dsimp only; (try simp (discharger:=decide) only [eval_put_ne]); rw [Q0a (by simp only [size_put]; exact (by decide:82 < 85))]; assumption) ?_
       subst hbb;intro K hK;go_simp;refine Q0e (Q4o w1 (HWD.out.ext (hdr.trans hx))) ?_;rintro e w2 ⟨rfl,hx2⟩;exact ⟨_,rfl,hK _ _ hx2 rfl⟩
      case g40=>
       intro v w1 hx (q0:v 0 = _) _ (q2:v 2 = _) (q3:v 3 = _) (q4:v 4 = _) (q5:v 5 = _) (q6:v 6 = _) (q7:v 7 = _) (q8:v 8 = _) (q9:v 9 = _) (q10:v 10 = _) (q11:v 11 = _) (q12:v 12 = _) (q13:v 13 = _) (q14:v 14 = _) (q15:v 15 = _) (q16:v 16 = _) _ (q18:v 18 = _) (q19:v 19 = _) (q20:v 20 = _) (q21:v 21 = _) (q22:v 22 = _) (q23:v 23 = _) (q24:v 24 = _) (q25:v 25 = _) (q26:v 26 = _) (q27:v 27 = _) _ (q29:v 29 = _) (q30:v 30 = _) (q31:v 31 = _) (q32:v 32 = _) (q33:v 33 = _) (q34:v 34 = _) (q35:v 35 = _) (q36:v 36 = _) (q37:v 37 = _) (q38:v 38 = _) (q39:v 39 = _);intro bb hbb;subst hbb;refine ⟨_,fun w=>?_,rfl⟩;go_simp
     case post =>
      intro v w1 hx;(iterate 1 intro (zq:v _ = _));intro (q1:(fun v w'=>Q0h w' (v 1) s) v w1);(iterate 15 intro (zq:v _ = _));intro (q17:(fun v w'=>Q1c w' (v 17) PO) v w1);(iterate 10 intro (zq:v _ = _));intro (q28:(fun v w'=>Q1c w' (v 28) PC) v w1);(iterate 12 intro (zq:v _ = _));simp only [Flow.All,Flow.acts,Act.put];go_simp;have hxz:=HXA.out.trans (hdr.trans hx);clear hx hdr q1 q17 q28;(repeat clear zq);go_wp2;go_ret;exact ⟨rfl,hxz⟩
end Go.Proofs
