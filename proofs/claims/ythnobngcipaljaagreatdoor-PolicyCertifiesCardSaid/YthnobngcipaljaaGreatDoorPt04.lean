/- Contract: CheckCertificate. Contracts: slices.EqualFunc over groups, CheckRefusal. -/
import Derived.Test.YthnobngcipaljaaGreatDoorPp35
import Derived.Test.YthnobngcipaljaaGreatDoorPt01
import Derived.Test.YthnobngcipaljaaGreatDoorPt02
import Derived.Test.YthnobngcipaljaaGreatDoorPt03
set_option maxRecDepth 1000000
set_option maxHeartbeats 64000000
set_option linter.unusedVariables false
set_option linter.unusedSimpArgs false
set_option linter.constructorNameAsVariable false
open Go.Lib (hid)
namespace Go.Proofs
open Go.RowKit Go.Tw Go.Flow
attribute [local go_sem] Oper.semAt_some
theorem J9c (w:World) (x:Int) (g:Nat) (v:Value) (l:List Int) (hc:w.cell? ⟨g,0,none⟩=some v) (hv:Q0d w v l) :
    Calls Tryz.prog 139 #[.int .i64 x,.pointer (some ⟨g,0,none⟩)] w fun e w'=>e=.returned (.bool (!has l x)) /\ Ext w w':=by
 obtain ⟨X,c,rfl,-,-,-⟩:=hv.opened;have HV:=hid hv;obtain ⟨q,hq⟩:∃ z,has l x=z:=⟨_,rfl⟩;have HQ:=hid hq;rw [hq];obtain ⟨n,hn⟩:∃ z,l.length=z:=⟨_,rfl⟩;rw [hn] at hc HV;clear hv hq hn;go_enter Tryz.func139,Tryz.ntmps139;go_wp2_with fail;refine (J5l _ _ l x HV.out).mono ?_;rintro e w' ⟨rfl,rfl⟩;rw [HQ.out];go_wp2;go_ret;exact ⟨rfl,Ext.refl _⟩
theorem J9a (s:Q0b) (need:Int) (p:List Rul) (l:List Int):J2s s need p l=(if Q0g [s.err,Q0f need 0 8000]=0 then (if Q0g [Q2d s.hist p,J2l s l]=0 then Q0x (J2t s need p l) 22 else Q0g [Q2d s.hist p,J2l s l]) else Q0g [s.err,Q0f need 0 8000]):=by
 unfold J2s
 by_cases h0:s.err=0
 . rw [if_neg (fun h=>h h0),J2v h0]
   unfold J4k
   by_cases h1:Q0f need 0 8000=0
   . rw [if_pos h1]
     rw [show Q0g [Q0f need 0 8000,Q2d s.hist p,J2l s l,if J2t s need p l then 22 else 0]=Q0g [Q2d s.hist p,J2l s l,if J2t s need p l then 22 else 0] from by rw [Q0g,if_pos h1]]
     by_cases h2:Q2d s.hist p=0
     . rw [show Q0g [Q2d s.hist p,J2l s l,if J2t s need p l then 22 else 0]=Q0g [J2l s l,if J2t s need p l then 22 else 0] from by rw [Q0g,if_pos h2],J2v h2]
       by_cases h3:J2l s l=0
       . rw [J2v h3,if_pos h3]; rfl
       . rw [J3f h3,if_neg h3]
     . rw [show Q0g [Q2d s.hist p,J2l s l,if J2t s need p l then 22 else 0]=Q2d s.hist p from by rw [Q0g,if_neg h2],J3f h2,if_neg h2]
   . rw [if_neg h1,show Q0g [Q0f need 0 8000,Q2d s.hist p,J2l s l,if J2t s need p l then 22 else 0]=Q0f need 0 8000 from by rw [Q0g,if_neg h1]]
 . rw [if_pos h0,J3f h0,if_neg h0]
theorem J5k {w:World} {g:Nat} {T:TypeId} {a b:Value} (h:Blk w g T #[a,b]):Part w g 0 #[a]:=fun k hk=>by
 have:k=0:=by have:k < 1:=hk; omega
 subst this;exact h.cell 0
theorem Tryz.J8x (w:World):(sizeOf 22).run Tryz.prog w=.ok 1 w:=by kernel_rfl
theorem J2o (w:World) (v rv lv:Value) (s:Q0b) (need:Int) (p:List Rul) (l:List Int) (hv:Q0h w v s) (hr:Q3m w rv p) (hl:Q0d w lv l) (hs:Q3k s) (hp:p.length <= 1000) :
    Calls Tryz.prog 76 #[v,.int .i64 need,.agg #[rv,lv]] w fun e w'=>e=.returned (.int .i64 (J2s s need p l)) /\ Ext w w':=by
 obtain ⟨a,b,rfl,h2⟩:=hv;obtain ⟨A,capa,rfl,-,-,-⟩:=h2.ships.opened;obtain ⟨B,capb,rfl,-,-,-⟩:=h2.members.opened;obtain ⟨R,capr,rfl,-,-,-⟩:=hr.opened;obtain ⟨L,capl,rfl,-,-,-⟩:=hl.opened;have H2:=hid h2;have HR:=hid hr;have HL:=hid hl;have HS:=hid hs;have HPL:=hid hp;have HCE:=hid (J9a s need p l);obtain ⟨CE,hCE⟩:∃ z,J2s s need p l=z:=⟨_,rfl⟩;rw [hCE] at HCE ⊢;obtain ⟨N,hN⟩:∃ z,p.length=z:=⟨_,rfl⟩;obtain ⟨NL,hNL⟩:∃ z,l.length=z:=⟨_,rfl⟩;have HN:=hid hN;have HNL:=hid hNL;rw [hN] at HR ⊢;rw [hNL] at HL ⊢;obtain ⟨e0,he0⟩:∃ z,s.err=z:=⟨_,rfl⟩;obtain ⟨r0,hr0⟩:∃ z,Q0f need 0 8000=z:=⟨_,rfl⟩;obtain ⟨E1,hE1⟩:∃ z,Q0g [e0,r0]=z:=⟨_,rfl⟩;have HE0:=hid he0;have HR0:=hid hr0;have HE1:=hid hE1;rw [he0,hr0,hE1] at HCE;clear h2 hr hl hs hp hCE hN hNL he0 hr0 hE1;go_enter Tryz.func76,Tryz.ntmps76;go_wp2_with fail;change Calls _ _ _ ((w.alloc (.cells #[.int .i64 s.limit,.slice A s.ships.length capa,.slice B s.members.length capb] 34)).alloc (.cells #[.slice R N capr,.slice L NL capl] 124)) _;obtain ⟨W,hWW,k0,k1,HXW,eW⟩:=Q4e w 34 #[.int .i64 s.limit,.slice A s.ships.length capa,.slice B s.members.length capb] 124 #[.slice R N capr,.slice L NL capl];rw [hWW];clear hWW;obtain ⟨gs,hgs⟩:∃ x,w.heap.size=x:=⟨_,rfl⟩;have HGS:=hid hgs;rw [hgs] at k0 k1 eW ⊢;have K0:=hid k0;have K1:=hid k1;clear k0 k1 hgs;have HSE:Hid (∀ W',Ext W W' -> Q0h W' (.agg #[.int .i64 s.limit,.slice A s.ships.length capa,.slice B s.members.length capb]) s):=hid (fun W' hW=>⟨_,_,rfl,H2.out.ext (HXW.out.trans hW)⟩);have HPO:Hid (∀ W',Ext W W' -> Q0w W' (.agg #[.slice R N capr]) p):=hid (fun W' hW=>⟨_,rfl,HR.out.ext (HXW.out.trans hW)⟩);have HLI:Hid (∀ W',Ext W W' -> Q0d W' (.slice L NL capl) l):=hid (fun W' hW=>HL.out.ext (HXW.out.trans hW));refine (Q1u _ _ s (HSE.out _ (Ext.refl _)) HS.out).mono ?_;rintro e w5 ⟨rfl,hx5⟩;rw [HE0.out];have HX5:=hid hx5;clear hx5;go_wp2_with fail;refine (X0x _ need).mono ?_;rintro e w6 ⟨rfl,rfl⟩;rw [HR0.out];go_wp2_with fail;refine (first_any _ _ [e0,r0] (Q3q (by simp))).mono ?_
 rw [HE1.out];rintro e w7 ⟨rfl,rfl⟩;have HX7:=hid (HX5.out.trans (Ext.box w5 (.cells (List.map (Value.int .i64) [e0,r0]).toArray 29)));obtain ⟨w7,hw7⟩:∃ Z,w5.alloc (.cells (List.map (Value.int .i64) [e0,r0]).toArray 29)=Z:=⟨_,rfl⟩;rw [hw7] at HX7 ⊢;clear hw7
 by_cases hz:E1=0
 . obtain ⟨hz1,hz2⟩:=Q1r (HE1.out.trans hz)
   have HV:=hid (Q1b.of (HE0.out.trans hz1));have hne:(E1 != 0)=false:=by simp [hz]
   rw [if_pos hz] at HCE;obtain ⟨a1,ha1⟩:∃ z,Q2d s.hist p=z:=⟨_,rfl⟩;obtain ⟨a2,ha2⟩:∃ z,J2l s l=z:=⟨_,rfl⟩;obtain ⟨E2,hE2⟩:∃ z,Q0g [a1,a2]=z:=⟨_,rfl⟩;have HA1:=hid ha1;have HA2:=hid ha2;have HE2:=hid hE2;rw [ha1,ha2,hE2] at HCE;clear hz hz1 hz2 ha1 ha2 hE2;have hdr:=(Ext.refl w7).drew;go_wp2_with fail;refine Flow.Q1o [.w,.p,.w,.w,.w,.p,.w,.w,.w,.w,.p] [0,1,2,3,4,5,6,7,8,9,10] [[],[],[1],[0,2],[],[],[5],[3,4,6],[3,7],[7,8],[0,1,2,3,4,5,6,7,8,9]]
    [.c 0 (.agg #[.int .i64 s.limit,.slice A s.ships.length capa,.slice B s.members.length capb]),.c 1 (.pointer (some ⟨gs + 1,0,none⟩)),.c 2 (.agg #[.slice R N capr]),.c 3 (.int .i64 a1),.c 4 (.agg #[.int .i64 s.limit,.slice A s.ships.length capa,.slice B s.members.length capb]),.c 5 (.pointer (some ⟨gs + 1,1,none⟩)),.c 6 (.slice L NL capl),.c 7 (.int .i64 a2),⟨fun v wz=>(fun v w'=>Q0d w' (v 8) [a1,a2]) v wz,by intro v a b hx h; exact Q0d.ext h hx⟩,.c 9 (.int .i64 E2),.c 10 (.int .i64 E2)]
    (by kernel_rfl) rfl (by kernel_rfl) ⟨?g0,?g1,?g2,?g3,?g4,?g5,?g6,?g7,?g8,?g9,?g10,trivial⟩ ?post
   case g0 | g4=>
    intro v w1 hx;intro bb hbb;intro K hK;have o1:bb.eval (.tmp 3)=.pointer (some ⟨gs,0,none⟩):=by rw [hbb]; dsimp only; (try simp (discharger:=decide) only [eval_put_ne]); rfl
    exact Q0p (.tmp 3) _ rfl Tryz.X6u Tryz.Q9o o1 (K0.out.ext (HX7.out.trans (hdr.trans hx))) rfl (hK _ _ (Ext.refl _) rfl)
   case g1 | g5=>
    intro v w1 hx;intro bb hbb;subst hbb;refine ⟨_,fun w=>?_,rfl⟩;go_simp
   case g2=>
    intro v w1 hx;(repeat intro (zq:v _=_));intro bb hbb;intro K hK;have o1:bb.eval (.tmp 21)=.pointer (some ⟨gs + 1,0,none⟩):=by rw [hbb]; dsimp only; (try simp (discharger:=decide) only [eval_put_ne]); rw [Q0a (by simp only [size_put]; exact (by decide:21 < 53))]; assumption
    exact Q5q (.tmp 21) _ rfl Tryz.Q8b Tryz.Q4b o1 (J5k (K1.out.ext (HX7.out.trans (hdr.trans hx)))) rfl (hK _ _ (Ext.refl _) rfl)
   case g3=>
    intro v w1 hx;(repeat intro (zq:v _=_));intro bb hbb;subst hbb;intro K2 hK2;go_simp;refine Q0e (X6o w1 _ _ s p (HSE.out w1 (HX7.out.trans (hdr.trans hx))) (HPO.out w1 (HX7.out.trans (hdr.trans hx))) HV.out HPL.out) ?_;rintro e w2 ⟨rfl,hx2⟩;exact ⟨_,rfl,hK2 _ _ hx2 (congrArg (Value.int .i64) HA1.out)⟩
   case g6=>
    intro v w1 hx;(repeat intro (zq:v _=_));intro bb hbb;subst hbb;have n0:w1.cell? ⟨gs + 1,1,none⟩=some (.slice L NL capl):=(K1.out.ext (HX7.out.trans (hdr.trans hx))).cell 1;intro K hK;go_simp;exact hK _ _ (Ext.refl _) rfl
   case g7=>
    intro v w1 hx;(repeat intro (zq:v _=_));intro bb hbb;subst hbb;intro K2 hK2;go_simp;refine Q0e (J4q w1 _ _ s l (HSE.out w1 (HX7.out.trans (hdr.trans hx))) (HLI.out w1 (HX7.out.trans (hdr.trans hx)))) ?_;rintro e w2 ⟨rfl,hx2⟩;exact ⟨_,rfl,hK2 _ _ hx2 (congrArg (Value.int .i64) HA2.out)⟩
   case g8=>
    intro v w1 hx;(repeat intro (zq:v _=_));intro bb hbb;subst hbb;intro K hK;go_simp;exact hK _ _ (Ext.box _ _) (Q3q (l:=[a1,a2]) (by simp))
   case g9=>
    intro v w1 hx (q7:v 7=_) (q8:(fun v w'=>Q0d w' (v 8) [a1,a2]) v w1);intro bb hbb;subst hbb;intro K2 hK2;go_simp;refine Q0e (first_any w1 _ [a1,a2] q8) ?_;rintro e w2 ⟨rfl,rfl⟩;exact ⟨_,rfl,hK2 _ _ (Ext.refl _) (congrArg (Value.int .i64) HE2.out)⟩
   case g10=>
    intro v w1 hx (q0:v 0=_) (q1:v 1=_) (q2:v 2=_) (q3:v 3=_) (q4:v 4=_) (q5:v 5=_) (q6:v 6=_) (q7:v 7=_) _ (q9:v 9=_);intro bb hbb;subst hbb;refine ⟨_,fun w=>?_,rfl⟩;go_simp
   case post =>
    intro v w1 hx (q0:v 0=_) (q1:v 1=_) (q2:v 2=_) (q3:v 3=_) (q4:v 4=_) (q5:v 5=_) (q6:v 6=_);(iterate 1 intro (zq:v _=_));intro (q8:(fun v w'=>Q0d w' (v 8) [a1,a2]) v w1);(iterate 2 intro (zq:v _=_));simp only [Flow.All,Flow.acts,Act.put];go_simp;have HX8:=hid (HX7.out.trans (hdr.trans hx));obtain ⟨w8,rfl⟩:∃ Z,Z=w1:=⟨_,rfl⟩;clear hx hdr q0 q1 q2 q3 q4 q5 q6 q8;(repeat clear zq)
    by_cases hz:E2=0
    . obtain ⟨hz1,hz2⟩:=Q1r (HE2.out.trans hz)
      have HRE:=hid (HA1.out.trans hz1);have hmr:=J7k (HA2.out.trans hz2);have HM1:=hid hmr.1;have HM2:=hid hmr.2;have hne2:(E2 != 0)=false:=by simp [hz]
      rw [if_pos hz] at HCE;clear hz hz1 hz2 hmr;have hdr:=(Ext.refl w8).drew;go_wp2_with fail;refine Flow.Q4m [.w,.w,.p,.w,.w,.w,.w,.last] [0,1,2,3,4,5,6,7] [[],[],[],[2],[1,2,3],[0,1,2,3,4],[],[0,1,2,3,4,5,6]] [7]
       [.c 0 (.agg #[.int .i64 s.limit,.slice A s.ships.length capa,.slice B s.members.length capb]),.c 1 (.agg #[.int .i64 s.limit,.slice A s.ships.length capa,.slice B s.members.length capb]),.c 2 (.pointer (some ⟨gs + 1,0,none⟩)),.c 3 (.agg #[.slice R N capr]),⟨fun v wz=>(fun v w'=>Q3g w' (v 4) (Q2t s p)) v wz,by intro v a b hx h; exact Q3g.ext h hx⟩,⟨fun v wz=>(fun v w'=>Q0d w' (v 5) (Q3r s p)) v wz,by intro v a b hx h; exact Q0d.ext h hx⟩,⟨fun v wz=>(fun v w'=>∃ g,v 6=.pointer (some ⟨g,0,none⟩) /\ Blk w' g 22 #[.slice none 0 0] /\ w8.heap.size <= g) v wz,by rintro v a b hx ⟨g,h1,h2,h3⟩; exact ⟨g,h1,h2.ext hx,h3⟩⟩,.none]
       [fun v w1 w'=>∃ g X c,v 6=.pointer (some ⟨g,0,none⟩) /\ w'.cell? ⟨g,0,none⟩=some (.slice X (Q3r s p).length c) /\ Q0d w' (.slice X (Q3r s p).length c) (Q3r s p) /\ Ext w8 w'] (by kernel_rfl) rfl (by kernel_rfl) ⟨?g0,?g1,?g2,?g3,?g4,?g5,?g6,?g7,trivial⟩ ?post
      case g0 | g1=>
       intro v w1 hx;intro bb hbb;intro K hK;have o1:bb.eval (.tmp 3)=.pointer (some ⟨gs,0,none⟩):=by rw [hbb]; dsimp only; (try simp (discharger:=decide) only [eval_put_ne]); rfl
       exact Q0p (.tmp 3) _ rfl Tryz.X6u Tryz.Q9o o1 (K0.out.ext (HX8.out.trans (hdr.trans hx))) rfl (hK _ _ (Ext.refl _) rfl)
      case g2=>
       intro v w1 hx;intro bb hbb;subst hbb;refine ⟨_,fun w=>?_,rfl⟩;go_simp
      case g3=>
       intro v w1 hx;(repeat intro (zq:v _=_));intro bb hbb;intro K hK;have o1:bb.eval (.tmp 35)=.pointer (some ⟨gs + 1,0,none⟩):=by rw [hbb]; dsimp only; (try simp (discharger:=decide) only [eval_put_ne]); rw [Q0a (by simp only [size_put]; exact (by decide:35 < 53))]; assumption
       exact Q5q (.tmp 35) _ rfl Tryz.Q8b Tryz.Q4b o1 (J5k (K1.out.ext (HX8.out.trans (hdr.trans hx)))) rfl (hK _ _ (Ext.refl _) rfl)
      case g4=>
       intro v w1 hx;(repeat intro (zq:v _=_));intro bb hbb;subst hbb;intro K2 hK2;go_simp;refine Q0e (Q6a w1 _ _ s p (HSE.out w1 (HX8.out.trans (hdr.trans hx))) (HPO.out w1 (HX8.out.trans (hdr.trans hx))) HV.out HRE.out) ?_;rintro e w2 ⟨u,rfl,hu,hx2⟩;exact ⟨_,rfl,hK2 _ _ hx2 hu⟩
      case g5=>
       intro v w1 hx (q0:v 0=_) (q1:v 1=_) (q2:v 2=_) (q3:v 3=_) (q4:(fun v w'=>Q3g w' (v 4) (Q2t s p)) v w1);intro bb hbb;subst hbb;intro K2 hK2;go_simp;refine Q0e (Z5i w1 _ _ s p (HSE.out w1 (HX8.out.trans (hdr.trans hx))) q4 HV.out) ?_;rintro e w2 ⟨u,rfl,hu,hx2⟩;exact ⟨_,rfl,hK2 _ _ hx2 hu⟩
      case g6=>
       intro v w1 hx;intro bb hbb;subst hbb;intro K hK;go_simp;exact hK _ _ (Ext.box _ _) ⟨_,rfl,Blk.made _ _ _,(hdr.trans hx).size⟩
      case g7=>
       intro v w1 hx (q0:v 0=_) (q1:v 1=_) (q2:v 2=_) (q3:v 3=_) _ (q5:(fun v w'=>Q0d w' (v 5) (Q3r s p)) v w1) (q6:(fun v w'=>∃ g,v 6=.pointer (some ⟨g,0,none⟩) /\ Blk w' g 22 #[.slice none 0 0] /\ w8.heap.size <= g) v w1);intro wl hT;obtain rfl:wl=w1:=hT;intro bb hbb;intro K hK;obtain ⟨g,e6,h6,h6s⟩:=q6;obtain ⟨X,c,h5,-,-,-⟩:=q5.opened;have o1:bb.eval (.tmp 9)=.pointer (some ⟨g,0,none⟩):=by rw [hbb]; dsimp only; (try simp (discharger:=decide) only [eval_put_ne]); rw [Q0a (by simp only [size_put]; exact (by decide:9 < 53))]; exact e6
       have o2:bb.eval (.tmp 38)=.slice X (Q3r s p).length c:=by rw [hbb]; dsimp only; (try simp (discharger:=decide) only [eval_put_ne]); rw [Q0a (by simp only [size_put]; exact (by decide:38 < 53))]; exact h5
       have h5i:=q5;rw [h5] at h5i;exact Q3y _ _ rfl Tryz.J8x (g:=g) (k:=0) o1 o2 rfl rfl h6 (by show 0 < 1; omega) (fun v'=>hK _ _ ⟨g,X,c,e6,(h6.set 0 _).cell 0,Z2z h5i h6 (fun k _ hk=>Below.heap_setCell _ _ _ _ hk),Below.setCell (hdr.trans hx) (show w8.heap.size <= g from h6s) _⟩)
      case post =>
       intro v w1 hx;(iterate 4 intro (zq:v _=_));intro (q4:(fun v w'=>Q3g w' (v 4) (Q2t s p)) v w1) (q5:(fun v w'=>Q0d w' (v 5) (Q3r s p)) v w1) (q6:(fun v w'=>∃ g,v 6=.pointer (some ⟨g,0,none⟩) /\ Blk w' g 22 #[.slice none 0 0] /\ w8.heap.size <= g) v w1);intro w2 hE;replace hE:(fun v w1 w'=>∃ g X c,v 6=.pointer (some ⟨g,0,none⟩) /\ w'.cell? ⟨g,0,none⟩=some (.slice X (Q3r s p).length c) /\ Q0d w' (.slice X (Q3r s p).length c) (Q3r s p) /\ Ext w8 w') v w1 w2:=hE;simp only [Flow.acts,Act.put];go_simp;obtain ⟨gk,Xk,ck,e6,hck,hik,hxz⟩:=hE;obtain ⟨nk,hnk⟩:∃ z,(Q3r s p).length=z:=⟨_,rfl⟩;rw [hnk] at hck hik
       (try rw [e6])
       obtain ⟨w9,rfl⟩:∃ Z,Z=w2:=⟨_,rfl⟩;have HX9:=hid (HX8.out.trans hxz);have HCK:=hid hck;have HIK:=hid hik;have HIN:Hid (∀ (W:World) (x:Int),Ext w9 W -> x ∈ l -> Calls Tryz.prog 139 #[.int .i64 x,.pointer (some ⟨gk,0,none⟩)] W fun e W'=>e=.returned (.bool (!has (Q3r s p) x)) /\ Ext W W'):=hid (fun W x hW _=>J9c W x gk _ _ (hW.cell HCK.out) (HIK.out.ext hW));have HPB:Hid (J2t s need p l=(l.any (fun x=>!has (Q3r s p) x) || decide (Q2c s l < need))):=hid rfl
       obtain ⟨lost,hlost⟩:∃ z,(l.any fun x=>!has (Q3r s p) x)=z:=⟨_,rfl⟩
       have HLO:=hid hlost;rw [hlost] at HPB;obtain ⟨wt,hwt⟩:∃ z,Q2c s l=z:=⟨_,rfl⟩;have HWT:=hid hwt;rw [hwt] at HPB;have d1:=(K1.out.ext HX9.out).cell 1;simp only [Go.Tw.gA,Go.Tw.gB,Go.Tw.gC] at d1;clear hx hdr hxz hck hik e6 hnk hlost hwt q4 q5 q6;(repeat clear zq);go_wp2_with fail;refine (X6s _ _ l 139 _ _ (HLI.out _ HX9.out) (enters_of Tryz.func139 (by kernel_rfl) rfl) HIN.out).mono ?_
       rintro e wa ⟨rfl,hxa⟩;rw [HLO.out];have HXA:=hid (HX9.out.trans hxa);clear hxa d1;cases lost with
       | true =>
         have HF:Hid (Q0x true 22=CE):=hid (by rw [HCE.out,HPB.out]; rfl)
         go_wp2_with fail;refine (Q6f _ true 22).mono ?_;rintro e wb ⟨rfl,rfl⟩;rw [HF.out];go_wp2;go_ret;exact ⟨rfl,HXW.out.trans HXA.out⟩
       | false =>
         have c0:=(K0.out.ext HXA.out).cell 0;have c1:=(K0.out.ext HXA.out).cell 1;have c2:=(K0.out.ext HXA.out).cell 2;have d1:=(K1.out.ext HXA.out).cell 1;simp only [Go.Tw.gA,Go.Tw.gB,Go.Tw.gC] at c0 c1 c2 d1;go_wp2_with fail;refine (Y1q _ _ _ s l (HSE.out _ HXA.out) (HLI.out _ HXA.out) HV.out HM1.out (by have:=HM2.out; omega)).mono ?_
         rintro e wb ⟨rfl,hxb⟩;rw [HWT.out];have HXB:=hid (HXA.out.trans hxb);clear c0 c1 c2 d1 hxb
         by_cases hn:wt < need
         . have hnd:decide (wt < need)=true:=decide_eq_true hn
           have HF:Hid (Q0x true 22=CE):=hid (by rw [HCE.out,HPB.out,hnd]; rfl)
           go_wp2_with fail;refine (Q6f _ true 22).mono ?_;rintro e wc ⟨rfl,rfl⟩;rw [HF.out];go_wp2;go_ret;exact ⟨rfl,HXW.out.trans HXB.out⟩
         . have hnd:decide (wt < need)=false:=decide_eq_false hn
           have HF:Hid (Q0x false 22=CE):=hid (by rw [HCE.out,HPB.out,hnd]; rfl)
           go_wp2_with fail;refine (Q6f _ false 22).mono ?_;rintro e wc ⟨rfl,rfl⟩;rw [HF.out];go_wp2;go_ret;exact ⟨rfl,HXW.out.trans HXB.out⟩
    . have hne2:(E2 != 0)=true:=by simp [hz]
      rw [if_neg hz] at HCE;clear hz;go_wp2;go_ret;exact ⟨by rw [HCE.out] <;> rfl,HXW.out.trans HX8.out⟩
 . have hne:(E1 != 0)=true:=by simp [hz]
   rw [if_neg hz] at HCE;clear hz;go_wp2;go_ret;exact ⟨by rw [HCE.out] <;> rfl,HXW.out.trans HX7.out⟩
end Go.Proofs
namespace Go.Proofs
open Go.RowKit Go.Tw Go.Flow
attribute [local go_sem] Oper.semAt_some
theorem J9g (w:World) (u v:Value) (a b:List Int) (x y:Int) (hu:Q0d w u a) (hv:Q0d w v b) :
    Calls Tryz.prog 142 #[.agg #[u,.int .i64 x],.agg #[v,.int .i64 y]] w fun e w'=>e=.returned (.bool (decide ((a,x)=(b,y)))) /\ Ext w w':=by
 obtain ⟨X,c,rfl,-,-,-⟩:=hu.opened;obtain ⟨Y,d,rfl,-,-,-⟩:=hv.opened;have HU:=hid hu;have HV:=hid hv;obtain ⟨n,hn⟩:∃ z,a.length=z:=⟨_,rfl⟩;obtain ⟨m,hm⟩:∃ z,b.length=z:=⟨_,rfl⟩;rw [hn] at HU ⊢;rw [hm] at HV ⊢;clear hu hv hn hm
 by_cases hxy:x=y
 . subst hxy
   have hb:(x == x)=true:=by simp
   have HR:Hid (decide ((a,x)=(b,x))=decide (a=b)):=hid (by simp)
   go_enter Tryz.func142,Tryz.ntmps142;go_wp2_with fail;change Calls _ _ _ ((w.alloc (.cells #[.slice X n c,.int .i64 x] 64)).alloc (.cells #[.slice Y m d,.int .i64 x] 64)) _;obtain ⟨W,hWW,k0,k1,HXW,eW⟩:=Q4e w 64 #[.slice X n c,.int .i64 x] 64 #[.slice Y m d,.int .i64 x];rw [hWW];clear hWW;clear k0 k1;refine (Z0i _ _ _ a b (HU.out.ext HXW.out) (HV.out.ext HXW.out)).mono ?_;rintro e w' ⟨rfl,hx⟩;rw [<- HR.out];obtain ⟨q,hq⟩:∃ z,decide ((a,x)=(b,x))=z:=⟨_,rfl⟩;rw [hq];have HX:=hid (HXW.out.trans hx);have HQ:=hid hq;clear hx hq HXW eW;go_wp2;go_ret;exact ⟨by rw [HQ.out] <;> rfl,HX.out⟩
 . have hb:(x == y)=false:=by simp [hxy]
   have HR:Hid (decide ((a,x)=(b,y))=false):=hid (by simp [hxy])
   rw [HR.out];go_enter Tryz.func142,Tryz.ntmps142;go_wp2;go_ret;exact ⟨rfl,(Ext.box _ _).trans (Ext.box _ _)⟩
theorem J5u (w:World) (u v:Value) (p q:List Grp) (hu:Q4j w u p) (hv:Q4j w v q) :
    Calls Tryz.prog 144 #[u,v,.func (.func 142) #[] #[]] w fun e w'=>e=.returned (.bool (X4d p q)) /\ Ext w w':=by
 obtain ⟨A,ca,rfl,hla,-,hc⟩:=hu.opened;obtain ⟨B,cb,rfl,hlb,-,hd⟩:=hv.opened;have HC:=hid hc;have HD:=hid hd;obtain ⟨n,hn⟩:∃ n,p.length=n:=⟨_,rfl⟩;obtain ⟨m,hm⟩:∃ n,q.length=n:=⟨_,rfl⟩;have HN:=hid hn;have HM:=hid hm;rw [hn] at hla HC ⊢;rw [hm] at hlb HD ⊢;clear hu hv hc hd hn hm;go_enter Tryz.func144,Tryz.ntmps144
 by_cases hnm:n=m
 . have hI:((n:Int) != (m:Int))=false:=by simp [hnm]
   subst hnm;go_wp2_with fail
   go_loopw [17] (fun i wr=>∃ k:Nat,k <= n /\ i=.int .i64 k /\ (∀ j,j < k -> Z6j (p.getD j default)=Z6j (q.getD j default)) /\ Ext w wr) (fun i _=>n - (intOf i).toNat)
   case atStart=>exact ⟨0,Nat.zero_le _,rfl,fun j h=>absurd h (Nat.not_lt_zero _),Ext.refl _⟩
   case round =>
    obtain ⟨k,hk,rfl,heq,hxr⟩:=hrel;have HEQ:=hid heq
    by_cases hlt:k < n
    . have hkI:(k:Int) < n:=by omega
      obtain ⟨b1,o1,x,rfl,-,e0,e1,hi1⟩:=HC.out k hlt;obtain ⟨b2,o2,y,rfl,-,f0,f1,hi2⟩:=HD.out k hlt;replace e0:=hxr.cell e0;replace e1:=hxr.cell e1;obtain ⟨X,capx,rfl,-,-,-⟩:=hi1.opened;obtain ⟨Y,capy,rfl,-,-,-⟩:=hi2.opened;have hkp:k < p.length:=by rw [HN.out]; exact hlt
      have hkq:k < q.length:=by rw [HM.out]; exact hlt
      have HNE:=hid (fun h=>Y2g (f:=Z6j) hkp hkq h);have hpj:∀ (z:List Grp) j,Z6j (z.getD j default)=(Q5i z j,Q8d z j):=fun z j=>rfl;rw [hpj,hpj] at HNE;have HPJ:=hid hpj;obtain ⟨cp,hcp⟩:∃ c,Q5i p k=c:=⟨_,rfl⟩;obtain ⟨cq,hcq⟩:∃ c,Q5i q k=c:=⟨_,rfl⟩;obtain ⟨sp,hsp⟩:∃ c,Q8d p k=c:=⟨_,rfl⟩;obtain ⟨sq,hsq⟩:∃ c,Q8d q k=c:=⟨_,rfl⟩;rw [hcp,hcq,hsp,hsq] at HNE;rw [hcp] at e0 hi1;rw [hcq] at f0 hi2;rw [hsp] at e1;rw [hsq] at f1;have HCP:=hid hcp;have HCQ:=hid hcq;have HSP:=hid hsp;have HSQ:=hid hsq;obtain ⟨na,hna⟩:∃ z,cp.length=z:=⟨_,rfl⟩;obtain ⟨nb,hnb⟩:∃ z,cq.length=z:=⟨_,rfl⟩;rw [hna] at e0 hi1;rw [hnb] at f0 hi2;have hbx:=Ext.box wr (.cells #[.slice X na capx,.int .i64 sp] 64);have hf0:=(hxr.trans hbx).cell f0;have hf1:=(hxr.trans hbx).cell f1;obtain ⟨wq,rfl⟩:∃ Z,Z=wr:=⟨_,rfl⟩;have hbk:=Blk.made wq 64 #[.slice X na capx,.int .i64 sp];have hbx2:=Ext.box (wq.alloc (.cells #[.slice X na capx,.int .i64 sp] 64)) (.cells #[.slice Y nb capy,.int .i64 sq] 64);have c0:=(hbk.ext hbx2).cell 0;have c1:=(hbk.ext hbx2).cell 1;have hbk2:=Blk.made (wq.alloc (.cells #[.slice X na capx,.int .i64 sp] 64)) 64 #[.slice Y nb capy,.int .i64 sq];have d0:=hbk2.cell 0;have d1:=hbk2.cell 1;simp only [Go.Tw.gA,Go.Tw.gB,Go.Tw.gC] at c0 c1 d0 d1;have HX2:=hid (hxr.trans (hbx.trans hbx2));have HI1:=hid (hi1.ext HX2.out);have HI2:=hid (hi2.ext HX2.out);obtain ⟨d,hd⟩:∃ z,decide ((cp,sp)=(cq,sq))=z:=⟨_,rfl⟩;have HDD:=hid hd;clear heq hxr hi1 hi2 hcp hcq hsp hsq hpj hkp hkq f0 f1 hd hna hnb hbx hbx2 hbk hbk2;go_wp2_with fail;refine (J9g _ _ _ cp cq sp sq HI1.out HI2.out).mono ?_;rintro e w5 ⟨rfl,hx5⟩;rw [HDD.out];have HX5:=hid (HX2.out.trans hx5);clear c0 c1 d0 d1 e0 e1 hf0 hf1 hx5;cases d with
      | true =>
        go_wp2;go_roundw
        case rel=>exact ⟨k + 1,by omega,by go_num,(fun j hj=>by
         by_cases h:j < k
         . exact HEQ.out j h
         . obtain rfl:j=k:=by omega
           rw [HPJ.out,HPJ.out,HCP.out,HCQ.out,HSP.out,HSQ.out];exact of_decide_eq_true HDD.out),HX5.out⟩
        case measure=>simp [intOf]; omega
      | false =>
        have HR:Hid (X4d p q=false):=hid (decide_eq_false (HNE.out (of_decide_eq_false HDD.out)));go_wp2;go_ret;exact ⟨by rw [HR.out]; rfl,HX5.out⟩
    . have hkI:¬ (k:Int) < n:=by omega
      have hkn:k=n:=by omega
      have hr:X4d p q=true:=decide_eq_true (Y1o (by rw [HN.out,HM.out]) (by rw [HN.out,<- hkn]; exact heq))
      have HR:=hid hr;clear heq hr;go_wp2;go_ret;exact ⟨by rw [HR.out]; rfl,hxr⟩
 . have hI:((n:Int) != (m:Int))=true:=by simp; omega
   have hr:X4d p q=false:=decide_eq_false fun h=>hnm (by have:=congrArg List.length h; simpa [HN.out,HM.out] using this)
   have HR:=hid hr;clear hnm hr;go_wp2;go_ret;exact ⟨by rw [HR.out]; rfl,Ext.refl _⟩
theorem J7g (s:Q0b) (need:Int) (l:List Grp):J2m s need l=(if Q0g [s.err,Q0f need 0 8000]=0 then Q0x (!X4d l (Q5b s) || decide (need <= Y7i s)) 22 else Q0g [s.err,Q0f need 0 8000]):=by
 unfold J2m
 by_cases h0:s.err=0
 . rw [if_neg (fun h=>h h0),J2v h0]
   by_cases h1:Q0f need 0 8000=0
   . rw [if_neg (fun h=>h h1),if_pos h1]
     unfold Q0x X4d;have e:(l.map fun g=>(g.members,g.weight))=l.map Z6j:=rfl;have e2:((Q5b s).map fun g=>(g.members,g.weight))=(Q5b s).map Z6j:=rfl;rw [e,e2]
     by_cases h2:l.map Z6j=(Q5b s).map Z6j <;> by_cases h3:need <= Y7i s <;> simp [h2,h3]
   . rw [if_pos h1,if_neg h1]
     unfold Q0f at h1 ⊢
     split at h1
     . rename_i h; rw [if_pos h]
     . exact absurd rfl h1
 . rw [if_pos h0,J3f h0,if_neg h0]
theorem J2p (w:World) (v u:Value) (s:Q0b) (need:Int) (l:List Grp) (hv:Q0h w v s) (hu:Q4j w u l) (hs:Q3k s) :
    Calls Tryz.prog 78 #[v,.int .i64 need,u] w fun e w'=>e=.returned (.int .i64 (J2m s need l)) /\ Ext w w':=by
 obtain ⟨a,b,rfl,h2⟩:=hv;obtain ⟨A,capa,rfl,-,-,-⟩:=h2.ships.opened;obtain ⟨B,capb,rfl,-,-,-⟩:=h2.members.opened;obtain ⟨L,capl,rfl,-,-,-⟩:=hu.opened;have H2:=hid h2;have HL:=hid hu;have HS:=hid hs;have HCE:=hid (J7g s need l);obtain ⟨CE,hCE⟩:∃ z,J2m s need l=z:=⟨_,rfl⟩;rw [hCE] at HCE ⊢;obtain ⟨NL,hNL⟩:∃ z,l.length=z:=⟨_,rfl⟩;rw [hNL] at HL ⊢;obtain ⟨e0,he0⟩:∃ z,s.err=z:=⟨_,rfl⟩;obtain ⟨r0,hr0⟩:∃ z,Q0f need 0 8000=z:=⟨_,rfl⟩;obtain ⟨E1,hE1⟩:∃ z,Q0g [e0,r0]=z:=⟨_,rfl⟩;have HE0:=hid he0;have HR0:=hid hr0;have HE1:=hid hE1;rw [he0,hr0,hE1] at HCE;clear h2 hu hs hCE hNL he0 hr0 hE1;go_enter Tryz.func78,Tryz.ntmps78;go_wp2_with fail;change Calls _ _ _ (w.alloc (.cells #[.int .i64 s.limit,.slice A s.ships.length capa,.slice B s.members.length capb] 34)) _;obtain ⟨W,hWW,k0,HXW,eW⟩:=Q1t w 34 #[.int .i64 s.limit,.slice A s.ships.length capa,.slice B s.members.length capb];rw [hWW];clear hWW;have HSE:Hid (∀ W',Ext W W' -> Q0h W' (.agg #[.int .i64 s.limit,.slice A s.ships.length capa,.slice B s.members.length capb]) s):=hid (fun W' hW=>⟨_,_,rfl,H2.out.ext (HXW.out.trans hW)⟩);have K0:=hid k0;clear k0;refine (Q1u _ _ s (HSE.out _ (Ext.refl _)) HS.out).mono ?_;rintro e w5 ⟨rfl,hx5⟩;rw [HE0.out];have HX5:=hid hx5;clear hx5;go_wp2_with fail;refine (X0x _ need).mono ?_;rintro e w6 ⟨rfl,rfl⟩;rw [HR0.out];go_wp2_with fail;refine (first_any _ _ [e0,r0] (Q3q (by simp))).mono ?_
 rw [HE1.out];rintro e w7 ⟨rfl,rfl⟩;have HX7:=hid (HX5.out.trans (Ext.box w5 (.cells (List.map (Value.int .i64) [e0,r0]).toArray 29)));obtain ⟨w7,hw7⟩:∃ Z,w5.alloc (.cells (List.map (Value.int .i64) [e0,r0]).toArray 29)=Z:=⟨_,rfl⟩;rw [hw7] at HX7 ⊢;clear hw7
 by_cases hz:E1=0
 . obtain ⟨hz1,hz2⟩:=Q1r (HE1.out.trans hz)
   have HV:=hid (Q1b.of (HE0.out.trans hz1));have hne:(E1 != 0)=false:=by simp [hz]
   rw [if_pos hz] at HCE;have c0:=(K0.out.ext HX7.out).cell 0;have c1:=(K0.out.ext HX7.out).cell 1;have c2:=(K0.out.ext HX7.out).cell 2;simp only [Go.Tw.gA,Go.Tw.gB,Go.Tw.gC] at c0 c1 c2;clear hz hz1 hz2;go_wp2_with fail;refine (Y4t _ _ s (HSE.out _ HX7.out) HV.out).mono ?_;rintro e w8 ⟨xg,rfl,hg,hx8⟩;obtain ⟨Xg,cg,rfl,-,-,-⟩:=hg.opened;obtain ⟨ng,hng⟩:∃ z,(Q5b s).length=z:=⟨_,rfl⟩;rw [hng] at hg ⊢;have HG:=hid hg;have HX8:=hid (HX7.out.trans hx8);obtain ⟨bs,hbs⟩:∃ z,Y7i s=z:=⟨_,rfl⟩;rw [hbs] at HCE ⊢;clear c0 c1 c2 hg hx8 hng hbs;go_wp2_with fail;refine (J5u _ _ _ l (Q5b s) (HL.out.ext (HXW.out.trans HX8.out)) HG.out).mono ?_;rintro e w9 ⟨rfl,hx9⟩;have HX9:=hid (HX8.out.trans hx9);obtain ⟨sg,hsg⟩:∃ z,X4d l (Q5b s)=z:=⟨_,rfl⟩;rw [hsg] at HCE ⊢;clear hsg hx9;cases sg with
   | false =>
     have HF:Hid (Q0x true 22=CE):=hid (by rw [HCE.out]; rfl)
     go_wp2_with fail;refine (Q6f _ true 22).mono ?_;rintro e wb ⟨rfl,rfl⟩;rw [HF.out];go_wp2;go_ret;exact ⟨rfl,HXW.out.trans HX9.out⟩
   | true =>
     by_cases hn:need <= bs
     . have hnd:decide (need <= bs)=true:=decide_eq_true hn
       have HF:Hid (Q0x true 22=CE):=hid (by rw [HCE.out,hnd]; rfl)
       go_wp2_with fail;refine (Q6f _ true 22).mono ?_;rintro e wb ⟨rfl,rfl⟩;rw [HF.out];go_wp2;go_ret;exact ⟨rfl,HXW.out.trans HX9.out⟩
     . have hnd:decide (need <= bs)=false:=decide_eq_false hn
       have HF:Hid (Q0x false 22=CE):=hid (by rw [HCE.out,hnd]; rfl)
       go_wp2_with fail;refine (Q6f _ false 22).mono ?_;rintro e wb ⟨rfl,rfl⟩;rw [HF.out];go_wp2;go_ret;exact ⟨rfl,HXW.out.trans HX9.out⟩
 . have hne:(E1 != 0)=true:=by simp [hz]
   rw [if_neg hz] at HCE;clear hz;go_wp2;go_ret;exact ⟨by rw [HCE.out] <;> rfl,HXW.out.trans HX7.out⟩
end Go.Proofs
