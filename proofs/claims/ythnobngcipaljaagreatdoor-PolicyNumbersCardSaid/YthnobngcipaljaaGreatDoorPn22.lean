/- Contracts: slices.Equal; checkRules, CheckPolicy. Contract of the law's own function: told. Contract: the function literal of groups (have two members the same classes?). Ranges over functions inside a loop: the marks that they leave among the deferred calls; a loop whose invariant names them and counts up in a slot. Contract: groups (of the program): the groups of a valid season and the sum of their weights. Contract of the law's own function: groups. -/
import Derived.Test.YthnobngcipaljaaGreatDoorPn21
import Derived.Test.YthnobngcipaljaaGreatDoorPn09
import Derived.OwnWalk
import Derived.Test.YthnobngcipaljaaGreatDoorPn13
import Derived.Test.YthnobngcipaljaaGreatDoorPn11
import Derived.Scope
import Derived.WalkMore
import Derived.Test.YthnobngcipaljaaGreatDoorPn07
import Derived.Test.YthnobngcipaljaaGreatDoorPn10
set_option maxRecDepth 1000000
set_option maxHeartbeats 64000000
set_option linter.unusedVariables false
set_option linter.unusedSimpArgs false
set_option linter.constructorNameAsVariable false
open Go.Lib (hid)
namespace Go.Proofs
open Go.RowKit Go.Tw Go.Flow
attribute [local go_sem] Oper.semAt_some
theorem Z5a (w:World) (u v:Value) (a b:List Int) (hu:Q0e w u a) (hv:Q0e w v b) :
    Calls Tryz.prog 175 #[u,v] w fun e w'=>e=.returned (.bool (decide (a=b))) /\ Ext w w':=by
 obtain ⟨A,capa,rfl,hla,hcapa,hca⟩:=hu.opened;obtain ⟨B,capb,rfl,hlb,hcapb,hcb⟩:=hv.opened;clear hu hv;go_enter Tryz.func175,Tryz.ntmps175
 by_cases hl:a.length=b.length
 . have hne:((a.length:Int) != (b.length:Int))=false:=by simp [hl]
   go_wp2
   go_loopw [13] (fun i wr=>∃ k:Nat,k <= a.length /\ i=.int .i64 k /\ decide (a.drop k=b.drop k)=decide (a=b) /\ Ext w wr) (fun i _=>a.length - (intOf i).toNat)
   case atStart=>exact ⟨0,Nat.zero_le _,rfl,rfl,Ext.refl _⟩
   case round =>
    obtain ⟨k,hk,rfl,hr,hx⟩:=hrel;have HR:=hid hr; clear hr
    by_cases hlt:k < a.length
    . have hlt2:k < b.length:=by omega
      obtain ⟨b1,off1,rfl,hc1⟩:=hca k hlt;obtain ⟨b2,off2,rfl,hc2⟩:=hcb k hlt2;replace hc1:=hx.cell hc1;replace hc2:=hx.cell hc2;have HD1:=hid (Q3d hlt);have HD2:=hid (Q3d hlt2);clear hca hcb
      by_cases h0:ix a k=ix b k
      . have hx1:(ix a k != ix b k)=false:=by simp [h0]
        have H0:=hid h0; clear h0;go_wp2
        go_quiet (fail)
        all_goals go_wp2
        go_roundw
        case rel=>exact ⟨k + 1,by omega,by go_num,by rw [<- HR.out,HD1.out,HD2.out,X0f H0.out],hx.drewN _⟩
        case measure=>simp [intOf]; omega
      . have hx1:(ix a k != ix b k)=true:=by simp [h0]
        have H0:=hid h0; clear h0;go_wp2
        go_quiet (fail)
        all_goals go_wp2
        go_ret;exact ⟨Q0w (by rw [<- HR.out,HD1.out,HD2.out,Q9t H0.out]),hx.drewN _⟩
    . clear hca hcb
      go_wp2;go_ret;exact ⟨Q0w (by rw [<- HR.out,List.drop_eq_nil_of_le (by omega),List.drop_eq_nil_of_le (by omega)]; rfl),hx⟩
 . have hne:((a.length:Int) != (b.length:Int))=true:=by simp; omega
   have HL:Hid (decide (a=b)=false):=hid (decide_eq_false (fun h=>hl (by rw [h])))
   clear hl hca hcb;go_wp2;go_ret;exact ⟨Q0w (by rw [HL.out]),Ext.refl _⟩
theorem Tryz.Q9h (w:World):(isAgg 38).run Tryz.prog w=.ok true w:=by kernel_rfl
theorem Tryz.Q5e (w:World):(sizeOf 38).run Tryz.prog w=.ok 1 w:=by kernel_rfl
theorem Y8f {h:List (List Int)} {p:List Rul} (hl:¬ p.length=h.length):Q1c h p=2:=if_pos hl
theorem Y9u {h:List (List Int)} {p:List Rul} (hl:p.length=h.length) {k:Nat} (hk:k < p.length) (hne:¬ Q0n p k=h.getD k []):Q1c h p=11:=by
 unfold Q1c;rw [if_neg (fun hn=>hn hl),if_pos];intro e
 apply hne
 rw [<- e];unfold Q0n;rw [Q0t _ hk]; simp [hk]
theorem Y6v {h:List (List Int)} {p:List Rul} (hl:p.length=h.length) (ha:∀ j,j < p.length -> Q0n p j=h.getD j []):Q1c h p=0:=by
 rw [Q2l]
 apply List.ext_getElem
 . simp [hl]
 . intro i h1 h2
   have hi:i < p.length:=by simpa using h1
   have:=ha i hi;unfold Q0n at this;rw [Q0t _ hi] at this;simp only [List.getElem_map];rw [this]; simp [h2]
theorem Y1r (w:World) (v u:Value) (s:Q0b) (p:List Rul) (hv:Q0f w v s) (hu:Q0j w u p) (hS:Q0u s) (hp:p.length <= 1000) :
    Calls Tryz.prog 132 #[v,u] w fun e w'=>e=.returned (.int .i64 (Q1c s.hist p)) /\ Ext w w':=by
 obtain ⟨a,b,rfl,h2⟩:=hv;obtain ⟨rv,rfl,hr⟩:=hu;obtain ⟨A,capa,rfl,-,-,-⟩:=h2.ships.opened;obtain ⟨B,capb,rfl,-,-,-⟩:=h2.members.opened;obtain ⟨R,capr,rfl,-,-,hcr⟩:=hr.opened;have HCR:=hid hcr;have HHI:Hid (∀ w',Ext w w' -> Calls Tryz.prog 99 #[.agg #[.int .i64 s.limit,.slice A s.ships.length capa,.slice B s.members.length capb]] w' fun e w''=>∃ x,e=.returned x /\ Q3q w'' x s.hist /\ Ext w' w''):=hid (fun w' hx=>Q8o w' _ s ⟨_,_,rfl,h2.ext hx⟩ hS);have hhl:=X2v hS;obtain ⟨h,hh⟩:∃ x,s.hist=x:=⟨_,rfl⟩;rw [hh] at HHI hhl ⊢;have HRL:=hid (Y8f (h:=h) (p:=p));have HRA:Hid (p.length=h.length -> ∀ k,k < p.length -> ¬ Q0n p k=h.getD k [] -> Q1c h p=11):=hid (fun hl k hk hn=>Y9u hl hk hn);have HRZ:=hid (Y6v (h:=h) (p:=p));clear h2 hS hr hcr hh;go_enter Tryz.func132,Tryz.ntmps132;go_wp2_with fail;change Calls _ _ _ ((w.alloc (.cells #[.int .i64 s.limit,.slice A s.ships.length capa,.slice B s.members.length capb] 34)).alloc (.cells #[.slice R p.length capr] 38)) _;obtain ⟨W,hWW,k0,k1,HXW,eW⟩:=Q2t w 34 #[.int .i64 s.limit,.slice A s.ships.length capa,.slice B s.members.length capb] 38 #[.slice R p.length capr];rw [hWW];clear hWW;have K0:=hid k0;have K1:=hid k1;obtain ⟨gs,hgs⟩:∃ x,w.heap.size=x:=⟨_,rfl⟩;rw [hgs] at K0 K1 eW ⊢;clear k0 k1;refine (HHI.out W HXW.out).mono ?_;rintro e w5 ⟨x,rfl,hx,hx5⟩;obtain ⟨H,caph,rfl,-,-,hch⟩:=hx.opened;have c1:=(K1.out.ext hx5).cell 0;simp only [Go.Tw.gA,Go.Tw.gB] at c1;have HCH:=hid hch;have HX5:=hid (HXW.out.trans hx5);have HK5:=hid (K1.out.ext hx5);clear hx hch hx5
 by_cases hl:p.length=h.length
 . have hne:((p.length:Int) != (h.length:Int))=false:=by simp [hl]
   have HL:=hid hl;clear hl;go_wp2;clear c1
   go_loopw [19] (fun i wr=>∃ k:Nat,k <= p.length /\ i=.int .i64 k /\ (∀ j,j < k -> Q0n p j=h.getD j []) /\ Ext w5 wr) (fun i _=>p.length - (intOf i).toNat)
   case atStart=>exact ⟨0,Nat.zero_le _,rfl,fun j hj=>by omega,Ext.refl _⟩
   case round =>
    obtain ⟨k,hk,rfl,hall,hxr⟩:=hrel;have HALL:=hid hall;clear hall
    by_cases hlt:k < p.length
    . obtain ⟨br,orr,xr,rfl,_,hx0,hx1,hxi⟩:=HCR.out k hlt
      obtain ⟨Xr,cxr,rfl,-,-,-⟩:=hxi.opened;obtain ⟨bh,oh,xh,rfl,_,hh0,hhi⟩:=HCH.out k (by have:=HL.out; omega)
      obtain ⟨Xh,cxh,rfl,-,-,-⟩:=hhi.opened;have hnx:=HRA.out HL.out k hlt;obtain ⟨cl,hcl⟩:∃ x,Q0n p k=x:=⟨_,rfl⟩;obtain ⟨cb,hcb⟩:∃ x,Q3v p k=x:=⟨_,rfl⟩;obtain ⟨hk1,hhk⟩:∃ x,h.getD k []=x:=⟨_,rfl⟩;rw [hcl] at hx0 hxi hnx;rw [hcb] at hx1;rw [hhk] at hh0 hhi hnx;obtain ⟨q,hq⟩:∃ q,decide (cl=hk1)=q:=⟨_,rfl⟩;have HQ:=hid hq;have HNX:=hid hnx;have HEQ:Hid (cl=hk1 -> ∀ j,j < k + 1 -> Q0n p j=h.getD j []):=hid (fun he j hj=>by
       by_cases hjk:j=k
       . subst hjk; rw [hcl,hhk]; exact he
       . exact HALL.out j (by omega))
      have hbox:=Ext.box wr (.cells #[.slice Xr cl.length cxr,.bool cb] 167);have K3:=Blk.made wr 167 #[.slice Xr cl.length cxr,.bool cb];have HXI:=hid (hxi.ext (HX5.out.trans (hxr.trans hbox)));have HHI2:=hid (hhi.ext (hxr.trans hbox));replace hx0:=(HX5.out.trans hxr).cell hx0;replace hx1:=(HX5.out.trans hxr).cell hx1;have hh2:=(hxr.trans hbox).cell hh0;have d0:=K3.cell 0;simp only [Go.Tw.gA,Go.Tw.gB] at d0;have hkI:(k:Int) < p.length:=by omega
      have hkH:(k:Int) < h.length:=by have:=HL.out; omega
      have HXB:=hid (hxr.trans hbox);clear hxi hhi hnx hcl hcb hhk hq hh0
      go_light
      go_wp2;obtain ⟨V,hV⟩:∃ V,wr.alloc (.cells #[.slice Xr cl.length cxr,.bool cb] 167)=V:=⟨_,rfl⟩;rw [hV] at HXB HXI HHI2 hh2 d0 hbox ⊢;have hdr:=(Ext.refl V).drew;clear hV K3 hbox hxr hx0 hx1;refine Flow.Q1d [.p,.w,.p,.p,.p,.w,.w,.p] [0,1,2,3,4,5,6,7] [[],[0],[],[],[2,3],[4],[1,5],[6]]
       [.c 0 (.pointer (some ⟨wr.heap.size,0,none⟩)),.c 1 (.slice Xr cl.length cxr),.c 2 (.slice (some ⟨bh,oh,none⟩) h.length caph),.c 3 (.int .i64 (k:Int)),.c 4 (.pointer (some ⟨bh,oh + k,none⟩)),.c 5 (.slice Xh hk1.length cxh),.c 6 (.bool q),.c 7 (.bool (!q))]
       (by kernel_rfl) rfl (by kernel_rfl) ⟨?g0,?g1,?g2,?g3,?g4,?g5,?g6,?g7,trivial⟩ ?post
      case g0 | g2 | g3=>
       intro v w1 hx;intro bb hbb;subst hbb;refine ⟨_,fun w=>?_,rfl⟩;go_simp
      case g1 | g5=>
       intro v w1 hx;(repeat intro (zq:v _=_));intro bb hbb;subst hbb;have d0:=hx.cell d0;have hh2:=hx.cell hh2;intro K hK;go_simp;exact hK _ _ (Ext.refl _) rfl
      case g4 | g7=>
       intro v w1 hx;(repeat intro (zq:v _=_));intro bb hbb;subst hbb;refine ⟨_,fun w=>?_,rfl⟩;go_simp
      case g6=>
       intro v w1 hx;(repeat intro (zq:v _=_));intro bb hbb;subst hbb;have d0:=hx.cell d0;have hh2:=hx.cell hh2;intro K hK;go_simp;refine Q0d (Z5a w1 _ _ cl hk1 (HXI.out.ext (hdr.trans hx)) (HHI2.out.ext (hdr.trans hx))) ?_;rintro e w2 ⟨rfl,hx2⟩;rw [HQ.out];exact ⟨_,rfl,hK _ _ hx2 rfl⟩
      case post =>
       intro v w1 hx;(iterate 8 intro (zq:v _=_));simp only [Flow.All,Flow.acts,Act.put];go_simp;have HX9:=hid (HXB.out.trans (hdr.trans hx));clear hx hdr d0 hh2;(repeat clear zq);cases q with
       | true =>
         have HE9:=hid (HEQ.out (of_decide_eq_true HQ.out));go_wp2;go_roundw
         case rel=>exact ⟨k + 1,by omega,by go_num,HE9.out,HX9.out⟩
         case measure=>simp [intOf]; omega
       | false =>
         have HE9:=hid (HNX.out (of_decide_eq_false HQ.out));go_wp2;go_ret;exact ⟨Q1b HE9.out.symm,HX5.out.trans HX9.out⟩
    . have HZ:Hid (Q1c h p=0):=hid (HRZ.out HL.out (fun j hj=>HALL.out j (by omega)))
      go_wp2;go_ret;exact ⟨Q1b HZ.out.symm,HX5.out.trans hxr⟩
 . have hne:((p.length:Int) != (h.length:Int))=true:=by simp; omega
   have HL:=hid (HRL.out hl);clear hl;go_wp2;go_ret;exact ⟨Q1b HL.out.symm,HX5.out⟩
theorem Q4q (w:World) (v u:Value) (s:Q0b) (p:List Rul) (hv:Q0f w v s) (hu:Q0j w u p) (hs:Q3x s) (hp:p.length <= 1000) :
    Calls Tryz.prog 61 #[v,u] w fun e w'=>e=.returned (.int .i64 (Q1i s p)) /\ Ext w w':=by
 obtain ⟨a,b,rfl,h2⟩:=hv;obtain ⟨rv,rfl,hr⟩:=hu;obtain ⟨A,capa,rfl,-,-,-⟩:=h2.ships.opened;obtain ⟨B,capb,rfl,-,-,-⟩:=h2.members.opened;obtain ⟨R,capr,rfl,-,-,-⟩:=hr.opened;have H2:=hid h2;have HR:=hid hr;have HS:=hid hs;clear h2 hr hs;go_enter Tryz.func61,Tryz.ntmps61;go_wp2_with fail;change Calls _ _ _ ((w.alloc (.cells #[.int .i64 s.limit,.slice A s.ships.length capa,.slice B s.members.length capb] 34)).alloc (.cells #[.slice R p.length capr] 38)) _;obtain ⟨W,hWW,k0,k1,HXW,eW⟩:=Q2t w 34 #[.int .i64 s.limit,.slice A s.ships.length capa,.slice B s.members.length capb] 38 #[.slice R p.length capr];rw [hWW];clear hWW;have K0:=hid k0;have K1:=hid k1;clear k0 k1;refine (Q2c _ _ s ⟨_,_,rfl,H2.out.ext HXW.out⟩ HS.out).mono ?_;rintro e w5 ⟨rfl,hx5⟩;have HX5:=hid (HXW.out.trans hx5)
 by_cases he:s.err=0
 . have HV:=hid (Q0u.of he)
   have HPE:Hid (Q1i s p=Q1c s.hist p):=hid (if_neg (fun hn=>hn he));have hne:(s.err != 0)=false:=by simp [he]
   obtain ⟨E,hE⟩:∃ E,s.err=E:=⟨_,rfl⟩;have c0:=(K0.out.ext hx5).cell 0;have c1:=(K0.out.ext hx5).cell 1;have c2:=(K0.out.ext hx5).cell 2;simp only [Go.Tw.gA,Go.Tw.gB,Go.Tw.gC] at c0 c1 c2;have d0:=(K1.out.ext hx5).cell 0;simp only [Go.Tw.gA,Go.Tw.gB] at d0;rw [hE] at hne ⊢;clear he hE hx5;go_wp2_with (go_at_call 132; refine (Y1r _ _ _ s p ⟨_,_,rfl,H2.out.ext HX5.out⟩ ⟨_,rfl,HR.out.ext HX5.out⟩ HV.out hp).mono ?_; rintro e w6 ⟨rfl,hx6⟩);go_ret;exact ⟨Q1b HPE.out.symm,HX5.out.trans hx6⟩
 . have HPE:Hid (Q1i s p=s.err):=hid (if_pos he)
   have hne:(s.err != 0)=true:=by simp [he]
   obtain ⟨E,hE⟩:∃ E,s.err=E:=⟨_,rfl⟩;rw [hE] at hne HPE ⊢;clear he hE hx5;go_wp2;go_ret;exact ⟨Q1b HPE.out.symm,HX5.out⟩
end Go.Proofs
namespace Go.Proofs
open Go.RowKit Go.Tw Go.Flow
attribute [local go_sem] Oper.semAt_some
theorem Tryz.J4s:(Tryz.prog.info? 115).map (fun i=>(i.zero,i.size,i.bytes))=some (some (.agg #[.slice none 0 0,.bool false]),2,32):=by kernel_rfl
def X3u (q:Value × Rul):List Value:=[q.1,.bool q.2.close]
theorem X2r (q:Value × Rul):(X3u q).length=2:=rfl
theorem Y1x {w w0:World} {B:Nat} {T:TypeId} {v:Value} {qs:List (Value × Rul)} (h:Q1g w B T 2 X3u v qs) (hl:qs.length <= 100000) (hr:∀ q ∈ qs,Q0e w0 q.1 q.2.classes) (hx:Ext w0 w):Q3u w v (qs.map (·.2)):=by
 refine h.rowsOf (by simp) (by simp; omega) X2r (fun j h1 h2=>?_) (fun c c' x hc h=>?_)
 . have hq:=List.getElem_mem h1
   simp only [List.getElem_map];exact ⟨(hr _ hq).ext hx,rfl⟩
 . exact ⟨by rw [<- hc 0 (by omega)]; exact h.1,by rw [<- hc 1 (by omega)]; exact h.2⟩
theorem Y7b {w w':World} {base n size B:Nat} {e:TypeId} {v:Value} {xs:List Value} {o:Obj} (hown:w.ownsRow base e size v n xs) (hg:(w.alloc o).grownBy w' v.ownBlock) (hb:B <= base) (hB:B <= w.heap.size):Below B w w' :=
 Below.grown ((Below.refl B w).alloc hB o) hg (by simp; omega) (fun k hk=>Nat.le_trans hb (hown.lt k hk).1)
theorem _root_.Go.Tw.Q1g.X2h {α:Type} {w:World} {base k:Nat} {e:TypeId} {enc:α -> List Value} {v:Value} {l:List α} (h:Q1g w base e k enc v l) {p:Addr} (hp:p.block < base) (u:Value):Q1g (w.setCell p u) base e k enc v l:=h.only hp (Q3h _ _ _)
theorem _root_.Go.Tw.Ext.Y4f {w w':World} (h:Ext w w') {p:Addr} (hp:w.heap.size <= p.block) (u:Value):Ext w (w'.setCell p u):=Below.setCell h hp u
theorem Z2v (w:World) (v:Value) (p:List Rul) (hv:Q0j w v p) (hl:p.length <= 4096) :
    Calls Tryz.prog 26 #[v] w fun e w'=>∃ u,e=.returned u /\ Q0j w' u p /\ Ext w w':=by
 obtain ⟨i0,hi,hz0,hz1,hz2⟩:=info_parts Tryz.J4s;obtain ⟨a,rfl,h2⟩:=hv;obtain ⟨A,cap,rfl,-,hcap,hc⟩:=h2.opened;have HC:=hid hc;obtain ⟨n,hn⟩:∃ n,p.length=n:=⟨_,rfl⟩;have HN:=hid hn;rw [hn] at hl HC ⊢;clear h2 hc hn hcap;go_enter Tryz.func26,Tryz.ntmps26;go_wp2_with fail;obtain ⟨W,hWW,k0,k1,k2,HXW,eW⟩:=X1i w 38 #[.slice A n cap] 47 #[.slice none 0 0] 47 #[.slice none 0 0];rw [hWW];clear hWW;obtain ⟨gp,hgp⟩:∃ x,w.heap.size=x:=⟨_,rfl⟩;have HGP:=hid hgp;rw [hgp] at k1 k2 eW ⊢;have K1:=hid k1;clear k0 k1 hgp
 go_loopw [9] (fun i wr=>∃ (k:Nat) (vo:Value) (qs:List (Value × Rul)),k <= n /\ i=.int .i64 k /\ Blk wr (gp + 1 + 1) 47 #[vo] /\ Q1g wr (gp + 1 + 1 + 1) 115 2 X3u vo qs /\ qs.map (·.2)=p.take k /\ (∀ q ∈ qs,Q0e w q.1 q.2.classes) /\ Below (gp + 1 + 1) W wr /\ gp + 1 + 1 + 1 <= wr.heap.size) (fun i _=>n - (intOf i).toNat)
 case atStart=>exact ⟨0,_,[],Nat.zero_le _,rfl,k2,Q1g.nil _ _ _ _ _,rfl,(fun q hq=>by simp at hq),Below.refl _ _,by omega⟩
 case round =>
  obtain ⟨k,vo,qs,hk,rfl,hbo,hown,hqs,hqr,hlow,hsz⟩:=hrel;have hxr:Ext w wr:=Below.trans HXW.out (hlow.mono (by have:=HGP.out; omega))
  have hqk:qs.length=k:=by rw [<- List.length_map (f:=(·.2)),hqs,List.length_take,HN.out]; omega
  have HQR:=hid hqr;have HQS:=hid hqs;have HLO:=hid hlow
  by_cases hlt:k < n
  . have hkI:(k:Int) < n:=by omega
    obtain ⟨b,off,x,rfl,hb,e0,e1,hi0⟩:=HC.out k hlt;replace e0:=hxr.cell e0;replace e1:=hxr.cell e1;obtain ⟨X,capx,rfl,-,-,-⟩:=hi0.opened;have hpk:p.take (k + 1)=p.take k ++ [⟨Q0n p k,Q3v p k⟩]:=by
     rw [List.take_succ_eq_append_getElem (by rw [HN.out]; exact hlt),Q0n,Q3v,Q0t _ (by rw [HN.out]; exact hlt)]
    have HI:=hid hi0;have HPK:=hid hpk;obtain ⟨cs,hcs⟩:∃ c,Q0n p k=c:=⟨_,rfl⟩;obtain ⟨cb,hcb⟩:∃ c,Q3v p k=c:=⟨_,rfl⟩;rw [hcs] at e0 HI HPK;rw [hcb] at e1 HPK;have hbx:=Ext.box wr (.cells #[.slice X cs.length capx,.bool cb] 167);have c2:(wr.alloc (.cells #[.slice X cs.length capx,.bool cb] 167)).cell? ⟨gp + 1 + 1,0,none⟩=some vo:=(hbo.ext hbx).cell 0;obtain ⟨wq,rfl⟩:∃ Z,Z=wr:=⟨_,rfl⟩;clear hqs hqr hlow hxr hi0 hpk hcs hcb;go_wp2_with (at_builtin; refine halted ?_);unfold Q1j;have hes:(wq.alloc (.cells #[.slice X cs.length capx,.bool cb] 167)).heap.size=wq.heap.size + 1:=by simp
    obtain ⟨wb,hwb⟩:∃ Z,wq.alloc (.cells #[.slice X cs.length capx,.bool cb] 167)=Z:=⟨_,rfl⟩;rw [hwb] at hbx hes ⊢;rw [<- hes];have hown1:=hown.below hbx;have hbo1:=hbo.ext hbx;have HBO:=hid hbo1;have HBX:=hid hbx;have hsz1:gp + 1 + 1 + 1 <= wb.heap.size:=by omega
    clear hbo hown hwb c2 hbo1
    (at_builtin; refine wpList_append_own _ rfl _ _ 45 rfl (gp + 1 + 1 + 1) 115 i0 (.agg #[.slice none 0 0,.bool false]) 2 32 Tryz.underlying45 hi hz0 hz1 hz2 rfl (by decide) _ _ _ rfl (World.ownsRow.alloc hown1 _) ⟨wb.heap.size,0,none⟩ 1 1 [.slice X cs.length capx,.bool cb] rfl rfl ?_ ?_ ?_ ?_ ?_ ?_; exact Y4t _ _ _; (focus (simp [Value.oneCell'])); (focus (unfold maxLen; omega)); (focus omega); (focus (have:=hbx.size; simp at this ⊢; omega)); intro v' w1 hown' hgrow _)
    refine halted ?_;have hbl:=Y7b hown1 hgrow (Nat.le_refl _) hsz1;have hb1:=HBO.out.below hbl (by omega)
    have c1':w1.cell? ⟨gp + 1 + 1,0,none⟩=some vo:=hb1.cell 0;have f1:=hb1.frozen 0;have HB1:=hid hb1;have HBL:=hid hbl;have HSZ1:Hid (gp + 1 + 1 + 1 <= w1.heap.size):=hid (by have:=hbl.size; omega)
    have HOW:=hid (show Q1g w1 (gp + 1 + 1 + 1) 115 2 X3u v' (qs ++ [(.slice X cs.length capx,⟨cs,cb⟩)]) from Q1g.snoc hown')
    obtain ⟨Av,cv',rfl,-⟩:=HOW.out.shape;clear hgrow hb1 hbl hown' hown1 hbx e0 e1;unfold Q1j;go_wp2;go_roundw
    case rel=>exact ⟨k + 1,_,qs ++ [(.slice X cs.length capx,⟨cs,cb⟩)],by omega,by go_num,HB1.out.set 0 _,by have h:=HOW.out; rw [List.length_append,hqk] at h; exact h.X2h (p:=⟨gp + 1 + 1,0,none⟩) (Nat.lt_succ_self _) _,by rw [List.map_append,HQS.out,HPK.out]; rfl,
     (fun q hq=>by
      rcases List.mem_append.1 hq with hq | hq
      . exact HQR.out q hq
      . rw [List.mem_singleton.1 hq]; exact HI.out),
     (Below.trans HLO.out (Below.trans (HBX.out.mono (by omega)) (HBL.out.mono (Nat.le_succ _)))).setCell (p:=⟨gp + 1 + 1,0,none⟩) (Nat.le_refl _) _,by have:=HSZ1.out; simp; omega⟩
    case measure=>simp [intOf]; omega
  . have hkI:¬ (k:Int) < n:=by omega
    have hkn:k=n:=by omega
    subst hkn;have hp:p.take k=p:=by rw [List.take_of_length_le (by rw [HN.out]; omega)]
    obtain ⟨Av,cv',rfl,-⟩:=hown.shape;rw [hqk] at hown hbo;have HOWN:=hid hown;have HQK:=hid hqk;have c0:wr.cell? ⟨gp + 1 + 1,0,none⟩=_:=hbo.cell 0;simp only [Go.Tw.gA,Go.Tw.gB] at c0;have hk1:=K1.out.below HLO.out (by omega)
    have c1:wr.cell? ⟨gp + 1,0,none⟩=some (.slice none 0 0):=hk1.cell 0;have f1:=hk1.frozen 0;have HK1:=hid hk1;have HXR:=hid hxr;clear hbo hown hqs hqr hlow hxr hk1;go_wp2;refine bodyPost_ret (Q1w Tryz.results26 rfl (HK1.out.set 0 _) Tryz.Q6w Tryz.Q4t) rfl ?_;refine ⟨_,rfl,⟨_,rfl,?_⟩,HXR.out.Y4f (p:=⟨gp + 1,0,none⟩) (by show w.heap.size <= gp + 1; have:=HGP.out; omega) _⟩
    have h:=Y1x (HOWN.out.X2h (p:=⟨gp + 1,0,none⟩) (by show gp + 1 < gp + 1 + 1 + 1; omega) (.slice Av k cv')) (by rw [HQK.out]; omega) HQR.out (HXR.out.Y4f (p:=⟨gp + 1,0,none⟩) (by show w.heap.size <= gp + 1; have:=HGP.out; omega) _)
    rw [HQS.out,hp] at h;exact h
end Go.Proofs
namespace Go.Proofs
open Go.RowKit Go.Tw Go.Flow
attribute [local go_sem] Oper.semAt_some
theorem Z1n (w:World) (gS gM k:Nat) (a b:Value) (s:Q0b) (m0 m1 m3 m4 mc:Value) (cl:List Int) (hS:Blk w gS 34 #[.int .i64 s.limit,a,b]) (hs:Q7y w a b s) (hM:Blk w gM 69 #[m0,m1,mc,m3,m4]) (hc:Q0e w mc cl) (hk:k < s.members.length) :
    Calls Tryz.prog 169 #[.int .i64 (k:Int),.pointer (some ⟨gS,0,none⟩),.pointer (some ⟨gM,0,none⟩)] w fun e w'=>e=.returned (.bool (decide (Q0c s.members k=cl))) /\ Ext w w':=by
 obtain ⟨B,capb,rfl,-,-,-⟩:=hs.members.opened;obtain ⟨bm,off,capx,capy,capz,X,Y,Z,hme⟩:=Q3a hs.members hk;have hA:=hme.addr;subst hA;have HE2:=hid hme.e2;have HEQ:=hid (fun (w1:World) (hx:Ext w w1)=>Z4g w1 _ _ _ cl (hme.x.ext hx) (hc.ext hx));obtain ⟨lc,hlc⟩:∃ x,(Q0c s.members k).length=x:=⟨_,rfl⟩;rw [hlc] at HE2 HEQ;obtain ⟨q,hq⟩:∃ q,decide (Q0c s.members k=cl)=q:=⟨_,rfl⟩;rw [hq] at HEQ ⊢;have HSB:=hid hS;have HMB:=hid hM;have hkI:(k:Int) < s.members.length:=by omega
 obtain ⟨M,hMl⟩:∃ M,s.members.length=M:=⟨_,rfl⟩;rw [hMl] at HSB hkI hk;have hdr:=(Ext.refl w).drew;clear hme hlc hq hS hM hs hc hMl;go_enter Tryz.func169,Tryz.ntmps169;go_wp2_with fail;refine Flow.Q1d [.p,.w,.p,.p,.p,.w,.p,.w,.w,.p] [0,1,2,3,4,5,6,7,8,9] [[],[0],[],[1,2],[3],[4],[],[6],[5,7],[0,1,2,3,4,5,6,7,8]]
  [.c 0 (.pointer (some ⟨gS,2,none⟩)),.c 1 (.slice (some ⟨bm,off,none⟩) M capb),.c 2 (.int .i64 (k:Int)),.c 3 (.pointer (some ⟨bm,off + k * 5,none⟩)),.c 4 (.pointer (some ⟨bm,off + k * 5 + 2,none⟩)),.c 5 (.slice X lc capx),.c 6 (.pointer (some ⟨gM,2,none⟩)),.c 7 (mc),.c 8 (.bool q),.c 9 (.bool q)]
  (by kernel_rfl) rfl (by kernel_rfl) ⟨?g0,?g1,?g2,?g3,?g4,?g5,?g6,?g7,?g8,?g9,trivial⟩ ?post
 case g0 | g2 | g6=>
  intro v w1 hx;intro bb hbb;subst hbb;refine ⟨_,fun w=>?_,rfl⟩;go_simp
 case g1 | g5 | g7=>
  intro v w1 hx;(repeat intro (zq:v _=_));intro bb hbb;subst hbb;have n0:w1.cell? ⟨gS,2,none⟩=some (.slice (some ⟨bm,off,none⟩) M capb):=(HSB.out.ext (hdr.trans hx)).cell 2;have n1:w1.cell? ⟨bm,off + k * 5 + 2,none⟩=some (.slice X lc capx):=(hdr.trans hx).cell HE2.out;have n2:w1.cell? ⟨gM,2,none⟩=some mc:=(HMB.out.ext (hdr.trans hx)).cell 2;intro K hK;go_simp;exact hK _ _ (Ext.refl _) rfl
 case g3 | g4 | g9=>
  intro v w1 hx;(repeat intro (zq:v _=_));intro bb hbb;subst hbb;refine ⟨_,fun w=>?_,rfl⟩;go_simp
 case g8=>
  intro v w1 hx;(repeat intro (zq:v _=_));intro bb hbb;subst hbb;intro K hK;go_simp;refine Q0d (HEQ.out w1 (hdr.trans hx)) ?_;rintro e w2 ⟨rfl,hx2⟩;exact ⟨_,rfl,hK _ _ hx2 rfl⟩
 case post =>
  intro v w1 hx;(iterate 10 intro (zq:v _=_));simp only [Flow.All,Flow.acts,Act.put];go_simp;have HX:=hid (hdr.trans hx);clear hx hdr;(repeat clear zq);go_wp2;go_ret;exact ⟨rfl,HX.out⟩
end Go.Proofs
namespace Go.Flow
open Go.RowKit Go.Tw
def J5e (D:Nat):Deferred:={ target:=.collected D,args:=#[] }
def marks (l:List Nat):List Deferred:=l.map J5e
structure Marked (W:World) (l:List Nat):Prop where
 nd:l.Nodup
 all:∀ D,D ∈ l -> W.heap[D]?=some (.deferred (some []))
theorem Marked.nil (W:World):Marked W []:=⟨List.nodup_nil,fun D h=>by cases h⟩
theorem Marked.lt {W:World} {l:List Nat} (h:Marked W l) {D:Nat} (hD:D ∈ l):D < W.heap.size:=(Array.getElem?_eq_some_iff.1 (h.all D hD)).1
theorem Marked.ext {W W':World} {l:List Nat} (h:Marked W l) (hx:Ext W W'):Marked W' l:=⟨h.nd,fun D hD=>by rw [Below.block hx _ (h.lt hD)]; exact h.all D hD⟩
theorem Marked.keeps {W W':World} {l:List Nat} (h:Marked W l) (hx:KeepsOthers W W'):Marked W' l:=⟨h.nd,fun D hD=>hx.same _ _ (h.all D hD) rfl⟩
theorem Marked.turns {B:Nat} {W W':World} {l:List Nat} (h:Marked W l) (hB:∀ D,D ∈ l -> D < B) (hx:Turns B W W'):Marked W' l:=⟨h.nd,fun D hD=>by rw [hx.same (hB D hD)]; exact h.all D hD⟩
theorem Marked.cons {W:World} {l:List Nat} {D:Nat} (h:Marked W l) (hD:W.heap[D]?=some (.deferred (some []))) (hn:∀ E,E ∈ l -> E < D):Marked W (D :: l):=by
 refine ⟨List.nodup_cons.2 ⟨fun hm=>Nat.lt_irrefl _ (hn D hm),h.nd⟩,fun E hE=>?_⟩
 rcases List.mem_cons.1 hE with rfl | hE
 . exact hD
 . exact h.all E hE
theorem Q5s {F:Fence} {n:Nat} {P:Program} {fn:Func} {tmps:Array Value} {R:Ending -> World -> Prop} {n0:Nat} (J:World -> Prop) (hJ:∀ A B,J A -> Turns n0 A B -> J B)
    (hR:∀ W,J W -> ∃ v,(results fn tmps).run P W=.ok v W /\ R (.returned v) W) :
    ∀ (l:List Nat) (W:World),Marked W l -> (∀ D,D ∈ l -> n0 <= D) -> J W -> LeavesInM F n P fn tmps R (marks l) .returning W
 | [],W,_,_,h=>hR W h
 | D :: l,W,hm,hn,h=>by
   have hD:=hm.all D (List.mem_cons_self ..);have hlt:=hm.lt (List.mem_cons_self ..);refine ⟨by simp,.inl ⟨D,_,rfl,run_takeDeferred hD,Q5s J hJ hR l _ ⟨(List.nodup_cons.1 hm.nd).2,fun E hE=>?_⟩ (fun E hE=>hn E (List.mem_cons_of_mem _ hE)) (hJ _ _ h ⟨D,_,_,hn D (List.mem_cons_self ..),hD,rfl,rfl⟩)⟩⟩
   have hne:E ≠ D:=fun e=>(List.nodup_cons.1 hm.nd).1 (e ▸ hE);rw [World.putObj_heap_other hne];exact hm.all E (List.mem_cons_of_mem _ hE)
theorem Z1l {F:Fence} {n:Nat} {P:Program} {Q:Exit -> Act -> World -> Prop} {a:Act} {w:World} {c:Code} (j N k0:Nat) (I:Nat -> Act -> World -> Prop)
    (hj:∀ k a w,I k a w -> intOf (a.tmps.getD j undef)=(k:Int)) (h0:I k0 a w)
    (round:∀ k a w,I k a w -> ∀ K:Act -> World -> Prop,(∀ a' w',k < N -> I (k + 1) a' w' -> K a' w') -> c.wpIn F n P (Exit.then K Q) a w):(Code.loop c).wpIn F n P Q a w:=by
 refine wpIn_loop (fun a w=>∃ k,I k a w) (fun a _=>N - (intOf (a.tmps.getD j undef)).toNat) ⟨k0,h0⟩ ?_;rintro a w ⟨k,hk⟩;refine round k a w hk _ fun a' w' hlt h'=>⟨⟨k + 1,h'⟩,?_⟩;rw [hj _ _ _ h',hj _ _ _ hk];omega
def X6o (A:Array Value) (js:List Nat) (u:Nat -> Value):Array Value:=js.foldl (fun A j=>A.setIfInBounds j (u j)) A
theorem X9e {F:Fence} {n:Nat} {P:Program} {Q:Exit -> Act -> World -> Prop} {tmps:Array Value} {ds0:List Deferred} {w:World} {c:Code} (j N k0:Nat) (js:List Nat) (Ds0:List Nat) (R:Nat -> Act -> List Nat -> World -> Prop)
    (hj:∀ k a Ds w,R k a Ds w -> intOf (a.tmps.getD j undef)=(k:Int)) (hds:ds0=marks Ds0) (hself:X6o tmps js (fun i=>tmps.getD i undef)=tmps) (h0:R k0 ⟨tmps,ds0⟩ Ds0 w)
    (round:∀ k u Ds w,R k ⟨X6o tmps js u,marks Ds⟩ Ds w -> ∀ K:Act -> World -> Prop,
     (∀ a' w' Ds',k < N -> a'.tmps=X6o tmps js (fun i=>a'.tmps.getD i undef) -> a'.defers=marks Ds' -> R (k + 1) a' Ds' w' -> K a' w') -> c.wpIn F n P (Exit.then K Q) ⟨X6o tmps js u,marks Ds⟩ w) :
    (Code.loop c).wpIn F n P Q ⟨tmps,ds0⟩ w:=by
 refine Z1l j N k0 (fun k a w=>∃ Ds,a=⟨X6o tmps js (fun i=>a.tmps.getD i undef),marks Ds⟩ /\ R k a Ds w) (fun k a w ⟨Ds,_,h⟩=>hj k a Ds w h) ⟨Ds0,by rw [hself,hds],h0⟩ ?_
 rintro k a w ⟨Ds,ha,hR⟩ K hK;have key:∀ u,a=⟨X6o tmps js u,marks Ds⟩ -> c.wpIn F n P (Exit.then K Q) a w:=by
  rintro u rfl;refine round k u Ds w hR K fun a' w' Ds' hlt h1 h2 h3=>hK a' w' hlt ⟨Ds',?_,h3⟩;rw [<- h1,<- h2]
 exact key _ ha
theorem Z4l {n:Nat} {P:Program} {Q:Exit -> Act -> World -> Prop} {a:Act} {w:World} {c:Code} (h:c.wpIn Fence.wide n P (Exit.noGoto Q) a w):(Code.scope c).wpIn Fence.wide n P Q a w :=
 wpIn_wide.2 (wp_scope_straight (wpIn_wide.1 h))
end Go.Flow
namespace Go.Proofs
open Go.RowKit Go.Tw Go.Flow
attribute [local go_sem] Oper.semAt_some
def Y5d (q:Value × Grp):List Value:=[q.1,.int .i64 q.2.weight]
theorem Y7l (q:Value × Grp):(Y5d q).length=2:=rfl
def GrR (w:World) (gl:List (Value × Grp)):Prop:=∀ q ∈ gl,Q0m w 0 3 (.int .i64) q.1 q.2.members
theorem GrR.nil (w:World):GrR w []:=fun _ hq=>by simp at hq
theorem GrR.ext {w w':World} {gl:List (Value × Grp)} (h:GrR w gl) (hx:Ext w w'):GrR w' gl:=fun q hq=>(h q hq).below hx
theorem GrR.snoc {w:World} {gl:List (Value × Grp)} {q:Value × Grp} (h:GrR w gl) (hq:Q0m w 0 3 (.int .i64) q.1 q.2.members):GrR w (gl ++ [q]):=fun z hz=>by
 rcases List.mem_append.1 hz with hz | hz
 . exact h z hz
 . rw [List.mem_singleton.1 hz]; exact hq
def X9n (s:Q0b) (i:Nat):List Int:=(X0v s i).map Int.ofNat
def Z0l (s:Q0b) (i:Nat):Grp:=⟨X9n s i,Y8y s (X0v s i)⟩
def Q5t (s:Q0b) (k:Nat):List Grp:=(X2j (Y6m s) k).map (Z0l s)
theorem Z4d (s:Q0b):Q5t s s.members.length=Q5z s:=by rw [X4k]; rfl
theorem Z4q {s:Q0b} {k:Nat} (h:Z4s (Y6m s) k=true):Q5t s (k + 1)=Q5t s k ++ [Z0l s k]:=by
 unfold Q5t; rw [X1p,if_pos h,List.map_append]; rfl
theorem Z7d {s:Q0b} {k:Nat} (h:Z4s (Y6m s) k=false):Q5t s (k + 1)=Q5t s k:=by
 unfold Q5t; rw [X1p,if_neg (by simp [h]),List.append_nil]
def X7e (s:Q0b) (j i:Nat):List Int:=(Q5y (Y6m s) j i).map Int.ofNat
theorem Y2f (s:Q0b) (j i:Nat):X7e s (j + 1) i=X7e s j i ++ if decide (Q0c s.members j=Q0c s.members i) then [(j:Int)] else []:=by
 unfold X7e;rw [X9j,List.map_append]
 by_cases h:Q0c s.members j=Q0c s.members i
 . rw [if_pos (by simpa [Y6m] using h),if_pos (by simpa using h)]; rfl
 . rw [if_neg (by simpa [Y6m] using h),if_neg (by simpa using h)]; rfl
theorem X9x (s:Q0b) (i:Nat):∀ j,(X7e s j i).length <= j
 | 0=>by simp [X7e,Q5y]
 | j + 1=>by
   have h:=X9x s i j;rw [Y2f,List.length_append]
   split <;> simp <;> omega
def Y1b (s:Q0b) (l:List Nat) (c j:Nat):Int:=((l.take j).map fun k=>if (Q1q s k).keeps s.limit (Q5g c s.ships.length) then Q0k s.members k else 0).sum
theorem Y3c {s:Q0b} {l:List Nat} {c j:Nat} (hj:j < l.length):Y1b s l c (j + 1)=Y1b s l c j + if (Q1q s l[j]).keeps s.limit (Q5g c s.ships.length) then Q0k s.members l[j] else 0:=by
 unfold Y1b;rw [List.take_succ_eq_append_getElem hj,List.map_append,List.sum_append]; simp
theorem Y5w (s:Q0b) (l:List Nat) (c:Nat):Y1b s l c l.length=Y2o s l c:=by unfold Y1b Y2o; rw [List.take_length]
theorem Y4k {s:Q0b} (hv:Q0u s) {l:List Nat} (hl:∀ k ∈ l,k < s.members.length) (c:Nat):∀ j,j <= l.length -> 0 <= Y1b s l c j /\ Y1b s l c j <= 1000 * j
 | 0,_=>by simp [Y1b]
 | j + 1,h=>by
   have ih:=Y4k hv hl c j (by omega)
   have hw:=hv.weights l[j] (hl _ (List.getElem_mem (by omega)))
   rw [Y3c (by omega)]
   split <;> omega
def Z8v (s:Q0b) (l:List Nat) (j:Nat):Int:=(List.range j).foldl (fun m n=>max m (Y2o s l n)) 0
theorem Y8m (s:Q0b) (l:List Nat) (j:Nat):Z8v s l (j + 1)=max (Z8v s l j) (Y2o s l j):=by
 unfold Z8v; rw [List.range_succ,List.foldl_append]; rfl
theorem Y9z {s:Q0b} (hv:Q0u s) {l:List Nat} (hl:∀ k ∈ l,k < s.members.length) (h8:l.length <= 8):∀ j,0 <= Z8v s l j /\ Z8v s l j <= 8000
 | 0=>by simp [Z8v]
 | j + 1=>by
   have ih:=Y9z hv hl h8 j;have h:=Y4k hv hl j l.length (Nat.le_refl _);rw [Y5w] at h;rw [Y8m];omega
theorem X0j (f:Nat -> List Int):∀ k,(X2j f k).length <= k
 | 0=>by simp [X2j]
 | k + 1=>by
   have:=X0j f k;rw [X1p,List.length_append]
   split <;> simp <;> omega
theorem J2q {s:Q0b} (hv:Q0u s) (k:Nat):0 <= ((Q5t s k).map Grp.weight).sum /\ ((Q5t s k).map Grp.weight).sum <= 8000 * k:=by
 have hl:∀ i,0 <= (Z0l s i).weight /\ (Z0l s i).weight <= 8000:=fun i=>by
  have hm:∀ x ∈ X0v s i,x < s.members.length:=fun x hx=>List.mem_range.1 (List.mem_filter.1 hx).1;have h8:(X0v s i).length <= 8:=by
   have h1:(X0v s i).length <= (List.range s.members.length).length:=List.length_filter_le ..;rw [List.length_range] at h1;have:=hv.some; omega
  exact Y9z hv hm h8 _
 have key:∀ l:List Nat,0 <= ((l.map (Z0l s)).map Grp.weight).sum /\ ((l.map (Z0l s)).map Grp.weight).sum <= 8000 * l.length:=by
  intro l
  induction l with
  | nil=>simp
  | cons x l ih =>
    have:=hl x;simp only [List.map_cons,List.sum_cons,List.length_cons];omega
 have h1:=key (X2j (Y6m s) k);have h2:=X0j (Y6m s) k;unfold Q5t;omega
end Go.Proofs
namespace Go.Proofs
open Go.RowKit Go.Tw Go.Flow
attribute [local go_sem] Oper.semAt_some
theorem Tryz.J5d:(Tryz.prog.info? 153).map (fun i=>(i.zero,i.size,i.bytes))=some (some (.agg #[.slice none 0 0,.int .i64 0]),2,32):=by kernel_rfl
theorem Z5f {w w0:World} {B:Nat} {T:TypeId} {v:Value} {qs:List (Value × Grp)} (h:Q1g w B T 2 Y5d v qs) (hl:qs.length <= 100000) (hr:∀ q ∈ qs,Q0e w0 q.1 q.2.members) (hx:Ext w0 w):Q5j w v (qs.map (·.2)):=by
 refine h.rowsOf (by simp) (by simp; omega) Y7l (fun j h1 h2=>?_) (fun c c' x hc h=>?_)
 . have hq:=List.getElem_mem h1
   simp only [List.getElem_map];exact ⟨(hr _ hq).ext hx,rfl⟩
 . exact ⟨by rw [<- hc 0 (by omega)]; exact h.1,by rw [<- hc 1 (by omega)]; exact h.2⟩
theorem Y9s (w:World) (v:Value) (p:List Grp) (hv:Q5j w v p) (hl:p.length <= 4096) :
    Calls Tryz.prog 75 #[v] w fun e w'=>∃ u,e=.returned u /\ Q5j w' u p /\ Ext w w':=by
 obtain ⟨i0,hi,hz0,hz1,hz2⟩:=info_parts Tryz.J5d;obtain ⟨A,cap,rfl,-,hcap,hc⟩:=hv.opened;have HC:=hid hc;obtain ⟨n,hn⟩:∃ n,p.length=n:=⟨_,rfl⟩;have HN:=hid hn;rw [hn] at hl HC ⊢;clear hv hc hn hcap;go_enter Tryz.func75,Tryz.ntmps75;go_wp2_with fail
 go_loopw [3,8] (fun vo i wr=>∃ (k:Nat) (qs:List (Value × Grp)),k <= n /\ i=.int .i64 k /\ Q1g wr w.heap.size 153 2 Y5d vo qs /\ qs.map (·.2)=p.take k /\ (∀ q ∈ qs,Q0e w q.1 q.2.members) /\ Ext w wr) (fun _ i _=>n - (intOf i).toNat)
 case atStart=>exact ⟨0,[],Nat.zero_le _,rfl,Q1g.nil _ _ _ _ _,rfl,(fun q hq=>by simp at hq),Ext.refl _⟩
 case round =>
  obtain ⟨k,qs,hk,rfl,hown,hqs,hqr,hxr⟩:=hrel;have hqk:qs.length=k:=by rw [<- List.length_map (f:=(·.2)),hqs,List.length_take,HN.out]; omega
  have HQR:=hid hqr;have HQS:=hid hqs
  by_cases hlt:k < n
  . have hkI:(k:Int) < n:=by omega
    obtain ⟨b,off,x,rfl,hb,e0,e1,hi0⟩:=HC.out k hlt;replace e0:=hxr.cell e0;replace e1:=hxr.cell e1;obtain ⟨X,capx,rfl,-,-,-⟩:=hi0.opened;have hpk:p.take (k + 1)=p.take k ++ [⟨Q6g p k,Q9e p k⟩]:=by
     rw [List.take_succ_eq_append_getElem (by rw [HN.out]; exact hlt),Q6g,Q9e,Q0t _ (by rw [HN.out]; exact hlt)]
    have HI:=hid hi0;have HPK:=hid hpk;obtain ⟨cs,hcs⟩:∃ c,Q6g p k=c:=⟨_,rfl⟩;obtain ⟨cb,hcb⟩:∃ c,Q9e p k=c:=⟨_,rfl⟩;rw [hcs] at e0 HI HPK;rw [hcb] at e1 HPK;have hbx:=Ext.box wr (.cells #[.slice X cs.length capx,.int .i64 cb] 64);have HXR:=hid hxr;obtain ⟨wq,rfl⟩:∃ Z,Z=wr:=⟨_,rfl⟩;clear hqs hqr hi0 hpk hcs hcb;go_wp2_with (at_builtin; refine halted ?_);unfold Q1j;have hes:(wq.alloc (.cells #[.slice X cs.length capx,.int .i64 cb] 64)).heap.size=wq.heap.size + 1:=by simp
    obtain ⟨wb,hwb⟩:∃ Z,wq.alloc (.cells #[.slice X cs.length capx,.int .i64 cb] 64)=Z:=⟨_,rfl⟩;rw [hwb] at hbx hes ⊢;rw [<- hes];have hown1:=hown.below hbx;have hxb:=hxr.trans hbx;have HXB:=hid hxb;clear hown hwb
    (at_builtin; refine wpList_append_own _ rfl _ _ 119 rfl (w.heap.size) 153 i0 (.agg #[.slice none 0 0,.int .i64 0]) 2 32 Tryz.underlying119 hi hz0 hz1 hz2 rfl (by decide) _ _ _ rfl (World.ownsRow.alloc hown1 _) ⟨wb.heap.size,0,none⟩ 1 1 [.slice X cs.length capx,.int .i64 cb] rfl rfl ?_ ?_ ?_ ?_ ?_ ?_; exact Y4t _ _ _; (focus (simp [Value.oneCell'])); (focus (unfold maxLen; omega)); (focus omega); (focus (have:=hxb.size; simp at this ⊢; omega)); intro v' w1 hown' hgrow _)
    have HX1:=hid (Q2e hxb hown1 (Nat.le_refl _) hgrow);have HOW:=hid (show Q1g w1 w.heap.size 153 2 Y5d v' (qs ++ [(.slice X cs.length capx,⟨cs,cb⟩)]) from Q1g.snoc hown')
    clear hgrow hown' hown1 hbx e0 e1 hxb;go_wp2;go_roundw
    case rel=>exact ⟨k + 1,qs ++ [(.slice X cs.length capx,⟨cs,cb⟩)],by omega,by go_num,HOW.out,by rw [List.map_append,HQS.out,HPK.out]; rfl,
     (fun q hq=>by
      rcases List.mem_append.1 hq with hq | hq
      . exact HQR.out q hq
      . rw [List.mem_singleton.1 hq]; exact HI.out),HX1.out⟩
    case measure=>simp [intOf]; omega
  . have hkI:¬ (k:Int) < n:=by omega
    have hkn:k=n:=by omega
    subst hkn;have hp:p.take k=p:=by rw [List.take_of_length_le (by rw [HN.out]; omega)]
    have hr:=Z5f hown (by omega) HQR.out hxr
    rw [HQS.out,hp] at hr;have HR:=hid hr;clear hown hqs hqr hr hp;go_wp2;go_ret;exact ⟨_,rfl,HR.out,hxr⟩
end Go.Proofs
