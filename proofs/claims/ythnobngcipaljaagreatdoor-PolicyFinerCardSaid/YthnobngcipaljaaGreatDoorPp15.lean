/- Contracts: slices.Equal; checkRules, CheckPolicy. Contract of the law's own function: told. Contract: the function literal of groups (have two members the same classes?). A range over an iterator that hands over values which lie in memory: the iterator's contract says of each value what holds of it where it is handed over; the law of the statement over such a contract (no round is left early). Contracts: count; all, as an iterator that hands over lists of closings. -/
import Derived.Test.YthnobngcipaljaaGreatDoorPp14
import Derived.Test.YthnobngcipaljaaGreatDoorPp08
import Derived.Test.YthnobngcipaljaaGreatDoorPp11
import Derived.Test.YthnobngcipaljaaGreatDoorPp09
import Derived.OwnWalk
import Derived.Test.YthnobngcipaljaaGreatDoorPp10
import Derived.Test.YthnobngcipaljaaGreatDoorPp06
import Derived.Test.YthnobngcipaljaaGreatDoorPp05
import Derived.RangeFuncNested
import Derived.RangeFuncBound
import Derived.RangeFuncCalls
import Derived.RangeFuncLeaves
import Derived.RangeFuncFrom
import Derived.Shelf.Abstract
import Derived.Shelf.RegionOpen
import Derived.OwnWalkIn
import Derived.TacticsInMore
import Derived.LoopNIn
import Derived.LoopIn
set_option maxRecDepth 1000000
set_option maxHeartbeats 64000000
set_option linter.unusedVariables false
set_option linter.unusedSimpArgs false
set_option linter.constructorNameAsVariable false
open Go.Lib (hid)
namespace Go.Proofs
open Go.RowKit Go.Tw Go.Flow
attribute [local go_sem] Oper.semAt_some
theorem Z0c (w:World) (u v:Value) (a b:List Int) (hu:Q0d w u a) (hv:Q0d w v b) :
    Calls Tryz.prog 175 #[u,v] w fun e w'=>e=.returned (.bool (decide (a=b))) /\ Ext w w':=by
 obtain ⟨A,capa,rfl,hla,hcapa,hca⟩:=hu.opened;obtain ⟨B,capb,rfl,hlb,hcapb,hcb⟩:=hv.opened;clear hu hv;go_enter Tryz.func175,Tryz.ntmps175
 by_cases hl:a.length=b.length
 . have hne:((a.length:Int) != (b.length:Int))=false:=by simp [hl]
   go_wp2
   go_loopw [13] (fun i wr=>∃ k:Nat,k <= a.length /\ i=.int .i64 k /\ decide (a.drop k=b.drop k)=decide (a=b) /\ Ext w wr) (fun i _=>a.length - (intOf i).toNat)
   case atStart=>exact ⟨0,Nat.zero_le _,rfl,rfl,Ext.refl _⟩
   case round =>
    obtain ⟨k,hk,rfl,hr,hx⟩:=hrel;have HR:=hid hr; clear hr
    by_cases hlt:k < a.length
    . have hlt2:k < b.length:=by omega
      obtain ⟨b1,off1,rfl,hc1⟩:=hca k hlt;obtain ⟨b2,off2,rfl,hc2⟩:=hcb k hlt2;replace hc1:=hx.cell hc1;replace hc2:=hx.cell hc2;have HD1:=hid (Q3b hlt);have HD2:=hid (Q3b hlt2);clear hca hcb
      by_cases h0:ix a k=ix b k
      . have hx1:(ix a k != ix b k)=false:=by simp [h0]
        have H0:=hid h0; clear h0;go_wp2
        go_quiet (fail)
        all_goals go_wp2
        go_roundw
        case rel=>exact ⟨k + 1,by omega,by go_num,by rw [<- HR.out,HD1.out,HD2.out,Q8p H0.out],hx.drewN _⟩
        case measure=>simp [intOf]; omega
      . have hx1:(ix a k != ix b k)=true:=by simp [h0]
        have H0:=hid h0; clear h0;go_wp2
        go_quiet (fail)
        all_goals go_wp2
        go_ret;exact ⟨Q0u (by rw [<- HR.out,HD1.out,HD2.out,Q8c H0.out]),hx.drewN _⟩
    . clear hca hcb
      go_wp2;go_ret;exact ⟨Q0u (by rw [<- HR.out,List.drop_eq_nil_of_le (by omega),List.drop_eq_nil_of_le (by omega)]; rfl),hx⟩
 . have hne:((a.length:Int) != (b.length:Int))=true:=by simp; omega
   have HL:Hid (decide (a=b)=false):=hid (decide_eq_false (fun h=>hl (by rw [h])))
   clear hl hca hcb;go_wp2;go_ret;exact ⟨Q0u (by rw [HL.out]),Ext.refl _⟩
theorem Tryz.Q8b (w:World):(isAgg 38).run Tryz.prog w=.ok true w:=by kernel_rfl
theorem Tryz.Q4b (w:World):(sizeOf 38).run Tryz.prog w=.ok 1 w:=by kernel_rfl
theorem Y2t {h:List (List Int)} {p:List Rul} (hl:¬ p.length=h.length):Q2d h p=2:=if_pos hl
theorem Y5m {h:List (List Int)} {p:List Rul} (hl:p.length=h.length) {k:Nat} (hk:k < p.length) (hne:¬ Q0n p k=h.getD k []):Q2d h p=11:=by
 unfold Q2d;rw [if_neg (fun hn=>hn hl),if_pos];intro e
 apply hne
 rw [<- e];unfold Q0n;rw [Q0v _ hk]; simp [hk]
theorem Y2w {h:List (List Int)} {p:List Rul} (hl:p.length=h.length) (ha:∀ j,j < p.length -> Q0n p j=h.getD j []):Q2d h p=0:=by
 rw [Q4h]
 apply List.ext_getElem
 . simp [hl]
 . intro i h1 h2
   have hi:i < p.length:=by simpa using h1
   have:=ha i hi;unfold Q0n at this;rw [Q0v _ hi] at this;simp only [List.getElem_map];rw [this]; simp [h2]
theorem X6o (w:World) (v u:Value) (s:Q0b) (p:List Rul) (hv:Q0h w v s) (hu:Q0w w u p) (hS:Q1b s) (hp:p.length <= 1000) :
    Calls Tryz.prog 132 #[v,u] w fun e w'=>e=.returned (.int .i64 (Q2d s.hist p)) /\ Ext w w':=by
 obtain ⟨a,b,rfl,h2⟩:=hv;obtain ⟨rv,rfl,hr⟩:=hu;obtain ⟨A,capa,rfl,-,-,-⟩:=h2.ships.opened;obtain ⟨B,capb,rfl,-,-,-⟩:=h2.members.opened;obtain ⟨R,capr,rfl,-,-,hcr⟩:=hr.opened;have HCR:=hid hcr;have HHI:Hid (∀ w',Ext w w' -> Calls Tryz.prog 99 #[.agg #[.int .i64 s.limit,.slice A s.ships.length capa,.slice B s.members.length capb]] w' fun e w''=>∃ x,e=.returned x /\ Q2z w'' x s.hist /\ Ext w' w''):=hid (fun w' hx=>Q6y w' _ s ⟨_,_,rfl,h2.ext hx⟩ hS);have hhl:=Z5n hS;obtain ⟨h,hh⟩:∃ x,s.hist=x:=⟨_,rfl⟩;rw [hh] at HHI hhl ⊢;have HRL:=hid (Y2t (h:=h) (p:=p));have HRA:Hid (p.length=h.length -> ∀ k,k < p.length -> ¬ Q0n p k=h.getD k [] -> Q2d h p=11):=hid (fun hl k hk hn=>Y5m hl hk hn);have HRZ:=hid (Y2w (h:=h) (p:=p));clear h2 hS hr hcr hh;go_enter Tryz.func132,Tryz.ntmps132;go_wp2_with fail;change Calls _ _ _ ((w.alloc (.cells #[.int .i64 s.limit,.slice A s.ships.length capa,.slice B s.members.length capb] 34)).alloc (.cells #[.slice R p.length capr] 38)) _;obtain ⟨W,hWW,k0,k1,HXW,eW⟩:=Q4e w 34 #[.int .i64 s.limit,.slice A s.ships.length capa,.slice B s.members.length capb] 38 #[.slice R p.length capr];rw [hWW];clear hWW;have K0:=hid k0;have K1:=hid k1;obtain ⟨gs,hgs⟩:∃ x,w.heap.size=x:=⟨_,rfl⟩;rw [hgs] at K0 K1 eW ⊢;clear k0 k1;refine (HHI.out W HXW.out).mono ?_;rintro e w5 ⟨x,rfl,hx,hx5⟩;obtain ⟨H,caph,rfl,-,-,hch⟩:=hx.opened;have c1:=(K1.out.ext hx5).cell 0;simp only [Go.Tw.gA,Go.Tw.gB] at c1;have HCH:=hid hch;have HX5:=hid (HXW.out.trans hx5);have HK5:=hid (K1.out.ext hx5);clear hx hch hx5
 by_cases hl:p.length=h.length
 . have hne:((p.length:Int) != (h.length:Int))=false:=by simp [hl]
   have HL:=hid hl;clear hl;go_wp2;clear c1
   go_loopw [19] (fun i wr=>∃ k:Nat,k <= p.length /\ i=.int .i64 k /\ (∀ j,j < k -> Q0n p j=h.getD j []) /\ Ext w5 wr) (fun i _=>p.length - (intOf i).toNat)
   case atStart=>exact ⟨0,Nat.zero_le _,rfl,fun j hj=>by omega,Ext.refl _⟩
   case round =>
    obtain ⟨k,hk,rfl,hall,hxr⟩:=hrel;have HALL:=hid hall;clear hall
    by_cases hlt:k < p.length
    . obtain ⟨br,orr,xr,rfl,_,hx0,hx1,hxi⟩:=HCR.out k hlt
      obtain ⟨Xr,cxr,rfl,-,-,-⟩:=hxi.opened;obtain ⟨bh,oh,xh,rfl,_,hh0,hhi⟩:=HCH.out k (by have:=HL.out; omega)
      obtain ⟨Xh,cxh,rfl,-,-,-⟩:=hhi.opened;have hnx:=HRA.out HL.out k hlt;obtain ⟨cl,hcl⟩:∃ x,Q0n p k=x:=⟨_,rfl⟩;obtain ⟨cb,hcb⟩:∃ x,Q3p p k=x:=⟨_,rfl⟩;obtain ⟨hk1,hhk⟩:∃ x,h.getD k []=x:=⟨_,rfl⟩;rw [hcl] at hx0 hxi hnx;rw [hcb] at hx1;rw [hhk] at hh0 hhi hnx;obtain ⟨q,hq⟩:∃ q,decide (cl=hk1)=q:=⟨_,rfl⟩;have HQ:=hid hq;have HNX:=hid hnx;have HEQ:Hid (cl=hk1 -> ∀ j,j < k + 1 -> Q0n p j=h.getD j []):=hid (fun he j hj=>by
       by_cases hjk:j=k
       . subst hjk; rw [hcl,hhk]; exact he
       . exact HALL.out j (by omega))
      have hbox:=Ext.box wr (.cells #[.slice Xr cl.length cxr,.bool cb] 167);have K3:=Blk.made wr 167 #[.slice Xr cl.length cxr,.bool cb];have HXI:=hid (hxi.ext (HX5.out.trans (hxr.trans hbox)));have HHI2:=hid (hhi.ext (hxr.trans hbox));replace hx0:=(HX5.out.trans hxr).cell hx0;replace hx1:=(HX5.out.trans hxr).cell hx1;have hh2:=(hxr.trans hbox).cell hh0;have d0:=K3.cell 0;simp only [Go.Tw.gA,Go.Tw.gB] at d0;have hkI:(k:Int) < p.length:=by omega
      have hkH:(k:Int) < h.length:=by have:=HL.out; omega
      have HXB:=hid (hxr.trans hbox);clear hxi hhi hnx hcl hcb hhk hq hh0
      go_light
      go_wp2;obtain ⟨V,hV⟩:∃ V,wr.alloc (.cells #[.slice Xr cl.length cxr,.bool cb] 167)=V:=⟨_,rfl⟩;rw [hV] at HXB HXI HHI2 hh2 d0 hbox ⊢;have hdr:=(Ext.refl V).drew;clear hV K3 hbox hxr hx0 hx1;refine Flow.Q1o [.p,.w,.p,.p,.p,.w,.w,.p] [0,1,2,3,4,5,6,7] [[],[0],[],[],[2,3],[4],[1,5],[6]]
       [.c 0 (.pointer (some ⟨wr.heap.size,0,none⟩)),.c 1 (.slice Xr cl.length cxr),.c 2 (.slice (some ⟨bh,oh,none⟩) h.length caph),.c 3 (.int .i64 (k:Int)),.c 4 (.pointer (some ⟨bh,oh + k,none⟩)),.c 5 (.slice Xh hk1.length cxh),.c 6 (.bool q),.c 7 (.bool (!q))]
       (by kernel_rfl) rfl (by kernel_rfl) ⟨?g0,?g1,?g2,?g3,?g4,?g5,?g6,?g7,trivial⟩ ?post
      case g0 | g2 | g3=>
       intro v w1 hx;intro bb hbb;subst hbb;refine ⟨_,fun w=>?_,rfl⟩;go_simp
      case g1 | g5=>
       intro v w1 hx;(repeat intro (zq:v _=_));intro bb hbb;subst hbb;have d0:=hx.cell d0;have hh2:=hx.cell hh2;intro K hK;go_simp;exact hK _ _ (Ext.refl _) rfl
      case g4 | g7=>
       intro v w1 hx;(repeat intro (zq:v _=_));intro bb hbb;subst hbb;refine ⟨_,fun w=>?_,rfl⟩;go_simp
      case g6=>
       intro v w1 hx;(repeat intro (zq:v _=_));intro bb hbb;subst hbb;have d0:=hx.cell d0;have hh2:=hx.cell hh2;intro K hK;go_simp;refine Q0e (Z0c w1 _ _ cl hk1 (HXI.out.ext (hdr.trans hx)) (HHI2.out.ext (hdr.trans hx))) ?_;rintro e w2 ⟨rfl,hx2⟩;rw [HQ.out];exact ⟨_,rfl,hK _ _ hx2 rfl⟩
      case post =>
       intro v w1 hx;(iterate 8 intro (zq:v _=_));simp only [Flow.All,Flow.acts,Act.put];go_simp;have HX9:=hid (HXB.out.trans (hdr.trans hx));clear hx hdr d0 hh2;(repeat clear zq);cases q with
       | true =>
         have HE9:=hid (HEQ.out (of_decide_eq_true HQ.out));go_wp2;go_roundw
         case rel=>exact ⟨k + 1,by omega,by go_num,HE9.out,HX9.out⟩
         case measure=>simp [intOf]; omega
       | false =>
         have HE9:=hid (HNX.out (of_decide_eq_false HQ.out));go_wp2;go_ret;exact ⟨Q1d HE9.out.symm,HX5.out.trans HX9.out⟩
    . have HZ:Hid (Q2d h p=0):=hid (HRZ.out HL.out (fun j hj=>HALL.out j (by omega)))
      go_wp2;go_ret;exact ⟨Q1d HZ.out.symm,HX5.out.trans hxr⟩
 . have hne:((p.length:Int) != (h.length:Int))=true:=by simp; omega
   have HL:=hid (HRL.out hl);clear hl;go_wp2;go_ret;exact ⟨Q1d HL.out.symm,HX5.out⟩
theorem Q3t (w:World) (v u:Value) (s:Q0b) (p:List Rul) (hv:Q0h w v s) (hu:Q0w w u p) (hs:Q3k s) (hp:p.length <= 1000) :
    Calls Tryz.prog 61 #[v,u] w fun e w'=>e=.returned (.int .i64 (Q1g s p)) /\ Ext w w':=by
 obtain ⟨a,b,rfl,h2⟩:=hv;obtain ⟨rv,rfl,hr⟩:=hu;obtain ⟨A,capa,rfl,-,-,-⟩:=h2.ships.opened;obtain ⟨B,capb,rfl,-,-,-⟩:=h2.members.opened;obtain ⟨R,capr,rfl,-,-,-⟩:=hr.opened;have H2:=hid h2;have HR:=hid hr;have HS:=hid hs;clear h2 hr hs;go_enter Tryz.func61,Tryz.ntmps61;go_wp2_with fail;change Calls _ _ _ ((w.alloc (.cells #[.int .i64 s.limit,.slice A s.ships.length capa,.slice B s.members.length capb] 34)).alloc (.cells #[.slice R p.length capr] 38)) _;obtain ⟨W,hWW,k0,k1,HXW,eW⟩:=Q4e w 34 #[.int .i64 s.limit,.slice A s.ships.length capa,.slice B s.members.length capb] 38 #[.slice R p.length capr];rw [hWW];clear hWW;have K0:=hid k0;have K1:=hid k1;clear k0 k1;refine (Q1u _ _ s ⟨_,_,rfl,H2.out.ext HXW.out⟩ HS.out).mono ?_;rintro e w5 ⟨rfl,hx5⟩;have HX5:=hid (HXW.out.trans hx5)
 by_cases he:s.err=0
 . have HV:=hid (Q1b.of he)
   have HPE:Hid (Q1g s p=Q2d s.hist p):=hid (if_neg (fun hn=>hn he));have hne:(s.err != 0)=false:=by simp [he]
   obtain ⟨E,hE⟩:∃ E,s.err=E:=⟨_,rfl⟩;have c0:=(K0.out.ext hx5).cell 0;have c1:=(K0.out.ext hx5).cell 1;have c2:=(K0.out.ext hx5).cell 2;simp only [Go.Tw.gA,Go.Tw.gB,Go.Tw.gC] at c0 c1 c2;have d0:=(K1.out.ext hx5).cell 0;simp only [Go.Tw.gA,Go.Tw.gB] at d0;rw [hE] at hne ⊢;clear he hE hx5;go_wp2_with (go_at_call 132; refine (X6o _ _ _ s p ⟨_,_,rfl,H2.out.ext HX5.out⟩ ⟨_,rfl,HR.out.ext HX5.out⟩ HV.out hp).mono ?_; rintro e w6 ⟨rfl,hx6⟩);go_ret;exact ⟨Q1d HPE.out.symm,HX5.out.trans hx6⟩
 . have HPE:Hid (Q1g s p=s.err):=hid (if_pos he)
   have hne:(s.err != 0)=true:=by simp [he]
   obtain ⟨E,hE⟩:∃ E,s.err=E:=⟨_,rfl⟩;rw [hE] at hne HPE ⊢;clear he hE hx5;go_wp2;go_ret;exact ⟨Q1d HPE.out.symm,HX5.out⟩
end Go.Proofs
namespace Go.Proofs
open Go.RowKit Go.Tw Go.Flow
attribute [local go_sem] Oper.semAt_some
theorem Tryz.Z9v:(Tryz.prog.info? 115).map (fun i=>(i.zero,i.size,i.bytes))=some (some (.agg #[.slice none 0 0,.bool false]),2,32):=by kernel_rfl
def X8h (q:Value × Rul):List Value:=[q.1,.bool q.2.close]
theorem Y8f (q:Value × Rul):(X8h q).length=2:=rfl
theorem X7w {w w0:World} {B:Nat} {T:TypeId} {v:Value} {qs:List (Value × Rul)} (h:Q0z w B T 2 X8h v qs) (hl:qs.length <= 100000) (hr:∀ q ∈ qs,Q0d w0 q.1 q.2.classes) (hx:Ext w0 w):Q3m w v (qs.map (·.2)):=by
 refine h.rowsOf (by simp) (by simp; omega) Y8f (fun j h1 h2=>?_) (fun c c' x hc h=>?_)
 . have hq:=List.getElem_mem h1
   simp only [List.getElem_map];exact ⟨(hr _ hq).ext hx,rfl⟩
 . exact ⟨by rw [<- hc 0 (by omega)]; exact h.1,by rw [<- hc 1 (by omega)]; exact h.2⟩
theorem Y1a {w w':World} {base n size B:Nat} {e:TypeId} {v:Value} {xs:List Value} {o:Obj} (hown:w.ownsRow base e size v n xs) (hg:(w.alloc o).grownBy w' v.ownBlock) (hb:B <= base) (hB:B <= w.heap.size):Below B w w' :=
 Below.grown ((Below.refl B w).alloc hB o) hg (by simp; omega) (fun k hk=>Nat.le_trans hb (hown.lt k hk).1)
theorem _root_.Go.Tw.Q0z.X0g {α:Type} {w:World} {base k:Nat} {e:TypeId} {enc:α -> List Value} {v:Value} {l:List α} (h:Q0z w base e k enc v l) {p:Addr} (hp:p.block < base) (u:Value):Q0z (w.setCell p u) base e k enc v l:=h.only hp (Q2p _ _ _)
theorem _root_.Go.Tw.Ext.Y0h {w w':World} (h:Ext w w') {p:Addr} (hp:w.heap.size <= p.block) (u:Value):Ext w (w'.setCell p u):=Below.setCell h hp u
theorem Y7d (w:World) (v:Value) (p:List Rul) (hv:Q0w w v p) (hl:p.length <= 4096) :
    Calls Tryz.prog 26 #[v] w fun e w'=>∃ u,e=.returned u /\ Q0w w' u p /\ Ext w w':=by
 obtain ⟨i0,hi,hz0,hz1,hz2⟩:=info_parts Tryz.Z9v;obtain ⟨a,rfl,h2⟩:=hv;obtain ⟨A,cap,rfl,-,hcap,hc⟩:=h2.opened;have HC:=hid hc;obtain ⟨n,hn⟩:∃ n,p.length=n:=⟨_,rfl⟩;have HN:=hid hn;rw [hn] at hl HC ⊢;clear h2 hc hn hcap;go_enter Tryz.func26,Tryz.ntmps26;go_wp2_with fail;obtain ⟨W,hWW,k0,k1,k2,HXW,eW⟩:=X2z w 38 #[.slice A n cap] 47 #[.slice none 0 0] 47 #[.slice none 0 0];rw [hWW];clear hWW;obtain ⟨gp,hgp⟩:∃ x,w.heap.size=x:=⟨_,rfl⟩;have HGP:=hid hgp;rw [hgp] at k1 k2 eW ⊢;have K1:=hid k1;clear k0 k1 hgp
 go_loopw [9] (fun i wr=>∃ (k:Nat) (vo:Value) (qs:List (Value × Rul)),k <= n /\ i=.int .i64 k /\ Blk wr (gp + 1 + 1) 47 #[vo] /\ Q0z wr (gp + 1 + 1 + 1) 115 2 X8h vo qs /\ qs.map (·.2)=p.take k /\ (∀ q ∈ qs,Q0d w q.1 q.2.classes) /\ Below (gp + 1 + 1) W wr /\ gp + 1 + 1 + 1 <= wr.heap.size) (fun i _=>n - (intOf i).toNat)
 case atStart=>exact ⟨0,_,[],Nat.zero_le _,rfl,k2,Q0z.nil _ _ _ _ _,rfl,(fun q hq=>by simp at hq),Below.refl _ _,by omega⟩
 case round =>
  obtain ⟨k,vo,qs,hk,rfl,hbo,hown,hqs,hqr,hlow,hsz⟩:=hrel;have hxr:Ext w wr:=Below.trans HXW.out (hlow.mono (by have:=HGP.out; omega))
  have hqk:qs.length=k:=by rw [<- List.length_map (f:=(·.2)),hqs,List.length_take,HN.out]; omega
  have HQR:=hid hqr;have HQS:=hid hqs;have HLO:=hid hlow
  by_cases hlt:k < n
  . have hkI:(k:Int) < n:=by omega
    obtain ⟨b,off,x,rfl,hb,e0,e1,hi0⟩:=HC.out k hlt;replace e0:=hxr.cell e0;replace e1:=hxr.cell e1;obtain ⟨X,capx,rfl,-,-,-⟩:=hi0.opened;have hpk:p.take (k + 1)=p.take k ++ [⟨Q0n p k,Q3p p k⟩]:=by
     rw [List.take_succ_eq_append_getElem (by rw [HN.out]; exact hlt),Q0n,Q3p,Q0v _ (by rw [HN.out]; exact hlt)]
    have HI:=hid hi0;have HPK:=hid hpk;obtain ⟨cs,hcs⟩:∃ c,Q0n p k=c:=⟨_,rfl⟩;obtain ⟨cb,hcb⟩:∃ c,Q3p p k=c:=⟨_,rfl⟩;rw [hcs] at e0 HI HPK;rw [hcb] at e1 HPK;have hbx:=Ext.box wr (.cells #[.slice X cs.length capx,.bool cb] 167);have c2:(wr.alloc (.cells #[.slice X cs.length capx,.bool cb] 167)).cell? ⟨gp + 1 + 1,0,none⟩=some vo:=(hbo.ext hbx).cell 0;obtain ⟨wq,rfl⟩:∃ Z,Z=wr:=⟨_,rfl⟩;clear hqs hqr hlow hxr hi0 hpk hcs hcb;go_wp2_with (at_builtin; refine halted ?_);unfold Q1i;have hes:(wq.alloc (.cells #[.slice X cs.length capx,.bool cb] 167)).heap.size=wq.heap.size + 1:=by simp
    obtain ⟨wb,hwb⟩:∃ Z,wq.alloc (.cells #[.slice X cs.length capx,.bool cb] 167)=Z:=⟨_,rfl⟩;rw [hwb] at hbx hes ⊢;rw [<- hes];have hown1:=hown.below hbx;have hbo1:=hbo.ext hbx;have HBO:=hid hbo1;have HBX:=hid hbx;have hsz1:gp + 1 + 1 + 1 <= wb.heap.size:=by omega
    clear hbo hown hwb c2 hbo1
    (at_builtin; refine wpList_append_own _ rfl _ _ 45 rfl (gp + 1 + 1 + 1) 115 i0 (.agg #[.slice none 0 0,.bool false]) 2 32 Tryz.underlying45 hi hz0 hz1 hz2 rfl (by decide) _ _ _ rfl (World.ownsRow.alloc hown1 _) ⟨wb.heap.size,0,none⟩ 1 1 [.slice X cs.length capx,.bool cb] rfl rfl ?_ ?_ ?_ ?_ ?_ ?_; exact X9i _ _ _; (focus (simp [Value.oneCell'])); (focus (unfold maxLen; omega)); (focus omega); (focus (have:=hbx.size; simp at this ⊢; omega)); intro v' w1 hown' hgrow _)
    refine halted ?_;have hbl:=Y1a hown1 hgrow (Nat.le_refl _) hsz1;have hb1:=HBO.out.below hbl (by omega)
    have c1':w1.cell? ⟨gp + 1 + 1,0,none⟩=some vo:=hb1.cell 0;have f1:=hb1.frozen 0;have HB1:=hid hb1;have HBL:=hid hbl;have HSZ1:Hid (gp + 1 + 1 + 1 <= w1.heap.size):=hid (by have:=hbl.size; omega)
    have HOW:=hid (show Q0z w1 (gp + 1 + 1 + 1) 115 2 X8h v' (qs ++ [(.slice X cs.length capx,⟨cs,cb⟩)]) from Q0z.snoc hown')
    obtain ⟨Av,cv',rfl,-⟩:=HOW.out.shape;clear hgrow hb1 hbl hown' hown1 hbx e0 e1;unfold Q1i;go_wp2;go_roundw
    case rel=>exact ⟨k + 1,_,qs ++ [(.slice X cs.length capx,⟨cs,cb⟩)],by omega,by go_num,HB1.out.set 0 _,by have h:=HOW.out; rw [List.length_append,hqk] at h; exact h.X0g (p:=⟨gp + 1 + 1,0,none⟩) (Nat.lt_succ_self _) _,by rw [List.map_append,HQS.out,HPK.out]; rfl,
     (fun q hq=>by
      rcases List.mem_append.1 hq with hq | hq
      . exact HQR.out q hq
      . rw [List.mem_singleton.1 hq]; exact HI.out),
     (Below.trans HLO.out (Below.trans (HBX.out.mono (by omega)) (HBL.out.mono (Nat.le_succ _)))).setCell (p:=⟨gp + 1 + 1,0,none⟩) (Nat.le_refl _) _,by have:=HSZ1.out; simp; omega⟩
    case measure=>simp [intOf]; omega
  . have hkI:¬ (k:Int) < n:=by omega
    have hkn:k=n:=by omega
    subst hkn;have hp:p.take k=p:=by rw [List.take_of_length_le (by rw [HN.out]; omega)]
    obtain ⟨Av,cv',rfl,-⟩:=hown.shape;rw [hqk] at hown hbo;have HOWN:=hid hown;have HQK:=hid hqk;have c0:wr.cell? ⟨gp + 1 + 1,0,none⟩=_:=hbo.cell 0;simp only [Go.Tw.gA,Go.Tw.gB] at c0;have hk1:=K1.out.below HLO.out (by omega)
    have c1:wr.cell? ⟨gp + 1,0,none⟩=some (.slice none 0 0):=hk1.cell 0;have f1:=hk1.frozen 0;have HK1:=hid hk1;have HXR:=hid hxr;clear hbo hown hqs hqr hlow hxr hk1;go_wp2;refine bodyPost_ret (Q1v Tryz.results26 rfl (HK1.out.set 0 _) Tryz.Z9i Tryz.Z7k) rfl ?_;refine ⟨_,rfl,⟨_,rfl,?_⟩,HXR.out.Y0h (p:=⟨gp + 1,0,none⟩) (by show w.heap.size <= gp + 1; have:=HGP.out; omega) _⟩
    have h:=X7w (HOWN.out.X0g (p:=⟨gp + 1,0,none⟩) (by show gp + 1 < gp + 1 + 1 + 1; omega) (.slice Av k cv')) (by rw [HQK.out]; omega) HQR.out (HXR.out.Y0h (p:=⟨gp + 1,0,none⟩) (by show w.heap.size <= gp + 1; have:=HGP.out; omega) _)
    rw [HQS.out,hp] at h;exact h
end Go.Proofs
namespace Go.Proofs
open Go.RowKit Go.Tw Go.Flow
attribute [local go_sem] Oper.semAt_some
theorem Y4r (w:World) (gS gM k:Nat) (a b:Value) (s:Q0b) (m0 m1 m3 m4 mc:Value) (cl:List Int) (hS:Blk w gS 34 #[.int .i64 s.limit,a,b]) (hs:Q7y w a b s) (hM:Blk w gM 69 #[m0,m1,mc,m3,m4]) (hc:Q0d w mc cl) (hk:k < s.members.length) :
    Calls Tryz.prog 169 #[.int .i64 (k:Int),.pointer (some ⟨gS,0,none⟩),.pointer (some ⟨gM,0,none⟩)] w fun e w'=>e=.returned (.bool (decide (Q0c s.members k=cl))) /\ Ext w w':=by
 obtain ⟨B,capb,rfl,-,-,-⟩:=hs.members.opened;obtain ⟨bm,off,capx,capy,capz,X,Y,Z,hme⟩:=Q2l hs.members hk;have hA:=hme.addr;subst hA;have HE2:=hid hme.e2;have HEQ:=hid (fun (w1:World) (hx:Ext w w1)=>Z0i w1 _ _ _ cl (hme.x.ext hx) (hc.ext hx));obtain ⟨lc,hlc⟩:∃ x,(Q0c s.members k).length=x:=⟨_,rfl⟩;rw [hlc] at HE2 HEQ;obtain ⟨q,hq⟩:∃ q,decide (Q0c s.members k=cl)=q:=⟨_,rfl⟩;rw [hq] at HEQ ⊢;have HSB:=hid hS;have HMB:=hid hM;have hkI:(k:Int) < s.members.length:=by omega
 obtain ⟨M,hMl⟩:∃ M,s.members.length=M:=⟨_,rfl⟩;rw [hMl] at HSB hkI hk;have hdr:=(Ext.refl w).drew;clear hme hlc hq hS hM hs hc hMl;go_enter Tryz.func169,Tryz.ntmps169;go_wp2_with fail;refine Flow.Q1o [.p,.w,.p,.p,.p,.w,.p,.w,.w,.p] [0,1,2,3,4,5,6,7,8,9] [[],[0],[],[1,2],[3],[4],[],[6],[5,7],[0,1,2,3,4,5,6,7,8]]
  [.c 0 (.pointer (some ⟨gS,2,none⟩)),.c 1 (.slice (some ⟨bm,off,none⟩) M capb),.c 2 (.int .i64 (k:Int)),.c 3 (.pointer (some ⟨bm,off + k * 5,none⟩)),.c 4 (.pointer (some ⟨bm,off + k * 5 + 2,none⟩)),.c 5 (.slice X lc capx),.c 6 (.pointer (some ⟨gM,2,none⟩)),.c 7 (mc),.c 8 (.bool q),.c 9 (.bool q)]
  (by kernel_rfl) rfl (by kernel_rfl) ⟨?g0,?g1,?g2,?g3,?g4,?g5,?g6,?g7,?g8,?g9,trivial⟩ ?post
 case g0 | g2 | g6=>
  intro v w1 hx;intro bb hbb;subst hbb;refine ⟨_,fun w=>?_,rfl⟩;go_simp
 case g1 | g5 | g7=>
  intro v w1 hx;(repeat intro (zq:v _=_));intro bb hbb;subst hbb;have n0:w1.cell? ⟨gS,2,none⟩=some (.slice (some ⟨bm,off,none⟩) M capb):=(HSB.out.ext (hdr.trans hx)).cell 2;have n1:w1.cell? ⟨bm,off + k * 5 + 2,none⟩=some (.slice X lc capx):=(hdr.trans hx).cell HE2.out;have n2:w1.cell? ⟨gM,2,none⟩=some mc:=(HMB.out.ext (hdr.trans hx)).cell 2;intro K hK;go_simp;exact hK _ _ (Ext.refl _) rfl
 case g3 | g4 | g9=>
  intro v w1 hx;(repeat intro (zq:v _=_));intro bb hbb;subst hbb;refine ⟨_,fun w=>?_,rfl⟩;go_simp
 case g8=>
  intro v w1 hx;(repeat intro (zq:v _=_));intro bb hbb;subst hbb;intro K hK;go_simp;refine Q0e (HEQ.out w1 (hdr.trans hx)) ?_;rintro e w2 ⟨rfl,hx2⟩;exact ⟨_,rfl,hK _ _ hx2 rfl⟩
 case post =>
  intro v w1 hx;(iterate 10 intro (zq:v _=_));simp only [Flow.All,Flow.acts,Act.put];go_simp;have HX:=hid (hdr.trans hx);clear hx hdr;(repeat clear zq);go_wp2;go_ret;exact ⟨rfl,HX.out⟩
end Go.Proofs
namespace Go.Flow
open Go.RowKit Go.Tw
def Z4a (F:Fence) (n:Nat) (P:Program) (g:Nat) (lb:Array Value) (N:Nat) (R:Nat -> Value -> World -> Prop) (Kp:World -> World -> Prop) (w:World):Prop :=
 ∀ (l:Nat) (J:Nat -> World -> Prop) (W:World),Ext w W -> (∀ k A B,J k A -> Ext A B -> J k B) ->
  (∀ k v W1,k < N -> J k W1 -> R k v W1 -> YieldAt F (n - 1) P l #[v] W1 fun e W'=>e=.returned (.bool true) /\ J (k + 1) W' /\ Kp W1 W') ->
  J 0 W -> CallsIn F n P g (#[.func (.yield l) #[] #[]] ++ lb) W fun e W'=>(∃ v,e=.returned v) /\ J N W'
def Turns (B:Nat) (A A':World):Prop:=∃ l o o',B <= l /\ A.heap[l]?=some o /\ o.isCells=false /\ A'=A.putObj l o'
theorem Turns.cells {B:Nat} {A A':World} (h:Turns B A A') {b:Nat} {o:Obj} (hb:A.heap[b]?=some o) (hc:o.isCells=true):A'.heap[b]?=some o:=by
 obtain ⟨l,o1,o',hB,hl,hn,rfl⟩:=h;have hne:b ≠ l:=fun e=>by subst e; rw [hb] at hl; cases hl; rw [hc] at hn; cases hn
 rw [World.putObj_heap_other hne]; exact hb
theorem Turns.cell {B:Nat} {A A':World} (h:Turns B A A') {p:Addr} {v:Value} (hp:A.cell? p=some v):A'.cell? p=some v:=by
 have hlt:=World.block_lt_of_cell? A p hp;have hb:A.heap[p.block]?=some A.heap[p.block]:=Array.getElem?_eq_getElem hlt;have hc:A.heap[p.block].isCells=true:=by
  unfold World.cell? at hp;rw [hb] at hp;cases ho:A.heap[p.block] <;> rw [ho] at hp <;> simp_all [Obj.isCells]
 have hb2:=h.cells hb hc;unfold World.cell? at hp ⊢;rw [hb2]; rw [hb] at hp; exact hp
theorem X4k {W W':World} (h:Ext W W'):KeepsOthers W W':=⟨h.size,fun k o hk _=>by rw [h.block k (Array.getElem?_eq_some_iff.1 hk).1]; exact hk⟩
def Z4c (Kp:World -> World -> Prop) (I:Nat -> World -> Prop) (k:Nat) (W:World):Exit -> Act -> World -> Prop
 | .normal,_,W'=>KeepsOthers W W' /\ Kp W W' /\ I (k + 1) W'
 | _,_,_=>False
theorem Q9s {F:Fence} {n:Nat} {P:Program} {g:Operand} {ps:Array Tmp} {assign body:Code} {Q:Exit -> Act -> World -> Prop} {a:Act} {w:World}
    (hro:F.round=none) (h1:1 <= n) {gf:Nat} {lb:Array Value} (hg:a.eval g=.func (.func gf) #[] lb) (hFg:F.fn gf) (eg:∀ args w,(callFunc gf args).run P w=.ok (.enter gf args) w)
    {N:Nat} {R:Nat -> Value -> World -> Prop} {Kp:World -> World -> Prop} (hseq:Z4a F (n - 1) P gf lb N R Kp w) (hps:ps.size=1)
    (hKt:∀ {A B C:World},Kp A B -> Kp B C -> Kp A C) (hKp:∀ {A A':World},Turns w.heap.size A A' -> Kp A A')
    (hRp:∀ {k v} {A A':World},Turns w.heap.size A A' -> R k v A -> R k v A')
    (I:Nat -> World -> Prop) (hIx:∀ k A B,I k A -> Ext A B -> I k B) (hIp:∀ {k} {A A':World},Turns w.heap.size A A' -> I k A -> I k A') (h0:I 0 w) (a₁:Value -> Act)
    (hassign:∀ (l:Nat) (v:Value) (W:World) (K:Act -> World -> Prop),K (a₁ v) W ->
     assign.wpIn (F.inRound l) (n - 1 - 1) P (Exit.then K (fun _ _ _=>False)) { tmps:=(ps.zip #[v]).foldl (fun t (p,v)=>t.setIfInBounds p v) a.tmps,defers:=[] } W)
    (hbody:∀ (l k:Nat) (v:Value) (W:World),k < N -> I k W -> R k v W -> body.wpIn (F.inRound l) (n - 1 - 1) P (Z4c Kp I k W) (a₁ v) W)
    (hdone:∀ (D:Nat) (W:World),w.heap.size <= D -> I N W -> W.heap[D]?=some (.deferred (some [])) -> Q .normal { a with defers:={ target:=.collected D,args:=#[] } :: a.defers } W) :
    (Code.rangeFunc g ps assign body).wpIn F n P Q a w:=by
 refine wpIn_rangeFunc fun fn hfn=>?_;rw [hro];obtain ⟨st,hst⟩:∃ st:LoopState -> Loop,st=fun s=>{ state:=s,pending:=none,fn,tmps:=a.tmps,params:=ps,assign,body,defers:=w.heap.size }:=⟨_,rfl⟩
 have stp:∀ s,(st s).pending=none:=fun s=>by rw [hst]
 have sts:∀ s,(st s).state=s:=fun s=>by rw [hst]
 have stu:∀ s s',({ (st s) with state:=s' }:Loop)=st s':=fun s s'=>by rw [hst]
 have ste:∀ s s',({ (st s) with state:=s',pending:=none }:Loop)=st s':=fun s s'=>by rw [hst]
 obtain ⟨W1,hW1⟩:∃ W1,(w.alloc (.deferred (some []))).alloc (.loop (st .ready))=W1:=⟨_,rfl⟩;have hx1:Ext w W1:=by rw [<- hW1]; exact ((Ext.refl w).alloc _).alloc _
 have hD1:W1.heap[w.heap.size]?=some (.deferred (some [])):=by
  rw [<- hW1]; show ((w.heap.push _).push _)[w.heap.size]?=_; simp [Array.getElem?_push]
 have hL1:W1.heap[w.heap.size + 1]?=some (.loop (st .ready)):=by
  have:=World.alloc_heap_new (w.alloc (.deferred (some []))) (.loop (st .ready));rw [World.size_alloc] at this;rw [<- hW1]; exact this
 refine ⟨w.heap.size + 1,[{ target:=.collected w.heap.size,args:=#[] }],W1,{ target:=.fn (.func gf) lb,args:=#[.func (.yield (w.heap.size + 1)) #[] #[]] },W1,gf,
  #[.func (.yield (w.heap.size + 1)) #[] #[]] ++ lb,W1,?_,?_,?_,?_,fun _=>h1,?_⟩
 . rw [<- hW1,hst]; exact run_enterLoop_outer _ _ _ _ _
 . simp only [resolve,hg]; simp [go_sem]
 . intro f' hf'; simp [Target.leads] at hf'; subst hf'; exact hFg
 . simp [invoke,go_sem,eg]
 refine (hseq (w.heap.size + 1) (fun k W=>I k W /\ W.heap[w.heap.size + 1]?=some (.loop (st .ready)) /\ W.heap[w.heap.size]?=some (.deferred (some []))) W1 hx1 ?grow ?round
  ⟨hIx 0 _ _ h0 hx1,hL1,hD1⟩).mono ?done
 case grow =>
  rintro k A B ⟨hi,hl,hd⟩ hx;exact ⟨hIx k A B hi hx,by rw [Below.block hx _ (Array.getElem?_eq_some_iff.1 hl).1]; exact hl,by rw [Below.block hx _ (Array.getElem?_eq_some_iff.1 hd).1]; exact hd⟩
 case round =>
  rintro k v W hk ⟨hi,hl,hd⟩ hr;have hlt:=(Array.getElem?_eq_some_iff.1 hl).1;have hy:=run_yield (P:=P) (args:=#[v]) hl (by rw [hst]; simp [hps])
  rw [hst] at hy;refine ⟨fn,_,assign,body,hy,roundIn_of_wpIn hfn (hassign _ v W _ ⟨_,run_beginRound hl (sts _),?_⟩)⟩;rw [stu];obtain ⟨V,hV⟩:∃ V,W.putObj (w.heap.size + 1) (.loop (st .busy))=V:=⟨_,rfl⟩;have hturn:Turns w.heap.size W V:=⟨_,_,_,by omega,hl,rfl,hV.symm⟩
  have hl2:V.heap[w.heap.size + 1]?=some (.loop (st .busy)):=by rw [<- hV]; exact World.putObj_heap_same hlt
  have hd2:V.heap[w.heap.size]?=some (.deferred (some [])):=by rw [<- hV]; exact (World.putObj_heap_other (by omega)).trans hd
  rw [hV];refine wpIn_mono (hbody _ k v V hk (hIp hturn hi) (hRp hturn hr)) ?_;rintro e a3 W3 hp;cases e with
  | normal =>
    obtain ⟨hk3,hkp,hi3⟩:=hp;have hl3:=hk3.same _ _ hl2 rfl;have hend:=run_endRound (P:=P) none hl3;refine ⟨_,_,hend,rfl,?_,?_⟩
    . have e1:({ (st .busy) with state:=if (none:Option Code).isNone then .ready else .done,pending:=none }:Loop)=st .ready:=by rw [hst]; rfl
      rw [e1];have hturn3:Turns w.heap.size W3 (W3.putObj (w.heap.size + 1) (.loop (st .ready))):=⟨_,_,_,by omega,hl3,rfl,rfl⟩
      exact ⟨hIp hturn3 hi3,World.putObj_heap_same (Array.getElem?_eq_some_iff.1 hl3).1,(World.putObj_heap_other (by omega)).trans (hk3.same _ _ hd2 rfl)⟩
    . exact hKt (hKp hturn) (hKt hkp (hKp ⟨_,_,_,by omega,hl3,rfl,rfl⟩))
  | ret=>exact hp.elim
  | exit id=>exact hp.elim
  | goto t=>exact hp.elim
  | panic ch=>exact hp.elim
  | outgrown=>exact hp.elim
 case done =>
  rintro e W2 ⟨⟨v,rfl⟩,hi,hl,hd⟩;have he:=run_endLoop (P:=P) hl (by rw [sts]; simp)
  rw [stp] at he;exact ⟨none,_,he,hdone _ _ (Nat.le_refl _) (hIp ⟨_,_,_,by omega,hl,rfl,rfl⟩ hi) ((World.putObj_heap_other (by omega)).trans hd)⟩
theorem X9j {ops:Array Oper} {b:Act} {o:Oper} {j:Nat} {want:Bool} {d:Tmp} {T F:Prop} (hg:o.guard=some (j,want)) (hd:(ops[j]?).bind (·.dst)=some d) (hsz:d < b.tmps.size) (hv:b.eval (.tmp d)=undef) (h:F):Guarded ops o b T F:=by
 unfold Guarded;rw [hg];refine .inr ⟨?_,h⟩;have h2:b.tmps[d]?=some undef:=by
  have:b.tmps.getD d undef=undef:=hv;rw [Array.getD_eq_getD_getElem?,Array.getElem?_eq_getElem hsz] at this;rw [Array.getElem?_eq_getElem hsz];exact congrArg some this
 unfold Region.wanted;rw [hg];show (yielded ops b.tmps j == some want)=_;have:yielded ops b.tmps j=none:=by
  unfold yielded;rw [hd];show (match b.tmps[d]? with | some (.bool b)=>some b | _=>none)=_
  rw [h2]; rfl
 rw [this]; rfl
theorem Turns.below {B n:Nat} {A A':World} (h:Turns B A A') (hn:n <= B):Below n A A':=by
 obtain ⟨l,o,o',hB,hl,_,rfl⟩:=h;have hlt:=(Array.getElem?_eq_some_iff.1 hl).1;refine Below.grown (Below.refl n A) (grownBy_putObj' A l o') (by omega) (fun k e=>by cases e; omega)
theorem Turns.own {α:Type} {B b:Nat} {A A':World} (h:Turns B A A') {T:TypeId} {enc:α -> Value} {v:Value} {l:List α} (ho:Q0q A b T enc v l):Q0q A' b T enc v l:=by
 obtain ⟨h1,h2⟩:=ho;refine ⟨h1,?_⟩
 rcases h2 with h2 | ⟨g,cap,cur,hv,hbg,hgl,r⟩
 . exact .inl h2
 . exact .inr ⟨g,cap,cur,hv,hbg,h.cells hgl rfl,r⟩
theorem Turns.blk {B g:Nat} {A A':World} (h:Turns B A A') {T:TypeId} {cs:Array Value} (hb:Blk A g T cs):Blk A' g T cs:=h.cells hb rfl
theorem Turns.same {B b:Nat} {A A':World} (h:Turns B A A') (hb:b < B):A'.heap[b]?=A.heap[b]?:=by
 obtain ⟨l,o,o',hB,hl,_,rfl⟩:=h;exact World.putObj_heap_other (by omega)
end Go.Flow
namespace Go.Proofs
open Go.RowKit Go.Tw Go.Flow
attribute [local go_sem] Oper.semAt_some
theorem Z9z {n:Nat} (h:n < 62):wrap64 (2 ^ n)=((2 ^ n:Nat):Int):=by
 have h1:(2:Nat) ^ n < 2 ^ 62:=Nat.pow_lt_pow_right (by omega) h
 have h2:((2 ^ n:Nat):Int)=2 ^ n:=by simp
 rw [<- h2];obtain ⟨m,hm⟩:∃ m,2 ^ n=m:=⟨_,rfl⟩;rw [hm] at h1 ⊢;unfold wrap64; omega
theorem Z2f {s:Nat} (hs:s < 2 ^ 62) (i:Nat):(bits .and .i64 ((s:Int) / 2 ^ i) 1 == 1)=s.testBit i:=by
 have h1:(s:Int) / 2 ^ i=((s / 2 ^ i:Nat):Int):=by simp
 have h2:bits .and .i64 ((s / 2 ^ i:Nat):Int) 1=((s / 2 ^ i &&& 1:Nat):Int):=J1p (a:=s / 2 ^ i) (b:=1) (Nat.lt_of_le_of_lt (Nat.div_le_self _ _) hs) (by decide)
 rw [h1,h2,Nat.and_one_is_mod,J1n];have h3:s / 2 ^ i % 2=0 ∨ s / 2 ^ i % 2=1:=by omega
 rcases h3 with h | h <;> rw [h] <;> rfl
theorem Y0n (w:World) (n:Int) :
    Calls Tryz.prog 112 #[.int .i64 n] w fun e w'=>e=.returned (.func (.func 170) #[] #[.pointer (some ⟨w.heap.size,0,none⟩)]) /\ Blk w' w.heap.size 3 #[.int .i64 n] /\ w'.heap.size=w.heap.size + 1 /\ Ext w w':=by
 go_enter Tryz.func112,Tryz.ntmps112;go_wp2;go_ret;exact ⟨rfl,Blk.made _ _ _,by simp,Ext.box _ _⟩
def X2p (n T k:Nat):List Bool:=(List.range k).map fun i=>n.testBit (T - 1 - i)
theorem Y5z (n T k:Nat):X2p n T (k + 1)=X2p n T k ++ [n.testBit (T - 1 - k)]:=by unfold X2p; rw [List.range_succ,List.map_append]; rfl
theorem Y8n (n T k:Nat):(X2p n T k).length=k:=by simp [X2p]
theorem Y9e (n T:Nat):X2p n T T=Q5u n T:=rfl
def Z6q (Be:Nat) (A B:World):Prop:=B.heap[Be]?=A.heap[Be]?
theorem X1n (m Be T:Nat) (w:World) (hT:T <= 8) (hb:Blk w Be 3 #[.int .i64 (T:Int)]) :
    Z4a Fence.wide m Tryz.prog 170 #[.pointer (some ⟨Be,0,none⟩)] (2 ^ T) (fun k v W=>Q0q W 0 4 .bool v (Q5u k T)) (Z6q Be) w:=by
 obtain ⟨i0,hi,hz0,hz1,hz2⟩:=info_parts Tryz.Y8e;intro l J W hW hJ hY h0;have hbW:=hb.ext hW;have hcell:W.cell? ⟨Be,0,none⟩=some (.int .i64 (T:Int)):=hbW.cell 0;have p1:=Z9z (n:=T) (by omega)
 obtain ⟨N,hN⟩:∃ N,2 ^ T=N:=⟨_,rfl⟩;rw [hN] at p1 hY ⊢;have hN2:N <= 256:=by rw [<- hN]; exact Nat.pow_le_pow_right (n:=2) (by omega) hT
 have HBW:=hid hbW;clear hb hbW hN hW;refine callsIn_of_wp Tryz.func170 rfl trivial ?_ rfl;simp only [Tryz.ntmps170,List.size_toArray,List.length_cons,List.length_nil,Nat.reduceAdd,Nat.reduceSub,Array.replicate_succ,Array.replicate_zero,List.push_toArray,List.append_toArray,List.nil_append,List.cons_append]
 gi_wp2
 clear hcell
 gi_loopw [8] (fun p wr=>∃ k:Nat,k <= N /\ p=.int .i64 k /\ J k wr /\ Blk wr Be 3 #[.int .i64 (T:Int)]) (fun p _=>N - (intOf p).toNat)
 case atStart=>exact ⟨0,Nat.zero_le _,rfl,h0,HBW.out⟩
 case round =>
  obtain ⟨k,hk,rfl,hJk,hbk⟩:=hrel
  by_cases hlt:k < N
  . have hkI:(k:Int) < N:=by omega
    have hck:wr.cell? ⟨Be,0,none⟩=some (.int .i64 (T:Int)):=hbk.cell 0;have HBK:=hid hbk;have HJK:=hid hJk;have HY:=hid (fun v W1 h1 h2=>hY k v W1 hlt h1 h2);clear hJk hbk;obtain ⟨wo,rfl⟩:∃ X,X=wr:=⟨_,rfl⟩
    gi_wp2
    clear hck
    gi_loopw [4,12] (fun o t w2=>∃ j:Nat,j <= T /\ t=.int .i64 j /\ Q0q w2 wo.heap.size 4 .bool o (X2p k T j) /\ Ext wo w2) (fun _ t _=>T - (intOf t).toNat)
    case atStart=>exact ⟨0,Nat.zero_le _,rfl,Q0q.nil _ _ _ _,Ext.refl _⟩
    case round =>
     obtain ⟨j,hj,rfl,hown,hx2⟩:=hrel;have hbk2:=HBK.out.ext hx2;have hc2:wr.cell? ⟨Be,0,none⟩=some (.int .i64 (T:Int)):=hbk2.cell 0
     by_cases hjT:j < T
     . have hjI:(j:Int) < T:=by omega
       have hw1:IntKind.i64.wrap ((T:Int) - 1)=(T:Int) - 1:=Q2v _ (by omega) (by omega)
       have hw2:IntKind.i64.wrap ((T:Int) - 1 - (j:Int))=(T:Int) - 1 - (j:Int):=Q2v _ (by omega) (by omega)
       have hsn:((T:Int) - 1 - (j:Int)).toNat=T - 1 - j:=by omega
       have hs0:¬ (T:Int) - 1 - (j:Int) < 0:=by omega
       have hmn:min (T - 1 - j) 64=T - 1 - j:=by omega
       have hb1:=Z2f (s:=k) (by omega) (T - 1 - j)
       have HSU:=hid (Y5z k T j);obtain ⟨q,hq⟩:∃ x,k.testBit (T - 1 - j)=x:=⟨_,rfl⟩;rw [hq] at hb1 HSU;have hll:(X2p k T j).length <= 4096:=by rw [Y8n]; omega
       clear hq hbk2
       gi_wp2_with (gi_at_builtin; refine wpListIn_append_own _ rfl _ _ 82 rfl (wo.heap.size) 4 i0 (.bool false) 1 1 Tryz.underlying82 hi hz0 hz1 hz2 rfl (by decide) _ _ _ rfl (World.ownsRow.alloc hown _) ⟨wr.heap.size,0,none⟩ 1 1 [.bool q] rfl rfl ?_ ?_ ?_ ?_ ?_ ?_; exact Q4p _ _ _; (focus (simp [Value.oneCell'])); (focus (unfold maxLen; omega)); (focus omega); (focus (have:=hx2.size; simp at this ⊢; omega)); intro v' w1 hown' hgrow _)
       have hx':=Q2w hx2 hown (Nat.le_refl _) hgrow;go_roundw
       case rel=>exact ⟨j + 1,by omega,by go_num,by rw [HSU.out]; exact Q0q.snoc hown',hx'⟩
       case measure=>simp [intOf]; omega
     . have hjI:¬ (j:Int) < T:=by omega
       have hje:j=T:=by omega
       subst hje;have HOW:=hid hown;have HX2:=hid hx2;have HJ2:=hid (hJ _ _ _ HJK.out hx2);have hyy:=HY.out _ wr HJ2.out (by rw [<- Y9e]; exact hown.weaken (Nat.zero_le _))
       obtain ⟨fn,tmps,assign,body,hy,hR⟩:=hyy;clear hown hx2 hbk2
       gi_wp2
       refine ⟨fun h=>by simp [Fence.wide] at h,hR.mono ?_⟩
       rintro e W3 ⟨rfl,hJ3,hkp⟩;have hb3:Blk W3 Be 3 #[.int .i64 (j:Int)]:=by
        have h:=HBK.out.ext HX2.out;unfold Blk at h ⊢;unfold Z6q at hkp;rw [hkp]; exact h
       have HB3:=hid hb3;have HJ3:=hid hJ3;clear hJ3 hb3 hkp
       gi_wp2
       go_roundw
       case rel=>exact ⟨k + 1,by omega,by go_num,HJ3.out,HB3.out⟩
       case measure=>simp [intOf]; omega
  . have hkI:¬ (k:Int) < N:=by omega
    have hke:k=N:=by omega
    subst hke;have HJK:=hid hJk;clear hJk
    gi_wp2
    go_end0
    exact ⟨⟨_,rfl⟩,HJK.out⟩
end Go.Proofs
