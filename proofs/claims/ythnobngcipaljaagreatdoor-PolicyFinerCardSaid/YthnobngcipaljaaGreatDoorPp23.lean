/- Contract: mapped over plans, by the function that decide lays over them. Contract: the function that moved lays over the runners. Contracts: mapped over runners, moved. Plain law: how many plans there are (two for each history at most), and how great their numbers are. -/
import Derived.Test.YthnobngcipaljaaGreatDoorPp22
import Derived.Test.YthnobngcipaljaaGreatDoorPp07
import Derived.Test.YthnobngcipaljaaGreatDoorPp04
set_option maxRecDepth 1000000
set_option maxHeartbeats 64000000
set_option linter.unusedVariables false
set_option linter.unusedSimpArgs false
set_option linter.constructorNameAsVariable false
open Go.Lib (hid)
namespace Go.Proofs
open Go.RowKit Go.Tw Go.Flow
attribute [local go_sem] Oper.semAt_some
def X5l (s:Q0b) (t:Nat) (wt:Int) (key:ByteArray) (x:Plan):Plan:=⟨x.weight,x.closings + wt,x.delay + wt * ix s.ships t,x.closed ++ [key]⟩
theorem X9p (w:World) (B:Nat) (v:Value) (ps:List PV) (gS gT gN gK:Nat) (av bv:Value) (s:Q0b) (t:Nat) (wt:Int) (key:ByteArray) (hv:Q0z w B 159 4 Q2f v ps) (hcr:Q0j w ps) (htm:∀ q ∈ ps,Y8m q.1) (hl:ps.length <= 80000)
    (hS:Blk w gS 34 #[.int .i64 s.limit,av,bv]) (hsea:Q0h w (.agg #[.int .i64 s.limit,av,bv]) s) (hT:w.cell? ⟨gT,0,none⟩=some (.int .i64 (t:Int))) (hN:w.cell? ⟨gN,0,none⟩=some (.int .i64 wt)) (hK:w.cell? ⟨gK,0,none⟩=some (.string key))
    (ht:t < s.ships.length) (hw:0 <= wt /\ wt <= 1000000) (hd:0 <= ix s.ships t /\ ix s.ships t <= 1000) :
    Calls Tryz.prog 200 #[v,.func (.func 201) #[] #[.pointer (some ⟨gS,0,none⟩),.pointer (some ⟨gT,0,none⟩),.pointer (some ⟨gN,0,none⟩),.pointer (some ⟨gK,0,none⟩)]] w fun e w' =>
     ∃ x qs,e=.returned x /\ Q0z w' w.heap.size 159 4 Q2f x qs /\ Q0j w' qs /\ qs.map (·.1)=(ps.map (·.1)).map (X5l s t wt key) /\ Ext w w':=by
 obtain ⟨i0,hi,hz0,hz1,hz2⟩:=info_parts Tryz.Y4c;have HCA:=hid hcr;have HTA:=hid htm;have HD:Hid (∀ (W:World) (x:Plan) A n c,Ext w W -> Y8m x -> Q0q W 0 9 .string (.slice A n c) x.closed -> Calls Tryz.prog 201 #[.agg #[.int .i64 x.weight,.int .i64 x.closings,.int .i64 x.delay,.slice A n c],.pointer (some ⟨gS,0,none⟩),.pointer (some ⟨gT,0,none⟩),.pointer (some ⟨gN,0,none⟩),.pointer (some ⟨gK,0,none⟩)] W fun e w' =>
     ∃ A' n' c',e=.returned (.agg #[.int .i64 (X5l s t wt key x).weight,.int .i64 (X5l s t wt key x).closings,.int .i64 (X5l s t wt key x).delay,.slice A' n' c']) /\ Q0q w' 0 9 .string (.slice A' n' c') (X5l s t wt key x).closed /\ Ext W w'):=hid (fun W x A n c hW hx ho =>
  Y6g W x A n c gS gT gN gK av bv s t wt key ho hx (hS.ext hW) (by obtain ⟨_,_,he,h2⟩:=hsea; exact ⟨_,_,he,h2.ext hW⟩) (hW.cell hT) (hW.cell hN) (hW.cell hK) ht hw hd)
 obtain ⟨A,cv,hsh,HCELL⟩:=Q6o hv;subst hsh;obtain ⟨L,hL⟩:∃ L,ps.length=L:=⟨_,rfl⟩;have HL:=hid hL;rw [hL] at hl ⊢;obtain ⟨f,hf⟩:∃ f,X5l s t wt key=f:=⟨_,rfl⟩;rw [hf] at HD ⊢;clear hv hcr htm hL hS hsea hT hN hK ht hw hd hf;go_enter Tryz.func200,Tryz.ntmps200;go_wp2
 go_loopw [5,10] (fun o i wr=>∃ (k:Nat) (qs:List PV),k <= L /\ i=.int .i64 k /\ qs.length=k /\ Q0z wr w.heap.size 159 4 Q2f o qs /\ Q0j wr qs /\ qs.map (·.1)=((ps.map (·.1)).take k).map f /\ Ext w wr) (fun _ i _=>L - (intOf i).toNat)
 case atStart=>exact ⟨0,[],Nat.zero_le _,rfl,rfl,Q0z.nil _ _ _ _ _,Q0j.nil _,rfl,Ext.refl _⟩
 case round =>
  obtain ⟨k,qs,hk,rfl,hqk,hown,hcr,hun,hx⟩:=hrel;have HUN:=hid hun;have HX:=hid hx;have HOW:=hid hown;have HCR:=hid hcr;have HQK:=hid hqk
  by_cases hlt:k < L
  . have hkp:k < ps.length:=by rw [HL.out]; exact hlt
    have hkI:(k:Int) < L:=by omega
    obtain ⟨gb,rfl,hcell⟩:=HCELL.out k hkp;have e0:=hx.cell (hcell 0 (by omega))
    have e1:=hx.cell (hcell 1 (by omega))
    have e2:=hx.cell (hcell 2 (by omega))
    have e3:=hx.cell (hcell 3 (by omega))
    obtain ⟨A4,n4,c4,hsl⟩:=HCA.out.shape (List.getElem_mem hkp);have hpk:(ps.map (·.1))[k]?=some ps[k].1:=by rw [List.getElem?_map,List.getElem?_eq_getElem hkp]; rfl
    have hcl:=HCA.out ps[k] (List.getElem_mem hkp);have htm:=HTA.out ps[k] (List.getElem_mem hkp);obtain ⟨qk,hqke⟩:∃ z,ps[k]=z:=⟨_,rfl⟩;rw [hqke] at e0 e1 e2 e3 hsl hcl hpk htm;obtain ⟨x,xv⟩:=qk;replace hsl:xv=.slice A4 n4 c4:=hsl;subst hsl;have HST:Hid (((ps.map (·.1)).take (k + 1)).map f=((ps.map (·.1)).take k).map f ++ [f x]):=hid (by
     obtain ⟨hk',he⟩:=List.getElem?_eq_some_iff.1 hpk;rw [List.take_succ_eq_append_getElem hk',List.map_append,he]; rfl)
    rw [Nat.add_zero] at e0;have HCL:=hid hcl;have HTM:Hid (Y8m x):=hid htm;have HCK:=hid (fun (W:World) (hW:Ext wr W)=>HD.out W x A4 n4 c4 (HX.out.trans hW) HTM.out (HCL.out.below (HX.out.trans hW)));obtain ⟨x1,hx1⟩:∃ z,x.weight=z:=⟨_,rfl⟩;obtain ⟨x2,hx2⟩:∃ z,x.closings=z:=⟨_,rfl⟩;obtain ⟨x3,hx3⟩:∃ z,x.delay=z:=⟨_,rfl⟩;rw [hx1,hx2,hx3] at HCK;obtain ⟨y,hy⟩:∃ z,f x=z:=⟨_,rfl⟩;rw [hy] at HCK HST;obtain ⟨y1,hy1⟩:∃ z,y.weight=z:=⟨_,rfl⟩;obtain ⟨y2,hy2⟩:∃ z,y.closings=z:=⟨_,rfl⟩;obtain ⟨y3,hy3⟩:∃ z,y.delay=z:=⟨_,rfl⟩;have HPY:=hid (show y.weight=y1 /\ y.closings=y2 /\ y.delay=y3 from ⟨hy1,hy2,hy3⟩)
    rw [hy1,hy2,hy3] at HCK;replace e0:wr.cell? ⟨gb,k * 4,none⟩=some (.int .i64 x1):=by rw [<- hx1]; exact e0
    replace e1:wr.cell? ⟨gb,k * 4 + 1,none⟩=some (.int .i64 x2):=by rw [<- hx2]; exact e1
    replace e2:wr.cell? ⟨gb,k * 4 + 2,none⟩=some (.int .i64 x3):=by rw [<- hx3]; exact e2
    replace e3:wr.cell? ⟨gb,k * 4 + 3,none⟩=some (.slice A4 n4 c4):=e3;have hbox:=Ext.box wr (.cells #[.int .i64 x1,.int .i64 x2,.int .i64 x3,.slice A4 n4 c4] 159);have K3:=Blk.made wr 159 #[.int .i64 x1,.int .i64 x2,.int .i64 x3,.slice A4 n4 c4];have d0:=(K3).cell 0;have d1:=(K3).cell 1;have d2:=(K3).cell 2;have d3:=(K3).cell 3;simp only [Go.Tw.gA,Go.Tw.gB,Go.Tw.gC] at d0 d1 d2 d3;have HXB:=hid hbox;have HNWS:Hid (∀ (W:World) gn V,Blk W gn 159 #[.int .i64 y1,.int .i64 y2,.int .i64 y3,V] -> ∀ j u,(Q2f (y,V))[j]?=some u -> W.cell? ((⟨gn,0,none⟩:Addr).add j)=some u):=hid (fun W gn V hb=>by unfold Q2f; dsimp only; rw [HPY.out.1,HPY.out.2.1,HPY.out.2.2]; exact Q5g hb)
    have HONE:Hid (∀ A n c,∀ u ∈ Q2f (y,.slice A n c),u.oneCell'=true):=hid (fun A n c=>by unfold Q2f; simp [Value.oneCell'])
    have HLW:Hid (qs.length + 1 <= 100000):=hid (by omega)
    have HSW:=hid HX.out.size;obtain ⟨Ao,co,hos,-⟩:=hown.shape;subst hos;clear hcell hqke hx1 hx2 hx3 hy hy1 hy2 hy3 hbox K3 hown hcr hun hx hcl htm hpk hkp hqk
    go_light
    go_wp2_with (first | (refine (HCK.out _ HXB.out).mono ?_; rintro e w5 ⟨A',n',c',rfl,hu,hx5⟩; have HU:=hid hu; have HX5:=hid (HXB.out.trans hx5); clear hu hx5) | (refine Q1z (o:=⟨some 19,_,_,_,_,_⟩) rfl ?_; refine Q2i (.tmp 14) (.tmp 18) 160 rfl w.heap.size 159 i0 (.agg #[.int .i64 0,.int .i64 0,.int .i64 0,.slice none 0 0]) 4 48 Tryz.underlying160 hi hz0 hz1 hz2 rfl (by decide) Q2f Q3h _ qs (y,.slice A' n' c') rfl (HOW.out.below (HX5.out.trans (Ext.box _ _))) ⟨w5.heap.size,0,none⟩ 1 rfl (HNWS.out _ _ _ (Blk.made _ _ _)) (HONE.out _ _ _) HLW.out (by decide) (by have h1:=(HX5.out.trans (Ext.box w5 (.cells #[.int .i64 y1,.int .i64 y2,.int .i64 y3,.slice A' n' c'] 159))).size; have h2:=HSW.out; omega) ?_; intro v' w9 hown' hgrow))
    have hxx:=HX5.out.trans (Ext.box w5 (.cells #[.int .i64 y1,.int .i64 y2,.int .i64 y3,.slice A' n' c'] 159));have hO3:=HOW.out.below hxx;have HO9:=hid hown';have HX9:Hid (Ext w w9):=hid (Below.grown (HX.out.trans hxx) hgrow (by have:=hxx.size; have:=HSW.out; omega) (fun b hb=>(OwnP.Q8q hO3 b hb).1))
    have HC9:Hid (Q0j w9 (qs ++ [((y,Value.slice A' n' c'):PV)])):=hid (Q0j.grown (fun z hz=>by
     rcases List.mem_append.1 hz with hz | hz
     . exact HCR.out.ext hxx z hz
     . obtain rfl:=List.mem_singleton.1 hz
       exact HU.out.below (Ext.box w5 (.cells #[.int .i64 y1,.int .i64 y2,.int .i64 y3,.slice A' n' c'] 159))) hO3 hgrow)
    have HM9:Hid ((qs ++ [((y,Value.slice A' n' c'):PV)]).map (·.1)=((ps.map (·.1)).take (k + 1)).map f):=hid (by rw [HST.out,<- HUN.out,List.map_append]; rfl)
    have HL9:Hid ((qs ++ [((y,Value.slice A' n' c'):PV)]).length=k + 1):=hid (by rw [List.length_append,HQK.out]; rfl)
    clear hxx hO3 hown' hgrow;go_wp2;go_roundw
    case rel=>exact ⟨k + 1,qs ++ [((y,Value.slice A' n' c'):PV)],by omega,by go_num,HL9.out,HO9.out,HC9.out,HM9.out,HX9.out⟩
    case measure=>simp [intOf]; omega
  . have hke:k=L:=by omega
    subst hke;clear hown hcr hun hx hqk;go_wp2;go_ret;exact ⟨_,rfl,qs,HOW.out,HCR.out,by have h:=HUN.out; rw [List.take_of_length_le (by rw [List.length_map,HL.out]; omega)] at h; simpa using h,HX.out⟩
end Go.Proofs
namespace Go.Tw
open Go.RowKit Go.Flow
def encR (r:Runner):List Value:=[.int .i64 (r.member:Int),.int .i64 r.level,.bool r.dry]
theorem Q6v (r:Runner):(encR r).length=3:=rfl
theorem Y0b (r:Runner):∀ u ∈ encR r,u.oneCell'=true:=by unfold encR; simp [Value.oneCell']
end Go.Tw
namespace Go.Proofs
open Go.RowKit Go.Tw Go.Flow
attribute [local go_sem] Oper.semAt_some
theorem Tryz.Z7b (w:World):(isAgg 233).run Tryz.prog w=.ok true w:=by kernel_rfl
theorem Tryz.X7u (w:World):(sizeOf 233).run Tryz.prog w=.ok 3 w:=by kernel_rfl
theorem Tryz.Z3i:(Tryz.prog.info? 233).map (fun i=>(i.zero,i.size,i.bytes))=some (some (.agg #[.int .i64 0,.int .i64 0,.bool false]),3,24):=by kernel_rfl
theorem Z8c {w:World} {M:Option Addr} {s:Q0b} {k b off capx capy capz:Nat} {X Y Z:Option Addr} (h:Z4k w M s k b off capx capy capz X Y Z) :
    Part w b (off + k * 5) #[.string (Q1h s.members k),.int .i64 (Q0i s.members k),.slice X (Q0c s.members k).length capx,.slice Y (Q0t s.members k).length capy,.slice Z (Q0y s.members k).length capz]:=fun j hj=>by
 have:j=0 ∨ j=1 ∨ j=2 ∨ j=3 ∨ j=4:=by have:j < 5:=hj; omega
 rcases this with rfl | rfl | rfl | rfl | rfl
 . exact h.e0
 . exact h.e1
 . exact h.e2
 . exact h.e3
 . exact h.e4
theorem X9s {a b:Int} {c:Bool}:∀ u ∈ (#[Value.int .i64 a,.int .i64 b,.bool c]:Array Value).toList,u.oneCell'=true:=by
 intro u hu;simp only [List.mem_cons,List.not_mem_nil,or_false] at hu
 rcases hu with rfl | rfl | rfl <;> rfl
theorem Y9o (w:World) (r:Runner) (gS gT gC:Nat) (av bv:Value) (s:Q0b) (t:Nat) (cl:Bool) (hS:Blk w gS 34 #[.int .i64 s.limit,av,bv]) (hsea:Q0h w (.agg #[.int .i64 s.limit,av,bv]) s) (hT:w.cell? ⟨gT,0,none⟩=some (.int .i64 (t:Int))) (hC:w.cell? ⟨gC,0,none⟩=some (.bool cl))
    (hV:Q1b s) (ht:t < s.ships.length) (hk:r.member < s.members.length) (hl:0 <= r.level /\ r.level <= 100000) :
    Calls Tryz.prog 231 #[.agg #[.int .i64 (r.member:Int),.int .i64 r.level,.bool r.dry],.pointer (some ⟨gS,0,none⟩),.pointer (some ⟨gT,0,none⟩),.pointer (some ⟨gC,0,none⟩)] w fun e w' =>
     e=.returned (.agg #[.int .i64 ((mv1 s t cl r).member:Int),.int .i64 (mv1 s t cl r).level,.bool (mv1 s t cl r).dry]) /\ Ext w w':=by
 have HSB:=hid hS;have HT:=hid hT;have HC:=hid hC;obtain ⟨k,hkk⟩:∃ z,r.member=z:=⟨_,rfl⟩;have HMV:Hid ((mv1 s t cl r).member=k /\ (mv1 s t cl r).level=((Q2e s k).stepT t r.level cl).2 /\ (mv1 s t cl r).dry=(r.dry && decide (((Q2e s k).stepT t r.level cl).1 <= s.limit))):=hid (by rw [<- hkk]; exact ⟨rfl,rfl,rfl⟩)
 rw [hkk] at hk ⊢;rw [HMV.out.1,HMV.out.2.1,HMV.out.2.2];obtain ⟨lv,hlv⟩:∃ z,r.level=z:=⟨_,rfl⟩;obtain ⟨dry,hdry⟩:∃ z,r.dry=z:=⟨_,rfl⟩;rw [hlv] at hl ⊢;rw [hdry];clear HMV hkk hlv hdry;have hsea':=hsea;obtain ⟨_,_,he,h2⟩:=hsea';injection he with he;injection he with he;simp only [List.cons.injEq,and_true,true_and] at he;obtain ⟨rfl,rfl⟩:=he;obtain ⟨A,capa,rfl,-,-,-⟩:=h2.ships.opened;obtain ⟨M,capb,rfl,-,-,-⟩:=h2.members.opened;obtain ⟨b,off,capx,capy,capz,X,Y,Z,hm⟩:=Q2l h2.members hk;obtain rfl:=hm.addr;have hok:=X2q hV hk (n:=s.ships.length) (Nat.le_refl _);have HST:=hid (fun (W:World) (hW:Ext w W)=>Y1l W _ (Q2e s k) t lv cl (hm.mem hW) (by have:=hok.out; omega) (by have:=hok.inf; omega) hl (hok.bd t (by have:=hok.inf; omega)))
 have HMP:=hid (Z8c hm);obtain ⟨pk,hpk⟩:∃ z,((Q2e s k).stepT t lv cl).1=z:=⟨_,rfl⟩;obtain ⟨nl,hnl⟩:∃ z,((Q2e s k).stepT t lv cl).2=z:=⟨_,rfl⟩;rw [hpk,hnl] at HST ⊢;obtain ⟨nm,hnm⟩:∃ x,Q1h s.members k=x:=⟨_,rfl⟩;obtain ⟨wt,hwt⟩:∃ x,Q0i s.members k=x:=⟨_,rfl⟩;obtain ⟨lc,hlc⟩:∃ x,(Q0c s.members k).length=x:=⟨_,rfl⟩;obtain ⟨lo,hlo⟩:∃ x,(Q0t s.members k).length=x:=⟨_,rfl⟩;obtain ⟨li,hli⟩:∃ x,(Q0y s.members k).length=x:=⟨_,rfl⟩;rw [hnm,hwt,hlc,hlo,hli] at HST HMP;obtain ⟨lim,hlim⟩:∃ z,s.limit=z:=⟨_,rfl⟩;rw [hlim] at HSB ⊢;have hkI:(k:Int) < s.members.length:=by omega
 clear hS hsea hT hC hV ht hl h2 hm hok hpk hnl hnm hwt hlc hlo hli hlim;go_enter Tryz.func231,Tryz.ntmps231;go_wp2_with fail;change Code.wp _ _ _ _ ((w.alloc (.cells #[.int .i64 (k:Int),.int .i64 lv,.bool dry] 233)).alloc (.cells #[.int .i64 0,.int .i64 0,.bool false] 233));obtain ⟨W,hWW,k0,k1,HXW,eW⟩:=Q4e w 233 #[.int .i64 (k:Int),.int .i64 lv,.bool dry] 233 #[.int .i64 0,.int .i64 0,.bool false];rw [hWW];clear hWW;have K0:=hid k0;have K1:=hid k1;obtain ⟨gp,hgp⟩:∃ z,w.heap.size=z:=⟨_,rfl⟩;have HGP:=hid hgp;rw [hgp] at K0 K1 eW ⊢;clear k0 k1 hgp;have hdr:=(Ext.refl W).drew;refine Flow.Q1o [.p,.w,.p,.w,.p,.w,.w,.p,.w,.w,.w,.p,.p,.p,.p,.p] [0,1,2,3,4,5,6,7,8,9,10,11,12,13,14,15] [[],[0],[],[2],[1,3],[4],[],[],[7],[],[5,6,8,9],[10],[11],[11],[0,1,2,3,4,5,6,7,8,9,10,11,12],[0,1,2,3,4,5,6,7,8,9,10,11,12,13,14]]
  [.c 0 (.pointer (some ⟨gS,2,none⟩)),.c 1 (.slice (some ⟨b,off,none⟩) s.members.length capb),.c 2 (.pointer (some ⟨gp,0,none⟩)),.c 3 (.int .i64 (k:Int)),.c 4 (.pointer (some ⟨b,off + k * 5,none⟩)),.c 5 (.agg #[.string nm,.int .i64 wt,.slice X lc capx,.slice Y lo capy,.slice Z li capz]),.c 6 (.int .i64 (t:Int)),.c 7 (.pointer (some ⟨gp,1,none⟩)),.c 8 (.int .i64 lv),.c 9 (.bool cl),.c 10 (.tuple #[.int .i64 pk,.int .i64 nl]),.c 11 (.tuple #[.int .i64 pk,.int .i64 nl]),.c 12 (.int .i64 pk),.c 13 (.int .i64 nl),.c 14 (.int .i64 pk),.c 15 (.int .i64 nl)]
  (by kernel_rfl) rfl (by kernel_rfl) ⟨?g0,?g1,?g2,?g3,?g4,?g5,?g6,?g7,?g8,?g9,?g10,?g11,?g12,?g13,?g14,?g15,trivial⟩ ?post
 case g0 | g2 | g7=>
  intro v w1 hx;intro bb hbb;subst hbb;refine ⟨_,fun w=>?_,rfl⟩;go_simp
 case g1 | g3 | g8=>
  intro v w1 hx;(repeat intro (zq:v _=_));intro bb hbb;subst hbb;have n0:w1.cell? ⟨gS,2,none⟩=some (.slice (some ⟨b,off,none⟩) s.members.length capb):=(HSB.out.ext (HXW.out.trans (hdr.trans hx))).cell 2;have n1:w1.cell? ⟨gp,0,none⟩=some (.int .i64 (k:Int)):=(K0.out.ext (hdr.trans hx)).cell 0;have n2:w1.cell? ⟨gp,1,none⟩=some (.int .i64 lv):=(K0.out.ext (hdr.trans hx)).cell 1;intro K hK;go_simp;exact hK _ _ (Ext.refl _) rfl
 case g4 | g11 | g12 | g13 | g14 | g15=>
  intro v w1 hx;(repeat intro (zq:v _=_));intro bb hbb;subst hbb;refine ⟨_,fun w=>?_,rfl⟩;go_simp
 case g5=>
  intro v w1 hx;(repeat intro (zq:v _=_));intro bb hbb;intro K hK;have o1:bb.eval (.tmp 13)=.pointer (some ⟨b,off + k * 5,none⟩):=by rw [hbb]; dsimp only; (try simp (discharger:=decide) only [eval_put_ne]); rw [Q0a (by simp only [size_put]; exact (by decide:13 < 34))]; assumption
  exact Q5q (.tmp 13) _ rfl Tryz.Y8q Tryz.X8y o1 (HMP.out.ext (HXW.out.trans (hdr.trans hx))) rfl (hK _ _ (Ext.refl _) rfl)
 case g6 | g9=>
  intro v w1 hx;intro bb hbb;subst hbb;have n0:w1.cell? ⟨gT,0,none⟩=some (.int .i64 (t:Int)):=(HXW.out.trans (hdr.trans hx)).cell HT.out;have n1:w1.cell? ⟨gC,0,none⟩=some (.bool cl):=(HXW.out.trans (hdr.trans hx)).cell HC.out;intro K hK;go_simp;exact hK _ _ (Ext.refl _) rfl
 case g10=>
  intro v w1 hx;(repeat intro (zq:v _=_));intro bb hbb;subst hbb;intro K hK;go_simp;refine Q0e (HST.out w1 (HXW.out.trans (hdr.trans hx))) ?_;rintro e w2 ⟨rfl,hx2⟩;exact ⟨_,rfl,hK _ _ hx2 rfl⟩
 case post =>
  intro v w1 hx;(iterate 14 intro (zq:v _=_));intro (q14:v 14=_) (q15:v 15=_);simp only [Flow.All,Flow.acts,Act.put];go_simp;have HXX:=hid (HXW.out.trans (hdr.trans hx));have k0:=K0.out.ext (hdr.trans hx);have k1:=K1.out.ext (hdr.trans hx);have kS:=HSB.out.ext HXX.out;have c0:=(k0).cell 0;have c1:=(k0).cell 1;have c2:=(k0).cell 2;simp only [Go.Tw.gA,Go.Tw.gB,Go.Tw.gC] at c0 c1 c2;have s0:=kS.cell 0;simp only [Go.Tw.gA,Go.Tw.gB] at s0;have HSZ:Hid (w.heap.size <= gp):=hid (by have:=HGP.out; omega)
  clear hx hdr kS;(repeat clear zq);cases dry with
  | true =>
    by_cases hpl:pk <= lim
    . have hde:decide (pk <= lim)=true:=by simp [hpl]
      go_wp2_with (refine Q0s rfl _ _ _ rfl Tryz.X7u rfl rfl k1 rfl rfl X9s ?_; intro w9 hb9 hl9 ho9);refine bodyPost_ret (Q1v Tryz.results231 rfl hb9 Tryz.Z7b Tryz.X7u) rfl ?_;exact ⟨by first | rfl | simp [hde],Below.trans HXX.out (hl9 _ (by have:=HSZ.out; omega))⟩
    . have hde:decide (pk <= lim)=false:=by simp [hpl]
      go_wp2_with (refine Q0s rfl _ _ _ rfl Tryz.X7u rfl rfl k1 rfl rfl X9s ?_; intro w9 hb9 hl9 ho9);refine bodyPost_ret (Q1v Tryz.results231 rfl hb9 Tryz.Z7b Tryz.X7u) rfl ?_;exact ⟨by first | rfl | simp [hde],Below.trans HXX.out (hl9 _ (by have:=HSZ.out; omega))⟩
  | false =>
    go_wp2_with (refine Q0s rfl _ _ _ rfl Tryz.X7u rfl rfl k1 rfl rfl X9s ?_; intro w9 hb9 hl9 ho9);refine bodyPost_ret (Q1v Tryz.results231 rfl hb9 Tryz.Z7b Tryz.X7u) rfl ?_;exact ⟨rfl,Below.trans HXX.out (hl9 _ (by have:=HSZ.out; omega))⟩
end Go.Proofs
namespace Go.Tw
open Go.RowKit Go.Flow
def Lev (t:Nat) (l:List Runner):Prop:=∀ r ∈ l,0 <= r.level /\ r.level <= 1024 * (t:Int)
theorem Q0z.split {α:Type} {w:World} {B k:Nat} {e:TypeId} {enc:α -> List Value} {v:Value} {l:List α} (h:Q0z w B e k enc v l) :
    (v=.slice none 0 0 /\ l=[]) ∨ ∃ g cap cur,v=.slice (some ⟨g,0,none⟩) l.length cap /\ B <= g /\ Blk w g e cur /\ l.length <= cap /\ cap <= maxLen /\ cur.size=cap * k /\ cur.toList.take (l.length * k)=l.flatMap enc:=by
 obtain ⟨h1,h2⟩:=h
 rcases h2 with ⟨rfl,h0⟩ | ⟨g,cap,cur,rfl,hbg,hg,hcap,hmax,hsz,ht⟩
 . exact .inl ⟨rfl,List.length_eq_zero_iff.1 h0⟩
 . exact .inr ⟨g,cap,cur,rfl,hbg,hg,hcap,hmax,hsz,ht⟩
theorem Q0z.Q8q {α:Type} {w:World} {B k:Nat} {e:TypeId} {enc:α -> List Value} {v:Value} {l:List α} (h:Q0z w B e k enc v l):∀ b,v.ownBlock=some b -> B <= b /\ b < w.heap.size /\ ∃ cs,Blk w b e cs:=by
 intro b hb
 rcases h.split with ⟨rfl,_⟩ | ⟨g,cap,cur,rfl,hbg,hg,_⟩
 . cases hb
 . cases hb; exact ⟨hbg,hg.lt,_,hg⟩
theorem Q0z.reads {α:Type} {w:World} {B k:Nat} {e:TypeId} {enc:α -> List Value} {v:Value} {l:List α} (hk:∀ x,(enc x).length=k) (h:Q0z w B e k enc v l):∃ A cv,v=.slice A l.length cv /\ Hid (∀ j (hj:j < l.length),∃ gb,A=some ⟨gb,0,none⟩ /\ ∀ i,i < k -> w.cell? ⟨gb,j * k + i,none⟩=(enc l[j])[i]?):=by
 rcases h.split with ⟨rfl,h0⟩ | ⟨gb,cap,cur,rfl,_,hb,_,_,_,htk⟩
 . exact ⟨none,0,by rw [h0]; rfl,hid (fun j hj=>by rw [h0] at hj; simp at hj)⟩
 . refine ⟨_,cap,rfl,hid (fun j hj=>⟨gb,rfl,fun i hi=>?_⟩)⟩
   have hm:(j + 1) * k <= l.length * k:=Nat.mul_le_mul_right _ hj;rw [Nat.succ_mul] at hm;rw [hb.cell,<- flat_get hk l j i hj hi,<- htk,List.getElem?_take,if_pos (by omega)]
   simp
end Go.Tw
namespace Go.Proofs
open Go.RowKit Go.Tw Go.Flow
attribute [local go_sem] Oper.semAt_some
theorem Z1q {s:Q0b} (hV:Q1b s) {t:Nat} (ht:t < s.ships.length) {c:Bool} {l:List Runner} (hk:Known s l) (hl:Lev t l):Lev (t + 1) (l.map (mv1 s t c)):=by
 intro r hr;obtain ⟨q,hq,rfl⟩:=List.mem_map.1 hr;have hok:=X2q hV (hk q hq) (n:=s.ships.length) (Nat.le_refl _);exact Y7k (hl q hq) (hok.bd t (by have:=hok.inf; omega))
theorem Y0m (w:World) (B:Nat) (v:Value) (ps:List Runner) (gS gT gC:Nat) (av bv:Value) (s:Q0b) (t:Nat) (cl:Bool) (hv:Q0z w B 233 3 encR v ps) (hkn:Known s ps) (hlv:Lev t ps) (hl:ps.length <= 80000)
    (hS:Blk w gS 34 #[.int .i64 s.limit,av,bv]) (hsea:Q0h w (.agg #[.int .i64 s.limit,av,bv]) s) (hT:w.cell? ⟨gT,0,none⟩=some (.int .i64 (t:Int))) (hC:w.cell? ⟨gC,0,none⟩=some (.bool cl))
    (hV:Q1b s) (ht:t < s.ships.length) :
    Calls Tryz.prog 230 #[v,.func (.func 231) #[] #[.pointer (some ⟨gS,0,none⟩),.pointer (some ⟨gT,0,none⟩),.pointer (some ⟨gC,0,none⟩)]] w fun e w' =>
     ∃ x,e=.returned x /\ Q0z w' w.heap.size 233 3 encR x (moved s t cl ps) /\ Ext w w':=by
 obtain ⟨i0,hi,hz0,hz1,hz2⟩:=info_parts Tryz.Z3i;have h6:=hV.tides;have HD:Hid (∀ (W:World) (x:Runner),Ext w W -> x ∈ ps -> Calls Tryz.prog 231 #[.agg #[.int .i64 (x.member:Int),.int .i64 x.level,.bool x.dry],.pointer (some ⟨gS,0,none⟩),.pointer (some ⟨gT,0,none⟩),.pointer (some ⟨gC,0,none⟩)] W fun e w' =>
     e=.returned (.agg #[.int .i64 ((mv1 s t cl x).member:Int),.int .i64 (mv1 s t cl x).level,.bool (mv1 s t cl x).dry]) /\ Ext W w'):=hid (fun W x hW hx =>
  Y9o W x gS gT gC av bv s t cl (hS.ext hW) (by obtain ⟨_,_,he,h2⟩:=hsea; exact ⟨_,_,he,h2.ext hW⟩) (hW.cell hT) (hW.cell hC) hV ht (hkn x hx) (by have:=hlv x hx; omega))
 obtain ⟨A,cv,hsh,HCELL⟩:=hv.reads Q6v;subst hsh;obtain ⟨L,hL⟩:∃ L,ps.length=L:=⟨_,rfl⟩;have HL:=hid hL;rw [hL] at hl ⊢;have HFIN:Hid ((ps.take L).map (mv1 s t cl)=moved s t cl ps):=hid (by rw [Y0e,List.take_of_length_le (by omega)])
 obtain ⟨f,hf⟩:∃ f,mv1 s t cl=f:=⟨_,rfl⟩;rw [hf] at HD HFIN;obtain ⟨res,hres⟩:∃ z,moved s t cl ps=z:=⟨_,rfl⟩;rw [hres] at HFIN ⊢;clear hv hkn hlv hL hS hsea hT hC hV ht hf hres h6;go_enter Tryz.func230,Tryz.ntmps230;go_wp2
 go_loopw [5,10] (fun o i wr=>∃ (k:Nat),k <= L /\ i=.int .i64 k /\ Q0z wr w.heap.size 233 3 encR o ((ps.take k).map f) /\ Ext w wr) (fun _ i _=>L - (intOf i).toNat)
 case atStart=>exact ⟨0,Nat.zero_le _,rfl,Q0z.nil _ _ _ _ _,Ext.refl _⟩
 case round =>
  obtain ⟨k,hk,rfl,hown,hx⟩:=hrel;have HX:=hid hx;have HOW:=hid hown
  by_cases hlt:k < L
  . have hkp:k < ps.length:=by rw [HL.out]; exact hlt
    have hkI:(k:Int) < L:=by omega
    obtain ⟨gb,rfl,hcell⟩:=HCELL.out k hkp;have e0:=hx.cell (hcell 0 (by omega))
    have e1:=hx.cell (hcell 1 (by omega))
    have e2:=hx.cell (hcell 2 (by omega))
    have hmx:=List.getElem_mem hkp;obtain ⟨x,hqke⟩:∃ z,ps[k]=z:=⟨_,rfl⟩;have HST:Hid ((ps.take (k + 1)).map f=(ps.take k).map f ++ [f x]):=hid (by
     rw [List.take_succ_eq_append_getElem hkp,List.map_append,hqke]; rfl)
    have HLW:Hid (((ps.take k).map f).length + 1 <= 100000):=hid (by rw [List.length_map,List.length_take]; omega)
    rw [hqke] at e0 e1 e2 hmx;have HCK:=hid (fun (W:World) (hW:Ext wr W)=>HD.out W x (HX.out.trans hW) hmx);rw [Nat.add_zero] at e0;obtain ⟨x1,hx1⟩:∃ z,x.member=z:=⟨_,rfl⟩;obtain ⟨x2,hx2⟩:∃ z,x.level=z:=⟨_,rfl⟩;obtain ⟨x3,hx3⟩:∃ z,x.dry=z:=⟨_,rfl⟩;rw [hx1,hx2,hx3] at HCK;obtain ⟨y,hy⟩:∃ z,f x=z:=⟨_,rfl⟩;rw [hy] at HCK HST;obtain ⟨zs,hzs⟩:∃ z,(ps.take k).map f=z:=⟨_,rfl⟩;rw [hzs] at HST HLW HOW;obtain ⟨y1,hy1⟩:∃ z,y.member=z:=⟨_,rfl⟩;obtain ⟨y2,hy2⟩:∃ z,y.level=z:=⟨_,rfl⟩;obtain ⟨y3,hy3⟩:∃ z,y.dry=z:=⟨_,rfl⟩;have HPY:=hid (show y.member=y1 /\ y.level=y2 /\ y.dry=y3 from ⟨hy1,hy2,hy3⟩)
    rw [hy1,hy2,hy3] at HCK;replace e0:wr.cell? ⟨gb,k * 3,none⟩=some (.int .i64 (x1:Int)):=by rw [<- hx1]; exact e0
    replace e1:wr.cell? ⟨gb,k * 3 + 1,none⟩=some (.int .i64 x2):=by rw [<- hx2]; exact e1
    replace e2:wr.cell? ⟨gb,k * 3 + 2,none⟩=some (.bool x3):=by rw [<- hx3]; exact e2
    have hbox:=Ext.box wr (.cells #[.int .i64 (x1:Int),.int .i64 x2,.bool x3] 233);have K3:=Blk.made wr 233 #[.int .i64 (x1:Int),.int .i64 x2,.bool x3];have d0:=(K3).cell 0;have d1:=(K3).cell 1;have d2:=(K3).cell 2;simp only [Go.Tw.gA,Go.Tw.gB,Go.Tw.gC] at d0 d1 d2;have HXB:=hid hbox;have HNWS:Hid (∀ (W:World) gn,Blk W gn 233 #[.int .i64 (y1:Int),.int .i64 y2,.bool y3] -> ∀ j u,(encR y)[j]?=some u -> W.cell? ((⟨gn,0,none⟩:Addr).add j)=some u):=hid (fun W gn hb=>by unfold encR; rw [HPY.out.1,HPY.out.2.1,HPY.out.2.2]; exact Q5g hb)
    have HSW:=hid HX.out.size;obtain ⟨Ao,co,hos,-⟩:=HOW.out.shape;subst hos;clear hcell hqke hx1 hx2 hx3 hy hy1 hy2 hy3 hbox K3 hown hx hkp hmx hzs
    go_light
    go_wp2_with (first | (refine (HCK.out _ HXB.out).mono ?_; rintro e w5 ⟨rfl,hx5⟩; have HX5:=hid (HXB.out.trans hx5); clear hx5) | (refine Q1z (o:=⟨some 19,_,_,_,_,_⟩) rfl ?_; refine Q2i (.tmp 14) (.tmp 18) 231 rfl w.heap.size 233 i0 (.agg #[.int .i64 0,.int .i64 0,.bool false]) 3 24 Tryz.underlying231 hi hz0 hz1 hz2 rfl (by decide) encR Q6v _ zs y rfl (HOW.out.below (HX5.out.trans (Ext.box _ _))) ⟨w5.heap.size,0,none⟩ 1 rfl (HNWS.out _ _ (Blk.made _ _ _)) (Y0b y) HLW.out (by decide) (by have h1:=(HX5.out.trans (Ext.box w5 (.cells #[.int .i64 (y1:Int),.int .i64 y2,.bool y3] 233))).size; have h2:=HSW.out; omega) ?_; intro v' w9 hown' hgrow))
    have hxx:=HX5.out.trans (Ext.box w5 (.cells #[.int .i64 (y1:Int),.int .i64 y2,.bool y3] 233));have hO3:=HOW.out.below hxx;have HO9:=hid hown';have HX9:Hid (Ext w w9):=hid (Below.grown (HX.out.trans hxx) hgrow (by have:=hxx.size; have:=HSW.out; omega) (fun b hb=>(hO3.Q8q b hb).1))
    clear hxx hO3 hown' hgrow;go_wp2;go_roundw
    case rel=>exact ⟨k + 1,by omega,by go_num,by rw [HST.out]; exact HO9.out,HX9.out⟩
    case measure=>simp [intOf]; omega
  . have hke:k=L:=by omega
    subst hke;rw [HFIN.out] at HOW;clear hown hx;go_wp2;go_ret;exact ⟨_,rfl,HOW.out,HX.out⟩
theorem Z2e (w:World) (B:Nat) (v u:Value) (ps:List Runner) (s:Q0b) (t:Nat) (cl:Bool) (hv:Q0h w v s) (hu:Q0z w B 233 3 encR u ps) (hkn:Known s ps) (hlv:Lev t ps) (hl:ps.length <= 80000) (hV:Q1b s) (ht:t < s.ships.length) :
    Calls Tryz.prog 198 #[v,.int .i64 (t:Int),u,.bool cl] w fun e w'=>∃ x,e=.returned x /\ Q0z w' w.heap.size 233 3 encR x (moved s t cl ps) /\ Ext w w':=by
 obtain ⟨a,b,rfl,h2⟩:=hv;obtain ⟨A,capa,rfl,-,-,-⟩:=h2.ships.opened;obtain ⟨M,capb,rfl,-,-,-⟩:=h2.members.opened;have HC:=hid (fun (W:World) (gS gT gC:Nat) (hW:Ext w W) (hS:Blk W gS 34 #[.int .i64 s.limit,.slice A s.ships.length capa,.slice M s.members.length capb]) hT hC=>Y0m W B u ps gS gT gC _ _ s t cl (hu.below hW) hkn hlv hl hS ⟨_,_,rfl,h2.ext hW⟩ hT hC hV ht);obtain ⟨Au,cu,hsh,-⟩:=hu.shape;subst hsh;clear h2 hu hkn hlv hV ht;go_enter Tryz.func198,Tryz.ntmps198;go_wp2_with fail;change Calls _ _ _ (((w.alloc (.cells #[.int .i64 s.limit,.slice A s.ships.length capa,.slice M s.members.length capb] 34)).alloc (.cells #[.int .i64 (t:Int)] 3)).alloc (.cells #[.bool cl] 4)) _;obtain ⟨W,hWW,k0,k1,k2,HXW,eW⟩:=X2z w 34 #[.int .i64 s.limit,.slice A s.ships.length capa,.slice M s.members.length capb] 3 #[.int .i64 (t:Int)] 4 #[.bool cl];rw [hWW];clear hWW;have K0:=hid k0;have K1:=hid (k1.cell 0);have K2:=hid (k2.cell 0);have HSW:=hid HXW.out.size;clear k0 k1 k2;refine (HC.out _ _ _ _ HXW.out K0.out K1.out K2.out).mono ?_;rintro e w5 ⟨x,rfl,hu,hx5⟩;have HU:=hid hu;have HX5:=hid hx5;clear hu hx5;go_wp2;go_ret;exact ⟨_,rfl,Q0z.weaken HU.out HSW.out,HXW.out.trans HX5.out⟩
end Go.Proofs
namespace Go.Tw
open Go.RowKit
variable {s:Q0b}
def under (s:Q0b) (t:Nat) (l:List Runner) (h:List Int):Bool:=l.any fun r=>decide (t < h.length) && (h == hs s r.member h.length)
def X2m (s:Q0b) (t:Nat) (l:List Runner):Nat:=s.hist.countP (under s t l)
theorem Q4g {t:Nat} {l:List Runner} {h:List Int}:under s t l h=true ↔ ∃ r ∈ l,t < h.length /\ h=hs s r.member h.length:=by
 unfold under; simp
theorem Y4g {α:Type} {p q:α -> Bool}:∀ {l:List α},(∀ x ∈ l,¬ (p x=true /\ q x=true)) -> l.countP (fun x=>p x || q x)=l.countP p + l.countP q
 | [],_=>rfl
 | x :: l,h=>by
   have ih:=Y4g (p:=p) (q:=q) (l:=l) fun y hy=>h y (List.mem_cons_of_mem _ hy);have hx:=h x List.mem_cons_self;simp only [List.countP_cons,ih];cases hp:p x <;> cases hq:q x <;> simp_all <;> omega
theorem Y2u {α:Type} {p q:α -> Bool}:∀ {l:List α},(∀ x ∈ l,p x=true -> q x=true) -> (∃ x ∈ l,q x=true /\ p x=false) -> l.countP p + 1 <= l.countP q
 | [],_,⟨x,hx,_⟩=>by simp at hx
 | y :: l,h,⟨x,hx,hq,hp⟩=>by
   simp only [List.countP_cons];have hle:l.countP p <= l.countP q:=List.countP_mono_left fun z hz=>h z (List.mem_cons_of_mem _ hz)
   rcases List.mem_cons.1 hx with rfl | hx'
   . rw [if_pos hq,if_neg (by rw [hp]; simp)]; omega
   . have ih:=Y2u (fun z hz=>h z (List.mem_cons_of_mem _ hz)) ⟨x,hx',hq,hp⟩
     have h0:=h y List.mem_cons_self
     by_cases hy:p y=true
     . rw [if_pos hy,if_pos (h0 hy)]; omega
     . rw [if_neg hy]; split <;> omega
theorem X5a (t u:Nat) (c:Bool) (l:List Runner):X2m s t (moved s u c l)=X2m s t l:=by
 unfold X2m
 congr 1
 funext h
 unfold under moved;rw [List.any_map]; rfl
theorem Y3w (t c:Nat) (l:List Runner):X2m s t (X2n s t (c + 1) l)=X2m s t (X2n s t c l) + X2m s t (Q6k s t c l):=by
 unfold X2m;rw [<- Y4g]
 . congr 1
   funext h
   rw [Bool.eq_iff_iff,Bool.or_eq_true,Q4g,Q4g,Q4g]
   constructor
   . rintro ⟨r,hr,h1,h2⟩
     have hr':=Q8k.1 hr
     by_cases hc:ix (Q0c s.members r.member) t < (c:Int)
     . exact .inl ⟨r,Q8k.2 ⟨hr'.1,hc⟩,h1,h2⟩
     . exact .inr ⟨r,X6c.2 ⟨hr'.1,by have:=hr'.2; omega⟩,h1,h2⟩
   . rintro (⟨r,hr,h1,h2⟩ | ⟨r,hr,h1,h2⟩)
     . exact ⟨r,X4h hr,h1,h2⟩
     . exact ⟨r,Y5h hr,h1,h2⟩
 . rintro h _ ⟨h1,h2⟩
   obtain ⟨r,hr,ht,e⟩:=Q4g.1 h1;obtain ⟨q,hq,_,e'⟩:=Q4g.1 h2;have hr':=Q8k.1 hr;have hq':=X6c.1 hq;have a1:=Z5w (s:=s) (i:=r.member) ht;have a2:=Z5w (s:=s) (i:=q.member) ht;rw [<- e] at a1;rw [<- e'] at a2;have:=hr'.2;have:=hq'.2;omega
theorem Y9b (hf:Fine s) {t:Nat} {l:List Runner} (hl:Known s l) (hn:l ≠ []) (ht:t + 1 <= s.ships.length):X2m s (t + 1) l + 1 <= X2m s t l:=by
 refine Y2u (fun h _ hh=>?_) ?_
 . obtain ⟨r,hr,h1,h2⟩:=Q4g.1 hh
   exact Q4g.2 ⟨r,hr,by omega,h2⟩
 . obtain ⟨r,rest,rfl⟩:=List.exists_cons_of_ne_nil hn
   have hr:=hl r List.mem_cons_self;have hle:=Z3z hf hr ht;refine ⟨hs s r.member (t + 1),Z3l hr (by omega) ht,Q4g.2 ⟨r,List.mem_cons_self,by omega,by rw [hle]⟩,?_⟩
   rw [Bool.eq_false_iff];intro hh;obtain ⟨_,_,h1,_⟩:=Q4g.1 hh;omega
theorem Y0t (out:List Plan) (x:Plan):(Q1p out x).length <= out.length + 1:=by
 unfold Q1p
 split
 . omega
 . rw [List.length_append,List.length_singleton]
   have:=List.length_filter_le (fun o=>!x.Q3w o) out;omega
theorem X0d:∀ (l out:List Plan),(l.foldl Q1p out).length <= out.length + l.length
 | [],out=>by simp
 | x :: l,out=>by
   rw [List.foldl_cons,List.length_cons];have h1:=X0d l (Q1p out x);have h2:=Y0t out x;omega
theorem Y3u (l:List Plan):(X5y l).length <= l.length:=by
 have:=X0d l []
 simpa [X5y] using this
theorem Z2p (a b:List Plan):(a.flatMap fun x=>b.map (both x)).length=a.length * b.length:=by
 induction a with
 | nil=>simp
 | cons x a ih=>rw [List.flatMap_cons,List.length_append,ih,List.length_map,List.length_cons,Nat.add_mul,Nat.one_mul,Nat.add_comm]
theorem Y2l (a b:List Plan):(together a b).length <= a.length * b.length:=by
 unfold together;exact Nat.le_trans (Y3u _) (Nat.le_of_eq (Z2p a b))
structure PBd (k:Nat) (W:Int) (H:Nat) (x:Plan):Prop where
 w:0 <= x.weight /\ x.weight <= W
 c:0 <= x.closings /\ x.closings <= k * W
 d:0 <= x.delay /\ x.delay <= 1000 * (k * W)
 l:x.closed.length <= H
theorem PBd.both {k:Nat} {W V:Int} {H G:Nat} {x y:Plan} (hx:PBd k W H x) (hy:PBd k V G y):PBd k (W + V) (H + G) (both x y):=by
 have e:(k:Int) * (W + V)=k * W + k * V:=Int.mul_add _ _ _;obtain ⟨a,b,c,d⟩:=hx;obtain ⟨a',b',c',d'⟩:=hy
 constructor
 . show 0 <= x.weight + y.weight /\ x.weight + y.weight <= W + V; omega
 . show 0 <= x.closings + y.closings /\ x.closings + y.closings <= k * (W + V); rw [e]; omega
 . show 0 <= x.delay + y.delay /\ x.delay + y.delay <= 1000 * (k * (W + V)); rw [e]; omega
 . show (x.closed ++ y.closed).length <= H + G; rw [List.length_append]; omega
theorem PBd.mono {k:Nat} {W:Int} {H G:Nat} {x:Plan} (h:PBd k W H x) (hg:H <= G):PBd k W G x:=⟨h.w,h.c,h.d,Nat.le_trans h.l hg⟩
theorem PBd.up {k:Nat} {W:Int} {H:Nat} {x:Plan} (h:PBd k W H x) (hW:0 <= W):PBd (k + 1) W H x:=by
 have e:((k + 1:Nat):Int) * W=k * W + W:=by rw [Int.natCast_add,Int.add_mul]; simp
 refine ⟨h.w,?_,?_,h.l⟩
 . rw [e]; have:=h.c; omega
 . rw [e]; have:=h.d; omega
theorem PBd.close {k t:Nat} {l:List Runner} {H:Nat} {x:Plan} (h:PBd k (Q4v s l) H x) (hW:0 <= Q4v s l) (hd:0 <= ix s.ships t /\ ix s.ships t <= 1000):PBd (k + 1) (Q4v s l) (H + 1) (X8e s t l x):=by
 have e:((k + 1:Nat):Int) * Q4v s l=k * Q4v s l + Q4v s l:=by rw [Int.natCast_add,Int.add_mul]; simp
 have m1:0 <= Q4v s l * ix s.ships t:=Int.mul_nonneg hW hd.1;have m2:Q4v s l * ix s.ships t <= Q4v s l * 1000:=Int.mul_le_mul_of_nonneg_left hd.2 hW;refine ⟨h.w,?_,?_,?_⟩
 . show 0 <= x.closings + Q4v s l /\ x.closings + Q4v s l <= _; rw [e]; have:=h.c; omega
 . show 0 <= x.delay + Q4v s l * ix s.ships t /\ x.delay + Q4v s l * ix s.ships t <= _; rw [e]; have:=h.d; omega
 . show (x.closed ++ [Y1m s t l]).length <= H + 1; rw [List.length_append]; have:=h.l; simp; omega
theorem X1l (t:Nat) (c:Bool) (l:List Runner):Q4v s (moved s t c l)=Q4v s l:=by
 unfold Q4v moved;rw [List.map_map]; rfl
theorem Y3r (hv:Q1b s) {i:Nat} (hi:i < s.members.length):0 <= Q0i s.members i:=by have:=(hv.weights i hi).1; omega
theorem Y6c (hv:Q1b s) {l:List Runner} (hl:Known s l):0 <= Q4v s l:=by
 unfold Q4v
 induction l with
 | nil=>simp
 | cons x l ih =>
   rw [List.map_cons,List.sum_cons];have h1:=Y3r hv (hl x List.mem_cons_self);have h2:=ih fun r hr=>hl r (List.mem_cons_of_mem _ hr);omega
theorem Z8g (hv:Q1b s) {l:List Runner} (hl:Known s l):0 <= X9u s l /\ X9u s l <= Q4v s l:=by
 unfold Q4v X9u
 induction l with
 | nil=>simp
 | cons x l ih =>
   rw [List.map_cons,List.sum_cons,List.map_cons,List.sum_cons];have h1:=Y3r hv (hl x List.mem_cons_self);have h2:=ih fun r hr=>hl r (List.mem_cons_of_mem _ hr)
   split <;> omega
theorem Z2a {t c:Nat} {l:List Runner} (h:Known s l):Known s (X2n s t c l):=fun r hr=>h r (Q8k.1 hr).1
theorem Z0q (t c:Nat) (l:List Runner):Q4v s (X2n s t (c + 1) l)=Q4v s (X2n s t c l) + Q4v s (Q6k s t c l):=Q6x t c (fun x=>Q0i s.members x.member) l
def Z8e (s:Q0b) (k:Nat) (sub:List Runner -> List Plan):Prop:=∀ l,Known s l -> Q6t s (s.ships.length - k) l -> (sub l).length <= 2 ^ X2m s (s.ships.length - k) l /\ ∀ x ∈ sub l,PBd k (Q4v s l) (X2m s (s.ships.length - k) l) x
theorem X5n (hv:Q1b s) {k:Nat} (hk:k + 1 <= s.ships.length) {sub:List Runner -> List Plan} (ih:Z8e s k sub) {l:List Runner} (hl:Known s l) (hn:l ≠ []) (hs':Q6t s (s.ships.length - k) l) :
    ((sub (moved s (s.ships.length - (k + 1)) false l)).length + (sub (moved s (s.ships.length - (k + 1)) true l)).length <= 2 ^ X2m s (s.ships.length - (k + 1)) l) /\
    (Q3l s (s.ships.length - (k + 1)) sub l).length <= 2 ^ X2m s (s.ships.length - (k + 1)) l /\ ∀ x ∈ Q3l s (s.ships.length - (k + 1)) sub l,PBd (k + 1) (Q4v s l) (X2m s (s.ships.length - (k + 1)) l) x:=by
 have e1:s.ships.length - (k + 1) + 1=s.ships.length - k:=by omega
 have hu:=Y9b hv.toFine hl hn (t:=s.ships.length - (k + 1)) (by omega)
 rw [e1] at hu;obtain ⟨a1,a2⟩:=ih (moved s (s.ships.length - (k + 1)) false l) (Q2q hl) (Q3c hs');obtain ⟨b1,b2⟩:=ih (moved s (s.ships.length - (k + 1)) true l) (Q2q hl) (Q3c hs');rw [X5a] at a1 b1;have hp:2 ^ (X2m s (s.ships.length - k) l + 1) <= 2 ^ X2m s (s.ships.length - (k + 1)) l:=Nat.pow_le_pow_right (by omega) hu
 rw [Nat.pow_succ] at hp;have hW:=Y6c hv hl;refine ⟨by omega,?_,fun x hx=>?_⟩
 . unfold Q3l
   refine Nat.le_trans (Y3u _) ?_;rw [List.length_append,List.length_map];omega
 . unfold Q3l at hx
   rcases List.mem_append.1 (X4n hx) with hx | hx
   . have:=a2 x hx
     rw [X5a,X1l] at this;exact (this.up hW).mono (by omega)
   . obtain ⟨y,hy,rfl⟩:=List.mem_map.1 hx
     have:=b2 y hy;rw [X5a,X1l] at this;have hlt:s.ships.length - (k + 1) < s.ships.length:=by omega
     exact (this.close hW (hv.delays _ (by rw [Q4s hlt]; exact List.getElem_mem hlt))).mono (by omega)
theorem Y0q (hv:Q1b s) {k:Nat} (hk:k + 1 <= s.ships.length) {sub:List Runner -> List Plan} (ih:Z8e s k sub) {l:List Runner} (hl:Known s l)
    (hs':Q6t s (s.ships.length - (k + 1)) l):∀ c:Nat,(Q1x s (s.ships.length - (k + 1)) sub l c).length <= 2 ^ X2m s (s.ships.length - (k + 1)) (X2n s (s.ships.length - (k + 1)) c l) /\
     ∀ x ∈ Q1x s (s.ships.length - (k + 1)) sub l c,PBd (k + 1) (Q4v s (X2n s (s.ships.length - (k + 1)) c l)) (X2m s (s.ships.length - (k + 1)) (X2n s (s.ships.length - (k + 1)) c l)) x
 | 0=>by
   rw [Q1x,X9x hv.toFine hl (by omega)]
   refine ⟨Nat.one_le_two_pow,fun x hx=>?_⟩;rw [List.mem_singleton] at hx;subst hx;refine ⟨⟨Int.le_refl _,?_⟩,⟨Int.le_refl _,?_⟩,⟨Int.le_refl _,?_⟩,Nat.zero_le _⟩ <;> simp [Q4v]
 | c + 1=>by
   have e1:s.ships.length - (k + 1) + 1=s.ships.length - k:=by omega
   obtain ⟨h1,h2⟩:=Y0q hv hk ih hl hs' c;rw [Q1x,Y3w,Z0q]
   split
   . rename_i hn
     rw [hn];have hz:X2m s (s.ships.length - (k + 1)) []=0:=by
      unfold X2m;rw [List.countP_eq_zero];intro h _; simp [under]
     have hw:Q4v s []=0:=by simp [Q4v]
     rw [hz,hw,Nat.add_zero,Int.add_zero];exact ⟨h1,h2⟩
   . rename_i hn
     obtain ⟨_,g1,g2⟩:=X5n hv hk ih (Q6r hl) hn (e1 ▸ Q8g hv.toFine hl (by omega) hs')
     refine ⟨?_,fun x hx=>?_⟩
     . refine Nat.le_trans (Y2l _ _) ?_
       rw [Nat.pow_add];exact Nat.mul_le_mul h1 g1
     . obtain ⟨y,hy,z,hz,rfl⟩:=X2s hx
       exact (h2 y hy).both (g2 z hz)
theorem Q6b (hv:Q1b s):∀ k,k <= s.ships.length -> Z8e s k (Q1w s k)
 | 0,_=>fun l hl _=>by
   have h:=Z8g hv hl;refine ⟨Nat.one_le_two_pow,fun x hx=>?_⟩;rw [Q1w,List.mem_singleton] at hx;subst hx;exact ⟨h,⟨Int.le_refl _,by simp⟩,⟨Int.le_refl _,by simp⟩,Nat.zero_le _⟩
 | k + 1,hk=>fun l hl hs'=>by
   have:=Y0q hv hk (Q6b hv k (by omega)) hl hs' 10
   rw [Y6e hv.toFine hl (by omega)] at this
   exact this
theorem X5i (t:Nat) (l:List Runner):X2m s t l <= s.hist.length:=List.countP_le_length
end Go.Tw
