/- Contract of the law's own function: told. Contract: the function literal of groups (have two members the same classes?). Ranges over functions inside a loop: the marks that they leave among the deferred calls; a loop whose invariant names them and counts up in a slot. Contract: groups (of the program): the groups of a valid season and the sum of their weights. Contract of the law's own function: groups. -/
import Derived.Test.YthnobngcipaljaaGreatDoorPo19
import Derived.Test.YthnobngcipaljaaGreatDoorPo08
import Derived.OwnWalk
import Derived.Test.YthnobngcipaljaaGreatDoorPo11
import Derived.Test.YthnobngcipaljaaGreatDoorPo18
import Derived.Test.YthnobngcipaljaaGreatDoorPo09
import Derived.Scope
import Derived.WalkMore
import Derived.Test.YthnobngcipaljaaGreatDoorPo06
set_option maxRecDepth 1000000
set_option maxHeartbeats 64000000
set_option linter.unusedVariables false
set_option linter.unusedSimpArgs false
set_option linter.constructorNameAsVariable false
namespace Go.Proofs
open Go.RowKit Go.Tw Go.Flow
attribute [local go_sem] Oper.semAt_some
theorem Tryz.J2k:(Tryz.prog.info? 115).map (fun i=>(i.zero,i.size,i.bytes)) = some (some (.agg #[.slice none 0 0,.bool false]),2,32):=by kernel_rfl
def Z3h (q:Value × Rul):List Value:=[q.1,.bool q.2.close]
theorem X6a (q:Value × Rul):(Z3h q).length = 2:=rfl
theorem Z0w {w w0:World} {B:Nat} {T:TypeId} {v:Value} {qs:List (Value × Rul)} (h:Q1d w B T 2 Z3h v qs) (hl:qs.length <= 100000) (hr:∀ q ∈ qs,Q0d w0 q.1 q.2.classes) (hx:Ext w0 w):Q3y w v (qs.map (·.2)):=by
 refine h.rowsOf (by simp) (by simp; omega) X6a (fun j h1 h2=>?_) (fun c c' x hc h=>?_)
 . have hq:=List.getElem_mem h1
   simp only [List.getElem_map];exact ⟨(hr _ hq).ext hx,rfl⟩
 . exact ⟨by rw [<- hc 0 (by omega)]; exact h.1,by rw [<- hc 1 (by omega)]; exact h.2⟩
theorem Y3k {w w':World} {base n size B:Nat} {e:TypeId} {v:Value} {xs:List Value} {o:Obj} (hown:w.ownsRow base e size v n xs) (hg:(w.alloc o).grownBy w' v.ownBlock) (hb:B <= base) (hB:B <= w.heap.size):Below B w w' :=
 Below.grown ((Below.refl B w).alloc hB o) hg (by simp; omega) (fun k hk=>Nat.le_trans hb (hown.lt k hk).1)
theorem _root_.Go.Tw.Q1d.Y2t {α:Type} {w:World} {base k:Nat} {e:TypeId} {enc:α -> List Value} {v:Value} {l:List α} (h:Q1d w base e k enc v l) {p:Addr} (hp:p.block < base) (u:Value):Q1d (w.setCell p u) base e k enc v l:=h.only hp (Q2q _ _ _)
theorem _root_.Go.Tw.Ext.Z0e {w w':World} (h:Ext w w') {p:Addr} (hp:w.heap.size <= p.block) (u:Value):Ext w (w'.setCell p u):=Below.setCell h hp u
theorem Z0a (w:World) (v:Value) (p:List Rul) (hv:Q1c w v p) (hl:p.length <= 4096) :
    Calls Tryz.prog 26 #[v] w fun e w'=>∃ u,e = .returned u /\ Q1c w' u p /\ Ext w w':=by
 obtain ⟨i0,hi,hz0,hz1,hz2⟩:=info_parts Tryz.J2k;obtain ⟨a,rfl,h2⟩:=hv;obtain ⟨A,cap,rfl,-,hcap,hc⟩:=h2.opened;have HC:=Lib.hid hc;obtain ⟨n,hn⟩:∃ n,p.length = n:=⟨_,rfl⟩;have HN:=Lib.hid hn;rw [hn] at hl HC ⊢;clear h2 hc hn hcap;go_enter Tryz.func26,Tryz.ntmps26;go_wp2_with fail;obtain ⟨W,hWW,k0,k1,k2,HXW,eW⟩:=X7w w 38 #[.slice A n cap] 47 #[.slice none 0 0] 47 #[.slice none 0 0];rw [hWW];clear hWW;obtain ⟨gp,hgp⟩:∃ x,w.heap.size = x:=⟨_,rfl⟩;have HGP:=Lib.hid hgp;rw [hgp] at k1 k2 eW ⊢;have K1:=Lib.hid k1;clear k0 k1 hgp
 go_loopw [9] (fun i wr=>∃ (k:Nat) (vo:Value) (qs:List (Value × Rul)),k <= n /\ i = .int .i64 k /\ Blk wr (gp + 1 + 1) 47 #[vo] /\ Q1d wr (gp + 1 + 1 + 1) 115 2 Z3h vo qs /\ qs.map (·.2) = p.take k /\ (∀ q ∈ qs,Q0d w q.1 q.2.classes) /\ Below (gp + 1 + 1) W wr /\ gp + 1 + 1 + 1 <= wr.heap.size) (fun i _=>n - (intOf i).toNat)
 case atStart=>exact ⟨0,_,[],Nat.zero_le _,rfl,k2,Q1d.nil _ _ _ _ _,rfl,(fun q hq=>by simp at hq),Below.refl _ _,by omega⟩
 case round =>
  obtain ⟨k,vo,qs,hk,rfl,hbo,hown,hqs,hqr,hlow,hsz⟩:=hrel;have hxr:Ext w wr:=Below.trans HXW.out (hlow.mono (by have:=HGP.out; omega))
  have hqk:qs.length = k:=by rw [<- List.length_map (f:=(·.2)),hqs,List.length_take,HN.out]; omega
  have HQR:=Lib.hid hqr;have HQS:=Lib.hid hqs;have HLO:=Lib.hid hlow
  by_cases hlt:k < n
  . have hkI:(k:Int) < n:=by omega
    obtain ⟨b,off,x,rfl,hb,e0,e1,hi0⟩:=HC.out k hlt;replace e0:=hxr.cell e0;replace e1:=hxr.cell e1;obtain ⟨X,capx,rfl,-,-,-⟩:=hi0.opened;have hpk:p.take (k + 1) = p.take k ++ [⟨Q0w p k,Q4q p k⟩]:=by
     rw [List.take_succ_eq_append_getElem (by rw [HN.out]; exact hlt),Q0w,Q4q,Q0v _ (by rw [HN.out]; exact hlt)]
    have HI:=Lib.hid hi0;have HPK:=Lib.hid hpk;obtain ⟨cs,hcs⟩:∃ c,Q0w p k = c:=⟨_,rfl⟩;obtain ⟨cb,hcb⟩:∃ c,Q4q p k = c:=⟨_,rfl⟩;rw [hcs] at e0 HI HPK;rw [hcb] at e1 HPK;have hbx:=Ext.box wr (.cells #[.slice X cs.length capx,.bool cb] 167);have c2:(wr.alloc (.cells #[.slice X cs.length capx,.bool cb] 167)).cell? ⟨gp + 1 + 1,0,none⟩ = some vo:=(hbo.ext hbx).cell 0;obtain ⟨wq,rfl⟩:∃ Z,Z = wr:=⟨_,rfl⟩;clear hqs hqr hlow hxr hi0 hpk hcs hcb;go_wp2_with (at_builtin; refine halted ?_);unfold Q1j;have hes:(wq.alloc (.cells #[.slice X cs.length capx,.bool cb] 167)).heap.size = wq.heap.size + 1:=by simp
    obtain ⟨wb,hwb⟩:∃ Z,wq.alloc (.cells #[.slice X cs.length capx,.bool cb] 167) = Z:=⟨_,rfl⟩;rw [hwb] at hbx hes ⊢;rw [<- hes];have hown1:=hown.below hbx;have hbo1:=hbo.ext hbx;have HBO:=Lib.hid hbo1;have HBX:=Lib.hid hbx;have hsz1:gp + 1 + 1 + 1 <= wb.heap.size:=by omega
    clear hbo hown hwb c2 hbo1
    (at_builtin; refine wpList_append_own _ rfl _ _ 45 rfl (gp + 1 + 1 + 1) 115 i0 (.agg #[.slice none 0 0,.bool false]) 2 32 Tryz.underlying45 hi hz0 hz1 hz2 rfl (by decide) _ _ _ rfl (World.ownsRow.alloc hown1 _) ⟨wb.heap.size,0,none⟩ 1 1 [.slice X cs.length capx,.bool cb] rfl rfl ?_ ?_ ?_ ?_ ?_ ?_; exact Y1u _ _ _; (focus (simp [Value.oneCell'])); (focus (unfold maxLen; omega)); (focus omega); (focus (have:=hbx.size; simp at this ⊢; omega)); intro v' w1 hown' hgrow _)
    refine halted ?_;have hbl:=Y3k hown1 hgrow (Nat.le_refl _) hsz1;have hb1:=HBO.out.below hbl (by omega)
    have c1':w1.cell? ⟨gp + 1 + 1,0,none⟩ = some vo:=hb1.cell 0;have f1:=hb1.frozen 0;have HB1:=Lib.hid hb1;have HBL:=Lib.hid hbl;have HSZ1:Hid (gp + 1 + 1 + 1 <= w1.heap.size):=Lib.hid (by have:=hbl.size; omega)
    have HOW:=Lib.hid (show Q1d w1 (gp + 1 + 1 + 1) 115 2 Z3h v' (qs ++ [(.slice X cs.length capx,⟨cs,cb⟩)]) from Q1d.snoc hown')
    obtain ⟨Av,cv',rfl,-⟩:=HOW.out.shape;clear hgrow hb1 hbl hown' hown1 hbx e0 e1;unfold Q1j;go_wp2;go_roundw
    case rel=>exact ⟨k + 1,_,qs ++ [(.slice X cs.length capx,⟨cs,cb⟩)],by omega,by go_num,HB1.out.set 0 _,by have h:=HOW.out; rw [List.length_append,hqk] at h; exact h.Y2t (p:=⟨gp + 1 + 1,0,none⟩) (Nat.lt_succ_self _) _,by rw [List.map_append,HQS.out,HPK.out]; rfl,
     (fun q hq=>by
      rcases List.mem_append.1 hq with hq | hq
      . exact HQR.out q hq
      . rw [List.mem_singleton.1 hq]; exact HI.out),
     (Below.trans HLO.out (Below.trans (HBX.out.mono (by omega)) (HBL.out.mono (Nat.le_succ _)))).setCell (p:=⟨gp + 1 + 1,0,none⟩) (Nat.le_refl _) _,by have:=HSZ1.out; simp; omega⟩
    case measure=>simp [intOf]; omega
  . have hkI:¬ (k:Int) < n:=by omega
    have hkn:k = n:=by omega
    subst hkn;have hp:p.take k = p:=by rw [List.take_of_length_le (by rw [HN.out]; omega)]
    obtain ⟨Av,cv',rfl,-⟩:=hown.shape;rw [hqk] at hown hbo;have HOWN:=Lib.hid hown;have HQK:=Lib.hid hqk;have c0:wr.cell? ⟨gp + 1 + 1,0,none⟩ = _:=hbo.cell 0;simp only [Go.Tw.gA,Go.Tw.gB] at c0;have hk1:=K1.out.below HLO.out (by omega)
    have c1:wr.cell? ⟨gp + 1,0,none⟩ = some (.slice none 0 0):=hk1.cell 0;have f1:=hk1.frozen 0;have HK1:=Lib.hid hk1;have HXR:=Lib.hid hxr;clear hbo hown hqs hqr hlow hxr hk1;go_wp2;refine bodyPost_ret (Q2d Tryz.results26 rfl (HK1.out.set 0 _) Tryz.J2n Tryz.J0b) rfl ?_;refine ⟨_,rfl,⟨_,rfl,?_⟩,HXR.out.Z0e (p:=⟨gp + 1,0,none⟩) (by show w.heap.size <= gp + 1; have:=HGP.out; omega) _⟩
    have h:=Z0w (HOWN.out.Y2t (p:=⟨gp + 1,0,none⟩) (by show gp + 1 < gp + 1 + 1 + 1; omega) (.slice Av k cv')) (by rw [HQK.out]; omega) HQR.out (HXR.out.Z0e (p:=⟨gp + 1,0,none⟩) (by show w.heap.size <= gp + 1; have:=HGP.out; omega) _)
    rw [HQS.out,hp] at h;exact h
end Go.Proofs
namespace Go.Proofs
open Go.RowKit Go.Tw Go.Flow
attribute [local go_sem] Oper.semAt_some
theorem Y8j (w:World) (gS gM k:Nat) (a b:Value) (s:Q0b) (m0 m1 m3 m4 mc:Value) (cl:List Int) (hS:Blk w gS 34 #[.int .i64 s.limit,a,b]) (hs:Q4m w a b s) (hM:Blk w gM 69 #[m0,m1,mc,m3,m4]) (hc:Q0d w mc cl) (hk:k < s.members.length) :
    Calls Tryz.prog 169 #[.int .i64 (k:Int),.pointer (some ⟨gS,0,none⟩),.pointer (some ⟨gM,0,none⟩)] w fun e w'=>e = .returned (.bool (decide (Q0c s.members k = cl))) /\ Ext w w':=by
 obtain ⟨B,capb,rfl,-,-,-⟩:=hs.members.opened;obtain ⟨bm,off,capx,capy,capz,X,Y,Z,hme⟩:=Q2k hs.members hk;have hA:=hme.addr;subst hA;have HE2:=Lib.hid hme.e2;have HEQ:=Lib.hid (fun (w1:World) (hx:Ext w w1)=>Z2j w1 _ _ _ cl (hme.x.ext hx) (hc.ext hx));obtain ⟨lc,hlc⟩:∃ x,(Q0c s.members k).length = x:=⟨_,rfl⟩;rw [hlc] at HE2 HEQ;obtain ⟨q,hq⟩:∃ q,decide (Q0c s.members k = cl) = q:=⟨_,rfl⟩;rw [hq] at HEQ ⊢;have HSB:=Lib.hid hS;have HMB:=Lib.hid hM;have hkI:(k:Int) < s.members.length:=by omega
 obtain ⟨M,hMl⟩:∃ M,s.members.length = M:=⟨_,rfl⟩;rw [hMl] at HSB hkI hk;have hdr:=(Ext.refl w).drew;clear hme hlc hq hS hM hs hc hMl;go_enter Tryz.func169,Tryz.ntmps169;go_wp2_with fail;refine Flow.Q1h [.p,.w,.p,.p,.p,.w,.p,.w,.w,.p] [0,1,2,3,4,5,6,7,8,9] [[],[0],[],[1,2],[3],[4],[],[6],[5,7],[0,1,2,3,4,5,6,7,8]]
  [.c 0 (.pointer (some ⟨gS,2,none⟩)),.c 1 (.slice (some ⟨bm,off,none⟩) M capb),.c 2 (.int .i64 (k:Int)),.c 3 (.pointer (some ⟨bm,off + k * 5,none⟩)),.c 4 (.pointer (some ⟨bm,off + k * 5 + 2,none⟩)),.c 5 (.slice X lc capx),.c 6 (.pointer (some ⟨gM,2,none⟩)),.c 7 (mc),.c 8 (.bool q),.c 9 (.bool q)]
  (by kernel_rfl) rfl (by kernel_rfl) ⟨?g0,?g1,?g2,?g3,?g4,?g5,?g6,?g7,?g8,?g9,trivial⟩ ?post
 case g0 | g2 | g6=>
  intro v w1 hx;intro bb hbb;subst hbb;refine ⟨_,fun w=>?_,rfl⟩;go_simp
 case g1 | g5 | g7=>
  intro v w1 hx;(repeat intro (zq:v _ = _));intro bb hbb;subst hbb;have n0:w1.cell? ⟨gS,2,none⟩ = some (.slice (some ⟨bm,off,none⟩) M capb):=(HSB.out.ext (hdr.trans hx)).cell 2;have n1:w1.cell? ⟨bm,off + k * 5 + 2,none⟩ = some (.slice X lc capx):=(hdr.trans hx).cell HE2.out;have n2:w1.cell? ⟨gM,2,none⟩ = some mc:=(HMB.out.ext (hdr.trans hx)).cell 2;intro K hK;go_simp;exact hK _ _ (Ext.refl _) rfl
 case g3 | g4 | g9=>
  intro v w1 hx;(repeat intro (zq:v _ = _));intro bb hbb;subst hbb;refine ⟨_,fun w=>?_,rfl⟩;go_simp
 case g8=>
  intro v w1 hx;(repeat intro (zq:v _ = _));intro bb hbb;subst hbb;intro K hK;go_simp;refine Q0e (HEQ.out w1 (hdr.trans hx)) ?_;rintro e w2 ⟨rfl,hx2⟩;exact ⟨_,rfl,hK _ _ hx2 rfl⟩
 case post =>
  intro v w1 hx;(iterate 10 intro (zq:v _ = _));simp only [Flow.All,Flow.acts,Act.put];go_simp;have HX:=Lib.hid (hdr.trans hx);clear hx hdr;(repeat clear zq);go_wp2;go_ret;exact ⟨rfl,HX.out⟩
end Go.Proofs
namespace Go.Flow
open Go.RowKit Go.Tw
def J3a (D:Nat):Deferred:={ target:=.collected D,args:=#[] }
def marks (l:List Nat):List Deferred:=l.map J3a
structure Marked (W:World) (l:List Nat):Prop where
 nd:l.Nodup
 all:∀ D,D ∈ l -> W.heap[D]? = some (.deferred (some []))
theorem Marked.nil (W:World):Marked W []:=⟨List.nodup_nil,fun D h=>by cases h⟩
theorem Marked.lt {W:World} {l:List Nat} (h:Marked W l) {D:Nat} (hD:D ∈ l):D < W.heap.size:=(Array.getElem?_eq_some_iff.1 (h.all D hD)).1
theorem Marked.ext {W W':World} {l:List Nat} (h:Marked W l) (hx:Ext W W'):Marked W' l:=⟨h.nd,fun D hD=>by rw [Below.block hx _ (h.lt hD)]; exact h.all D hD⟩
theorem Marked.keeps {W W':World} {l:List Nat} (h:Marked W l) (hx:KeepsOthers W W'):Marked W' l:=⟨h.nd,fun D hD=>hx.same _ _ (h.all D hD) rfl⟩
theorem Marked.turns {B:Nat} {W W':World} {l:List Nat} (h:Marked W l) (hB:∀ D,D ∈ l -> D < B) (hx:Turns B W W'):Marked W' l:=⟨h.nd,fun D hD=>by rw [hx.same (hB D hD)]; exact h.all D hD⟩
theorem Marked.cons {W:World} {l:List Nat} {D:Nat} (h:Marked W l) (hD:W.heap[D]? = some (.deferred (some []))) (hn:∀ E,E ∈ l -> E < D):Marked W (D :: l):=by
 refine ⟨List.nodup_cons.2 ⟨fun hm=>Nat.lt_irrefl _ (hn D hm),h.nd⟩,fun E hE=>?_⟩
 rcases List.mem_cons.1 hE with rfl | hE
 . exact hD
 . exact h.all E hE
theorem Q5g {F:Fence} {n:Nat} {P:Program} {fn:Func} {tmps:Array Value} {R:Ending -> World -> Prop} {n0:Nat} (J:World -> Prop) (hJ:∀ A B,J A -> Turns n0 A B -> J B)
    (hR:∀ W,J W -> ∃ v,(results fn tmps).run P W = .ok v W /\ R (.returned v) W) :
    ∀ (l:List Nat) (W:World),Marked W l -> (∀ D,D ∈ l -> n0 <= D) -> J W -> LeavesInM F n P fn tmps R (marks l) .returning W
 | [],W,_,_,h=>hR W h
 | D :: l,W,hm,hn,h=>by
   have hD:=hm.all D (List.mem_cons_self ..);have hlt:=hm.lt (List.mem_cons_self ..);refine ⟨by simp,.inl ⟨D,_,rfl,run_takeDeferred hD,Q5g J hJ hR l _ ⟨(List.nodup_cons.1 hm.nd).2,fun E hE=>?_⟩ (fun E hE=>hn E (List.mem_cons_of_mem _ hE)) (hJ _ _ h ⟨D,_,_,hn D (List.mem_cons_self ..),hD,rfl,rfl⟩)⟩⟩
   have hne:E ≠ D:=fun e=>(List.nodup_cons.1 hm.nd).1 (e ▸ hE);rw [World.putObj_heap_other hne];exact hm.all E (List.mem_cons_of_mem _ hE)
theorem Y8u {F:Fence} {n:Nat} {P:Program} {Q:Exit -> Act -> World -> Prop} {a:Act} {w:World} {c:Code} (j N k0:Nat) (I:Nat -> Act -> World -> Prop)
    (hj:∀ k a w,I k a w -> intOf (a.tmps.getD j undef) = (k:Int)) (h0:I k0 a w)
    (round:∀ k a w,I k a w -> ∀ K:Act -> World -> Prop,(∀ a' w',k < N -> I (k + 1) a' w' -> K a' w') -> c.wpIn F n P (Exit.then K Q) a w):(Code.loop c).wpIn F n P Q a w:=by
 refine wpIn_loop (fun a w=>∃ k,I k a w) (fun a _=>N - (intOf (a.tmps.getD j undef)).toNat) ⟨k0,h0⟩ ?_;rintro a w ⟨k,hk⟩;refine round k a w hk _ fun a' w' hlt h'=>⟨⟨k + 1,h'⟩,?_⟩;rw [hj _ _ _ h',hj _ _ _ hk];omega
def X5a (A:Array Value) (js:List Nat) (u:Nat -> Value):Array Value:=js.foldl (fun A j=>A.setIfInBounds j (u j)) A
theorem X8n {F:Fence} {n:Nat} {P:Program} {Q:Exit -> Act -> World -> Prop} {tmps:Array Value} {ds0:List Deferred} {w:World} {c:Code} (j N k0:Nat) (js:List Nat) (Ds0:List Nat) (R:Nat -> Act -> List Nat -> World -> Prop)
    (hj:∀ k a Ds w,R k a Ds w -> intOf (a.tmps.getD j undef) = (k:Int)) (hds:ds0 = marks Ds0) (hself:X5a tmps js (fun i=>tmps.getD i undef) = tmps) (h0:R k0 ⟨tmps,ds0⟩ Ds0 w)
    (round:∀ k u Ds w,R k ⟨X5a tmps js u,marks Ds⟩ Ds w -> ∀ K:Act -> World -> Prop,
     (∀ a' w' Ds',k < N -> a'.tmps = X5a tmps js (fun i=>a'.tmps.getD i undef) -> a'.defers = marks Ds' -> R (k + 1) a' Ds' w' -> K a' w') -> c.wpIn F n P (Exit.then K Q) ⟨X5a tmps js u,marks Ds⟩ w) :
    (Code.loop c).wpIn F n P Q ⟨tmps,ds0⟩ w:=by
 refine Y8u j N k0 (fun k a w=>∃ Ds,a = ⟨X5a tmps js (fun i=>a.tmps.getD i undef),marks Ds⟩ /\ R k a Ds w) (fun k a w ⟨Ds,_,h⟩=>hj k a Ds w h) ⟨Ds0,by rw [hself,hds],h0⟩ ?_
 rintro k a w ⟨Ds,ha,hR⟩ K hK;have key:∀ u,a = ⟨X5a tmps js u,marks Ds⟩ -> c.wpIn F n P (Exit.then K Q) a w:=by
  rintro u rfl;refine round k u Ds w hR K fun a' w' Ds' hlt h1 h2 h3=>hK a' w' hlt ⟨Ds',?_,h3⟩;rw [<- h1,<- h2]
 exact key _ ha
theorem Z0y {n:Nat} {P:Program} {Q:Exit -> Act -> World -> Prop} {a:Act} {w:World} {c:Code} (h:c.wpIn Fence.wide n P (Exit.noGoto Q) a w):(Code.scope c).wpIn Fence.wide n P Q a w :=
 wpIn_wide.2 (wp_scope_straight (wpIn_wide.1 h))
end Go.Flow
namespace Go.Proofs
open Go.RowKit Go.Tw Go.Flow
attribute [local go_sem] Oper.semAt_some
def Y2i (q:Value × Grp):List Value:=[q.1,.int .i64 q.2.weight]
theorem Y4k (q:Value × Grp):(Y2i q).length = 2:=rfl
def GrR (w:World) (gl:List (Value × Grp)):Prop:=∀ q ∈ gl,Q0t w 0 3 (.int .i64) q.1 q.2.members
theorem GrR.nil (w:World):GrR w []:=fun _ hq=>by simp at hq
theorem GrR.ext {w w':World} {gl:List (Value × Grp)} (h:GrR w gl) (hx:Ext w w'):GrR w' gl:=fun q hq=>(h q hq).below hx
theorem GrR.snoc {w:World} {gl:List (Value × Grp)} {q:Value × Grp} (h:GrR w gl) (hq:Q0t w 0 3 (.int .i64) q.1 q.2.members):GrR w (gl ++ [q]):=fun z hz=>by
 rcases List.mem_append.1 hz with hz | hz
 . exact h z hz
 . rw [List.mem_singleton.1 hz]; exact hq
def X8e (s:Q0b) (i:Nat):List Int:=(X0a s i).map Int.ofNat
def Y8m (s:Q0b) (i:Nat):Grp:=⟨X8e s i,Y4u s (X0a s i)⟩
def Q5d (s:Q0b) (k:Nat):List Grp:=(X1k (Y6o s) k).map (Y8m s)
theorem Z2q (s:Q0b):Q5d s s.members.length = Q5j s:=by rw [X3e]; rfl
theorem Z2e {s:Q0b} {k:Nat} (h:Z1k (Y6o s) k = true):Q5d s (k + 1) = Q5d s k ++ [Y8m s k]:=by
 unfold Q5d; rw [X0u,if_pos h,List.map_append]; rfl
theorem Z4h {s:Q0b} {k:Nat} (h:Z1k (Y6o s) k = false):Q5d s (k + 1) = Q5d s k:=by
 unfold Q5d; rw [X0u,if_neg (by simp [h]),List.append_nil]
def X5n (s:Q0b) (j i:Nat):List Int:=(Q5a (Y6o s) j i).map Int.ofNat
theorem Y0c (s:Q0b) (j i:Nat):X5n s (j + 1) i = X5n s j i ++ if decide (Q0c s.members j = Q0c s.members i) then [(j:Int)] else []:=by
 unfold X5n;rw [X7z,List.map_append]
 by_cases h:Q0c s.members j = Q0c s.members i
 . rw [if_pos (by simpa [Y6o] using h),if_pos (by simpa using h)]; rfl
 . rw [if_neg (by simpa [Y6o] using h),if_neg (by simpa using h)]; rfl
theorem X8p (s:Q0b) (i:Nat):∀ j,(X5n s j i).length <= j
 | 0=>by simp [X5n,Q5a]
 | j + 1=>by
   have h:=X8p s i j;rw [Y0c,List.length_append]
   split <;> simp <;> omega
def X8y (s:Q0b) (l:List Nat) (c j:Nat):Int:=((l.take j).map fun k=>if (Q1l s k).keeps s.limit (Q4f c s.ships.length) then Q0k s.members k else 0).sum
theorem Y1f {s:Q0b} {l:List Nat} {c j:Nat} (hj:j < l.length):X8y s l c (j + 1) = X8y s l c j + if (Q1l s l[j]).keeps s.limit (Q4f c s.ships.length) then Q0k s.members l[j] else 0:=by
 unfold X8y;rw [List.take_succ_eq_append_getElem hj,List.map_append,List.sum_append]; simp
theorem Y6e (s:Q0b) (l:List Nat) (c:Nat):X8y s l c l.length = Y1c s l c:=by unfold X8y Y1c; rw [List.take_length]
theorem Y1q {s:Q0b} (hv:Q0y s) {l:List Nat} (hl:∀ k ∈ l,k < s.members.length) (c:Nat):∀ j,j <= l.length -> 0 <= X8y s l c j /\ X8y s l c j <= 1000 * j
 | 0,_=>by simp [X8y]
 | j + 1,h=>by
   have ih:=Y1q hv hl c j (by omega)
   have hw:=hv.weights l[j] (hl _ (List.getElem_mem (by omega)))
   rw [Y1f (by omega)]
   split <;> omega
def Z6h (s:Q0b) (l:List Nat) (j:Nat):Int:=(List.range j).foldl (fun m n=>max m (Y1c s l n)) 0
theorem Y6h (s:Q0b) (l:List Nat) (j:Nat):Z6h s l (j + 1) = max (Z6h s l j) (Y1c s l j):=by
 unfold Z6h; rw [List.range_succ,List.foldl_append]; rfl
theorem Y6z {s:Q0b} (hv:Q0y s) {l:List Nat} (hl:∀ k ∈ l,k < s.members.length) (h8:l.length <= 8):∀ j,0 <= Z6h s l j /\ Z6h s l j <= 8000
 | 0=>by simp [Z6h]
 | j + 1=>by
   have ih:=Y6z hv hl h8 j;have h:=Y1q hv hl j l.length (Nat.le_refl _);rw [Y6e] at h;rw [Y6h];omega
theorem Q9v (f:Nat -> List Int):∀ k,(X1k f k).length <= k
 | 0=>by simp [X1k]
 | k + 1=>by
   have:=Q9v f k;rw [X0u,List.length_append]
   split <;> simp <;> omega
theorem Z9y {s:Q0b} (hv:Q0y s) (k:Nat):0 <= ((Q5d s k).map Grp.weight).sum /\ ((Q5d s k).map Grp.weight).sum <= 8000 * k:=by
 have hl:∀ i,0 <= (Y8m s i).weight /\ (Y8m s i).weight <= 8000:=fun i=>by
  have hm:∀ x ∈ X0a s i,x < s.members.length:=fun x hx=>List.mem_range.1 (List.mem_filter.1 hx).1;have h8:(X0a s i).length <= 8:=by
   have h1:(X0a s i).length <= (List.range s.members.length).length:=List.length_filter_le ..;rw [List.length_range] at h1;have:=hv.some; omega
  exact Y6z hv hm h8 _
 have key:∀ l:List Nat,0 <= ((l.map (Y8m s)).map Grp.weight).sum /\ ((l.map (Y8m s)).map Grp.weight).sum <= 8000 * l.length:=by
  intro l
  induction l with
  | nil=>simp
  | cons x l ih =>
    have:=hl x;simp only [List.map_cons,List.sum_cons,List.length_cons];omega
 have h1:=key (X1k (Y6o s) k);have h2:=Q9v (Y6o s) k;unfold Q5d;omega
end Go.Proofs
namespace Go.Proofs
open Go.RowKit Go.Tw Go.Flow
attribute [local go_sem] Oper.semAt_some
theorem Tryz.J3b:(Tryz.prog.info? 153).map (fun i=>(i.zero,i.size,i.bytes)) = some (some (.agg #[.slice none 0 0,.int .i64 0]),2,32):=by kernel_rfl
theorem Z2w {w w0:World} {B:Nat} {T:TypeId} {v:Value} {qs:List (Value × Grp)} (h:Q1d w B T 2 Y2i v qs) (hl:qs.length <= 100000) (hr:∀ q ∈ qs,Q0d w0 q.1 q.2.members) (hx:Ext w0 w):Q4p w v (qs.map (·.2)):=by
 refine h.rowsOf (by simp) (by simp; omega) Y4k (fun j h1 h2=>?_) (fun c c' x hc h=>?_)
 . have hq:=List.getElem_mem h1
   simp only [List.getElem_map];exact ⟨(hr _ hq).ext hx,rfl⟩
 . exact ⟨by rw [<- hc 0 (by omega)]; exact h.1,by rw [<- hc 1 (by omega)]; exact h.2⟩
theorem Y8i (w:World) (v:Value) (p:List Grp) (hv:Q4p w v p) (hl:p.length <= 4096) :
    Calls Tryz.prog 75 #[v] w fun e w'=>∃ u,e = .returned u /\ Q4p w' u p /\ Ext w w':=by
 obtain ⟨i0,hi,hz0,hz1,hz2⟩:=info_parts Tryz.J3b;obtain ⟨A,cap,rfl,-,hcap,hc⟩:=hv.opened;have HC:=Lib.hid hc;obtain ⟨n,hn⟩:∃ n,p.length = n:=⟨_,rfl⟩;have HN:=Lib.hid hn;rw [hn] at hl HC ⊢;clear hv hc hn hcap;go_enter Tryz.func75,Tryz.ntmps75;go_wp2_with fail
 go_loopw [3,8] (fun vo i wr=>∃ (k:Nat) (qs:List (Value × Grp)),k <= n /\ i = .int .i64 k /\ Q1d wr w.heap.size 153 2 Y2i vo qs /\ qs.map (·.2) = p.take k /\ (∀ q ∈ qs,Q0d w q.1 q.2.members) /\ Ext w wr) (fun _ i _=>n - (intOf i).toNat)
 case atStart=>exact ⟨0,[],Nat.zero_le _,rfl,Q1d.nil _ _ _ _ _,rfl,(fun q hq=>by simp at hq),Ext.refl _⟩
 case round =>
  obtain ⟨k,qs,hk,rfl,hown,hqs,hqr,hxr⟩:=hrel;have hqk:qs.length = k:=by rw [<- List.length_map (f:=(·.2)),hqs,List.length_take,HN.out]; omega
  have HQR:=Lib.hid hqr;have HQS:=Lib.hid hqs
  by_cases hlt:k < n
  . have hkI:(k:Int) < n:=by omega
    obtain ⟨b,off,x,rfl,hb,e0,e1,hi0⟩:=HC.out k hlt;replace e0:=hxr.cell e0;replace e1:=hxr.cell e1;obtain ⟨X,capx,rfl,-,-,-⟩:=hi0.opened;have hpk:p.take (k + 1) = p.take k ++ [⟨Q5r p k,Q9d p k⟩]:=by
     rw [List.take_succ_eq_append_getElem (by rw [HN.out]; exact hlt),Q5r,Q9d,Q0v _ (by rw [HN.out]; exact hlt)]
    have HI:=Lib.hid hi0;have HPK:=Lib.hid hpk;obtain ⟨cs,hcs⟩:∃ c,Q5r p k = c:=⟨_,rfl⟩;obtain ⟨cb,hcb⟩:∃ c,Q9d p k = c:=⟨_,rfl⟩;rw [hcs] at e0 HI HPK;rw [hcb] at e1 HPK;have hbx:=Ext.box wr (.cells #[.slice X cs.length capx,.int .i64 cb] 64);have HXR:=Lib.hid hxr;obtain ⟨wq,rfl⟩:∃ Z,Z = wr:=⟨_,rfl⟩;clear hqs hqr hi0 hpk hcs hcb;go_wp2_with (at_builtin; refine halted ?_);unfold Q1j;have hes:(wq.alloc (.cells #[.slice X cs.length capx,.int .i64 cb] 64)).heap.size = wq.heap.size + 1:=by simp
    obtain ⟨wb,hwb⟩:∃ Z,wq.alloc (.cells #[.slice X cs.length capx,.int .i64 cb] 64) = Z:=⟨_,rfl⟩;rw [hwb] at hbx hes ⊢;rw [<- hes];have hown1:=hown.below hbx;have hxb:=hxr.trans hbx;have HXB:=Lib.hid hxb;clear hown hwb
    (at_builtin; refine wpList_append_own _ rfl _ _ 119 rfl (w.heap.size) 153 i0 (.agg #[.slice none 0 0,.int .i64 0]) 2 32 Tryz.underlying119 hi hz0 hz1 hz2 rfl (by decide) _ _ _ rfl (World.ownsRow.alloc hown1 _) ⟨wb.heap.size,0,none⟩ 1 1 [.slice X cs.length capx,.int .i64 cb] rfl rfl ?_ ?_ ?_ ?_ ?_ ?_; exact Y1u _ _ _; (focus (simp [Value.oneCell'])); (focus (unfold maxLen; omega)); (focus omega); (focus (have:=hxb.size; simp at this ⊢; omega)); intro v' w1 hown' hgrow _)
    have HX1:=Lib.hid (Q2l hxb hown1 (Nat.le_refl _) hgrow);have HOW:=Lib.hid (show Q1d w1 w.heap.size 153 2 Y2i v' (qs ++ [(.slice X cs.length capx,⟨cs,cb⟩)]) from Q1d.snoc hown')
    clear hgrow hown' hown1 hbx e0 e1 hxb;go_wp2;go_roundw
    case rel=>exact ⟨k + 1,qs ++ [(.slice X cs.length capx,⟨cs,cb⟩)],by omega,by go_num,HOW.out,by rw [List.map_append,HQS.out,HPK.out]; rfl,
     (fun q hq=>by
      rcases List.mem_append.1 hq with hq | hq
      . exact HQR.out q hq
      . rw [List.mem_singleton.1 hq]; exact HI.out),HX1.out⟩
    case measure=>simp [intOf]; omega
  . have hkI:¬ (k:Int) < n:=by omega
    have hkn:k = n:=by omega
    subst hkn;have hp:p.take k = p:=by rw [List.take_of_length_le (by rw [HN.out]; omega)]
    have hr:=Z2w hown (by omega) HQR.out hxr
    rw [HQS.out,hp] at hr;have HR:=Lib.hid hr;clear hown hqs hqr hr hp;go_wp2;go_ret;exact ⟨_,rfl,HR.out,hxr⟩
end Go.Proofs
