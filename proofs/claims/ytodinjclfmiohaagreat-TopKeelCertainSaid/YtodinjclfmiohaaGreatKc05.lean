/- Contracts of the basin: volumes, Run. Contract of the basin: First. Contract of the law's own function: keelSea. A range over an iterator that hands over values which lie in memory: the iterator's contract says of each value what holds of it where it is handed over; the law of the statement over such a contract (no round is left early). Contracts: count; all, as an iterator that hands over lists of closings. Turning a rule of a policy changes what is done after its history alone: plain lists, no program is in sight. Plain law: the rules of a policy as a map from keys to closings. Contracts: key. Contracts: closings (of the program): the map of the rules, and what it says for each member. Contracts: closings (of the program). Contracts: kept, weight, checkMember, checkMembers (of the program). Contracts: count, alone (of the program). Contracts: Q4f; Index and Contains over plans (of the program). Contract: history.compare. DERIVED: THE SHELF's CONTRACTS AT THIS DUMP, IN PLAIN WORDS (tools/lay-plain.mjs out of 'TryzShelf.lean', which tools/lay-shelf.mjs wrote): THE SAME DECLARATIONS UNDER THE SAME NAMES: 'import', 'namespace', 'open', 'def', 'theorem' AND NOTHING ELSE: no command of the shelf's: FOR A HAND-IN. Each laying: the table of numbers ('.._ren') and one theorem, a field a fact of the dump's own or the kernel's comparison; each contract: ONE APPLICATION. Contract: slices.SortFunc over histories. What CompactFunc keeps of a sorted list of histories; clear of the rest of a block of one-cell elements. Contract: slices.CompactFunc over histories. Contracts: ContainsFunc and DeleteFunc over plans. -/
import Derived.Test.YtodinjclfmiohaaGreatKc04
import Derived.Scope
import Derived.WalkMore
import Derived.Test.YtodinjclfmiohaaGreatKc01
import Derived.Test.YtodinjclfmiohaaGreatKc02
import Derived.RangeFuncNested
import Derived.RangeFuncBound
import Derived.RangeFuncCalls
import Derived.RangeFuncLeaves
import Derived.RangeFuncFrom
import Derived.Test.YtodinjclfmiohaaGreatKc03
import Derived.Shelf.Abstract
import Derived.Shelf.RegionOpen
import Derived.OwnWalkIn
import Derived.TacticsInMore
import Derived.LoopNIn
import Derived.LoopIn
import Derived.Laws.BytesArg
import Derived.Shelf.SlSortCmp.Whole1
import Derived.Ground.Names7Prog
import Derived.Ground.SlsfProg
import Derived.Shelf.Spec.TrailingZeros
import Derived.Shelf.SlGeneric
import Derived.Shelf.Small.Bits
import Derived.Shelf.Small.Wraps
import Derived.Shelf.Strconv.Itoa0
import Derived.Shelf.Bits.Mul64
import Derived.Shelf.Slices.Turned
import Derived.Ground.Names2Prog
import Derived.Shelf.Slices.Clone
import Derived.Shelf.Slices.SearchI
import Derived.Ground.SlgnProg
import Derived.Shelf.SlicesE.Clone
import Derived.Test.YtodinjclfmiohaaGreatProg
set_option maxRecDepth 1000000
set_option maxHeartbeats 64000000
set_option linter.unusedVariables false
set_option linter.unusedSimpArgs false
set_option linter.constructorNameAsVariable false
namespace Go.Tw
open Go.RowKit Go.Flow Go.Ba
def Z1d (x:Q1j) (V:List Int) (l:List Cond) (m:Nat):List (List Int):=(List.range m).map fun k=>Q3x x V l (k + 1)
end Go.Tw
namespace Go.Proofs
open Go.RowKit Go.Tw Go.Flow Go.Ba
attribute [local go_sem] Oper.semAt_some
theorem Tryz.J1h:(Tryz.prog.info? 44).map (fun i=>(i.zero,i.size,i.bytes)) = some (some (.slice none 0 0),1,24):=by kernel_rfl
theorem Tryz.J8p (w:World):(isAgg 125).run Tryz.prog w = .ok true w:=by kernel_rfl
theorem Tryz.J6f (w:World):(sizeOf 125).run Tryz.prog w = .ok 5 w:=by kernel_rfl
theorem Y8p (w:World) (td:Int) (op:Bool) (A1 A2 A3:Option Addr) (n1 c1 n2 c2 n3 c3:Nat) :
    Calls Tryz.prog 99 #[J0g td op (.slice A1 n1 c1) (.slice A2 n2 c2) (.slice A3 n3 c3)] w fun e w'=>e = .returned (.slice A3 n3 c3) /\ Ext w w':=by
 have hx:=Ext.box w (.cells (X2t td op (.slice A1 n1 c1) (.slice A2 n2 c2) (.slice A3 n3 c3)) 125);have hk:=(Blk.made w 125 (X2t td op (.slice A1 n1 c1) (.slice A2 n2 c2) (.slice A3 n3 c3))).cell 4;simp only [Go.Tw.gA,Go.Tw.gB,Go.Tw.gC] at hk;go_enter Tryz.func99,Tryz.ntmps99;go_wp2;go_ret;exact ⟨rfl,hx⟩
theorem Y3y (w:World) (v:Value) (ps:List PsV) (ll:List (List Int)) (hv:Q9g w v ps) (hr:∀ k (hk:k < ps.length),Q0e w ps[k].u (ll.getD k [])) (hle:ps.length <= 4096) (hl:ll.length = ps.length) :
    Calls Tryz.prog 98 #[v,.func (.func 99) #[] #[]] w fun e w'=>∃ x,e = .returned x /\ Q4z w' x ll /\ Ext w w':=by
 obtain ⟨i0,hi,hz0,hz1,hz2⟩:=info_parts Tryz.J1h;obtain ⟨A,cap,rfl,-,-,-⟩:=hv.opened;have hen:=enters_of Tryz.func99 (by kernel_rfl) rfl
 have HV:=Lib.hid hv;have HR:=Lib.hid hr;have HLL:=Lib.hid hl;have HLE:=Lib.hid hle;obtain ⟨m,hm⟩:∃ z,ps.length = z:=⟨_,rfl⟩;have HM:=Lib.hid hm;rw [hm];clear hv hr hl hle hm;go_enter Tryz.func98,Tryz.ntmps98;go_wp2
 go_loopw [5,10] (fun o i wr=>∃ (k:Nat) (vs:List Value),k <= m /\ i = .int .i64 k /\ Q0i wr w.heap.size 44 idV o vs /\ Reads w vs (ll.take k) /\ Ext w wr) (fun _ i _=>m - (intOf i).toNat)
 case atStart=>exact ⟨0,[],Nat.zero_le _,rfl,Q0i.nil _ _ _ _,⟨rfl,fun i hi=>by simp at hi⟩,Ext.refl _⟩
 case round =>
  obtain ⟨k,vs,hk,rfl,hown,hrd,hx⟩:=hrel;have hlen:vs.length = k:=by have:=hrd.1; rw [List.length_take,HLL.out,HM.out] at this; omega
  have HRD:=Lib.hid hrd;have HOWN:=Lib.hid hown;have HXR:=Lib.hid hx;clear hrd
  by_cases hlt:k < m
  . have hkI:(k:Int) < (m:Int):=by omega
    have HK:=Lib.hid hlt;have HWK:Hid (wrap64 ((k:Int) + 1) = (k:Int) + 1):=Lib.hid (by have:=HLE.out; have:=HM.out; unfold wrap64; omega)
    have hkl:k < ps.length:=by rw [HM.out]; exact hlt
    obtain ⟨L9,c9,h9,-,-,hcx⟩:=(HV.out.ext hx).opened;obtain ⟨bx,ox,A1,n1,c1,A2,n2,c2,A3,n3,c3,hbx,-,d0,d1,d2,d3,d4,-,-,hu⟩:=hcx k hkl;have hru:=HR.out k hkl;rw [hu] at hru;rw [HM.out] at h9;injection h9 with k1 k2 k3;subst k1 k3;subst hbx;have HRS:Hid (Reads w (vs ++ [.slice A3 n3 c3]) (ll.take (k + 1))):=Lib.hid (by
     have e:ll.take (k + 1) = ll.take k ++ [ll.getD k []]:=by
      rw [List.take_succ_eq_append_getElem (by rw [HLL.out]; exact hkl)]; simp [HLL.out,hkl]
     rw [e]; exact HRD.out.snoc hru)
    obtain ⟨td,htd⟩:∃ z,ps[k].td = z:=⟨_,rfl⟩;obtain ⟨op,hop⟩:∃ z,ps[k].op = z:=⟨_,rfl⟩;rw [htd] at d0;rw [hop] at d1;have HLEN:=Lib.hid hlen;have hll0:vs.length <= 4096:=by have:=HLE.out; have:=HM.out; omega
    have HLL0:=Lib.hid hll0;clear hcx htd hop hu hru hown hx k2 hk hlt hkl hlen hll0;go_upto_region 5 with fail;clear d0 d1 d2 d3 d4;obtain ⟨gl,hgl⟩:∃ z,wr.heap.size = z:=⟨_,rfl⟩;have hxb:=Ext.box wr (.cells (X2t td op (.slice A1 n1 c1) (.slice A2 n2 c2) (.slice A3 n3 c3)) 125);have hkb:=Blk.made wr 125 (X2t td op (.slice A1 n1 c1) (.slice A2 n2 c2) (.slice A3 n3 c3));obtain ⟨W7,hW7⟩:∃ z,wr.alloc (.cells (X2t td op (.slice A1 n1 c1) (.slice A2 n2 c2) (.slice A3 n3 c3)) 125) = z:=⟨_,rfl⟩;rw [hW7,hgl] at hkb;rw [hW7] at hxb ⊢;rw [hgl];have HKB:=Lib.hid hkb;have HXB:=Lib.hid hxb;clear hW7 hxb hkb hgl;go_wp2_with (first | (refine Q0j rfl _ _ rfl Tryz.J8p Tryz.J6f rfl HKB.out rfl ?_) | fail)
    refine (Y8p _ td op A1 A2 A3 n1 c1 n2 c2 n3 c3).mono ?_;rintro e w8 ⟨rfl,hx8⟩;have hx:=HXR.out.trans (HXB.out.trans hx8);have hown:=HOWN.out.below (HXB.out.trans hx8);have hll:=HLL0.out;clear HKB HXB hx8;go_wp2_with (at_builtin; refine wpList_append_own _ rfl _ _ 84 rfl (w.heap.size) 44 i0 (.slice none 0 0) 1 24 Tryz.underlying84 hi hz0 hz1 hz2 rfl (by decide) _ _ _ rfl (World.ownsRow.alloc hown _) ⟨w8.heap.size,0,none⟩ 1 1 [.slice A3 n3 c3] rfl rfl ?_ ?_ ?_ ?_ ?_ ?_; exact Q4p _ _ _; (focus (simp [Value.oneCell'])); (focus (unfold maxLen; omega)); (focus omega); (focus (have:=hx.size; simp at this ⊢; omega)); intro v' w1 hown' hgrow _)
    have hx':=Q3b hx hown (Nat.le_refl _) hgrow;go_wp2;go_roundw
    case rel=>exact ⟨k + 1,vs ++ [.slice A3 n3 c3],by have:=HK.out; omega,by (try rw [HWK.out]); go_num,Q0i.snoc (x:=Value.slice A3 n3 c3) hown',HRS.out,hx'⟩
    case measure=>have:=HK.out; (try rw [HWK.out]); simp [intOf]; omega
  . obtain rfl:k = m:=by omega
    have hkI:¬ (k:Int) < (k:Int):=by omega
    have hrd2:=HRD.out;rw [List.take_of_length_le (by rw [HLL.out,HM.out]; exact Nat.le_refl _)] at hrd2
    have HRD2:=Lib.hid hrd2;have HLB:Hid (ll.length <= 17592186043904):=Lib.hid (by rw [HLL.out]; have:=HLE.out; omega)
    clear hown hx hlen hrd2;go_wp2;go_ret;exact ⟨_,rfl,HOWN.out.J8o (HRD2.out.ext HXR.out) HLB.out,HXR.out⟩
theorem X7e (w:World) (v:Value) (ps:List PsV) (ll:List (List Int)) (hv:Q9g w v ps) (hr:∀ k (hk:k < ps.length),Q0e w ps[k].u (ll.getD k [])) (hle:ps.length <= 4096) (hl:ll.length = ps.length) :
    Calls Tryz.prog 50 #[v] w fun e w'=>∃ x,e = .returned x /\ Q4z w' x ll /\ Ext w w':=by
 have HC:=Lib.hid (Y3y w v ps ll hv hr hle hl);clear hv hr hle hl;go_enter Tryz.func50,Tryz.ntmps50;go_wp2_with fail;refine HC.out.mono ?_;rintro e w2 ⟨x,rfl,hx,hx2⟩;have HX:=Lib.hid hx;have HX2:=Lib.hid hx2;clear hx hx2;go_wp2;go_ret;exact ⟨_,rfl,HX.out,HX2.out⟩
theorem Y7r (w:World) (vb vv vc:Value) (x:Q1j) (V:List Int) (l:List Cond)
    (hb:Q2g w vb x) (hV:Q0e w vv V) (hc:Q2p w vc l) (hf:x.Fine) (hlen:V.length = x.nodes.length) (hbn:Bnd V 100000000) (hco:Q7t x l) (hlm:l.length <= 96) :
    Calls Tryz.prog 21 #[vb,vv,vc] w fun e w'=>∃ r er ll,e = .returned (.tuple #[r,.int .i64 er]) /\ Q4z w' r ll /\ ((er = 0 /\ ll = Z1d x V l l.length /\ ∀ j,j < l.length -> Q3p x V l j = true) ∨ (er = 4 /\ ll = [] /\ ∃ j,j < l.length /\ Q3p x V l j = false)) /\ Ext w w':=by
 obtain ⟨va,vl,rfl,h2⟩:=hb;obtain ⟨A,capa,rfl,-,-,-⟩:=h2.nodes.opened;obtain ⟨L,capl,rfl,-,-,-⟩:=h2.links.opened;have HCK:Hid (∀ W,Ext w W -> Calls Tryz.prog 34 #[.agg #[.slice A x.nodes.length capa,.slice L x.links.length capl],vv,vc] W fun e w'=>∃ v ps er,e = .returned (.tuple #[v,.int .i64 er]) /\ Q9g w' v ps /\ Y0n x V l er ps /\ Y4h w' w' x V l ps /\ Ext W w'):=Lib.hid fun W h =>
  X7t W _ _ _ x V l ⟨_,_,rfl,h2.ext h⟩ (hV.ext h) (hc.ext h) hf hlen hbn hco hlm
 have HN8:=Lib.hid hf.ok.some;have HLN:=Lib.hid hlen;have HLM:=Lib.hid hlm;obtain ⟨n,hn⟩:∃ z,x.nodes.length = z:=⟨_,rfl⟩;obtain ⟨m,hm⟩:∃ z,x.links.length = z:=⟨_,rfl⟩;rw [hn,hm] at HCK;rw [hn,hm];clear h2 hV hc hf hlen hbn hco hlm hn hm;go_enter Tryz.func21,Tryz.ntmps21;go_upto_region 1 with fail;obtain ⟨W,hWW,k0,HXW,eW⟩:=Q2y w 40 #[.slice A n capa,.slice L m capl];rw [hWW];clear hWW;have K0:=Lib.hid k0;clear k0 eW;go_wp2_with (first | (refine Q0j rfl _ _ rfl Tryz.X5v Tryz.X0c rfl K0.out rfl ?_) | fail)
 refine (HCK.out _ HXW.out).mono ?_;rintro e w2 ⟨v,ps,er,rfl,hip,hr,hp,hx2⟩;obtain ⟨ll,hll⟩:∃ ll,(ll = if er = 0 then Z1d x V l l.length else []):=⟨_,rfl⟩
 have hlen:ll.length = ps.length:=by
  rcases hr with ⟨h0,h,-⟩ | ⟨h0,rfl,-⟩
  . rw [hll,if_pos h0,h]; simp [Z1d]
  . rw [hll,if_neg (by omega)]; rfl
 have hrd:∀ k (hk:k < ps.length),Q0e w2 ps[k].u (ll.getD k []):=fun k hk=>by
  rcases hr with ⟨h0,h,hf⟩ | ⟨h0,rfl,-⟩
  . have hv:=(hp k hk).2.2.vols
    rw [if_pos (hf k (by omega))] at hv
    have e:ll.getD k [] = Q3x x V l (k + 1):=by
     rw [hll,if_pos h0];have:k < l.length:=by omega
     simp [Z1d,this]
    rw [e];exact hv.2.ints (by rw [Q8c,HLN.out]; have:=HN8.out; omega)
  . exact absurd hk (Nat.not_lt_zero _)
 have hres:(er = 0 /\ ll = Z1d x V l l.length /\ ∀ j,j < l.length -> Q3p x V l j = true) ∨ (er = 4 /\ ll = [] /\ ∃ j,j < l.length /\ Q3p x V l j = false):=by
  rcases hr with ⟨h0,h,hf⟩ | ⟨h0,rfl,hf⟩
  . exact .inl ⟨h0,by rw [hll,if_pos h0],hf⟩
  . exact .inr ⟨h0,by rw [hll,if_neg (by omega)],hf⟩
 have hpl:ps.length <= 4096:=by
  rcases hr with ⟨-,h,-⟩ | ⟨-,rfl,-⟩
  . rw [h]; have:=HLM.out; omega
  . exact Nat.zero_le _
 have HVO:=Lib.hid (X7e w2 v ps ll hip hrd hpl hlen);have HRES:=Lib.hid hres;have HX2:=Lib.hid (HXW.out.trans hx2);clear hip hr hp hx2 hll hlen hrd hres hpl HCK K0;go_wp2_with fail;refine HVO.out.mono ?_;rintro e w3 ⟨r,rfl,hri,hx3⟩;have HRI:=Lib.hid hri;have HX3:=Lib.hid (HX2.out.trans hx3);clear hri hx3;go_wp2;go_ret2;exact ⟨_,_,ll,rfl,HRI.out,HRES.out,HX3.out⟩
end Go.Proofs
namespace Go.Tw
open Go.RowKit Go.Flow Go.Ba
def X6w (x:Q1j) (V:List Int) (l:List Cond) (k:Nat):List Int:=Go.Proofs.X1t x (Q3x x V l (k + 1)) x.nodes.length
end Go.Tw
namespace Go.Proofs
open Go.RowKit Go.Tw Go.Flow Go.Ba
attribute [local go_sem] Oper.semAt_some
theorem Y1p (w:World) (vb vv vc:Value) (x:Q1j) (V:List Int) (l:List Cond)
    (hb:Q2g w vb x) (hV:Q0e w vv V) (hc:Q2p w vc l) (hf:x.Fine) (hlen:V.length = x.nodes.length) (hbn:Bnd V 100000000) (hco:Q7t x l) (hlm:l.length <= 96) :
    Calls Tryz.prog 12 #[vb,vv,vc] w fun e w'=>∃ i j er,e = .returned (.tuple #[.int .i64 i,.int .i64 j,.int .i64 er]) /\ ((er = 4 /\ ∃ j,j < l.length /\ Q3p x V l j = false) ∨
     ((∀ j,j < l.length -> Q3p x V l j = true) /\ ((er = 0 /\ ∃ k,k < l.length /\ X6w x V l k ≠ []) ∨ (er = 7 /\ ∀ k,k < l.length -> X6w x V l k = [])))) /\ Ext w w':=by
 obtain ⟨va,vl,rfl,h2⟩:=hb;obtain ⟨A,capa,rfl,-,-,-⟩:=h2.nodes.opened;obtain ⟨L,capl,rfl,-,-,-⟩:=h2.links.opened;have HCK:Hid (∀ W,Ext w W -> Calls Tryz.prog 34 #[.agg #[.slice A x.nodes.length capa,.slice L x.links.length capl],vv,vc] W fun e w'=>∃ v ps er,e = .returned (.tuple #[v,.int .i64 er]) /\ Q9g w' v ps /\ Y0n x V l er ps /\ Y4h w' w' x V l ps /\ Ext W w'):=Lib.hid fun W h =>
  X7t W _ _ _ x V l ⟨_,_,rfl,h2.ext h⟩ (hV.ext h) (hc.ext h) hf hlen hbn hco hlm
 have HAB:Hid (∀ W u k,Ext w W -> k < l.length -> (∀ j,j < l.length -> Q3p x V l j = true) -> Q0e W u (Q3x x V l (k + 1)) -> Calls Tryz.prog 35 #[.agg #[.slice A x.nodes.length capa,.slice L x.links.length capl],u] W fun e w'=>∃ r,e = .returned r /\ Q0e w' r (X6w x V l k) /\ Ext W w'):=Lib.hid fun W u k h hk hfi hu =>
  Z8r W _ u x _ ⟨_,_,rfl,h2.ext h⟩ hu hf.ok (by rw [Q8c,hlen]) (X9i hf.ok hlen hbn hco (k + 1) hk (fun j hj=>hfi j (by omega)))
 have HN8:=Lib.hid hf.ok.some;have HLN:=Lib.hid hlen;have HLM:=Lib.hid hlm;obtain ⟨n,hn⟩:∃ z,x.nodes.length = z:=⟨_,rfl⟩;obtain ⟨m,hm⟩:∃ z,x.links.length = z:=⟨_,rfl⟩;rw [hn,hm] at HCK HAB;rw [hn,hm];clear h2 hV hc hf hlen hbn hco hlm hn hm;go_enter Tryz.func12,Tryz.ntmps12;go_upto_region 1 with fail;obtain ⟨W,hWW,k0,HXW,eW⟩:=Q2y w 40 #[.slice A n capa,.slice L m capl];rw [hWW];clear hWW;obtain ⟨g,hg⟩:∃ z,w.heap.size = z:=⟨_,rfl⟩;rw [hg] at k0 eW ⊢;have K0:=Lib.hid k0;have HG:=Lib.hid hg;clear k0 eW hg;refine wp_scope_straight ?_;go_wp2_with (first | (refine Q0j rfl _ _ rfl Tryz.X5v Tryz.X0c rfl K0.out rfl ?_) | fail)
 refine (HCK.out _ HXW.out).mono ?_;rintro e w2 ⟨v,ps,er,rfl,hip,hr,hp,hx2⟩;have HX2:=Lib.hid (HXW.out.trans hx2);have HK2:=Lib.hid (K0.out.ext hx2)
 rcases hr with ⟨rfl,hpl,hfi⟩ | ⟨rfl,-,hnf⟩
 . obtain ⟨P,capp,rfl,-,-,-⟩:=hip.opened
   have HIP:=Lib.hid hip;have HP:=Lib.hid hp;have HFI:=Lib.hid hfi;obtain ⟨q,hq⟩:∃ z,l.length = z:=⟨_,rfl⟩;have HQ:=Lib.hid hq;have HPL:=Lib.hid hpl;rw [hpl,hq];have HQM:Hid (q <= 96):=Lib.hid (by rw [<- hq]; exact HLM.out)
   clear hip hp hfi hq hpl hx2 K0 HCK;go_wp2;refine wp_label ?_;go_wp2
   go_loopw [11,12,13,30] (fun a b c iv wr=>∃ k:Nat,k <= q /\ iv = .int .i64 k /\ a = .int .i64 0 /\ b = .int .i64 0 /\ c = .bool false /\ (∀ j,j < k -> X6w x V l j = []) /\ Ext w2 wr) (fun _ _ _ iv _=>q - (intOf iv).toNat)
   case atStart=>exact ⟨0,Nat.zero_le _,rfl,rfl,rfl,rfl,fun j hj=>absurd hj (Nat.not_lt_zero _),Ext.refl _⟩
   case round =>
    obtain ⟨k,hk,rfl,rfl,rfl,rfl,hno,hx⟩:=hrel;have HNO:=Lib.hid hno;have HXR:=Lib.hid hx
    by_cases hlt:k < q
    . have hkI:(k:Int) < (q:Int):=by omega
      have HK:=Lib.hid hlt;have HWK:Hid (wrap64 ((k:Int) + 1) = (k:Int) + 1):=Lib.hid (by have:=HQM.out; unfold wrap64; omega)
      have hkl:k < ps.length:=by rw [HPL.out,HQ.out]; exact hlt
      obtain ⟨L9,c9,h9,-,-,hcx⟩:=(HIP.out.ext hx).opened;obtain ⟨bx,ox,A1,n1,c1,A2,n2,c2,A3,n3,c3,hbx,-,d0,d1,d2,d3,d4,-,-,hu⟩:=hcx k hkl;have hvo:=(HP.out k hkl).2.2.vols;rw [if_pos (HFI.out k (by rw [HQ.out]; exact hlt)),hu] at hvo
      have hui:=hvo.2.ints (by rw [Q8c,HLN.out]; have:=HN8.out; omega)
      have HUI:=Lib.hid hui;rw [HPL.out,HQ.out] at h9;injection h9 with k1 k2 k3;subst k1 k3;subst hbx;obtain ⟨td,htd⟩:∃ z,ps[k].td = z:=⟨_,rfl⟩;obtain ⟨op,hop⟩:∃ z,ps[k].op = z:=⟨_,rfl⟩;rw [htd] at d0;rw [hop] at d1;clear hcx htd hop hu hvo hui k2 hk hkl hno hlt;go_upto_region 8 with fail;clear d0 d1 d2 d3 d4;obtain ⟨gl,hgl⟩:∃ z,wr.heap.size = z:=⟨_,rfl⟩;have hxb:=Ext.box wr (.cells (X2t td op (.slice A1 n1 c1) (.slice A2 n2 c2) (.slice A3 n3 c3)) 125);have hkb:=Blk.made wr 125 (X2t td op (.slice A1 n1 c1) (.slice A2 n2 c2) (.slice A3 n3 c3));obtain ⟨W7,hW7⟩:∃ z,wr.alloc (.cells (X2t td op (.slice A1 n1 c1) (.slice A2 n2 c2) (.slice A3 n3 c3)) 125) = z:=⟨_,rfl⟩;rw [hW7,hgl] at hkb;rw [hW7] at hxb ⊢;rw [hgl];have hxx:=hx.trans hxb;have HXX:=Lib.hid hxx;have HKB:=Lib.hid (HK2.out.ext hxx);have e4:=hkb.cell 4;simp only [Go.Tw.gA,Go.Tw.gB,Go.Tw.gC] at e4;have hab:=HAB.out W7 _ k (HX2.out.trans hxx) (by rw [HQ.out]; exact HK.out) HFI.out (HUI.out.ext hxx)
      have HABK:=Lib.hid hab;clear hW7 hxb hkb hgl hx hxx hab;go_wp2_with (first | (refine Q0j rfl _ _ rfl Tryz.X5v Tryz.X0c rfl HKB.out rfl ?_) | fail)
      refine HABK.out.mono ?_;rintro e w8 ⟨r,rfl,hri,hx8⟩;obtain ⟨R,capr,rfl,-,-,hcr⟩:=hri.opened;have HX8:=Lib.hid (HXX.out.trans hx8);have HCR:=Lib.hid hcr;obtain ⟨na,hna⟩:∃ z,(X6w x V l k).length = z:=⟨_,rfl⟩;have HNA:=Lib.hid hna;rw [hna];clear e4 hri hcr hna hx8 HKB HABK;go_wp2_with fail
      go_loopw [11,12,13,40] (fun a b c iv wi=>a = .int .i64 0 /\ b = .int .i64 0 /\ c = .bool false /\ iv = .int .i64 0 /\ wi = w8) (fun _ _ _ _ _=>0)
      case atStart=>exact ⟨rfl,rfl,rfl,rfl,rfl⟩
      case round =>
       obtain ⟨rfl,rfl,rfl,rfl,rfl⟩:=hrel
       rcases Nat.eq_zero_or_pos na with hz | hz
       . subst hz
         have hab0:X6w x V l k = []:=List.length_eq_zero_iff.1 HNA.out;have HAB0:=Lib.hid hab0;clear hab0;go_wp2;go_roundw
         case rel =>
          refine ⟨k + 1,by have:=HK.out; omega,by (try rw [HWK.out]); go_num,rfl,rfl,rfl,fun j hj=>?_,HX8.out⟩
          rcases Nat.lt_succ_iff_lt_or_eq.1 hj with h | rfl
          . exact HNO.out j h
          . exact HAB0.out
         case measure=>have:=HK.out; (try rw [HWK.out]); simp [intOf]; omega
       . obtain ⟨b0,o0,rfl,hc0⟩:=HCR.out 0 (by rw [HNA.out]; exact hz)
         have hzI:(0:Int) < (na:Int):=by omega
         obtain ⟨a0,ha0⟩:∃ z,ix (X6w x V l k) 0 = z:=⟨_,rfl⟩;rw [ha0,Nat.add_zero] at hc0;have hnn:X6w x V l k ≠ []:=fun e=>by have:=HNA.out; rw [e] at this; simp at this; omega
         have HNN:=Lib.hid hnn;clear ha0 hnn;go_wp2_with (go_at_call 36; refine (X3t _ false 7 rfl).mono ?_; rintro e w9 ⟨rfl,rfl⟩)
         (try simp only [Exit.noGoto_ret])
         go_ret3
         exact ⟨_,_,_,rfl,.inr ⟨HFI.out,.inl ⟨rfl,k,by rw [HQ.out]; exact HK.out,HNN.out⟩⟩,HX2.out.trans HX8.out⟩
    . obtain rfl:k = q:=by omega
      have hkI:¬ (k:Int) < (k:Int):=by omega
      clear hx hno;go_wp2_with (go_at_call 36; refine (X9t _ true 7).mono ?_; rintro e w9 ⟨rfl,rfl⟩)
      (try simp only [Exit.noGoto_ret])
      go_ret3
      exact ⟨_,_,_,rfl,.inr ⟨HFI.out,.inr ⟨rfl,by rw [HQ.out]; exact HNO.out⟩⟩,HX2.out.trans HXR.out⟩
 . have HNF:=Lib.hid hnf
   clear hnf hip hp hx2 K0 HCK;go_wp2
   (try simp only [Exit.noGoto_ret])
   go_ret3
   exact ⟨_,_,_,rfl,.inl ⟨rfl,HNF.out⟩,HX2.out⟩
end Go.Proofs
namespace Go.Tw
open Go.RowKit Go.Flow Go.Ba
theorem Z3w {α:Type} {w:World} {b:Nat} {T:TypeId} {cs:Array Value} {k:Nat} {R:World -> (Nat -> Value) -> α -> Prop} {l:List α} (h:Blk w b T cs) (hs:cs.size = l.length * k) (hl:l.length <= 17592186043904) (hR:∀ j (hj:j < l.length),R w (fun i=>cs.getD (j * k + i) undef) l[j]):Rows k R w (.slice (some ⟨b,0,none⟩) l.length l.length) l:=by
 refine ⟨fun j=>cs.getD j undef,⟨some ⟨b,0,none⟩,l.length,rfl,hl,Nat.le_refl _,fun j hj=>⟨b,0,rfl,?_⟩⟩,hR⟩;rw [Nat.zero_add,h.cell,Array.getElem?_eq_getElem (by omega)]
 simp [Array.getD,show j < cs.size by omega]
def J2p:ByteArray:=⟨#[112,111,110,100]⟩
def Q5c (lim:Int):Q1j:=⟨[⟨J2p,1,lim⟩],[⟨Q2m,-1,0,0,1⟩]⟩
theorem Z0h {lim:Int} (h:0 <= lim /\ lim <= 1024):(Q5c lim).Fine:=by
 have z:∀ {k:Nat},k < 1 -> k = 0:=fun h=>by omega
 refine ⟨⟨(show 1 <= 1 /\ 1 <= 8 by decide),(show 1 <= 16 by decide),fun k hk=>?_,fun k hk=>?_,fun k hk=>?_,fun k hk=>?_,fun k hk=>?_⟩,fun k hk=>?_,fun k hk=>?_,fun j k hj hk=>?_⟩
 . obtain rfl:=z hk; show (1:Int) <= 1 /\ (1:Int) <= 1000; decide
 . obtain rfl:=z hk; exact h
 . obtain rfl:=z hk; show Z6i Q2m ≠ none; decide
 . obtain rfl:=z hk; show Lk.Fits (Q6r.X4j ⟨Q2m,-1,0,0,1⟩) 1; exact (by
    have hk:(Q6r.X4j ⟨Q2m,-1,0,0,1⟩).kind = .barrier:=by show (Z6i Q2m).getD .barrier = .barrier; unfold Z6i; rw [if_pos rfl]; rfl
    exact ⟨by decide,by decide,by rw [hk]; exact ⟨rfl,by decide,by decide⟩⟩)
 . obtain rfl:=z hk; show (0:Int) <= 1024 /\ (1:Int) <= 1000; decide
 . obtain rfl:=z hk; show Y8n ⟨Q2m,-1,0,0,1⟩ 1; exact ⟨by decide,by decide,by decide,by decide,by decide,by decide⟩
 . obtain rfl:=z hk; show nameB J2p = true; decide
 . have:k < 1:=hk
   omega
end Go.Tw
namespace Go.Proofs
open Go.RowKit Go.Tw Go.Flow Go.Ba
attribute [local go_sem] Oper.semAt_some
theorem X9o (w:World) (lim:Int) :
    Calls Tryz.prog 22 #[.int .i64 lim] w fun e w'=>∃ u,e = .returned u /\ Q2g w' u (Q5c lim) /\ Ext w w':=by
 go_enter Tryz.func22,Tryz.ntmps22;go_wp2;obtain ⟨W,hWW,k0,k1,k2,HXW,eW⟩:=Y3i w 40 #[.slice (some ⟨w.heap.size + 1,0,none⟩) 1 1,.slice (some ⟨w.heap.size + 1 + 1,0,none⟩) 1 1] 105 #[.string ⟨#[112,111,110,100]⟩,.int .i64 1,.int .i64 lim] 106 #[.string ⟨#[98,97,114,114,105,101,114]⟩,.int .i64 (-1),.int .i64 0,.int .i64 0,.int .i64 1];rw [hWW];clear hWW;refine bodyPost_ret (Q2v Tryz.results22 rfl k0 Tryz.X5v Tryz.X0c) rfl ?_;refine ⟨_,rfl,⟨_,_,rfl,?_,?_⟩,HXW.out⟩
 . exact Z3w (l:=([⟨J2p,1,lim⟩]:List X9p)) k1 rfl (show 1 <= 17592186043904 by decide) (fun j hj=>by
    have:j = 0:=by have:j < 1:=hj; omega
    subst this; exact ⟨rfl,rfl,rfl,(show Short J2p by unfold Short; decide)⟩)
 . exact Z3w (l:=([⟨Q2m,-1,0,0,1⟩]:List Q6r)) k2 rfl (show 1 <= 17592186043904 by decide) (fun j hj=>by
    have:j = 0:=by have:j < 1:=hj; omega
    subst this; exact ⟨rfl,rfl,rfl,rfl,rfl,(show Short Q2m by unfold Short; decide)⟩)
end Go.Proofs
namespace Go.Flow
open Go.RowKit Go.Tw
def Z9f (F:Fence) (n:Nat) (P:Program) (g:Nat) (lb:Array Value) (N:Nat) (R:Nat -> Value -> World -> Prop) (Kp:World -> World -> Prop) (w:World):Prop :=
 ∀ (l:Nat) (J:Nat -> World -> Prop) (W:World),Ext w W -> (∀ k A B,J k A -> Ext A B -> J k B) ->
  (∀ k v W1,k < N -> J k W1 -> R k v W1 -> YieldAt F (n - 1) P l #[v] W1 fun e W'=>e = .returned (.bool true) /\ J (k + 1) W' /\ Kp W1 W') ->
  J 0 W -> CallsIn F n P g (#[.func (.yield l) #[] #[]] ++ lb) W fun e W'=>(∃ v,e = .returned v) /\ J N W'
def Turns (B:Nat) (A A':World):Prop:=∃ l o o',B <= l /\ A.heap[l]? = some o /\ o.isCells = false /\ A' = A.putObj l o'
theorem Turns.cells {B:Nat} {A A':World} (h:Turns B A A') {b:Nat} {o:Obj} (hb:A.heap[b]? = some o) (hc:o.isCells = true):A'.heap[b]? = some o:=by
 obtain ⟨l,o1,o',hB,hl,hn,rfl⟩:=h;have hne:b ≠ l:=fun e=>by subst e; rw [hb] at hl; cases hl; rw [hc] at hn; cases hn
 rw [World.putObj_heap_other hne]; exact hb
theorem Turns.cell {B:Nat} {A A':World} (h:Turns B A A') {p:Addr} {v:Value} (hp:A.cell? p = some v):A'.cell? p = some v:=by
 have hlt:=World.block_lt_of_cell? A p hp;have hb:A.heap[p.block]? = some A.heap[p.block]:=Array.getElem?_eq_getElem hlt;have hc:A.heap[p.block].isCells = true:=by
  unfold World.cell? at hp;rw [hb] at hp;cases ho:A.heap[p.block] <;> rw [ho] at hp <;> simp_all [Obj.isCells]
 have hb2:=h.cells hb hc;unfold World.cell? at hp ⊢;rw [hb2]; rw [hb] at hp; exact hp
theorem J8n {W W':World} (h:Ext W W'):KeepsOthers W W':=⟨h.size,fun k o hk _=>by rw [h.block k (Array.getElem?_eq_some_iff.1 hk).1]; exact hk⟩
def Z9r (Kp:World -> World -> Prop) (I:Nat -> World -> Prop) (k:Nat) (W:World):Exit -> Act -> World -> Prop
 | .normal,_,W'=>KeepsOthers W W' /\ Kp W W' /\ I (k + 1) W'
 | _,_,_=>False
theorem Z1e {F:Fence} {n:Nat} {P:Program} {g:Operand} {ps:Array Tmp} {assign body:Code} {Q:Exit -> Act -> World -> Prop} {a:Act} {w:World}
    (hro:F.round = none) (h1:1 <= n) {gf:Nat} {lb:Array Value} (hg:a.eval g = .func (.func gf) #[] lb) (hFg:F.fn gf) (eg:∀ args w,(callFunc gf args).run P w = .ok (.enter gf args) w)
    {N:Nat} {R:Nat -> Value -> World -> Prop} {Kp:World -> World -> Prop} (hseq:Z9f F (n - 1) P gf lb N R Kp w) (hps:ps.size = 1)
    (hKt:∀ {A B C:World},Kp A B -> Kp B C -> Kp A C) (hKp:∀ {A A':World},Turns w.heap.size A A' -> Kp A A')
    (hRp:∀ {k v} {A A':World},Turns w.heap.size A A' -> R k v A -> R k v A')
    (I:Nat -> World -> Prop) (hIx:∀ k A B,I k A -> Ext A B -> I k B) (hIp:∀ {k} {A A':World},Turns w.heap.size A A' -> I k A -> I k A') (h0:I 0 w) (a₁:Value -> Act)
    (hassign:∀ (l:Nat) (v:Value) (W:World) (K:Act -> World -> Prop),K (a₁ v) W ->
     assign.wpIn (F.inRound l) (n - 1 - 1) P (Exit.then K (fun _ _ _=>False)) { tmps:=(ps.zip #[v]).foldl (fun t (p,v)=>t.setIfInBounds p v) a.tmps,defers:=[] } W)
    (hbody:∀ (l k:Nat) (v:Value) (W:World),k < N -> I k W -> R k v W -> body.wpIn (F.inRound l) (n - 1 - 1) P (Z9r Kp I k W) (a₁ v) W)
    (hdone:∀ (D:Nat) (W:World),w.heap.size <= D -> I N W -> W.heap[D]? = some (.deferred (some [])) -> Q .normal { a with defers:={ target:=.collected D,args:=#[] } :: a.defers } W) :
    (Code.rangeFunc g ps assign body).wpIn F n P Q a w:=by
 refine wpIn_rangeFunc fun fn hfn=>?_;rw [hro];obtain ⟨st,hst⟩:∃ st:LoopState -> Loop,st = fun s=>{ state:=s,pending:=none,fn,tmps:=a.tmps,params:=ps,assign,body,defers:=w.heap.size }:=⟨_,rfl⟩
 have stp:∀ s,(st s).pending = none:=fun s=>by rw [hst]
 have sts:∀ s,(st s).state = s:=fun s=>by rw [hst]
 have stu:∀ s s',({ (st s) with state:=s' }:Loop) = st s':=fun s s'=>by rw [hst]
 have ste:∀ s s',({ (st s) with state:=s',pending:=none }:Loop) = st s':=fun s s'=>by rw [hst]
 obtain ⟨W1,hW1⟩:∃ W1,(w.alloc (.deferred (some []))).alloc (.loop (st .ready)) = W1:=⟨_,rfl⟩;have hx1:Ext w W1:=by rw [<- hW1]; exact ((Ext.refl w).alloc _).alloc _
 have hD1:W1.heap[w.heap.size]? = some (.deferred (some [])):=by
  rw [<- hW1]; show ((w.heap.push _).push _)[w.heap.size]? = _; simp [Array.getElem?_push]
 have hL1:W1.heap[w.heap.size + 1]? = some (.loop (st .ready)):=by
  have:=World.alloc_heap_new (w.alloc (.deferred (some []))) (.loop (st .ready));rw [World.size_alloc] at this;rw [<- hW1]; exact this
 refine ⟨w.heap.size + 1,[{ target:=.collected w.heap.size,args:=#[] }],W1,{ target:=.fn (.func gf) lb,args:=#[.func (.yield (w.heap.size + 1)) #[] #[]] },W1,gf,
  #[.func (.yield (w.heap.size + 1)) #[] #[]] ++ lb,W1,?_,?_,?_,?_,fun _=>h1,?_⟩
 . rw [<- hW1,hst]; exact run_enterLoop_outer _ _ _ _ _
 . simp only [resolve,hg]; simp [go_sem]
 . intro f' hf'; simp [Target.leads] at hf'; subst hf'; exact hFg
 . simp [invoke,go_sem,eg]
 refine (hseq (w.heap.size + 1) (fun k W=>I k W /\ W.heap[w.heap.size + 1]? = some (.loop (st .ready)) /\ W.heap[w.heap.size]? = some (.deferred (some []))) W1 hx1 ?grow ?round
  ⟨hIx 0 _ _ h0 hx1,hL1,hD1⟩).mono ?done
 case grow =>
  rintro k A B ⟨hi,hl,hd⟩ hx;exact ⟨hIx k A B hi hx,by rw [Below.block hx _ (Array.getElem?_eq_some_iff.1 hl).1]; exact hl,by rw [Below.block hx _ (Array.getElem?_eq_some_iff.1 hd).1]; exact hd⟩
 case round =>
  rintro k v W hk ⟨hi,hl,hd⟩ hr;have hlt:=(Array.getElem?_eq_some_iff.1 hl).1;have hy:=run_yield (P:=P) (args:=#[v]) hl (by rw [hst]; simp [hps])
  rw [hst] at hy;refine ⟨fn,_,assign,body,hy,roundIn_of_wpIn hfn (hassign _ v W _ ⟨_,run_beginRound hl (sts _),?_⟩)⟩;rw [stu];obtain ⟨V,hV⟩:∃ V,W.putObj (w.heap.size + 1) (.loop (st .busy)) = V:=⟨_,rfl⟩;have hturn:Turns w.heap.size W V:=⟨_,_,_,by omega,hl,rfl,hV.symm⟩
  have hl2:V.heap[w.heap.size + 1]? = some (.loop (st .busy)):=by rw [<- hV]; exact World.putObj_heap_same hlt
  have hd2:V.heap[w.heap.size]? = some (.deferred (some [])):=by rw [<- hV]; exact (World.putObj_heap_other (by omega)).trans hd
  rw [hV];refine wpIn_mono (hbody _ k v V hk (hIp hturn hi) (hRp hturn hr)) ?_;rintro e a3 W3 hp;cases e with
  | normal =>
    obtain ⟨hk3,hkp,hi3⟩:=hp;have hl3:=hk3.same _ _ hl2 rfl;have hend:=run_endRound (P:=P) none hl3;refine ⟨_,_,hend,rfl,?_,?_⟩
    . have e1:({ (st .busy) with state:=if (none:Option Code).isNone then .ready else .done,pending:=none }:Loop) = st .ready:=by rw [hst]; rfl
      rw [e1];have hturn3:Turns w.heap.size W3 (W3.putObj (w.heap.size + 1) (.loop (st .ready))):=⟨_,_,_,by omega,hl3,rfl,rfl⟩
      exact ⟨hIp hturn3 hi3,World.putObj_heap_same (Array.getElem?_eq_some_iff.1 hl3).1,(World.putObj_heap_other (by omega)).trans (hk3.same _ _ hd2 rfl)⟩
    . exact hKt (hKp hturn) (hKt hkp (hKp ⟨_,_,_,by omega,hl3,rfl,rfl⟩))
  | ret=>exact hp.elim
  | exit id=>exact hp.elim
  | goto t=>exact hp.elim
  | panic ch=>exact hp.elim
  | outgrown=>exact hp.elim
 case done =>
  rintro e W2 ⟨⟨v,rfl⟩,hi,hl,hd⟩;have he:=run_endLoop (P:=P) hl (by rw [sts]; simp)
  rw [stp] at he;exact ⟨none,_,he,hdone _ _ (Nat.le_refl _) (hIp ⟨_,_,_,by omega,hl,rfl,rfl⟩ hi) ((World.putObj_heap_other (by omega)).trans hd)⟩
theorem Turns.below {B n:Nat} {A A':World} (h:Turns B A A') (hn:n <= B):Below n A A':=by
 obtain ⟨l,o,o',hB,hl,_,rfl⟩:=h;have hlt:=(Array.getElem?_eq_some_iff.1 hl).1;refine Below.grown (Below.refl n A) (grownBy_putObj' A l o') (by omega) (fun k e=>by cases e; omega)
theorem Turns.own {α:Type} {B b:Nat} {A A':World} (h:Turns B A A') {T:TypeId} {enc:α -> Value} {v:Value} {l:List α} (ho:Q0i A b T enc v l):Q0i A' b T enc v l:=by
 obtain ⟨h1,h2⟩:=ho;refine ⟨h1,?_⟩
 rcases h2 with h2 | ⟨g,cap,cur,hv,hbg,hgl,r⟩
 . exact .inl h2
 . exact .inr ⟨g,cap,cur,hv,hbg,h.cells hgl rfl,r⟩
theorem Turns.blk {B g:Nat} {A A':World} (h:Turns B A A') {T:TypeId} {cs:Array Value} (hb:Blk A g T cs):Blk A' g T cs:=h.cells hb rfl
theorem Turns.same {B b:Nat} {A A':World} (h:Turns B A A') (hb:b < B):A'.heap[b]? = A.heap[b]?:=by
 obtain ⟨l,o,o',hB,hl,_,rfl⟩:=h;exact World.putObj_heap_other (by omega)
end Go.Flow
namespace Go.Proofs
open Go.RowKit Go.Tw Go.Flow
attribute [local go_sem] Oper.semAt_some
theorem J4q {n:Nat} (h:n < 62):wrap64 (2 ^ n) = ((2 ^ n:Nat):Int):=by
 have h1:(2:Nat) ^ n < 2 ^ 62:=Nat.pow_lt_pow_right (by omega) h
 have h2:((2 ^ n:Nat):Int) = 2 ^ n:=by simp
 rw [<- h2];obtain ⟨m,hm⟩:∃ m,2 ^ n = m:=⟨_,rfl⟩;rw [hm] at h1 ⊢;unfold wrap64; omega
theorem Y9d {s:Nat} (hs:s < 2 ^ 62) (i:Nat):(bits .and .i64 ((s:Int) / 2 ^ i) 1 == 1) = s.testBit i:=by
 have h1:(s:Int) / 2 ^ i = ((s / 2 ^ i:Nat):Int):=by simp
 have h2:bits .and .i64 ((s / 2 ^ i:Nat):Int) 1 = ((s / 2 ^ i &&& 1:Nat):Int):=K0c (a:=s / 2 ^ i) (b:=1) (Nat.lt_of_le_of_lt (Nat.div_le_self _ _) hs) (by decide)
 rw [h1,h2,Nat.and_one_is_mod,J9q];have h3:s / 2 ^ i % 2 = 0 ∨ s / 2 ^ i % 2 = 1:=by omega
 rcases h3 with h | h <;> rw [h] <;> rfl
theorem J3q (w:World) (n:Int) :
    Calls Tryz.prog 120 #[.int .i64 n] w fun e w'=>e = .returned (.func (.func 166) #[] #[.pointer (some ⟨w.heap.size,0,none⟩)]) /\ Blk w' w.heap.size 3 #[.int .i64 n] /\ w'.heap.size = w.heap.size + 1 /\ Ext w w':=by
 go_enter Tryz.func120,Tryz.ntmps120;go_wp2;go_ret;exact ⟨rfl,Blk.made _ _ _,by simp,Ext.box _ _⟩
def X5z (n T k:Nat):List Bool:=(List.range k).map fun i=>n.testBit (T - 1 - i)
theorem Z1m (n T k:Nat):X5z n T (k + 1) = X5z n T k ++ [n.testBit (T - 1 - k)]:=by unfold X5z; rw [List.range_succ,List.map_append]; rfl
theorem Z5j (n T k:Nat):(X5z n T k).length = k:=by simp [X5z]
theorem Z7q (n T:Nat):X5z n T T = Q7q n T:=rfl
def J5d (Be:Nat) (A B:World):Prop:=B.heap[Be]? = A.heap[Be]?
theorem Z6q (m Be T:Nat) (w:World) (hT:T <= 8) (hb:Blk w Be 3 #[.int .i64 (T:Int)]) :
    Z9f Fence.wide m Tryz.prog 166 #[.pointer (some ⟨Be,0,none⟩)] (2 ^ T) (fun k v W=>Q0i W 0 4 .bool v (Q7q k T)) (J5d Be) w:=by
 obtain ⟨i0,hi,hz0,hz1,hz2⟩:=info_parts Tryz.Y4m;intro l J W hW hJ hY h0;have hbW:=hb.ext hW;have hcell:W.cell? ⟨Be,0,none⟩ = some (.int .i64 (T:Int)):=hbW.cell 0;have p1:=J4q (n:=T) (by omega)
 obtain ⟨N,hN⟩:∃ N,2 ^ T = N:=⟨_,rfl⟩;rw [hN] at p1 hY ⊢;have hN2:N <= 256:=by rw [<- hN]; exact Nat.pow_le_pow_right (n:=2) (by omega) hT
 have HBW:=Lib.hid hbW;clear hb hbW hN hW;refine callsIn_of_wp Tryz.func166 rfl trivial ?_ rfl;simp only [Tryz.ntmps166,List.size_toArray,List.length_cons,List.length_nil,Nat.reduceAdd,Nat.reduceSub,Array.replicate_succ,Array.replicate_zero,List.push_toArray,List.append_toArray,List.nil_append,List.cons_append]
 gi_wp2
 clear hcell
 gi_loopw [8] (fun p wr=>∃ k:Nat,k <= N /\ p = .int .i64 k /\ J k wr /\ Blk wr Be 3 #[.int .i64 (T:Int)]) (fun p _=>N - (intOf p).toNat)
 case atStart=>exact ⟨0,Nat.zero_le _,rfl,h0,HBW.out⟩
 case round =>
  obtain ⟨k,hk,rfl,hJk,hbk⟩:=hrel
  by_cases hlt:k < N
  . have hkI:(k:Int) < N:=by omega
    have hck:wr.cell? ⟨Be,0,none⟩ = some (.int .i64 (T:Int)):=hbk.cell 0;have HBK:=Lib.hid hbk;have HJK:=Lib.hid hJk;have HY:=Lib.hid (fun v W1 h1 h2=>hY k v W1 hlt h1 h2);clear hJk hbk;obtain ⟨wo,rfl⟩:∃ X,X = wr:=⟨_,rfl⟩
    gi_wp2
    clear hck
    gi_loopw [4,12] (fun o t w2=>∃ j:Nat,j <= T /\ t = .int .i64 j /\ Q0i w2 wo.heap.size 4 .bool o (X5z k T j) /\ Ext wo w2) (fun _ t _=>T - (intOf t).toNat)
    case atStart=>exact ⟨0,Nat.zero_le _,rfl,Q0i.nil _ _ _ _,Ext.refl _⟩
    case round =>
     obtain ⟨j,hj,rfl,hown,hx2⟩:=hrel;have hbk2:=HBK.out.ext hx2;have hc2:wr.cell? ⟨Be,0,none⟩ = some (.int .i64 (T:Int)):=hbk2.cell 0
     by_cases hjT:j < T
     . have hjI:(j:Int) < T:=by omega
       have hw1:IntKind.i64.wrap ((T:Int) - 1) = (T:Int) - 1:=Q2q _ (by omega) (by omega)
       have hw2:IntKind.i64.wrap ((T:Int) - 1 - (j:Int)) = (T:Int) - 1 - (j:Int):=Q2q _ (by omega) (by omega)
       have hsn:((T:Int) - 1 - (j:Int)).toNat = T - 1 - j:=by omega
       have hs0:¬ (T:Int) - 1 - (j:Int) < 0:=by omega
       have hmn:min (T - 1 - j) 64 = T - 1 - j:=by omega
       have hb1:=Y9d (s:=k) (by omega) (T - 1 - j)
       have HSU:=Lib.hid (Z1m k T j);obtain ⟨q,hq⟩:∃ x,k.testBit (T - 1 - j) = x:=⟨_,rfl⟩;rw [hq] at hb1 HSU;have hll:(X5z k T j).length <= 4096:=by rw [Z5j]; omega
       clear hq hbk2
       gi_wp2_with (gi_at_builtin; refine wpListIn_append_own _ rfl _ _ 78 rfl (wo.heap.size) 4 i0 (.bool false) 1 1 Tryz.underlying78 hi hz0 hz1 hz2 rfl (by decide) _ _ _ rfl (World.ownsRow.alloc hown _) ⟨wr.heap.size,0,none⟩ 1 1 [.bool q] rfl rfl ?_ ?_ ?_ ?_ ?_ ?_; exact Q4p _ _ _; (focus (simp [Value.oneCell'])); (focus (unfold maxLen; omega)); (focus omega); (focus (have:=hx2.size; simp at this ⊢; omega)); intro v' w1 hown' hgrow _)
       have hx':=Q3b hx2 hown (Nat.le_refl _) hgrow;go_roundw
       case rel=>exact ⟨j + 1,by omega,by go_num,by rw [HSU.out]; exact Q0i.snoc hown',hx'⟩
       case measure=>simp [intOf]; omega
     . have hjI:¬ (j:Int) < T:=by omega
       have hje:j = T:=by omega
       subst hje;have HOW:=Lib.hid hown;have HX2:=Lib.hid hx2;have HJ2:=Lib.hid (hJ _ _ _ HJK.out hx2);have hyy:=HY.out _ wr HJ2.out (by rw [<- Z7q]; exact hown.weaken (Nat.zero_le _))
       obtain ⟨fn,tmps,assign,body,hy,hR⟩:=hyy;clear hown hx2 hbk2
       gi_wp2
       refine ⟨fun h=>by simp [Fence.wide] at h,hR.mono ?_⟩
       rintro e W3 ⟨rfl,hJ3,hkp⟩;have hb3:Blk W3 Be 3 #[.int .i64 (j:Int)]:=by
        have h:=HBK.out.ext HX2.out;unfold Blk at h ⊢;unfold J5d at hkp;rw [hkp]; exact h
       have HB3:=Lib.hid hb3;have HJ3:=Lib.hid hJ3;clear hJ3 hb3 hkp
       gi_wp2
       go_roundw
       case rel=>exact ⟨k + 1,by omega,by go_num,HJ3.out,HB3.out⟩
       case measure=>simp [intOf]; omega
  . have hkI:¬ (k:Int) < N:=by omega
    have hke:k = N:=by omega
    subst hke;have HJK:=Lib.hid hJk;clear hJk
    gi_wp2
    go_end0
    exact ⟨⟨_,rfl⟩,HJK.out⟩
end Go.Proofs
namespace Go.Tw
theorem Q6h {p:List Rul} {k:Nat} (hk:k < p.length):Q3a p k = p[k].classes:=by unfold Q3a; rw [Q0y _ hk]
theorem J1w {p:List Rul} {k:Nat} (hk:k < p.length):X6m p k = p[k].close:=by unfold X6m; rw [Q0y _ hk]
theorem J2v (p:List Rul) (n:Nat):(Y8d p n).length = p.length:=by simp [Y8d]
theorem Y6w (p:List Rul) (n:Nat):(Y8d p n).map Rul.classes = p.map Rul.classes:=by
 refine List.ext_getElem (by simp [Y8d]) fun i h1 h2=>?_
 have hi:i < p.length:=by simpa using h2
 simp [Y8d,Q6h hi]
theorem Z6s {h:List (List Int)} {p:List Rul} {n:Nat} (hp:Q4l h p = 0):Q4l h (Y8d p n) = 0:=by
 rw [Q3h] at hp ⊢;rw [Y6w,hp]
end Go.Tw
namespace Go.Tw
open Go.RowKit
theorem Y9q (s k:ByteArray) (v:Value):∀ l,Q7s k (Y6n s v l) = if k = s then some v else Q7s k l
 | []=>by
   unfold Y6n Q7s
   by_cases h:k = s
   . rw [if_pos (str_eq h),if_pos h]
   . rw [if_neg (by rw [X1a h]; simp),if_neg h]; rfl
 | p :: l=>by
   unfold Y6n
   by_cases hs:s = p.1
   . rw [if_pos (str_eq hs)]
     by_cases h:k = s
     . simp only [Q7s]; rw [if_pos (str_eq h),if_pos h]
     . simp only [Q7s]; rw [if_neg (by rw [X1a h]; simp),if_neg h,if_neg (by rw [<- hs,X1a h]; simp)]
   . rw [if_neg (by rw [X1a hs]; simp)]
     simp only [Q7s]
     by_cases hk:k = p.1
     . rw [if_pos (str_eq hk),if_pos (str_eq hk),if_neg (fun e=>hs (by rw [<- e,hk]))]
     . have h1:¬ (k == p.1) = true:=by rw [X1a hk]; simp
       rw [if_neg h1,Y9q s k v l]
       by_cases h:k = s
       . rw [if_pos h,if_pos h]
       . rw [if_neg h,if_neg h,if_neg h1]
def Q7j (p:List Rul):Nat -> List (ByteArray × Value)
 | 0=>[]
 | k + 1=>Y6n (Q6k (Q3a p k)) (.bool (X6m p k)) (Q7j p k)
theorem J1c (p:List Rul) (r:Rul) (h:List Int) (hn:h = r.classes -> h ∉ p.map Rul.classes):look (p ++ [r]) h = if h = r.classes then r.close else look p h:=by
 unfold look;rw [List.find?_append]
 by_cases he:h = r.classes
 . have h0:p.find? (fun x=>x.classes == h) = none:=by
    rw [List.find?_eq_none];intro x hx hxe;exact hn he (List.mem_map.2 ⟨x,hx,by simpa using hxe⟩)
   rw [h0,if_pos he];simp [he]
 . rw [if_neg he]
   have h1:(r.classes == h) = false:=by rw [beq_eq_false_iff_ne]; exact fun e=>he e.symm
   cases hf:p.find? (fun x=>x.classes == h) with
   | some x=>simp
   | none=>simp [h1]
theorem Z4c {p:List Rul} (hn:(p.map Rul.classes).Nodup) (hd:∀ k,k < p.length -> Digits (Q3a p k)) {h:List Int} (hh:Digits h) :
    ∀ k,k <= p.length -> (Q7s (Q6k h) (Q7j p k)).getD (.bool false) = .bool (look (p.take k) h)
 | 0,_=>rfl
 | k + 1,hk=>by
   have hlt:k < p.length:=by omega
   rw [Q7j,Y9q,List.take_succ_eq_append_getElem hlt];have hnot:h = p[k].classes -> h ∉ (p.take k).map Rul.classes:=by
    rintro rfl hm;obtain ⟨x,hx,he⟩:=List.mem_map.1 hm;obtain ⟨j,hj,rfl⟩:=List.getElem_of_mem hx;rw [List.length_take] at hj;rw [List.getElem_take] at he;have hpw:=List.pairwise_iff_getElem.1 hn j k (by simp; omega) (by simpa using hlt) (by omega)
    simp only [List.getElem_map] at hpw;exact hpw he
   rw [J1c _ _ _ hnot]
   by_cases he:h = p[k].classes
   . rw [if_pos he,if_pos (by rw [he,Q6h hlt]),J1w hlt]; rfl
   . rw [if_neg he,if_neg (fun e=>he (by rw [Z4x hh (hd k hlt) e,Q6h hlt]))]
     exact Z4c hn hd hh k (by omega)
theorem Y9t {p:List Rul} (hn:(p.map Rul.classes).Nodup) (hd:∀ k,k < p.length -> Digits (Q3a p k)) {h:List Int} (hh:Digits h) :
    (Q7s (Q6k h) (Q7j p p.length)).getD (.bool false) = .bool (look p h):=by
 rw [Z4c hn hd hh _ (Nat.le_refl _),List.take_length]
end Go.Tw
namespace Go.Proofs
open Go.RowKit Go.Tw Go.Flow
theorem Tryz.J8y:(Tryz.prog.info? 5).map (fun i=>(i.zero,i.size,i.bytes)) = some (some (.int .u8 0),1,1):=by kernel_rfl
theorem Z8v (W:World) (x:Int) (h:0 <= x /\ x <= 9) :
    Calls Tryz.prog 116 #[.int .i64 x] W fun e W'=>e = .returned (.int .u8 x) /\ W = W':=by
 have hc:(convert 3 5 (.int .i64 x)).run Tryz.prog W = .ok (.int .u8 x) W:=by
  have hw:IntKind.u8.wrap x = x:=by simp [IntKind.wrap,IntKind.bits,IntKind.signed]; omega
  have h1:Tryz.prog.underlying 3 = some (.int .i64):=by kernel_rfl
  have h2:Tryz.prog.underlying 5 = some (.int .u8):=by kernel_rfl
  simp [convert,run_underlying h1,run_underlying h2,Conv.intToInt,hw]
 go_enter Tryz.func116,Tryz.ntmps116;go_wp2;go_ret;exact ⟨rfl,rfl⟩
theorem J2x (l:List Int) {k:Nat} (hk:k < l.length):l.take k ++ [ix l k] = l.take (k + 1):=by
 rw [List.take_succ_eq_append_getElem hk,Q5p hk]
theorem Y1v (w:World) (v:Value) (l:List Int) (hv:Q0e w v l) (hle:l.length <= 4096) (hd:Digits l) :
    Calls Tryz.prog 115 #[v,.func (.func 116) #[] #[]] w fun e w'=>∃ x,e = .returned x /\ Q0i w' w.heap.size 5 (.int .u8) x l /\ Ext w w':=by
 obtain ⟨i0,hi,hz0,hz1,hz2⟩:=info_parts Tryz.J8y;obtain ⟨A,cap,rfl,hl,hcap,hc⟩:=hv.opened;have HC:=Lib.hid hc;have HD:=Lib.hid hd;clear hv hc hd;go_enter Tryz.func115,Tryz.ntmps115;go_wp2
 go_loopw [5,10] (fun o i wr=>∃ (k:Nat),k <= l.length /\ i = .int .i64 k /\ Q0i wr w.heap.size 5 (.int .u8) o (l.take k) /\ Ext w wr) (fun _ i _=>l.length - (intOf i).toNat)
 case atStart=>exact ⟨0,Nat.zero_le _,rfl,Q0i.nil _ _ _ _,Ext.refl _⟩
 case round =>
  obtain ⟨k,hk,rfl,hown,hx⟩:=hrel;have hlen:(l.take k).length = k:=by rw [List.length_take]; omega
  by_cases hlt:k < l.length
  . obtain ⟨b,off,rfl,hcell⟩:=HC.out k hlt
    have HTK:=Lib.hid (J2x l hlt);have hdk:=HD.out (ix l k) (by rw [Q5p hlt]; exact List.getElem_mem hlt)
    obtain ⟨s,hs⟩:∃ s,ix l k = s:=⟨_,rfl⟩;rw [hs] at hcell HTK hdk;have HFS:=Lib.hid (Z8v wr s hdk);replace hcell:=hx.cell hcell;have hll:(l.take k).length <= 4096:=by omega
    clear hs hlen hdk;go_wp2_with (first | (refine HFS.out.mono ?_; rintro e w9 ⟨rfl,rfl⟩) | (at_builtin; refine wpList_append_own _ rfl _ _ 215 rfl (w.heap.size) 5 i0 (.int .u8 0) 1 1 Tryz.underlying215 hi hz0 hz1 hz2 rfl (by decide) _ _ _ rfl (World.ownsRow.alloc hown _) ⟨wr.heap.size,0,none⟩ 1 1 [.int .u8 s] rfl rfl ?_ ?_ ?_ ?_ ?_ ?_; exact Q4p _ _ _; (focus (simp [Value.oneCell'])); (focus (unfold maxLen; omega)); (focus omega); (focus (have:=hx.size; simp at this ⊢; omega)); intro v' w1 hown' hgrow _))
    have hx':=Q3b hx hown (Nat.le_refl _) hgrow;go_wp2;go_roundw
    case rel=>exact ⟨k + 1,by omega,by go_num,by rw [<- HTK.out]; exact Q0i.snoc hown',hx'⟩
    case measure=>simp [intOf]; omega
  . have HE:Hid (l.take k = l):=Lib.hid (List.take_of_length_le (by omega))
    rw [HE.out] at hown;have HOWN:=Lib.hid hown;clear hown hlen;go_wp2;go_ret;exact ⟨_,rfl,HOWN.out,hx⟩
theorem Y6d (w:World) {base:Nat} {u:Value} {l:List Int} (hu:Q0i w base 5 (.int .u8) u l) :
    (convert 215 9 u).run Tryz.prog w = .ok (.string (Q6k l)) w:=by
 have h1:Tryz.prog.underlying 215 = some (.slice 5):=by kernel_rfl
 have h2:Tryz.prog.underlying 5 = some (.int .u8):=by kernel_rfl
 have h3:Tryz.prog.underlying 9 = some .string:=by kernel_rfl
 rcases hu.cells2 with ⟨rfl,rfl⟩ | ⟨g,c,rfl,-,-,-,hcell⟩
 . rw [run_convert_bytes_nil w _ _ h1 h2 0 0 _ h3]; rfl
 . rw [run_convert_bytes_arg w _ _ h1 h2 g 0 l.length c l rfl (fun i hi=>by rw [hcell i hi]; simp [hi]) _ h3]; rfl
theorem Y5s (w:World) (v:Value) (l:List Int) (hv:Q0e w v l) (hle:l.length <= 4096) (hd:Digits l) :
    Calls Tryz.prog 61 #[v] w fun e w'=>e = .returned (.string (Q6k l)) /\ Ext w w':=by
 have HM:=Lib.hid (Y1v w v l hv hle hd);obtain ⟨A,cap,rfl,-,-,-⟩:=hv.opened;clear hv hd;go_enter Tryz.func61,Tryz.ntmps61;go_wp2_with fail;refine HM.out.mono ?_;rintro e w5 ⟨u,rfl,hu,hx5⟩;have hcv:=Y6d w5 hu;have HX:=Lib.hid hx5;clear hu hx5;go_wp2;go_ret;exact ⟨rfl,HX.out⟩
end Go.Proofs
namespace Go.Proofs
open Go.RowKit Go.Tw Go.Flow
attribute [local go_sem] Oper.semAt_some
theorem J4t:Tryz.prog.underlying 193 = some (.map 9 4):=by kernel_rfl
theorem J8r:Tryz.prog.underlying 9 = some .string:=by kernel_rfl
theorem J7w (w:World):(zeroValue 4).run Tryz.prog w = .ok (.bool false) w:=by kernel_rfl
theorem J6x {α:Type} {enc:α -> Value} {w:World} {v:Value} {x:α} (h:Q7z w v (enc x)):Src w enc v [x]:=by
 obtain ⟨g,h1,h2⟩:=h;exact ⟨_,1,h1,fun j hj=>⟨g,0,rfl,by
  have:j = 0:=by simp at hj; exact hj
  subst this; exact h2⟩⟩
def X6c (p:List Rul) (l:List Int) (k:Nat):List Bool:=(List.range k).map fun t=>Tw.look p (l.take (t + 1))
theorem Z1f (p:List Rul) (l:List Int) (k:Nat):X6c p l (k + 1) = X6c p l k ++ [Tw.look p (l.take (k + 1))]:=by unfold X6c; rw [List.range_succ,List.map_append]; rfl
theorem Z6f (p:List Rul) (l:List Int) (k:Nat):(X6c p l k).length = k:=by simp [X6c]
theorem Y2c (w:World) (v:Value) (m:Mem) (p:List Rul) (B b:Nat) (hv:Y1s w v m) (hn:(p.map Rul.classes).Nodup) (hd:∀ k,k < p.length -> Digits (Q3a p k)) (hm:Digits m.classes) (hl:m.classes.length <= 8)
    (hB:w.cell? ⟨B,0,none⟩ = some (.map (some b))) (hM:Q2c w b (Q7j p p.length)) :
    Calls Tryz.prog 96 #[v,.pointer (some ⟨B,0,none⟩)] w fun e w'=>∃ x,e = .returned x /\ Q0i w' w.heap.size 4 .bool x (Q0w p m.classes) /\ Ext w w':=by
 obtain ⟨i0,hi,hz0,hz1,hz2⟩:=info_parts Tryz.Y4m;obtain ⟨x,y,z,rfl,hx,hy,hz⟩:=hv;have HXI:=Lib.hid hx;obtain ⟨X,capx,rfl,-,hcapx,hcX⟩:=hx.opened;obtain ⟨Y,capy,rfl,-,-,-⟩:=hy.opened;obtain ⟨Z,capz,rfl,-,-,-⟩:=hz.opened;have HCX:=Lib.hid hcX;obtain ⟨lc,hlc⟩:∃ x,m.classes = x:=⟨_,rfl⟩;rw [hlc] at HXI hcapx HCX hm hl ⊢;obtain ⟨lo,hlo⟩:∃ x,m.outside.length = x:=⟨_,rfl⟩;obtain ⟨li,hli⟩:∃ x,m.inflow.length = x:=⟨_,rfl⟩;rw [hlo,hli];have HLK:Hid (∀ (W:World) (k:Nat),Ext w W -> (Instr.lookup 193 (.map (some b)) (.string (Q6k (lc.take k))) false).run Tryz.prog W = .ok (.bool (Tw.look p (lc.take k))) W):=Lib.hid (fun W k hW=>by
  have h:=Q5n (P:=Tryz.prog) (hM.ext hW) J4t J8r (J7w _) (Q6k (lc.take k)) false;rw [if_neg (by simp),Y9t hn hd (Q5i hm k)] at h
  exact h)
 have HDG:=Lib.hid hm;have HBC:=Lib.hid hB;clear hx hy hz hcX hM hn hd hm hlc hlo hli hB;go_enter Tryz.func96,Tryz.ntmps96;go_wp2_with fail;change Code.wp _ _ _ _ (w.alloc (.cells #[.string m.name,.int .i64 m.weight,.slice X lc.length capx,.slice Y lo capy,.slice Z li capz] 90));obtain ⟨W,hWW,k0,HXW,eW⟩:=Q2y w 90 #[.string m.name,.int .i64 m.weight,.slice X lc.length capx,.slice Y lo capy,.slice Z li capz];rw [hWW];clear hWW;have K0:=Lib.hid k0;have c0_2:=k0.cell 2;simp only [Go.Tw.gA,Go.Tw.gB,Go.Tw.gC] at c0_2;obtain ⟨gm,hgm⟩:∃ x,w.heap.size = x:=⟨_,rfl⟩;rw [hgm] at K0 eW c0_2 ⊢;clear k0;go_wp2;clear c0_2
 go_loopw [4,9] (fun o i wr=>∃ k:Nat,k <= lc.length /\ i = .int .i64 k /\ Q0i wr W.heap.size 4 .bool o (X6c p lc k) /\ Ext W wr) (fun _ i _=>lc.length - (intOf i).toNat)
 case atStart=>exact ⟨0,Nat.zero_le _,rfl,Q0i.nil _ _ _ _,Ext.refl _⟩
 case round =>
  obtain ⟨k,hk,rfl,hown,hxr⟩:=hrel;obtain ⟨Ao,co,rfl,-⟩:=hown.shape;have hol:=Z6f p lc k
  by_cases hlt:k < lc.length
  . obtain ⟨bc,oc,hXe,-⟩:=HCX.out k hlt
    subst hXe;have HXR:=Lib.hid hxr;have HOW:=Lib.hid hown;have hkI:(k:Int) < lc.length:=by omega
    have hkc:k + 1 <= capx:=by omega
    have hkcI:(k:Int) + 1 <= (capx:Int):=by omega
    have hkc1:¬ ((0:Int) <= (k:Int) + 1 -> (capx:Int) < (k:Int) + 1):=by omega
    have hkc2:¬ capx = 0:=by omega
    have hkc4:¬ (k:Int) + 1 < 0:=by omega
    have hkc3:((k:Int) + 1).toNat = k + 1:=by omega
    have hwk:IntKind.i64.wrap ((k:Int) + 1) = (k:Int) + 1:=Q2q _ (by omega) (by omega)
    have HSUC:=Lib.hid (Z1f p lc k);have HPRE:Hid (Q0e w (.slice (some ⟨bc,oc,none⟩) (k + 1) capx) (lc.take (k + 1))):=Lib.hid (X8m HXI.out (by omega))
    have HPL:Hid ((lc.take (k + 1)).length <= 4096):=Lib.hid (by rw [List.length_take]; omega)
    have HPD:=Lib.hid (Q5i HDG.out (k + 1));have HL1:=Lib.hid (fun W hW=>HLK.out W (k + 1) hW);obtain ⟨lp,hlp⟩:∃ x,lc.take (k + 1) = x:=⟨_,rfl⟩;rw [hlp] at HSUC HPRE HPL HPD HL1;obtain ⟨q,hq⟩:∃ x,Tw.look p lp = x:=⟨_,rfl⟩;rw [hq] at HSUC HL1;have hol2:(X6c p lc k).length + 1 <= 4398046511104:=by omega
    obtain ⟨xs,hxs⟩:∃ x,X6c p lc k = x:=⟨_,rfl⟩;rw [hxs] at HOW hol hol2 HSUC ⊢;have HOL:=Lib.hid hol;have HOL2:=Lib.hid hol2;have hdr:=(Ext.refl wr).drew;clear hown hlp hq hxr hol hol2 hxs
    go_light
    go_wp2;refine Flow.Q4c [.p,.w,.p,.w,.p,.p,.p,.w,.w,.w,.last,.last] [0,1,2,3,4,5,6,7,8,9,10,11] [[],[],[],[2],[],[4],[2,3,4,5],[2,3,4,5,6],[1,2,3,4,5,6,7],[1,2,3,4,5,6,7,8],[0,1,2,3,4,5,6,7,8,9],[0,1,2,3,4,5,6,7,8,9,10]] [10,11]
     [.c 0 (.slice Ao xs.length co),.c 1 (.map (some b)),.c 2 (.pointer (some ⟨gm,2,none⟩)),.c 3 (.slice (some ⟨bc,oc,none⟩) lc.length capx),.c 4 (.int .i64 (k:Int)),.c 5 (.int .i64 ((k:Int) + 1)),.c 6 (.slice (some ⟨bc,oc,none⟩) (k + 1) capx),.c 7 (.string (Q6k lp)),.c 8 (.bool q),⟨fun v wz=>(fun v w'=>Q7z w' (v 9) (.bool q)) v wz,fun _ _ _ hx h=>Q7z.ext h hx⟩,.none,.none]
     [fun v w1 w'=>Q0i w' W.heap.size 4 .bool (v 10) (xs ++ [q]) /\ w1.grownBy w' (Value.slice Ao xs.length co).ownBlock,fun v w1 w'=>v 11 = v 10 /\ Q0i w' W.heap.size 4 .bool (v 10) (xs ++ [q]) /\ w1.grownBy w' (Value.slice Ao xs.length co).ownBlock] (by kernel_rfl) rfl (by kernel_rfl) ⟨?g0,?g1,?g2,?g3,?g4,?g5,?g6,?g7,?g8,?g9,?g10,?g11,trivial⟩ ?post
    case g0 | g2 | g4=>
     intro v w1 hx;intro bb hbb;subst hbb;refine ⟨_,fun w=>?_,rfl⟩;go_simp
    case g1=>
     intro v w1 hx;intro bb hbb;subst hbb;have n0:w1.cell? ⟨B,0,none⟩ = some (.map (some b)):=(HXW.out.trans (HXR.out.trans (hdr.trans hx))).cell HBC.out;intro K hK;go_simp;exact hK _ _ (Ext.refl _) rfl
    case g3=>
     intro v w1 hx;(repeat intro (zq:v _ = _));intro bb hbb;subst hbb;have n0:w1.cell? ⟨gm,2,none⟩ = some (.slice (some ⟨bc,oc,none⟩) lc.length capx):=(K0.out.ext (HXR.out.trans (hdr.trans hx))).cell 2;intro K hK;go_simp;exact hK _ _ (Ext.refl _) rfl
    case g5 | g6=>
     intro v w1 hx;(repeat intro (zq:v _ = _));intro bb hbb;subst hbb;refine ⟨_,fun w=>?_,rfl⟩;go_simp
    case g7=>
     intro v w1 hx;(repeat intro (zq:v _ = _));intro bb hbb;subst hbb;intro K hK;go_simp;refine Q0f (Y5s w1 _ lp (HPRE.out.ext (HXW.out.trans (HXR.out.trans (hdr.trans hx)))) HPL.out HPD.out) ?_;rintro e w2 ⟨rfl,hx2⟩;exact ⟨_,rfl,hK _ _ hx2 rfl⟩
    case g8=>
     intro v w1 hx;(repeat intro (zq:v _ = _));intro bb hbb;subst hbb;have hlk:=HL1.out w1 (HXW.out.trans (HXR.out.trans (hdr.trans hx)));intro K hK;go_simp;exact hK _ _ (Ext.refl _) rfl
    case g9=>
     intro v w1 hx;(repeat intro (zq:v _ = _));intro bb hbb;subst hbb;intro K hK;go_simp;exact hK _ _ (Ext.box _ _) (Q7z.made _ _ _)
    case g10=>
     intro v w1 hx (q0:v 0 = _) (q1:v 1 = _) (q2:v 2 = _) (q3:v 3 = _) (q4:v 4 = _) (q5:v 5 = _) (q6:v 6 = _) (q7:v 7 = _) (q8:v 8 = _) (q9:(fun v w'=>Q7z w' (v 9) (.bool q)) v w1);intro wl hT;obtain rfl:wl = w1:=hT;intro bb hbb;intro K hK;have o1:bb.eval (.tmp 12) = .slice Ao xs.length co:=by rw [hbb]; dsimp only; (try simp (discharger:=decide) only [eval_put_ne]); rw [Q0a (by exact (by decide:12 < 25))]; exact q0
     have o2:bb.eval (.tmp 21) = v 9:=by rw [hbb]; dsimp only; (try simp (discharger:=decide) only [eval_put_ne]); rw [Q0a (by simp only [size_put]; exact (by decide:21 < 25))]
     refine Q6a _ _ 78 rfl W.heap.size 4 i0 (.bool false) 1 Tryz.underlying78 hi hz0 hz1 hz2 rfl .bool (.slice Ao xs.length co) (v 9) xs [q] o1 (HOW.out.below (hdr.trans hx)) o2 (J6x q9) (fun y hy=>rfl) (by have:=HOL2.out; rw [List.length_singleton]; exact this) (by decide) (by have:=HXR.out.size; have:=hx.size; have:wr.drew.heap.size = wr.heap.size:=rfl; omega) (fun v' w' hown hg=>hK _ _ ⟨hown,hg⟩)
    case g11=>
     intro v w1 hx (q0:v 0 = _) (q1:v 1 = _) (q2:v 2 = _) (q3:v 3 = _) (q4:v 4 = _) (q5:v 5 = _) (q6:v 6 = _) (q7:v 7 = _) (q8:v 8 = _) _;intro wl hT;replace hT:(fun v w1 w'=>Q0i w' W.heap.size 4 .bool (v 10) (xs ++ [q]) /\ w1.grownBy w' (Value.slice Ao xs.length co).ownBlock) v w1 wl:=hT;intro bb hbb;subst hbb;intro K hK;go_simp;exact hK _ _ ⟨rfl,hT⟩
    case post =>
     intro v w1 hx;(iterate 9 intro (zq:v _ = _));intro (q9:(fun v w'=>Q7z w' (v 9) (.bool q)) v w1);intro w2 hE;replace hE:(fun v w1 w'=>v 11 = v 10 /\ Q0i w' W.heap.size 4 .bool (v 10) (xs ++ [q]) /\ w1.grownBy w' (Value.slice Ao xs.length co).ownBlock) v w1 w2:=hE;simp only [Flow.acts,Act.put];go_simp;obtain ⟨_,hown',hgrow⟩:=hE;have hxx:=HXR.out.trans (hdr.trans hx);have hx9:Ext W w2:=Below.grown hxx hgrow hxx.size (fun b hb=>by
      have h1:=HOW.out;obtain ⟨_,h2⟩:=h1
      rcases h2 with ⟨h2,_⟩ | ⟨g,c,cur,h2,hbg,_⟩
      . rw [h2] at hb; cases hb
      . rw [h2] at hb; cases hb; exact hbg)
     have HX9:=Lib.hid hx9;have HO9:=Lib.hid hown';clear hx hdr hx9 hown' hgrow hxx q9;(repeat clear zq);go_wp2;go_roundw
     case rel=>exact ⟨k + 1,by omega,by go_num,by rw [HSUC.out]; exact HO9.out,HX9.out⟩
     case measure=>simp [intOf]; omega
  . have hke:k = lc.length:=by omega
    subst hke;have HOW:=Lib.hid hown;have HXR:=Lib.hid hxr;clear hown hxr;go_wp2;go_ret;exact ⟨_,rfl,HOW.out.weaken (by omega),HXW.out.trans HXR.out⟩
def Q4e (s:Q0b) (p:List Rul):List (List Bool):=s.members.map fun m=>Q0w p m.classes
theorem X9f {s:Q0b} (p:List Rul) {k:Nat} (hk:k < s.members.length):(Q4e s p).getD k [] = Q0w p (Q0d s.members k):=by
 unfold Q4e Q0d;simp [hk]
theorem Q5g (s:Q0b) (p:List Rul):(Q4e s p).length = s.members.length:=by simp [Q4e]
theorem Y7s {s:Q0b} (p:List Rul) {k:Nat} (hk:k < s.members.length):(Q4e s p).take (k + 1) = (Q4e s p).take k ++ [Q0w p (Q0d s.members k)]:=by
 rw [List.take_succ_eq_append_getElem (by rw [Q5g]; exact hk)]
 unfold Q4e Q0d;simp [hk]
theorem Tryz.Z8t:(Tryz.prog.info? 78).map (fun i=>(i.zero,i.size,i.bytes)) = some (some (.slice none 0 0),1,24):=by kernel_rfl
theorem Y1k (w:World) (v:Value) (s:Q0b) (p:List Rul) (B b:Nat) (hv:X1g w v s.members) (hS:Q0m s) (hn:(p.map Rul.classes).Nodup) (hd:∀ k,k < p.length -> Digits (Q3a p k))
    (hB:w.cell? ⟨B,0,none⟩ = some (.map (some b))) (hM:Q2c w b (Q7j p p.length)) :
    Calls Tryz.prog 95 #[v,.func (.func 96) #[] #[.pointer (some ⟨B,0,none⟩)]] w fun e w'=>∃ x vs,e = .returned x /\ Q0i w' w.heap.size 78 idV x vs /\ X0v w' 4 .bool vs (Q4e s p) /\ Ext w w':=by
 obtain ⟨i0,hi,hz0,hz1,hz2⟩:=info_parts Tryz.Z8t;have h8:=hS.some;have h6:=hS.tides;have HS:=Lib.hid hS;have HV:=Lib.hid hv;obtain ⟨V,capv,rfl,-,-,-⟩:=hv.opened;have HCL:Hid (∀ (W:World) (u:Value) (k:Nat),Ext w W -> k < s.members.length -> Y1s W u (Q1k s k) -> Calls Tryz.prog 96 #[u,.pointer (some ⟨B,0,none⟩)] W fun e w'=>∃ x,e = .returned x /\ Q0i w' W.heap.size 4 .bool x (Q0w p (Q0d s.members k)) /\ Ext W w') :=
  Lib.hid (fun W u k hW hk hu=>Y2c W u (Q1k s k) p B b hu hn hd (hS.digits k hk) (by have:=(hS.shaped k hk).1; show (Q0d s.members k).length <= 8; omega) (hW.cell hB) (hM.ext hW))
 clear hv hn hd hB hM hS;go_enter Tryz.func95,Tryz.ntmps95;go_wp2
 go_loopw [5,10] (fun o i wr=>∃ (k:Nat) (vs:List Value),k <= s.members.length /\ i = .int .i64 k /\ Q0i wr w.heap.size 78 idV o vs /\ X0v wr 4 .bool vs ((Q4e s p).take k) /\ Ext w wr) (fun _ i _=>s.members.length - (intOf i).toNat)
 case atStart=>exact ⟨0,[],Nat.zero_le _,rfl,Q0i.nil _ _ _ _,X0v.nil _ _ _,Ext.refl _⟩
 case round =>
  obtain ⟨k,vs,hk,rfl,hown,hrows,hxr⟩:=hrel;have hvl:vs.length = k:=by have:=hrows.1; rw [List.length_take,Q5g] at this; omega
  have HXR:=Lib.hid hxr
  by_cases hlt:k < s.members.length
  . have H3:=HV.out.ext hxr
    obtain ⟨_,_,hVe,_,_,hc⟩:=H3.opened;cases hVe;obtain ⟨bm,off,x,y,z,rfl,hbm,e0,e1,e2,e3,e4,hx,hy,hz,hsh⟩:=hc k hlt;have HX1:=Lib.hid hx;have HX2:=Lib.hid hy;have HX3:=Lib.hid hz;obtain ⟨X,capx,rfl,-,-,-⟩:=hx.opened;obtain ⟨Y,capy,rfl,-,-,-⟩:=hy.opened;obtain ⟨Z,capz,rfl,-,-,-⟩:=hz.opened;have HSUC:=Lib.hid (Y7s p hlt);have HCK:=Lib.hid (fun W u hW hu=>HCL.out W u k hW hlt hu);have HME:Hid (∀ W,Ext wr W -> Y1s W (.agg #[.string (Q1d s.members k),.int .i64 (Q0h s.members k),.slice X (Q0d s.members k).length capx,.slice Y (Q0n s.members k).length capy,.slice Z (Q0s s.members k).length capz]) (Q1k s k)) :=
     Lib.hid (fun W hW=>⟨_,_,_,rfl,HX1.out.ext hW,HX2.out.ext hW,HX3.out.ext hW⟩)
    have HLE:Hid ((Q0w p (Q0d s.members k)).length <= 4096):=Lib.hid (by rw [Q6z,(HS.out.shaped k hlt).1]; omega)
    obtain ⟨nm,hnm⟩:∃ x,Q1d s.members k = x:=⟨_,rfl⟩;obtain ⟨wt,hwt⟩:∃ x,Q0h s.members k = x:=⟨_,rfl⟩;obtain ⟨lc,hlc⟩:∃ x,Q0d s.members k = x:=⟨_,rfl⟩;obtain ⟨lo,hlo⟩:∃ x,Q0n s.members k = x:=⟨_,rfl⟩;obtain ⟨li,hli⟩:∃ x,Q0s s.members k = x:=⟨_,rfl⟩;rw [hnm] at e0 HME;rw [hwt] at e1 HME;rw [hlc] at e2 HME HSUC HCK HLE;rw [hlo] at e3 HME;rw [hli] at e4 HME;obtain ⟨cl,hcl⟩:∃ x,Q0w p lc = x:=⟨_,rfl⟩;rw [hcl] at HSUC HCK HLE;have hkI:(k:Int) < s.members.length:=by omega
    have hbox:=Ext.box wr (.cells #[.string nm,.int .i64 wt,.slice X lc.length capx,.slice Y lo.length capy,.slice Z li.length capz] 90);have K3:=Blk.made wr 90 #[.string nm,.int .i64 wt,.slice X lc.length capx,.slice Y lo.length capy,.slice Z li.length capz];have d0:=(K3).cell 0;have d1:=(K3).cell 1;have d2:=(K3).cell 2;have d3:=(K3).cell 3;have d4:=(K3).cell 4;simp only [Go.Tw.gA,Go.Tw.gB,Go.Tw.gC] at d0 d1 d2 d3 d4;have HXB:=Lib.hid hbox;have HO:=Lib.hid hown;have HRO:=Lib.hid hrows;have hll:vs.length <= 4096:=by omega
    clear hc H3 hx hy hz hsh hnm hwt hlc hlo hli hcl hbm hbox K3 hown hrows hxr
    go_light
    go_wp2_with (first | (refine (HCK.out _ _ (HXR.out.trans HXB.out) (HME.out _ HXB.out)).mono ?_; rintro e w5 ⟨u,rfl,hu,hx5⟩; obtain ⟨bu,cu,rfl,-⟩:=hu.shape; have HU:=Lib.hid hu; have HX5:=Lib.hid (HXB.out.trans hx5); have hown:=HO.out.below HX5.out; have hx6:=HXR.out.trans HX5.out; clear hu hx5) | (at_builtin; refine wpList_append_own _ rfl _ _ 140 rfl (w.heap.size) 78 i0 (.slice none 0 0) 1 24 Tryz.underlying140 hi hz0 hz1 hz2 rfl (by decide) _ _ _ rfl (World.ownsRow.alloc hown _) ⟨w5.heap.size,0,none⟩ 1 1 [.slice bu cl.length cu] rfl rfl ?_ ?_ ?_ ?_ ?_ ?_; exact Q4p _ _ _; (focus (simp [Value.oneCell'])); (focus (unfold maxLen; omega)); (focus omega); (focus (have:=hx6.size; simp at this ⊢; omega)); intro v' w1 hown' hgrow _))
    have hx':=Q3b hx6 hown (Nat.le_refl _) hgrow;have hbx:=Ext.box w5 (.cells #[.slice bu cl.length cu] 78);have hs5:=((((HRO.out.ext HX5.out).snoc HU.out).ext hbx)).grown (hown.below hbx) (by decide) hgrow
    have HS5:=Lib.hid hs5;clear hs5;go_wp2;go_roundw
    case rel=>exact ⟨k + 1,vs ++ [.slice bu cl.length cu],by omega,by go_num,Q0i.snoc (x:=Value.slice bu cl.length cu) hown',by rw [HSUC.out]; exact HS5.out,hx'⟩
    case measure=>simp [intOf]; omega
  . have hke:k = s.members.length:=by omega
    have HF:Hid ((Q4e s p).take k = Q4e s p):=Lib.hid (List.take_of_length_le (by rw [Q5g]; omega))
    have HO:=Lib.hid hown;have HRO:=Lib.hid hrows;clear hown hrows hxr;go_wp2;go_ret;exact ⟨_,vs,rfl,HO.out,by rw [<- HF.out]; exact HRO.out,HXR.out⟩
end Go.Proofs
namespace Go.Proofs
open Go.RowKit Go.Tw Go.Flow
attribute [local go_sem] Oper.semAt_some
theorem Z9s {P:Program} {K:Value -> World -> Prop} {o:Oper} {a:Act} {w w':World} {t:TypeId} (m k x:Operand) (ho:o.op = .mapUpdate t m k x) {mv kv xv:Value} (hm:a.eval m = mv) (hk:a.eval k = kv) (hx:a.eval x = xv)
    (hr:(Instr.mapUpdate t mv kv xv).run P w = .ok () w') (h:∀ v,K v w'):gives P K ((execOp a.eval o).run P w):=by
 unfold execOp;simp only [ho,hm,hk,hx,Sem.run_bind,Sem.run_pure,Result.andThen_ok,hr];exact h _
theorem Y1a {s:Q0b} (hS:Q0m s):∀ h ∈ s.hist,Digits h:=fun h hh=>by
 obtain ⟨t,ht,k,hk,rfl⟩:=(Q0b.Q4k _ _).1 hh;exact Q5i (hS.digits k hk) _
theorem Z3c {s:Q0b} (hS:Q0m s) {p:List Rul} (hp:Q4l s.hist p = 0):(p.map Rul.classes).Nodup:=by
 rw [Q3h.1 hp]; exact Y9u (Q0b.Y5n hS.shaped)
theorem Y7h {s:Q0b} (hS:Q0m s) {p:List Rul} (hp:Q4l s.hist p = 0):∀ k,k < p.length -> Digits (Q3a p k):=fun k hk=>by
 rw [Q6h hk];exact Y1a hS _ (by rw [<- Q3h.1 hp]; exact List.mem_map_of_mem (List.getElem_mem hk))
theorem Y0b {s:Q0b} (hS:Q0m s):∀ h ∈ s.hist,h.length <= 6:=fun h hh=>by
 obtain ⟨t,ht,k,hk,rfl⟩:=(Q0b.Q4k _ _).1 hh;have:=hS.tides.2;rw [List.length_take]; omega
theorem Z7m {s:Q0b} (hS:Q0m s) {p:List Rul} (hp:Q4l s.hist p = 0):∀ k,k < p.length -> (Q3a p k).length <= 6:=fun k hk=>by
 rw [Q6h hk];exact Y0b hS _ (by rw [<- Q3h.1 hp]; exact List.mem_map_of_mem (List.getElem_mem hk))
theorem Y9y (w:World) (v u:Value) (s:Q0b) (p:List Rul) (hv:Q0p w v s) (hu:Q6d w u p) (hS:Q0m s) (hp:Q4l s.hist p = 0) :
    Calls Tryz.prog 48 #[v,u] w fun e w'=>∃ x,e = .returned x /\ Q7d w' x (Q4e s p) /\ Ext w w':=by
 have h8:=hS.some;have HCLB:=Lib.hid (fun i (hi:i < (Q4e s p).length)=>(show ((Q4e s p).getD i []).length <= 17592186043904 by
  rw [Q5g] at hi;rw [X9f p hi,Q6z,(hS.shaped i hi).1];have:=hS.tides.2; omega))
 have HND:=Lib.hid (Z3c hS hp);have HDI:=Lib.hid (Y7h hS hp);have HL8:=Lib.hid (Z7m hS hp);have HS:=Lib.hid hS;obtain ⟨a,b,rfl,h2⟩:=hv;obtain ⟨rv,rfl,hr⟩:=hu;obtain ⟨A,capa,rfl,-,-,-⟩:=h2.ships.opened;obtain ⟨M,capb,rfl,-,-,-⟩:=h2.members.opened;have HRU:=Lib.hid hr;obtain ⟨R,capr,rfl,-,-,-⟩:=hr.opened;have H2:=Lib.hid h2;clear h2 hr hS hp;go_enter Tryz.func48,Tryz.ntmps48;go_upto_region 1 with fail;change Code.wp _ _ _ _ ((w.alloc (.cells #[.int .i64 s.limit,.slice A s.ships.length capa,.slice M s.members.length capb] 74)).alloc (.cells #[.slice R p.length capr] 64));obtain ⟨W,hWW,k0,k1,HXW,eW⟩:=Q6u w 74 #[.int .i64 s.limit,.slice A s.ships.length capa,.slice M s.members.length capb] 64 #[.slice R p.length capr];rw [hWW];clear hWW;have hmm:=@run_makeMap Tryz.prog;have hb0:=Ext.box W (.map #[] 0);have hb1:=Ext.box (W.alloc (.map #[] 0)) (.cells #[.map (some (w.heap.size + 1 + 1))] 193);have m0:=(Q2c.made W).ext hb1;rw [eW] at m0;have kb:=Blk.made (W.alloc (.map #[] 0)) 193 #[.map (some (w.heap.size + 1 + 1))];have es:(W.alloc (.map #[] 0)).heap.size = W.heap.size + 1:=by simp
 have es2:((W.alloc (.map #[] 0)).alloc (.cells #[.map (some (w.heap.size + 1 + 1))] 193)).heap.size = W.heap.size + 1 + 1:=by simp
 rw [es,eW] at kb;rw [eW] at es2;have KS:=k0.ext (hb0.trans hb1);have KP:=k1.ext (hb0.trans hb1);have n1:=KP.cell 0;simp only [Go.Tw.gA,Go.Tw.gB] at n1;go_wp2;obtain ⟨V,hV⟩:∃ V,(W.alloc (.map #[] 0)).alloc (.cells #[.map (some (w.heap.size + 1 + 1))] 193) = V:=⟨_,rfl⟩;have hxV:Ext w V:=HXW.out.trans (by rw [<- hV]; exact hb0.trans hb1)
 rw [hV] at m0 kb KS KP es2 ⊢;obtain ⟨b,hb⟩:∃ b,w.heap.size + 1 + 1 = b:=⟨_,rfl⟩;rw [hb] at m0 kb es2 ⊢;have hwb:w.heap.size < b:=by omega
 have hwb1:w.heap.size + 1 < b:=by omega
 obtain ⟨gs,hgs⟩:∃ x,w.heap.size = x:=⟨_,rfl⟩;have HGS:=Lib.hid hgs;rw [hgs] at KS KP hwb hwb1 ⊢;have HKS:=Lib.hid KS;have HXV:=Lib.hid hxV;have HM0:=Lib.hid m0;have HKB:=Lib.hid kb;have HVS:=Lib.hid es2;clear hb0 hb1 m0 kb es es2 KS KP n1 hV hxV hb eW HXW k0 k1 hgs hmm
 go_loopw [12] (fun i wr=>∃ k:Nat,k <= p.length /\ i = .int .i64 k /\ Q2c wr b (Q7j p k) /\ Blk wr (b + 1) 193 #[.map (some b)] /\ Below b V wr) (fun i _=>p.length - (intOf i).toNat)
 case atStart=>exact ⟨0,Nat.zero_le _,rfl,HM0.out,HKB.out,Below.refl _ _⟩
 case round =>
  obtain ⟨k,hk,rfl,hmap,hblk,hbel⟩:=hrel;have HMP:=Lib.hid hmap;have HBL:=Lib.hid hblk;have HBE:=Lib.hid hbel
  by_cases hlt:k < p.length
  . obtain ⟨_,_,hRe,_,_,hc⟩:=HRU.out.opened
    cases hRe;obtain ⟨br,orr,xr,rfl,hbr,hx0,hx1,hxi⟩:=hc k hlt;have hbr':br < b:=by have:=HGS.out; omega
    have hy0:=(hbel.cell (p:=⟨br,orr + k * 2,none⟩) hbr').trans (HXV.out.cell hx0);have hy1:=(hbel.cell (p:=⟨br,orr + k * 2 + 1,none⟩) hbr').trans (HXV.out.cell hx1);obtain ⟨Xr,cxr,rfl,-,-,-⟩:=hxi.opened;have hwr:Below w.heap.size w wr:=Below.trans HXV.out (hbel.mono (by have:=HGS.out; omega))
    have HIW:=Lib.hid (hxi.ext hwr);have HDK:=Lib.hid (HDI.out k hlt);have HLK:Hid ((Q3a p k).length <= 4096):=Lib.hid (by have:=HL8.out k hlt; omega)
    have HSUC:Hid (Q7j p (k + 1) = Y6n (Q6k (Q3a p k)) (.bool (X6m p k)) (Q7j p k)):=Lib.hid rfl;obtain ⟨lc,hlc⟩:∃ x,Q3a p k = x:=⟨_,rfl⟩;obtain ⟨cb,hcb⟩:∃ x,X6m p k = x:=⟨_,rfl⟩;obtain ⟨L,hL⟩:∃ x,Q7j p k = x:=⟨_,rfl⟩;rw [hlc] at hy0 HIW HDK HLK HSUC;rw [hcb] at hy1 HSUC;rw [hL] at HMP HSUC;have hkI:(k:Int) < p.length:=by omega
    have hxb:=Ext.box wr (.cells #[.slice Xr lc.length cxr,.bool cb] 67);have kr:=Blk.made wr 67 #[.slice Xr lc.length cxr,.bool cb];have HXB:=Lib.hid hxb;have hwlt:b + 1 < wr.heap.size:=hblk.lt;clear hc hx0 hx1 hxi hwr hlc hcb hL hmap hblk hbel hbr hbr' hxb
    go_light
    go_wp2;obtain ⟨W5,hW5⟩:∃ X,wr.alloc (.cells #[.slice Xr lc.length cxr,.bool cb] 67) = X:=⟨_,rfl⟩;obtain ⟨g,hg⟩:∃ x,wr.heap.size = x:=⟨_,rfl⟩;rw [hW5] at HXB kr ⊢;rw [hg] at kr hwlt ⊢;have KR:=Lib.hid kr;have hdr:=(Ext.refl W5).drew;clear hW5 kr hy0 hy1 hg;refine Flow.Q4c [.w,.p,.w,.w,.p,.w,.last] [0,1,2,3,4,5,6] [[],[],[1],[1,2],[],[4],[0,1,2,3,4,5]] [6]
     [.c 0 (.map (some b)),.c 1 (.pointer (some ⟨g,0,none⟩)),.c 2 (.slice Xr lc.length cxr),.c 3 (.string (Q6k lc)),.c 4 (.pointer (some ⟨g,1,none⟩)),.c 5 (.bool cb),.none]
     [fun v w1 w'=>Q2c w' b (Y6n (Q6k lc) (.bool cb) L) /\ (∀ n,n <= b -> Below n w1 w') /\ w1.grownBy w' (some b)] (by kernel_rfl) rfl (by kernel_rfl) ⟨?g0,?g1,?g2,?g3,?g4,?g5,?g6,trivial⟩ ?post
    case g0=>
     intro v w1 hx;intro bb hbb;subst hbb;have n0:w1.cell? ⟨b + 1,0,none⟩ = some (.map (some b)):=(HBL.out.ext (HXB.out.trans (hdr.trans hx))).cell 0;intro K hK;go_simp;exact hK _ _ (Ext.refl _) rfl
    case g1 | g4=>
     intro v w1 hx;intro bb hbb;subst hbb;refine ⟨_,fun w=>?_,rfl⟩;go_simp
    case g2 | g5=>
     intro v w1 hx;(repeat intro (zq:v _ = _));intro bb hbb;subst hbb;have n0:w1.cell? ⟨g,0,none⟩ = some (.slice Xr lc.length cxr):=(KR.out.ext (hdr.trans hx)).cell 0;have n1:w1.cell? ⟨g,1,none⟩ = some (.bool cb):=(KR.out.ext (hdr.trans hx)).cell 1;intro K hK;go_simp;exact hK _ _ (Ext.refl _) rfl
    case g3=>
     intro v w1 hx;(repeat intro (zq:v _ = _));intro bb hbb;subst hbb;intro K hK;go_simp;refine Q0f (Y5s w1 _ lc (HIW.out.ext (HXB.out.trans (hdr.trans hx))) HLK.out HDK.out) ?_;rintro e w2 ⟨rfl,hx2⟩;exact ⟨_,rfl,hK _ _ hx2 rfl⟩
    case g6=>
     intro v w1 hx;(repeat intro (zq:v _ = _));intro wl hT;obtain rfl:wl = w1:=hT;intro bb hbb;intro K hK;have o1:bb.eval (.tmp 16) = .map (some b):=by rw [hbb]; dsimp only; (try simp (discharger:=decide) only [eval_put_ne]); rw [Q0a (by exact (by decide:16 < 27))]; assumption
     have o2:bb.eval (.tmp 19) = .string (Q6k lc):=by rw [hbb]; dsimp only; (try simp (discharger:=decide) only [eval_put_ne]); rw [Q0a (by simp only [size_put]; exact (by decide:19 < 27))]; assumption
     have o3:bb.eval (.tmp 21) = .bool cb:=by rw [hbb]; dsimp only; (try simp (discharger:=decide) only [eval_put_ne]); rw [Q0a (by simp only [size_put]; exact (by decide:21 < 27))]; assumption
     obtain ⟨w2,hput,hm2,hb2,hg2⟩:=Q4g (P:=Tryz.prog) (HMP.out.ext (HXB.out.trans (hdr.trans hx))) J4t J8r (Q6k lc) (.bool cb);exact Z9s (.tmp 16) (.tmp 19) (.tmp 21) rfl o1 o2 o3 hput (fun vv=>hK _ _ ⟨hm2,hb2,hg2⟩)
    case post =>
     intro v w1 hx;(iterate 6 intro (zq:v _ = _));intro w2 hE;replace hE:(fun v w1 w'=>Q2c w' b (Y6n (Q6k lc) (.bool cb) L) /\ (∀ n,n <= b -> Below n w1 w') /\ w1.grownBy w' (some b)) v w1 w2:=hE;simp only [Flow.acts,Act.put];go_simp;obtain ⟨hm2,hb2,hg2⟩:=hE;have hxx:=HXB.out.trans (hdr.trans hx);have hbl1:=HBL.out.ext hxx;have hbl2:Blk w2 (b + 1) 193 #[.map (some b)]:=by
      unfold Blk at hbl1 ⊢;rw [hg2.block (b + 1) (Array.getElem?_eq_some_iff.1 hbl1).1 (by intro e; injection e with e; omega)]
      exact hbl1
     have hbe2:Below b V w2:=Below.trans HBE.out (Below.trans (hxx.mono (by have:=HBL.out.lt; omega)) (hb2 b (Nat.le_refl _)))
     have HM2:=Lib.hid hm2;have HB2:=Lib.hid hbl2;have HE2:=Lib.hid hbe2;clear hx hdr hm2 hb2 hg2 hxx hbl1 hbl2 hbe2;(repeat clear zq);go_wp2;go_roundw
     case rel=>exact ⟨k + 1,by omega,by go_num,by rw [HSUC.out]; exact HM2.out,HB2.out,HE2.out⟩
     case measure=>simp [intOf]; omega
  . have hke:k = p.length:=by omega
    subst hke;have ks:=HKS.out.below hbel hwb;have c2:=ks.cell 2;simp only [Go.Tw.gA,Go.Tw.gB,Go.Tw.gC] at c2;have hwr:Ext w wr:=Below.trans HXV.out (hbel.mono (by have:=HGS.out; omega))
    have HMC:=Lib.hid (Y1k wr _ s p (b + 1) b (H2.out.members.ext hwr) HS.out HND.out HDI.out (hblk.cell 0) hmap);have HWR:=Lib.hid hwr;clear ks hmap hblk hbel hwr;go_wp2_with (go_at_call 95; refine HMC.out.mono ?_; rintro e w5 ⟨x,vs,rfl,hx1,hx2,hx5⟩; have HXX:=Lib.hid hx1; have HRR:=Lib.hid hx2; have HX5:=Lib.hid hx5; clear hx1 hx2 hx5);go_ret;exact ⟨x,rfl,Q0i.J8l HXX.out (HRR.out.J7r HCLB.out) (by rw [Q5g]; omega),HWR.out.trans HX5.out⟩
end Go.Proofs
namespace Go.Proofs
open Go.RowKit Go.Tw Go.Flow
attribute [local go_sem] Oper.semAt_some
theorem Tryz.J9s (w:World):(isAgg 90).run Tryz.prog w = .ok true w:=by kernel_rfl
theorem Tryz.J8s (w:World):(sizeOf 90).run Tryz.prog w = .ok 5 w:=by kernel_rfl
theorem Z3z {s:Q0b} (hS:Q0m s) {k n:Nat} (hk:k < s.members.length) (hn:n <= s.ships.length):OkM (Q1k s k) n:=by
 obtain ⟨_,h2,h3⟩:=hS.shaped k hk;refine ⟨?_,?_,fun j hj=>?_⟩
 . show n <= (Q0n s.members k).length; omega
 . show n <= (Q0s s.members k).length; omega
 . have hj':j < (Q0s s.members k).length:=hj
   have:=hS.inflow k hk (ix (Q0s s.members k) j) (by rw [Q5p hj']; exact List.getElem_mem hj')
   exact this
structure J4j (w:World) (M:Option Addr) (s:Q0b) (k:Nat) (b off capx capy capz:Nat) (X Y Z:Option Addr):Prop where
 addr:M = some ⟨b,off,none⟩
 lt:b < w.heap.size
 e0:w.cell? ⟨b,off + k * 5,none⟩ = some (.string (Q1d s.members k))
 e1:w.cell? ⟨b,off + k * 5 + 1,none⟩ = some (.int .i64 (Q0h s.members k))
 e2:w.cell? ⟨b,off + k * 5 + 2,none⟩ = some (.slice X (Q0d s.members k).length capx)
 e3:w.cell? ⟨b,off + k * 5 + 3,none⟩ = some (.slice Y (Q0n s.members k).length capy)
 e4:w.cell? ⟨b,off + k * 5 + 4,none⟩ = some (.slice Z (Q0s s.members k).length capz)
 x:Q0e w (.slice X (Q0d s.members k).length capx) (Q0d s.members k)
 y:Q0e w (.slice Y (Q0n s.members k).length capy) (Q0n s.members k)
 z:Q0e w (.slice Z (Q0s s.members k).length capz) (Q0s s.members k)
theorem Q4r {w:World} {M:Option Addr} {cap:Nat} {s:Q0b} (h:X1g w (.slice M s.members.length cap) s.members) {k:Nat} (hk:k < s.members.length) :
    ∃ b off capx capy capz X Y Z,J4j w M s k b off capx capy capz X Y Z:=by
 obtain ⟨_,_,he,_,_,hc⟩:=h.opened;cases he;obtain ⟨b,off,x,y,z,hA,hb,e0,e1,e2,e3,e4,hx,hy,hz,_⟩:=hc k hk;obtain ⟨X,capx,rfl,-,-,-⟩:=hx.opened;obtain ⟨Y,capy,rfl,-,-,-⟩:=hy.opened;obtain ⟨Z,capz,rfl,-,-,-⟩:=hz.opened;exact ⟨b,off,capx,capy,capz,X,Y,Z,hA,hb,e0,e1,e2,e3,e4,hx,hy,hz⟩
theorem J4j.mem {w W:World} {M:Option Addr} {s:Q0b} {k b off capx capy capz:Nat} {X Y Z:Option Addr} (h:J4j w M s k b off capx capy capz X Y Z) (hx:Ext w W) :
    Y1s W (.agg #[.string (Q1d s.members k),.int .i64 (Q0h s.members k),.slice X (Q0d s.members k).length capx,.slice Y (Q0n s.members k).length capy,.slice Z (Q0s s.members k).length capz]) (Q1k s k) :=
 ⟨_,_,_,rfl,h.x.ext hx,h.y.ext hx,h.z.ext hx⟩
end Go.Proofs
namespace Go.Proofs
open Go.RowKit Go.Tw Go.Flow
attribute [local go_sem] Oper.semAt_some
def Z0u (w:World) (x:Value) (o:Option (List Bool)):Prop:=match o with
 | none=>x = .slice none 0 0
 | some b=>Q0i w 0 4 .bool x b
theorem Z0u.ext {w w':World} {x:Value} {o:Option (List Bool)} (h:Z0u w x o) (hx:Ext w w'):Z0u w' x o:=by
 cases o with
 | none=>exact h
 | some b=>exact Q0i.below h hx
theorem Z0u.turns {B:Nat} {w w':World} {x:Value} {o:Option (List Bool)} (h:Z0u w x o) (hx:Turns B w w'):Z0u w' x o:=by
 cases o with
 | none=>exact h
 | some b=>exact hx.own h
theorem X6n (w:World) (a:Addr) (n cap:Nat):(binOp .eql 78 (.slice (some a) n cap) (.slice none 0 0)).run Tryz.prog w = .ok (.bool false) w:=by kernel_rfl
theorem X3j (w:World):(binOp .eql 78 (.slice none 0 0) (.slice none 0 0)).run Tryz.prog w = .ok (.bool true) w:=by kernel_rfl
attribute [local go_sem ↓] X6n X3j
end Go.Proofs
namespace Go.Tw
open Go.RowKit
abbrev PV:=Plan × Value
def Q2o (q:PV):List Value:=[.int .i64 q.1.weight,.int .i64 q.1.closings,.int .i64 q.1.delay,q.2]
theorem Q3s (q:PV):(Q2o q).length = 4:=rfl
def Z7s (x:Plan) (c:Value):Value:=.agg #[.int .i64 x.weight,.int .i64 x.closings,.int .i64 x.delay,c]
end Go.Tw
namespace Go.Proofs
open Go.RowKit Go.Tw Go.Flow
attribute [local go_sem] Oper.semAt_some
theorem Tryz.J8x (w:World):(isAgg 151).run Tryz.prog w = .ok true w:=by kernel_rfl
theorem Tryz.X9r (w:World):(sizeOf 151).run Tryz.prog w = .ok 4 w:=by kernel_rfl
def Q0o (w:World) (ps:List PV):Prop:=∀ q ∈ ps,Q0i w 0 9 .string q.2 q.1.closed
theorem Q0o.nil (w:World):Q0o w []:=fun _ hq=>by simp at hq
theorem Q0o.ext {w w':World} {ps:List PV} (h:Q0o w ps) (hx:Ext w w'):Q0o w' ps:=fun q hq=>(h q hq).below hx
theorem Q0o.snoc {w:World} {ps:List PV} {q:PV} (h:Q0o w ps) (hq:Q0i w 0 9 .string q.2 q.1.closed):Q0o w (ps ++ [q]):=fun z hz=>by
 rcases List.mem_append.1 hz with hz | hz
 . exact h z hz
 . rw [List.mem_singleton.1 hz]; exact hq
theorem Q0o.sub {w:World} {ps qs:List PV} (h:Q0o w ps) (hs:∀ q ∈ qs,q ∈ ps):Q0o w qs:=fun q hq=>h q (hs q hq)
theorem Q0o.shape {w:World} {ps:List PV} (h:Q0o w ps) {q:PV} (hq:q ∈ ps):∃ A n c,q.2 = .slice A n c:=by
 obtain ⟨A,c,he,_⟩:=(h q hq).shape;exact ⟨A,_,c,he⟩
theorem Z3u {w:World} {ps:List PV} (h:Q0o w ps) {q:PV} (hq:q ∈ ps):∀ u ∈ Q2o q,u.oneCell' = true:=by
 obtain ⟨A,n,c,he⟩:=h.shape hq;intro u hu;simp only [Q2o,List.mem_cons,List.not_mem_nil,or_false] at hu
 rcases hu with rfl | rfl | rfl | rfl
 . rfl
 . rfl
 . rfl
 . rw [he]; rfl
theorem OwnP.cases {w:World} {B:Nat} {v:Value} {ps:List PV} (h:Q0u w B 151 4 Q2o v ps) :
    (v = .slice none 0 0 /\ ps = []) ∨ ∃ g cap cur,v = .slice (some ⟨g,0,none⟩) ps.length cap /\ B <= g /\ Blk w g 151 cur /\ ps.length <= cap /\ cap <= maxLen /\ cur.size = cap * 4 /\ cur.toList.take (ps.length * 4) = ps.flatMap Q2o:=by
 obtain ⟨h1,h2⟩:=h
 rcases h2 with ⟨rfl,h0⟩ | ⟨g,cap,cur,rfl,hbg,hg,hcap,hmax,hsz,ht⟩
 . exact .inl ⟨rfl,List.length_eq_zero_iff.1 h0⟩
 . exact .inr ⟨g,cap,cur,rfl,hbg,hg,hcap,hmax,hsz,ht⟩
theorem X4h {w:World} {g:Nat} {T:TypeId} {cur:Array Value} {ps:List PV} (hb:Blk w g T cur) (ht:cur.toList.take (ps.length * 4) = ps.flatMap Q2o) {j i:Nat} (hj:j < ps.length) (hi:i < 4):w.cell? ⟨g,j * 4 + i,none⟩ = (Q2o ps[j])[i]?:=by
 rw [hb.cell,<- flat_get Q3s ps j i hj hi,<- ht,List.getElem?_take,if_pos (by omega)]
 simp
theorem Y2p (w:World) (x y:Plan) (A B:Option Addr) (n m c d:Nat) :
    Calls Tryz.prog 212 #[Z7s x (.slice A n c),Z7s y (.slice B m d)] w fun e w'=>e = .returned (.bool (x.Q4f y)) /\ Ext w w':=by
 obtain ⟨x1,x2,x3,x4⟩:=x;obtain ⟨y1,y2,y3,y4⟩:=y;unfold Z7s;dsimp only;have k0:=Blk.made w 151 #[.int .i64 x1,.int .i64 x2,.int .i64 x3,.slice A n c];have x0:=Ext.box w (.cells #[.int .i64 x1,.int .i64 x2,.int .i64 x3,.slice A n c] 151);have k1:=Blk.made (w.alloc (.cells #[.int .i64 x1,.int .i64 x2,.int .i64 x3,.slice A n c] 151)) 151 #[.int .i64 y1,.int .i64 y2,.int .i64 y3,.slice B m d];have xx:=Ext.box (w.alloc (.cells #[.int .i64 x1,.int .i64 x2,.int .i64 x3,.slice A n c] 151)) (.cells #[.int .i64 y1,.int .i64 y2,.int .i64 y3,.slice B m d] 151);have es:(w.alloc (.cells #[.int .i64 x1,.int .i64 x2,.int .i64 x3,.slice A n c] 151)).heap.size = w.heap.size + 1:=by simp
 rw [es] at k1;replace k0:=k0.ext xx;have c0:=(k0).cell 0;have c1:=(k0).cell 1;have c2:=(k0).cell 2;simp only [Go.Tw.gA,Go.Tw.gB,Go.Tw.gC] at c0 c1 c2;have d0:=(k1).cell 0;have d1:=(k1).cell 1;have d2:=(k1).cell 2;simp only [Go.Tw.gA,Go.Tw.gB,Go.Tw.gC] at d0 d1 d2;have HX:=Lib.hid (x0.trans xx);have HQ:Hid ((⟨x1,x2,x3,x4⟩:Plan).Q4f ⟨y1,y2,y3,y4⟩ = (decide (y1 <= x1) && decide (x2 <= y2) && decide (x3 <= y3))):=Lib.hid rfl;clear k0 k1 x0 xx es;go_enter Tryz.func212,Tryz.ntmps212
 by_cases h1:y1 <= x1
 . by_cases h2:x2 <= y2
   . by_cases h3:x3 <= y3
     . have HR:Hid ((⟨x1,x2,x3,x4⟩:Plan).Q4f ⟨y1,y2,y3,y4⟩ = true):=Lib.hid (by rw [HQ.out]; simp [h1,h2,h3])
       go_wp2;go_ret;exact ⟨Q0z HR.out.symm,HX.out⟩
     . have HR:Hid ((⟨x1,x2,x3,x4⟩:Plan).Q4f ⟨y1,y2,y3,y4⟩ = false):=Lib.hid (by rw [HQ.out]; simp [h1,h2,h3])
       go_wp2;go_ret;exact ⟨Q0z HR.out.symm,HX.out⟩
   . have HR:Hid ((⟨x1,x2,x3,x4⟩:Plan).Q4f ⟨y1,y2,y3,y4⟩ = false):=Lib.hid (by rw [HQ.out]; simp [h1,h2])
     go_wp2;go_ret;exact ⟨Q0z HR.out.symm,HX.out⟩
 . have HR:Hid ((⟨x1,x2,x3,x4⟩:Plan).Q4f ⟨y1,y2,y3,y4⟩ = false):=Lib.hid (by rw [HQ.out]; simp [h1])
   go_wp2;go_ret;exact ⟨Q0z HR.out.symm,HX.out⟩
def Y1d (g:Nat) (pre post:Array Value) (w:World) (t:Plan -> Bool):Prop :=
 ∀ W (y:Plan) (A:Option Addr) (n c:Nat),Ext w W -> Calls Tryz.prog g (pre ++ #[Z7s y (.slice A n c)] ++ post) W fun e W'=>e = .returned (.bool (t y)) /\ Ext W W'
theorem X8v (w:World) (B:Nat) (v:Value) (ps:List PV) (g:Nat) (pre post:Array Value) (t:Plan -> Bool) (hv:Q0u w B 151 4 Q2o v ps) (hc:Q0o w ps) (hl:ps.length <= 100000)
    (eg:∀ args w,(callFunc g args).run Tryz.prog w = .ok (.enter g args) w) (ht:Y1d g pre post w t) :
    Calls Tryz.prog 225 #[v,.func (.func g) pre post] w fun e w'=>∃ r:Int,e = .returned (.int .i64 r) /\ ((r = -1 /\ ∀ q ∈ ps,t q.1 = false) ∨ ∃ k:Nat,r = (k:Int) /\ ∃ q,ps[k]? = some q /\ t q.1 = true /\ ∀ j q',j < k -> ps[j]? = some q' -> t q'.1 = false) /\ Ext w w':=by
 have HC:=Lib.hid hc;have HT:=Lib.hid ht;obtain ⟨A,cv,hsh,HCELL⟩:∃ A cv,v = .slice A ps.length cv /\ Hid (∀ j (hj:j < ps.length),∃ gb,A = some ⟨gb,0,none⟩ /\ ∀ i,i < 4 -> w.cell? ⟨gb,j * 4 + i,none⟩ = (Q2o ps[j])[i]?):=by
  rcases OwnP.cases hv with ⟨rfl,h0⟩ | ⟨gb,cap,cur,rfl,_,hb,_,_,_,htk⟩
  . exact ⟨none,0,by rw [h0]; rfl,Lib.hid (fun j hj=>by rw [h0] at hj; simp at hj)⟩
  . exact ⟨_,cap,rfl,Lib.hid (fun j hj=>⟨gb,rfl,fun i hi=>X4h hb htk hj hi⟩)⟩
 subst hsh;obtain ⟨L,hL⟩:∃ L,ps.length = L:=⟨_,rfl⟩;have HLL:=Lib.hid hL;rw [hL] at hl ⊢;clear hv hc ht hL;go_enter Tryz.func225,Tryz.ntmps225;go_wp2
 go_loopw [8] (fun i wr=>∃ k:Nat,k <= L /\ i = .int .i64 k /\ (∀ j (hj:j < ps.length),j < k -> t ps[j].1 = false) /\ Ext w wr) (fun i _=>L - (intOf i).toNat)
 case atStart=>exact ⟨0,Nat.zero_le _,rfl,fun j _ h=>absurd h (Nat.not_lt_zero _),Ext.refl _⟩
 case round =>
  obtain ⟨k,hk,rfl,hno,hx⟩:=hrel;have HNO:=Lib.hid hno;have HX:=Lib.hid hx;clear hno
  by_cases hlt:k < L
  . have hkp:k < ps.length:=by rw [HLL.out]; exact hlt
    have hkI:(k:Int) < L:=by omega
    obtain ⟨gb,rfl,hcell⟩:=HCELL.out k hkp;have e0:=hx.cell (hcell 0 (by omega))
    have e1:=hx.cell (hcell 1 (by omega))
    have e2:=hx.cell (hcell 2 (by omega))
    have e3:=hx.cell (hcell 3 (by omega))
    obtain ⟨A4,n4,c4,hsl⟩:=HC.out.shape (List.getElem_mem hkp);have HTK:=Lib.hid (HT.out wr ps[k].1 A4 n4 c4 hx);have HKEY:Hid (∀ q,t ps[k].1 = q -> t ps[k].1 = q):=Lib.hid (fun _ h=>h);obtain ⟨q,hq⟩:∃ q,t ps[k].1 = q:=⟨_,rfl⟩;have HQ:=Lib.hid hq;rw [hq] at HTK;have HPK:Hid (ps[k]? = some ps[k]):=Lib.hid (List.getElem?_eq_getElem hkp);obtain ⟨qk,hqk⟩:∃ z,ps[k] = z:=⟨_,rfl⟩;rw [hqk] at e0 e1 e2 e3 hsl HTK HQ HPK;obtain ⟨⟨x1,x2,x3,x4⟩,xv⟩:=qk;replace hsl:xv = .slice A4 n4 c4:=hsl;subst hsl;unfold Z7s at HTK;dsimp only at HTK;dsimp only at e0 e1 e2 e3;rw [Nat.add_zero] at e0;clear hkp hcell hq HKEY hqk hx;cases q with
    | true =>
      go_wp2_with (refine HTK.out.mono ?_; rintro e w9 ⟨rfl,hx9⟩);go_ret;exact ⟨k,rfl,.inr ⟨k,rfl,_,HPK.out,HQ.out,fun j q' hj hq'=>by
       obtain ⟨h,rfl⟩:=List.getElem?_eq_some_iff.1 hq';exact HNO.out j h hj⟩,HX.out.trans hx9⟩
    | false =>
      go_wp2_with (refine HTK.out.mono ?_; rintro e w9 ⟨rfl,hx9⟩);go_roundw
      case rel=>exact ⟨k + 1,by omega,by go_num,fun j h hj=>by
       by_cases hjk:j < k
       . exact HNO.out j h hjk
       . have:j = k:=by omega
         subst this;have h2:=HPK.out;rw [List.getElem?_eq_getElem h] at h2;injection h2 with h2;rw [h2]; exact HQ.out,HX.out.trans hx9⟩
      case measure=>simp [intOf]; omega
  . go_wp2
    go_ret;exact ⟨-1,rfl,.inl ⟨rfl,fun q hq=>by
     obtain ⟨j,hj,rfl⟩:=List.getElem_of_mem hq;exact HNO.out j hj (by have:=HLL.out; omega)⟩,HX.out⟩
end Go.Proofs
namespace Go.Proofs
open Go.RowKit Go.Tw Go.Flow
def Y6l (x y:Int):Int:=if x < y then -1 else if y < x then 1 else 0
def cmpL:List Int -> List Int -> Int
 | [],[]=>0
 | [],_ :: _=>-1
 | _ :: _,[]=>1
 | x :: l,y :: m=>if x = y then cmpL l m else Y6l x y
def Y2m (a b:List Int):Int:=if Y6l a.length b.length = 0 then cmpL a b else Y6l a.length b.length
theorem J1u {a b:List Int} {k:Nat} (ha:k < a.length) (hb:k < b.length):cmpL (a.drop k) (b.drop k) = if ix a k = ix b k then cmpL (a.drop (k + 1)) (b.drop (k + 1)) else Y6l (ix a k) (ix b k):=by
 rw [Q3q ha,Q3q hb]; rfl
theorem J5n {a b:List Int} {k:Nat} (ha:k < a.length) (hb:b.length <= k):cmpL (a.drop k) (b.drop k) = 1:=by
 rw [Q3q ha,List.drop_eq_nil_of_le hb]; rfl
theorem J5o {a b:List Int} {k:Nat} (ha:a.length <= k) (hb:k < b.length):cmpL (a.drop k) (b.drop k) = -1:=by
 rw [Q3q hb,List.drop_eq_nil_of_le ha]; rfl
theorem cmpL_eq {a b:List Int} {k:Nat} (ha:a.length <= k) (hb:b.length <= k):cmpL (a.drop k) (b.drop k) = 0:=by
 rw [List.drop_eq_nil_of_le hb,List.drop_eq_nil_of_le ha]; rfl
theorem X5l (w:World) (x y:Int) :
    Calls Tryz.prog 164 #[.int .i64 x,.int .i64 y] w fun e w'=>e = .returned (.int .i64 (Y6l x y)) /\ w = w':=by
 unfold Y6l
 by_cases h1:x < y
 . rw [if_pos h1]
   go_enter Tryz.func164,Tryz.ntmps164;go_wp2;go_ret;exact ⟨rfl,rfl⟩
 . by_cases h2:y < x
   . rw [if_neg h1,if_pos h2]
     go_enter Tryz.func164,Tryz.ntmps164;go_wp2;go_ret;exact ⟨rfl,rfl⟩
   . rw [if_neg h1,if_neg h2]
     go_enter Tryz.func164,Tryz.ntmps164;go_wp2;go_ret;exact ⟨rfl,rfl⟩
theorem Y4f (w:World) (u v:Value) (a b:List Int) (hu:Q0e w u a) (hv:Q0e w v b) :
    Calls Tryz.prog 165 #[u,v] w fun e w'=>e = .returned (.int .i64 (cmpL a b)) /\ w = w':=by
 obtain ⟨A,ca,rfl,hla,hcapa,hca⟩:=hu.opened;obtain ⟨B,cb,rfl,hlb,hcapb,hcb⟩:=hv.opened;clear hu hv;go_enter Tryz.func165,Tryz.ntmps165;go_wp2
 go_loop [11] (fun i=>∃ k:Nat,k <= a.length /\ i = .int .i64 k /\ cmpL (a.drop k) (b.drop k) = cmpL a b) (fun i=>a.length - (intOf i).toNat)
 case atStart=>exact ⟨0,Nat.zero_le _,rfl,rfl⟩
 case round =>
  obtain ⟨k,hk,rfl,hr⟩:=hrel;have HR:=Lib.hid hr; clear hr
  by_cases hlt:k < a.length
  . obtain ⟨b1,off1,rfl,hc1⟩:=hca k hlt
    by_cases hlt2:k < b.length
    . obtain ⟨b2,off2,rfl,hc2⟩:=hcb k hlt2
      have HS:=Lib.hid (J1u hlt hlt2);obtain ⟨x,hx⟩:∃ x,ix a k = x:=⟨_,rfl⟩;obtain ⟨y,hy⟩:∃ y,ix b k = y:=⟨_,rfl⟩;rw [hx,hy] at HS;rw [hx] at hc1;rw [hy] at hc2;clear hx hy hca hcb
      by_cases he:x = y
      . have hz:(Y6l x y != 0) = false:=by unfold Y6l; subst he; simp
        have HE:=Lib.hid he; clear he;go_wp2_with (go_at_call 164; refine (X5l _ _ _).mono ?_; rintro e w' ⟨rfl,rfl⟩);go_round
        case rel=>exact ⟨k + 1,by omega,by go_num,by rw [<- HR.out,HS.out,if_pos HE.out]⟩
        case measure=>simp [intOf]; omega
      . have hz:(Y6l x y != 0) = true:=by
         unfold Y6l
         rcases Int.lt_or_gt_of_ne he with h | h
         . rw [if_pos h]; rfl
         . rw [if_neg (by omega),if_pos h]; rfl
        have HE:=Lib.hid he; clear he;go_wp2_with (go_at_call 164; refine (X5l _ _ _).mono ?_; rintro e w' ⟨rfl,rfl⟩);go_ret;exact ⟨Q1c (by rw [<- HR.out,HS.out,if_neg HE.out]),rfl⟩
    . have HS:=Lib.hid (J5n hlt (Nat.le_of_not_lt hlt2))
      clear hca hcb;go_wp2;go_ret;exact ⟨Q1c (by rw [<- HR.out,HS.out]),rfl⟩
  . have hke:k = a.length:=by omega
    by_cases hlt2:a.length < b.length
    . have HS:=Lib.hid (J5o (Nat.le_of_not_lt hlt) (by rw [hke]; exact hlt2))
      clear hca hcb hke;go_wp2;go_ret;exact ⟨Q1c (by rw [<- HR.out,HS.out]),rfl⟩
    . have HS:=Lib.hid (cmpL_eq (Nat.le_of_not_lt hlt) (show b.length <= k by omega))
      clear hca hcb hke;go_wp2;go_ret;exact ⟨Q1c (by rw [<- HR.out,HS.out]),rfl⟩
theorem Z6r (w:World) (g:Nat) (x y:Int) (h0:w.cell? ⟨g,0,none⟩ = some (.int .i64 x)) (h1:w.cell? ⟨g,1,none⟩ = some (.int .i64 y)) :
    Calls Tryz.prog 163 #[.slice (some ⟨g,0,none⟩) 2 2] w fun e w'=>e = .returned (.int .i64 (if x = 0 then y else x)) /\ w = w':=by
 have HC:Hid (∀ k,k < 2 -> w.cell? ⟨g,0 + k,none⟩ = some (.int .i64 (ix [x,y] k))):=Lib.hid (fun k hk=>match k,hk with | 0,_=>h0 | 1,_=>h1)
 have HE:Hid (Q0k [x,y] = if x = 0 then y else x):=Lib.hid (by
  show (if x = 0 then (if y = 0 then 0 else y) else x) = _
  split
  . split <;> simp_all
  . rfl)
 rw [<- HE.out];clear h0 h1;obtain ⟨l,hl⟩:∃ l,[x,y] = l:=⟨_,rfl⟩;have hl2:l.length = 2:=by rw [<- hl]; rfl
 rw [hl] at HC ⊢;have HL2:=Lib.hid hl2;clear HE hl hl2;go_enter Tryz.func163,Tryz.ntmps163;go_wp2
 go_loop [8] (fun i=>∃ k:Nat,k <= 2 /\ i = .int .i64 k /\ Q0k (l.drop k) = Q0k l) (fun i=>2 - (intOf i).toNat)
 case atStart=>exact ⟨0,Nat.zero_le _,rfl,rfl⟩
 case round =>
  obtain ⟨k,hk,rfl,hr⟩:=hrel;have HR:=Lib.hid hr; clear hr
  by_cases hlt:k < 2
  . have hc:=HC.out k hlt
    have hst:Q0k (l.drop k) = if ix l k = 0 then Q0k (l.drop (k + 1)) else ix l k:=by rw [Q3q (by rw [HL2.out]; exact hlt)]; rfl
    obtain ⟨z,hz⟩:∃ z,ix l k = z:=⟨_,rfl⟩;rw [hz] at hc hst;have HST:=Lib.hid hst;rw [Nat.zero_add] at hc;clear hst hz
    by_cases he:z = 0
    . have hzb:(z != 0) = false:=by simp [he]
      have HE:=Lib.hid he; clear he;go_wp2;go_round
      case rel=>exact ⟨k + 1,by omega,by go_num,by rw [<- HR.out,HST.out,if_pos HE.out]⟩
      case measure=>simp [intOf]; omega
    . have hzb:(z != 0) = true:=by simp [he]
      have HE:=Lib.hid he; clear he;go_wp2;go_ret;exact ⟨Q1c (by rw [<- HR.out,HST.out,if_neg HE.out]),rfl⟩
  . go_wp2
    go_ret;exact ⟨Q1c (by rw [<- HR.out,List.drop_eq_nil_of_le (by rw [HL2.out]; omega)]; rfl),rfl⟩
theorem X6h (w:World) (u v:Value) (a b:List Int) (hu:Q0e w u a) (hv:Q0e w v b) :
    Calls Tryz.prog 111 #[u,v] w fun e w'=>e = .returned (.int .i64 (Y2m a b)) /\ ∃ o,w' = w.alloc o:=by
 have HU:=Lib.hid hu;have HV:=Lib.hid hv;obtain ⟨A,ca,rfl,hla,hcapa,hca⟩:=hu.opened;obtain ⟨B,cb,rfl,hlb,hcapb,hcb⟩:=hv.opened;clear hu hv hca hcb;have HOR:Hid (∀ (x y:Int),Calls Tryz.prog 163 #[.slice (some ⟨w.heap.size,0,none⟩) 2 2] (w.alloc (.cells #[.int .i64 x,.int .i64 y] 3)) fun e w'=>e = .returned (.int .i64 (if x = 0 then y else x)) /\ (w.alloc (.cells #[.int .i64 x,.int .i64 y] 3)) = w'):=Lib.hid (fun x y=>Z6r _ w.heap.size x y ((Blk.made _ _ _).cell 0) ((Blk.made _ _ _).cell 1))
 have HH:Hid ((if Y6l a.length b.length = 0 then cmpL a b else Y6l a.length b.length) = Y2m a b):=Lib.hid rfl
 go_enter Tryz.func111,Tryz.ntmps111;go_wp2_with (first | (go_at_call 165; refine (Y4f _ _ _ a b HU.out HV.out).mono ?_; rintro e w' ⟨rfl,rfl⟩) | (go_at_call 164; refine (X5l _ _ _).mono ?_; rintro e w' ⟨rfl,rfl⟩) | (go_at_call 163; refine (HOR.out _ _).mono ?_; rintro e w' ⟨rfl,rfl⟩; rw [HH.out]))
 go_ret;exact ⟨rfl,_,rfl⟩
theorem X1d (w:World) (u v:Value) (a b:List Int) (hu:Q0e w u a) (hv:Q0e w v b) :
    Calls Tryz.prog 113 #[u,v] w fun e w'=>e = .returned (.bool (Y2m a b == 0)) /\ ∃ o,w' = w.alloc o:=by
 have HU:=Lib.hid hu;have HV:=Lib.hid hv;obtain ⟨A,ca,rfl,hla,hcapa,hca⟩:=hu.opened;obtain ⟨B,cb,rfl,hlb,hcapb,hcb⟩:=hv.opened;clear hu hv hca hcb;go_enter Tryz.func113,Tryz.ntmps113;go_wp2_with (go_at_call 111; refine (X6h _ _ _ a b HU.out HV.out).mono ?_; rintro e w' ⟨rfl,o,rfl⟩);go_ret;exact ⟨rfl,_,rfl⟩
end Go.Proofs
namespace Go.Proofs
open Go.Shelf
open Go.RowKit Go.Lib in
def Tryz.Z2h:Go.Shelf.Ren:=⟨fun | 6=>110 | 15=>162 | 14=>161 | 28=>195 | 29=>196 | 20=>187 | 21=>188 | 22=>189 | 23=>190 | 24=>191 | 25=>192 | 26=>193 | 27=>194 | 46=>217 | 47=>218 | 48=>219 | 49=>220 | 50=>221 | 57=>226 | n=>n,fun | 22=>158 | 24=>157 | 25=>210 | 3=>3 | 39=>260 | 0=>0 | 53=>297 | 55=>299 | 4=>4 | 46=>290 | 45=>289 | 50=>294 | 5=>5 | 9=>9 | 66=>316 | 70=>320 | 76=>327 | 77=>196 | n=>n,fun | n=>n⟩
theorem Tryz.sortSet:Go.Proofs.SlLaysF.n6 Tryz.prog Tryz.Z2h:={
 mixed:=by kernel_rfl
 f6:=⟨Tryz.f110.name,by decide,Tryz.func110.trans (congrArg some (by kernel_rfl))⟩
 f14:=⟨Tryz.f161.name,by decide,Tryz.func161.trans (congrArg some (by kernel_rfl))⟩
 f15:=Tryz.func162.trans (congrArg some (by kernel_rfl))
 f20:=⟨Tryz.f187.name,by decide,Tryz.func187.trans (congrArg some (by kernel_rfl))⟩
 f21:=⟨Tryz.f188.name,by decide,Tryz.func188.trans (congrArg some (by kernel_rfl))⟩
 f22:=⟨Tryz.f189.name,by decide,Tryz.func189.trans (congrArg some (by kernel_rfl))⟩
 f23:=⟨Tryz.f190.name,by decide,Tryz.func190.trans (congrArg some (by kernel_rfl))⟩
 f24:=⟨Tryz.f191.name,by decide,Tryz.func191.trans (congrArg some (by kernel_rfl))⟩
 f25:=⟨Tryz.f192.name,by decide,Tryz.func192.trans (congrArg some (by kernel_rfl))⟩
 f26:=⟨Tryz.f193.name,by decide,Tryz.func193.trans (congrArg some (by kernel_rfl))⟩
 f27:=⟨Tryz.f194.name,by decide,Tryz.func194.trans (congrArg some (by kernel_rfl))⟩
 f28:=Tryz.func195.trans (congrArg some (by kernel_rfl))
 f29:=Tryz.func196.trans (congrArg some (by kernel_rfl))
 f46:=⟨Tryz.f217.name,by decide,Tryz.func217.trans (congrArg some (by kernel_rfl))⟩
 f47:=Tryz.func218.trans (congrArg some (by kernel_rfl))
 f48:=Tryz.func219.trans (congrArg some (by kernel_rfl))
 f49:=⟨Tryz.f220.name,by decide,Tryz.func220.trans (congrArg some (by kernel_rfl))⟩
 f50:=⟨Tryz.f221.name,by decide,Tryz.func221.trans (congrArg some (by kernel_rfl))⟩
 f57:=⟨Tryz.f226.name,by decide,Tryz.func226.trans (congrArg some (by kernel_rfl))⟩
 t0:=Tryz.underlying0
 a0:=Tryz.isAgg0
 z0:=Tryz.sizeOf0
 v0:=Tryz.zeroValue0
 t3:=Tryz.underlying3
 a3:=Tryz.isAgg3
 z3:=Tryz.sizeOf3
 v3:=Tryz.zeroValue3
 t4:=Tryz.underlying4
 a4:=Tryz.isAgg4
 z4:=Tryz.sizeOf4
 v4:=Tryz.zeroValue4
 t5:=Tryz.underlying5
 a5:=Tryz.isAgg5
 z5:=Tryz.sizeOf5
 v5:=Tryz.zeroValue5
 t9:=Tryz.underlying9
 a9:=Tryz.isAgg9
 z9:=Tryz.sizeOf9
 v9:=Tryz.zeroValue9
 t22:=Tryz.underlying158
 a22:=Tryz.isAgg158
 z22:=Tryz.sizeOf158
 v22:=Tryz.zeroValue158
 a24:=Tryz.isAgg157
 z24:=Tryz.sizeOf157
 t25:=Tryz.underlying210
 a25:=Tryz.isAgg210
 z25:=Tryz.sizeOf210
 v25:=Tryz.zeroValue210
 t39:=Tryz.underlying260
 a39:=Tryz.isAgg260
 z39:=Tryz.sizeOf260
 v39:=Tryz.zeroValue260
 t45:=Tryz.underlying289
 a45:=Tryz.isAgg289
 z45:=Tryz.sizeOf289
 v45:=Tryz.zeroValue289
 t46:=Tryz.underlying290
 a46:=Tryz.isAgg290
 z46:=Tryz.sizeOf290
 v46:=Tryz.zeroValue290
 t50:=Tryz.underlying294
 a50:=Tryz.isAgg294
 z50:=Tryz.sizeOf294
 v50:=Tryz.zeroValue294
 t53:=Tryz.underlying297
 a53:=Tryz.isAgg297
 z53:=Tryz.sizeOf297
 v53:=Tryz.zeroValue297
 t55:=Tryz.underlying299
 a55:=Tryz.isAgg299
 z55:=Tryz.sizeOf299
 v55:=Tryz.zeroValue299
 t66:=Tryz.underlying316
 a66:=Tryz.isAgg316
 z66:=Tryz.sizeOf316
 v66:=Tryz.zeroValue316
 t70:=Tryz.underlying320
 a70:=Tryz.isAgg320
 z70:=Tryz.sizeOf320
 v70:=Tryz.zeroValue320
 t76:=Tryz.underlying327
 a76:=Tryz.isAgg327
 z76:=Tryz.sizeOf327
 v76:=Tryz.zeroValue327
 t77:=Tryz.underlying196
 a77:=Tryz.isAgg196
 z77:=Tryz.sizeOf196
 v77:=Tryz.zeroValue196 }
end Go.Proofs
namespace Go.Proofs
open Go.RowKit Go.Tw Go.Flow Go.Sort
theorem J0p (x y:Int):Y6l x y < 0 ↔ x < y:=by unfold Y6l; split <;> (try split) <;> omega
theorem Z0l (x y:Int) (l m:List Int):cmpL (x :: l) (y :: m) < 0 ↔ x < y ∨ (x = y /\ cmpL l m < 0):=by
 show (if x = y then cmpL l m else Y6l x y) < 0 ↔ _
 split
 . rename_i h; simp [h]
 . rename_i h; rw [J0p]; simp [h]
theorem Z0g:∀ a b:List Int,a.length = b.length -> (Q6s a b = true ↔ cmpL a b < 0)
 | [],[],_=>by simp [Q6s,cmpL]
 | [],_ :: _,h=>by simp at h
 | _ :: _,[],h=>by simp at h
 | x :: l,y :: m,h=>by
   rw [Z0l];show (if x = y then Q6s l m else decide (x < y)) = true ↔ _
   split
   . rename_i hxy
     rw [Z0g l m (by simpa using h)]
     simp [hxy]
   . rename_i hxy
     simp [hxy]
theorem X2k (x y:Int):Y6l x y = 0 ↔ x = y:=by unfold Y6l; split <;> (try split) <;> omega
theorem Z0n:∀ a b:List Int,cmpL a b = 0 ↔ a = b
 | [],[]=>by simp [cmpL]
 | [],_ :: _=>by simp [cmpL]
 | _ :: _,[]=>by simp [cmpL]
 | x :: l,y :: m=>by
   show (if x = y then cmpL l m else Y6l x y) = 0 ↔ _
   split
   . rename_i h; rw [Z0n l m]; simp [h]
   . rename_i h; rw [X2k]; simp [h]
theorem X2m (a b:List Int):Y2m a b = 0 ↔ a = b:=by
 unfold Y2m
 split
 . exact Z0n a b
 . rename_i h
   constructor
   . intro k; exact absurd k h
   . intro k; subst k; exact absurd ((X2k _ _).2 rfl) h
theorem Q6n (a b:List Int):Y2m a b < 0 ↔ Q1z a b = true:=by
 unfold Y2m Q1z
 split
 . rename_i h
   have hl:a.length = b.length:=by have:=(X2k _ _).1 h; omega
   rw [if_pos hl];exact (Z0g a b hl).symm
 . rename_i h
   have hl:¬ a.length = b.length:=fun e=>h (by rw [e]; exact (X2k _ _).2 rfl)
   rw [if_neg hl,J0p,decide_eq_true_iff];omega
theorem Z1i (a:List Int):¬ Y2m a a < 0:=by rw [Q6n]; exact Q7i a
theorem Y2y {a b c:List Int} (h1:Y2m a b < 0) (h2:Y2m b c < 0):Y2m a c < 0:=by rw [Q6n] at *; exact Q6c h1 h2
theorem Z3y (a b:List Int):Y2m a b < 0 ∨ a = b ∨ Y2m b a < 0:=by
 rw [Q6n,Q6n];cases h:Q1z a b with
 | true=>exact .inl rfl
 | false=>exact .inr (X9s h)
theorem J2k (f:Nat -> List Int):SWO (ltOf fun x y:Nat=>Y2m (f x) (f y)) where
 irrefl x:=by simpa [ltOf] using Z1i (f x)
 trans x y z h1 h2:=by simp only [ltOf,decide_eq_true_eq] at *; exact Y2y h1 h2
 ntrans x y z h1 h2:=by
  simp only [ltOf,decide_eq_false_iff_not] at *;intro h
  rcases Z3y (f x) (f y) with h' | h' | h'
  . exact h1 h'
  . rw [h'] at h; exact h2 h
  . exact h2 (Y2y h' h)
def Sets (w:World) (vs:List Value) (ll:List (List Int)):Prop:=vs.length = ll.length /\ ∀ i,i < ll.length -> Q0i w 0 3 (.int .i64) (vs.getD i undef) (ll.getD i []) /\ (ll.getD i []).length <= 8
theorem Z2j {w W:World} {v:Value} {l:List Int} (h:Q0i w 0 3 (.int .i64) v l) (hb:∀ b,v.ownBlock = some b -> b < w.heap.size -> W.heap[b]? = w.heap[b]?):Q0i W 0 3 (.int .i64) v l:=by
 obtain ⟨h1,h2⟩:=h;refine ⟨h1,?_⟩
 rcases h2 with h2 | ⟨g,cap,cur,hv,hbg,hg,r⟩
 . exact .inl h2
 . exact .inr ⟨g,cap,cur,hv,hbg,(hb g (by rw [hv]; rfl) (Array.getElem?_eq_some_iff.1 hg).1).trans hg,r⟩
theorem Y4t {w:World} {v:Value} {l:List Int} {g:Nat} {cur:Array Value} {fr:Nat × Nat} (h:Q0i w 0 3 (.int .i64) v l) (hg:w.heap[g]? = some (.cells cur 157 fr)):v.ownBlock ≠ some g:=by
 intro e;obtain ⟨h1,h2⟩:=h
 rcases h2 with ⟨rfl,_⟩ | ⟨g',cap,cur',rfl,hbg,hg',r⟩
 . cases e
 . obtain rfl:g' = g:=by simpa [Value.ownBlock] using e
   rw [hg] at hg';injection hg' with h;injection h with _ h;exact absurd h (by decide)
theorem Sets.at {w W:World} {vs:List Value} {ll:List (List Int)} (h:Sets w vs ll) (hb:∀ v l,Q0i w 0 3 (.int .i64) v l -> ∀ b,v.ownBlock = some b -> b < w.heap.size -> W.heap[b]? = w.heap[b]?):Sets W vs ll :=
 ⟨h.1,fun i hi=>⟨Z2j (h.2 i hi).1 (hb _ _ (h.2 i hi).1),(h.2 i hi).2⟩⟩
theorem Sets.ext {w W:World} {vs:List Value} {ll:List (List Int)} (h:Sets w vs ll) (hx:Ext w W):Sets W vs ll:=h.at fun _ _ _ b _ hb=>Below.block hx b hb
theorem Sets.reads {w:World} {vs:List Value} {ll:List (List Int)} (h:Sets w vs ll):Reads w vs ll:=⟨h.1,fun i hi=>(h.2 i hi).1.ints (by have:=(h.2 i hi).2; omega)⟩
theorem Sets.nil (w:World):Sets w [] []:=⟨rfl,fun i hi=>by simp at hi⟩
theorem Sets.snoc {w:World} {vs:List Value} {ll:List (List Int)} {v:Value} {l:List Int} (h:Sets w vs ll) (hv:Q0i w 0 3 (.int .i64) v l) (hl:l.length <= 8):Sets w (vs ++ [v]) (ll ++ [l]):=by
 refine ⟨by simp [h.1],fun i hi=>?_⟩
 rw [List.length_append,List.length_singleton] at hi
 by_cases hlt:i < ll.length
 . have e1:(vs ++ [v]).getD i undef = vs.getD i undef:=by simp [List.getElem?_append_left (show i < vs.length by rw [h.1]; exact hlt)]
   have e2:(ll ++ [l]).getD i [] = ll.getD i []:=by simp [List.getElem?_append_left hlt]
   rw [e1,e2]; exact h.2 i hlt
 . have e:i = ll.length:=by omega
   have e1:(vs ++ [v]).getD i undef = v:=by rw [e,<- h.1]; simp
   have e2:(ll ++ [l]).getD i [] = l:=by rw [e]; simp
   rw [e1,e2]; exact ⟨hv,hl⟩
theorem Q5m {α:Type} [Inhabited α] (enc:α -> Value) (w:World) (blk off n:Nat) (d:Array α) (os:Array Obj) {k:Nat} (hk:k < w.heap.size) (hne:k ≠ blk):(sortWorld enc w blk off n d os).heap[k]? = w.heap[k]?:=by
 unfold sortWorld;rw [heap_grow_old _ _ (by rw [size_putRow]; exact hk)]
 show (w.heap.modify blk _)[k]? = _;rw [Array.getElem?_modify,if_neg (fun h=>hne h.symm)]
theorem Y1o {α:Type} [Inhabited α] (enc:α -> Value) (w:World) (blk off n:Nat) (d:Array α) (os:Array Obj):w.heap.size <= (sortWorld enc w blk off n d os).heap.size:=by
 unfold sortWorld;rw [size_grow,size_putRow]; show w.heap.size <= w.heap.size + _; omega
theorem X8z {α:Type} [Inhabited α] (enc:α -> Value) (w:World) (blk off n:Nat) (d:Array α) (os:Array Obj):w.grownBy (sortWorld enc w blk off n d os) (some blk) :=
 ⟨rfl,rfl,rfl,Y1o _ _ _ _ _ _ _,fun k hk hne=>Q5m _ _ _ _ _ _ _ hk (fun e=>hne (by rw [e]))⟩
theorem X8b {α:Type} [Inhabited α] (enc:α -> Value) (w:World) (blk off n:Nat) (d0 d:Array α) (os:Array Obj) (h0:Holds enc w blk off d0) (hs:d.size = d0.size) (hb:blk < w.heap.size):Holds enc (sortWorld enc w blk off n d os) blk off d:=by
 unfold sortWorld;exact holds_grow _ _ _ _ _ _ (by rw [size_putRow]; exact hb) (holds_putRow enc (Sort.ahead w n) blk off d0 d (holds_ahead _ _ _ _ _ _ h0) hs)
theorem J1v {w:World} {v:Value} {l:List Int} {g:Nat} {cs:Array Value} {T:TypeId} (hT:T ≠ 3) (h:Q0i w 0 3 (.int .i64) v l) (hg:Blk w g T cs):v.ownBlock ≠ some g:=by
 intro e;obtain ⟨h1,h2⟩:=h
 rcases h2 with ⟨rfl,_⟩ | ⟨g',cap,cur',rfl,hbg,hg',r⟩
 . cases e
 . obtain rfl:g' = g:=by simpa [Value.ownBlock] using e
   unfold Blk at hg;rw [hg] at hg';injection hg' with h;injection h with _ h;exact hT h
theorem Y4q {α:Type} [Inhabited α] (enc:α -> Value) (w:World) (g n:Nat) (d:Array α) (os:Array Obj) {T:TypeId} {cur:Array Value} (hb:Blk w g T cur):∃ cur',Blk (sortWorld enc w g 0 n d os) g T cur' /\ cur'.size = cur.size:=by
 refine ⟨putCells enc 0 d cur,?_,by simp [putCells]⟩
 unfold Blk sortWorld;rw [heap_grow_old _ _ (by rw [size_putRow]; exact hb.lt)]
 show (w.heap.modify g _)[g]? = _;rw [Array.getElem?_modify,if_pos rfl];unfold Blk at hb;rw [hb]; rfl
def Sorted (ll:List (List Int)):Prop:=ll.Pairwise fun a b=>¬ Y2m b a < 0
def Z5b (w:World) (g:Nat) (cur vs:List Value) (ll:List (List Int)):Prop:=Blk w g 157 cur.toArray /\ cur.take vs.length = vs /\ Sets w vs ll
theorem J3n (w:World) (g cap base:Nat) (vs:List Value) (ll:List (List Int)) (hown:Q0i w base 157 idV (.slice (some ⟨g,0,none⟩) vs.length cap) vs) (hs:Sets w vs ll) (hle:ll.length <= 4096) :
    Calls Tryz.prog 110 #[.slice (some ⟨g,0,none⟩) ll.length cap,.func (.func 111) #[] #[]] w fun e w'=>e = .returned (.tuple #[]) /\ ∃ ll' cur vs',ll'.Perm ll /\ Sorted ll' /\ Z5b w' g cur vs' ll' /\ w.grownBy w' (some g):=by
 obtain ⟨cur,hcur,hgl,hcap,htake⟩:∃ cur,w.heap[g]? = some (.cells cur 157 (0,0)) /\ g < w.heap.size /\ vs.length <= cap /\ cur.toList.take vs.length = vs:=by
  obtain ⟨h1,h2⟩:=hown
  rcases h2 with ⟨h2,_⟩ | ⟨g',cap',cur,hv,hb,hg,hc,hm,hz,ht⟩
  . cases h2
  . injection hv with e1 e2 e3
    injection e1 with e1;injection e1 with e1;subst e1; subst e3;refine ⟨cur,hg,(Array.getElem?_eq_some_iff.1 hg).1,hc,?_⟩;have hid:vs.map idV = vs:=by show vs.map id = vs; exact List.map_id vs
    rw [hid,Nat.mul_one] at ht;exact ht
 have hlen:=hs.1;obtain ⟨K,hK⟩:∃ K,ll.length = K:=⟨_,rfl⟩;rw [hK] at hlen hle ⊢
 let z:Value:=.slice none 0 0
 let enc:Nat -> Value:=fun x=>vs.getD x z
 let cont:Nat -> List Int:=fun x=>ll.getD x []
 have hint:∀ x W,(∀ k,k < w.heap.size -> k ≠ g -> W.heap[k]? = w.heap[k]?) -> Q0e W (enc x) (cont x):=by
  intro x W hW
  by_cases hx:x < K
  . have h1:=(hs.2 x (by omega)).1
    have h2:=Z2j (W:=W) h1 (fun b hb hbl=>hW b hbl (fun e=>Y4t h1 hcur (by rw [<- e]; exact hb)))
    have h3:=h2.ints (by have:=(hs.2 x (by omega)).2; omega)
    have e1:vs.getD x undef = enc x:=by simp [enc,z,show x < vs.length by omega]
    rw [e1] at h3;exact h3
  . have e1:enc x = .slice none 0 0:=by simp [enc,z,show ¬ x < vs.length by omega,List.getD_eq_getElem?_getD]
    have e2:cont x = []:=by simp [cont,List.getD_eq_getElem?_getD,List.getElem?_eq_none (show ll.length <= x by omega)]
    rw [e1,e2];exact Rows.nil 1 _ W
 have hone:OneCell enc:=by
  intro x;obtain ⟨A,c,he,_⟩:=(hint x w (fun _ _ _=>rfl)).opened
  rw [he]; rfl
 have hH:Holds enc w g 0 (Array.range K):=by
  intro j hj;rw [Array.size_range] at hj;have e1:(Array.range K)[j]! = j:=by rw [getElem!_pos _ j (by simpa using hj)]; simp
  rw [e1];refine ⟨?_,by simp [World.frozen?,hcur]⟩
  have h1:=congrArg (fun l=>l[j]?) htake;rw [Nat.zero_add];simp only [List.getElem?_take,show j < vs.length by omega,if_true] at h1
  show (match w.heap[g]? with | some (.cells c _ _)=>_ | _=>_) = _
  rw [hcur];simp only [Option.isSome_none,Bool.false_eq_true,if_false];rw [<- Array.getElem?_toList,h1];simp [enc,show j < vs.length by omega]
 have hcmp:CmpLays1 Tryz.prog 111 #[] enc (fun x y=>Y2m (cont x) (cont y)) g 0 (Array.range K).size w:=by
  intro m os dk hdk x y;have h:=X6h (sortWorld enc w g 0 m dk os) (enc x) (enc y) (cont x) (cont y) (hint x _ (fun k hk hne=>Q5m _ _ _ _ _ _ _ hk hne)) (hint y _ (fun k hk hne=>Q5m _ _ _ _ _ _ _ hk hne));exact h.mono fun e w' ⟨he,o,hw⟩=>⟨he,0,#[o],by rw [hw,alloc_eq_grow]; rfl⟩
 have eg:∀ args w,(callFunc 111 args).run Tryz.prog w = .ok (.enter 111 args) w:=enters_of Tryz.func111 (by kernel_rfl) rfl
 have hcon:=Any.slices_SortFunc Tryz.sortSet enc hone (fun x y=>Y2m (cont x) (cont y)) (J2k cont) 111 #[] g 0 cap (Array.range K) w eg hcmp hH hgl (by rw [Array.size_range]; omega)
 rw [Array.size_range] at hcon;change Calls Tryz.prog 110 _ _ _ at hcon;refine hcon.mono fun e w' ⟨he,d',n,os,hp,hso,hw⟩=>⟨he,?_⟩;subst hw;obtain ⟨hp1,_,hp3⟩:=hp;rw [Array.size_range] at hp1;have hperm:d'.toList.Perm (List.range K):=by
  have e1:d'.extract 0 K = d':=by rw [<- hp1]; simp
  have e2:(Array.range K).extract 0 K = Array.range K:=by
   apply Array.toList_inj.1
   rw [Array.toList_extract,List.extract_eq_take_drop,List.drop_zero];exact List.take_of_length_le (by simp)
  rw [e1,e2] at hp3
  simpa using hp3
 have hll:(List.range K).map cont = ll:=by
  apply List.ext_getElem
  . simp [hK]
  . intro i h1 h2; simp [cont,h2]
 obtain ⟨cur',hb',hcs⟩:=Y4q enc w g n d' os (show Blk w g 157 cur from hcur)
 have hho:=X8b enc w g 0 n (Array.range K) d' os hH (by simp [hp1]) hgl
 have hcl:K <= cur'.size:=by
  have:cur.toList.length = cur.size:=Array.length_toList;have h2:=congrArg List.length htake;rw [List.length_take] at h2;omega
 have hvl:(d'.toList.map enc).length = K:=by simp [hp1]
 refine ⟨d'.toList.map cont,cur'.toList,d'.toList.map enc,by rw [<- hll]; exact hperm.map cont,?_,⟨by rw [Array.toArray_toList]; exact hb',?_,?_,?_⟩,X8z _ _ _ _ _ _ _⟩
 . unfold Sorted
   rw [List.pairwise_map,List.pairwise_iff_getElem];intro i j hi hj hij;have hi':i < d'.size:=by simpa using hi
   have hj':j < d'.size:=by simpa using hj
   have h:=hso i j (Nat.zero_le _) hij (by omega)
   rw [getElem!_pos d' i hi',getElem!_pos d' j hj'] at h
   simpa [ltOf] using h
 . apply List.ext_getElem
   . rw [List.length_take,hvl,Array.length_toList]; omega
   . intro i h1 h2
     have hi:i < K:=by rw [hvl] at h2; exact h2
     have h3:=(hho i (by omega)).1
     rw [Nat.zero_add,hb'.cell,Array.getElem?_eq_getElem (by omega),Option.some.injEq] at h3
     rw [List.getElem_take,Array.getElem_toList,h3,List.getElem_map,Array.getElem_toList,getElem!_pos d' i (by omega)]
 . simp
 . intro i hi
   have hi':i < K:=by simpa [hp1] using hi
   have hid:i < d'.size:=by omega
   have hx:d'[i] < K:=by
    have:=hperm.mem_iff.1 (show d'[i] ∈ d'.toList from by simp)
    exact List.mem_range.1 this
   have h1:=hs.2 d'[i] (by omega)
   have e1:(d'.toList.map enc).getD i undef = vs.getD d'[i] undef:=by
    rw [List.getD_eq_getElem?_getD,List.getElem?_eq_getElem (by rw [hvl]; exact hi'),List.getElem_map,Array.getElem_toList]
    simp [enc,show d'[i] < vs.length by omega]
   have e2:(d'.toList.map cont).getD i [] = ll.getD d'[i] []:=by
    rw [List.getD_eq_getElem?_getD,List.getElem?_eq_getElem (by simp [hp1]; exact hi'),List.getElem_map,Array.getElem_toList]
    simp [cont]
   rw [e1,e2];refine ⟨Z2j h1.1 fun b hb hbl=>Q5m _ _ _ _ _ _ _ hbl fun e=>Y4t h1.1 hcur (by rw [<- e]; exact hb),h1.2⟩
end Go.Proofs
namespace Go.Tw
open Go.RowKit Go.Flow
theorem Z1c {P:Program} {w:World} (t ty e:TypeId) (ht:P.underlying t = some (.slice e)) {g off:Nat} {T:TypeId} {cur:Array Value} (hb:Blk w g T cur) (n cap:Nat) (hn:0 < n) (z:Value) (hz:∀ w,(zeroValue e).run P w = .ok z w) (h1:∀ v ∈ (Builtin.zeroCells z.cells n).toList,v.oneCell' = true) (hfit:off + (Builtin.zeroCells z.cells n).size <= cur.size) :
    ∃ w',(Builtin.clear_ #[t] ty #[.slice (some ⟨g,off,none⟩) n cap]).run P w = .ok (.tuple #[]) w' /\ Blk w' g T (Q2n cur off (Builtin.zeroCells z.cells n).toList) /\ (∀ n,n <= g -> Below n w w') /\ ∀ k,k ≠ g -> w'.heap[k]? = w.heap[k]?:=by
 obtain ⟨w',hr,hb',hl,hoo⟩:=Q6e (P:=P) (off:=off) (Builtin.zeroCells z.cells n).toList 0 w cur hb h1 (by simpa using hfit)
 refine ⟨w',?_,by simpa using hb',hl,hoo⟩
 obtain ⟨m,rfl⟩:∃ m,n = m + 1:=⟨n - 1,by omega⟩
 simp [Builtin.clear_,run_underlying ht,hz,hr]
theorem X1i {P:Program} {w:World} {ops:Array Oper} {rest:List Oper} {o:Oper} {a:Act} {Q:Exit -> Act -> World -> Prop} (hgd:o.guard = none) (x:Operand) (t e:TypeId) (ho:o.op = .call { callee:=.builtin .clear,args:=#[x],argTypes:=#[t] }) (ht:P.underlying t = some (.slice e))
    {g off n cap:Nat} (hn:0 < n) (hx:a.eval x = .slice (some ⟨g,off,none⟩) n cap) {T:TypeId} {cur:Array Value} (hb:Blk w g T cur) (z:Value) (hz:∀ w,(zeroValue e).run P w = .ok z w) (h1:∀ v ∈ (Builtin.zeroCells z.cells n).toList,v.oneCell' = true) (hfit:off + (Builtin.zeroCells z.cells n).size <= cur.size)
    (hK:∀ w',Blk w' g T (Q2n cur off (Builtin.zeroCells z.cells n).toList) -> (∀ n,n <= g -> Below n w w') -> (∀ k,k ≠ g -> w'.heap[k]? = w.heap[k]?) -> wpList P ops Q rest (a.put o.dst (.tuple #[])) w'):wpList P ops Q (o :: rest) a w:=by
 refine wpList_plain hgd fun K' hK'=>?_;unfold Oper.wp;obtain ⟨w',hr,hb',hl,hoo⟩:=Z1c (P:=P) t o.type e ht hb n cap hn z hz h1 hfit;have hr2:(execOp a.eval o).run P w = .ok (.value (.tuple #[])) w':=by
  unfold execOp;simp only [ho,resolve,invoke,builtin,Sem.run_bind,Sem.run_pure,Result.andThen_ok,List.map_toArray,List.map_cons,List.map_nil,hx,hr]
 rw [hr2];exact hK' _ _ (hK w' hb' hl hoo)
theorem Q9p (n:Nat):(Builtin.zeroCells (Value.slice none 0 0).cells n).toList = List.replicate n (.slice none 0 0):=by
 apply List.ext_getElem?
 intro j;unfold Builtin.zeroCells
 by_cases hj:j < n
 . simp [Value.cells,hj,Nat.mod_one]
 . simp [Value.cells,hj]
end Go.Tw
namespace Go.Proofs
open Go.RowKit Go.Tw Go.Flow
structure Kept (ll r:List (List Int)) (j:Nat):Prop where
 asc:Asc r
 last:∃ r0,r = r0 ++ [ll.getD j []]
 mem:∀ x,x ∈ r ↔ x ∈ ll.take (j + 1)
theorem Kept.start {ll:List (List Int)} (h:0 < ll.length):Kept ll [ll.getD 0 []] 0 where
 asc:=by unfold Asc; simp
 last:=⟨[],rfl⟩
 mem x:=by rw [List.take_succ_eq_append_getElem h]; simp [h]
theorem X4i {ll:List (List Int)} {j:Nat} (hj:j + 1 < ll.length) (x:List Int):x ∈ ll.take (j + 2) ↔ x ∈ ll.take (j + 1) ∨ x = ll.getD (j + 1) []:=by
 have e:ll.getD (j + 1) [] = ll[j + 1]:=by simp [hj]
 rw [show j + 2 = (j + 1) + 1 from rfl,List.take_succ_eq_append_getElem hj,List.mem_append,List.mem_singleton,e]
theorem Kept.same {ll r:List (List Int)} {j:Nat} (h:Kept ll r j) (hj:j + 1 < ll.length) (he:ll.getD (j + 1) [] = ll.getD j []):Kept ll r (j + 1) where
 asc:=h.asc
 last:=by rw [he]; exact h.last
 mem x:=by
  rw [X4i hj,h.mem x]
  constructor
  . exact .inl
  . rintro (k | k)
    . exact k
    . obtain ⟨r0,hr⟩:=h.last
      rw [<- h.mem x,k,he,hr]; simp
theorem Kept.snoc {ll r:List (List Int)} {j:Nat} (h:Kept ll r j) (hs:Sorted ll) (hj:j + 1 < ll.length) (he:ll.getD (j + 1) [] ≠ ll.getD j []):Kept ll (r ++ [ll.getD (j + 1) []]) (j + 1) where
 asc:=by
  have hb:Q1z (ll.getD j []) (ll.getD (j + 1) []) = true:=by
   have h1:=List.pairwise_iff_getElem.1 hs j (j + 1) (by omega) hj (by omega)
   have e1:ll.getD j [] = ll[j]:=by simp [show j < ll.length by omega]
   have e2:ll.getD (j + 1) [] = ll[j + 1]:=by simp [hj]
   rw [e1,e2] at he ⊢;rw [<- Q6n]
   rcases Z3y ll[j] ll[j + 1] with k | k | k
   . exact k
   . exact absurd k.symm he
   . exact absurd k h1
  obtain ⟨r0,hr⟩:=h.last;have ha:=h.asc;unfold Asc at ha ⊢;rw [List.pairwise_append];refine ⟨ha,List.pairwise_singleton _ _,?_⟩;intro a ham b hbm;rw [List.mem_singleton] at hbm;subst hbm;rw [hr,List.pairwise_append] at ha;rw [hr,List.mem_append,List.mem_singleton] at ham
  rcases ham with ham | ham
  . exact Q6c (ha.2.2 a ham _ (List.mem_singleton.2 rfl)) hb
  . subst ham; exact hb
 last:=⟨r,rfl⟩
 mem x:=by rw [X4i hj,List.mem_append,h.mem x,List.mem_singleton]
theorem Kept.all {ll r:List (List Int)} {j:Nat} (h:Kept ll r j) (hj:j + 1 = ll.length):Asc r /\ ∀ x,x ∈ r ↔ x ∈ ll :=
 ⟨h.asc,fun x=>by rw [h.mem x,hj,List.take_length]⟩
theorem Kept.take_snoc {ll:List (List Int)} {j:Nat} (hj:j + 1 < ll.length):ll.take (j + 1) ++ [ll.getD (j + 1) []] = ll.take (j + 2):=by
 have e:ll.getD (j + 1) [] = ll[j + 1]:=by simp [hj]
 rw [show j + 2 = (j + 1) + 1 from rfl,List.take_succ_eq_append_getElem hj,e]
theorem Kept.first {ll:List (List Int)} (h:0 < ll.length):Kept ll (ll.take 1) 0:=by
 have e:ll.take 1 = [ll.getD 0 []]:=by rw [List.take_succ_eq_append_getElem h]; simp [h]
 rw [e]; exact Kept.start h
theorem Tryz.J4l (w:World):(zeroValue 157).run Tryz.prog w = .ok (.slice none 0 0) w:=by kernel_rfl
theorem Tryz.J2j (w:World):(sizeOf 157).run Tryz.prog w = .ok 1 w:=by kernel_rfl
theorem Z5b.ext {w w':World} {g:Nat} {cur vs:List Value} {ll:List (List Int)} (h:Z5b w g cur vs ll) (hx:Ext w w'):Z5b w' g cur vs ll:=⟨h.1.ext hx,h.2.1,h.2.2.ext hx⟩
theorem Z5b.at {w:World} {g:Nat} {cur vs:List Value} {ll:List (List Int)} (h:Z5b w g cur vs ll) {k:Nat} (hk:k < ll.length) :
    w.cell? ⟨g,k,none⟩ = some (vs.getD k undef) /\ Q0e w (vs.getD k undef) (ll.getD k []) /\ Q0i w 0 3 (.int .i64) (vs.getD k undef) (ll.getD k []) /\ (ll.getD k []).length <= 8:=by
 obtain ⟨hb,ht,hs⟩:=h;have hl:=hs.1;have h1:=hs.2 k hk;refine ⟨?_,h1.1.ints (by have:=h1.2; omega),h1.1,h1.2⟩
 rw [hb.cell,List.getElem?_toArray];have h2:=congrArg (fun l=>l[k]?) ht;simp only [List.getElem?_take,show k < vs.length by omega,if_true] at h2
 rw [h2];simp [show k < vs.length by omega]
theorem Z5b.reads {w:World} {g cap:Nat} {cur vs:List Value} {ll:List (List Int)} (h:Z5b w g cur vs ll) (hl:ll.length <= 1000) (hc:ll.length <= cap):Q4z w (.slice (some ⟨g,0,none⟩) ll.length cap) ll :=
 ⟨fun k=>vs.getD k undef,⟨_,cap,rfl,by omega,hc,fun j hj=>⟨g,0,rfl,by rw [Nat.zero_add]; exact (h.at (by omega)).1⟩⟩,fun j hj=>by
  have:=(h.at hj).2.1
  simpa [hj] using this⟩
end Go.Proofs
namespace Go.Proofs
open Go.RowKit Go.Tw Go.Flow
attribute [local go_sem] Oper.semAt_some
def Cpt (W wr:World) (g:Nat) (cur vs:List Value) (ll:List (List Int)) (K k2 kw:Nat):Prop :=
 ∃ cur' vr r,Z5b wr g cur' vr r /\ Kept ll r (K + k2 - 1) /\ r.length = kw /\ cur'.length = cur.length /\ (∀ j,K + k2 <= j -> cur'[j]? = cur[j]?) /\ (cur'[K + k2 - 1]? = cur[K + k2 - 1]?) /\ Sets wr vs ll /\ W.grownBy wr (some g)
theorem Q4u {a w w':World} {row:Option Nat} (h:a.grownBy w row) (hx:Ext w w'):a.grownBy w' row :=
 ⟨hx.os.trans h.os,hx.tape.trans h.tape,hx.output.trans h.output,Nat.le_trans h.size hx.size,fun i hi hr=>(hx.block i (Nat.lt_of_lt_of_le hi h.size)).trans (h.block i hi hr)⟩
theorem X0n {a w w':World} {g:Nat} (h:a.grownBy w (some g)) (hb:Below 0 w w') (ho:∀ k,k ≠ g -> w'.heap[k]? = w.heap[k]?):a.grownBy w' (some g) :=
 ⟨hb.os.trans h.os,hb.tape.trans h.tape,hb.output.trans h.output,Nat.le_trans h.size hb.size,fun i hi hr=>(ho i (fun e=>hr (by rw [e]))).trans (h.block i hi hr)⟩
theorem Q6g (w:World) (row:Option Nat):w.grownBy w row:=⟨rfl,rfl,rfl,Nat.le_refl _,fun _ _ _=>rfl⟩
theorem Q8s {a w w':World} {row:Option Nat} (h:a.grownBy w row) (k:w.grownBy w' row):a.grownBy w' row :=
 ⟨k.os.trans h.os,k.tape.trans h.tape,k.output.trans h.output,Nat.le_trans h.size k.size,fun i hi hr=>(k.block i (Nat.lt_of_lt_of_le hi h.size) hr).trans (h.block i hi hr)⟩
theorem X3d {w w':World} {vs:List Value} {ll:List (List Int)} {g:Nat} {cs:Array Value} (h:Sets w vs ll) (hb:Blk w g 157 cs) (ho:∀ k,k ≠ g -> w'.heap[k]? = w.heap[k]?):Sets w' vs ll :=
 h.at fun _ _ hv b hbv _=>ho b fun e=>J1v (by decide) hv hb (by rw [hbv,e])
theorem Cpt.ext {W wr wr':World} {g:Nat} {cur vs:List Value} {ll:List (List Int)} {K k2 kw:Nat} (h:Cpt W wr g cur vs ll K k2 kw) (hx:Ext wr wr'):Cpt W wr' g cur vs ll K k2 kw:=by
 obtain ⟨cur',vr,r,ha,hk,hl,hcl,hj,hj1,hs,hg⟩:=h;exact ⟨cur',vr,r,ha.ext hx,hk,hl,hcl,hj,hj1,hs.ext hx,Q4u hg hx⟩
theorem Cpt.put {W wr w9:World} {g:Nat} {cur cur' vs vr:List Value} {ll r:List (List Int)} {K k2 kw:Nat} (ha:Z5b wr g cur' vr r) (hkp:Kept ll r (K + k2 - 1)) (hrl:r.length = kw) (hcl:cur'.length = cur.length) (hjj:∀ j,K + k2 <= j -> cur'[j]? = cur[j]?) (hss:Sets wr vs ll) (hg:W.grownBy wr (some g))
    (hs:Sorted ll) (hlt:K + k2 < ll.length) (hkw:kw + 1 <= K + k2) (hll:ll.length <= cur.length) (hne:ll.getD (K + k2) [] ≠ ll.getD (K + k2 - 1) []) (hb9:Blk w9 g 157 (cur'.toArray.setIfInBounds kw (vs.getD (K + k2) undef))) (hl:Below 0 wr w9) (ho:∀ k,k ≠ g -> w9.heap[k]? = wr.heap[k]?):Cpt W w9 g cur vs ll K (k2 + 1) (kw + 1):=by
 have e1:K + k2 - 1 + 1 = K + k2:=by omega
 have e2:K + (k2 + 1) - 1 = K + k2:=by omega
 have hvr:vr.length = kw:=by rw [<- hrl]; exact ha.2.2.1
 refine ⟨cur'.set kw (vs.getD (K + k2) undef),vr ++ [vs.getD (K + k2) undef],r ++ [ll.getD (K + k2) []],⟨?_,?_,?_⟩,?_,by rw [List.length_append,hrl]; rfl,by rw [List.length_set,hcl],fun j hj=>?_,?_,X3d hss ha.1 ho,X0n hg hl ho⟩
 . rw [<- List.setIfInBounds_toArray]; exact hb9
 . rw [List.length_append,hvr,List.length_singleton,List.take_succ_eq_append_getElem (by rw [List.length_set,hcl]; omega),List.getElem_set_self]
   congr 1
   rw [List.take_set_of_le (Nat.le_refl _)];have:=ha.2.1
   rwa [hvr] at this
 . exact (X3d ha.2.2 ha.1 ho).snoc ((X3d hss ha.1 ho).2 _ hlt).1 (hss.2 _ hlt).2
 . have h:=hkp.snoc hs (by rw [e1]; exact hlt) (by rw [e1]; exact hne)
   rw [e1] at h;rw [e2]; exact h
 . rw [List.getElem?_set_ne (by omega)]; exact hjj j (by omega)
 . rw [e2,List.getElem?_set_ne (by omega)]; exact hjj _ (Nat.le_refl _)
theorem Z5b.cleared {wr w9:World} {g kw:Nat} {cur' vr new:List Value} {r:List (List Int)} (ha:Z5b wr g cur' vr r) (hk:r.length = kw) (hfit:kw + new.length <= cur'.toArray.size) (hb9:Blk w9 g 157 (Q2n cur'.toArray kw new)) (ho:∀ k,k ≠ g -> w9.heap[k]? = wr.heap[k]?):Z5b w9 g (Q2n cur'.toArray kw new).toList vr r:=by
 have hvr:vr.length = kw:=by rw [<- hk]; exact ha.2.2.1
 refine ⟨by rw [Array.toArray_toList]; exact hb9,?_,X3d ha.2.2 ha.1 ho⟩
 have h:=ha.2.1;rw [hvr] at h ⊢;rw [<- h]
 apply List.ext_getElem?
 intro j;rw [List.getElem?_take,List.getElem?_take]
 by_cases hj:j < kw
 . rw [if_pos hj,if_pos hj,Array.getElem?_toList,Q4i _ _ _ _ hfit,if_neg (by omega),List.getElem?_toArray]
 . rw [if_neg hj,if_neg hj]
theorem Z3e (w:World) (g cap:Nat) (cur vs:List Value) (ll:List (List Int)) (h0:0 < ll.length) (hle:ll.length <= 1000) (hcap:ll.length <= cap) (hcl:ll.length <= cur.length) (hs:Sorted ll) (hr:Z5b w g cur vs ll) :
    Calls Tryz.prog 112 #[.slice (some ⟨g,0,none⟩) ll.length cap,.func (.func 113) #[] #[]] w fun e w'=>∃ r,e = .returned (.slice (some ⟨g,0,none⟩) r.length cap) /\ Q4z w' (.slice (some ⟨g,0,none⟩) r.length cap) r /\ Asc r /\ (∀ x,x ∈ r ↔ x ∈ ll) /\ r.length <= ll.length /\ w.grownBy w' (some g):=by
 have HR:=Lib.hid hr;have HS:=Lib.hid hs;obtain ⟨n,hn⟩:∃ n,ll.length = n:=⟨_,rfl⟩;have HN:=Lib.hid hn;have HG0:Hid (w.grownBy w (some g)):=Lib.hid ⟨rfl,rfl,rfl,Nat.le_refl _,fun _ _ _=>rfl⟩;rw [hn] at h0 hle hcap hcl ⊢;clear hr hs hn
 by_cases h2:n < 2
 . have h2I:(n:Int) < 2:=by omega
   have HK:Hid (Kept ll ll 0):=Lib.hid (by
    have:=Kept.first (ll:=ll) (by rw [HN.out]; exact h0)
    rwa [List.take_of_length_le (by rw [HN.out]; omega)] at this)
   have HE:Hid (n = ll.length):=Lib.hid HN.out.symm;clear h2;go_enter Tryz.func112,Tryz.ntmps112;go_wp2;go_ret;have hh:=HK.out.all (by have:=HN.out; omega)
   refine ⟨ll,by rw [HN.out]; rfl,HR.out.reads (by rw [HN.out]; omega) (by rw [HN.out]; exact hcap),hh.1,hh.2,by rw [HN.out]; exact Nat.le_refl _,HG0.out⟩
 have h2I:¬ (n:Int) < 2:=by omega
 go_enter Tryz.func112,Tryz.ntmps112;go_wp2
 go_loopw [5] (fun i wr=>∃ (K J:Nat),J + 1 = K /\ K <= n /\ i = .int .i64 K /\ Kept ll (ll.take K) J /\ Ext w wr) (fun i _=>n - (intOf i).toNat)
 case atStart=>exact ⟨1,0,rfl,by omega,rfl,Kept.first (by rw [HN.out]; exact h0),Ext.refl _⟩
 case round =>
  obtain ⟨K,J,hJ,hK,rfl,hkept,hx⟩:=hrel;have HKP:=Lib.hid hkept;have HX:=Lib.hid hx;have HRR:=Lib.hid (HR.out.ext hx);clear hkept
  by_cases hlt:K < n
  . have hKI:(K:Int) < n:=by omega
    have hJI:(J:Int) < n:=by omega
    have hw1:IntKind.i64.wrap ((K:Int) - 1) = (J:Int):=by rw [show (K:Int) - 1 = (J:Int) by omega]; exact Q2q _ (by omega) (by omega)
    obtain ⟨cK,iK,-,-⟩:=HRR.out.at (k:=K) (by rw [HN.out]; exact hlt)
    obtain ⟨cJ,iJ,-,-⟩:=HRR.out.at (k:=J) (by rw [HN.out]; omega)
    obtain ⟨lK,hlK⟩:∃ x,ll.getD K [] = x:=⟨_,rfl⟩;obtain ⟨lJ,hlJ⟩:∃ x,ll.getD J [] = x:=⟨_,rfl⟩;rw [hlK] at iK;rw [hlJ] at iJ;obtain ⟨vK,hvK⟩:∃ x,vs.getD K undef = x:=⟨_,rfl⟩;obtain ⟨vJ,hvJ⟩:∃ x,vs.getD J undef = x:=⟨_,rfl⟩;rw [hvK] at cK iK;rw [hvJ] at cJ iJ;have HIK:=Lib.hid iK;have HIJ:=Lib.hid iJ;have HLK:=Lib.hid hlK;have HLJ:=Lib.hid hlJ;obtain ⟨q,hq⟩:∃ q,(Y2m lK lJ == 0) = q:=⟨_,rfl⟩;have HQ:=Lib.hid hq;have hdr:=(Ext.refl wr).drew;clear hlK hlJ hvK hvJ iK iJ hq;go_wp2;refine Flow.Q1q [.p,.p,.p,.p,.w,.p,.p,.p,.p,.w,.w] [0,1,2,3,4,5,6,7,8,9,10] [[],[],[],[1,2],[3],[],[],[6],[5,7],[8],[0,4,9]]
     [.c 0 (.func (.func 113) #[] #[]),.c 1 (.slice (some ⟨g,0,none⟩) n cap),.c 2 (.int .i64 (K:Int)),.c 3 (.pointer (some ⟨g,K,none⟩)),.c 4 (vK),.c 5 (.slice (some ⟨g,0,none⟩) n cap),.c 6 (.int .i64 (K:Int)),.c 7 (.int .i64 (J:Int)),.c 8 (.pointer (some ⟨g,J,none⟩)),.c 9 (vJ),.c 10 (.bool q)]
     (by kernel_rfl) rfl (by kernel_rfl) ⟨?g0,?g1,?g2,?g3,?g4,?g5,?g6,?g7,?g8,?g9,?g10,trivial⟩ ?post
    case g0 | g1 | g2 | g5 | g6=>
     intro v w1 hx;intro bb hbb;subst hbb;refine ⟨_,fun w=>?_,rfl⟩;go_simp
    case g3 | g7 | g8=>
     intro v w1 hx;(repeat intro (zq:v _ = _));intro bb hbb;subst hbb;refine ⟨_,fun w=>?_,rfl⟩;go_simp
    case g4 | g9=>
     intro v w1 hx;(repeat intro (zq:v _ = _));intro bb hbb;subst hbb;have cK:=hx.cell cK;have cJ:=hx.cell cJ;intro K hK;go_simp;exact hK _ _ (Ext.refl _) rfl
    case g10=>
     intro v w1 hx;(repeat intro (zq:v _ = _));intro bb hbb;subst hbb;have cK:=hx.cell cK;have cJ:=hx.cell cJ;intro L hL;go_simp;refine Q0f (X1d w1 _ _ lK lJ (HIK.out.ext (hdr.trans hx)) (HIJ.out.ext (hdr.trans hx))) ?_;rintro e w2 ⟨rfl,o,rfl⟩;rw [HQ.out];exact ⟨_,rfl,hL _ _ (Ext.box _ _) rfl⟩
    case post =>
     intro v w1 hx (q0:v 0 = _) (q1:v 1 = _) (q2:v 2 = _) (q3:v 3 = _) (q4:v 4 = _) (q5:v 5 = _) (q6:v 6 = _) (q7:v 7 = _) (q8:v 8 = _) (q9:v 9 = _) (q10:v 10 = _);simp only [Flow.All,Flow.acts,Act.put];go_simp;have HX1:=Lib.hid (HX.out.trans (hdr.trans hx));have HRR1:=Lib.hid (HRR.out.ext (hdr.trans hx));clear hx hdr cK cJ q0 q1 q2 q3 q4 q5 q6 q7 q8 q9 q10;obtain ⟨V,rfl⟩:∃ X,X = w1:=⟨_,rfl⟩;cases q with
     | false =>
       have HST:Hid (Kept ll (ll.take (K + 1)) K):=Lib.hid (by
        have h:=HKP.out.snoc HS.out (by rw [HN.out]; omega) (by
         rw [hJ,HLK.out,HLJ.out];intro e;have:=HQ.out;rw [(X2m lK lJ).2 e] at this;cases this)
        subst hJ
        rwa [Kept.take_snoc (by rw [HN.out]; omega)] at h)
       go_wp2;go_roundw
       case rel=>exact ⟨K + 1,K,rfl,by omega,by go_num,HST.out,HX1.out⟩
       case measure=>simp [intOf]; omega
     | true =>
       have hsame:ll.getD K [] = ll.getD J []:=by
        rw [HLK.out,HLJ.out];exact (X2m lK lJ).1 (by have:=HQ.out; simpa using this)
       have HST:Hid (Cpt V V g cur vs ll K 1 K):=Lib.hid ⟨cur,vs.take K,ll.take K,⟨HRR1.out.1,by
           have h1:=HRR1.out.2.1;have h2:=HRR1.out.2.2.1;rw [List.length_take,Nat.min_eq_left (by rw [h2,HN.out]; omega),<- h1,List.take_take,Nat.min_eq_left (by rw [h2,HN.out]; omega)],⟨by rw [List.length_take,List.length_take,HRR1.out.2.2.1],fun i hi=>by
           rw [List.length_take,HN.out] at hi;have h:=HRR1.out.2.2.2 i (by rw [HN.out]; omega)
           have e1:(vs.take K).getD i undef = vs.getD i undef:=by simp [show i < K by omega]
           have e2:(ll.take K).getD i [] = ll.getD i []:=by simp [show i < K by omega]
           rw [e1,e2]; exact h⟩⟩,by
           have h:=HKP.out.same (by rw [HN.out]; omega) (by rw [hJ]; exact hsame)
           rw [hJ] at h;rw [show K + 1 - 1 = K by omega]; exact h,by rw [List.length_take,HN.out]; omega,rfl,fun _ _=>rfl,rfl,HRR1.out.2.2,⟨rfl,rfl,rfl,Nat.le_refl _,fun _ _ _=>rfl⟩⟩
       have s1:(K:Int) <= (n:Int):=by omega
       have s2:¬ n < K:=by omega
       have s3:¬ cap = K:=by omega
       have s4:¬ cap < K:=by omega
       have s5:¬ cap < n:=by omega
       clear hsame;have HST2:Hid (∀ kw k2 wr',1 <= k2 -> K + k2 < n -> Cpt V wr' g cur vs ll K k2 kw -> Y2m (ll.getD (K + k2) []) (ll.getD (K + k2 - 1) []) = 0 -> Cpt V wr' g cur vs ll K (k2 + 1) kw):=Lib.hid (by
        rintro kw k2 wr' h1 hlt ⟨cur',vr,r,ha,hk,hl,hcl',hj,hj1,hs,hg⟩ he;refine ⟨cur',vr,r,ha,?_,hl,hcl',fun j h=>hj j (by omega),hj _ (by omega),hs,hg⟩
        have h:=hk.same (by rw [HN.out]; omega) (by rw [show K + k2 - 1 + 1 = K + k2 by omega]; exact (X2m _ _).1 he)
        rw [show K + k2 - 1 + 1 = K + (k2 + 1) - 1 by omega] at h
        exact h)
       go_wp2;obtain ⟨m,hm⟩:∃ m,n - K = m:=⟨_,rfl⟩;obtain ⟨c2,hc2⟩:∃ c2,cap - K = c2:=⟨_,rfl⟩;rw [hm,hc2]
       go_loopw [5,7] (fun kv iv wr=>∃ (kw k2:Nat),1 <= k2 /\ K + k2 <= n /\ kw + 1 <= K + k2 /\ kv = .int .i64 kw /\ iv = .int .i64 k2 /\ Cpt V wr g cur vs ll K k2 kw) (fun _ i _=>m - (intOf i).toNat)
       case atStart=>exact ⟨K,1,Nat.le_refl _,by omega,by omega,rfl,rfl,HST.out⟩
       case round =>
        obtain ⟨kw,k2,h1,hkn,hkw,rfl,rfl,hcpt⟩:=hrel;have HC:=Lib.hid hcpt;clear hcpt
        by_cases hlt2:k2 < m
        . have hlt2I:(k2:Int) < m:=by omega
          obtain ⟨j2,hj2⟩:∃ j2,j2 + 1 = k2:=⟨k2 - 1,by omega⟩
          have hw2:IntKind.i64.wrap ((k2:Int) - 1) = (j2:Int):=by rw [show (k2:Int) - 1 = (j2:Int) by omega]; exact Q2q _ (by omega) (by omega)
          have hj2I:(j2:Int) < m:=by omega
          obtain ⟨cur',vr,r,ha,hkp,hrl,hcl',hjj,hj1,hss,hg⟩:=HC.out;have hat:=HRR1.out;have cA:wr.cell? ⟨g,K + k2,none⟩ = some (vs.getD (K + k2) undef):=by
           have h:=(hat.at (k:=K + k2) (by rw [HN.out]; omega)).1
           rw [hat.1.cell,List.getElem?_toArray] at h;rw [ha.1.cell,List.getElem?_toArray,hjj _ (Nat.le_refl _)]; exact h
          have cB:wr.cell? ⟨g,K + j2,none⟩ = some (vs.getD (K + j2) undef):=by
           have h:=(hat.at (k:=K + j2) (by rw [HN.out]; omega)).1
           rw [hat.1.cell,List.getElem?_toArray] at h;rw [show K + k2 - 1 = K + j2 by omega] at hj1
           rw [ha.1.cell,List.getElem?_toArray,hj1]; exact h
          have iA:=(hss.2 (K + k2) (by rw [HN.out]; omega)).1.ints (by have:=(hss.2 (K + k2) (by rw [HN.out]; omega)).2; omega)
          have iB:=(hss.2 (K + j2) (by rw [HN.out]; omega)).1.ints (by have:=(hss.2 (K + j2) (by rw [HN.out]; omega)).2; omega)
          have hOA:=hss.2 (K + k2) (by rw [HN.out]; omega)
          have hE2:=HST2.out kw k2 wr h1 (by omega) HC.out
          rw [show K + k2 - 1 = K + j2 by omega] at hE2
          obtain ⟨lA,hlA⟩:∃ x,ll.getD (K + k2) [] = x:=⟨_,rfl⟩;obtain ⟨lB,hlB⟩:∃ x,ll.getD (K + j2) [] = x:=⟨_,rfl⟩;obtain ⟨vA,hvA⟩:∃ x,vs.getD (K + k2) undef = x:=⟨_,rfl⟩;obtain ⟨vB,hvB⟩:∃ x,vs.getD (K + j2) undef = x:=⟨_,rfl⟩;rw [hlA,hvA] at iA hOA;rw [hlB,hvB] at iB;rw [hvA] at cA;rw [hvB] at cB;rw [hlA,hlB] at hE2;have HIA:=Lib.hid iA;have HIB:=Lib.hid iB;have HLA:=Lib.hid hlA;have HLB:=Lib.hid hlB;have HVA:=Lib.hid hvA;have HOA:=Lib.hid hOA;have HHA:=Lib.hid ha;have HKK:=Lib.hid hkp;have HRL:=Lib.hid hrl;have HCL:=Lib.hid hcl';have HJJ:=Lib.hid hjj;have HSS:=Lib.hid hss;have HG:=Lib.hid hg;have HE2:=Lib.hid hE2;obtain ⟨q,hq⟩:∃ q,(Y2m lA lB == 0) = q:=⟨_,rfl⟩;have HQ:=Lib.hid hq;have hdr:=(Ext.refl wr).drew;clear hlA hlB hvA hvB iA iB hq hat hOA ha hkp hrl hcl' hjj hj1 hss hg hE2 HC
          go_light
          go_wp2;refine Flow.Q1q [.p,.p,.p,.p,.w,.p,.p,.p,.p,.w,.w,.p] [0,1,2,3,4,5,6,7,8,9,10,11] [[],[],[],[1,2],[3],[],[],[6],[5,7],[8],[0,4,9],[10]]
           [.c 0 (.func (.func 113) #[] #[]),.c 1 (.slice (some ⟨g,K,none⟩) m c2),.c 2 (.int .i64 (k2:Int)),.c 3 (.pointer (some ⟨g,K + k2,none⟩)),.c 4 (vA),.c 5 (.slice (some ⟨g,K,none⟩) m c2),.c 6 (.int .i64 (k2:Int)),.c 7 (.int .i64 (j2:Int)),.c 8 (.pointer (some ⟨g,K + j2,none⟩)),.c 9 (vB),.c 10 (.bool q),.c 11 (.bool (!q))]
           (by kernel_rfl) rfl (by kernel_rfl) ⟨?g0,?g1,?g2,?g3,?g4,?g5,?g6,?g7,?g8,?g9,?g10,?g11,trivial⟩ ?post
          case g0 | g1 | g2 | g5 | g6=>
           intro v w1 hx;intro bb hbb;subst hbb;refine ⟨_,fun w=>?_,rfl⟩;go_simp
          case g3 | g7 | g8 | g11=>
           intro v w1 hx;(repeat intro (zq:v _ = _));intro bb hbb;subst hbb;refine ⟨_,fun w=>?_,rfl⟩;go_simp
          case g4 | g9=>
           intro v w1 hx;(repeat intro (zq:v _ = _));intro bb hbb;subst hbb;have cA:=hx.cell cA;have cB:=hx.cell cB;intro K hK;go_simp;exact hK _ _ (Ext.refl _) rfl
          case g10=>
           intro v w1 hx;(repeat intro (zq:v _ = _));intro bb hbb;subst hbb;have cA:=hx.cell cA;have cB:=hx.cell cB;intro L hL;go_simp;refine Q0f (X1d w1 _ _ lA lB (HIA.out.ext (hdr.trans hx)) (HIB.out.ext (hdr.trans hx))) ?_;rintro e w2 ⟨rfl,o,rfl⟩;rw [HQ.out];exact ⟨_,rfl,hL _ _ (Ext.box _ _) rfl⟩
          case post =>
           intro v w1 hx;(iterate 12 intro (zq:v _ = _));simp only [Flow.All,Flow.acts,Act.put];go_simp;have HXV:=Lib.hid (hdr.trans hx);have HHA1:=Lib.hid (HHA.out.ext HXV.out);have HSS1:=Lib.hid (HSS.out.ext HXV.out);have HG1:=Lib.hid (Q4u HG.out HXV.out);replace cA:=HXV.out.cell (show wr.cell? ⟨g,K + k2,none⟩ = some vA from cA)
           clear hx hdr cB;(repeat clear zq);obtain ⟨Y,rfl⟩:∃ X,X = w1:=⟨_,rfl⟩;cases q with
           | true =>
             have HE3:=Lib.hid ((HE2.out (by have:=HQ.out; simpa using this)).ext HXV.out)
             clear cA;go_wp2;go_roundw
             case rel=>exact ⟨kw,k2 + 1,by omega,by omega,by omega,rfl,by go_num,HE3.out⟩
             case measure=>simp [intOf]; omega
           | false =>
             have hkwI:(kw:Int) < n:=by omega
             have hone:=(HOA.out.1.ints (by have:=HOA.out.2; omega)).one
             have hcel:=(HOA.out.1.ints (by have:=HOA.out.2; omega)).cells
             have HONE:Hid (vA.oneCell' = true):=Lib.hid hone;have HCEL:=Lib.hid hcel;have HKC:Hid (kw < cur'.toArray.size):=Lib.hid (by rw [List.size_toArray,HCL.out]; omega)
             have HNE:Hid (ll.getD (K + k2) [] ≠ ll.getD (K + k2 - 1) []):=Lib.hid (by
              rw [show K + k2 - 1 = K + j2 by omega,HLA.out,HLB.out]
              intro e;have:=HQ.out;rw [(X2m lA lB).2 e] at this;cases this)
             clear hone hcel;go_wp2_with (refine X5d rfl _ _ 157 rfl Tryz.J2j rfl rfl HCEL.out HONE.out HHA1.out.1 HKC.out ?_; intro w9 hb9 hl9 ho9);go_roundw
             case rel=>exact ⟨kw + 1,k2 + 1,by omega,by omega,by omega,by go_num,by go_num,Cpt.put HHA1.out HKK.out HRL.out HCL.out HJJ.out HSS1.out HG1.out HS.out (by rw [HN.out]; omega) hkw (by rw [HN.out]; exact hcl) HNE.out (by rw [HVA.out]; exact hb9) (hl9 0 (Nat.zero_le _)) ho9⟩
             case measure=>simp [intOf]; omega
        . have hmk:¬ (k2:Int) < m:=by omega
          obtain ⟨cur',vr,r,ha,hkp,hrl,hcl',hjj,hj1,hss,hg⟩:=HC.out;have t1:(kw:Int) <= (n:Int):=by omega
          have t2:¬ n < kw:=by omega
          have t3:¬ cap = kw:=by omega
          have t4:¬ cap < kw:=by omega
          have t5:¬ cap < n:=by omega
          have HHA:=Lib.hid ha;have HG:=Lib.hid hg;have HRL:=Lib.hid hrl;have HALL:=Lib.hid (hkp.all (by rw [HN.out]; omega))
          have HFIT:Hid (kw + (Builtin.zeroCells (Value.slice none 0 0).cells (n - kw)).size <= cur'.toArray.size):=Lib.hid (by
           rw [<- Array.length_toList,Q9p,List.length_replicate,List.size_toArray,hcl']; omega)
          have HZ1:Hid (∀ v ∈ (Builtin.zeroCells (Value.slice none 0 0).cells (n - kw)).toList,v.oneCell' = true):=Lib.hid (by
           rw [Q9p]; intro v hv; rw [List.eq_of_mem_replicate hv]; rfl)
          clear ha hkp hrl hcl' hjj hj1 hss hg HC;go_wp2_with (refine X1i rfl _ 158 157 rfl Tryz.underlying158 (show 0 < n - kw by omega) rfl HHA.out.1 _ Tryz.J4l HZ1.out HFIT.out ?_; intro w9 hb9 hl9 ho9)
          go_ret;have hh:=HHA.out.cleared HRL.out (by rw [Array.length_toList]; exact HFIT.out) hb9 ho9
          refine ⟨r,by rw [HRL.out]; rfl,hh.reads (by rw [HRL.out]; omega) (by rw [HRL.out]; omega),HALL.out.1,HALL.out.2,by rw [HRL.out]; omega,?_⟩
          exact X0n (Q8s (Q4u (Q6g w (some g)) HX1.out) HG.out) (hl9 0 (Nat.zero_le _)) ho9
  . have HKF:Hid (Kept ll ll J):=Lib.hid (by
     have:=HKP.out
     rwa [List.take_of_length_le (by rw [HN.out]; omega)] at this)
    go_wp2;go_ret;have hh:=HKF.out.all (by have:=HN.out; omega)
    exact ⟨ll,by rw [HN.out]; rfl,HRR.out.reads (by rw [HN.out]; omega) (by rw [HN.out]; exact hcap),hh.1,hh.2,by rw [HN.out]; exact Nat.le_refl _,Q4u HG0.out HX.out⟩
end Go.Proofs
namespace Go.Tw
open Go.RowKit Go.Flow
theorem Z0v:∀ (l:List PV) (k:Nat),(l.flatMap Q2o).take (k * 4) = (l.take k).flatMap Q2o
 | [],k=>by simp
 | q :: l,0=>by simp
 | q :: l,k + 1=>by
   rw [List.flatMap_cons,List.take_succ_cons,List.flatMap_cons,<- Z0v l k,List.take_append,Q3s];rw [List.take_of_length_le (by rw [Q3s]; omega),show (k + 1) * 4 - 4 = k * 4 by omega]
theorem J1k (n:Nat):∀ v ∈ (Builtin.zeroCells (Value.agg #[.int .i64 0,.int .i64 0,.int .i64 0,.slice none 0 0]).cells n).toList,v.oneCell' = true:=by
 intro v hv;unfold Builtin.zeroCells at hv;rw [Array.toList_map,List.mem_map] at hv;obtain ⟨i,_,rfl⟩:=hv;have h4:i % 4 = 0 ∨ i % 4 = 1 ∨ i % 4 = 2 ∨ i % 4 = 3:=by omega
 show ((#[Value.int .i64 0,.int .i64 0,.int .i64 0,.slice none 0 0]:Array Value)[i % 4]!).oneCell' = true
 rcases h4 with h | h | h | h <;> rw [h] <;> rfl
theorem Z6o (n:Nat):(Builtin.zeroCells (Value.agg #[.int .i64 0,.int .i64 0,.int .i64 0,.slice none 0 0]).cells n).size = n * 4:=by
 unfold Builtin.zeroCells;simp [Value.cells]
end Go.Tw
namespace Go.Proofs
open Go.RowKit Go.Tw Go.Flow
attribute [local go_sem] Oper.semAt_some
theorem Y1d.ext {g:Nat} {pre post:Array Value} {w w':World} {t:Plan -> Bool} (h:Y1d g pre post w t) (hx:Ext w w'):Y1d g pre post w' t:=fun W y A n c hW=>h W y A n c (hx.trans hW)
theorem Y2d (w:World) (B:Nat) (v:Value) (ps:List PV) (g:Nat) (pre post:Array Value) (t:Plan -> Bool) (hv:Q0u w B 151 4 Q2o v ps) (hc:Q0o w ps) (hl:ps.length <= 100000)
    (eg:∀ args w,(callFunc g args).run Tryz.prog w = .ok (.enter g args) w) (ht:Y1d g pre post w t) :
    Calls Tryz.prog 210 #[v,.func (.func g) pre post] w fun e w'=>e = .returned (.bool (ps.any fun q=>t q.1)) /\ Ext w w':=by
 have HI:=Lib.hid (X8v w B v ps g pre post t hv hc hl eg ht);obtain ⟨A,cv,rfl⟩:∃ A cv,v = .slice A ps.length cv:=by
  obtain ⟨A,c,h,_⟩:=hv.shape;exact ⟨A,c,h⟩
 obtain ⟨L,hL⟩:∃ L,ps.length = L:=⟨_,rfl⟩;rw [hL] at HI ⊢;clear hv hc ht hL;go_enter Tryz.func210,Tryz.ntmps210;go_wp2_with (go_at_call 225; refine HI.out.mono ?_; rintro e w' ⟨r,rfl,hr,hx⟩; have HR:=Lib.hid hr; clear hr);go_ret;refine ⟨Q0z ?_,hx⟩
 rcases HR.out with ⟨rfl,h⟩ | ⟨k,rfl,q,hq,htq,_⟩
 . rw [List.any_eq_false.2 (fun q hq=>by rw [h q hq]; simp)]; rfl
 . rw [List.any_eq_true.2 ⟨q,List.mem_of_getElem? hq,htq⟩]
   simp
theorem J9u (w:World) (x:Plan) (A:Option Addr) (n c Bx:Nat) (hb:Blk w Bx 151 #[.int .i64 x.weight,.int .i64 x.closings,.int .i64 x.delay,.slice A n c]) :
    Y1d 211 #[] #[.pointer (some ⟨Bx,0,none⟩)] w (fun o=>o.Q4f x):=by
 intro W y A' n' c' hW;have HB:=Lib.hid (hb.ext hW);have HBE:=Lib.hid (fun W=>Y2p W y x A' A n' n c' c);obtain ⟨x1,x2,x3,x4⟩:=x;obtain ⟨y1,y2,y3,y4⟩:=y;unfold Z7s at HBE ⊢;dsimp only at HBE HB ⊢;obtain ⟨q,hq⟩:∃ q,(⟨y1,y2,y3,y4⟩:Plan).Q4f ⟨x1,x2,x3,x4⟩ = q:=⟨_,rfl⟩;rw [hq] at HBE ⊢;have hx:=Ext.box W (.cells #[.int .i64 y1,.int .i64 y2,.int .i64 y3,.slice A' n' c'] 151);have k0:=Blk.made W 151 #[.int .i64 y1,.int .i64 y2,.int .i64 y3,.slice A' n' c'];have hb2:=HB.out.ext hx;have c0:=(k0).cell 0;have c1:=(k0).cell 1;have c2:=(k0).cell 2;have c3:=(k0).cell 3;simp only [Go.Tw.gA,Go.Tw.gB,Go.Tw.gC] at c0 c1 c2 c3;have d0:=(hb2).cell 0;have d1:=(hb2).cell 1;have d2:=(hb2).cell 2;have d3:=(hb2).cell 3;simp only [Go.Tw.gA,Go.Tw.gB,Go.Tw.gC] at d0 d1 d2 d3;clear hb hW hq k0 hb2;show Calls Tryz.prog 211 #[.agg #[.int .i64 y1,.int .i64 y2,.int .i64 y3,.slice A' n' c'],.pointer (some ⟨Bx,0,none⟩)] W _;go_enter Tryz.func211,Tryz.ntmps211;go_wp2_with (go_at_call 212; refine (HBE.out _).mono ?_; rintro e w9 ⟨rfl,hx9⟩);go_ret;exact ⟨rfl,hx.trans hx9⟩
theorem J9z (w:World) (x:Plan) (A:Option Addr) (n c:Nat):Y1d 212 #[Z7s x (.slice A n c)] #[] w (fun o=>x.Q4f o):=fun W y A' n' c' _=>Y2p W x y A A' n n' c c'
structure Z6k (W wr:World) (g:Nat) (cur cur':Array Value) (ps:List PV) (t:Plan -> Bool) (J i:Nat):Prop where
 blk:Blk wr g 151 cur'
 size:cur'.size = cur.size
 len:((ps.take J).filter fun q=>!t q.1).length = i
 head:cur'.toList.take (i * 4) = ((ps.take J).filter fun q=>!t q.1).flatMap Q2o
 rest:∀ k,J * 4 <= k -> cur'[k]? = cur[k]?
 grown:W.grownBy wr (some g)
 closed:Q0o wr ps
theorem Q0o.off {w w':World} {ps:List PV} {g:Nat} {cs:Array Value} (h:Q0o w ps) (hb:Blk w g 151 cs) (ho:∀ k,k < w.heap.size -> k ≠ g -> w'.heap[k]? = w.heap[k]?):Q0o w' ps:=fun q hq=>by
 obtain ⟨h1,h2⟩:=h q hq;refine ⟨h1,?_⟩
 rcases h2 with h2 | ⟨g',cap,cur,hv,hbg,hgl,r⟩
 . exact .inl h2
 . refine .inr ⟨g',cap,cur,hv,hbg,(ho g' (Array.getElem?_eq_some_iff.1 hgl).1 fun e=>?_).trans hgl,r⟩
   subst e;unfold Blk at hb;rw [hb] at hgl;injection hgl with h;injection h with _ h;exact absurd h (by decide)
theorem Z6k.ext {W wr wr':World} {g:Nat} {cur cur':Array Value} {ps:List PV} {t:Plan -> Bool} {J i:Nat} (h:Z6k W wr g cur cur' ps t J i) (hx:Ext wr wr'):Z6k W wr' g cur cur' ps t J i :=
 ⟨h.blk.ext hx,h.size,h.len,h.head,h.rest,Q4u h.grown hx,h.closed.ext hx⟩
theorem Z6k.skip {W wr:World} {g:Nat} {cur cur':Array Value} {ps:List PV} {t:Plan -> Bool} {J i:Nat} (h:Z6k W wr g cur cur' ps t J i) {q:PV} (hq:ps[J]? = some q) (ht:t q.1 = true):Z6k W wr g cur cur' ps t (J + 1) i:=by
 obtain ⟨hJ,rfl⟩:=List.getElem?_eq_some_iff.1 hq;have e:(ps.take (J + 1)).filter (fun q=>!t q.1) = (ps.take J).filter fun q=>!t q.1:=by
  rw [List.take_succ_eq_append_getElem hJ,List.filter_append]; simp [ht]
 exact ⟨h.blk,h.size,by rw [e]; exact h.len,by rw [e]; exact h.head,fun k hk=>h.rest k (by omega),h.grown,h.closed⟩
theorem Z6k.put {W wr w9:World} {g cap:Nat} {cur cur':Array Value} {ps:List PV} {t:Plan -> Bool} {J i:Nat} (h:Z6k W wr g cur cur' ps t J i) {q:PV} (hq:ps[J]? = some q) (ht:t q.1 = false) (hi:i <= J) (hsz:cur.size = cap * 4) (hc:ps.length <= cap)
    (hb:Blk w9 g 151 (Q2n cur' (i * 4) (Q2o q))) (hl:Below 0 wr w9) (ho:∀ k,k ≠ g -> w9.heap[k]? = wr.heap[k]?):Z6k W w9 g cur (Q2n cur' (i * 4) (Q2o q)) ps t (J + 1) (i + 1):=by
 obtain ⟨hJ,rfl⟩:=List.getElem?_eq_some_iff.1 hq;have e:(ps.take (J + 1)).filter (fun q=>!t q.1) = ((ps.take J).filter fun q=>!t q.1) ++ [ps[J]]:=by
  rw [List.take_succ_eq_append_getElem hJ,List.filter_append]; simp [ht]
 have hfit:i * 4 + (Q2o ps[J]).length <= cur'.size:=by rw [h.size,hsz,Q3s]; omega
 refine ⟨hb,by rw [X3u,h.size],by rw [e,List.length_append,h.len]; rfl,?_,fun k hk=>?_,X0n h.grown hl ho,h.closed.off h.blk fun k _ hk=>ho k hk⟩
 . rw [e,List.flatMap_append,<- h.head,List.flatMap_singleton]
   apply List.ext_getElem?
   intro k;rw [List.getElem?_take,Array.getElem?_toList,Q4i _ _ _ _ hfit,Q3s];have hl0:(cur'.toList.take (i * 4)).length = i * 4:=by rw [List.length_take,Array.length_toList,h.size,hsz]; omega
   by_cases h1:k < i * 4
   . rw [if_pos (by omega),if_neg (by omega),List.getElem?_append_left (by rw [hl0]; exact h1),List.getElem?_take,if_pos h1,Array.getElem?_toList]
   . rw [List.getElem?_append_right (by rw [hl0]; omega),hl0]
     by_cases h2:k < (i + 1) * 4
     . rw [if_pos h2,if_pos (by omega)]
     . rw [if_neg h2]
       exact (List.getElem?_eq_none (by rw [Q3s]; omega)).symm
 . rw [Q4i _ _ _ _ hfit,Q3s,if_neg (by omega)]
   exact h.rest k (by omega)
theorem Z6k.start {W wr:World} {g:Nat} {cur:Array Value} {ps:List PV} {t:Plan -> Bool} {k:Nat} {q:PV} (hb:Blk W g 151 cur) (hx:Ext W wr) (ht:cur.toList.take (ps.length * 4) = ps.flatMap Q2o) (hc:Q0o W ps) (hq:ps[k]? = some q) (htq:t q.1 = true)
    (hno:∀ j q',j < k -> ps[j]? = some q' -> t q'.1 = false):Z6k W wr g cur cur ps t (k + 1) k:=by
 obtain ⟨hk,rfl⟩:=List.getElem?_eq_some_iff.1 hq;have e:(ps.take (k + 1)).filter (fun q=>!t q.1) = ps.take k:=by
  rw [List.take_succ_eq_append_getElem hk,List.filter_append,List.filter_eq_self.2]
  . simp [htq]
  . intro z hz
    obtain ⟨j,hj,rfl⟩:=List.getElem_of_mem hz;rw [List.length_take] at hj;rw [List.getElem_take,hno j ps[j] (by omega) (List.getElem?_eq_getElem (by omega))]; rfl
 refine ⟨hb.ext hx,rfl,by rw [e,List.length_take]; omega,?_,fun _ _=>rfl,Q4u (Q6g W _) hx,hc.ext hx⟩
 rw [e,<- Z0v,<- ht,List.take_take,Nat.min_eq_left (by omega)]
theorem Tryz.J8m (w:World):(zeroValue 151).run Tryz.prog w = .ok (.agg #[.int .i64 0,.int .i64 0,.int .i64 0,.slice none 0 0]) w:=by kernel_rfl
theorem filter_none {ps:List PV} {t:Plan -> Bool} (h:∀ q ∈ ps,t q.1 = false):(ps.filter fun q=>!t q.1) = ps:=List.filter_eq_self.2 fun q hq=>by rw [h q hq]; rfl
def J9c (v v':Value) (k:Nat):Prop:=∀ A n c,v = .slice A n c -> v' = .slice A k c
theorem Z0t (w:World) (B:Nat) (v:Value) (ps:List PV) (fg:Nat) (pre post:Array Value) (t:Plan -> Bool) (hv:Q0u w B 151 4 Q2o v ps) (hc:Q0o w ps) (hl:ps.length <= 100000)
    (eg:∀ args w,(callFunc fg args).run Tryz.prog w = .ok (.enter fg args) w) (ht:∀ W,Y1d fg pre post W t) :
    Calls Tryz.prog 213 #[v,.func (.func fg) pre post] w fun e w'=>∃ v',e = .returned v' /\ Q0u w' B 151 4 Q2o v' (ps.filter fun q=>!t q.1) /\ Q0o w' (ps.filter fun q=>!t q.1) /\ w.grownBy w' v.ownBlock /\ J9c v v' (ps.filter fun q=>!t q.1).length:=by
 have HI:=Lib.hid (X8v w B v ps fg pre post t hv hc hl eg (ht w));have HT:=Lib.hid ht;have HC:=Lib.hid hc
 rcases OwnP.cases hv with ⟨rfl,rfl⟩ | ⟨g,cap,cur,rfl,hbg,hb,hcap,hmax,hsz,htk⟩
 . have HV:=Lib.hid hv
   clear hv hc ht;go_enter Tryz.func213,Tryz.ntmps213;go_wp2_with (go_at_call 225; refine HI.out.mono ?_; rintro e w5 ⟨r,rfl,hr,hx5⟩; have HX5:=Lib.hid hx5; refine halted ?_);have hr1:r = -1:=by
    rcases hr with ⟨h,_⟩ | ⟨k,_,q,hq,_⟩
    . exact h
    . simp at hq
   subst hr1;clear hr hx5;unfold Q1x;go_wp2;go_ret;exact ⟨_,rfl,HV.out.below HX5.out,Q0o.nil _,Q4u (Q6g w _) HX5.out,fun A n c h=>by cases h; rfl⟩
 . have HV:=Lib.hid hv
   have HB:=Lib.hid hb;have HTK:=Lib.hid htk;have HSZ:=Lib.hid hsz;have HMX:=Lib.hid hmax;have HBG:=Lib.hid hbg;obtain ⟨L,hL⟩:∃ L,ps.length = L:=⟨_,rfl⟩;have HL:=Lib.hid hL;rw [hL] at HI hcap hl ⊢;clear hv hb htk hsz hmax hbg hc ht hL;go_enter Tryz.func213,Tryz.ntmps213;go_wp2_with (go_at_call 225; refine HI.out.mono ?_; rintro e w5 ⟨r,rfl,hr,hx5⟩; have HX5:=Lib.hid hx5; refine halted ?_);have HR:=Lib.hid hr;clear hr hx5;unfold Q1x
   by_cases hr1:r = -1
   . subst hr1
     have HN:Hid ((ps.filter fun q=>!t q.1) = ps):=Lib.hid (by
      rcases HR.out with ⟨_,h⟩ | ⟨k,h,_⟩
      . exact filter_none h
      . omega)
     go_wp2;go_ret;exact ⟨_,rfl,by rw [HN.out,<- HL.out]; exact HV.out.below HX5.out,by rw [HN.out]; exact HC.out.ext HX5.out,Q4u (Q6g w _) HX5.out,fun A n c h=>by cases h; rw [HN.out,HL.out]; rfl⟩
   . obtain ⟨k0,rfl,q0,hq0,htq,hno⟩:∃ k:Nat,r = (k:Int) /\ ∃ q,ps[k]? = some q /\ t q.1 = true /\ ∀ j q',j < k -> ps[j]? = some q' -> t q'.1 = false:=by
      rcases HR.out with ⟨h,_⟩ | h
      . exact absurd h hr1
      . exact h
     have hk0:k0 < L:=by rw [<- HL.out]; exact (List.getElem?_eq_some_iff.1 hq0).1
     have HST:=Lib.hid (Z6k.start HB.out HX5.out HTK.out HC.out hq0 htq hno);have hk1:((k0:Int) == -1) = false:=by rw [beq_eq_false_iff_ne]; omega
     have hwk:IntKind.i64.wrap ((k0:Int) + 1) = (k0:Int) + 1:=Q2q _ (by omega) (by omega)
     clear hr1 hq0 htq hno;go_wp2
     go_loopw [5,6] (fun iv jv wr=>∃ (i J:Nat) (cur':Array Value),i < J /\ J <= L /\ iv = .int .i64 i /\ jv = .int .i64 J /\ Z6k w wr g cur cur' ps t J i) (fun _ jv _=>L - (intOf jv).toNat)
     case atStart=>exact ⟨k0,k0 + 1,cur,by omega,by omega,rfl,by go_num,HST.out⟩
     case round =>
      obtain ⟨i,J,cur',hiJ,hJL,rfl,rfl,hdel⟩:=hrel;have HD:=Lib.hid hdel;clear hdel
      by_cases hlt:J < L
      . have hJI:(J:Int) < L:=by omega
        have hiI:(i:Int) < L:=by omega
        have hJp:J < ps.length:=by rw [HL.out]; exact hlt
        have HPJ:Hid (ps[J]? = some ps[J]):=Lib.hid (List.getElem?_eq_getElem hJp);have hcell:∀ m,m < 4 -> wr.cell? ⟨g,J * 4 + m,none⟩ = (Q2o ps[J])[m]?:=fun m hm=>by
         rw [HD.out.blk.cell,HD.out.rest _ (by omega),<- HB.out.cell]
         exact X4h HB.out HTK.out hJp hm
        have e0:=hcell 0 (by omega)
        have e1:=hcell 1 (by omega)
        have e2:=hcell 2 (by omega)
        have e3:=hcell 3 (by omega)
        obtain ⟨A4,n4,c4,hsl⟩:=HD.out.closed.shape (List.getElem_mem hJp);have HONE:=Lib.hid (Z3u HD.out.closed (List.getElem_mem hJp));have HTJ:=Lib.hid (fun W=>HT.out W W ps[J].1 A4 n4 c4 (Ext.refl _));obtain ⟨q,hq⟩:∃ q,t ps[J].1 = q:=⟨_,rfl⟩;have HQ:=Lib.hid hq;rw [hq] at HTJ;obtain ⟨qk,hqk⟩:∃ z,ps[J] = z:=⟨_,rfl⟩;rw [hqk] at e0 e1 e2 e3 hsl HTJ HQ HPJ HONE;obtain ⟨⟨x1,x2,x3,x4⟩,xv⟩:=qk;replace hsl:xv = .slice A4 n4 c4:=hsl;subst hsl;unfold Z7s at HTJ;dsimp only at HTJ;simp only [Q2o,List.getElem?_cons_zero,List.getElem?_cons_succ] at e0 e1 e2 e3;rw [Nat.add_zero] at e0;have hbox:=Ext.box wr (.cells #[.int .i64 x1,.int .i64 x2,.int .i64 x3,.slice A4 n4 c4] 151);have K3:=Blk.made wr 151 #[.int .i64 x1,.int .i64 x2,.int .i64 x3,.slice A4 n4 c4];have HXB:=Lib.hid hbox;have HK3:=Lib.hid K3;have d0:=(K3).cell 0;have d1:=(K3).cell 1;have d2:=(K3).cell 2;have d3:=(K3).cell 3;simp only [Go.Tw.gA,Go.Tw.gB,Go.Tw.gC] at d0 d1 d2 d3;clear hcell hq hqk hbox K3 hJp
        go_light
        go_wp2_with (refine (HTJ.out _).mono ?_; rintro e w9 ⟨rfl,hx9⟩; refine halted ?_);have HX9:=Lib.hid (HXB.out.trans hx9);have hk9:=HK3.out.ext hx9;have HD9:=Lib.hid (HD.out.ext HX9.out);have f0:=(hk9).cell 0;have f1:=(hk9).cell 1;have f2:=(hk9).cell 2;have f3:=(hk9).cell 3;simp only [Go.Tw.gA,Go.Tw.gB,Go.Tw.gC] at f0 f1 f2 f3;clear hx9 hk9 d0 d1 d2 d3 e0 e1 e2 e3;unfold Q1x;cases q with
        | true =>
          have HD2:=Lib.hid (HD9.out.skip HPJ.out HQ.out);go_wp2;go_roundw
          case rel=>exact ⟨i,J + 1,cur',by omega,by omega,rfl,by go_num,HD2.out⟩
          case measure=>simp [intOf]; omega
        | false =>
          have HFIT:Hid (i * 4 + 4 <= cur'.size):=Lib.hid (by rw [HD9.out.size,HSZ.out]; omega)
          go_wp2_with (refine Q1g rfl ?_; refine X7b _ _ 151 rfl Tryz.X9r (g:=g) (off:=i * 4) (by go_simp) (vs:=#[.int .i64 x1,.int .i64 x2,.int .i64 x3,.slice A4 n4 c4]) (by go_simp) HD9.out.blk HFIT.out rfl HONE.out ?_; intro vv w8 hb8 hl8 ho8; refine halted ?_)
          have HD2:=Lib.hid (HD9.out.put HPJ.out HQ.out (by omega) HSZ.out (by rw [HL.out]; exact hcap) hb8 (hl8 0 (Nat.zero_le _)) ho8)
          clear hb8 hl8 ho8 f0 f1 f2 f3;unfold Q1x;go_wp2;go_roundw
          case rel=>exact ⟨i + 1,J + 1,_,by omega,by omega,by go_num,by go_num,HD2.out⟩
          case measure=>simp [intOf]; omega
      . have hJe:J = L:=by omega
        subst hJe;have t1:(i:Int) <= (J:Int):=by omega
        have t2:¬ J < i:=by omega
        have t3:¬ cap = i:=by omega
        have t4:¬ cap < i:=by omega
        have t5:¬ cap < J:=by omega
        have HFIT:Hid (i * 4 + (Builtin.zeroCells (Value.agg #[.int .i64 0,.int .i64 0,.int .i64 0,.slice none 0 0]).cells (J - i)).size <= cur'.size):=Lib.hid (by
         rw [Z6o,HD.out.size,HSZ.out]; omega)
        go_wp2_with (refine X1i rfl _ 152 151 rfl Tryz.underlying152 (show 0 < J - i by omega) rfl HD.out.blk _ Tryz.J8m (J1k _) HFIT.out ?_; intro w9 hb9 hl9 ho9; refine halted ?_)
        have HB9:=Lib.hid hb9;have HG9:=Lib.hid (X0n HD.out.grown (hl9 0 (Nat.zero_le _)) ho9);have HC9:=Lib.hid (HD.out.closed.off HD.out.blk fun k _ hk=>ho9 k hk);clear hb9 hl9 ho9;unfold Q1x;go_wp2;go_ret;have hlen:=HD.out.len;have hhead:=HD.out.head;rw [show ps.take J = ps from List.take_of_length_le (by rw [HL.out]; exact Nat.le_refl _)] at hlen hhead
        refine ⟨_,rfl,⟨?_,.inr ⟨g,cap,_,by rw [hlen]; rfl,HBG.out,HB9.out,by rw [hlen]; omega,HMX.out,by rw [X3u,HD.out.size,HSZ.out],?_⟩⟩,HC9.out.sub fun q hq=>(List.mem_filter.1 hq).1,HG9.out,fun A n c h=>by cases h; rw [hlen]; rfl⟩
        . exact X2u Q3s _
        . rw [hlen,<- hhead]
          apply List.ext_getElem?
          intro k;have hf:=HFIT.out;rw [<- Array.length_toList] at hf;rw [List.getElem?_take,List.getElem?_take,Array.getElem?_toList,Array.getElem?_toList,Q4i _ _ _ _ hf]
          by_cases hk:k < i * 4
          . rw [if_pos hk,if_pos hk,if_neg (by omega)]
          . rw [if_neg hk,if_neg hk]
end Go.Proofs
