/- Contracts: closings (of the program): the map of the rules, and what it says for each member. Contracts: closings (of the program). Contracts: kept, weight, checkMember, checkMembers (of the program). Contracts: count, alone (of the program). Contracts: Z2v; Index and Contains over plans (of the program). Contract: history.compare. DERIVED: THE SHELF's CONTRACTS AT THIS DUMP, IN PLAIN WORDS (tools/lay-plain.mjs out of 'TryzShelf.lean', which tools/lay-shelf.mjs wrote): THE SAME DECLARATIONS UNDER THE SAME NAMES: 'import', 'namespace', 'open', 'def', 'theorem' AND NOTHING ELSE: no command of the shelf's: FOR A HAND-IN. Each laying: the table of numbers ('.._ren') and one theorem, a field a fact of the dump's own or the kernel's comparison; each contract: ONE APPLICATION. Contract: slices.SortFunc over histories. What CompactFunc keeps of a sorted list of histories; clear of the rest of a block of one-cell elements. Contract: slices.CompactFunc over histories. Contracts: ContainsFunc and DeleteFunc over plans. The region theorem under a relation of worlds of one's own. Contract: undominated. Contracts: slices.Grow of nil; slices.Concat of two lists (strings; plans). Contracts: weight, checkMember, checkMembers (of the program). Contracts of the law's own functions: season, rules. Contracts: slices.Clone of a history; histories of the program. Contracts: slices.Equal; checkRules, CheckPolicy. Contract of the law's own function: told. Contract of the law's own function: given. -/
import Derived.Test.YtodinjclfmiohaaGreatKp02
import Derived.Test.YtodinjclfmiohaaGreatKp04
import Derived.Test.YtodinjclfmiohaaGreatKp03
import Derived.Shelf.Abstract
import Derived.Shelf.RegionOpen
import Derived.OwnWalkIn
import Derived.TacticsInMore
import Derived.LoopNIn
import Derived.LoopIn
import Derived.Shelf.SlSortCmp.Whole1
import Derived.Ground.Names7Prog
import Derived.Ground.SlsfProg
import Derived.Shelf.Spec.TrailingZeros
import Derived.Shelf.SlGeneric
import Derived.Shelf.Small.Bits
import Derived.Shelf.Small.Wraps
import Derived.Shelf.Strconv.Itoa0
import Derived.Shelf.Bits.Mul64
import Derived.Shelf.Slices.Turned
import Derived.Ground.Names2Prog
import Derived.Shelf.Slices.Clone
import Derived.Shelf.Slices.SearchI
import Derived.Ground.SlgnProg
import Derived.Shelf.SlicesE.Clone
import Derived.Test.YtodinjclfmiohaaGreatProg
import Derived.Test.YtodinjclfmiohaaGreatKp01
import Derived.Lib.AppendZeros
import Derived.OwnWalk
set_option maxRecDepth 1000000
set_option maxHeartbeats 64000000
set_option linter.unusedVariables false
set_option linter.unusedSimpArgs false
set_option linter.constructorNameAsVariable false
namespace Go.Proofs
open Go.RowKit Go.Tw Go.Flow
attribute [local go_sem] Oper.semAt_some
theorem Y7i:Tryz.prog.underlying 193 = some (.map 9 4):=by kernel_rfl
theorem Z3c:Tryz.prog.underlying 9 = some .string:=by kernel_rfl
theorem Z5y (w:World):(zeroValue 4).run Tryz.prog w = .ok (.bool false) w:=by kernel_rfl
theorem Z2k {α:Type} {enc:α -> Value} {w:World} {v:Value} {x:α} (h:Q2f w v (enc x)):Src w enc v [x]:=by
 obtain ⟨g,h1,h2⟩:=h;exact ⟨_,1,h1,fun j hj=>⟨g,0,rfl,by
  have:j = 0:=by simp at hj; exact hj
  subst this; exact h2⟩⟩
def X1r (p:List Rul) (l:List Int) (k:Nat):List Bool:=(List.range k).map fun t=>Tw.look p (l.take (t + 1))
theorem Y2l (p:List Rul) (l:List Int) (k:Nat):X1r p l (k + 1) = X1r p l k ++ [Tw.look p (l.take (k + 1))]:=by unfold X1r; rw [List.range_succ,List.map_append]; rfl
theorem Y5v (p:List Rul) (l:List Int) (k:Nat):(X1r p l k).length = k:=by simp [X1r]
theorem X5u (w:World) (v:Value) (m:Mem) (p:List Rul) (B b:Nat) (hv:X4z w v m) (hn:(p.map Rul.classes).Nodup) (hd:∀ k,k < p.length -> Digits (Q0l p k)) (hm:Digits m.classes) (hl:m.classes.length <= 8)
    (hB:w.cell? ⟨B,0,none⟩ = some (.map (some b))) (hM:Q1m w b (Q3o p p.length)) :
    Calls Tryz.prog 96 #[v,.pointer (some ⟨B,0,none⟩)] w fun e w'=>∃ x,e = .returned x /\ Q0g w' w.heap.size 4 .bool x (Q0u p m.classes) /\ Ext w w':=by
 obtain ⟨i0,hi,hz0,hz1,hz2⟩:=info_parts Tryz.Z0l;obtain ⟨x,y,z,rfl,hx,hy,hz⟩:=hv;have HXI:=Lib.hid hx;obtain ⟨X,capx,rfl,-,hcapx,hcX⟩:=hx.opened;obtain ⟨Y,capy,rfl,-,-,-⟩:=hy.opened;obtain ⟨Z,capz,rfl,-,-,-⟩:=hz.opened;have HCX:=Lib.hid hcX;obtain ⟨lc,hlc⟩:∃ x,m.classes = x:=⟨_,rfl⟩;rw [hlc] at HXI hcapx HCX hm hl ⊢;obtain ⟨lo,hlo⟩:∃ x,m.outside.length = x:=⟨_,rfl⟩;obtain ⟨li,hli⟩:∃ x,m.inflow.length = x:=⟨_,rfl⟩;rw [hlo,hli];have HLK:Hid (∀ (W:World) (k:Nat),Ext w W -> (Instr.lookup 193 (.map (some b)) (.string (X0s (lc.take k))) false).run Tryz.prog W = .ok (.bool (Tw.look p (lc.take k))) W):=Lib.hid (fun W k hW=>by
  have h:=Q4c (P:=Tryz.prog) (hM.ext hW) Y7i Z3c (Z5y _) (X0s (lc.take k)) false;rw [if_neg (by simp),X9f hn hd (Q8l hm k)] at h
  exact h)
 have HDG:=Lib.hid hm;have HBC:=Lib.hid hB;clear hx hy hz hcX hM hn hd hm hlc hlo hli hB;go_enter Tryz.func96,Tryz.ntmps96;go_wp2_with fail;change Code.wp _ _ _ _ (w.alloc (.cells #[.string m.name,.int .i64 m.weight,.slice X lc.length capx,.slice Y lo capy,.slice Z li capz] 90));obtain ⟨W,hWW,k0,HXW,eW⟩:=Q2q w 90 #[.string m.name,.int .i64 m.weight,.slice X lc.length capx,.slice Y lo capy,.slice Z li capz];rw [hWW];clear hWW;have K0:=Lib.hid k0;have c0_2:=k0.cell 2;simp only [Go.Tw.gA,Go.Tw.gB,Go.Tw.gC] at c0_2;obtain ⟨gm,hgm⟩:∃ x,w.heap.size = x:=⟨_,rfl⟩;rw [hgm] at K0 eW c0_2 ⊢;clear k0;go_wp2;clear c0_2
 go_loopw [4,9] (fun o i wr=>∃ k:Nat,k <= lc.length /\ i = .int .i64 k /\ Q0g wr W.heap.size 4 .bool o (X1r p lc k) /\ Ext W wr) (fun _ i _=>lc.length - (intOf i).toNat)
 case atStart=>exact ⟨0,Nat.zero_le _,rfl,Q0g.nil _ _ _ _,Ext.refl _⟩
 case round =>
  obtain ⟨k,hk,rfl,hown,hxr⟩:=hrel;obtain ⟨Ao,co,rfl,-⟩:=hown.shape;have hol:=Y5v p lc k
  by_cases hlt:k < lc.length
  . obtain ⟨bc,oc,hXe,-⟩:=HCX.out k hlt
    subst hXe;have HXR:=Lib.hid hxr;have HOW:=Lib.hid hown;have hkI:(k:Int) < lc.length:=by omega
    have hkc:k + 1 <= capx:=by omega
    have hkcI:(k:Int) + 1 <= (capx:Int):=by omega
    have hkc1:¬ ((0:Int) <= (k:Int) + 1 -> (capx:Int) < (k:Int) + 1):=by omega
    have hkc2:¬ capx = 0:=by omega
    have hkc4:¬ (k:Int) + 1 < 0:=by omega
    have hkc3:((k:Int) + 1).toNat = k + 1:=by omega
    have hwk:IntKind.i64.wrap ((k:Int) + 1) = (k:Int) + 1:=X6m _ (by omega) (by omega)
    have HSUC:=Lib.hid (Y2l p lc k);have HPRE:Hid (Q0b w (.slice (some ⟨bc,oc,none⟩) (k + 1) capx) (lc.take (k + 1))):=Lib.hid (X4s HXI.out (by omega))
    have HPL:Hid ((lc.take (k + 1)).length <= 4096):=Lib.hid (by rw [List.length_take]; omega)
    have HPD:=Lib.hid (Q8l HDG.out (k + 1));have HL1:=Lib.hid (fun W hW=>HLK.out W (k + 1) hW);obtain ⟨lp,hlp⟩:∃ x,lc.take (k + 1) = x:=⟨_,rfl⟩;rw [hlp] at HSUC HPRE HPL HPD HL1;obtain ⟨q,hq⟩:∃ x,Tw.look p lp = x:=⟨_,rfl⟩;rw [hq] at HSUC HL1;have hol2:(X1r p lc k).length + 1 <= 4398046511104:=by omega
    obtain ⟨xs,hxs⟩:∃ x,X1r p lc k = x:=⟨_,rfl⟩;rw [hxs] at HOW hol hol2 HSUC ⊢;have HOL:=Lib.hid hol;have HOL2:=Lib.hid hol2;have hdr:=(Ext.refl wr).drew;clear hown hlp hq hxr hol hol2 hxs
    go_light
    go_wp2;refine Flow.Q4k [.p,.w,.p,.w,.p,.p,.p,.w,.w,.w,.last,.last] [0,1,2,3,4,5,6,7,8,9,10,11] [[],[],[],[2],[],[4],[2,3,4,5],[2,3,4,5,6],[1,2,3,4,5,6,7],[1,2,3,4,5,6,7,8],[0,1,2,3,4,5,6,7,8,9],[0,1,2,3,4,5,6,7,8,9,10]] [10,11]
     [.c 0 (.slice Ao xs.length co),.c 1 (.map (some b)),.c 2 (.pointer (some ⟨gm,2,none⟩)),.c 3 (.slice (some ⟨bc,oc,none⟩) lc.length capx),.c 4 (.int .i64 (k:Int)),.c 5 (.int .i64 ((k:Int) + 1)),.c 6 (.slice (some ⟨bc,oc,none⟩) (k + 1) capx),.c 7 (.string (X0s lp)),.c 8 (.bool q),⟨fun v wz=>(fun v w'=>Q2f w' (v 9) (.bool q)) v wz,fun _ _ _ hx h=>Q2f.ext h hx⟩,.none,.none]
     [fun v w1 w'=>Q0g w' W.heap.size 4 .bool (v 10) (xs ++ [q]) /\ w1.grownBy w' (Value.slice Ao xs.length co).ownBlock,fun v w1 w'=>v 11 = v 10 /\ Q0g w' W.heap.size 4 .bool (v 10) (xs ++ [q]) /\ w1.grownBy w' (Value.slice Ao xs.length co).ownBlock] (by kernel_rfl) rfl (by kernel_rfl) ⟨?g0,?g1,?g2,?g3,?g4,?g5,?g6,?g7,?g8,?g9,?g10,?g11,trivial⟩ ?post
    case g0 | g2 | g4=>
     intro v w1 hx;intro bb hbb;subst hbb;refine ⟨_,fun w=>?_,rfl⟩;go_simp
    case g1=>
     intro v w1 hx;intro bb hbb;subst hbb;have n0:w1.cell? ⟨B,0,none⟩ = some (.map (some b)):=(HXW.out.trans (HXR.out.trans (hdr.trans hx))).cell HBC.out;intro K hK;go_simp;exact hK _ _ (Ext.refl _) rfl
    case g3=>
     intro v w1 hx;(repeat intro (zq:v _ = _));intro bb hbb;subst hbb;have n0:w1.cell? ⟨gm,2,none⟩ = some (.slice (some ⟨bc,oc,none⟩) lc.length capx):=(K0.out.ext (HXR.out.trans (hdr.trans hx))).cell 2;intro K hK;go_simp;exact hK _ _ (Ext.refl _) rfl
    case g5 | g6=>
     intro v w1 hx;(repeat intro (zq:v _ = _));intro bb hbb;subst hbb;refine ⟨_,fun w=>?_,rfl⟩;go_simp
    case g7=>
     intro v w1 hx;(repeat intro (zq:v _ = _));intro bb hbb;subst hbb;intro K hK;go_simp;refine Q0d (Y2y w1 _ lp (HPRE.out.ext (HXW.out.trans (HXR.out.trans (hdr.trans hx)))) HPL.out HPD.out) ?_;rintro e w2 ⟨rfl,hx2⟩;exact ⟨_,rfl,hK _ _ hx2 rfl⟩
    case g8=>
     intro v w1 hx;(repeat intro (zq:v _ = _));intro bb hbb;subst hbb;have hlk:=HL1.out w1 (HXW.out.trans (HXR.out.trans (hdr.trans hx)));intro K hK;go_simp;exact hK _ _ (Ext.refl _) rfl
    case g9=>
     intro v w1 hx;(repeat intro (zq:v _ = _));intro bb hbb;subst hbb;intro K hK;go_simp;exact hK _ _ (Ext.box _ _) (Q2f.made _ _ _)
    case g10=>
     intro v w1 hx (q0:v 0 = _) (q1:v 1 = _) (q2:v 2 = _) (q3:v 3 = _) (q4:v 4 = _) (q5:v 5 = _) (q6:v 6 = _) (q7:v 7 = _) (q8:v 8 = _) (q9:(fun v w'=>Q2f w' (v 9) (.bool q)) v w1);intro wl hT;obtain rfl:wl = w1:=hT;intro bb hbb;intro K hK;have o1:bb.eval (.tmp 12) = .slice Ao xs.length co:=by rw [hbb]; dsimp only; (try simp (discharger:=decide) only [eval_put_ne]); rw [Q0a (by exact (by decide:12 < 25))]; exact q0
     have o2:bb.eval (.tmp 21) = v 9:=by rw [hbb]; dsimp only; (try simp (discharger:=decide) only [eval_put_ne]); rw [Q0a (by simp only [size_put]; exact (by decide:21 < 25))]
     refine Q1k _ _ 78 rfl W.heap.size 4 i0 (.bool false) 1 Tryz.underlying78 hi hz0 hz1 hz2 rfl .bool (.slice Ao xs.length co) (v 9) xs [q] o1 (HOW.out.below (hdr.trans hx)) o2 (Z2k q9) (fun y hy=>rfl) (by have:=HOL2.out; rw [List.length_singleton]; exact this) (by decide) (by have:=HXR.out.size; have:=hx.size; have:wr.drew.heap.size = wr.heap.size:=rfl; omega) (fun v' w' hown hg=>hK _ _ ⟨hown,hg⟩)
    case g11=>
     intro v w1 hx (q0:v 0 = _) (q1:v 1 = _) (q2:v 2 = _) (q3:v 3 = _) (q4:v 4 = _) (q5:v 5 = _) (q6:v 6 = _) (q7:v 7 = _) (q8:v 8 = _) _;intro wl hT;replace hT:(fun v w1 w'=>Q0g w' W.heap.size 4 .bool (v 10) (xs ++ [q]) /\ w1.grownBy w' (Value.slice Ao xs.length co).ownBlock) v w1 wl:=hT;intro bb hbb;subst hbb;intro K hK;go_simp;exact hK _ _ ⟨rfl,hT⟩
    case post =>
     intro v w1 hx;(iterate 9 intro (zq:v _ = _));intro (q9:(fun v w'=>Q2f w' (v 9) (.bool q)) v w1);intro w2 hE;replace hE:(fun v w1 w'=>v 11 = v 10 /\ Q0g w' W.heap.size 4 .bool (v 10) (xs ++ [q]) /\ w1.grownBy w' (Value.slice Ao xs.length co).ownBlock) v w1 w2:=hE;simp only [Flow.acts,Act.put];go_simp;obtain ⟨_,hown',hgrow⟩:=hE;have hxx:=HXR.out.trans (hdr.trans hx);have hx9:Ext W w2:=Below.grown hxx hgrow hxx.size (fun b hb=>by
      have h1:=HOW.out;obtain ⟨_,h2⟩:=h1
      rcases h2 with ⟨h2,_⟩ | ⟨g,c,cur,h2,hbg,_⟩
      . rw [h2] at hb; cases hb
      . rw [h2] at hb; cases hb; exact hbg)
     have HX9:=Lib.hid hx9;have HO9:=Lib.hid hown';clear hx hdr hx9 hown' hgrow hxx q9;(repeat clear zq);go_wp2;go_roundw
     case rel=>exact ⟨k + 1,by omega,by go_num,by rw [HSUC.out]; exact HO9.out,HX9.out⟩
     case measure=>simp [intOf]; omega
  . have hke:k = lc.length:=by omega
    subst hke;have HOW:=Lib.hid hown;have HXR:=Lib.hid hxr;clear hown hxr;go_wp2;go_ret;exact ⟨_,rfl,HOW.out.weaken (by omega),HXW.out.trans HXR.out⟩
def Q2n (s:Q0c) (p:List Rul):List (List Bool):=s.members.map fun m=>Q0u p m.classes
theorem Q8g {s:Q0c} (p:List Rul) {k:Nat} (hk:k < s.members.length):(Q2n s p).getD k [] = Q0u p (Q0f s.members k):=by
 unfold Q2n Q0f;simp [hk]
theorem Q2s (s:Q0c) (p:List Rul):(Q2n s p).length = s.members.length:=by simp [Q2n]
theorem X8y {s:Q0c} (p:List Rul) {k:Nat} (hk:k < s.members.length):(Q2n s p).take (k + 1) = (Q2n s p).take k ++ [Q0u p (Q0f s.members k)]:=by
 rw [List.take_succ_eq_append_getElem (by rw [Q2s]; exact hk)]
 unfold Q2n Q0f;simp [hk]
theorem Tryz.Y8f:(Tryz.prog.info? 78).map (fun i=>(i.zero,i.size,i.bytes)) = some (some (.slice none 0 0),1,24):=by kernel_rfl
theorem Q7t (w:World) (v:Value) (s:Q0c) (p:List Rul) (B b:Nat) (hv:Q7v w v s.members) (hS:Q1d s) (hn:(p.map Rul.classes).Nodup) (hd:∀ k,k < p.length -> Digits (Q0l p k))
    (hB:w.cell? ⟨B,0,none⟩ = some (.map (some b))) (hM:Q1m w b (Q3o p p.length)) :
    Calls Tryz.prog 95 #[v,.func (.func 96) #[] #[.pointer (some ⟨B,0,none⟩)]] w fun e w'=>∃ x vs,e = .returned x /\ Q0g w' w.heap.size 78 idV x vs /\ Q7d w' 4 .bool vs (Q2n s p) /\ Ext w w':=by
 obtain ⟨i0,hi,hz0,hz1,hz2⟩:=info_parts Tryz.Y8f;have h8:=hS.some;have h6:=hS.tides;have HS:=Lib.hid hS;have HV:=Lib.hid hv;obtain ⟨V,capv,rfl,-,-,-⟩:=hv.opened;have HCL:Hid (∀ (W:World) (u:Value) (k:Nat),Ext w W -> k < s.members.length -> X4z W u (Q1z s k) -> Calls Tryz.prog 96 #[u,.pointer (some ⟨B,0,none⟩)] W fun e w'=>∃ x,e = .returned x /\ Q0g w' W.heap.size 4 .bool x (Q0u p (Q0f s.members k)) /\ Ext W w') :=
  Lib.hid (fun W u k hW hk hu=>X5u W u (Q1z s k) p B b hu hn hd (hS.digits k hk) (by have:=(hS.shaped k hk).1; show (Q0f s.members k).length <= 8; omega) (hW.cell hB) (hM.ext hW))
 clear hv hn hd hB hM hS;go_enter Tryz.func95,Tryz.ntmps95;go_wp2
 go_loopw [5,10] (fun o i wr=>∃ (k:Nat) (vs:List Value),k <= s.members.length /\ i = .int .i64 k /\ Q0g wr w.heap.size 78 idV o vs /\ Q7d wr 4 .bool vs ((Q2n s p).take k) /\ Ext w wr) (fun _ i _=>s.members.length - (intOf i).toNat)
 case atStart=>exact ⟨0,[],Nat.zero_le _,rfl,Q0g.nil _ _ _ _,Q7d.nil _ _ _,Ext.refl _⟩
 case round =>
  obtain ⟨k,vs,hk,rfl,hown,hrows,hxr⟩:=hrel;have hvl:vs.length = k:=by have:=hrows.1; rw [List.length_take,Q2s] at this; omega
  have HXR:=Lib.hid hxr
  by_cases hlt:k < s.members.length
  . have H3:=HV.out.ext hxr
    obtain ⟨_,_,hVe,_,_,hc⟩:=H3.opened;cases hVe;obtain ⟨bm,off,x,y,z,rfl,hbm,e0,e1,e2,e3,e4,hx,hy,hz,hsh⟩:=hc k hlt;have HX1:=Lib.hid hx;have HX2:=Lib.hid hy;have HX3:=Lib.hid hz;obtain ⟨X,capx,rfl,-,-,-⟩:=hx.opened;obtain ⟨Y,capy,rfl,-,-,-⟩:=hy.opened;obtain ⟨Z,capz,rfl,-,-,-⟩:=hz.opened;have HSUC:=Lib.hid (X8y p hlt);have HCK:=Lib.hid (fun W u hW hu=>HCL.out W u k hW hlt hu);have HME:Hid (∀ W,Ext wr W -> X4z W (.agg #[.string (Q1g s.members k),.int .i64 (Q1c s.members k),.slice X (Q0f s.members k).length capx,.slice Y (Q0n s.members k).length capy,.slice Z (Q0v s.members k).length capz]) (Q1z s k)) :=
     Lib.hid (fun W hW=>⟨_,_,_,rfl,HX1.out.ext hW,HX2.out.ext hW,HX3.out.ext hW⟩)
    have HLE:Hid ((Q0u p (Q0f s.members k)).length <= 4096):=Lib.hid (by rw [Q4f,(HS.out.shaped k hlt).1]; omega)
    obtain ⟨nm,hnm⟩:∃ x,Q1g s.members k = x:=⟨_,rfl⟩;obtain ⟨wt,hwt⟩:∃ x,Q1c s.members k = x:=⟨_,rfl⟩;obtain ⟨lc,hlc⟩:∃ x,Q0f s.members k = x:=⟨_,rfl⟩;obtain ⟨lo,hlo⟩:∃ x,Q0n s.members k = x:=⟨_,rfl⟩;obtain ⟨li,hli⟩:∃ x,Q0v s.members k = x:=⟨_,rfl⟩;rw [hnm] at e0 HME;rw [hwt] at e1 HME;rw [hlc] at e2 HME HSUC HCK HLE;rw [hlo] at e3 HME;rw [hli] at e4 HME;obtain ⟨cl,hcl⟩:∃ x,Q0u p lc = x:=⟨_,rfl⟩;rw [hcl] at HSUC HCK HLE;have hkI:(k:Int) < s.members.length:=by omega
    have hbox:=Ext.box wr (.cells #[.string nm,.int .i64 wt,.slice X lc.length capx,.slice Y lo.length capy,.slice Z li.length capz] 90);have K3:=Blk.made wr 90 #[.string nm,.int .i64 wt,.slice X lc.length capx,.slice Y lo.length capy,.slice Z li.length capz];have d0:=(K3).cell 0;have d1:=(K3).cell 1;have d2:=(K3).cell 2;have d3:=(K3).cell 3;have d4:=(K3).cell 4;simp only [Go.Tw.gA,Go.Tw.gB,Go.Tw.gC] at d0 d1 d2 d3 d4;have HXB:=Lib.hid hbox;have HO:=Lib.hid hown;have HRO:=Lib.hid hrows;have hll:vs.length <= 4096:=by omega
    clear hc H3 hx hy hz hsh hnm hwt hlc hlo hli hcl hbm hbox K3 hown hrows hxr
    go_light
    go_wp2_with (first | (refine (HCK.out _ _ (HXR.out.trans HXB.out) (HME.out _ HXB.out)).mono ?_; rintro e w5 ⟨u,rfl,hu,hx5⟩; obtain ⟨bu,cu,rfl,-⟩:=hu.shape; have HU:=Lib.hid hu; have HX5:=Lib.hid (HXB.out.trans hx5); have hown:=HO.out.below HX5.out; have hx6:=HXR.out.trans HX5.out; clear hu hx5) | (at_builtin; refine wpList_append_own _ rfl _ _ 140 rfl (w.heap.size) 78 i0 (.slice none 0 0) 1 24 Tryz.underlying140 hi hz0 hz1 hz2 rfl (by decide) _ _ _ rfl (World.ownsRow.alloc hown _) ⟨w5.heap.size,0,none⟩ 1 1 [.slice bu cl.length cu] rfl rfl ?_ ?_ ?_ ?_ ?_ ?_; exact Q4h _ _ _; (focus (simp [Value.oneCell'])); (focus (unfold maxLen; omega)); (focus omega); (focus (have:=hx6.size; simp at this ⊢; omega)); intro v' w1 hown' hgrow _))
    have hx':=Q2r hx6 hown (Nat.le_refl _) hgrow;have hbx:=Ext.box w5 (.cells #[.slice bu cl.length cu] 78);have hs5:=((((HRO.out.ext HX5.out).snoc HU.out).ext hbx)).grown (hown.below hbx) (by decide) hgrow
    have HS5:=Lib.hid hs5;clear hs5;go_wp2;go_roundw
    case rel=>exact ⟨k + 1,vs ++ [.slice bu cl.length cu],by omega,by go_num,Q0g.snoc (x:=Value.slice bu cl.length cu) hown',by rw [HSUC.out]; exact HS5.out,hx'⟩
    case measure=>simp [intOf]; omega
  . have hke:k = s.members.length:=by omega
    have HF:Hid ((Q2n s p).take k = Q2n s p):=Lib.hid (List.take_of_length_le (by rw [Q2s]; omega))
    have HO:=Lib.hid hown;have HRO:=Lib.hid hrows;clear hown hrows hxr;go_wp2;go_ret;exact ⟨_,vs,rfl,HO.out,by rw [<- HF.out]; exact HRO.out,HXR.out⟩
end Go.Proofs
namespace Go.Proofs
open Go.RowKit Go.Tw Go.Flow
attribute [local go_sem] Oper.semAt_some
theorem Y1e {P:Program} {K:Value -> World -> Prop} {o:Oper} {a:Act} {w w':World} {t:TypeId} (m k x:Operand) (ho:o.op = .mapUpdate t m k x) {mv kv xv:Value} (hm:a.eval m = mv) (hk:a.eval k = kv) (hx:a.eval x = xv)
    (hr:(Instr.mapUpdate t mv kv xv).run P w = .ok () w') (h:∀ v,K v w'):gives P K ((execOp a.eval o).run P w):=by
 unfold execOp;simp only [ho,hm,hk,hx,Sem.run_bind,Sem.run_pure,Result.andThen_ok,hr];exact h _
theorem Y2i {s:Q0c} (hS:Q1d s):∀ h ∈ s.hist,Digits h:=fun h hh=>by
 obtain ⟨t,ht,k,hk,rfl⟩:=(Q0c.Q4o _ _).1 hh;exact Q8l (hS.digits k hk) _
theorem X4l {s:Q0c} (hS:Q1d s) {p:List Rul} (hp:Q0x s.hist p = 0):(p.map Rul.classes).Nodup:=by
 rw [Q1o.1 hp]; exact Y9f (Q0c.Y4l hS.shaped)
theorem X1w {s:Q0c} (hS:Q1d s) {p:List Rul} (hp:Q0x s.hist p = 0):∀ k,k < p.length -> Digits (Q0l p k):=fun k hk=>by
 rw [Q4w hk];exact Y2i hS _ (by rw [<- Q1o.1 hp]; exact List.mem_map_of_mem (List.getElem_mem hk))
theorem Q6z {s:Q0c} (hS:Q1d s):∀ h ∈ s.hist,h.length <= 6:=fun h hh=>by
 obtain ⟨t,ht,k,hk,rfl⟩:=(Q0c.Q4o _ _).1 hh;have:=hS.tides.2;rw [List.length_take]; omega
theorem X6y {s:Q0c} (hS:Q1d s) {p:List Rul} (hp:Q0x s.hist p = 0):∀ k,k < p.length -> (Q0l p k).length <= 6:=fun k hk=>by
 rw [Q4w hk];exact Q6z hS _ (by rw [<- Q1o.1 hp]; exact List.mem_map_of_mem (List.getElem_mem hk))
theorem Y0k (w:World) (v u:Value) (s:Q0c) (p:List Rul) (hv:Q0o w v s) (hu:Q1q w u p) (hS:Q1d s) (hp:Q0x s.hist p = 0) :
    Calls Tryz.prog 48 #[v,u] w fun e w'=>∃ x,e = .returned x /\ Q3f w' x (Q2n s p) /\ Ext w w':=by
 have h8:=hS.some;have HCLB:=Lib.hid (fun i (hi:i < (Q2n s p).length)=>(show ((Q2n s p).getD i []).length <= 17592186043904 by
  rw [Q2s] at hi;rw [Q8g p hi,Q4f,(hS.shaped i hi).1];have:=hS.tides.2; omega))
 have HND:=Lib.hid (X4l hS hp);have HDI:=Lib.hid (X1w hS hp);have HL8:=Lib.hid (X6y hS hp);have HS:=Lib.hid hS;obtain ⟨a,b,rfl,h2⟩:=hv;obtain ⟨rv,rfl,hr⟩:=hu;obtain ⟨A,capa,rfl,-,-,-⟩:=h2.ships.opened;obtain ⟨M,capb,rfl,-,-,-⟩:=h2.members.opened;have HRU:=Lib.hid hr;obtain ⟨R,capr,rfl,-,-,-⟩:=hr.opened;have H2:=Lib.hid h2;clear h2 hr hS hp;go_enter Tryz.func48,Tryz.ntmps48;go_upto_region 1 with fail;change Code.wp _ _ _ _ ((w.alloc (.cells #[.int .i64 s.limit,.slice A s.ships.length capa,.slice M s.members.length capb] 74)).alloc (.cells #[.slice R p.length capr] 64));obtain ⟨W,hWW,k0,k1,HXW,eW⟩:=Q5t w 74 #[.int .i64 s.limit,.slice A s.ships.length capa,.slice M s.members.length capb] 64 #[.slice R p.length capr];rw [hWW];clear hWW;have hmm:=@run_makeMap Tryz.prog;have hb0:=Ext.box W (.map #[] 0);have hb1:=Ext.box (W.alloc (.map #[] 0)) (.cells #[.map (some (w.heap.size + 1 + 1))] 193);have m0:=(Q1m.made W).ext hb1;rw [eW] at m0;have kb:=Blk.made (W.alloc (.map #[] 0)) 193 #[.map (some (w.heap.size + 1 + 1))];have es:(W.alloc (.map #[] 0)).heap.size = W.heap.size + 1:=by simp
 have es2:((W.alloc (.map #[] 0)).alloc (.cells #[.map (some (w.heap.size + 1 + 1))] 193)).heap.size = W.heap.size + 1 + 1:=by simp
 rw [es,eW] at kb;rw [eW] at es2;have KS:=k0.ext (hb0.trans hb1);have KP:=k1.ext (hb0.trans hb1);have n1:=KP.cell 0;simp only [Go.Tw.gA,Go.Tw.gB] at n1;go_wp2;obtain ⟨V,hV⟩:∃ V,(W.alloc (.map #[] 0)).alloc (.cells #[.map (some (w.heap.size + 1 + 1))] 193) = V:=⟨_,rfl⟩;have hxV:Ext w V:=HXW.out.trans (by rw [<- hV]; exact hb0.trans hb1)
 rw [hV] at m0 kb KS KP es2 ⊢;obtain ⟨b,hb⟩:∃ b,w.heap.size + 1 + 1 = b:=⟨_,rfl⟩;rw [hb] at m0 kb es2 ⊢;have hwb:w.heap.size < b:=by omega
 have hwb1:w.heap.size + 1 < b:=by omega
 obtain ⟨gs,hgs⟩:∃ x,w.heap.size = x:=⟨_,rfl⟩;have HGS:=Lib.hid hgs;rw [hgs] at KS KP hwb hwb1 ⊢;have HKS:=Lib.hid KS;have HXV:=Lib.hid hxV;have HM0:=Lib.hid m0;have HKB:=Lib.hid kb;have HVS:=Lib.hid es2;clear hb0 hb1 m0 kb es es2 KS KP n1 hV hxV hb eW HXW k0 k1 hgs hmm
 go_loopw [12] (fun i wr=>∃ k:Nat,k <= p.length /\ i = .int .i64 k /\ Q1m wr b (Q3o p k) /\ Blk wr (b + 1) 193 #[.map (some b)] /\ Below b V wr) (fun i _=>p.length - (intOf i).toNat)
 case atStart=>exact ⟨0,Nat.zero_le _,rfl,HM0.out,HKB.out,Below.refl _ _⟩
 case round =>
  obtain ⟨k,hk,rfl,hmap,hblk,hbel⟩:=hrel;have HMP:=Lib.hid hmap;have HBL:=Lib.hid hblk;have HBE:=Lib.hid hbel
  by_cases hlt:k < p.length
  . obtain ⟨_,_,hRe,_,_,hc⟩:=HRU.out.opened
    cases hRe;obtain ⟨br,orr,xr,rfl,hbr,hx0,hx1,hxi⟩:=hc k hlt;have hbr':br < b:=by have:=HGS.out; omega
    have hy0:=(hbel.cell (p:=⟨br,orr + k * 2,none⟩) hbr').trans (HXV.out.cell hx0);have hy1:=(hbel.cell (p:=⟨br,orr + k * 2 + 1,none⟩) hbr').trans (HXV.out.cell hx1);obtain ⟨Xr,cxr,rfl,-,-,-⟩:=hxi.opened;have hwr:Below w.heap.size w wr:=Below.trans HXV.out (hbel.mono (by have:=HGS.out; omega))
    have HIW:=Lib.hid (hxi.ext hwr);have HDK:=Lib.hid (HDI.out k hlt);have HLK:Hid ((Q0l p k).length <= 4096):=Lib.hid (by have:=HL8.out k hlt; omega)
    have HSUC:Hid (Q3o p (k + 1) = X5t (X0s (Q0l p k)) (.bool (Q3d p k)) (Q3o p k)):=Lib.hid rfl;obtain ⟨lc,hlc⟩:∃ x,Q0l p k = x:=⟨_,rfl⟩;obtain ⟨cb,hcb⟩:∃ x,Q3d p k = x:=⟨_,rfl⟩;obtain ⟨L,hL⟩:∃ x,Q3o p k = x:=⟨_,rfl⟩;rw [hlc] at hy0 HIW HDK HLK HSUC;rw [hcb] at hy1 HSUC;rw [hL] at HMP HSUC;have hkI:(k:Int) < p.length:=by omega
    have hxb:=Ext.box wr (.cells #[.slice Xr lc.length cxr,.bool cb] 67);have kr:=Blk.made wr 67 #[.slice Xr lc.length cxr,.bool cb];have HXB:=Lib.hid hxb;have hwlt:b + 1 < wr.heap.size:=hblk.lt;clear hc hx0 hx1 hxi hwr hlc hcb hL hmap hblk hbel hbr hbr' hxb
    go_light
    go_wp2;obtain ⟨W5,hW5⟩:∃ X,wr.alloc (.cells #[.slice Xr lc.length cxr,.bool cb] 67) = X:=⟨_,rfl⟩;obtain ⟨g,hg⟩:∃ x,wr.heap.size = x:=⟨_,rfl⟩;rw [hW5] at HXB kr ⊢;rw [hg] at kr hwlt ⊢;have KR:=Lib.hid kr;have hdr:=(Ext.refl W5).drew;clear hW5 kr hy0 hy1 hg;refine Flow.Q4k [.w,.p,.w,.w,.p,.w,.last] [0,1,2,3,4,5,6] [[],[],[1],[1,2],[],[4],[0,1,2,3,4,5]] [6]
     [.c 0 (.map (some b)),.c 1 (.pointer (some ⟨g,0,none⟩)),.c 2 (.slice Xr lc.length cxr),.c 3 (.string (X0s lc)),.c 4 (.pointer (some ⟨g,1,none⟩)),.c 5 (.bool cb),.none]
     [fun v w1 w'=>Q1m w' b (X5t (X0s lc) (.bool cb) L) /\ (∀ n,n <= b -> Below n w1 w') /\ w1.grownBy w' (some b)] (by kernel_rfl) rfl (by kernel_rfl) ⟨?g0,?g1,?g2,?g3,?g4,?g5,?g6,trivial⟩ ?post
    case g0=>
     intro v w1 hx;intro bb hbb;subst hbb;have n0:w1.cell? ⟨b + 1,0,none⟩ = some (.map (some b)):=(HBL.out.ext (HXB.out.trans (hdr.trans hx))).cell 0;intro K hK;go_simp;exact hK _ _ (Ext.refl _) rfl
    case g1 | g4=>
     intro v w1 hx;intro bb hbb;subst hbb;refine ⟨_,fun w=>?_,rfl⟩;go_simp
    case g2 | g5=>
     intro v w1 hx;(repeat intro (zq:v _ = _));intro bb hbb;subst hbb;have n0:w1.cell? ⟨g,0,none⟩ = some (.slice Xr lc.length cxr):=(KR.out.ext (hdr.trans hx)).cell 0;have n1:w1.cell? ⟨g,1,none⟩ = some (.bool cb):=(KR.out.ext (hdr.trans hx)).cell 1;intro K hK;go_simp;exact hK _ _ (Ext.refl _) rfl
    case g3=>
     intro v w1 hx;(repeat intro (zq:v _ = _));intro bb hbb;subst hbb;intro K hK;go_simp;refine Q0d (Y2y w1 _ lc (HIW.out.ext (HXB.out.trans (hdr.trans hx))) HLK.out HDK.out) ?_;rintro e w2 ⟨rfl,hx2⟩;exact ⟨_,rfl,hK _ _ hx2 rfl⟩
    case g6=>
     intro v w1 hx;(repeat intro (zq:v _ = _));intro wl hT;obtain rfl:wl = w1:=hT;intro bb hbb;intro K hK;have o1:bb.eval (.tmp 16) = .map (some b):=by rw [hbb]; dsimp only; (try simp (discharger:=decide) only [eval_put_ne]); rw [Q0a (by exact (by decide:16 < 27))]; assumption
     have o2:bb.eval (.tmp 19) = .string (X0s lc):=by rw [hbb]; dsimp only; (try simp (discharger:=decide) only [eval_put_ne]); rw [Q0a (by simp only [size_put]; exact (by decide:19 < 27))]; assumption
     have o3:bb.eval (.tmp 21) = .bool cb:=by rw [hbb]; dsimp only; (try simp (discharger:=decide) only [eval_put_ne]); rw [Q0a (by simp only [size_put]; exact (by decide:21 < 27))]; assumption
     obtain ⟨w2,hput,hm2,hb2,hg2⟩:=Q2u (P:=Tryz.prog) (HMP.out.ext (HXB.out.trans (hdr.trans hx))) Y7i Z3c (X0s lc) (.bool cb);exact Y1e (.tmp 16) (.tmp 19) (.tmp 21) rfl o1 o2 o3 hput (fun vv=>hK _ _ ⟨hm2,hb2,hg2⟩)
    case post =>
     intro v w1 hx;(iterate 6 intro (zq:v _ = _));intro w2 hE;replace hE:(fun v w1 w'=>Q1m w' b (X5t (X0s lc) (.bool cb) L) /\ (∀ n,n <= b -> Below n w1 w') /\ w1.grownBy w' (some b)) v w1 w2:=hE;simp only [Flow.acts,Act.put];go_simp;obtain ⟨hm2,hb2,hg2⟩:=hE;have hxx:=HXB.out.trans (hdr.trans hx);have hbl1:=HBL.out.ext hxx;have hbl2:Blk w2 (b + 1) 193 #[.map (some b)]:=by
      unfold Blk at hbl1 ⊢;rw [hg2.block (b + 1) (Array.getElem?_eq_some_iff.1 hbl1).1 (by intro e; injection e with e; omega)]
      exact hbl1
     have hbe2:Below b V w2:=Below.trans HBE.out (Below.trans (hxx.mono (by have:=HBL.out.lt; omega)) (hb2 b (Nat.le_refl _)))
     have HM2:=Lib.hid hm2;have HB2:=Lib.hid hbl2;have HE2:=Lib.hid hbe2;clear hx hdr hm2 hb2 hg2 hxx hbl1 hbl2 hbe2;(repeat clear zq);go_wp2;go_roundw
     case rel=>exact ⟨k + 1,by omega,by go_num,by rw [HSUC.out]; exact HM2.out,HB2.out,HE2.out⟩
     case measure=>simp [intOf]; omega
  . have hke:k = p.length:=by omega
    subst hke;have ks:=HKS.out.below hbel hwb;have c2:=ks.cell 2;simp only [Go.Tw.gA,Go.Tw.gB,Go.Tw.gC] at c2;have hwr:Ext w wr:=Below.trans HXV.out (hbel.mono (by have:=HGS.out; omega))
    have HMC:=Lib.hid (Q7t wr _ s p (b + 1) b (H2.out.members.ext hwr) HS.out HND.out HDI.out (hblk.cell 0) hmap);have HWR:=Lib.hid hwr;clear ks hmap hblk hbel hwr;go_wp2_with (go_at_call 95; refine HMC.out.mono ?_; rintro e w5 ⟨x,vs,rfl,hx1,hx2,hx5⟩; have HXX:=Lib.hid hx1; have HRR:=Lib.hid hx2; have HX5:=Lib.hid hx5; clear hx1 hx2 hx5);go_ret;exact ⟨x,rfl,Q0g.Z5t HXX.out (HRR.out.Z5c HCLB.out) (by rw [Q2s]; omega),HWR.out.trans HX5.out⟩
end Go.Proofs
namespace Go.Proofs
open Go.RowKit Go.Tw Go.Flow
attribute [local go_sem] Oper.semAt_some
theorem Tryz.Z6z (w:World):(isAgg 90).run Tryz.prog w = .ok true w:=by kernel_rfl
theorem Tryz.Z5p (w:World):(sizeOf 90).run Tryz.prog w = .ok 5 w:=by kernel_rfl
theorem Y8z {s:Q0c} (hS:Q1d s) {k n:Nat} (hk:k < s.members.length) (hn:n <= s.ships.length):OkM (Q1z s k) n:=by
 obtain ⟨_,h2,h3⟩:=hS.shaped k hk;refine ⟨?_,?_,fun j hj=>?_⟩
 . show n <= (Q0n s.members k).length; omega
 . show n <= (Q0v s.members k).length; omega
 . have hj':j < (Q0v s.members k).length:=hj
   have:=hS.inflow k hk (ix (Q0v s.members k) j) (by rw [Q6r hj']; exact List.getElem_mem hj')
   exact this
structure Z3t (w:World) (M:Option Addr) (s:Q0c) (k:Nat) (b off capx capy capz:Nat) (X Y Z:Option Addr):Prop where
 addr:M = some ⟨b,off,none⟩
 lt:b < w.heap.size
 e0:w.cell? ⟨b,off + k * 5,none⟩ = some (.string (Q1g s.members k))
 e1:w.cell? ⟨b,off + k * 5 + 1,none⟩ = some (.int .i64 (Q1c s.members k))
 e2:w.cell? ⟨b,off + k * 5 + 2,none⟩ = some (.slice X (Q0f s.members k).length capx)
 e3:w.cell? ⟨b,off + k * 5 + 3,none⟩ = some (.slice Y (Q0n s.members k).length capy)
 e4:w.cell? ⟨b,off + k * 5 + 4,none⟩ = some (.slice Z (Q0v s.members k).length capz)
 x:Q0b w (.slice X (Q0f s.members k).length capx) (Q0f s.members k)
 y:Q0b w (.slice Y (Q0n s.members k).length capy) (Q0n s.members k)
 z:Q0b w (.slice Z (Q0v s.members k).length capz) (Q0v s.members k)
theorem X8a {w:World} {M:Option Addr} {cap:Nat} {s:Q0c} (h:Q7v w (.slice M s.members.length cap) s.members) {k:Nat} (hk:k < s.members.length) :
    ∃ b off capx capy capz X Y Z,Z3t w M s k b off capx capy capz X Y Z:=by
 obtain ⟨_,_,he,_,_,hc⟩:=h.opened;cases he;obtain ⟨b,off,x,y,z,hA,hb,e0,e1,e2,e3,e4,hx,hy,hz,_⟩:=hc k hk;obtain ⟨X,capx,rfl,-,-,-⟩:=hx.opened;obtain ⟨Y,capy,rfl,-,-,-⟩:=hy.opened;obtain ⟨Z,capz,rfl,-,-,-⟩:=hz.opened;exact ⟨b,off,capx,capy,capz,X,Y,Z,hA,hb,e0,e1,e2,e3,e4,hx,hy,hz⟩
theorem Z3t.mem {w W:World} {M:Option Addr} {s:Q0c} {k b off capx capy capz:Nat} {X Y Z:Option Addr} (h:Z3t w M s k b off capx capy capz X Y Z) (hx:Ext w W) :
    X4z W (.agg #[.string (Q1g s.members k),.int .i64 (Q1c s.members k),.slice X (Q0f s.members k).length capx,.slice Y (Q0n s.members k).length capy,.slice Z (Q0v s.members k).length capz]) (Q1z s k) :=
 ⟨_,_,_,rfl,h.x.ext hx,h.y.ext hx,h.z.ext hx⟩
theorem Y9x (w:World) (v u:Value) (s:Q0c) (p:List Rul) (hv:Q0o w v s) (hu:Q3f w u (Q2n s p)) (hS:Q1d s) :
    Calls Tryz.prog 92 #[v,u] w fun e w'=>∃ x,e = .returned x /\ Q0b w' x (Q2h s p) /\ Ext w w':=by
 obtain ⟨i0,hi,hz0,hz1,hz2⟩:=info_parts Tryz.info3;have h8:=hS.some;have h6:=hS.tides;have HS:=Lib.hid hS;obtain ⟨a,b,rfl,h2⟩:=hv;obtain ⟨A,capa,rfl,-,-,-⟩:=h2.ships.opened;obtain ⟨M,capb,rfl,-,-,-⟩:=h2.members.opened;have H2:=Lib.hid h2;obtain ⟨U,capu,rfl,-,-,hcu⟩:=hu.opened;rw [Q2s] at hcu ⊢;have HCU:=Lib.hid hcu;clear h2 hu hcu hS;go_enter Tryz.func92,Tryz.ntmps92;go_wp2_with fail;change Code.wp _ _ _ _ (w.alloc (.cells #[.int .i64 s.limit,.slice A s.ships.length capa,.slice M s.members.length capb] 74));obtain ⟨W,hWW,k0,HXW,eW⟩:=Q2q w 74 #[.int .i64 s.limit,.slice A s.ships.length capa,.slice M s.members.length capb];rw [hWW];clear hWW;have K0:=Lib.hid k0;have c0_2:=k0.cell 2;simp only [Go.Tw.gA,Go.Tw.gB,Go.Tw.gC] at c0_2;obtain ⟨gs,hgs⟩:∃ x,w.heap.size = x:=⟨_,rfl⟩;rw [hgs] at K0 eW c0_2 ⊢;clear k0;go_wp2;clear c0_2
 go_loopw [5,11] (fun o i wr=>∃ (k:Nat),k <= s.members.length /\ i = .int .i64 k /\ Q0g wr W.heap.size 3 (.int .i64) o (Q5q s p k) /\ Ext W wr) (fun _ i _=>s.members.length - (intOf i).toNat)
 case atStart=>exact ⟨0,Nat.zero_le _,rfl,Q0g.nil _ _ _ _,Ext.refl _⟩
 case round =>
  obtain ⟨k,hk,rfl,hown,hxr⟩:=hrel;have HXR:=Lib.hid hxr;have HOW:=Lib.hid hown
  by_cases hlt:k < s.members.length
  . obtain ⟨bm,off,capx,capy,capz,X,Y,Z,hme⟩:=X8a (H2.out.members.ext (HXW.out.trans hxr)) hlt
    have HMEM:=Lib.hid hme;have hA:=hme.addr;subst hA;have e0:=hme.e0;have e1:=hme.e1;have e2:=hme.e2;have e3:=hme.e3;have e4:=hme.e4;have HM2:=Lib.hid (fun W' hW=>hme.mem (W:=W') hW);obtain ⟨bu,ou,xk,hU,-,hxk,hbk⟩:=HCU.out k hlt;subst hU;rw [Q8g p hlt] at hbk;have hlen:(Q0u p (Q0f s.members k)).length = s.ships.length:=by rw [Q4f,(HS.out.shaped k hlt).1]
    have HLN:Hid ((Q0u p (Q0f s.members k)).length <= 9):=Lib.hid (by omega)
    have HOK:=Lib.hid (Y8z HS.out hlt (n:=(Q0u p (Q0f s.members k)).length) (by omega))
    have hsuc:=Y2q s p k;have hkd:Z0o s p k = (Q1z s k).keeps s.limit (Q0u p (Q0f s.members k)):=rfl;obtain ⟨cl,hcl⟩:∃ x,Q0u p (Q0f s.members k) = x:=⟨_,rfl⟩;rw [hcl] at hbk HLN HOK hkd;obtain ⟨q,hq⟩:∃ x,(Q1z s k).keeps s.limit cl = x:=⟨_,rfl⟩;rw [hkd,hq] at hsuc;have HQ:=Lib.hid hq;have HSUC:=Lib.hid hsuc;obtain ⟨nm,hnm⟩:∃ x,Q1g s.members k = x:=⟨_,rfl⟩;obtain ⟨wt,hwt⟩:∃ x,Q1c s.members k = x:=⟨_,rfl⟩;obtain ⟨lc,hlc⟩:∃ x,(Q0f s.members k).length = x:=⟨_,rfl⟩;obtain ⟨lo,hlo⟩:∃ x,(Q0n s.members k).length = x:=⟨_,rfl⟩;obtain ⟨li,hli⟩:∃ x,(Q0v s.members k).length = x:=⟨_,rfl⟩;rw [hnm] at e0 HM2;rw [hwt] at e1 HM2;rw [hlc] at e2 HM2;rw [hlo] at e3 HM2;rw [hli] at e4 HM2;obtain ⟨Uk,capk,rfl,-,-,-⟩:=hbk.opened;have HXK:=Lib.hid hxk;have HBK:=Lib.hid hbk;have hkI:(k:Int) < s.members.length:=by omega
    have hbox:=Ext.box wr (.cells #[.string nm,.int .i64 wt,.slice X lc capx,.slice Y lo capy,.slice Z li capz] 90);have K3:=Blk.made wr 90 #[.string nm,.int .i64 wt,.slice X lc capx,.slice Y lo capy,.slice Z li capz];have HXB:=Lib.hid hbox;clear hme hlen hkd hcl hq hsuc hnm hwt hlc hlo hli hbox hown hxr hxk hbk HMEM
    go_light
    go_wp2;obtain ⟨W5,hW5⟩:∃ X',wr.alloc (.cells #[.string nm,.int .i64 wt,.slice X lc capx,.slice Y lo capy,.slice Z li capz] 90) = X':=⟨_,rfl⟩;obtain ⟨g,hg⟩:∃ x,wr.heap.size = x:=⟨_,rfl⟩;rw [hW5] at HXB K3 ⊢;rw [hg] at K3 ⊢;have KR:=Lib.hid K3;have hdr:=(Ext.refl W5).drew;clear hW5 K3 e0 e1 e2 e3 e4 hg;refine Flow.Q1p [.w,.p,.w,.p,.p,.p,.w,.w] [0,1,2,3,4,5,6,7] [[],[],[1],[],[],[3,4],[5],[0,2,6]]
     [.c 0 (.agg #[.string nm,.int .i64 wt,.slice X lc capx,.slice Y lo capy,.slice Z li capz]),.c 1 (.pointer (some ⟨gs,0,none⟩)),.c 2 (.int .i64 s.limit),.c 3 (.slice (some ⟨bu,ou,none⟩) s.members.length capu),.c 4 (.int .i64 (k:Int)),.c 5 (.pointer (some ⟨bu,ou + k,none⟩)),.c 6 (.slice Uk cl.length capk),.c 7 (.bool q)]
     (by kernel_rfl) rfl (by kernel_rfl) ⟨?g0,?g1,?g2,?g3,?g4,?g5,?g6,?g7,trivial⟩ ?post
    case g0=>
     intro v w1 hx;intro bb hbb;intro K hK;have o1:bb.eval (.tmp 7) = .pointer (some ⟨g,0,none⟩):=by rw [hbb]; dsimp only; (try simp (discharger:=decide) only [eval_put_ne]); rfl
     exact Q0s (.tmp 7) _ rfl Tryz.Z6z Tryz.Z5p o1 (KR.out.ext (hdr.trans hx)) rfl (hK _ _ (Ext.refl _) rfl)
    case g1 | g3 | g4=>
     intro v w1 hx;intro bb hbb;subst hbb;refine ⟨_,fun w=>?_,rfl⟩;go_simp
    case g2 | g6=>
     intro v w1 hx;(repeat intro (zq:v _ = _));intro bb hbb;subst hbb;have n0:w1.cell? ⟨gs,0,none⟩ = some (.int .i64 s.limit):=(K0.out.ext (HXR.out.trans (HXB.out.trans (hdr.trans hx)))).cell 0;have n1:w1.cell? ⟨bu,ou + k,none⟩ = some (.slice Uk cl.length capk):=(HXW.out.trans (HXR.out.trans (HXB.out.trans (hdr.trans hx)))).cell HXK.out;intro K hK;go_simp;exact hK _ _ (Ext.refl _) rfl
    case g5=>
     intro v w1 hx;(repeat intro (zq:v _ = _));intro bb hbb;subst hbb;refine ⟨_,fun w=>?_,rfl⟩;go_simp
    case g7=>
     intro v w1 hx;(repeat intro (zq:v _ = _));intro bb hbb;subst hbb;intro K hK;go_simp;refine Q0d (Y4x w1 _ _ (Q1z s k) s.limit cl (HM2.out w1 (HXB.out.trans (hdr.trans hx))) (HBK.out.ext (HXW.out.trans (HXR.out.trans (HXB.out.trans (hdr.trans hx))))) HLN.out HOK.out) ?_;rintro e w2 ⟨rfl,hx2⟩;rw [HQ.out];exact ⟨_,rfl,hK _ _ hx2 rfl⟩
    case post =>
     intro v w1 hx;(iterate 8 intro (zq:v _ = _));simp only [Flow.All,Flow.acts,Act.put];go_simp;have hxx:=HXR.out.trans (HXB.out.trans (hdr.trans hx));have hown:=HOW.out.below (HXB.out.trans (hdr.trans hx));have HXX:=Lib.hid hxx;clear hx hdr;(repeat clear zq);obtain ⟨w3,rfl⟩:∃ X,X = w1:=⟨_,rfl⟩;cases q with
     | true =>
       have HST:Hid (Q5q s p (k + 1) = Q5q s p k ++ [(k:Int)]):=Lib.hid (by rw [HSUC.out,if_pos (by trivial)])
       have hll:(Q5q s p k).length <= 4096:=by have:=X6l s p k; omega
       have HOW3:=Lib.hid hown;have hx3:=HXX.out;clear hxx;go_wp2_with (at_builtin; refine wpList_append_own _ rfl _ _ 44 rfl (W.heap.size) 3 i0 (.int .i64 0) 1 8 Tryz.underlying44 hi hz0 hz1 hz2 rfl (by decide) _ _ _ rfl (World.ownsRow.alloc hown _) ⟨w3.heap.size,0,none⟩ 1 1 [.int .i64 (k:Int)] rfl rfl ?_ ?_ ?_ ?_ ?_ ?_; exact Q4h _ _ _; (focus (simp [Value.oneCell'])); (focus (unfold maxLen; omega)); (focus omega); (focus (have:=hx3.size; simp at this ⊢; omega)); intro v' w1 hown' hgrow _)
       have hx':=Q2r hx3 HOW3.out (Nat.le_refl _) hgrow;go_roundw
       case rel=>exact ⟨k + 1,by omega,by go_num,by rw [HST.out]; exact Q0g.snoc hown',hx'⟩
       case measure=>simp [intOf]; omega
     | false =>
       have HST:Hid (Q5q s p (k + 1) = Q5q s p k):=Lib.hid (by rw [HSUC.out]; simp)
       have HOW3:=Lib.hid hown;clear hown hxx;go_wp2;go_roundw
       case rel=>exact ⟨k + 1,by omega,by go_num,by rw [HST.out]; exact HOW3.out,HXX.out⟩
       case measure=>simp [intOf]; omega
  . have hke:k = s.members.length:=by omega
    subst hke;go_wp2;go_ret;exact ⟨_,rfl,by rw [<- Y6b]; exact HOW.out.ints (by have:=X6l s p s.members.length; omega),HXW.out.trans HXR.out⟩
end Go.Proofs
namespace Go.Proofs
open Go.RowKit Go.Tw Go.Flow
attribute [local go_sem] Oper.semAt_some
def Y1h (w:World) (x:Value) (o:Option (List Bool)):Prop:=match o with
 | none=>x = .slice none 0 0
 | some b=>Q0g w 0 4 .bool x b
theorem Y1h.ext {w w':World} {x:Value} {o:Option (List Bool)} (h:Y1h w x o) (hx:Ext w w'):Y1h w' x o:=by
 cases o with
 | none=>exact h
 | some b=>exact Q0g.below h hx
theorem Y1h.turns {B:Nat} {w w':World} {x:Value} {o:Option (List Bool)} (h:Y1h w x o) (hx:Turns B w w'):Y1h w' x o:=by
 cases o with
 | none=>exact h
 | some b=>exact hx.own h
theorem X2e (w:World) (a:Addr) (n cap:Nat):(binOp .eql 78 (.slice (some a) n cap) (.slice none 0 0)).run Tryz.prog w = .ok (.bool false) w:=by kernel_rfl
theorem Q8p (w:World):(binOp .eql 78 (.slice none 0 0) (.slice none 0 0)).run Tryz.prog w = .ok (.bool true) w:=by kernel_rfl
attribute [local go_sem ↓] X2e Q8p
end Go.Proofs
namespace Go.Tw
open Go.RowKit
abbrev PV:=Plan × Value
def Y5j (q:PV):List Value:=[.int .i64 q.1.weight,.int .i64 q.1.closings,.int .i64 q.1.delay,q.2]
theorem Q7i (q:PV):(Y5j q).length = 4:=rfl
def Z7m (x:Plan) (c:Value):Value:=.agg #[.int .i64 x.weight,.int .i64 x.closings,.int .i64 x.delay,c]
end Go.Tw
namespace Go.Proofs
open Go.RowKit Go.Tw Go.Flow
attribute [local go_sem] Oper.semAt_some
def Q2d (w:World) (ps:List PV):Prop:=∀ q ∈ ps,Q0g w 0 9 .string q.2 q.1.closed
theorem Q2d.nil (w:World):Q2d w []:=fun _ hq=>by simp at hq
theorem Q2d.ext {w w':World} {ps:List PV} (h:Q2d w ps) (hx:Ext w w'):Q2d w' ps:=fun q hq=>(h q hq).below hx
theorem Q2d.snoc {w:World} {ps:List PV} {q:PV} (h:Q2d w ps) (hq:Q0g w 0 9 .string q.2 q.1.closed):Q2d w (ps ++ [q]):=fun z hz=>by
 rcases List.mem_append.1 hz with hz | hz
 . exact h z hz
 . rw [List.mem_singleton.1 hz]; exact hq
theorem Q2d.sub {w:World} {ps qs:List PV} (h:Q2d w ps) (hs:∀ q ∈ qs,q ∈ ps):Q2d w qs:=fun q hq=>h q (hs q hq)
theorem Q2d.shape {w:World} {ps:List PV} (h:Q2d w ps) {q:PV} (hq:q ∈ ps):∃ A n c,q.2 = .slice A n c:=by
 obtain ⟨A,c,he,_⟩:=(h q hq).shape;exact ⟨A,_,c,he⟩
theorem OwnP.cases {w:World} {B:Nat} {v:Value} {ps:List PV} (h:Q1r w B 151 4 Y5j v ps) :
    (v = .slice none 0 0 /\ ps = []) ∨ ∃ g cap cur,v = .slice (some ⟨g,0,none⟩) ps.length cap /\ B <= g /\ Blk w g 151 cur /\ ps.length <= cap /\ cap <= maxLen /\ cur.size = cap * 4 /\ cur.toList.take (ps.length * 4) = ps.flatMap Y5j:=by
 obtain ⟨h1,h2⟩:=h
 rcases h2 with ⟨rfl,h0⟩ | ⟨g,cap,cur,rfl,hbg,hg,hcap,hmax,hsz,ht⟩
 . exact .inl ⟨rfl,List.length_eq_zero_iff.1 h0⟩
 . exact .inr ⟨g,cap,cur,rfl,hbg,hg,hcap,hmax,hsz,ht⟩
def Z4b (g:Nat) (pre post:Array Value) (w:World) (t:Plan -> Bool):Prop :=
 ∀ W (y:Plan) (A:Option Addr) (n c:Nat),Ext w W -> Calls Tryz.prog g (pre ++ #[Z7m y (.slice A n c)] ++ post) W fun e W'=>e = .returned (.bool (t y)) /\ Ext W W'
end Go.Proofs
namespace Go.Proofs
open Go.RowKit Go.Tw Go.Flow
def X8m (x y:Int):Int:=if x < y then -1 else if y < x then 1 else 0
def cmpL:List Int -> List Int -> Int
 | [],[]=>0
 | [],_ :: _=>-1
 | _ :: _,[]=>1
 | x :: l,y :: m=>if x = y then cmpL l m else X8m x y
def X6b (a b:List Int):Int:=if X8m a.length b.length = 0 then cmpL a b else X8m a.length b.length
theorem Y9i {a b:List Int} {k:Nat} (ha:k < a.length) (hb:k < b.length):cmpL (a.drop k) (b.drop k) = if ix a k = ix b k then cmpL (a.drop (k + 1)) (b.drop (k + 1)) else X8m (ix a k) (ix b k):=by
 rw [Q2e ha,Q2e hb]; rfl
theorem Z2n {a b:List Int} {k:Nat} (ha:k < a.length) (hb:b.length <= k):cmpL (a.drop k) (b.drop k) = 1:=by
 rw [Q2e ha,List.drop_eq_nil_of_le hb]; rfl
theorem Z2z {a b:List Int} {k:Nat} (ha:a.length <= k) (hb:k < b.length):cmpL (a.drop k) (b.drop k) = -1:=by
 rw [Q2e hb,List.drop_eq_nil_of_le ha]; rfl
theorem cmpL_eq {a b:List Int} {k:Nat} (ha:a.length <= k) (hb:b.length <= k):cmpL (a.drop k) (b.drop k) = 0:=by
 rw [List.drop_eq_nil_of_le hb,List.drop_eq_nil_of_le ha]; rfl
theorem Q9x (w:World) (x y:Int) :
    Calls Tryz.prog 164 #[.int .i64 x,.int .i64 y] w fun e w'=>e = .returned (.int .i64 (X8m x y)) /\ w = w':=by
 unfold X8m
 by_cases h1:x < y
 . rw [if_pos h1]
   go_enter Tryz.func164,Tryz.ntmps164;go_wp2;go_ret;exact ⟨rfl,rfl⟩
 . by_cases h2:y < x
   . rw [if_neg h1,if_pos h2]
     go_enter Tryz.func164,Tryz.ntmps164;go_wp2;go_ret;exact ⟨rfl,rfl⟩
   . rw [if_neg h1,if_neg h2]
     go_enter Tryz.func164,Tryz.ntmps164;go_wp2;go_ret;exact ⟨rfl,rfl⟩
theorem X7s (w:World) (u v:Value) (a b:List Int) (hu:Q0b w u a) (hv:Q0b w v b) :
    Calls Tryz.prog 165 #[u,v] w fun e w'=>e = .returned (.int .i64 (cmpL a b)) /\ w = w':=by
 obtain ⟨A,ca,rfl,hla,hcapa,hca⟩:=hu.opened;obtain ⟨B,cb,rfl,hlb,hcapb,hcb⟩:=hv.opened;clear hu hv;go_enter Tryz.func165,Tryz.ntmps165;go_wp2
 go_loop [11] (fun i=>∃ k:Nat,k <= a.length /\ i = .int .i64 k /\ cmpL (a.drop k) (b.drop k) = cmpL a b) (fun i=>a.length - (intOf i).toNat)
 case atStart=>exact ⟨0,Nat.zero_le _,rfl,rfl⟩
 case round =>
  obtain ⟨k,hk,rfl,hr⟩:=hrel;have HR:=Lib.hid hr; clear hr
  by_cases hlt:k < a.length
  . obtain ⟨b1,off1,rfl,hc1⟩:=hca k hlt
    by_cases hlt2:k < b.length
    . obtain ⟨b2,off2,rfl,hc2⟩:=hcb k hlt2
      have HS:=Lib.hid (Y9i hlt hlt2);obtain ⟨x,hx⟩:∃ x,ix a k = x:=⟨_,rfl⟩;obtain ⟨y,hy⟩:∃ y,ix b k = y:=⟨_,rfl⟩;rw [hx,hy] at HS;rw [hx] at hc1;rw [hy] at hc2;clear hx hy hca hcb
      by_cases he:x = y
      . have hz:(X8m x y != 0) = false:=by unfold X8m; subst he; simp
        have HE:=Lib.hid he; clear he;go_wp2_with (go_at_call 164; refine (Q9x _ _ _).mono ?_; rintro e w' ⟨rfl,rfl⟩);go_round
        case rel=>exact ⟨k + 1,by omega,by go_num,by rw [<- HR.out,HS.out,if_pos HE.out]⟩
        case measure=>simp [intOf]; omega
      . have hz:(X8m x y != 0) = true:=by
         unfold X8m
         rcases Int.lt_or_gt_of_ne he with h | h
         . rw [if_pos h]; rfl
         . rw [if_neg (by omega),if_pos h]; rfl
        have HE:=Lib.hid he; clear he;go_wp2_with (go_at_call 164; refine (Q9x _ _ _).mono ?_; rintro e w' ⟨rfl,rfl⟩);go_ret;exact ⟨Q0q (by rw [<- HR.out,HS.out,if_neg HE.out]),rfl⟩
    . have HS:=Lib.hid (Z2n hlt (Nat.le_of_not_lt hlt2))
      clear hca hcb;go_wp2;go_ret;exact ⟨Q0q (by rw [<- HR.out,HS.out]),rfl⟩
  . have hke:k = a.length:=by omega
    by_cases hlt2:a.length < b.length
    . have HS:=Lib.hid (Z2z (Nat.le_of_not_lt hlt) (by rw [hke]; exact hlt2))
      clear hca hcb hke;go_wp2;go_ret;exact ⟨Q0q (by rw [<- HR.out,HS.out]),rfl⟩
    . have HS:=Lib.hid (cmpL_eq (Nat.le_of_not_lt hlt) (show b.length <= k by omega))
      clear hca hcb hke;go_wp2;go_ret;exact ⟨Q0q (by rw [<- HR.out,HS.out]),rfl⟩
theorem Y5q (w:World) (g:Nat) (x y:Int) (h0:w.cell? ⟨g,0,none⟩ = some (.int .i64 x)) (h1:w.cell? ⟨g,1,none⟩ = some (.int .i64 y)) :
    Calls Tryz.prog 163 #[.slice (some ⟨g,0,none⟩) 2 2] w fun e w'=>e = .returned (.int .i64 (if x = 0 then y else x)) /\ w = w':=by
 have HC:Hid (∀ k,k < 2 -> w.cell? ⟨g,0 + k,none⟩ = some (.int .i64 (ix [x,y] k))):=Lib.hid (fun k hk=>match k,hk with | 0,_=>h0 | 1,_=>h1)
 have HE:Hid (Q0h [x,y] = if x = 0 then y else x):=Lib.hid (by
  show (if x = 0 then (if y = 0 then 0 else y) else x) = _
  split
  . split <;> simp_all
  . rfl)
 rw [<- HE.out];clear h0 h1;obtain ⟨l,hl⟩:∃ l,[x,y] = l:=⟨_,rfl⟩;have hl2:l.length = 2:=by rw [<- hl]; rfl
 rw [hl] at HC ⊢;have HL2:=Lib.hid hl2;clear HE hl hl2;go_enter Tryz.func163,Tryz.ntmps163;go_wp2
 go_loop [8] (fun i=>∃ k:Nat,k <= 2 /\ i = .int .i64 k /\ Q0h (l.drop k) = Q0h l) (fun i=>2 - (intOf i).toNat)
 case atStart=>exact ⟨0,Nat.zero_le _,rfl,rfl⟩
 case round =>
  obtain ⟨k,hk,rfl,hr⟩:=hrel;have HR:=Lib.hid hr; clear hr
  by_cases hlt:k < 2
  . have hc:=HC.out k hlt
    have hst:Q0h (l.drop k) = if ix l k = 0 then Q0h (l.drop (k + 1)) else ix l k:=by rw [Q2e (by rw [HL2.out]; exact hlt)]; rfl
    obtain ⟨z,hz⟩:∃ z,ix l k = z:=⟨_,rfl⟩;rw [hz] at hc hst;have HST:=Lib.hid hst;rw [Nat.zero_add] at hc;clear hst hz
    by_cases he:z = 0
    . have hzb:(z != 0) = false:=by simp [he]
      have HE:=Lib.hid he; clear he;go_wp2;go_round
      case rel=>exact ⟨k + 1,by omega,by go_num,by rw [<- HR.out,HST.out,if_pos HE.out]⟩
      case measure=>simp [intOf]; omega
    . have hzb:(z != 0) = true:=by simp [he]
      have HE:=Lib.hid he; clear he;go_wp2;go_ret;exact ⟨Q0q (by rw [<- HR.out,HST.out,if_neg HE.out]),rfl⟩
  . go_wp2
    go_ret;exact ⟨Q0q (by rw [<- HR.out,List.drop_eq_nil_of_le (by rw [HL2.out]; omega)]; rfl),rfl⟩
theorem X1t (w:World) (u v:Value) (a b:List Int) (hu:Q0b w u a) (hv:Q0b w v b) :
    Calls Tryz.prog 111 #[u,v] w fun e w'=>e = .returned (.int .i64 (X6b a b)) /\ ∃ o,w' = w.alloc o:=by
 have HU:=Lib.hid hu;have HV:=Lib.hid hv;obtain ⟨A,ca,rfl,hla,hcapa,hca⟩:=hu.opened;obtain ⟨B,cb,rfl,hlb,hcapb,hcb⟩:=hv.opened;clear hu hv hca hcb;have HOR:Hid (∀ (x y:Int),Calls Tryz.prog 163 #[.slice (some ⟨w.heap.size,0,none⟩) 2 2] (w.alloc (.cells #[.int .i64 x,.int .i64 y] 3)) fun e w'=>e = .returned (.int .i64 (if x = 0 then y else x)) /\ (w.alloc (.cells #[.int .i64 x,.int .i64 y] 3)) = w'):=Lib.hid (fun x y=>Y5q _ w.heap.size x y ((Blk.made _ _ _).cell 0) ((Blk.made _ _ _).cell 1))
 have HH:Hid ((if X8m a.length b.length = 0 then cmpL a b else X8m a.length b.length) = X6b a b):=Lib.hid rfl
 go_enter Tryz.func111,Tryz.ntmps111;go_wp2_with (first | (go_at_call 165; refine (X7s _ _ _ a b HU.out HV.out).mono ?_; rintro e w' ⟨rfl,rfl⟩) | (go_at_call 164; refine (Q9x _ _ _).mono ?_; rintro e w' ⟨rfl,rfl⟩) | (go_at_call 163; refine (HOR.out _ _).mono ?_; rintro e w' ⟨rfl,rfl⟩; rw [HH.out]))
 go_ret;exact ⟨rfl,_,rfl⟩
theorem Q7y (w:World) (u v:Value) (a b:List Int) (hu:Q0b w u a) (hv:Q0b w v b) :
    Calls Tryz.prog 113 #[u,v] w fun e w'=>e = .returned (.bool (X6b a b == 0)) /\ ∃ o,w' = w.alloc o:=by
 have HU:=Lib.hid hu;have HV:=Lib.hid hv;obtain ⟨A,ca,rfl,hla,hcapa,hca⟩:=hu.opened;obtain ⟨B,cb,rfl,hlb,hcapb,hcb⟩:=hv.opened;clear hu hv hca hcb;go_enter Tryz.func113,Tryz.ntmps113;go_wp2_with (go_at_call 111; refine (X1t _ _ _ a b HU.out HV.out).mono ?_; rintro e w' ⟨rfl,o,rfl⟩);go_ret;exact ⟨rfl,_,rfl⟩
end Go.Proofs
namespace Go.Proofs
open Go.Shelf
open Go.Lib in
def Tryz.X8h:Go.Shelf.Ren:=⟨fun | 15=>93 | n=>n,fun | 22=>44 | 3=>3 | 4=>4 | n=>n,fun | n=>n⟩
theorem Tryz.laysNm215:Go.Proofs.Lays2.n15 Tryz.prog Tryz.X8h:={
 mixed:=by kernel_rfl
 f15:=Tryz.func93.trans (congrArg some (by kernel_rfl))
 t3:=Tryz.underlying3
 a3:=Tryz.isAgg3
 z3:=Tryz.sizeOf3
 v3:=Tryz.zeroValue3
 t4:=Tryz.underlying4
 a4:=Tryz.isAgg4
 z4:=Tryz.sizeOf4
 v4:=Tryz.zeroValue4
 t22:=Tryz.underlying44
 a22:=Tryz.isAgg44
 z22:=Tryz.sizeOf44
 v22:=Tryz.zeroValue44
 i3:=by kernel_rfl }
open Go.RowKit Go.Lib in
theorem Tryz.slices_Clone_int (b off n c:Nat) (zs:List Int) (w:World) (hz:n <= zs.length) (hbig:n * 8 <= 140737488355328) (hc:∀ j,j < zs.length -> w.cell? ⟨b,off + j,none⟩ = some (.int .i64 (zs.getD j 0))) :
    Calls Tryz.prog 93 #[.slice (some ⟨b,off,none⟩) n c] w fun e w'=>∃ v',e = .returned v' /\ w'.ownsRow w.heap.size 3 1 v' n ((zs.take n).map (Value.int .i64)) /\ v' ≠ .slice none 0 0 /\ Below w.heap.size w w':=Any.slices_Clone_int Tryz.laysNm215 b off n c zs w hz hbig hc
open Go.RowKit Go.Lib in
theorem Tryz.slices_Clone_int_nil (n c:Nat) (w:World) :
    Calls Tryz.prog 93 #[.slice none n c] w fun e w'=>e = .returned (.slice none 0 0) /\ w' = w:=Any.slices_Clone_int_nil Tryz.laysNm215 n c w
open Go.RowKit Go.Lib in
theorem Tryz.slices_Clone_int_zero (a:Addr) (c:Nat) (w:World) :
    Calls Tryz.prog 93 #[.slice (some a) 0 c] w fun e w'=>∃ v',e = .returned v' /\ w'.ownsRow w.heap.size 3 1 v' 0 [] /\ v' ≠ .slice none 0 0 /\ Below w.heap.size w w':=Any.slices_Clone_int_zero Tryz.laysNm215 a c w
open Go.RowKit Go.Lib in
def Tryz.Y2f:Go.Shelf.Ren:=⟨fun | 6=>110 | 15=>162 | 14=>161 | 28=>195 | 29=>196 | 20=>187 | 21=>188 | 22=>189 | 23=>190 | 24=>191 | 25=>192 | 26=>193 | 27=>194 | 46=>217 | 47=>218 | 48=>219 | 49=>220 | 50=>221 | 57=>226 | n=>n,fun | 22=>158 | 24=>157 | 25=>210 | 3=>3 | 39=>260 | 0=>0 | 53=>297 | 55=>299 | 4=>4 | 46=>290 | 45=>289 | 50=>294 | 5=>5 | 9=>9 | 66=>316 | 70=>320 | 76=>327 | 77=>196 | n=>n,fun | n=>n⟩
theorem Tryz.sortSet:Go.Proofs.SlLaysF.n6 Tryz.prog Tryz.Y2f:={
 mixed:=by kernel_rfl
 f6:=⟨Tryz.f110.name,by decide,Tryz.func110.trans (congrArg some (by kernel_rfl))⟩
 f14:=⟨Tryz.f161.name,by decide,Tryz.func161.trans (congrArg some (by kernel_rfl))⟩
 f15:=Tryz.func162.trans (congrArg some (by kernel_rfl))
 f20:=⟨Tryz.f187.name,by decide,Tryz.func187.trans (congrArg some (by kernel_rfl))⟩
 f21:=⟨Tryz.f188.name,by decide,Tryz.func188.trans (congrArg some (by kernel_rfl))⟩
 f22:=⟨Tryz.f189.name,by decide,Tryz.func189.trans (congrArg some (by kernel_rfl))⟩
 f23:=⟨Tryz.f190.name,by decide,Tryz.func190.trans (congrArg some (by kernel_rfl))⟩
 f24:=⟨Tryz.f191.name,by decide,Tryz.func191.trans (congrArg some (by kernel_rfl))⟩
 f25:=⟨Tryz.f192.name,by decide,Tryz.func192.trans (congrArg some (by kernel_rfl))⟩
 f26:=⟨Tryz.f193.name,by decide,Tryz.func193.trans (congrArg some (by kernel_rfl))⟩
 f27:=⟨Tryz.f194.name,by decide,Tryz.func194.trans (congrArg some (by kernel_rfl))⟩
 f28:=Tryz.func195.trans (congrArg some (by kernel_rfl))
 f29:=Tryz.func196.trans (congrArg some (by kernel_rfl))
 f46:=⟨Tryz.f217.name,by decide,Tryz.func217.trans (congrArg some (by kernel_rfl))⟩
 f47:=Tryz.func218.trans (congrArg some (by kernel_rfl))
 f48:=Tryz.func219.trans (congrArg some (by kernel_rfl))
 f49:=⟨Tryz.f220.name,by decide,Tryz.func220.trans (congrArg some (by kernel_rfl))⟩
 f50:=⟨Tryz.f221.name,by decide,Tryz.func221.trans (congrArg some (by kernel_rfl))⟩
 f57:=⟨Tryz.f226.name,by decide,Tryz.func226.trans (congrArg some (by kernel_rfl))⟩
 t0:=Tryz.underlying0
 a0:=Tryz.isAgg0
 z0:=Tryz.sizeOf0
 v0:=Tryz.zeroValue0
 t3:=Tryz.underlying3
 a3:=Tryz.isAgg3
 z3:=Tryz.sizeOf3
 v3:=Tryz.zeroValue3
 t4:=Tryz.underlying4
 a4:=Tryz.isAgg4
 z4:=Tryz.sizeOf4
 v4:=Tryz.zeroValue4
 t5:=Tryz.underlying5
 a5:=Tryz.isAgg5
 z5:=Tryz.sizeOf5
 v5:=Tryz.zeroValue5
 t9:=Tryz.underlying9
 a9:=Tryz.isAgg9
 z9:=Tryz.sizeOf9
 v9:=Tryz.zeroValue9
 t22:=Tryz.underlying158
 a22:=Tryz.isAgg158
 z22:=Tryz.sizeOf158
 v22:=Tryz.zeroValue158
 a24:=Tryz.isAgg157
 z24:=Tryz.sizeOf157
 t25:=Tryz.underlying210
 a25:=Tryz.isAgg210
 z25:=Tryz.sizeOf210
 v25:=Tryz.zeroValue210
 t39:=Tryz.underlying260
 a39:=Tryz.isAgg260
 z39:=Tryz.sizeOf260
 v39:=Tryz.zeroValue260
 t45:=Tryz.underlying289
 a45:=Tryz.isAgg289
 z45:=Tryz.sizeOf289
 v45:=Tryz.zeroValue289
 t46:=Tryz.underlying290
 a46:=Tryz.isAgg290
 z46:=Tryz.sizeOf290
 v46:=Tryz.zeroValue290
 t50:=Tryz.underlying294
 a50:=Tryz.isAgg294
 z50:=Tryz.sizeOf294
 v50:=Tryz.zeroValue294
 t53:=Tryz.underlying297
 a53:=Tryz.isAgg297
 z53:=Tryz.sizeOf297
 v53:=Tryz.zeroValue297
 t55:=Tryz.underlying299
 a55:=Tryz.isAgg299
 z55:=Tryz.sizeOf299
 v55:=Tryz.zeroValue299
 t66:=Tryz.underlying316
 a66:=Tryz.isAgg316
 z66:=Tryz.sizeOf316
 v66:=Tryz.zeroValue316
 t70:=Tryz.underlying320
 a70:=Tryz.isAgg320
 z70:=Tryz.sizeOf320
 v70:=Tryz.zeroValue320
 t76:=Tryz.underlying327
 a76:=Tryz.isAgg327
 z76:=Tryz.sizeOf327
 v76:=Tryz.zeroValue327
 t77:=Tryz.underlying196
 a77:=Tryz.isAgg196
 z77:=Tryz.sizeOf196
 v77:=Tryz.zeroValue196 }
end Go.Proofs
namespace Go.Proofs
open Go.RowKit Go.Tw Go.Flow Go.Sort
theorem Y7p (x y:Int):X8m x y < 0 ↔ x < y:=by unfold X8m; split <;> (try split) <;> omega
theorem X9s (x y:Int) (l m:List Int):cmpL (x :: l) (y :: m) < 0 ↔ x < y ∨ (x = y /\ cmpL l m < 0):=by
 show (if x = y then cmpL l m else X8m x y) < 0 ↔ _
 split
 . rename_i h; simp [h]
 . rename_i h; rw [Y7p]; simp [h]
theorem X9t:∀ a b:List Int,a.length = b.length -> (Q3r a b = true ↔ cmpL a b < 0)
 | [],[],_=>by simp [Q3r,cmpL]
 | [],_ :: _,h=>by simp at h
 | _ :: _,[],h=>by simp at h
 | x :: l,y :: m,h=>by
   rw [X9s];show (if x = y then Q3r l m else decide (x < y)) = true ↔ _
   split
   . rename_i hxy
     rw [X9t l m (by simpa using h)]
     simp [hxy]
   . rename_i hxy
     simp [hxy]
theorem Q9a (x y:Int):X8m x y = 0 ↔ x = y:=by unfold X8m; split <;> (try split) <;> omega
theorem Y0q:∀ a b:List Int,cmpL a b = 0 ↔ a = b
 | [],[]=>by simp [cmpL]
 | [],_ :: _=>by simp [cmpL]
 | _ :: _,[]=>by simp [cmpL]
 | x :: l,y :: m=>by
   show (if x = y then cmpL l m else X8m x y) = 0 ↔ _
   split
   . rename_i h; rw [Y0q l m]; simp [h]
   . rename_i h; rw [Q9a]; simp [h]
theorem Q9f (a b:List Int):X6b a b = 0 ↔ a = b:=by
 unfold X6b
 split
 . exact Y0q a b
 . rename_i h
   constructor
   . intro k; exact absurd k h
   . intro k; subst k; exact absurd ((Q9a _ _).2 rfl) h
theorem Q4t (a b:List Int):X6b a b < 0 ↔ Q1i a b = true:=by
 unfold X6b Q1i
 split
 . rename_i h
   have hl:a.length = b.length:=by have:=(Q9a _ _).1 h; omega
   rw [if_pos hl];exact (X9t a b hl).symm
 . rename_i h
   have hl:¬ a.length = b.length:=fun e=>h (by rw [e]; exact (Q9a _ _).2 rfl)
   rw [if_neg hl,Y7p,decide_eq_true_iff];omega
theorem Y3a (a:List Int):¬ X6b a a < 0:=by rw [Q4t]; exact Q5h a
theorem X6g {a b c:List Int} (h1:X6b a b < 0) (h2:X6b b c < 0):X6b a c < 0:=by rw [Q4t] at *; exact Q4m h1 h2
theorem Y4j (a b:List Int):X6b a b < 0 ∨ a = b ∨ X6b b a < 0:=by
 rw [Q4t,Q4t];cases h:Q1i a b with
 | true=>exact .inl rfl
 | false=>exact .inr (X3p h)
theorem Z1a (f:Nat -> List Int):SWO (ltOf fun x y:Nat=>X6b (f x) (f y)) where
 irrefl x:=by simpa [ltOf] using Y3a (f x)
 trans x y z h1 h2:=by simp only [ltOf,decide_eq_true_eq] at *; exact X6g h1 h2
 ntrans x y z h1 h2:=by
  simp only [ltOf,decide_eq_false_iff_not] at *;intro h
  rcases Y4j (f x) (f y) with h' | h' | h'
  . exact h1 h'
  . rw [h'] at h; exact h2 h
  . exact h2 (X6g h' h)
def Sets (w:World) (vs:List Value) (ll:List (List Int)):Prop:=vs.length = ll.length /\ ∀ i,i < ll.length -> Q0g w 0 3 (.int .i64) (vs.getD i undef) (ll.getD i []) /\ (ll.getD i []).length <= 8
theorem Y3e {w W:World} {v:Value} {l:List Int} (h:Q0g w 0 3 (.int .i64) v l) (hb:∀ b,v.ownBlock = some b -> b < w.heap.size -> W.heap[b]? = w.heap[b]?):Q0g W 0 3 (.int .i64) v l:=by
 obtain ⟨h1,h2⟩:=h;refine ⟨h1,?_⟩
 rcases h2 with h2 | ⟨g,cap,cur,hv,hbg,hg,r⟩
 . exact .inl h2
 . exact .inr ⟨g,cap,cur,hv,hbg,(hb g (by rw [hv]; rfl) (Array.getElem?_eq_some_iff.1 hg).1).trans hg,r⟩
theorem X7d {w:World} {v:Value} {l:List Int} {g:Nat} {cur:Array Value} {fr:Nat × Nat} (h:Q0g w 0 3 (.int .i64) v l) (hg:w.heap[g]? = some (.cells cur 157 fr)):v.ownBlock ≠ some g:=by
 intro e;obtain ⟨h1,h2⟩:=h
 rcases h2 with ⟨rfl,_⟩ | ⟨g',cap,cur',rfl,hbg,hg',r⟩
 . cases e
 . obtain rfl:g' = g:=by simpa [Value.ownBlock] using e
   rw [hg] at hg';injection hg' with h;injection h with _ h;exact absurd h (by decide)
theorem Sets.at {w W:World} {vs:List Value} {ll:List (List Int)} (h:Sets w vs ll) (hb:∀ v l,Q0g w 0 3 (.int .i64) v l -> ∀ b,v.ownBlock = some b -> b < w.heap.size -> W.heap[b]? = w.heap[b]?):Sets W vs ll :=
 ⟨h.1,fun i hi=>⟨Y3e (h.2 i hi).1 (hb _ _ (h.2 i hi).1),(h.2 i hi).2⟩⟩
theorem Sets.ext {w W:World} {vs:List Value} {ll:List (List Int)} (h:Sets w vs ll) (hx:Ext w W):Sets W vs ll:=h.at fun _ _ _ b _ hb=>Below.block hx b hb
theorem Sets.reads {w:World} {vs:List Value} {ll:List (List Int)} (h:Sets w vs ll):Reads w vs ll:=⟨h.1,fun i hi=>(h.2 i hi).1.ints (by have:=(h.2 i hi).2; omega)⟩
theorem Sets.nil (w:World):Sets w [] []:=⟨rfl,fun i hi=>by simp at hi⟩
theorem Sets.snoc {w:World} {vs:List Value} {ll:List (List Int)} {v:Value} {l:List Int} (h:Sets w vs ll) (hv:Q0g w 0 3 (.int .i64) v l) (hl:l.length <= 8):Sets w (vs ++ [v]) (ll ++ [l]):=by
 refine ⟨by simp [h.1],fun i hi=>?_⟩
 rw [List.length_append,List.length_singleton] at hi
 by_cases hlt:i < ll.length
 . have e1:(vs ++ [v]).getD i undef = vs.getD i undef:=by simp [List.getElem?_append_left (show i < vs.length by rw [h.1]; exact hlt)]
   have e2:(ll ++ [l]).getD i [] = ll.getD i []:=by simp [List.getElem?_append_left hlt]
   rw [e1,e2]; exact h.2 i hlt
 . have e:i = ll.length:=by omega
   have e1:(vs ++ [v]).getD i undef = v:=by rw [e,<- h.1]; simp
   have e2:(ll ++ [l]).getD i [] = l:=by rw [e]; simp
   rw [e1,e2]; exact ⟨hv,hl⟩
theorem Q4d {α:Type} [Inhabited α] (enc:α -> Value) (w:World) (blk off n:Nat) (d:Array α) (os:Array Obj) {k:Nat} (hk:k < w.heap.size) (hne:k ≠ blk):(sortWorld enc w blk off n d os).heap[k]? = w.heap[k]?:=by
 unfold sortWorld;rw [heap_grow_old _ _ (by rw [size_putRow]; exact hk)]
 show (w.heap.modify blk _)[k]? = _;rw [Array.getElem?_modify,if_neg (fun h=>hne h.symm)]
theorem X5w {α:Type} [Inhabited α] (enc:α -> Value) (w:World) (blk off n:Nat) (d:Array α) (os:Array Obj):w.heap.size <= (sortWorld enc w blk off n d os).heap.size:=by
 unfold sortWorld;rw [size_grow,size_putRow]; show w.heap.size <= w.heap.size + _; omega
theorem X3z {α:Type} [Inhabited α] (enc:α -> Value) (w:World) (blk off n:Nat) (d:Array α) (os:Array Obj):w.grownBy (sortWorld enc w blk off n d os) (some blk) :=
 ⟨rfl,rfl,rfl,X5w _ _ _ _ _ _ _,fun k hk hne=>Q4d _ _ _ _ _ _ _ hk (fun e=>hne (by rw [e]))⟩
theorem X5b {α:Type} [Inhabited α] (enc:α -> Value) (w:World) (blk off n:Nat) (d0 d:Array α) (os:Array Obj) (h0:Holds enc w blk off d0) (hs:d.size = d0.size) (hb:blk < w.heap.size):Holds enc (sortWorld enc w blk off n d os) blk off d:=by
 unfold sortWorld;exact holds_grow _ _ _ _ _ _ (by rw [size_putRow]; exact hb) (holds_putRow enc (Sort.ahead w n) blk off d0 d (holds_ahead _ _ _ _ _ _ h0) hs)
theorem Y6l {w:World} {v:Value} {l:List Int} {g:Nat} {cs:Array Value} {T:TypeId} (hT:T ≠ 3) (h:Q0g w 0 3 (.int .i64) v l) (hg:Blk w g T cs):v.ownBlock ≠ some g:=by
 intro e;obtain ⟨h1,h2⟩:=h
 rcases h2 with ⟨rfl,_⟩ | ⟨g',cap,cur',rfl,hbg,hg',r⟩
 . cases e
 . obtain rfl:g' = g:=by simpa [Value.ownBlock] using e
   unfold Blk at hg;rw [hg] at hg';injection hg' with h;injection h with _ h;exact hT h
theorem X7e {α:Type} [Inhabited α] (enc:α -> Value) (w:World) (g n:Nat) (d:Array α) (os:Array Obj) {T:TypeId} {cur:Array Value} (hb:Blk w g T cur):∃ cur',Blk (sortWorld enc w g 0 n d os) g T cur' /\ cur'.size = cur.size:=by
 refine ⟨putCells enc 0 d cur,?_,by simp [putCells]⟩
 unfold Blk sortWorld;rw [heap_grow_old _ _ (by rw [size_putRow]; exact hb.lt)]
 show (w.heap.modify g _)[g]? = _;rw [Array.getElem?_modify,if_pos rfl];unfold Blk at hb;rw [hb]; rfl
def Sorted (ll:List (List Int)):Prop:=ll.Pairwise fun a b=>¬ X6b b a < 0
def Y3u (w:World) (g:Nat) (cur vs:List Value) (ll:List (List Int)):Prop:=Blk w g 157 cur.toArray /\ cur.take vs.length = vs /\ Sets w vs ll
theorem Y9p (w:World) (g cap base:Nat) (vs:List Value) (ll:List (List Int)) (hown:Q0g w base 157 idV (.slice (some ⟨g,0,none⟩) vs.length cap) vs) (hs:Sets w vs ll) (hle:ll.length <= 4096) :
    Calls Tryz.prog 110 #[.slice (some ⟨g,0,none⟩) ll.length cap,.func (.func 111) #[] #[]] w fun e w'=>e = .returned (.tuple #[]) /\ ∃ ll' cur vs',ll'.Perm ll /\ Sorted ll' /\ Y3u w' g cur vs' ll' /\ w.grownBy w' (some g):=by
 obtain ⟨cur,hcur,hgl,hcap,htake⟩:∃ cur,w.heap[g]? = some (.cells cur 157 (0,0)) /\ g < w.heap.size /\ vs.length <= cap /\ cur.toList.take vs.length = vs:=by
  obtain ⟨h1,h2⟩:=hown
  rcases h2 with ⟨h2,_⟩ | ⟨g',cap',cur,hv,hb,hg,hc,hm,hz,ht⟩
  . cases h2
  . injection hv with e1 e2 e3
    injection e1 with e1;injection e1 with e1;subst e1; subst e3;refine ⟨cur,hg,(Array.getElem?_eq_some_iff.1 hg).1,hc,?_⟩;have hid:vs.map idV = vs:=by show vs.map id = vs; exact List.map_id vs
    rw [hid,Nat.mul_one] at ht;exact ht
 have hlen:=hs.1;obtain ⟨K,hK⟩:∃ K,ll.length = K:=⟨_,rfl⟩;rw [hK] at hlen hle ⊢
 let z:Value:=.slice none 0 0
 let enc:Nat -> Value:=fun x=>vs.getD x z
 let cont:Nat -> List Int:=fun x=>ll.getD x []
 have hint:∀ x W,(∀ k,k < w.heap.size -> k ≠ g -> W.heap[k]? = w.heap[k]?) -> Q0b W (enc x) (cont x):=by
  intro x W hW
  by_cases hx:x < K
  . have h1:=(hs.2 x (by omega)).1
    have h2:=Y3e (W:=W) h1 (fun b hb hbl=>hW b hbl (fun e=>X7d h1 hcur (by rw [<- e]; exact hb)))
    have h3:=h2.ints (by have:=(hs.2 x (by omega)).2; omega)
    have e1:vs.getD x undef = enc x:=by simp [enc,z,show x < vs.length by omega]
    rw [e1] at h3;exact h3
  . have e1:enc x = .slice none 0 0:=by simp [enc,z,show ¬ x < vs.length by omega,List.getD_eq_getElem?_getD]
    have e2:cont x = []:=by simp [cont,List.getD_eq_getElem?_getD,List.getElem?_eq_none (show ll.length <= x by omega)]
    rw [e1,e2];exact Rows.nil 1 _ W
 have hone:OneCell enc:=by
  intro x;obtain ⟨A,c,he,_⟩:=(hint x w (fun _ _ _=>rfl)).opened
  rw [he]; rfl
 have hH:Holds enc w g 0 (Array.range K):=by
  intro j hj;rw [Array.size_range] at hj;have e1:(Array.range K)[j]! = j:=by rw [getElem!_pos _ j (by simpa using hj)]; simp
  rw [e1];refine ⟨?_,by simp [World.frozen?,hcur]⟩
  have h1:=congrArg (fun l=>l[j]?) htake;rw [Nat.zero_add];simp only [List.getElem?_take,show j < vs.length by omega,if_true] at h1
  show (match w.heap[g]? with | some (.cells c _ _)=>_ | _=>_) = _
  rw [hcur];simp only [Option.isSome_none,Bool.false_eq_true,if_false];rw [<- Array.getElem?_toList,h1];simp [enc,show j < vs.length by omega]
 have hcmp:CmpLays1 Tryz.prog 111 #[] enc (fun x y=>X6b (cont x) (cont y)) g 0 (Array.range K).size w:=by
  intro m os dk hdk x y;have h:=X1t (sortWorld enc w g 0 m dk os) (enc x) (enc y) (cont x) (cont y) (hint x _ (fun k hk hne=>Q4d _ _ _ _ _ _ _ hk hne)) (hint y _ (fun k hk hne=>Q4d _ _ _ _ _ _ _ hk hne));exact h.mono fun e w' ⟨he,o,hw⟩=>⟨he,0,#[o],by rw [hw,alloc_eq_grow]; rfl⟩
 have eg:∀ args w,(callFunc 111 args).run Tryz.prog w = .ok (.enter 111 args) w:=enters_of Tryz.func111 (by kernel_rfl) rfl
 have hcon:=Any.slices_SortFunc Tryz.sortSet enc hone (fun x y=>X6b (cont x) (cont y)) (Z1a cont) 111 #[] g 0 cap (Array.range K) w eg hcmp hH hgl (by rw [Array.size_range]; omega)
 rw [Array.size_range] at hcon;change Calls Tryz.prog 110 _ _ _ at hcon;refine hcon.mono fun e w' ⟨he,d',n,os,hp,hso,hw⟩=>⟨he,?_⟩;subst hw;obtain ⟨hp1,_,hp3⟩:=hp;rw [Array.size_range] at hp1;have hperm:d'.toList.Perm (List.range K):=by
  have e1:d'.extract 0 K = d':=by rw [<- hp1]; simp
  have e2:(Array.range K).extract 0 K = Array.range K:=by
   apply Array.toList_inj.1
   rw [Array.toList_extract,List.extract_eq_take_drop,List.drop_zero];exact List.take_of_length_le (by simp)
  rw [e1,e2] at hp3
  simpa using hp3
 have hll:(List.range K).map cont = ll:=by
  apply List.ext_getElem
  . simp [hK]
  . intro i h1 h2; simp [cont,h2]
 obtain ⟨cur',hb',hcs⟩:=X7e enc w g n d' os (show Blk w g 157 cur from hcur)
 have hho:=X5b enc w g 0 n (Array.range K) d' os hH (by simp [hp1]) hgl
 have hcl:K <= cur'.size:=by
  have:cur.toList.length = cur.size:=Array.length_toList;have h2:=congrArg List.length htake;rw [List.length_take] at h2;omega
 have hvl:(d'.toList.map enc).length = K:=by simp [hp1]
 refine ⟨d'.toList.map cont,cur'.toList,d'.toList.map enc,by rw [<- hll]; exact hperm.map cont,?_,⟨by rw [Array.toArray_toList]; exact hb',?_,?_,?_⟩,X3z _ _ _ _ _ _ _⟩
 . unfold Sorted
   rw [List.pairwise_map,List.pairwise_iff_getElem];intro i j hi hj hij;have hi':i < d'.size:=by simpa using hi
   have hj':j < d'.size:=by simpa using hj
   have h:=hso i j (Nat.zero_le _) hij (by omega)
   rw [getElem!_pos d' i hi',getElem!_pos d' j hj'] at h
   simpa [ltOf] using h
 . apply List.ext_getElem
   . rw [List.length_take,hvl,Array.length_toList]; omega
   . intro i h1 h2
     have hi:i < K:=by rw [hvl] at h2; exact h2
     have h3:=(hho i (by omega)).1
     rw [Nat.zero_add,hb'.cell,Array.getElem?_eq_getElem (by omega),Option.some.injEq] at h3
     rw [List.getElem_take,Array.getElem_toList,h3,List.getElem_map,Array.getElem_toList,getElem!_pos d' i (by omega)]
 . simp
 . intro i hi
   have hi':i < K:=by simpa [hp1] using hi
   have hid:i < d'.size:=by omega
   have hx:d'[i] < K:=by
    have:=hperm.mem_iff.1 (show d'[i] ∈ d'.toList from by simp)
    exact List.mem_range.1 this
   have h1:=hs.2 d'[i] (by omega)
   have e1:(d'.toList.map enc).getD i undef = vs.getD d'[i] undef:=by
    rw [List.getD_eq_getElem?_getD,List.getElem?_eq_getElem (by rw [hvl]; exact hi'),List.getElem_map,Array.getElem_toList]
    simp [enc,show d'[i] < vs.length by omega]
   have e2:(d'.toList.map cont).getD i [] = ll.getD d'[i] []:=by
    rw [List.getD_eq_getElem?_getD,List.getElem?_eq_getElem (by simp [hp1]; exact hi'),List.getElem_map,Array.getElem_toList]
    simp [cont]
   rw [e1,e2];refine ⟨Y3e h1.1 fun b hb hbl=>Q4d _ _ _ _ _ _ _ hbl fun e=>X7d h1.1 hcur (by rw [<- e]; exact hb),h1.2⟩
end Go.Proofs
namespace Go.Tw
open Go.RowKit Go.Flow
theorem Y3j {P:Program} {w:World} (t ty e:TypeId) (ht:P.underlying t = some (.slice e)) {g off:Nat} {T:TypeId} {cur:Array Value} (hb:Blk w g T cur) (n cap:Nat) (hn:0 < n) (z:Value) (hz:∀ w,(zeroValue e).run P w = .ok z w) (h1:∀ v ∈ (Builtin.zeroCells z.cells n).toList,v.oneCell' = true) (hfit:off + (Builtin.zeroCells z.cells n).size <= cur.size) :
    ∃ w',(Builtin.clear_ #[t] ty #[.slice (some ⟨g,off,none⟩) n cap]).run P w = .ok (.tuple #[]) w' /\ Blk w' g T (Q1u cur off (Builtin.zeroCells z.cells n).toList) /\ (∀ n,n <= g -> Below n w w') /\ ∀ k,k ≠ g -> w'.heap[k]? = w.heap[k]?:=by
 obtain ⟨w',hr,hb',hl,hoo⟩:=Q5z (P:=P) (off:=off) (Builtin.zeroCells z.cells n).toList 0 w cur hb h1 (by simpa using hfit)
 refine ⟨w',?_,by simpa using hb',hl,hoo⟩
 obtain ⟨m,rfl⟩:∃ m,n = m + 1:=⟨n - 1,by omega⟩
 simp [Builtin.clear_,run_underlying ht,hz,hr]
theorem X5j {P:Program} {w:World} {ops:Array Oper} {rest:List Oper} {o:Oper} {a:Act} {Q:Exit -> Act -> World -> Prop} (hgd:o.guard = none) (x:Operand) (t e:TypeId) (ho:o.op = .call { callee:=.builtin .clear,args:=#[x],argTypes:=#[t] }) (ht:P.underlying t = some (.slice e))
    {g off n cap:Nat} (hn:0 < n) (hx:a.eval x = .slice (some ⟨g,off,none⟩) n cap) {T:TypeId} {cur:Array Value} (hb:Blk w g T cur) (z:Value) (hz:∀ w,(zeroValue e).run P w = .ok z w) (h1:∀ v ∈ (Builtin.zeroCells z.cells n).toList,v.oneCell' = true) (hfit:off + (Builtin.zeroCells z.cells n).size <= cur.size)
    (hK:∀ w',Blk w' g T (Q1u cur off (Builtin.zeroCells z.cells n).toList) -> (∀ n,n <= g -> Below n w w') -> (∀ k,k ≠ g -> w'.heap[k]? = w.heap[k]?) -> wpList P ops Q rest (a.put o.dst (.tuple #[])) w'):wpList P ops Q (o :: rest) a w:=by
 refine wpList_plain hgd fun K' hK'=>?_;unfold Oper.wp;obtain ⟨w',hr,hb',hl,hoo⟩:=Y3j (P:=P) t o.type e ht hb n cap hn z hz h1 hfit;have hr2:(execOp a.eval o).run P w = .ok (.value (.tuple #[])) w':=by
  unfold execOp;simp only [ho,resolve,invoke,builtin,Sem.run_bind,Sem.run_pure,Result.andThen_ok,List.map_toArray,List.map_cons,List.map_nil,hx,hr]
 rw [hr2];exact hK' _ _ (hK w' hb' hl hoo)
theorem Q6u (n:Nat):(Builtin.zeroCells (Value.slice none 0 0).cells n).toList = List.replicate n (.slice none 0 0):=by
 apply List.ext_getElem?
 intro j;unfold Builtin.zeroCells
 by_cases hj:j < n
 . simp [Value.cells,hj,Nat.mod_one]
 . simp [Value.cells,hj]
end Go.Tw
namespace Go.Proofs
open Go.RowKit Go.Tw Go.Flow
structure Kept (ll r:List (List Int)) (j:Nat):Prop where
 asc:Asc r
 last:∃ r0,r = r0 ++ [ll.getD j []]
 mem:∀ x,x ∈ r ↔ x ∈ ll.take (j + 1)
theorem Kept.start {ll:List (List Int)} (h:0 < ll.length):Kept ll [ll.getD 0 []] 0 where
 asc:=by unfold Asc; simp
 last:=⟨[],rfl⟩
 mem x:=by rw [List.take_succ_eq_append_getElem h]; simp [h]
theorem Q9n {ll:List (List Int)} {j:Nat} (hj:j + 1 < ll.length) (x:List Int):x ∈ ll.take (j + 2) ↔ x ∈ ll.take (j + 1) ∨ x = ll.getD (j + 1) []:=by
 have e:ll.getD (j + 1) [] = ll[j + 1]:=by simp [hj]
 rw [show j + 2 = (j + 1) + 1 from rfl,List.take_succ_eq_append_getElem hj,List.mem_append,List.mem_singleton,e]
theorem Kept.same {ll r:List (List Int)} {j:Nat} (h:Kept ll r j) (hj:j + 1 < ll.length) (he:ll.getD (j + 1) [] = ll.getD j []):Kept ll r (j + 1) where
 asc:=h.asc
 last:=by rw [he]; exact h.last
 mem x:=by
  rw [Q9n hj,h.mem x]
  constructor
  . exact .inl
  . rintro (k | k)
    . exact k
    . obtain ⟨r0,hr⟩:=h.last
      rw [<- h.mem x,k,he,hr]; simp
theorem Kept.snoc {ll r:List (List Int)} {j:Nat} (h:Kept ll r j) (hs:Sorted ll) (hj:j + 1 < ll.length) (he:ll.getD (j + 1) [] ≠ ll.getD j []):Kept ll (r ++ [ll.getD (j + 1) []]) (j + 1) where
 asc:=by
  have hb:Q1i (ll.getD j []) (ll.getD (j + 1) []) = true:=by
   have h1:=List.pairwise_iff_getElem.1 hs j (j + 1) (by omega) hj (by omega)
   have e1:ll.getD j [] = ll[j]:=by simp [show j < ll.length by omega]
   have e2:ll.getD (j + 1) [] = ll[j + 1]:=by simp [hj]
   rw [e1,e2] at he ⊢;rw [<- Q4t]
   rcases Y4j ll[j] ll[j + 1] with k | k | k
   . exact k
   . exact absurd k.symm he
   . exact absurd k h1
  obtain ⟨r0,hr⟩:=h.last;have ha:=h.asc;unfold Asc at ha ⊢;rw [List.pairwise_append];refine ⟨ha,List.pairwise_singleton _ _,?_⟩;intro a ham b hbm;rw [List.mem_singleton] at hbm;subst hbm;rw [hr,List.pairwise_append] at ha;rw [hr,List.mem_append,List.mem_singleton] at ham
  rcases ham with ham | ham
  . exact Q4m (ha.2.2 a ham _ (List.mem_singleton.2 rfl)) hb
  . subst ham; exact hb
 last:=⟨r,rfl⟩
 mem x:=by rw [Q9n hj,List.mem_append,h.mem x,List.mem_singleton]
theorem Kept.all {ll r:List (List Int)} {j:Nat} (h:Kept ll r j) (hj:j + 1 = ll.length):Asc r /\ ∀ x,x ∈ r ↔ x ∈ ll :=
 ⟨h.asc,fun x=>by rw [h.mem x,hj,List.take_length]⟩
theorem Kept.take_snoc {ll:List (List Int)} {j:Nat} (hj:j + 1 < ll.length):ll.take (j + 1) ++ [ll.getD (j + 1) []] = ll.take (j + 2):=by
 have e:ll.getD (j + 1) [] = ll[j + 1]:=by simp [hj]
 rw [show j + 2 = (j + 1) + 1 from rfl,List.take_succ_eq_append_getElem hj,e]
theorem Kept.first {ll:List (List Int)} (h:0 < ll.length):Kept ll (ll.take 1) 0:=by
 have e:ll.take 1 = [ll.getD 0 []]:=by rw [List.take_succ_eq_append_getElem h]; simp [h]
 rw [e]; exact Kept.start h
theorem Tryz.Z0h (w:World):(zeroValue 157).run Tryz.prog w = .ok (.slice none 0 0) w:=by kernel_rfl
theorem Tryz.Z0x (w:World):(sizeOf 157).run Tryz.prog w = .ok 1 w:=by kernel_rfl
theorem Y3u.ext {w w':World} {g:Nat} {cur vs:List Value} {ll:List (List Int)} (h:Y3u w g cur vs ll) (hx:Ext w w'):Y3u w' g cur vs ll:=⟨h.1.ext hx,h.2.1,h.2.2.ext hx⟩
theorem Y3u.at {w:World} {g:Nat} {cur vs:List Value} {ll:List (List Int)} (h:Y3u w g cur vs ll) {k:Nat} (hk:k < ll.length) :
    w.cell? ⟨g,k,none⟩ = some (vs.getD k undef) /\ Q0b w (vs.getD k undef) (ll.getD k []) /\ Q0g w 0 3 (.int .i64) (vs.getD k undef) (ll.getD k []) /\ (ll.getD k []).length <= 8:=by
 obtain ⟨hb,ht,hs⟩:=h;have hl:=hs.1;have h1:=hs.2 k hk;refine ⟨?_,h1.1.ints (by have:=h1.2; omega),h1.1,h1.2⟩
 rw [hb.cell,List.getElem?_toArray];have h2:=congrArg (fun l=>l[k]?) ht;simp only [List.getElem?_take,show k < vs.length by omega,if_true] at h2
 rw [h2];simp [show k < vs.length by omega]
theorem Y3u.reads {w:World} {g cap:Nat} {cur vs:List Value} {ll:List (List Int)} (h:Y3u w g cur vs ll) (hl:ll.length <= 1000) (hc:ll.length <= cap):Q3j w (.slice (some ⟨g,0,none⟩) ll.length cap) ll :=
 ⟨fun k=>vs.getD k undef,⟨_,cap,rfl,by omega,hc,fun j hj=>⟨g,0,rfl,by rw [Nat.zero_add]; exact (h.at (by omega)).1⟩⟩,fun j hj=>by
  have:=(h.at hj).2.1
  simpa [hj] using this⟩
end Go.Proofs
namespace Go.Proofs
open Go.RowKit Go.Tw Go.Flow
attribute [local go_sem] Oper.semAt_some
def Cpt (W wr:World) (g:Nat) (cur vs:List Value) (ll:List (List Int)) (K k2 kw:Nat):Prop :=
 ∃ cur' vr r,Y3u wr g cur' vr r /\ Kept ll r (K + k2 - 1) /\ r.length = kw /\ cur'.length = cur.length /\ (∀ j,K + k2 <= j -> cur'[j]? = cur[j]?) /\ (cur'[K + k2 - 1]? = cur[K + k2 - 1]?) /\ Sets wr vs ll /\ W.grownBy wr (some g)
theorem Q4u {a w w':World} {row:Option Nat} (h:a.grownBy w row) (hx:Ext w w'):a.grownBy w' row :=
 ⟨hx.os.trans h.os,hx.tape.trans h.tape,hx.output.trans h.output,Nat.le_trans h.size hx.size,fun i hi hr=>(hx.block i (Nat.lt_of_lt_of_le hi h.size)).trans (h.block i hi hr)⟩
theorem X0u {a w w':World} {g:Nat} (h:a.grownBy w (some g)) (hb:Below 0 w w') (ho:∀ k,k ≠ g -> w'.heap[k]? = w.heap[k]?):a.grownBy w' (some g) :=
 ⟨hb.os.trans h.os,hb.tape.trans h.tape,hb.output.trans h.output,Nat.le_trans h.size hb.size,fun i hi hr=>(ho i (fun e=>hr (by rw [e]))).trans (h.block i hi hr)⟩
theorem Q7h (w:World) (row:Option Nat):w.grownBy w row:=⟨rfl,rfl,rfl,Nat.le_refl _,fun _ _ _=>rfl⟩
theorem Q8d {a w w':World} {row:Option Nat} (h:a.grownBy w row) (k:w.grownBy w' row):a.grownBy w' row :=
 ⟨k.os.trans h.os,k.tape.trans h.tape,k.output.trans h.output,Nat.le_trans h.size k.size,fun i hi hr=>(k.block i (Nat.lt_of_lt_of_le hi h.size) hr).trans (h.block i hi hr)⟩
theorem Q8o {w w':World} {vs:List Value} {ll:List (List Int)} {g:Nat} {cs:Array Value} (h:Sets w vs ll) (hb:Blk w g 157 cs) (ho:∀ k,k ≠ g -> w'.heap[k]? = w.heap[k]?):Sets w' vs ll :=
 h.at fun _ _ hv b hbv _=>ho b fun e=>Y6l (by decide) hv hb (by rw [hbv,e])
theorem Cpt.ext {W wr wr':World} {g:Nat} {cur vs:List Value} {ll:List (List Int)} {K k2 kw:Nat} (h:Cpt W wr g cur vs ll K k2 kw) (hx:Ext wr wr'):Cpt W wr' g cur vs ll K k2 kw:=by
 obtain ⟨cur',vr,r,ha,hk,hl,hcl,hj,hj1,hs,hg⟩:=h;exact ⟨cur',vr,r,ha.ext hx,hk,hl,hcl,hj,hj1,hs.ext hx,Q4u hg hx⟩
theorem Cpt.put {W wr w9:World} {g:Nat} {cur cur' vs vr:List Value} {ll r:List (List Int)} {K k2 kw:Nat} (ha:Y3u wr g cur' vr r) (hkp:Kept ll r (K + k2 - 1)) (hrl:r.length = kw) (hcl:cur'.length = cur.length) (hjj:∀ j,K + k2 <= j -> cur'[j]? = cur[j]?) (hss:Sets wr vs ll) (hg:W.grownBy wr (some g))
    (hs:Sorted ll) (hlt:K + k2 < ll.length) (hkw:kw + 1 <= K + k2) (hll:ll.length <= cur.length) (hne:ll.getD (K + k2) [] ≠ ll.getD (K + k2 - 1) []) (hb9:Blk w9 g 157 (cur'.toArray.setIfInBounds kw (vs.getD (K + k2) undef))) (hl:Below 0 wr w9) (ho:∀ k,k ≠ g -> w9.heap[k]? = wr.heap[k]?):Cpt W w9 g cur vs ll K (k2 + 1) (kw + 1):=by
 have e1:K + k2 - 1 + 1 = K + k2:=by omega
 have e2:K + (k2 + 1) - 1 = K + k2:=by omega
 have hvr:vr.length = kw:=by rw [<- hrl]; exact ha.2.2.1
 refine ⟨cur'.set kw (vs.getD (K + k2) undef),vr ++ [vs.getD (K + k2) undef],r ++ [ll.getD (K + k2) []],⟨?_,?_,?_⟩,?_,by rw [List.length_append,hrl]; rfl,by rw [List.length_set,hcl],fun j hj=>?_,?_,Q8o hss ha.1 ho,X0u hg hl ho⟩
 . rw [<- List.setIfInBounds_toArray]; exact hb9
 . rw [List.length_append,hvr,List.length_singleton,List.take_succ_eq_append_getElem (by rw [List.length_set,hcl]; omega),List.getElem_set_self]
   congr 1
   rw [List.take_set_of_le (Nat.le_refl _)];have:=ha.2.1
   rwa [hvr] at this
 . exact (Q8o ha.2.2 ha.1 ho).snoc ((Q8o hss ha.1 ho).2 _ hlt).1 (hss.2 _ hlt).2
 . have h:=hkp.snoc hs (by rw [e1]; exact hlt) (by rw [e1]; exact hne)
   rw [e1] at h;rw [e2]; exact h
 . rw [List.getElem?_set_ne (by omega)]; exact hjj j (by omega)
 . rw [e2,List.getElem?_set_ne (by omega)]; exact hjj _ (Nat.le_refl _)
theorem Y3u.cleared {wr w9:World} {g kw:Nat} {cur' vr new:List Value} {r:List (List Int)} (ha:Y3u wr g cur' vr r) (hk:r.length = kw) (hfit:kw + new.length <= cur'.toArray.size) (hb9:Blk w9 g 157 (Q1u cur'.toArray kw new)) (ho:∀ k,k ≠ g -> w9.heap[k]? = wr.heap[k]?):Y3u w9 g (Q1u cur'.toArray kw new).toList vr r:=by
 have hvr:vr.length = kw:=by rw [<- hk]; exact ha.2.2.1
 refine ⟨by rw [Array.toArray_toList]; exact hb9,?_,Q8o ha.2.2 ha.1 ho⟩
 have h:=ha.2.1;rw [hvr] at h ⊢;rw [<- h]
 apply List.ext_getElem?
 intro j;rw [List.getElem?_take,List.getElem?_take]
 by_cases hj:j < kw
 . rw [if_pos hj,if_pos hj,Array.getElem?_toList,Q3l _ _ _ _ hfit,if_neg (by omega),List.getElem?_toArray]
 . rw [if_neg hj,if_neg hj]
theorem Y1l (w:World) (g cap:Nat) (cur vs:List Value) (ll:List (List Int)) (h0:0 < ll.length) (hle:ll.length <= 1000) (hcap:ll.length <= cap) (hcl:ll.length <= cur.length) (hs:Sorted ll) (hr:Y3u w g cur vs ll) :
    Calls Tryz.prog 112 #[.slice (some ⟨g,0,none⟩) ll.length cap,.func (.func 113) #[] #[]] w fun e w'=>∃ r,e = .returned (.slice (some ⟨g,0,none⟩) r.length cap) /\ Q3j w' (.slice (some ⟨g,0,none⟩) r.length cap) r /\ Asc r /\ (∀ x,x ∈ r ↔ x ∈ ll) /\ r.length <= ll.length /\ w.grownBy w' (some g):=by
 have HR:=Lib.hid hr;have HS:=Lib.hid hs;obtain ⟨n,hn⟩:∃ n,ll.length = n:=⟨_,rfl⟩;have HN:=Lib.hid hn;have HG0:Hid (w.grownBy w (some g)):=Lib.hid ⟨rfl,rfl,rfl,Nat.le_refl _,fun _ _ _=>rfl⟩;rw [hn] at h0 hle hcap hcl ⊢;clear hr hs hn
 by_cases h2:n < 2
 . have h2I:(n:Int) < 2:=by omega
   have HK:Hid (Kept ll ll 0):=Lib.hid (by
    have:=Kept.first (ll:=ll) (by rw [HN.out]; exact h0)
    rwa [List.take_of_length_le (by rw [HN.out]; omega)] at this)
   have HE:Hid (n = ll.length):=Lib.hid HN.out.symm;clear h2;go_enter Tryz.func112,Tryz.ntmps112;go_wp2;go_ret;have hh:=HK.out.all (by have:=HN.out; omega)
   refine ⟨ll,by rw [HN.out]; rfl,HR.out.reads (by rw [HN.out]; omega) (by rw [HN.out]; exact hcap),hh.1,hh.2,by rw [HN.out]; exact Nat.le_refl _,HG0.out⟩
 have h2I:¬ (n:Int) < 2:=by omega
 go_enter Tryz.func112,Tryz.ntmps112;go_wp2
 go_loopw [5] (fun i wr=>∃ (K J:Nat),J + 1 = K /\ K <= n /\ i = .int .i64 K /\ Kept ll (ll.take K) J /\ Ext w wr) (fun i _=>n - (intOf i).toNat)
 case atStart=>exact ⟨1,0,rfl,by omega,rfl,Kept.first (by rw [HN.out]; exact h0),Ext.refl _⟩
 case round =>
  obtain ⟨K,J,hJ,hK,rfl,hkept,hx⟩:=hrel;have HKP:=Lib.hid hkept;have HX:=Lib.hid hx;have HRR:=Lib.hid (HR.out.ext hx);clear hkept
  by_cases hlt:K < n
  . have hKI:(K:Int) < n:=by omega
    have hJI:(J:Int) < n:=by omega
    have hw1:IntKind.i64.wrap ((K:Int) - 1) = (J:Int):=by rw [show (K:Int) - 1 = (J:Int) by omega]; exact X6m _ (by omega) (by omega)
    obtain ⟨cK,iK,-,-⟩:=HRR.out.at (k:=K) (by rw [HN.out]; exact hlt)
    obtain ⟨cJ,iJ,-,-⟩:=HRR.out.at (k:=J) (by rw [HN.out]; omega)
    obtain ⟨lK,hlK⟩:∃ x,ll.getD K [] = x:=⟨_,rfl⟩;obtain ⟨lJ,hlJ⟩:∃ x,ll.getD J [] = x:=⟨_,rfl⟩;rw [hlK] at iK;rw [hlJ] at iJ;obtain ⟨vK,hvK⟩:∃ x,vs.getD K undef = x:=⟨_,rfl⟩;obtain ⟨vJ,hvJ⟩:∃ x,vs.getD J undef = x:=⟨_,rfl⟩;rw [hvK] at cK iK;rw [hvJ] at cJ iJ;have HIK:=Lib.hid iK;have HIJ:=Lib.hid iJ;have HLK:=Lib.hid hlK;have HLJ:=Lib.hid hlJ;obtain ⟨q,hq⟩:∃ q,(X6b lK lJ == 0) = q:=⟨_,rfl⟩;have HQ:=Lib.hid hq;have hdr:=(Ext.refl wr).drew;clear hlK hlJ hvK hvJ iK iJ hq;go_wp2;refine Flow.Q1p [.p,.p,.p,.p,.w,.p,.p,.p,.p,.w,.w] [0,1,2,3,4,5,6,7,8,9,10] [[],[],[],[1,2],[3],[],[],[6],[5,7],[8],[0,4,9]]
     [.c 0 (.func (.func 113) #[] #[]),.c 1 (.slice (some ⟨g,0,none⟩) n cap),.c 2 (.int .i64 (K:Int)),.c 3 (.pointer (some ⟨g,K,none⟩)),.c 4 (vK),.c 5 (.slice (some ⟨g,0,none⟩) n cap),.c 6 (.int .i64 (K:Int)),.c 7 (.int .i64 (J:Int)),.c 8 (.pointer (some ⟨g,J,none⟩)),.c 9 (vJ),.c 10 (.bool q)]
     (by kernel_rfl) rfl (by kernel_rfl) ⟨?g0,?g1,?g2,?g3,?g4,?g5,?g6,?g7,?g8,?g9,?g10,trivial⟩ ?post
    case g0 | g1 | g2 | g5 | g6=>
     intro v w1 hx;intro bb hbb;subst hbb;refine ⟨_,fun w=>?_,rfl⟩;go_simp
    case g3 | g7 | g8=>
     intro v w1 hx;(repeat intro (zq:v _ = _));intro bb hbb;subst hbb;refine ⟨_,fun w=>?_,rfl⟩;go_simp
    case g4 | g9=>
     intro v w1 hx;(repeat intro (zq:v _ = _));intro bb hbb;subst hbb;have cK:=hx.cell cK;have cJ:=hx.cell cJ;intro K hK;go_simp;exact hK _ _ (Ext.refl _) rfl
    case g10=>
     intro v w1 hx;(repeat intro (zq:v _ = _));intro bb hbb;subst hbb;have cK:=hx.cell cK;have cJ:=hx.cell cJ;intro L hL;go_simp;refine Q0d (Q7y w1 _ _ lK lJ (HIK.out.ext (hdr.trans hx)) (HIJ.out.ext (hdr.trans hx))) ?_;rintro e w2 ⟨rfl,o,rfl⟩;rw [HQ.out];exact ⟨_,rfl,hL _ _ (Ext.box _ _) rfl⟩
    case post =>
     intro v w1 hx (q0:v 0 = _) (q1:v 1 = _) (q2:v 2 = _) (q3:v 3 = _) (q4:v 4 = _) (q5:v 5 = _) (q6:v 6 = _) (q7:v 7 = _) (q8:v 8 = _) (q9:v 9 = _) (q10:v 10 = _);simp only [Flow.All,Flow.acts,Act.put];go_simp;have HX1:=Lib.hid (HX.out.trans (hdr.trans hx));have HRR1:=Lib.hid (HRR.out.ext (hdr.trans hx));clear hx hdr cK cJ q0 q1 q2 q3 q4 q5 q6 q7 q8 q9 q10;obtain ⟨V,rfl⟩:∃ X,X = w1:=⟨_,rfl⟩;cases q with
     | false =>
       have HST:Hid (Kept ll (ll.take (K + 1)) K):=Lib.hid (by
        have h:=HKP.out.snoc HS.out (by rw [HN.out]; omega) (by
         rw [hJ,HLK.out,HLJ.out];intro e;have:=HQ.out;rw [(Q9f lK lJ).2 e] at this;cases this)
        subst hJ
        rwa [Kept.take_snoc (by rw [HN.out]; omega)] at h)
       go_wp2;go_roundw
       case rel=>exact ⟨K + 1,K,rfl,by omega,by go_num,HST.out,HX1.out⟩
       case measure=>simp [intOf]; omega
     | true =>
       have hsame:ll.getD K [] = ll.getD J []:=by
        rw [HLK.out,HLJ.out];exact (Q9f lK lJ).1 (by have:=HQ.out; simpa using this)
       have HST:Hid (Cpt V V g cur vs ll K 1 K):=Lib.hid ⟨cur,vs.take K,ll.take K,⟨HRR1.out.1,by
           have h1:=HRR1.out.2.1;have h2:=HRR1.out.2.2.1;rw [List.length_take,Nat.min_eq_left (by rw [h2,HN.out]; omega),<- h1,List.take_take,Nat.min_eq_left (by rw [h2,HN.out]; omega)],⟨by rw [List.length_take,List.length_take,HRR1.out.2.2.1],fun i hi=>by
           rw [List.length_take,HN.out] at hi;have h:=HRR1.out.2.2.2 i (by rw [HN.out]; omega)
           have e1:(vs.take K).getD i undef = vs.getD i undef:=by simp [show i < K by omega]
           have e2:(ll.take K).getD i [] = ll.getD i []:=by simp [show i < K by omega]
           rw [e1,e2]; exact h⟩⟩,by
           have h:=HKP.out.same (by rw [HN.out]; omega) (by rw [hJ]; exact hsame)
           rw [hJ] at h;rw [show K + 1 - 1 = K by omega]; exact h,by rw [List.length_take,HN.out]; omega,rfl,fun _ _=>rfl,rfl,HRR1.out.2.2,⟨rfl,rfl,rfl,Nat.le_refl _,fun _ _ _=>rfl⟩⟩
       have s1:(K:Int) <= (n:Int):=by omega
       have s2:¬ n < K:=by omega
       have s3:¬ cap = K:=by omega
       have s4:¬ cap < K:=by omega
       have s5:¬ cap < n:=by omega
       clear hsame;have HST2:Hid (∀ kw k2 wr',1 <= k2 -> K + k2 < n -> Cpt V wr' g cur vs ll K k2 kw -> X6b (ll.getD (K + k2) []) (ll.getD (K + k2 - 1) []) = 0 -> Cpt V wr' g cur vs ll K (k2 + 1) kw):=Lib.hid (by
        rintro kw k2 wr' h1 hlt ⟨cur',vr,r,ha,hk,hl,hcl',hj,hj1,hs,hg⟩ he;refine ⟨cur',vr,r,ha,?_,hl,hcl',fun j h=>hj j (by omega),hj _ (by omega),hs,hg⟩
        have h:=hk.same (by rw [HN.out]; omega) (by rw [show K + k2 - 1 + 1 = K + k2 by omega]; exact (Q9f _ _).1 he)
        rw [show K + k2 - 1 + 1 = K + (k2 + 1) - 1 by omega] at h
        exact h)
       go_wp2;obtain ⟨m,hm⟩:∃ m,n - K = m:=⟨_,rfl⟩;obtain ⟨c2,hc2⟩:∃ c2,cap - K = c2:=⟨_,rfl⟩;rw [hm,hc2]
       go_loopw [5,7] (fun kv iv wr=>∃ (kw k2:Nat),1 <= k2 /\ K + k2 <= n /\ kw + 1 <= K + k2 /\ kv = .int .i64 kw /\ iv = .int .i64 k2 /\ Cpt V wr g cur vs ll K k2 kw) (fun _ i _=>m - (intOf i).toNat)
       case atStart=>exact ⟨K,1,Nat.le_refl _,by omega,by omega,rfl,rfl,HST.out⟩
       case round =>
        obtain ⟨kw,k2,h1,hkn,hkw,rfl,rfl,hcpt⟩:=hrel;have HC:=Lib.hid hcpt;clear hcpt
        by_cases hlt2:k2 < m
        . have hlt2I:(k2:Int) < m:=by omega
          obtain ⟨j2,hj2⟩:∃ j2,j2 + 1 = k2:=⟨k2 - 1,by omega⟩
          have hw2:IntKind.i64.wrap ((k2:Int) - 1) = (j2:Int):=by rw [show (k2:Int) - 1 = (j2:Int) by omega]; exact X6m _ (by omega) (by omega)
          have hj2I:(j2:Int) < m:=by omega
          obtain ⟨cur',vr,r,ha,hkp,hrl,hcl',hjj,hj1,hss,hg⟩:=HC.out;have hat:=HRR1.out;have cA:wr.cell? ⟨g,K + k2,none⟩ = some (vs.getD (K + k2) undef):=by
           have h:=(hat.at (k:=K + k2) (by rw [HN.out]; omega)).1
           rw [hat.1.cell,List.getElem?_toArray] at h;rw [ha.1.cell,List.getElem?_toArray,hjj _ (Nat.le_refl _)]; exact h
          have cB:wr.cell? ⟨g,K + j2,none⟩ = some (vs.getD (K + j2) undef):=by
           have h:=(hat.at (k:=K + j2) (by rw [HN.out]; omega)).1
           rw [hat.1.cell,List.getElem?_toArray] at h;rw [show K + k2 - 1 = K + j2 by omega] at hj1
           rw [ha.1.cell,List.getElem?_toArray,hj1]; exact h
          have iA:=(hss.2 (K + k2) (by rw [HN.out]; omega)).1.ints (by have:=(hss.2 (K + k2) (by rw [HN.out]; omega)).2; omega)
          have iB:=(hss.2 (K + j2) (by rw [HN.out]; omega)).1.ints (by have:=(hss.2 (K + j2) (by rw [HN.out]; omega)).2; omega)
          have hOA:=hss.2 (K + k2) (by rw [HN.out]; omega)
          have hE2:=HST2.out kw k2 wr h1 (by omega) HC.out
          rw [show K + k2 - 1 = K + j2 by omega] at hE2
          obtain ⟨lA,hlA⟩:∃ x,ll.getD (K + k2) [] = x:=⟨_,rfl⟩;obtain ⟨lB,hlB⟩:∃ x,ll.getD (K + j2) [] = x:=⟨_,rfl⟩;obtain ⟨vA,hvA⟩:∃ x,vs.getD (K + k2) undef = x:=⟨_,rfl⟩;obtain ⟨vB,hvB⟩:∃ x,vs.getD (K + j2) undef = x:=⟨_,rfl⟩;rw [hlA,hvA] at iA hOA;rw [hlB,hvB] at iB;rw [hvA] at cA;rw [hvB] at cB;rw [hlA,hlB] at hE2;have HIA:=Lib.hid iA;have HIB:=Lib.hid iB;have HLA:=Lib.hid hlA;have HLB:=Lib.hid hlB;have HVA:=Lib.hid hvA;have HOA:=Lib.hid hOA;have HHA:=Lib.hid ha;have HKK:=Lib.hid hkp;have HRL:=Lib.hid hrl;have HCL:=Lib.hid hcl';have HJJ:=Lib.hid hjj;have HSS:=Lib.hid hss;have HG:=Lib.hid hg;have HE2:=Lib.hid hE2;obtain ⟨q,hq⟩:∃ q,(X6b lA lB == 0) = q:=⟨_,rfl⟩;have HQ:=Lib.hid hq;have hdr:=(Ext.refl wr).drew;clear hlA hlB hvA hvB iA iB hq hat hOA ha hkp hrl hcl' hjj hj1 hss hg hE2 HC
          go_light
          go_wp2;refine Flow.Q1p [.p,.p,.p,.p,.w,.p,.p,.p,.p,.w,.w,.p] [0,1,2,3,4,5,6,7,8,9,10,11] [[],[],[],[1,2],[3],[],[],[6],[5,7],[8],[0,4,9],[10]]
           [.c 0 (.func (.func 113) #[] #[]),.c 1 (.slice (some ⟨g,K,none⟩) m c2),.c 2 (.int .i64 (k2:Int)),.c 3 (.pointer (some ⟨g,K + k2,none⟩)),.c 4 (vA),.c 5 (.slice (some ⟨g,K,none⟩) m c2),.c 6 (.int .i64 (k2:Int)),.c 7 (.int .i64 (j2:Int)),.c 8 (.pointer (some ⟨g,K + j2,none⟩)),.c 9 (vB),.c 10 (.bool q),.c 11 (.bool (!q))]
           (by kernel_rfl) rfl (by kernel_rfl) ⟨?g0,?g1,?g2,?g3,?g4,?g5,?g6,?g7,?g8,?g9,?g10,?g11,trivial⟩ ?post
          case g0 | g1 | g2 | g5 | g6=>
           intro v w1 hx;intro bb hbb;subst hbb;refine ⟨_,fun w=>?_,rfl⟩;go_simp
          case g3 | g7 | g8 | g11=>
           intro v w1 hx;(repeat intro (zq:v _ = _));intro bb hbb;subst hbb;refine ⟨_,fun w=>?_,rfl⟩;go_simp
          case g4 | g9=>
           intro v w1 hx;(repeat intro (zq:v _ = _));intro bb hbb;subst hbb;have cA:=hx.cell cA;have cB:=hx.cell cB;intro K hK;go_simp;exact hK _ _ (Ext.refl _) rfl
          case g10=>
           intro v w1 hx;(repeat intro (zq:v _ = _));intro bb hbb;subst hbb;have cA:=hx.cell cA;have cB:=hx.cell cB;intro L hL;go_simp;refine Q0d (Q7y w1 _ _ lA lB (HIA.out.ext (hdr.trans hx)) (HIB.out.ext (hdr.trans hx))) ?_;rintro e w2 ⟨rfl,o,rfl⟩;rw [HQ.out];exact ⟨_,rfl,hL _ _ (Ext.box _ _) rfl⟩
          case post =>
           intro v w1 hx;(iterate 12 intro (zq:v _ = _));simp only [Flow.All,Flow.acts,Act.put];go_simp;have HXV:=Lib.hid (hdr.trans hx);have HHA1:=Lib.hid (HHA.out.ext HXV.out);have HSS1:=Lib.hid (HSS.out.ext HXV.out);have HG1:=Lib.hid (Q4u HG.out HXV.out);replace cA:=HXV.out.cell (show wr.cell? ⟨g,K + k2,none⟩ = some vA from cA)
           clear hx hdr cB;(repeat clear zq);obtain ⟨Y,rfl⟩:∃ X,X = w1:=⟨_,rfl⟩;cases q with
           | true =>
             have HE3:=Lib.hid ((HE2.out (by have:=HQ.out; simpa using this)).ext HXV.out)
             clear cA;go_wp2;go_roundw
             case rel=>exact ⟨kw,k2 + 1,by omega,by omega,by omega,rfl,by go_num,HE3.out⟩
             case measure=>simp [intOf]; omega
           | false =>
             have hkwI:(kw:Int) < n:=by omega
             have hone:=(HOA.out.1.ints (by have:=HOA.out.2; omega)).one
             have hcel:=(HOA.out.1.ints (by have:=HOA.out.2; omega)).cells
             have HONE:Hid (vA.oneCell' = true):=Lib.hid hone;have HCEL:=Lib.hid hcel;have HKC:Hid (kw < cur'.toArray.size):=Lib.hid (by rw [List.size_toArray,HCL.out]; omega)
             have HNE:Hid (ll.getD (K + k2) [] ≠ ll.getD (K + k2 - 1) []):=Lib.hid (by
              rw [show K + k2 - 1 = K + j2 by omega,HLA.out,HLB.out]
              intro e;have:=HQ.out;rw [(Q9f lA lB).2 e] at this;cases this)
             clear hone hcel;go_wp2_with (refine X0f rfl _ _ 157 rfl Tryz.Z0x rfl rfl HCEL.out HONE.out HHA1.out.1 HKC.out ?_; intro w9 hb9 hl9 ho9);go_roundw
             case rel=>exact ⟨kw + 1,k2 + 1,by omega,by omega,by omega,by go_num,by go_num,Cpt.put HHA1.out HKK.out HRL.out HCL.out HJJ.out HSS1.out HG1.out HS.out (by rw [HN.out]; omega) hkw (by rw [HN.out]; exact hcl) HNE.out (by rw [HVA.out]; exact hb9) (hl9 0 (Nat.zero_le _)) ho9⟩
             case measure=>simp [intOf]; omega
        . have hmk:¬ (k2:Int) < m:=by omega
          obtain ⟨cur',vr,r,ha,hkp,hrl,hcl',hjj,hj1,hss,hg⟩:=HC.out;have t1:(kw:Int) <= (n:Int):=by omega
          have t2:¬ n < kw:=by omega
          have t3:¬ cap = kw:=by omega
          have t4:¬ cap < kw:=by omega
          have t5:¬ cap < n:=by omega
          have HHA:=Lib.hid ha;have HG:=Lib.hid hg;have HRL:=Lib.hid hrl;have HALL:=Lib.hid (hkp.all (by rw [HN.out]; omega))
          have HFIT:Hid (kw + (Builtin.zeroCells (Value.slice none 0 0).cells (n - kw)).size <= cur'.toArray.size):=Lib.hid (by
           rw [<- Array.length_toList,Q6u,List.length_replicate,List.size_toArray,hcl']; omega)
          have HZ1:Hid (∀ v ∈ (Builtin.zeroCells (Value.slice none 0 0).cells (n - kw)).toList,v.oneCell' = true):=Lib.hid (by
           rw [Q6u]; intro v hv; rw [List.eq_of_mem_replicate hv]; rfl)
          clear ha hkp hrl hcl' hjj hj1 hss hg HC;go_wp2_with (refine X5j rfl _ 158 157 rfl Tryz.underlying158 (show 0 < n - kw by omega) rfl HHA.out.1 _ Tryz.Z0h HZ1.out HFIT.out ?_; intro w9 hb9 hl9 ho9)
          go_ret;have hh:=HHA.out.cleared HRL.out (by rw [Array.length_toList]; exact HFIT.out) hb9 ho9
          refine ⟨r,by rw [HRL.out]; rfl,hh.reads (by rw [HRL.out]; omega) (by rw [HRL.out]; omega),HALL.out.1,HALL.out.2,by rw [HRL.out]; omega,?_⟩
          exact X0u (Q8d (Q4u (Q7h w (some g)) HX1.out) HG.out) (hl9 0 (Nat.zero_le _)) ho9
  . have HKF:Hid (Kept ll ll J):=Lib.hid (by
     have:=HKP.out
     rwa [List.take_of_length_le (by rw [HN.out]; omega)] at this)
    go_wp2;go_ret;have hh:=HKF.out.all (by have:=HN.out; omega)
    exact ⟨ll,by rw [HN.out]; rfl,HRR.out.reads (by rw [HN.out]; omega) (by rw [HN.out]; exact hcap),hh.1,hh.2,by rw [HN.out]; exact Nat.le_refl _,Q4u HG0.out HX.out⟩
end Go.Proofs
namespace Go.Tw
open Go.RowKit Go.Flow
theorem Y0y:∀ (l:List PV) (k:Nat),(l.flatMap Y5j).take (k * 4) = (l.take k).flatMap Y5j
 | [],k=>by simp
 | q :: l,0=>by simp
 | q :: l,k + 1=>by
   rw [List.flatMap_cons,List.take_succ_cons,List.flatMap_cons,<- Y0y l k,List.take_append,Q7i];rw [List.take_of_length_le (by rw [Q7i]; omega),show (k + 1) * 4 - 4 = k * 4 by omega]
end Go.Tw
namespace Go.Proofs
open Go.RowKit Go.Tw Go.Flow
attribute [local go_sem] Oper.semAt_some
theorem Z4b.ext {g:Nat} {pre post:Array Value} {w w':World} {t:Plan -> Bool} (h:Z4b g pre post w t) (hx:Ext w w'):Z4b g pre post w' t:=fun W y A n c hW=>h W y A n c (hx.trans hW)
structure Y7n (W wr:World) (g:Nat) (cur cur':Array Value) (ps:List PV) (t:Plan -> Bool) (J i:Nat):Prop where
 blk:Blk wr g 151 cur'
 size:cur'.size = cur.size
 len:((ps.take J).filter fun q=>!t q.1).length = i
 head:cur'.toList.take (i * 4) = ((ps.take J).filter fun q=>!t q.1).flatMap Y5j
 rest:∀ k,J * 4 <= k -> cur'[k]? = cur[k]?
 grown:W.grownBy wr (some g)
 closed:Q2d wr ps
theorem Q2d.off {w w':World} {ps:List PV} {g:Nat} {cs:Array Value} (h:Q2d w ps) (hb:Blk w g 151 cs) (ho:∀ k,k < w.heap.size -> k ≠ g -> w'.heap[k]? = w.heap[k]?):Q2d w' ps:=fun q hq=>by
 obtain ⟨h1,h2⟩:=h q hq;refine ⟨h1,?_⟩
 rcases h2 with h2 | ⟨g',cap,cur,hv,hbg,hgl,r⟩
 . exact .inl h2
 . refine .inr ⟨g',cap,cur,hv,hbg,(ho g' (Array.getElem?_eq_some_iff.1 hgl).1 fun e=>?_).trans hgl,r⟩
   subst e;unfold Blk at hb;rw [hb] at hgl;injection hgl with h;injection h with _ h;exact absurd h (by decide)
theorem Y7n.ext {W wr wr':World} {g:Nat} {cur cur':Array Value} {ps:List PV} {t:Plan -> Bool} {J i:Nat} (h:Y7n W wr g cur cur' ps t J i) (hx:Ext wr wr'):Y7n W wr' g cur cur' ps t J i :=
 ⟨h.blk.ext hx,h.size,h.len,h.head,h.rest,Q4u h.grown hx,h.closed.ext hx⟩
theorem Y7n.skip {W wr:World} {g:Nat} {cur cur':Array Value} {ps:List PV} {t:Plan -> Bool} {J i:Nat} (h:Y7n W wr g cur cur' ps t J i) {q:PV} (hq:ps[J]? = some q) (ht:t q.1 = true):Y7n W wr g cur cur' ps t (J + 1) i:=by
 obtain ⟨hJ,rfl⟩:=List.getElem?_eq_some_iff.1 hq;have e:(ps.take (J + 1)).filter (fun q=>!t q.1) = (ps.take J).filter fun q=>!t q.1:=by
  rw [List.take_succ_eq_append_getElem hJ,List.filter_append]; simp [ht]
 exact ⟨h.blk,h.size,by rw [e]; exact h.len,by rw [e]; exact h.head,fun k hk=>h.rest k (by omega),h.grown,h.closed⟩
theorem Y7n.put {W wr w9:World} {g cap:Nat} {cur cur':Array Value} {ps:List PV} {t:Plan -> Bool} {J i:Nat} (h:Y7n W wr g cur cur' ps t J i) {q:PV} (hq:ps[J]? = some q) (ht:t q.1 = false) (hi:i <= J) (hsz:cur.size = cap * 4) (hc:ps.length <= cap)
    (hb:Blk w9 g 151 (Q1u cur' (i * 4) (Y5j q))) (hl:Below 0 wr w9) (ho:∀ k,k ≠ g -> w9.heap[k]? = wr.heap[k]?):Y7n W w9 g cur (Q1u cur' (i * 4) (Y5j q)) ps t (J + 1) (i + 1):=by
 obtain ⟨hJ,rfl⟩:=List.getElem?_eq_some_iff.1 hq;have e:(ps.take (J + 1)).filter (fun q=>!t q.1) = ((ps.take J).filter fun q=>!t q.1) ++ [ps[J]]:=by
  rw [List.take_succ_eq_append_getElem hJ,List.filter_append]; simp [ht]
 have hfit:i * 4 + (Y5j ps[J]).length <= cur'.size:=by rw [h.size,hsz,Q7i]; omega
 refine ⟨hb,by rw [X7n,h.size],by rw [e,List.length_append,h.len]; rfl,?_,fun k hk=>?_,X0u h.grown hl ho,h.closed.off h.blk fun k _ hk=>ho k hk⟩
 . rw [e,List.flatMap_append,<- h.head,List.flatMap_singleton]
   apply List.ext_getElem?
   intro k;rw [List.getElem?_take,Array.getElem?_toList,Q3l _ _ _ _ hfit,Q7i];have hl0:(cur'.toList.take (i * 4)).length = i * 4:=by rw [List.length_take,Array.length_toList,h.size,hsz]; omega
   by_cases h1:k < i * 4
   . rw [if_pos (by omega),if_neg (by omega),List.getElem?_append_left (by rw [hl0]; exact h1),List.getElem?_take,if_pos h1,Array.getElem?_toList]
   . rw [List.getElem?_append_right (by rw [hl0]; omega),hl0]
     by_cases h2:k < (i + 1) * 4
     . rw [if_pos h2,if_pos (by omega)]
     . rw [if_neg h2]
       exact (List.getElem?_eq_none (by rw [Q7i]; omega)).symm
 . rw [Q3l _ _ _ _ hfit,Q7i,if_neg (by omega)]
   exact h.rest k (by omega)
theorem Y7n.start {W wr:World} {g:Nat} {cur:Array Value} {ps:List PV} {t:Plan -> Bool} {k:Nat} {q:PV} (hb:Blk W g 151 cur) (hx:Ext W wr) (ht:cur.toList.take (ps.length * 4) = ps.flatMap Y5j) (hc:Q2d W ps) (hq:ps[k]? = some q) (htq:t q.1 = true)
    (hno:∀ j q',j < k -> ps[j]? = some q' -> t q'.1 = false):Y7n W wr g cur cur ps t (k + 1) k:=by
 obtain ⟨hk,rfl⟩:=List.getElem?_eq_some_iff.1 hq;have e:(ps.take (k + 1)).filter (fun q=>!t q.1) = ps.take k:=by
  rw [List.take_succ_eq_append_getElem hk,List.filter_append,List.filter_eq_self.2]
  . simp [htq]
  . intro z hz
    obtain ⟨j,hj,rfl⟩:=List.getElem_of_mem hz;rw [List.length_take] at hj;rw [List.getElem_take,hno j ps[j] (by omega) (List.getElem?_eq_getElem (by omega))]; rfl
 refine ⟨hb.ext hx,rfl,by rw [e,List.length_take]; omega,?_,fun _ _=>rfl,Q4u (Q7h W _) hx,hc.ext hx⟩
 rw [e,<- Y0y,<- ht,List.take_take,Nat.min_eq_left (by omega)]
end Go.Proofs
namespace Go.Flow
open Go.RowKit Go.Tw
structure Y3i (Rel:World -> World -> Prop) where
 D:(Nat -> Value) -> World -> Prop
 mono:∀ v w w',Rel w w' -> D v w -> D v w'
def Y3i.is {Rel:World -> World -> Prop} (j:Nat) (e:(Nat -> Value) -> Value):Y3i Rel:=⟨fun v _=>v j = e v,fun _ _ _ _ h=>h⟩
def Y3i.c {Rel:World -> World -> Prop} (j:Nat) (x:Value):Y3i Rel:=Y3i.is j fun _=>x
def Y3i.none {Rel:World -> World -> Prop}:Y3i Rel:=⟨fun _ _=>True,fun _ _ _ _ _=>trivial⟩
section
variable {P:Program} {id:Nat} {Q:Exit -> Act -> World -> Prop} {a0:Act} {w:World} {ops:List Oper}
end
end Go.Flow
namespace Go.Proofs
open Go.RowKit Go.Tw Go.Flow
attribute [local go_sem] Oper.semAt_some
def Y6h (row:Option Nat) (B:Nat) (v:Value) (ks:List PV) (a b:World):Prop:=a.grownBy b row /\ (Q1r a B 151 4 Y5j v ks -> Q1r b B 151 4 Y5j v ks)
theorem Y6h.refl (row:Option Nat) (B:Nat) (v:Value) (ks:List PV) (a:World):Y6h row B v ks a a:=⟨Q7h a row,id⟩
theorem Y6h.trans {row:Option Nat} {B:Nat} {v:Value} {ks:List PV} {a b c:World} (h:Y6h row B v ks a b) (k:Y6h row B v ks b c):Y6h row B v ks a c:=⟨Q8d h.1 k.1,fun x=>k.2 (h.2 x)⟩
theorem Y6h.size {row:Option Nat} {B:Nat} {v:Value} {ks:List PV} {a b:World} (h:Y6h row B v ks a b):a.heap.size <= b.heap.size:=h.1.size
theorem Y6h.ext {row:Option Nat} {B:Nat} {v:Value} {ks:List PV} {a b:World} (h:Ext a b):Y6h row B v ks a b:=⟨Q4u (Q7h a row) h,fun x=>x.below h⟩
theorem Y6h.blk {row:Option Nat} {B:Nat} {v:Value} {ks:List PV} {a b:World} (h:Y6h row B v ks a b) {g:Nat} {T:TypeId} {cs:Array Value} (hb:Blk a g T cs) (hg:some g ≠ row):Blk b g T cs:=(h.1.block g hb.lt hg).trans hb
theorem Q4a {K:Value -> World -> Prop} {o:Oper} {a:Act} {w:World} (T E:TypeId) (x:Operand) (ho:o.op = .buildSlice T 1 #[(0,x)]) {u:Value} (hx:a.eval x = u) (hr:(Instr.buildSlice T 1 #[(0,u)]).run Tryz.prog w = .ok (.slice (some ⟨w.heap.size,0,none⟩) 1 1) (w.alloc (.cells u.cells E)))
    (h:K (.slice (some ⟨w.heap.size,0,none⟩) 1 1) (w.alloc (.cells u.cells E))):gives Tryz.prog K ((execOp a.eval o).run Tryz.prog w):=by
 unfold execOp;simp only [ho,hx,List.map_toArray,List.map_cons,List.map_nil,Sem.run_bind,hr,Result.andThen_ok,Sem.run_pure];exact h
theorem Q2d.grown {w w':World} {B:Nat} {v:Value} {ps qs:List PV} (h:Q2d w qs) (ho:Q1r w B 151 4 Y5j v ps) (hg:w.grownBy w' v.ownBlock):Q2d w' qs:=by
 rcases OwnP.cases ho with ⟨rfl,_⟩ | ⟨g,cap,cur,rfl,hbg,hb,_⟩
 . exact fun q hq=>X6n (E:=151) (us:=([]:List Value)) (enc':=idV) (b2:=0) (h q hq) (Q0g.nil w 0 _ _) (by decide) hg
 . exact h.off hb fun k hk hne=>hg.block k hk (by intro e; cases e; exact hne rfl)
end Go.Proofs
namespace Go.Tw
open Go.RowKit Go.Flow
theorem X5s {α:Type} {P:Program} {K:Value -> World -> Prop} {o:Oper} {a:Act} {w:World} (s x:Operand) (t:TypeId) (ho:o.op = .call { callee:=.builtin .append,args:=#[s,x],argTypes:=#[t,t] })
    (base:Nat) (e:TypeId) (i:TypeInfo) (z:Value) (k bytes:Nat) (ht:P.underlying t = some (.slice e)) (hi:P.info? e = some i) (hz:i.zero = some z) (hsize:i.size = k) (hby:i.bytes = bytes) (hzs:z.cells.size = k) (hk0:0 < k)
    (enc:α -> List Value) (hk:∀ x,(enc x).length = k) (v:Value) (xs ys:List α) (hs:a.eval s = v) (hown:Q1r w base e k enc v xs) (A:Option Addr) (c:Nat) (hx:a.eval x = .slice A ys.length c)
    (hA:0 < ys.length -> ∃ ad,A = some ad /\ ∀ j u,(ys.flatMap enc)[j]? = some u -> w.cell? (ad.add j) = some u) (h1:∀ u ∈ ys.flatMap enc,u.oneCell' = true)
    (h63:xs.length + ys.length <= 100000) (hb:bytes <= 1000) (hbase:base <= w.heap.size)
    (h:∀ v' w',Q1r w' base e k enc v' (xs ++ ys) -> w.grownBy w' v.ownBlock -> K v' w'):gives P K ((execOp a.eval o).run P w):=by
 rcases Nat.eq_zero_or_pos ys.length with h0 | h0
 . have e0:ys = []:=List.eq_nil_of_length_eq_zero h0
   subst e0;obtain ⟨b,c',rfl,hcap⟩:=hown.shape;unfold execOp;simp only [ho,resolve,invoke,builtin,Sem.run_bind,Sem.run_pure,Result.andThen_ok,List.map_toArray,List.map_cons,List.map_nil,hs,hx];rw [List.length_nil,Q3p (P:=P) w t o.type e i ht hi b A xs.length c' c hcap];exact h _ _ (by simpa using hown) ⟨rfl,rfl,rfl,Nat.le_refl _,fun _ _ _=>rfl⟩
 . obtain ⟨ad,rfl,hnews⟩:=hA h0
   have hbytes:(xs.length + ys.length) * bytes <= 140737488355328:=by
    have:(xs.length + ys.length) * bytes <= 100000 * 1000:=Nat.mul_le_mul h63 hb;omega
   obtain ⟨v',w',hr,h2,h3,h4⟩:=run_append_own (P:=P) w base t o.type e i z k bytes ht hi hz hsize hby hzs hk0 v xs.length (xs.flatMap enc) hown ad ys.length c (ys.flatMap enc) (Q3h hk ys) hnews h1 (by unfold maxLen; omega) hbytes hbase
   unfold execOp;simp only [ho,resolve,invoke,builtin,Sem.run_bind,Sem.run_pure,Result.andThen_ok,List.map_toArray,List.map_cons,List.map_nil,hs,hx,hr];refine h v' w' ?_ h3;unfold Q1r;rw [List.length_append,List.flatMap_append];exact h2
end Go.Tw
namespace Go.Proofs
open Go.RowKit Go.Tw Go.Flow
attribute [local go_sem] Oper.semAt_some
theorem Z1j {α:Type} {w:World} {B:Nat} {e:TypeId} {enc:α -> Value} {v:Value} {l:List α} (h:Q0g w B e enc v l):Src w enc v l:=by
 obtain ⟨A,c,rfl,_,hc⟩:=h.cells;refine ⟨A,c,rfl,fun j hj=>?_⟩;obtain ⟨g,hA,_,_,hcell⟩:=hc j hj;exact ⟨g,0,hA,hcell⟩
end Go.Proofs
namespace Go.Proofs
open Go.RowKit Go.Tw Go.Flow
attribute [local go_sem] Oper.semAt_some
def X2o (s:Q0c) (n:Int):Bool:=decide (n < 0) || decide ((s.members.length:Int) <= n)
theorem Q6x (w:World) (v:Value) (s:Q0c) (n:Int) (hv:Q0o w v s) :
    Calls Tryz.prog 47 #[v,.int .i64 n] w fun e w'=>e = .returned (.int .i64 (Q0t (X2o s n) 10)) /\ Ext w w':=by
 obtain ⟨a,b,rfl,h2⟩:=hv;obtain ⟨A,capa,rfl,-,-,-⟩:=h2.ships.opened;obtain ⟨B,capb,rfl,-,-,-⟩:=h2.members.opened;have k0:=Blk.made w 74 #[.int .i64 s.limit,.slice A s.ships.length capa,.slice B s.members.length capb];have HX:=Lib.hid (Ext.box w (.cells #[.int .i64 s.limit,.slice A s.ships.length capa,.slice B s.members.length capb] 74));have c2:=k0.cell 2;simp only [Go.Tw.gA,Go.Tw.gB,Go.Tw.gC] at c2;clear h2 k0;go_enter Tryz.func47,Tryz.ntmps47
 by_cases h0:n < 0
 . have HQ:Hid (X2o s n = true):=Lib.hid (by unfold X2o; simp [h0])
   go_wp2_with (refine (Q8v _ _ _).mono ?_; rintro e w5 ⟨rfl,rfl⟩);go_ret;exact ⟨Q0q (by rw [HQ.out]),HX.out⟩
 . obtain ⟨q,hq⟩:∃ q,decide ((s.members.length:Int) <= n) = q:=⟨_,rfl⟩
   have HQ:Hid (X2o s n = q):=Lib.hid (by unfold X2o; rw [hq]; simp [h0])
   go_wp2_with (refine (Q8v _ _ _).mono ?_; rintro e w5 ⟨rfl,rfl⟩);go_ret;exact ⟨Q0q (by rw [HQ.out]),HX.out⟩
theorem Tryz.Z3e (w:World):(isAgg 74).run Tryz.prog w = .ok true w:=by kernel_rfl
theorem Tryz.Y8k (w:World):(sizeOf 74).run Tryz.prog w = .ok 3 w:=by kernel_rfl
end Go.Proofs
namespace Go.Proofs
open Go.RowKit Go.Tw Go.Flow
attribute [local go_sem] Oper.semAt_some
theorem X8e {α:Type} {k n:Nat} {R:World -> (Nat -> Value) -> α -> Prop} {w:World} {g:Nat} {T:TypeId} {cs:Array Value} {l:List α} (h:Blk w g T cs) (hl:l.length = n) (hn:n <= 1000) (hsz:cs.size = n * k)
    (hR:∀ i (hi:i < l.length),R w (fun j=>cs.getD (i * k + j) undef) l[i]):Go.Tw.Rows k R w (.slice (some ⟨g,0,none⟩) n n) l:=by
 subst hl;refine ⟨fun j=>cs.getD j undef,⟨some ⟨g,0,none⟩,l.length,rfl,by omega,Nat.le_refl _,fun j hj=>⟨g,0,rfl,?_⟩⟩,hR⟩
 have hj':j < cs.size:=by omega
 rw [Nat.zero_add,h.cell];show cs[j]? = some (cs.getD j undef);rw [Array.getD_eq_getD_getElem?,Array.getElem?_eq_getElem hj'];rfl
theorem Q2m {w:World} {g:Nat} {T:TypeId} {cs:Array Value} {l:List Int} {n:Nat} (h:Blk w g T cs) (hc:cs = (l.map (Value.int .i64)).toArray) (hl:l.length = n) (hn:n <= 1000):Q0b w (.slice (some ⟨g,0,none⟩) n n) l:=by
 subst hc;refine X8e (k:=1) h hl hn (by simp [hl]) fun i hi=>?_
 show (List.map (Value.int .i64) l).toArray.getD (i * 1 + 0) undef = _;simp [hi]
theorem Tryz.Z5u (w:World):(isAgg 64).run Tryz.prog w = .ok true w:=by kernel_rfl
theorem Tryz.Z3n (w:World):(sizeOf 64).run Tryz.prog w = .ok 1 w:=by kernel_rfl
theorem Z5m (b:UInt8):Short ⟨#[b]⟩:=by show (1:Nat) <= _; omega
end Go.Proofs
namespace Go.Proofs
open Go.RowKit Go.Tw Go.Flow
def X7b (l:List Int) (k:Nat):List (List Int):=(List.range k).map fun t=>l.take (t + 1)
theorem Y5c (l:List Int) (k:Nat):X7b l (k + 1) = X7b l k ++ [l.take (k + 1)]:=by unfold X7b; rw [List.range_succ,List.map_append]; rfl
theorem X9o (l:List Int) (k:Nat):(X7b l k).length = k:=by unfold X7b; simp
def X7g (s:Q0c) (i:Nat):List (List Int):=(s.members.take i).flatMap fun m=>X7b m.classes m.classes.length
theorem X6c (s:Q0c) {i:Nat} (hi:i < s.members.length):X7g s (i + 1) = X7g s i ++ X7b (Q0f s.members i) (Q0f s.members i).length:=by
 unfold X7g Q0f;rw [List.take_succ_eq_append_getElem hi,List.flatMap_append,Q0r _ hi]; simp
theorem Y6x (s:Q0c):X7g s s.members.length = s.X4u:=by unfold X7g; rw [List.take_length]; rfl
theorem X3q {s:Q0c} (hS:Q1d s):∀ i,i <= s.members.length -> (X7g s i).length = i * s.ships.length
 | 0,_=>by simp [X7g]
 | i + 1,h=>by
   rw [X6c s (by omega),List.length_append,X3q hS i (by omega),X9o,(hS.shaped i (by omega)).1,Nat.add_mul,Nat.one_mul]
theorem X9d (w:World) (a:Addr) (n cap:Nat):(binOp .eql 157 (.slice (some a) n cap) (.slice none 0 0)).run Tryz.prog w = .ok (.bool false) w:=by kernel_rfl
attribute [local go_sem ↓] X9d
theorem Y6e (w:World) (a:Addr) (n cap:Nat) (l:List Int) (hv:Q0b w (.slice (some a) n cap) l) (hn:n = l.length) (hle:l.length <= 4096) :
    Calls Tryz.prog 109 #[.slice (some a) n cap] w fun e w'=>∃ u,e = .returned u /\ Q0g w' w.heap.size 3 (.int .i64) u l /\ Ext w w':=by
 obtain ⟨i0,hi,hz0,hz1,hz2⟩:=info_parts Tryz.info3;subst hn;obtain ⟨A,cap',he,hl,hcap,hc⟩:=hv.opened;injection he with e1 _ e3;subst e1 e3;have hx:=Ext.box w (.cells #[] 3);have hown:Q0g (w.alloc (.cells #[] 3)) w.heap.size 3 (Value.int .i64) (.slice (some ⟨w.heap.size,0,none⟩) 0 0) []:=World.ownsRow_made w #[] 0 (Nat.le_refl _) (by unfold maxLen; omega) rfl
 have HSRC:Hid (∀ j u,(l.map (Value.int .i64))[j]? = some u -> (w.alloc (.cells #[] 3)).cell? (a.add j) = some u):=Lib.hid (by
  intro j u hj;rw [List.getElem?_map] at hj;obtain ⟨y,hy,rfl⟩:=Option.map_eq_some_iff.1 hj;obtain ⟨hjl,rfl⟩:=List.getElem?_eq_some_iff.1 hy;obtain ⟨b,off,he,hcell⟩:=hc j hjl;cases he;rw [addr_add,hx.cell hcell,Q6r hjl])
 have HONE:Hid (∀ u ∈ l.map (Value.int .i64),u.oneCell' = true):=Lib.hid (by intro u hu; obtain ⟨y,_,rfl⟩:=List.mem_map.1 hu; rfl)
 have HL2:Hid ((l.map (Value.int .i64)).length = l.length * 1):=Lib.hid (by simp)
 clear hv hc;go_enter Tryz.func109,Tryz.ntmps109;go_wp2_with (at_builtin; refine wpList_append_own _ rfl _ _ 157 rfl (w.heap.size) 3 i0 (.int .i64 0) 1 8 Tryz.underlying157 hi hz0 hz1 hz2 rfl (by decide) _ _ _ rfl hown a l.length cap (l.map (Value.int .i64)) rfl HL2.out HSRC.out HONE.out ?_ ?_ ?_ ?_; (focus (unfold maxLen; simp; omega)); (focus (simp; omega)); (focus (simp)); intro v' w4 hown' hgrow _; refine halted ?_)
 have hx4:Ext w w4:=Below.trans hx (below_grown hown hgrow (Nat.le_refl _) hx.size);have hown2:Q0g w4 w.heap.size 3 (.int .i64) v' l:=by
  unfold Q0g;rw [show l.length = 0 + l.length from (Nat.zero_add _).symm]
  exact hown'
 clear hown' hgrow hown hx;unfold Q5f;go_wp2;go_ret;exact ⟨_,rfl,hown2,hx4⟩
theorem Tryz.Z1g:(Tryz.prog.info? 157).map (fun i=>(i.zero,i.size,i.bytes)) = some (some (.slice none 0 0),1,24):=by kernel_rfl
theorem Y2j {W W':World} {base:Nat} {v:Value} {vs us:List Value} {ll:List (List Int)} (h:Q0g W base 157 idV v us) (hs:Sets W vs ll) (hg:W.grownBy W' v.ownBlock):Sets W' vs ll:=by
 refine hs.at fun u l hu b hb hbl=>hg.block b hbl fun e=>?_;obtain ⟨h1,h2⟩:=h
 rcases h2 with ⟨rfl,_⟩ | ⟨g,cap,cur,rfl,hbg,hgc,r⟩
 . cases e
 . have:b = g:=by simpa [Value.ownBlock] using e
   subst this;exact X7d hu hgc hb
theorem Q3m {α:Type} {W W':World} {base:Nat} {e:TypeId} {enc:α -> Value} {v:Value} {l:List α} {g:Nat} {T:TypeId} {cs:Array Value} (hb:Blk W g T cs) (h:Q0g W base e enc v l) (hT:T ≠ e) (hg:W.grownBy W' v.ownBlock):Blk W' g T cs:=by
 have hb2:=hb;unfold Blk at hb ⊢;refine (hg.block g (Array.getElem?_eq_some_iff.1 hb).1 fun e'=>?_).trans hb;obtain ⟨h1,h2⟩:=h
 rcases h2 with ⟨rfl,_⟩ | ⟨g',cap,cur,rfl,hbg,hgc,r⟩
 . cases e'
 . have:g = g':=by simpa [Value.ownBlock] using e'
   subst this;rw [hb] at hgc;injection hgc with h;injection h with _ h;exact hT h
theorem X7q (w:World) (v:Value) (s:Q0c) (hv:Q0o w v s) (hS:Q1d s) :
    Calls Tryz.prog 58 #[v] w fun e w'=>∃ x,e = .returned x /\ Q3j w' x s.hist /\ Ext w w':=by
 obtain ⟨i0,hi,hz0,hz1,hz2⟩:=info_parts Tryz.Z1g;have h8:=hS.some;have h6:=hS.tides;have HS:=Lib.hid hS;obtain ⟨a,b,rfl,h2⟩:=hv;obtain ⟨A,capa,rfl,-,-,-⟩:=h2.ships.opened;obtain ⟨B,capb,rfl,-,-,-⟩:=h2.members.opened;have H2:=Lib.hid h2;clear h2 hS;go_enter Tryz.func58,Tryz.ntmps58;go_wp2_with fail;change Code.wp _ _ _ _ (w.alloc (.cells #[.int .i64 s.limit,.slice A s.ships.length capa,.slice B s.members.length capb] 74));obtain ⟨W,hWW,k0,HXW,eW⟩:=Q2q w 74 #[.int .i64 s.limit,.slice A s.ships.length capa,.slice B s.members.length capb];rw [hWW];clear hWW;have K0:=Lib.hid k0;have c0_2:=k0.cell 2;simp only [Go.Tw.gA,Go.Tw.gB,Go.Tw.gC] at c0_2;clear k0;go_wp2;clear c0_2
 go_loopw [3,10] (fun o iv wr=>∃ (i:Nat) (vs:List Value),i <= s.members.length /\ iv = .int .i64 i /\ Q0g wr W.heap.size 157 idV o vs /\ Sets wr vs (X7g s i) /\ Ext W wr) (fun _ i _=>s.members.length - (intOf i).toNat)
 case atStart=>exact ⟨0,[],Nat.zero_le _,rfl,Q0g.nil _ _ _ _,Sets.nil _,Ext.refl _⟩
 case round =>
  obtain ⟨i,vs,him,rfl,hown,hsets,hxr⟩:=hrel;have HXR:=Lib.hid hxr;have HOW:=Lib.hid hown;have HSE:=Lib.hid hsets;clear hown hsets
  by_cases hlt:i < s.members.length
  . have H3:=H2.out.ext (HXW.out.trans hxr)
    have H4:=H2.out.ext HXW.out;obtain ⟨_,_,hB,_,_,hc⟩:=H3.members.opened;cases hB;obtain ⟨bm,off,x,y,z,rfl,hbm,e0,e1,e2,e3,e4,hx,hy,hz,hsh⟩:=hc i hlt;have hIW:Q0b W x (Q0f s.members i):=by
     obtain ⟨_,_,hB',_,_,hc'⟩:=H4.members.opened;cases hB';obtain ⟨bm',off',x',y',z',hA',_,f0,f1,f2,f3,f4,hx',_⟩:=hc' i hlt;cases hA';have:=hxr.cell f2;rw [e2] at this;cases this;exact hx'
    have HIW:=Lib.hid hIW;obtain ⟨X,capx,rfl,-,hcapx,hcx⟩:=hx.opened;obtain ⟨Y,capy,rfl,-,-,-⟩:=hy.opened;obtain ⟨Z,capz,rfl,-,-,-⟩:=hz.opened;have hT:=(HS.out.shaped i hlt).1;have HRT:=Lib.hid (X6c s hlt);have HRL:=Lib.hid (X3q HS.out i him);obtain ⟨nm,hnm⟩:∃ x,Q1g s.members i = x:=⟨_,rfl⟩;obtain ⟨wt,hwt⟩:∃ x,Q1c s.members i = x:=⟨_,rfl⟩;obtain ⟨lc,hlc⟩:∃ x,Q0f s.members i = x:=⟨_,rfl⟩;obtain ⟨lo,hlo⟩:∃ x,Q0n s.members i = x:=⟨_,rfl⟩;obtain ⟨li,hli⟩:∃ x,Q0v s.members i = x:=⟨_,rfl⟩;rw [hnm] at e0;rw [hwt] at e1;rw [hlc] at e2 HIW HRT hT hcapx hcx;rw [hlo] at e3;rw [hli] at e4;have hiI:(i:Int) < s.members.length:=by omega
    have hlc0:0 < lc.length:=by omega
    obtain ⟨bX,oX,hX,-⟩:=hcx 0 hlc0;subst hX;have hbox:=Ext.box wr (.cells #[.string nm,.int .i64 wt,.slice (some ⟨bX,oX,none⟩) lc.length capx,.slice Y lo.length capy,.slice Z li.length capz] 90);have K3:=Blk.made wr 90 #[.string nm,.int .i64 wt,.slice (some ⟨bX,oX,none⟩) lc.length capx,.slice Y lo.length capy,.slice Z li.length capz];have d2:=K3.cell 2;simp only [Go.Tw.gA,Go.Tw.gB,Go.Tw.gC] at d2;obtain ⟨T,hTT⟩:∃ T,s.ships.length = T:=⟨_,rfl⟩;have HTT:=Lib.hid hTT;have HXB:=Lib.hid hbox;have HOB:=Lib.hid (HOW.out.below hbox);have HSB:=Lib.hid (HSE.out.ext hbox);have HK3:=Lib.hid K3;rw [hTT] at hT HRL;have HT:=Lib.hid hT;clear hc H3 H4 hIW hx hy hz hsh hnm hwt hlc hlo hli hbm hbox K3 hcx hT hTT
    go_light
    go_wp2;obtain ⟨V,hV⟩:∃ V,wr.alloc (.cells #[.string nm,.int .i64 wt,.slice (some ⟨bX,oX,none⟩) lc.length capx,.slice Y lo.length capy,.slice Z li.length capz] 90) = V:=⟨_,rfl⟩;obtain ⟨gb,hgb⟩:∃ x,wr.heap.size = x:=⟨_,rfl⟩;rw [hV] at HXB HOB HSB HK3 ⊢;rw [hgb] at HK3 ⊢;clear hV hgb d2 e0 e1 e2 e3 e4;have HXV:=Lib.hid (hxr.trans HXB.out);clear hxr
    go_loopw [3,17] (fun o tv wr=>∃ (t:Nat) (vs:List Value),t <= lc.length /\ tv = .int .i64 t /\ Q0g wr W.heap.size 157 idV o vs /\ Sets wr vs (X7g s i ++ X7b lc t) /\ Blk wr gb 90 #[.string nm,.int .i64 wt,.slice (some ⟨bX,oX,none⟩) lc.length capx,.slice Y lo.length capy,.slice Z li.length capz] /\ Ext W wr) (fun _ t _=>lc.length - (intOf t).toNat)
    case atStart=>exact ⟨0,vs,Nat.zero_le _,rfl,HOB.out,by rw [show X7b lc 0 = [] from rfl,List.append_nil]; exact HSB.out,HK3.out,HXV.out⟩
    case round =>
     obtain ⟨t,vs,htl,rfl,hown,hsets,hbk,hxw⟩:=hrel;have hvl:vs.length <= 4096:=by
      have h1:=hsets.1;have h2:=HRL.out;rw [List.length_append,X9o,h2] at h1;have h3:i * T <= 8 * 6:=Nat.mul_le_mul (by omega) (by have:=HTT.out; omega)
      have:=HT.out;have:=HTT.out;omega
     by_cases htl2:t < lc.length
     . have hlc6:lc.length <= 6:=by have:=HT.out; have:=HTT.out; omega
       have d2:=hbk.cell 2;simp only [Go.Tw.gA,Go.Tw.gB,Go.Tw.gC] at d2;have HSUC:=Lib.hid (Y5c lc t);have HPRE:=Lib.hid (X4s (HIW.out.ext hxw) (show t + 1 <= lc.length by omega))
       have HPL:Hid ((lc.take (t + 1)).length = t + 1):=Lib.hid (by rw [List.length_take]; omega)
       obtain ⟨lp,hlp⟩:∃ x,lc.take (t + 1) = x:=⟨_,rfl⟩;rw [hlp] at HSUC HPRE HPL;have hkcI:(t:Int) + 1 <= (capx:Int):=by omega
       have hkc1:¬ ((0:Int) <= (t:Int) + 1 -> (capx:Int) < (t:Int) + 1):=by omega
       have hkc2:¬ capx = 0:=by omega
       have hkc4:¬ (t:Int) + 1 < 0:=by omega
       have hkc3:((t:Int) + 1).toNat = t + 1:=by omega
       have hwk:IntKind.i64.wrap ((t:Int) + 1) = (t:Int) + 1:=X6m _ (by omega) (by omega)
       have htI:(t:Int) < lc.length:=by omega
       have HO:=Lib.hid hown;have HSE2:=Lib.hid hsets;have HBK:=Lib.hid hbk;clear hown hsets hbk hlp
       go_light
       go_wp2_with (first | (go_at_call 109; refine (Y6e _ _ _ _ lp HPRE.out HPL.out.symm (by rw [HPL.out]; omega)).mono ?_; rintro e w5 ⟨u,rfl,hu,hx5⟩; obtain ⟨bu,cu,hue,-⟩:=hu.shape; rw [HPL.out] at hue; subst hue; have HU:=Lib.hid hu; have hown:=HO.out.below hx5; have hx6:=hxw.trans hx5; have HX5:=Lib.hid hx5; clear hu) | (at_builtin; refine wpList_append_own _ rfl _ _ 158 rfl (W.heap.size) 157 i0 (.slice none 0 0) 1 24 Tryz.underlying158 hi hz0 hz1 hz2 rfl (by decide) _ _ _ rfl (World.ownsRow.alloc hown _) ⟨w5.heap.size,0,none⟩ 1 1 [.slice bu (t + 1) cu] rfl rfl ?_ ?_ ?_ ?_ ?_ ?_; exact Q4h _ _ _; (focus (simp [Value.oneCell'])); (focus (unfold maxLen; omega)); (focus omega); (focus (have:=hx6.size; simp at this ⊢; omega)); intro v' w1 hown' hgrow _))
       have hx':=Q2r hx6 hown (Nat.le_refl _) hgrow;have hbx:=Ext.box w5 (.cells #[.slice bu (t + 1) cu] 157);have hs5:=Y2j (hown.below hbx) (((HSE2.out.ext HX5.out).snoc (HU.out.weaken (Nat.zero_le _)) (by rw [HPL.out]; omega)).ext hbx) hgrow
       have hb5:=Q3m ((HBK.out.ext HX5.out).ext hbx) (hown.below hbx) (by decide) hgrow
       have HS5:=Lib.hid hs5;have HB5:=Lib.hid hb5;clear hs5 hb5;go_roundw
       case rel=>exact ⟨t + 1,vs ++ [.slice bu (t + 1) cu],by omega,by go_num,Q0g.snoc (x:=Value.slice bu (t + 1) cu) hown',by rw [HSUC.out,<- List.append_assoc]; exact HS5.out,HB5.out,hx'⟩
       case measure=>simp [intOf]; omega
     . have hte:t = lc.length:=by omega
       subst hte;have HO:=Lib.hid hown;have HSE2:=Lib.hid hsets;clear hown hsets hbk;go_wp2;go_roundw
       case rel=>exact ⟨i + 1,vs,by omega,by go_num,HO.out,by rw [HRT.out]; exact HSE2.out,hxw⟩
       case measure=>simp [intOf]; omega
  . have hie:i = s.members.length:=by omega
    subst hie;have HRA:=Lib.hid (Y6x s);have hln:=X3q HS.out _ (Nat.le_refl _);have hvl:vs.length = s.members.length * s.ships.length:=by rw [HSE.out.1,hln]
    have hv1:1 <= s.members.length * s.ships.length:=Nat.mul_le_mul h8.1 h6.1;have hv2:s.members.length * s.ships.length <= 8 * 6:=Nat.mul_le_mul h8.2 h6.2;obtain ⟨N,hN⟩:∃ N,s.members.length * s.ships.length = N:=⟨_,rfl⟩;rw [hN] at hln hvl hv1 hv2;obtain ⟨h1,h2⟩:=HOW.out
    rcases h2 with ⟨_,h2⟩ | ⟨g,cap,cur0,hv,hbg,hg,hcapN,-⟩
    . exfalso; omega
    subst hv;clear h1 hg;rw [HRA.out] at HSE hln;have HLN:=Lib.hid hln;have HSORT:=Lib.hid (Y9p wr g cap W.heap.size vs s.X4u HOW.out HSE.out (by omega))
    have hvn:vs.length = N:=hvl;rw [hvn];rw [hln] at HSORT;clear hN hvl;go_wp2_with (go_at_call 110; refine HSORT.out.mono ?_; rintro e w5 ⟨rfl,ll',cur,vs',hp,hso,hr5,hg5⟩; refine halted ?_);have hll:ll'.length = N:=by rw [hp.length_eq]; exact HLN.out
    have hcur:ll'.length <= cur.length:=by
     have h1:=congrArg List.length hr5.2.1;rw [List.length_take] at h1;have h2:=hr5.2.2.1;omega
    have hcmp:=Y1l w5 g cap cur vs' ll' (by omega) (by omega) (by omega) hcur hso hr5
    rw [hll] at hcmp;have HCMP:=Lib.hid hcmp;have HP:=Lib.hid hp;have HG5:=Lib.hid hg5;have HXR1:=Lib.hid hxr;clear hcmp hp hso hr5 hg5 hxr hcur hll HOW HSE HSORT;unfold Q5f;go_wp2_with (go_at_call 112; refine HCMP.out.mono ?_; rintro e w6 ⟨r,rfl,hir,ha,hm,-,hg6⟩);go_ret;have hr:r = s.hist:=Q0c.Z2j (fun k hk=>HS.out.shaped k hk) ha (fun x=>by rw [hm x]; exact HP.out.mem_iff)
    subst hr;have hg:=Q8d HG5.out hg6;exact ⟨_,rfl,hir,HXW.out.trans (Below.grown HXR1.out hg HXR1.out.size (fun k hk=>by cases hk; exact hbg))⟩
end Go.Proofs
namespace Go.Proofs
open Go.RowKit Go.Tw Go.Flow
attribute [local go_sem] Oper.semAt_some
theorem Y5i (w:World) (u v:Value) (a b:List Int) (hu:Q0b w u a) (hv:Q0b w v b) :
    Calls Tryz.prog 157 #[u,v] w fun e w'=>e = .returned (.bool (decide (a = b))) /\ Ext w w':=by
 obtain ⟨A,capa,rfl,hla,hcapa,hca⟩:=hu.opened;obtain ⟨B,capb,rfl,hlb,hcapb,hcb⟩:=hv.opened;clear hu hv;go_enter Tryz.func157,Tryz.ntmps157
 by_cases hl:a.length = b.length
 . have hne:((a.length:Int) != (b.length:Int)) = false:=by simp [hl]
   go_wp2
   go_loopw [13] (fun i wr=>∃ k:Nat,k <= a.length /\ i = .int .i64 k /\ decide (a.drop k = b.drop k) = decide (a = b) /\ Ext w wr) (fun i _=>a.length - (intOf i).toNat)
   case atStart=>exact ⟨0,Nat.zero_le _,rfl,rfl,Ext.refl _⟩
   case round =>
    obtain ⟨k,hk,rfl,hr,hx⟩:=hrel;have HR:=Lib.hid hr; clear hr
    by_cases hlt:k < a.length
    . have hlt2:k < b.length:=by omega
      obtain ⟨b1,off1,rfl,hc1⟩:=hca k hlt;obtain ⟨b2,off2,rfl,hc2⟩:=hcb k hlt2;replace hc1:=hx.cell hc1;replace hc2:=hx.cell hc2;have HD1:=Lib.hid (Q2e hlt);have HD2:=Lib.hid (Q2e hlt2);clear hca hcb
      by_cases h0:ix a k = ix b k
      . have hx1:(ix a k != ix b k) = false:=by simp [h0]
        have H0:=Lib.hid h0; clear h0;go_wp2
        go_quiet (fail)
        all_goals go_wp2
        go_roundw
        case rel=>exact ⟨k + 1,by omega,by go_num,by rw [<- HR.out,HD1.out,HD2.out,X9b H0.out],hx.drewN _⟩
        case measure=>simp [intOf]; omega
      . have hx1:(ix a k != ix b k) = true:=by simp [h0]
        have H0:=Lib.hid h0; clear h0;go_wp2
        go_quiet (fail)
        all_goals go_wp2
        go_ret;exact ⟨Q0w (by rw [<- HR.out,HD1.out,HD2.out,X9k H0.out]),hx.drewN _⟩
    . clear hca hcb
      go_wp2;go_ret;exact ⟨Q0w (by rw [<- HR.out,List.drop_eq_nil_of_le (by omega),List.drop_eq_nil_of_le (by omega)]; rfl),hx⟩
 . have hne:((a.length:Int) != (b.length:Int)) = true:=by simp; omega
   have HL:Hid (decide (a = b) = false):=Lib.hid (decide_eq_false (fun h=>hl (by rw [h])))
   clear hl hca hcb;go_wp2;go_ret;exact ⟨Q0w (by rw [HL.out]),Ext.refl _⟩
theorem Tryz.Y1v (w:World):(isAgg 64).run Tryz.prog w = .ok true w:=by kernel_rfl
theorem Tryz.X7i (w:World):(sizeOf 64).run Tryz.prog w = .ok 1 w:=by kernel_rfl
theorem Tryz.Z1f (w:World):(sizeOf 67).run Tryz.prog w = .ok 2 w:=by kernel_rfl
theorem Y0w {h:List (List Int)} {p:List Rul} (hl:¬ p.length = h.length):Q0x h p = 2:=if_pos hl
theorem Y2h {h:List (List Int)} {p:List Rul} (hl:p.length = h.length) {k:Nat} (hk:k < p.length) (hne:¬ Q0l p k = h.getD k []):Q0x h p = 11:=by
 unfold Q0x;rw [if_neg (fun hn=>hn hl),if_pos];intro e
 apply hne
 rw [<- e];unfold Q0l;rw [Q0r _ hk]; simp [hk]
theorem Y0r {h:List (List Int)} {p:List Rul} (hl:p.length = h.length) (ha:∀ j,j < p.length -> Q0l p j = h.getD j []):Q0x h p = 0:=by
 rw [Q1o]
 apply List.ext_getElem
 . simp [hl]
 . intro i h1 h2
   have hi:i < p.length:=by simpa using h1
   have:=ha i hi;unfold Q0l at this;rw [Q0r _ hi] at this;simp only [List.getElem_map];rw [this]; simp [h2]
theorem X5e (w:World) (v u:Value) (s:Q0c) (p:List Rul) (hv:Q0o w v s) (hu:Q1q w u p) (hS:Q1d s) (hp:p.length <= 1000) :
    Calls Tryz.prog 94 #[v,u] w fun e w'=>e = .returned (.int .i64 (Q0x s.hist p)) /\ Ext w w':=by
 obtain ⟨a,b,rfl,h2⟩:=hv;obtain ⟨rv,rfl,hr⟩:=hu;obtain ⟨A,capa,rfl,-,-,-⟩:=h2.ships.opened;obtain ⟨B,capb,rfl,-,-,-⟩:=h2.members.opened;obtain ⟨R,capr,rfl,-,-,hcr⟩:=hr.opened;have HCR:=Lib.hid hcr;have HHI:Hid (∀ w',Ext w w' -> Calls Tryz.prog 58 #[.agg #[.int .i64 s.limit,.slice A s.ships.length capa,.slice B s.members.length capb]] w' fun e w''=>∃ x,e = .returned x /\ Q3j w'' x s.hist /\ Ext w' w''):=Lib.hid (fun w' hx=>X7q w' _ s ⟨_,_,rfl,h2.ext hx⟩ hS);have hhl:=Q7l hS;obtain ⟨h,hh⟩:∃ x,s.hist = x:=⟨_,rfl⟩;rw [hh] at HHI hhl ⊢;have HRL:=Lib.hid (Y0w (h:=h) (p:=p));have HRA:Hid (p.length = h.length -> ∀ k,k < p.length -> ¬ Q0l p k = h.getD k [] -> Q0x h p = 11):=Lib.hid (fun hl k hk hn=>Y2h hl hk hn);have HRZ:=Lib.hid (Y0r (h:=h) (p:=p));clear h2 hS hr hcr hh;go_enter Tryz.func94,Tryz.ntmps94;go_wp2_with fail;change Calls _ _ _ ((w.alloc (.cells #[.int .i64 s.limit,.slice A s.ships.length capa,.slice B s.members.length capb] 74)).alloc (.cells #[.slice R p.length capr] 64)) _;obtain ⟨W,hWW,k0,k1,HXW,eW⟩:=Q5t w 74 #[.int .i64 s.limit,.slice A s.ships.length capa,.slice B s.members.length capb] 64 #[.slice R p.length capr];rw [hWW];clear hWW;have K0:=Lib.hid k0;have K1:=Lib.hid k1;obtain ⟨gs,hgs⟩:∃ x,w.heap.size = x:=⟨_,rfl⟩;rw [hgs] at K0 K1 eW ⊢;clear k0 k1;refine (HHI.out W HXW.out).mono ?_;rintro e w5 ⟨x,rfl,hx,hx5⟩;obtain ⟨H,caph,rfl,-,-,hch⟩:=hx.opened;have c1:=(K1.out.ext hx5).cell 0;simp only [Go.Tw.gA,Go.Tw.gB] at c1;have HCH:=Lib.hid hch;have HX5:=Lib.hid (HXW.out.trans hx5);have HK5:=Lib.hid (K1.out.ext hx5);clear hx hch hx5
 by_cases hl:p.length = h.length
 . have hne:((p.length:Int) != (h.length:Int)) = false:=by simp [hl]
   have HL:=Lib.hid hl;clear hl;go_wp2;clear c1
   go_loopw [19] (fun i wr=>∃ k:Nat,k <= p.length /\ i = .int .i64 k /\ (∀ j,j < k -> Q0l p j = h.getD j []) /\ Ext w5 wr) (fun i _=>p.length - (intOf i).toNat)
   case atStart=>exact ⟨0,Nat.zero_le _,rfl,fun j hj=>by omega,Ext.refl _⟩
   case round =>
    obtain ⟨k,hk,rfl,hall,hxr⟩:=hrel;have HALL:=Lib.hid hall;clear hall
    by_cases hlt:k < p.length
    . obtain ⟨br,orr,xr,rfl,_,hx0,hx1,hxi⟩:=HCR.out k hlt
      obtain ⟨Xr,cxr,rfl,-,-,-⟩:=hxi.opened;obtain ⟨bh,oh,xh,rfl,_,hh0,hhi⟩:=HCH.out k (by have:=HL.out; omega)
      obtain ⟨Xh,cxh,rfl,-,-,-⟩:=hhi.opened;have hnx:=HRA.out HL.out k hlt;obtain ⟨cl,hcl⟩:∃ x,Q0l p k = x:=⟨_,rfl⟩;obtain ⟨cb,hcb⟩:∃ x,Q3d p k = x:=⟨_,rfl⟩;obtain ⟨hk1,hhk⟩:∃ x,h.getD k [] = x:=⟨_,rfl⟩;rw [hcl] at hx0 hxi hnx;rw [hcb] at hx1;rw [hhk] at hh0 hhi hnx;obtain ⟨q,hq⟩:∃ q,decide (cl = hk1) = q:=⟨_,rfl⟩;have HQ:=Lib.hid hq;have HNX:=Lib.hid hnx;have HEQ:Hid (cl = hk1 -> ∀ j,j < k + 1 -> Q0l p j = h.getD j []):=Lib.hid (fun he j hj=>by
       by_cases hjk:j = k
       . subst hjk; rw [hcl,hhk]; exact he
       . exact HALL.out j (by omega))
      have hbox:=Ext.box wr (.cells #[.slice Xr cl.length cxr,.bool cb] 67);have K3:=Blk.made wr 67 #[.slice Xr cl.length cxr,.bool cb];have HXI:=Lib.hid (hxi.ext (HX5.out.trans (hxr.trans hbox)));have HHI2:=Lib.hid (hhi.ext (hxr.trans hbox));replace hx0:=(HX5.out.trans hxr).cell hx0;replace hx1:=(HX5.out.trans hxr).cell hx1;have hh2:=(hxr.trans hbox).cell hh0;have d0:=K3.cell 0;simp only [Go.Tw.gA,Go.Tw.gB] at d0;have hkI:(k:Int) < p.length:=by omega
      have hkH:(k:Int) < h.length:=by have:=HL.out; omega
      have HXB:=Lib.hid (hxr.trans hbox);clear hxi hhi hnx hcl hcb hhk hq hh0
      go_light
      go_wp2;obtain ⟨V,hV⟩:∃ V,wr.alloc (.cells #[.slice Xr cl.length cxr,.bool cb] 67) = V:=⟨_,rfl⟩;rw [hV] at HXB HXI HHI2 hh2 d0 hbox ⊢;have hdr:=(Ext.refl V).drew;clear hV K3 hbox hxr hx0 hx1;refine Flow.Q1p [.p,.w,.p,.p,.p,.w,.w,.p] [0,1,2,3,4,5,6,7] [[],[0],[],[],[2,3],[4],[1,5],[6]]
       [.c 0 (.pointer (some ⟨wr.heap.size,0,none⟩)),.c 1 (.slice Xr cl.length cxr),.c 2 (.slice (some ⟨bh,oh,none⟩) h.length caph),.c 3 (.int .i64 (k:Int)),.c 4 (.pointer (some ⟨bh,oh + k,none⟩)),.c 5 (.slice Xh hk1.length cxh),.c 6 (.bool q),.c 7 (.bool (!q))]
       (by kernel_rfl) rfl (by kernel_rfl) ⟨?g0,?g1,?g2,?g3,?g4,?g5,?g6,?g7,trivial⟩ ?post
      case g0 | g2 | g3=>
       intro v w1 hx;intro bb hbb;subst hbb;refine ⟨_,fun w=>?_,rfl⟩;go_simp
      case g1 | g5=>
       intro v w1 hx;(repeat intro (zq:v _ = _));intro bb hbb;subst hbb;have d0:=hx.cell d0;have hh2:=hx.cell hh2;intro K hK;go_simp;exact hK _ _ (Ext.refl _) rfl
      case g4 | g7=>
       intro v w1 hx;(repeat intro (zq:v _ = _));intro bb hbb;subst hbb;refine ⟨_,fun w=>?_,rfl⟩;go_simp
      case g6=>
       intro v w1 hx;(repeat intro (zq:v _ = _));intro bb hbb;subst hbb;have d0:=hx.cell d0;have hh2:=hx.cell hh2;intro K hK;go_simp;refine Q0d (Y5i w1 _ _ cl hk1 (HXI.out.ext (hdr.trans hx)) (HHI2.out.ext (hdr.trans hx))) ?_;rintro e w2 ⟨rfl,hx2⟩;rw [HQ.out];exact ⟨_,rfl,hK _ _ hx2 rfl⟩
      case post =>
       intro v w1 hx;(iterate 8 intro (zq:v _ = _));simp only [Flow.All,Flow.acts,Act.put];go_simp;have HX9:=Lib.hid (HXB.out.trans (hdr.trans hx));clear hx hdr d0 hh2;(repeat clear zq);cases q with
       | true =>
         have HE9:=Lib.hid (HEQ.out (of_decide_eq_true HQ.out));go_wp2;go_roundw
         case rel=>exact ⟨k + 1,by omega,by go_num,HE9.out,HX9.out⟩
         case measure=>simp [intOf]; omega
       | false =>
         have HE9:=Lib.hid (HNX.out (of_decide_eq_false HQ.out));go_wp2;go_ret;exact ⟨Q0q HE9.out.symm,HX5.out.trans HX9.out⟩
    . have HZ:Hid (Q0x h p = 0):=Lib.hid (HRZ.out HL.out (fun j hj=>HALL.out j (by omega)))
      go_wp2;go_ret;exact ⟨Q0q HZ.out.symm,HX5.out.trans hxr⟩
 . have hne:((p.length:Int) != (h.length:Int)) = true:=by simp; omega
   have HL:=Lib.hid (HRL.out hl);clear hl;go_wp2;go_ret;exact ⟨Q0q HL.out.symm,HX5.out⟩
theorem Q6i (w:World) (v u:Value) (s:Q0c) (p:List Rul) (hv:Q0o w v s) (hu:Q1q w u p) (hs:Q3z s) (hp:p.length <= 1000) :
    Calls Tryz.prog 46 #[v,u] w fun e w'=>e = .returned (.int .i64 (Q2o s p)) /\ Ext w w':=by
 obtain ⟨a,b,rfl,h2⟩:=hv;obtain ⟨rv,rfl,hr⟩:=hu;obtain ⟨A,capa,rfl,-,-,-⟩:=h2.ships.opened;obtain ⟨B,capb,rfl,-,-,-⟩:=h2.members.opened;obtain ⟨R,capr,rfl,-,-,-⟩:=hr.opened;have H2:=Lib.hid h2;have HR:=Lib.hid hr;have HS:=Lib.hid hs;clear h2 hr hs;go_enter Tryz.func46,Tryz.ntmps46;go_wp2_with fail;change Calls _ _ _ ((w.alloc (.cells #[.int .i64 s.limit,.slice A s.ships.length capa,.slice B s.members.length capb] 74)).alloc (.cells #[.slice R p.length capr] 64)) _;obtain ⟨W,hWW,k0,k1,HXW,eW⟩:=Q5t w 74 #[.int .i64 s.limit,.slice A s.ships.length capa,.slice B s.members.length capb] 64 #[.slice R p.length capr];rw [hWW];clear hWW;have K0:=Lib.hid k0;have K1:=Lib.hid k1;clear k0 k1;refine (Q6n _ _ s ⟨_,_,rfl,H2.out.ext HXW.out⟩ HS.out).mono ?_;rintro e w5 ⟨rfl,hx5⟩;have HX5:=Lib.hid (HXW.out.trans hx5)
 by_cases he:s.err = 0
 . have HV:=Lib.hid (Q1d.of he)
   have HPE:Hid (Q2o s p = Q0x s.hist p):=Lib.hid (if_neg (fun hn=>hn he));have hne:(s.err != 0) = false:=by simp [he]
   obtain ⟨E,hE⟩:∃ E,s.err = E:=⟨_,rfl⟩;have c0:=(K0.out.ext hx5).cell 0;have c1:=(K0.out.ext hx5).cell 1;have c2:=(K0.out.ext hx5).cell 2;simp only [Go.Tw.gA,Go.Tw.gB,Go.Tw.gC] at c0 c1 c2;have d0:=(K1.out.ext hx5).cell 0;simp only [Go.Tw.gA,Go.Tw.gB] at d0;rw [hE] at hne ⊢;clear he hE hx5;go_wp2_with (go_at_call 94; refine (X5e _ _ _ s p ⟨_,_,rfl,H2.out.ext HX5.out⟩ ⟨_,rfl,HR.out.ext HX5.out⟩ HV.out hp).mono ?_; rintro e w6 ⟨rfl,hx6⟩);go_ret;exact ⟨Q0q HPE.out.symm,HX5.out.trans hx6⟩
 . have HPE:Hid (Q2o s p = s.err):=Lib.hid (if_pos he)
   have hne:(s.err != 0) = true:=by simp [he]
   obtain ⟨E,hE⟩:∃ E,s.err = E:=⟨_,rfl⟩;rw [hE] at hne HPE ⊢;clear he hE hx5;go_wp2;go_ret;exact ⟨Q0q HPE.out.symm,HX5.out⟩
end Go.Proofs
namespace Go.Proofs
open Go.RowKit Go.Tw Go.Flow
attribute [local go_sem] Oper.semAt_some
theorem Tryz.Z5s:(Tryz.prog.info? 66).map (fun i=>(i.zero,i.size,i.bytes)) = some (some (.agg #[.slice none 0 0,.bool false]),2,32):=by kernel_rfl
def Q4g (q:Value × Rul):List Value:=[q.1,.bool q.2.close]
theorem Q3g (q:Value × Rul):(Q4g q).length = 2:=rfl
theorem X6u {w w0:World} {B:Nat} {T:TypeId} {v:Value} {qs:List (Value × Rul)} (h:Q1r w B T 2 Q4g v qs) (hl:qs.length <= 100000) (hr:∀ q ∈ qs,Q0b w0 q.1 q.2.classes) (hx:Ext w0 w):Q1n w v (qs.map (·.2)):=by
 refine h.rowsOf (by simp) (by simp; omega) Q3g (fun j h1 h2=>?_) (fun c c' x hc h=>?_)
 . have hq:=List.getElem_mem h1
   simp only [List.getElem_map];exact ⟨(hr _ hq).ext hx,rfl⟩
 . exact ⟨by rw [<- hc 0 (by omega)]; exact h.1,by rw [<- hc 1 (by omega)]; exact h.2⟩
theorem _root_.Go.Tw.Q1r.X2x {α:Type} {w:World} {base k:Nat} {e:TypeId} {enc:α -> List Value} {v:Value} {l:List α} (h:Q1r w base e k enc v l) {p:Addr} (hp:p.block < base) (u:Value):Q1r (w.setCell p u) base e k enc v l:=h.only hp (X1z _ _ _)
theorem _root_.Go.Tw.Ext.X7h {w w':World} (h:Ext w w') {p:Addr} (hp:w.heap.size <= p.block) (u:Value):Ext w (w'.setCell p u):=Below.setCell h hp u
end Go.Proofs
namespace Go.Proofs
open Go.RowKit Go.Tw Go.Flow
attribute [local go_sem] Oper.semAt_some
abbrev MV:=Mem × Value × Value × Value
def Y1j (q:MV):List Value:=[.string q.1.name,.int .i64 q.1.weight,q.2.1,q.2.2.1,q.2.2.2]
theorem Y3v (q:MV):(Y1j q).length = 5:=rfl
structure X9n (w:World) (q:MV):Prop where
 c:Q0g w 0 3 (.int .i64) q.2.1 q.1.classes
 o:Q0g w 0 3 (.int .i64) q.2.2.1 q.1.outside
 i:Q0g w 0 3 (.int .i64) q.2.2.2 q.1.inflow
def Z6g (w:World) (qs:List MV):Prop:=∀ q ∈ qs,X9n w q
theorem X9n.ext {w w':World} {q:MV} (h:X9n w q) (hx:Ext w w'):X9n w' q:=⟨h.c.below hx,h.o.below hx,h.i.below hx⟩
theorem X9n.one {w:World} {q:MV} (h:X9n w q):∀ u ∈ Y1j q,u.oneCell' = true:=by
 obtain ⟨_,_,e1,_⟩:=h.c.shape;obtain ⟨_,_,e2,_⟩:=h.o.shape;obtain ⟨_,_,e3,_⟩:=h.i.shape;intro u hu;simp only [Y1j,List.mem_cons,List.not_mem_nil,or_false] at hu
 rcases hu with rfl | rfl | rfl | rfl | rfl
 . rfl
 . rfl
 . rw [e1]; rfl
 . rw [e2]; rfl
 . rw [e3]; rfl
theorem X9n.grown {w w':World} {q:MV} {base n size:Nat} {e:TypeId} {cv:Value} {xs:List Value} (h:X9n w q) (hown:w.ownsRow base e size cv n xs) (he:e ≠ 3) (hg:w.grownBy w' cv.ownBlock):X9n w' q:=⟨Q2k h.c hown he hg,Q2k h.o hown he hg,Q2k h.i hown he hg⟩
theorem X9n.set {w:World} {q:MV} {O k:Nat} {u:Value} {S:TypeId} {cs:Array Value} (h:X9n w q) (hb:Blk w O S cs) (hT:S ≠ 3):X9n (w.setCell ⟨O,k,none⟩ u) q:=⟨Q3e h.c hb hT,Q3e h.o hb hT,Q3e h.i hb hT⟩
theorem Q5o {w w':World} {v:Value} {l:List Int} {g:Nat} {T S:TypeId} {cs:Array Value} (h:Q0g w 0 T (Value.int .i64) v l) (hb:Blk w g S cs) (hT:S ≠ T) (ho:∀ k,k ≠ g -> w'.heap[k]? = w.heap[k]?):Q0g w' 0 T (Value.int .i64) v l:=by
 obtain ⟨h1,h2⟩:=h;refine ⟨h1,?_⟩
 rcases h2 with h2 | ⟨g',cap,cur,hv,hbb,hgl,r⟩
 . exact .inl h2
 . refine .inr ⟨g',cap,cur,hv,hbb,?_,r⟩
   rw [ho g' ?_]; exact hgl;rintro rfl;unfold Blk at hb;rw [hb] at hgl;injection hgl with hgl;injection hgl with _ h3 _;exact hT h3
theorem X9n.only {w w':World} {q:MV} {g:Nat} {S:TypeId} {cs:Array Value} (h:X9n w q) (hb:Blk w g S cs) (hT:S ≠ 3) (ho:∀ k,k ≠ g -> w'.heap[k]? = w.heap[k]?):X9n w' q:=⟨Q5o h.c hb hT ho,Q5o h.o hb hT ho,Q5o h.i hb hT ho⟩
theorem Y8v {w:World} {B:Nat} {T:TypeId} {v:Value} {qs:List MV} (h:Q1r w B T 5 Y1j v qs) (hl:qs.length <= 100000) (hr:Z6g w qs) (hs:∀ q ∈ qs,Short q.1.name /\ q.1.classes.length <= 1000 /\ q.1.outside.length <= 1000 /\ q.1.inflow.length <= 1000):Q7v w v (qs.map (·.1)):=by
 refine h.rowsOf (by simp) (by simp; omega) Y3v (fun j h1 h2=>?_) (fun c c' x hc h=>?_)
 . have hq:=List.getElem_mem h1
   have hm:=hr _ hq;obtain ⟨s1,s2,s3,s4⟩:=hs _ hq;simp only [List.getElem_map];exact ⟨rfl,rfl,hm.c.ints (by omega),hm.o.ints (by omega),hm.i.ints (by omega),s1⟩
 . exact ⟨by rw [<- hc 0 (by omega)]; exact h.1,by rw [<- hc 1 (by omega)]; exact h.2.1,by rw [<- hc 2 (by omega)]; exact h.2.2.1,by rw [<- hc 3 (by omega)]; exact h.2.2.2.1,by rw [<- hc 4 (by omega)]; exact h.2.2.2.2.1,h.2.2.2.2.2⟩
theorem Tryz.Z4t:(Tryz.prog.info? 90).map (fun i=>(i.zero,i.size,i.bytes)) = some (some (.agg #[.string ⟨#[]⟩,.int .i64 0,.slice none 0 0,.slice none 0 0,.slice none 0 0]),5,96):=by kernel_rfl
theorem Tryz.Y3k (w:World):(sizeOf 77).run Tryz.prog w = .ok 5 w:=by kernel_rfl
theorem Tryz.Z3i (w:World):(sizeOf 72).run Tryz.prog w = .ok 1 w:=by kernel_rfl
theorem Tryz.X3a (w:World):(sizeOf 74).run Tryz.prog w = .ok 3 w:=by kernel_rfl
theorem Tryz.Y7j (w:World):(isAgg 74).run Tryz.prog w = .ok true w:=by kernel_rfl
theorem X7j (w:World) (i:Int) (a:Option Addr) (n c:Nat):(Instr.build 74 #[(0,.int .i64 i),(1,.slice a n c)]).run Tryz.prog w = .ok (.agg #[.int .i64 i,.slice a n c,.slice none 0 0]) w:=by kernel_rfl
theorem X8q (w:World) (s:ByteArray) (i:Int) (a b d:Option Addr) (n1 c1 n2 c2 n3 c3:Nat):(Instr.build 90 #[(0,.string s),(1,.int .i64 i),(2,.slice a n1 c1),(3,.slice b n2 c2),(4,.slice d n3 c3)]).run Tryz.prog w = .ok (.agg #[.string s,.int .i64 i,.slice a n1 c1,.slice b n2 c2,.slice d n3 c3]) w:=by kernel_rfl
theorem Y7g (w:World) (s:ByteArray) (i:Int) (a b d:Option Addr) (n1 c1 n2 c2 n3 c3:Nat):(Instr.buildSlice 72 1 #[(0,.agg #[.string s,.int .i64 i,.slice a n1 c1,.slice b n2 c2,.slice d n3 c3])]).run Tryz.prog w = .ok (.slice (some ⟨w.heap.size,0,none⟩) 1 1) (w.alloc (.cells #[.string s,.int .i64 i,.slice a n1 c1,.slice b n2 c2,.slice d n3 c3] 90)):=by kernel_rfl
theorem X0g {w:World} {o:Oper} {a:Act} (T:TypeId) (x y:Operand) (hop:o.op = .build T #[(0,x),(1,y)]) {u1 u2 r:Value} (h1:a.eval x = u1) (h2:a.eval y = u2) (hr:∀ w,(Instr.build T #[(0,u1),(1,u2)]).run Tryz.prog w = .ok r w):(execOp a.eval o).run Tryz.prog w = .ok (.value r) w:=by
 unfold execOp;simp only [hop,List.map_toArray,List.map_cons,List.map_nil,h1,h2,Sem.run_bind,hr,Result.andThen_ok,Sem.run_pure]
theorem Y5r {w:World} {o:Oper} {a:Act} (T:TypeId) (x y z p q:Operand) (hop:o.op = .build T #[(0,x),(1,y),(2,z),(3,p),(4,q)]) {u1 u2 u3 u4 u5 r:Value} (h1:a.eval x = u1) (h2:a.eval y = u2) (h3:a.eval z = u3) (h4:a.eval p = u4) (h5:a.eval q = u5) (hr:∀ w,(Instr.build T #[(0,u1),(1,u2),(2,u3),(3,u4),(4,u5)]).run Tryz.prog w = .ok r w):(execOp a.eval o).run Tryz.prog w = .ok (.value r) w:=by
 unfold execOp;simp only [hop,List.map_toArray,List.map_cons,List.map_nil,h1,h2,h3,h4,h5,Sem.run_bind,hr,Result.andThen_ok,Sem.run_pure]
theorem Y7e {P:Program} {ops:Array Oper} {Q:Exit -> Act -> World -> Prop} {rest:List Oper} {a:Act} {w:World} {T ty:TypeId} {p x:Operand} {pos} {after} (h:wpList P ops Q (⟨none,.store T p x,ty,pos,after,none⟩ :: rest) a w):wpList P ops Q (⟨none,.store T p x,ty,pos,after,none⟩ :: rest) a w:=h
theorem Z7j {a:ByteArray} {b:Int} {X Y Z:Option Addr} {l m n c d e:Nat}:∀ u ∈ (#[Value.string a,.int .i64 b,.slice X l c,.slice Y m d,.slice Z n e]:Array Value).toList,u.oneCell' = true:=by
 intro u hu;simp only [List.mem_cons,List.not_mem_nil,or_false] at hu
 rcases hu with rfl | rfl | rfl | rfl | rfl <;> rfl
end Go.Proofs
