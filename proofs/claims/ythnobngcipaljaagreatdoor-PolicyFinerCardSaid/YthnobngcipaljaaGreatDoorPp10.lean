/- Contracts: closings (of the program): the map of the rules, and what it says for each member. Contracts: closings (of the program). Contracts: kept, weight, checkMember, checkMembers (of the program). -/
import Derived.Test.YthnobngcipaljaaGreatDoorPp08
import Derived.Test.YthnobngcipaljaaGreatDoorPp09
set_option maxRecDepth 1000000
set_option maxHeartbeats 64000000
set_option linter.unusedVariables false
set_option linter.unusedSimpArgs false
set_option linter.constructorNameAsVariable false
open Go.Lib (hid)
namespace Go.Proofs
open Go.RowKit Go.Tw Go.Flow
attribute [local go_sem] Oper.semAt_some
theorem Z6r:Tryz.prog.underlying 245=some (.map 9 4):=by kernel_rfl
theorem Z9s:Tryz.prog.underlying 9=some .string:=by kernel_rfl
theorem J0r (w:World):(zeroValue 4).run Tryz.prog w=.ok (.bool false) w:=by kernel_rfl
theorem Z8l {α:Type} {enc:α -> Value} {w:World} {v:Value} {x:α} (h:Q6p w v (enc x)):Src w enc v [x]:=by
 obtain ⟨g,h1,h2⟩:=h;exact ⟨_,1,h1,fun j hj=>⟨g,0,rfl,by
  have:j=0:=by simp at hj; exact hj
  subst this; exact h2⟩⟩
def X2u (p:List Rul) (l:List Int) (k:Nat):List Bool:=(List.range k).map fun t=>Tw.look p (l.take (t + 1))
theorem Y6i (p:List Rul) (l:List Int) (k:Nat):X2u p l (k + 1)=X2u p l k ++ [Tw.look p (l.take (k + 1))]:=by unfold X2u; rw [List.range_succ,List.map_append]; rfl
theorem Y9k (p:List Rul) (l:List Int) (k:Nat):(X2u p l k).length=k:=by simp [X2u]
theorem X7e (w:World) (v:Value) (m:Mem) (p:List Rul) (B b:Nat) (hv:X0q w v m) (hn:(p.map Rul.classes).Nodup) (hd:∀ k,k < p.length -> Digits (Q0n p k)) (hm:Digits m.classes) (hl:m.classes.length <= 8)
    (hB:w.cell? ⟨B,0,none⟩=some (.map (some b))) (hM:Q5e w b (Q6g p p.length)) :
    Calls Tryz.prog 168 #[v,.pointer (some ⟨B,0,none⟩)] w fun e w'=>∃ x,e=.returned x /\ Q0q w' w.heap.size 4 .bool x (Q0m p m.classes) /\ Ext w w':=by
 obtain ⟨i0,hi,hz0,hz1,hz2⟩:=info_parts Tryz.Y8e;obtain ⟨x,y,z,rfl,hx,hy,hz⟩:=hv;have HXI:=hid hx;obtain ⟨X,capx,rfl,-,hcapx,hcX⟩:=hx.opened;obtain ⟨Y,capy,rfl,-,-,-⟩:=hy.opened;obtain ⟨Z,capz,rfl,-,-,-⟩:=hz.opened;have HCX:=hid hcX;obtain ⟨lc,hlc⟩:∃ x,m.classes=x:=⟨_,rfl⟩;rw [hlc] at HXI hcapx HCX hm hl ⊢;obtain ⟨lo,hlo⟩:∃ x,m.outside.length=x:=⟨_,rfl⟩;obtain ⟨li,hli⟩:∃ x,m.inflow.length=x:=⟨_,rfl⟩;rw [hlo,hli];have HLK:Hid (∀ (W:World) (k:Nat),Ext w W -> (Instr.lookup 245 (.map (some b)) (.string (Q5x (lc.take k))) false).run Tryz.prog W=.ok (.bool (Tw.look p (lc.take k))) W):=hid (fun W k hW=>by
  have h:=X6x (P:=Tryz.prog) (hM.ext hW) Z6r Z9s (J0r _) (Q5x (lc.take k)) false;rw [if_neg (by simp),Y2h hn hd (Q4k hm k)] at h
  exact h)
 have HDG:=hid hm;have HBC:=hid hB;clear hx hy hz hcX hM hn hd hm hlc hlo hli hB;go_enter Tryz.func168,Tryz.ntmps168;go_wp2_with fail;change Code.wp _ _ _ _ (w.alloc (.cells #[.string m.name,.int .i64 m.weight,.slice X lc.length capx,.slice Y lo capy,.slice Z li capz] 69));obtain ⟨W,hWW,k0,HXW,eW⟩:=Q1t w 69 #[.string m.name,.int .i64 m.weight,.slice X lc.length capx,.slice Y lo capy,.slice Z li capz];rw [hWW];clear hWW;have K0:=hid k0;have c0_2:=k0.cell 2;simp only [Go.Tw.gA,Go.Tw.gB,Go.Tw.gC] at c0_2;obtain ⟨gm,hgm⟩:∃ x,w.heap.size=x:=⟨_,rfl⟩;rw [hgm] at K0 eW c0_2 ⊢;clear k0;go_wp2;clear c0_2
 go_loopw [4,9] (fun o i wr=>∃ k:Nat,k <= lc.length /\ i=.int .i64 k /\ Q0q wr W.heap.size 4 .bool o (X2u p lc k) /\ Ext W wr) (fun _ i _=>lc.length - (intOf i).toNat)
 case atStart=>exact ⟨0,Nat.zero_le _,rfl,Q0q.nil _ _ _ _,Ext.refl _⟩
 case round =>
  obtain ⟨k,hk,rfl,hown,hxr⟩:=hrel;obtain ⟨Ao,co,rfl,-⟩:=hown.shape;have hol:=Y9k p lc k
  by_cases hlt:k < lc.length
  . obtain ⟨bc,oc,hXe,-⟩:=HCX.out k hlt
    subst hXe;have HXR:=hid hxr;have HOW:=hid hown;have hkI:(k:Int) < lc.length:=by omega
    have hkc:k + 1 <= capx:=by omega
    have hkcI:(k:Int) + 1 <= (capx:Int):=by omega
    have hkc1:¬ ((0:Int) <= (k:Int) + 1 -> (capx:Int) < (k:Int) + 1):=by omega
    have hkc2:¬ capx=0:=by omega
    have hkc4:¬ (k:Int) + 1 < 0:=by omega
    have hkc3:((k:Int) + 1).toNat=k + 1:=by omega
    have hwk:IntKind.i64.wrap ((k:Int) + 1)=(k:Int) + 1:=Q2v _ (by omega) (by omega)
    have HSUC:=hid (Y6i p lc k);have HPRE:Hid (Q0d w (.slice (some ⟨bc,oc,none⟩) (k + 1) capx) (lc.take (k + 1))):=hid (X6b HXI.out (by omega))
    have HPL:Hid ((lc.take (k + 1)).length <= 4096):=hid (by rw [List.length_take]; omega)
    have HPD:=hid (Q4k HDG.out (k + 1));have HL1:=hid (fun W hW=>HLK.out W (k + 1) hW);obtain ⟨lp,hlp⟩:∃ x,lc.take (k + 1)=x:=⟨_,rfl⟩;rw [hlp] at HSUC HPRE HPL HPD HL1;obtain ⟨q,hq⟩:∃ x,Tw.look p lp=x:=⟨_,rfl⟩;rw [hq] at HSUC HL1;have hol2:(X2u p lc k).length + 1 <= 4398046511104:=by omega
    obtain ⟨xs,hxs⟩:∃ x,X2u p lc k=x:=⟨_,rfl⟩;rw [hxs] at HOW hol hol2 HSUC ⊢;have HOL:=hid hol;have HOL2:=hid hol2;have hdr:=(Ext.refl wr).drew;clear hown hlp hq hxr hol hol2 hxs
    go_light
    go_wp2;refine Flow.Q4m [.p,.w,.p,.w,.p,.p,.p,.w,.w,.w,.last,.last] [0,1,2,3,4,5,6,7,8,9,10,11] [[],[],[],[2],[],[4],[2,3,4,5],[2,3,4,5,6],[1,2,3,4,5,6,7],[1,2,3,4,5,6,7,8],[0,1,2,3,4,5,6,7,8,9],[0,1,2,3,4,5,6,7,8,9,10]] [10,11]
     [.c 0 (.slice Ao xs.length co),.c 1 (.map (some b)),.c 2 (.pointer (some ⟨gm,2,none⟩)),.c 3 (.slice (some ⟨bc,oc,none⟩) lc.length capx),.c 4 (.int .i64 (k:Int)),.c 5 (.int .i64 ((k:Int) + 1)),.c 6 (.slice (some ⟨bc,oc,none⟩) (k + 1) capx),.c 7 (.string (Q5x lp)),.c 8 (.bool q),⟨fun v wz=>(fun v w'=>Q6p w' (v 9) (.bool q)) v wz,fun _ _ _ hx h=>Q6p.ext h hx⟩,.none,.none]
     [fun v w1 w'=>Q0q w' W.heap.size 4 .bool (v 10) (xs ++ [q]) /\ w1.grownBy w' (Value.slice Ao xs.length co).ownBlock,fun v w1 w'=>v 11=v 10 /\ Q0q w' W.heap.size 4 .bool (v 10) (xs ++ [q]) /\ w1.grownBy w' (Value.slice Ao xs.length co).ownBlock] (by kernel_rfl) rfl (by kernel_rfl) ⟨?g0,?g1,?g2,?g3,?g4,?g5,?g6,?g7,?g8,?g9,?g10,?g11,trivial⟩ ?post
    case g0 | g2 | g4=>
     intro v w1 hx;intro bb hbb;subst hbb;refine ⟨_,fun w=>?_,rfl⟩;go_simp
    case g1=>
     intro v w1 hx;intro bb hbb;subst hbb;have n0:w1.cell? ⟨B,0,none⟩=some (.map (some b)):=(HXW.out.trans (HXR.out.trans (hdr.trans hx))).cell HBC.out;intro K hK;go_simp;exact hK _ _ (Ext.refl _) rfl
    case g3=>
     intro v w1 hx;(repeat intro (zq:v _=_));intro bb hbb;subst hbb;have n0:w1.cell? ⟨gm,2,none⟩=some (.slice (some ⟨bc,oc,none⟩) lc.length capx):=(K0.out.ext (HXR.out.trans (hdr.trans hx))).cell 2;intro K hK;go_simp;exact hK _ _ (Ext.refl _) rfl
    case g5 | g6=>
     intro v w1 hx;(repeat intro (zq:v _=_));intro bb hbb;subst hbb;refine ⟨_,fun w=>?_,rfl⟩;go_simp
    case g7=>
     intro v w1 hx;(repeat intro (zq:v _=_));intro bb hbb;subst hbb;intro K hK;go_simp;refine Q0e (Y0f w1 _ lp (HPRE.out.ext (HXW.out.trans (HXR.out.trans (hdr.trans hx)))) HPL.out HPD.out) ?_;rintro e w2 ⟨rfl,hx2⟩;exact ⟨_,rfl,hK _ _ hx2 rfl⟩
    case g8=>
     intro v w1 hx;(repeat intro (zq:v _=_));intro bb hbb;subst hbb;have hlk:=HL1.out w1 (HXW.out.trans (HXR.out.trans (hdr.trans hx)));intro K hK;go_simp;exact hK _ _ (Ext.refl _) rfl
    case g9=>
     intro v w1 hx;(repeat intro (zq:v _=_));intro bb hbb;subst hbb;intro K hK;go_simp;exact hK _ _ (Ext.box _ _) (Q6p.made _ _ _)
    case g10=>
     intro v w1 hx (q0:v 0=_) (q1:v 1=_) (q2:v 2=_) (q3:v 3=_) (q4:v 4=_) (q5:v 5=_) (q6:v 6=_) (q7:v 7=_) (q8:v 8=_) (q9:(fun v w'=>Q6p w' (v 9) (.bool q)) v w1);intro wl hT;obtain rfl:wl=w1:=hT;intro bb hbb;intro K hK;have o1:bb.eval (.tmp 12)=.slice Ao xs.length co:=by rw [hbb]; dsimp only; (try simp (discharger:=decide) only [eval_put_ne]); rw [Q0a (by exact (by decide:12 < 25))]; exact q0
     have o2:bb.eval (.tmp 21)=v 9:=by rw [hbb]; dsimp only; (try simp (discharger:=decide) only [eval_put_ne]); rw [Q0a (by simp only [size_put]; exact (by decide:21 < 25))]
     refine Q5d _ _ 82 rfl W.heap.size 4 i0 (.bool false) 1 Tryz.underlying82 hi hz0 hz1 hz2 rfl .bool (.slice Ao xs.length co) (v 9) xs [q] o1 (HOW.out.below (hdr.trans hx)) o2 (Z8l q9) (fun y hy=>rfl) (by have:=HOL2.out; rw [List.length_singleton]; exact this) (by decide) (by have:=HXR.out.size; have:=hx.size; have:wr.drew.heap.size=wr.heap.size:=rfl; omega) (fun v' w' hown hg=>hK _ _ ⟨hown,hg⟩)
    case g11=>
     intro v w1 hx (q0:v 0=_) (q1:v 1=_) (q2:v 2=_) (q3:v 3=_) (q4:v 4=_) (q5:v 5=_) (q6:v 6=_) (q7:v 7=_) (q8:v 8=_) _;intro wl hT;replace hT:(fun v w1 w'=>Q0q w' W.heap.size 4 .bool (v 10) (xs ++ [q]) /\ w1.grownBy w' (Value.slice Ao xs.length co).ownBlock) v w1 wl:=hT;intro bb hbb;subst hbb;intro K hK;go_simp;exact hK _ _ ⟨rfl,hT⟩
    case post =>
     intro v w1 hx;(iterate 9 intro (zq:v _=_));intro (q9:(fun v w'=>Q6p w' (v 9) (.bool q)) v w1);intro w2 hE;replace hE:(fun v w1 w'=>v 11=v 10 /\ Q0q w' W.heap.size 4 .bool (v 10) (xs ++ [q]) /\ w1.grownBy w' (Value.slice Ao xs.length co).ownBlock) v w1 w2:=hE;simp only [Flow.acts,Act.put];go_simp;obtain ⟨_,hown',hgrow⟩:=hE;have hxx:=HXR.out.trans (hdr.trans hx);have hx9:Ext W w2:=Below.grown hxx hgrow hxx.size (fun b hb=>by
      have h1:=HOW.out;obtain ⟨_,h2⟩:=h1
      rcases h2 with ⟨h2,_⟩ | ⟨g,c,cur,h2,hbg,_⟩
      . rw [h2] at hb; cases hb
      . rw [h2] at hb; cases hb; exact hbg)
     have HX9:=hid hx9;have HO9:=hid hown';clear hx hdr hx9 hown' hgrow hxx q9;(repeat clear zq);go_wp2;go_roundw
     case rel=>exact ⟨k + 1,by omega,by go_num,by rw [HSUC.out]; exact HO9.out,HX9.out⟩
     case measure=>simp [intOf]; omega
  . have hke:k=lc.length:=by omega
    subst hke;have HOW:=hid hown;have HXR:=hid hxr;clear hown hxr;go_wp2;go_ret;exact ⟨_,rfl,HOW.out.weaken (by omega),HXW.out.trans HXR.out⟩
def Q2t (s:Q0b) (p:List Rul):List (List Bool):=s.members.map fun m=>Q0m p m.classes
theorem Q5r {s:Q0b} (p:List Rul) {k:Nat} (hk:k < s.members.length):(Q2t s p).getD k []=Q0m p (Q0c s.members k):=by
 unfold Q2t Q0c;simp [hk]
theorem Q2r (s:Q0b) (p:List Rul):(Q2t s p).length=s.members.length:=by simp [Q2t]
theorem Y3j {s:Q0b} (p:List Rul) {k:Nat} (hk:k < s.members.length):(Q2t s p).take (k + 1)=(Q2t s p).take k ++ [Q0m p (Q0c s.members k)]:=by
 rw [List.take_succ_eq_append_getElem (by rw [Q2r]; exact hk)]
 unfold Q2t Q0c;simp [hk]
theorem Tryz.Z3h:(Tryz.prog.info? 82).map (fun i=>(i.zero,i.size,i.bytes))=some (some (.slice none 0 0),1,24):=by kernel_rfl
theorem X7l (w:World) (v:Value) (s:Q0b) (p:List Rul) (B b:Nat) (hv:Q8h w v s.members) (hS:Q1b s) (hn:(p.map Rul.classes).Nodup) (hd:∀ k,k < p.length -> Digits (Q0n p k))
    (hB:w.cell? ⟨B,0,none⟩=some (.map (some b))) (hM:Q5e w b (Q6g p p.length)) :
    Calls Tryz.prog 167 #[v,.func (.func 168) #[] #[.pointer (some ⟨B,0,none⟩)]] w fun e w'=>∃ x vs,e=.returned x /\ Q0q w' w.heap.size 82 idV x vs /\ Q9f w' 4 .bool vs (Q2t s p) /\ Ext w w':=by
 obtain ⟨i0,hi,hz0,hz1,hz2⟩:=info_parts Tryz.Z3h;have h8:=hS.some;have h6:=hS.tides;have HS:=hid hS;have HV:=hid hv;obtain ⟨V,capv,rfl,-,-,-⟩:=hv.opened;have HCL:Hid (∀ (W:World) (u:Value) (k:Nat),Ext w W -> k < s.members.length -> X0q W u (Q2e s k) -> Calls Tryz.prog 168 #[u,.pointer (some ⟨B,0,none⟩)] W fun e w'=>∃ x,e=.returned x /\ Q0q w' W.heap.size 4 .bool x (Q0m p (Q0c s.members k)) /\ Ext W w') :=
  hid (fun W u k hW hk hu=>X7e W u (Q2e s k) p B b hu hn hd (hS.digits k hk) (by have:=(hS.shaped k hk).1; show (Q0c s.members k).length <= 8; omega) (hW.cell hB) (hM.ext hW))
 clear hv hn hd hB hM hS;go_enter Tryz.func167,Tryz.ntmps167;go_wp2
 go_loopw [5,10] (fun o i wr=>∃ (k:Nat) (vs:List Value),k <= s.members.length /\ i=.int .i64 k /\ Q0q wr w.heap.size 82 idV o vs /\ Q9f wr 4 .bool vs ((Q2t s p).take k) /\ Ext w wr) (fun _ i _=>s.members.length - (intOf i).toNat)
 case atStart=>exact ⟨0,[],Nat.zero_le _,rfl,Q0q.nil _ _ _ _,Q9f.nil _ _ _,Ext.refl _⟩
 case round =>
  obtain ⟨k,vs,hk,rfl,hown,hrows,hxr⟩:=hrel;have hvl:vs.length=k:=by have:=hrows.1; rw [List.length_take,Q2r] at this; omega
  have HXR:=hid hxr
  by_cases hlt:k < s.members.length
  . have H3:=HV.out.ext hxr
    obtain ⟨_,_,hVe,_,_,hc⟩:=H3.opened;cases hVe;obtain ⟨bm,off,x,y,z,rfl,hbm,e0,e1,e2,e3,e4,hx,hy,hz,hsh⟩:=hc k hlt;have HX1:=hid hx;have HX2:=hid hy;have HX3:=hid hz;obtain ⟨X,capx,rfl,-,-,-⟩:=hx.opened;obtain ⟨Y,capy,rfl,-,-,-⟩:=hy.opened;obtain ⟨Z,capz,rfl,-,-,-⟩:=hz.opened;have HSUC:=hid (Y3j p hlt);have HCK:=hid (fun W u hW hu=>HCL.out W u k hW hlt hu);have HME:Hid (∀ W,Ext wr W -> X0q W (.agg #[.string (Q1h s.members k),.int .i64 (Q0i s.members k),.slice X (Q0c s.members k).length capx,.slice Y (Q0t s.members k).length capy,.slice Z (Q0y s.members k).length capz]) (Q2e s k)) :=
     hid (fun W hW=>⟨_,_,_,rfl,HX1.out.ext hW,HX2.out.ext hW,HX3.out.ext hW⟩)
    have HLE:Hid ((Q0m p (Q0c s.members k)).length <= 4096):=hid (by rw [Q2n,(HS.out.shaped k hlt).1]; omega)
    obtain ⟨nm,hnm⟩:∃ x,Q1h s.members k=x:=⟨_,rfl⟩;obtain ⟨wt,hwt⟩:∃ x,Q0i s.members k=x:=⟨_,rfl⟩;obtain ⟨lc,hlc⟩:∃ x,Q0c s.members k=x:=⟨_,rfl⟩;obtain ⟨lo,hlo⟩:∃ x,Q0t s.members k=x:=⟨_,rfl⟩;obtain ⟨li,hli⟩:∃ x,Q0y s.members k=x:=⟨_,rfl⟩;rw [hnm] at e0 HME;rw [hwt] at e1 HME;rw [hlc] at e2 HME HSUC HCK HLE;rw [hlo] at e3 HME;rw [hli] at e4 HME;obtain ⟨cl,hcl⟩:∃ x,Q0m p lc=x:=⟨_,rfl⟩;rw [hcl] at HSUC HCK HLE;have hkI:(k:Int) < s.members.length:=by omega
    have hbox:=Ext.box wr (.cells #[.string nm,.int .i64 wt,.slice X lc.length capx,.slice Y lo.length capy,.slice Z li.length capz] 69);have K3:=Blk.made wr 69 #[.string nm,.int .i64 wt,.slice X lc.length capx,.slice Y lo.length capy,.slice Z li.length capz];have d0:=(K3).cell 0;have d1:=(K3).cell 1;have d2:=(K3).cell 2;have d3:=(K3).cell 3;have d4:=(K3).cell 4;simp only [Go.Tw.gA,Go.Tw.gB,Go.Tw.gC] at d0 d1 d2 d3 d4;have HXB:=hid hbox;have HO:=hid hown;have HRO:=hid hrows;have hll:vs.length <= 4096:=by omega
    clear hc H3 hx hy hz hsh hnm hwt hlc hlo hli hcl hbm hbox K3 hown hrows hxr
    go_light
    go_wp2_with (first | (refine (HCK.out _ _ (HXR.out.trans HXB.out) (HME.out _ HXB.out)).mono ?_; rintro e w5 ⟨u,rfl,hu,hx5⟩; obtain ⟨bu,cu,rfl,-⟩:=hu.shape; have HU:=hid hu; have HX5:=hid (HXB.out.trans hx5); have hown:=HO.out.below HX5.out; have hx6:=HXR.out.trans HX5.out; clear hu hx5) | (at_builtin; refine wpList_append_own _ rfl _ _ 179 rfl (w.heap.size) 82 i0 (.slice none 0 0) 1 24 Tryz.underlying179 hi hz0 hz1 hz2 rfl (by decide) _ _ _ rfl (World.ownsRow.alloc hown _) ⟨w5.heap.size,0,none⟩ 1 1 [.slice bu cl.length cu] rfl rfl ?_ ?_ ?_ ?_ ?_ ?_; exact Q4p _ _ _; (focus (simp [Value.oneCell'])); (focus (unfold maxLen; omega)); (focus omega); (focus (have:=hx6.size; simp at this ⊢; omega)); intro v' w1 hown' hgrow _))
    have hx':=Q2w hx6 hown (Nat.le_refl _) hgrow;have hbx:=Ext.box w5 (.cells #[.slice bu cl.length cu] 82);have hs5:=((((HRO.out.ext HX5.out).snoc HU.out).ext hbx)).grown (hown.below hbx) (by decide) hgrow
    have HS5:=hid hs5;clear hs5;go_wp2;go_roundw
    case rel=>exact ⟨k + 1,vs ++ [.slice bu cl.length cu],by omega,by go_num,Q0q.snoc (x:=Value.slice bu cl.length cu) hown',by rw [HSUC.out]; exact HS5.out,hx'⟩
    case measure=>simp [intOf]; omega
  . have hke:k=s.members.length:=by omega
    have HF:Hid ((Q2t s p).take k=Q2t s p):=hid (List.take_of_length_le (by rw [Q2r]; omega))
    have HO:=hid hown;have HRO:=hid hrows;clear hown hrows hxr;go_wp2;go_ret;exact ⟨_,vs,rfl,HO.out,by rw [<- HF.out]; exact HRO.out,HXR.out⟩
end Go.Proofs
namespace Go.Proofs
open Go.RowKit Go.Tw Go.Flow
attribute [local go_sem] Oper.semAt_some
theorem Z1h {P:Program} {K:Value -> World -> Prop} {o:Oper} {a:Act} {w w':World} {t:TypeId} (m k x:Operand) (ho:o.op=.mapUpdate t m k x) {mv kv xv:Value} (hm:a.eval m=mv) (hk:a.eval k=kv) (hx:a.eval x=xv)
    (hr:(Instr.mapUpdate t mv kv xv).run P w=.ok () w') (h:∀ v,K v w'):gives P K ((execOp a.eval o).run P w):=by
 unfold execOp;simp only [ho,hm,hk,hx,Sem.run_bind,Sem.run_pure,Result.andThen_ok,hr];exact h _
theorem X4g {s:Q0b} (hS:Q1b s):∀ h ∈ s.hist,Digits h:=fun h hh=>by
 obtain ⟨t,ht,k,hk,rfl⟩:=(Q0b.Q4n _ _).1 hh;exact Q4k (hS.digits k hk) _
theorem Y4z {s:Q0b} (hS:Q1b s) {p:List Rul} (hp:Q2d s.hist p=0):(p.map Rul.classes).Nodup:=by
 rw [Q4h.1 hp]; exact Z1a (Q0b.Y7u hS.shaped)
theorem Y2o {s:Q0b} (hS:Q1b s) {p:List Rul} (hp:Q2d s.hist p=0):∀ k,k < p.length -> Digits (Q0n p k):=fun k hk=>by
 rw [Q7f hk];exact X4g hS _ (by rw [<- Q4h.1 hp]; exact List.mem_map_of_mem (List.getElem_mem hk))
theorem Z2v {s:Q0b} (hS:Q1b s):∀ h ∈ s.hist,h.length <= 6:=fun h hh=>by
 obtain ⟨t,ht,k,hk,rfl⟩:=(Q0b.Q4n _ _).1 hh;have:=hS.tides.2;rw [List.length_take]; omega
theorem Y9n {s:Q0b} (hS:Q1b s) {p:List Rul} (hp:Q2d s.hist p=0):∀ k,k < p.length -> (Q0n p k).length <= 6:=fun k hk=>by
 rw [Q7f hk];exact Z2v hS _ (by rw [<- Q4h.1 hp]; exact List.mem_map_of_mem (List.getElem_mem hk))
theorem Q6a (w:World) (v u:Value) (s:Q0b) (p:List Rul) (hv:Q0h w v s) (hu:Q0w w u p) (hS:Q1b s) (hp:Q2d s.hist p=0) :
    Calls Tryz.prog 109 #[v,u] w fun e w'=>∃ x,e=.returned x /\ Q3g w' x (Q2t s p) /\ Ext w w':=by
 have h8:=hS.some;have HCLB:=hid (fun i (hi:i < (Q2t s p).length)=>(show ((Q2t s p).getD i []).length <= 17592186043904 by
  rw [Q2r] at hi;rw [Q5r p hi,Q2n,(hS.shaped i hi).1];have:=hS.tides.2; omega))
 have HND:=hid (Y4z hS hp);have HDI:=hid (Y2o hS hp);have HL8:=hid (Y9n hS hp);have HS:=hid hS;obtain ⟨a,b,rfl,h2⟩:=hv;obtain ⟨rv,rfl,hr⟩:=hu;obtain ⟨A,capa,rfl,-,-,-⟩:=h2.ships.opened;obtain ⟨M,capb,rfl,-,-,-⟩:=h2.members.opened;have HRU:=hid hr;obtain ⟨R,capr,rfl,-,-,-⟩:=hr.opened;have H2:=hid h2;clear h2 hr hS hp;go_enter Tryz.func109,Tryz.ntmps109;go_upto_region 1 with fail;change Code.wp _ _ _ _ ((w.alloc (.cells #[.int .i64 s.limit,.slice A s.ships.length capa,.slice M s.members.length capb] 34)).alloc (.cells #[.slice R p.length capr] 38));obtain ⟨W,hWW,k0,k1,HXW,eW⟩:=Q4e w 34 #[.int .i64 s.limit,.slice A s.ships.length capa,.slice M s.members.length capb] 38 #[.slice R p.length capr];rw [hWW];clear hWW;have hmm:=@run_makeMap Tryz.prog;have hb0:=Ext.box W (.map #[] 0);have hb1:=Ext.box (W.alloc (.map #[] 0)) (.cells #[.map (some (w.heap.size + 1 + 1))] 245);have m0:=(Q5e.made W).ext hb1;rw [eW] at m0;have kb:=Blk.made (W.alloc (.map #[] 0)) 245 #[.map (some (w.heap.size + 1 + 1))];have es:(W.alloc (.map #[] 0)).heap.size=W.heap.size + 1:=by simp
 have es2:((W.alloc (.map #[] 0)).alloc (.cells #[.map (some (w.heap.size + 1 + 1))] 245)).heap.size=W.heap.size + 1 + 1:=by simp
 rw [es,eW] at kb;rw [eW] at es2;have KS:=k0.ext (hb0.trans hb1);have KP:=k1.ext (hb0.trans hb1);have n1:=KP.cell 0;simp only [Go.Tw.gA,Go.Tw.gB] at n1;go_wp2;obtain ⟨V,hV⟩:∃ V,(W.alloc (.map #[] 0)).alloc (.cells #[.map (some (w.heap.size + 1 + 1))] 245)=V:=⟨_,rfl⟩;have hxV:Ext w V:=HXW.out.trans (by rw [<- hV]; exact hb0.trans hb1)
 rw [hV] at m0 kb KS KP es2 ⊢;obtain ⟨b,hb⟩:∃ b,w.heap.size + 1 + 1=b:=⟨_,rfl⟩;rw [hb] at m0 kb es2 ⊢;have hwb:w.heap.size < b:=by omega
 have hwb1:w.heap.size + 1 < b:=by omega
 obtain ⟨gs,hgs⟩:∃ x,w.heap.size=x:=⟨_,rfl⟩;have HGS:=hid hgs;rw [hgs] at KS KP hwb hwb1 ⊢;have HKS:=hid KS;have HXV:=hid hxV;have HM0:=hid m0;have HKB:=hid kb;have HVS:=hid es2;clear hb0 hb1 m0 kb es es2 KS KP n1 hV hxV hb eW HXW k0 k1 hgs hmm
 go_loopw [12] (fun i wr=>∃ k:Nat,k <= p.length /\ i=.int .i64 k /\ Q5e wr b (Q6g p k) /\ Blk wr (b + 1) 245 #[.map (some b)] /\ Below b V wr) (fun i _=>p.length - (intOf i).toNat)
 case atStart=>exact ⟨0,Nat.zero_le _,rfl,HM0.out,HKB.out,Below.refl _ _⟩
 case round =>
  obtain ⟨k,hk,rfl,hmap,hblk,hbel⟩:=hrel;have HMP:=hid hmap;have HBL:=hid hblk;have HBE:=hid hbel
  by_cases hlt:k < p.length
  . obtain ⟨_,_,hRe,_,_,hc⟩:=HRU.out.opened
    cases hRe;obtain ⟨br,orr,xr,rfl,hbr,hx0,hx1,hxi⟩:=hc k hlt;have hbr':br < b:=by have:=HGS.out; omega
    have hy0:=(hbel.cell (p:=⟨br,orr + k * 2,none⟩) hbr').trans (HXV.out.cell hx0);have hy1:=(hbel.cell (p:=⟨br,orr + k * 2 + 1,none⟩) hbr').trans (HXV.out.cell hx1);obtain ⟨Xr,cxr,rfl,-,-,-⟩:=hxi.opened;have hwr:Below w.heap.size w wr:=Below.trans HXV.out (hbel.mono (by have:=HGS.out; omega))
    have HIW:=hid (hxi.ext hwr);have HDK:=hid (HDI.out k hlt);have HLK:Hid ((Q0n p k).length <= 4096):=hid (by have:=HL8.out k hlt; omega)
    have HSUC:Hid (Q6g p (k + 1)=Y8c (Q5x (Q0n p k)) (.bool (Q3p p k)) (Q6g p k)):=hid rfl;obtain ⟨lc,hlc⟩:∃ x,Q0n p k=x:=⟨_,rfl⟩;obtain ⟨cb,hcb⟩:∃ x,Q3p p k=x:=⟨_,rfl⟩;obtain ⟨L,hL⟩:∃ x,Q6g p k=x:=⟨_,rfl⟩;rw [hlc] at hy0 HIW HDK HLK HSUC;rw [hcb] at hy1 HSUC;rw [hL] at HMP HSUC;have hkI:(k:Int) < p.length:=by omega
    have hxb:=Ext.box wr (.cells #[.slice Xr lc.length cxr,.bool cb] 167);have kr:=Blk.made wr 167 #[.slice Xr lc.length cxr,.bool cb];have HXB:=hid hxb;have hwlt:b + 1 < wr.heap.size:=hblk.lt;clear hc hx0 hx1 hxi hwr hlc hcb hL hmap hblk hbel hbr hbr' hxb
    go_light
    go_wp2;obtain ⟨W5,hW5⟩:∃ X,wr.alloc (.cells #[.slice Xr lc.length cxr,.bool cb] 167)=X:=⟨_,rfl⟩;obtain ⟨g,hg⟩:∃ x,wr.heap.size=x:=⟨_,rfl⟩;rw [hW5] at HXB kr ⊢;rw [hg] at kr hwlt ⊢;have KR:=hid kr;have hdr:=(Ext.refl W5).drew;clear hW5 kr hy0 hy1 hg;refine Flow.Q4m [.w,.p,.w,.w,.p,.w,.last] [0,1,2,3,4,5,6] [[],[],[1],[1,2],[],[4],[0,1,2,3,4,5]] [6]
     [.c 0 (.map (some b)),.c 1 (.pointer (some ⟨g,0,none⟩)),.c 2 (.slice Xr lc.length cxr),.c 3 (.string (Q5x lc)),.c 4 (.pointer (some ⟨g,1,none⟩)),.c 5 (.bool cb),.none]
     [fun v w1 w'=>Q5e w' b (Y8c (Q5x lc) (.bool cb) L) /\ (∀ n,n <= b -> Below n w1 w') /\ w1.grownBy w' (some b)] (by kernel_rfl) rfl (by kernel_rfl) ⟨?g0,?g1,?g2,?g3,?g4,?g5,?g6,trivial⟩ ?post
    case g0=>
     intro v w1 hx;intro bb hbb;subst hbb;have n0:w1.cell? ⟨b + 1,0,none⟩=some (.map (some b)):=(HBL.out.ext (HXB.out.trans (hdr.trans hx))).cell 0;intro K hK;go_simp;exact hK _ _ (Ext.refl _) rfl
    case g1 | g4=>
     intro v w1 hx;intro bb hbb;subst hbb;refine ⟨_,fun w=>?_,rfl⟩;go_simp
    case g2 | g5=>
     intro v w1 hx;(repeat intro (zq:v _=_));intro bb hbb;subst hbb;have n0:w1.cell? ⟨g,0,none⟩=some (.slice Xr lc.length cxr):=(KR.out.ext (hdr.trans hx)).cell 0;have n1:w1.cell? ⟨g,1,none⟩=some (.bool cb):=(KR.out.ext (hdr.trans hx)).cell 1;intro K hK;go_simp;exact hK _ _ (Ext.refl _) rfl
    case g3=>
     intro v w1 hx;(repeat intro (zq:v _=_));intro bb hbb;subst hbb;intro K hK;go_simp;refine Q0e (Y0f w1 _ lc (HIW.out.ext (HXB.out.trans (hdr.trans hx))) HLK.out HDK.out) ?_;rintro e w2 ⟨rfl,hx2⟩;exact ⟨_,rfl,hK _ _ hx2 rfl⟩
    case g6=>
     intro v w1 hx;(repeat intro (zq:v _=_));intro wl hT;obtain rfl:wl=w1:=hT;intro bb hbb;intro K hK;have o1:bb.eval (.tmp 16)=.map (some b):=by rw [hbb]; dsimp only; (try simp (discharger:=decide) only [eval_put_ne]); rw [Q0a (by exact (by decide:16 < 27))]; assumption
     have o2:bb.eval (.tmp 19)=.string (Q5x lc):=by rw [hbb]; dsimp only; (try simp (discharger:=decide) only [eval_put_ne]); rw [Q0a (by simp only [size_put]; exact (by decide:19 < 27))]; assumption
     have o3:bb.eval (.tmp 21)=.bool cb:=by rw [hbb]; dsimp only; (try simp (discharger:=decide) only [eval_put_ne]); rw [Q0a (by simp only [size_put]; exact (by decide:21 < 27))]; assumption
     obtain ⟨w2,hput,hm2,hb2,hg2⟩:=Y5t (P:=Tryz.prog) (HMP.out.ext (HXB.out.trans (hdr.trans hx))) Z6r Z9s (Q5x lc) (.bool cb);exact Z1h (.tmp 16) (.tmp 19) (.tmp 21) rfl o1 o2 o3 hput (fun vv=>hK _ _ ⟨hm2,hb2,hg2⟩)
    case post =>
     intro v w1 hx;(iterate 6 intro (zq:v _=_));intro w2 hE;replace hE:(fun v w1 w'=>Q5e w' b (Y8c (Q5x lc) (.bool cb) L) /\ (∀ n,n <= b -> Below n w1 w') /\ w1.grownBy w' (some b)) v w1 w2:=hE;simp only [Flow.acts,Act.put];go_simp;obtain ⟨hm2,hb2,hg2⟩:=hE;have hxx:=HXB.out.trans (hdr.trans hx);have hbl1:=HBL.out.ext hxx;have hbl2:Blk w2 (b + 1) 245 #[.map (some b)]:=by
      unfold Blk at hbl1 ⊢;rw [hg2.block (b + 1) (Array.getElem?_eq_some_iff.1 hbl1).1 (by intro e; injection e with e; omega)]
      exact hbl1
     have hbe2:Below b V w2:=Below.trans HBE.out (Below.trans (hxx.mono (by have:=HBL.out.lt; omega)) (hb2 b (Nat.le_refl _)))
     have HM2:=hid hm2;have HB2:=hid hbl2;have HE2:=hid hbe2;clear hx hdr hm2 hb2 hg2 hxx hbl1 hbl2 hbe2;(repeat clear zq);go_wp2;go_roundw
     case rel=>exact ⟨k + 1,by omega,by go_num,by rw [HSUC.out]; exact HM2.out,HB2.out,HE2.out⟩
     case measure=>simp [intOf]; omega
  . have hke:k=p.length:=by omega
    subst hke;have ks:=HKS.out.below hbel hwb;have c2:=ks.cell 2;simp only [Go.Tw.gA,Go.Tw.gB,Go.Tw.gC] at c2;have hwr:Ext w wr:=Below.trans HXV.out (hbel.mono (by have:=HGS.out; omega))
    have HMC:=hid (X7l wr _ s p (b + 1) b (H2.out.members.ext hwr) HS.out HND.out HDI.out (hblk.cell 0) hmap);have HWR:=hid hwr;clear ks hmap hblk hbel hwr;go_wp2_with (go_at_call 167; refine HMC.out.mono ?_; rintro e w5 ⟨x,vs,rfl,hx1,hx2,hx5⟩; have HXX:=hid hx1; have HRR:=hid hx2; have HX5:=hid hx5; clear hx1 hx2 hx5);go_ret;exact ⟨x,rfl,Q0q.J0l HXX.out (HRR.out.J0f HCLB.out) (by rw [Q2r]; omega),HWR.out.trans HX5.out⟩
end Go.Proofs
namespace Go.Proofs
open Go.RowKit Go.Tw Go.Flow
attribute [local go_sem] Oper.semAt_some
theorem Tryz.Y8q (w:World):(isAgg 69).run Tryz.prog w=.ok true w:=by kernel_rfl
theorem Tryz.X8y (w:World):(sizeOf 69).run Tryz.prog w=.ok 5 w:=by kernel_rfl
theorem X2q {s:Q0b} (hS:Q1b s) {k n:Nat} (hk:k < s.members.length) (hn:n <= s.ships.length):OkM (Q2e s k) n:=by
 obtain ⟨_,h2,h3⟩:=hS.shaped k hk;refine ⟨?_,?_,fun j hj=>?_⟩
 . show n <= (Q0t s.members k).length; omega
 . show n <= (Q0y s.members k).length; omega
 . have hj':j < (Q0y s.members k).length:=hj
   have:=hS.inflow k hk (ix (Q0y s.members k) j) (by rw [Q4s hj']; exact List.getElem_mem hj')
   exact this
structure Z4k (w:World) (M:Option Addr) (s:Q0b) (k:Nat) (b off capx capy capz:Nat) (X Y Z:Option Addr):Prop where
 addr:M=some ⟨b,off,none⟩
 lt:b < w.heap.size
 e0:w.cell? ⟨b,off + k * 5,none⟩=some (.string (Q1h s.members k))
 e1:w.cell? ⟨b,off + k * 5 + 1,none⟩=some (.int .i64 (Q0i s.members k))
 e2:w.cell? ⟨b,off + k * 5 + 2,none⟩=some (.slice X (Q0c s.members k).length capx)
 e3:w.cell? ⟨b,off + k * 5 + 3,none⟩=some (.slice Y (Q0t s.members k).length capy)
 e4:w.cell? ⟨b,off + k * 5 + 4,none⟩=some (.slice Z (Q0y s.members k).length capz)
 x:Q0d w (.slice X (Q0c s.members k).length capx) (Q0c s.members k)
 y:Q0d w (.slice Y (Q0t s.members k).length capy) (Q0t s.members k)
 z:Q0d w (.slice Z (Q0y s.members k).length capz) (Q0y s.members k)
theorem Q2l {w:World} {M:Option Addr} {cap:Nat} {s:Q0b} (h:Q8h w (.slice M s.members.length cap) s.members) {k:Nat} (hk:k < s.members.length) :
    ∃ b off capx capy capz X Y Z,Z4k w M s k b off capx capy capz X Y Z:=by
 obtain ⟨_,_,he,_,_,hc⟩:=h.opened;cases he;obtain ⟨b,off,x,y,z,hA,hb,e0,e1,e2,e3,e4,hx,hy,hz,_⟩:=hc k hk;obtain ⟨X,capx,rfl,-,-,-⟩:=hx.opened;obtain ⟨Y,capy,rfl,-,-,-⟩:=hy.opened;obtain ⟨Z,capz,rfl,-,-,-⟩:=hz.opened;exact ⟨b,off,capx,capy,capz,X,Y,Z,hA,hb,e0,e1,e2,e3,e4,hx,hy,hz⟩
theorem Z4k.mem {w W:World} {M:Option Addr} {s:Q0b} {k b off capx capy capz:Nat} {X Y Z:Option Addr} (h:Z4k w M s k b off capx capy capz X Y Z) (hx:Ext w W) :
    X0q W (.agg #[.string (Q1h s.members k),.int .i64 (Q0i s.members k),.slice X (Q0c s.members k).length capx,.slice Y (Q0t s.members k).length capy,.slice Z (Q0y s.members k).length capz]) (Q2e s k) :=
 ⟨_,_,_,rfl,h.x.ext hx,h.y.ext hx,h.z.ext hx⟩
theorem Z5i (w:World) (v u:Value) (s:Q0b) (p:List Rul) (hv:Q0h w v s) (hu:Q3g w u (Q2t s p)) (hS:Q1b s) :
    Calls Tryz.prog 108 #[v,u] w fun e w'=>∃ x,e=.returned x /\ Q0d w' x (Q3r s p) /\ Ext w w':=by
 obtain ⟨i0,hi,hz0,hz1,hz2⟩:=info_parts Tryz.info3;have h8:=hS.some;have h6:=hS.tides;have HS:=hid hS;obtain ⟨a,b,rfl,h2⟩:=hv;obtain ⟨A,capa,rfl,-,-,-⟩:=h2.ships.opened;obtain ⟨M,capb,rfl,-,-,-⟩:=h2.members.opened;have H2:=hid h2;obtain ⟨U,capu,rfl,-,-,hcu⟩:=hu.opened;rw [Q2r] at hcu ⊢;have HCU:=hid hcu;clear h2 hu hcu hS;go_enter Tryz.func108,Tryz.ntmps108;go_wp2_with fail;change Code.wp _ _ _ _ (w.alloc (.cells #[.int .i64 s.limit,.slice A s.ships.length capa,.slice M s.members.length capb] 34));obtain ⟨W,hWW,k0,HXW,eW⟩:=Q1t w 34 #[.int .i64 s.limit,.slice A s.ships.length capa,.slice M s.members.length capb];rw [hWW];clear hWW;have K0:=hid k0;have c0_2:=k0.cell 2;simp only [Go.Tw.gA,Go.Tw.gB,Go.Tw.gC] at c0_2;obtain ⟨gs,hgs⟩:∃ x,w.heap.size=x:=⟨_,rfl⟩;rw [hgs] at K0 eW c0_2 ⊢;clear k0;go_wp2;clear c0_2
 go_loopw [5,11] (fun o i wr=>∃ (k:Nat),k <= s.members.length /\ i=.int .i64 k /\ Q0q wr W.heap.size 3 (.int .i64) o (Q6n s p k) /\ Ext W wr) (fun _ i _=>s.members.length - (intOf i).toNat)
 case atStart=>exact ⟨0,Nat.zero_le _,rfl,Q0q.nil _ _ _ _,Ext.refl _⟩
 case round =>
  obtain ⟨k,hk,rfl,hown,hxr⟩:=hrel;have HXR:=hid hxr;have HOW:=hid hown
  by_cases hlt:k < s.members.length
  . obtain ⟨bm,off,capx,capy,capz,X,Y,Z,hme⟩:=Q2l (H2.out.members.ext (HXW.out.trans hxr)) hlt
    have HMEM:=hid hme;have hA:=hme.addr;subst hA;have e0:=hme.e0;have e1:=hme.e1;have e2:=hme.e2;have e3:=hme.e3;have e4:=hme.e4;have HM2:=hid (fun W' hW=>hme.mem (W:=W') hW);obtain ⟨bu,ou,xk,hU,-,hxk,hbk⟩:=HCU.out k hlt;subst hU;rw [Q5r p hlt] at hbk;have hlen:(Q0m p (Q0c s.members k)).length=s.ships.length:=by rw [Q2n,(HS.out.shaped k hlt).1]
    have HLN:Hid ((Q0m p (Q0c s.members k)).length <= 9):=hid (by omega)
    have HOK:=hid (X2q HS.out hlt (n:=(Q0m p (Q0c s.members k)).length) (by omega))
    have hsuc:=Y4m s p k;have hkd:Z5p s p k=(Q2e s k).keeps s.limit (Q0m p (Q0c s.members k)):=rfl;obtain ⟨cl,hcl⟩:∃ x,Q0m p (Q0c s.members k)=x:=⟨_,rfl⟩;rw [hcl] at hbk HLN HOK hkd;obtain ⟨q,hq⟩:∃ x,(Q2e s k).keeps s.limit cl=x:=⟨_,rfl⟩;rw [hkd,hq] at hsuc;have HQ:=hid hq;have HSUC:=hid hsuc;obtain ⟨nm,hnm⟩:∃ x,Q1h s.members k=x:=⟨_,rfl⟩;obtain ⟨wt,hwt⟩:∃ x,Q0i s.members k=x:=⟨_,rfl⟩;obtain ⟨lc,hlc⟩:∃ x,(Q0c s.members k).length=x:=⟨_,rfl⟩;obtain ⟨lo,hlo⟩:∃ x,(Q0t s.members k).length=x:=⟨_,rfl⟩;obtain ⟨li,hli⟩:∃ x,(Q0y s.members k).length=x:=⟨_,rfl⟩;rw [hnm] at e0 HM2;rw [hwt] at e1 HM2;rw [hlc] at e2 HM2;rw [hlo] at e3 HM2;rw [hli] at e4 HM2;obtain ⟨Uk,capk,rfl,-,-,-⟩:=hbk.opened;have HXK:=hid hxk;have HBK:=hid hbk;have hkI:(k:Int) < s.members.length:=by omega
    have hbox:=Ext.box wr (.cells #[.string nm,.int .i64 wt,.slice X lc capx,.slice Y lo capy,.slice Z li capz] 69);have K3:=Blk.made wr 69 #[.string nm,.int .i64 wt,.slice X lc capx,.slice Y lo capy,.slice Z li capz];have HXB:=hid hbox;clear hme hlen hkd hcl hq hsuc hnm hwt hlc hlo hli hbox hown hxr hxk hbk HMEM
    go_light
    go_wp2;obtain ⟨W5,hW5⟩:∃ X',wr.alloc (.cells #[.string nm,.int .i64 wt,.slice X lc capx,.slice Y lo capy,.slice Z li capz] 69)=X':=⟨_,rfl⟩;obtain ⟨g,hg⟩:∃ x,wr.heap.size=x:=⟨_,rfl⟩;rw [hW5] at HXB K3 ⊢;rw [hg] at K3 ⊢;have KR:=hid K3;have hdr:=(Ext.refl W5).drew;clear hW5 K3 e0 e1 e2 e3 e4 hg;refine Flow.Q1o [.w,.p,.w,.p,.p,.p,.w,.w] [0,1,2,3,4,5,6,7] [[],[],[1],[],[],[3,4],[5],[0,2,6]]
     [.c 0 (.agg #[.string nm,.int .i64 wt,.slice X lc capx,.slice Y lo capy,.slice Z li capz]),.c 1 (.pointer (some ⟨gs,0,none⟩)),.c 2 (.int .i64 s.limit),.c 3 (.slice (some ⟨bu,ou,none⟩) s.members.length capu),.c 4 (.int .i64 (k:Int)),.c 5 (.pointer (some ⟨bu,ou + k,none⟩)),.c 6 (.slice Uk cl.length capk),.c 7 (.bool q)]
     (by kernel_rfl) rfl (by kernel_rfl) ⟨?g0,?g1,?g2,?g3,?g4,?g5,?g6,?g7,trivial⟩ ?post
    case g0=>
     intro v w1 hx;intro bb hbb;intro K hK;have o1:bb.eval (.tmp 7)=.pointer (some ⟨g,0,none⟩):=by rw [hbb]; dsimp only; (try simp (discharger:=decide) only [eval_put_ne]); rfl
     exact Q0p (.tmp 7) _ rfl Tryz.Y8q Tryz.X8y o1 (KR.out.ext (hdr.trans hx)) rfl (hK _ _ (Ext.refl _) rfl)
    case g1 | g3 | g4=>
     intro v w1 hx;intro bb hbb;subst hbb;refine ⟨_,fun w=>?_,rfl⟩;go_simp
    case g2 | g6=>
     intro v w1 hx;(repeat intro (zq:v _=_));intro bb hbb;subst hbb;have n0:w1.cell? ⟨gs,0,none⟩=some (.int .i64 s.limit):=(K0.out.ext (HXR.out.trans (HXB.out.trans (hdr.trans hx)))).cell 0;have n1:w1.cell? ⟨bu,ou + k,none⟩=some (.slice Uk cl.length capk):=(HXW.out.trans (HXR.out.trans (HXB.out.trans (hdr.trans hx)))).cell HXK.out;intro K hK;go_simp;exact hK _ _ (Ext.refl _) rfl
    case g5=>
     intro v w1 hx;(repeat intro (zq:v _=_));intro bb hbb;subst hbb;refine ⟨_,fun w=>?_,rfl⟩;go_simp
    case g7=>
     intro v w1 hx;(repeat intro (zq:v _=_));intro bb hbb;subst hbb;intro K hK;go_simp;refine Q0e (Q8y w1 _ _ (Q2e s k) s.limit cl (HM2.out w1 (HXB.out.trans (hdr.trans hx))) (HBK.out.ext (HXW.out.trans (HXR.out.trans (HXB.out.trans (hdr.trans hx))))) HLN.out HOK.out) ?_;rintro e w2 ⟨rfl,hx2⟩;rw [HQ.out];exact ⟨_,rfl,hK _ _ hx2 rfl⟩
    case post =>
     intro v w1 hx;(iterate 8 intro (zq:v _=_));simp only [Flow.All,Flow.acts,Act.put];go_simp;have hxx:=HXR.out.trans (HXB.out.trans (hdr.trans hx));have hown:=HOW.out.below (HXB.out.trans (hdr.trans hx));have HXX:=hid hxx;clear hx hdr;(repeat clear zq);obtain ⟨w3,rfl⟩:∃ X,X=w1:=⟨_,rfl⟩;cases q with
     | true =>
       have HST:Hid (Q6n s p (k + 1)=Q6n s p k ++ [(k:Int)]):=hid (by rw [HSUC.out,if_pos (by trivial)])
       have hll:(Q6n s p k).length <= 4096:=by have:=X8i s p k; omega
       have HOW3:=hid hown;have hx3:=HXX.out;clear hxx;go_wp2_with (at_builtin; refine wpList_append_own _ rfl _ _ 22 rfl (W.heap.size) 3 i0 (.int .i64 0) 1 8 Tryz.underlying22 hi hz0 hz1 hz2 rfl (by decide) _ _ _ rfl (World.ownsRow.alloc hown _) ⟨w3.heap.size,0,none⟩ 1 1 [.int .i64 (k:Int)] rfl rfl ?_ ?_ ?_ ?_ ?_ ?_; exact Q4p _ _ _; (focus (simp [Value.oneCell'])); (focus (unfold maxLen; omega)); (focus omega); (focus (have:=hx3.size; simp at this ⊢; omega)); intro v' w1 hown' hgrow _)
       have hx':=Q2w hx3 HOW3.out (Nat.le_refl _) hgrow;go_roundw
       case rel=>exact ⟨k + 1,by omega,by go_num,by rw [HST.out]; exact Q0q.snoc hown',hx'⟩
       case measure=>simp [intOf]; omega
     | false =>
       have HST:Hid (Q6n s p (k + 1)=Q6n s p k):=hid (by rw [HSUC.out]; simp)
       have HOW3:=hid hown;clear hown hxx;go_wp2;go_roundw
       case rel=>exact ⟨k + 1,by omega,by go_num,by rw [HST.out]; exact HOW3.out,HXX.out⟩
       case measure=>simp [intOf]; omega
  . have hke:k=s.members.length:=by omega
    subst hke;go_wp2;go_ret;exact ⟨_,rfl,by rw [<- Z0b]; exact HOW.out.ints (by have:=X8i s p s.members.length; omega),HXW.out.trans HXR.out⟩
end Go.Proofs
