/- Part of the proof of the law PolicyReads. -/
import Derived.Test.YthnobngcipaljaaGreatDoorPp35
import Derived.Test.YthnobngcipaljaaGreatDoorPw02
import Derived.Test.YthnobngcipaljaaGreatDoorPw01
set_option maxRecDepth 1000000
set_option maxHeartbeats 64000000
set_option linter.unusedVariables false
set_option linter.unusedSimpArgs false
set_option linter.constructorNameAsVariable false
open Go.Lib (hid)
namespace Go.Proofs
open Go.RowKit Go.Tw Go.Flow
attribute [local go_sem] Oper.semAt_some
theorem fzb03 {a b:Nat} (h:a < b:=by rw [hbb]; simp only [Flow.size_put]; show _ < 50; decide):a < b:=h
theorem fzc03 {u:Type} {a b:u} (h:a=b:=by rw [hbb]; dsimp only; (try simp (discharger:=decide) only [Flow.eval_put_ne]); rw [Flow.Q0a (by simp only [Flow.size_put]; show _ < 50; decide)]; assumption):a=b:=h
theorem fze03 {u:Type} {a b:u} (h:a=b:=by rw [hbb]; dsimp only; (try simp (discharger:=decide) only [Flow.eval_put_ne]); rfl):a=b:=h
theorem _root_.Go.Tw.Blk.only {w w':World} {g k0:Nat} {T:TypeId} {cs:Array Value} (h:Blk w g T cs) (hne:g ≠ k0) (ho:∀ k,k ≠ k0 -> w'.heap[k]?=w.heap[k]?):Blk w' g T cs:=by
 unfold Blk at h ⊢;rw [ho _ hne]; exact h
theorem J5v {α:Type} {a b:World} {B g:Nat} {e:TypeId} {enc:α -> Value} {v:Value} {l:List α} (h:Q0q a B e enc v l) (hg:g < B) (ho:∀ k,k < a.heap.size -> k ≠ g -> b.heap[k]?=a.heap[k]?):Q0q b B e enc v l:=by
 obtain ⟨h1,h2⟩:=h;refine ⟨h1,?_⟩
 rcases h2 with h2 | ⟨g',cap,cur,hv,hbg,hgl,r⟩
 . exact .inl h2
 . exact .inr ⟨g',cap,cur,hv,hbg,(ho g' (Array.getElem?_eq_some_iff.1 hgl).1 (by omega)).trans hgl,r⟩
theorem J7d {w:World} {g:Nat} {T:TypeId} {cs:Array Value} (h:Blk w g T cs) {p:Addr} (hne:g ≠ p.block) (u:Value):Blk (w.setCell p u) g T cs:=h.only hne (Q2p _ _ _)
theorem J9v {w w':World} {g:Nat} {p:Addr} (h:p.block ≠ g) (ho:∀ k,k ≠ g -> w'.heap[k]?=w.heap[k]?):w'.cell? p=w.cell? p:=by
 unfold World.cell?;rw [ho _ h]
theorem J7g (w:World) (s:ByteArray) (hs:s.size <= 4096) (hm:K0x w) (hW:Words w) :
    Calls Tryz.prog 152 #[.string s] w fun e w'=>J2w w s e w':=by
 obtain ⟨i0,hi,hz0,hz1,hz2⟩:=info_parts Tryz.info3;obtain ⟨N,hline⟩:=K1y s;have HL:=hid hline;have hN:=hline.small;have hlen:=hline.len;have hsp:wordsOf s=J2x 32 s:=rfl;obtain ⟨ws,hws⟩:∃ x,wordsOf s=x:=⟨_,rfl⟩;rw [hws] at HL hlen;have HWE:Hid (J2x 32 s=ws):=hid (hsp.symm.trans hws);have HWD:=hid hW;have HLEN:=hid hlen;clear hline hsp hws hW;go_enter Tryz.func152,Tryz.ntmps152;go_wp2_with fail;obtain ⟨W,hWW,k0,HXW,eW⟩:=Q1t w 167 #[.slice none 0 0,.bool false];rw [hWW];clear hWW;obtain ⟨gr,hgr⟩:∃ x,w.heap.size=x:=⟨_,rfl⟩;have HGR:=hid hgr;rw [hgr] at k0 eW ⊢;have KR:=hid k0;have hmW:=hm.ext HXW.out;clear k0 hgr;refine (J9u W s 32 (by omega) hmW).mono ?_
 rintro e w1 ⟨rfl,hw1⟩;rw [HWE.out,hlen];rw [HWE.out] at hw1;obtain ⟨gs,hgs⟩:∃ x,W.heap.size=x:=⟨_,rfl⟩;have hx1:Ext W w1:=by rw [hw1]; exact Ext.box _ _
 have hb1:Blk w1 gs 9 (ws.map Value.string).toArray:=by rw [hw1,<- hgs]; exact Blk.made _ _ _
 have hs1:w1.heap.size=gs + 1:=by rw [hw1,<- hgs]; simp
 rw [hgs];have HC1:Hid (∀ j,j < N + 1 -> w1.cell? ⟨gs,j,none⟩=some (.string (wordAt ws j))):=hid (fun j hj=>by
  rw [hb1.cell j,List.getElem?_toArray,List.getElem?_map,List.getElem?_eq_getElem (by omega),J8p (by omega)]; rfl)
 have HX1:=hid (HXW.out.trans hx1);have HR1:=hid (KR.out.ext hx1);have hgg:gr < gs:=by omega
 clear hb1 hx1 hw1 HXW KR eW hgs hmW hm hlen;go_wp2_with fail;obtain ⟨W,hWW,k0,k1,HXW,eW⟩:=Q4e w1 257 #[.slice (some ⟨gs,0,none⟩) (N + 1) (N + 1),.bool false] 167 #[.slice none 0 0,.bool false];rw [hWW];clear hWW;rw [hs1] at k0 k1 eW;obtain ⟨gt,hgt⟩:∃ x,gs + 1=x:=⟨_,rfl⟩;rw [hgt] at k0 k1 eW ⊢;obtain ⟨gp,hgp⟩:∃ x,gt + 1=x:=⟨_,rfl⟩;rw [hgp] at k1 eW ⊢;obtain ⟨B,hB⟩:∃ x,gp + 1=x:=⟨_,rfl⟩;have K0:=hid k0;have K1:=hid k1;have HXA:=hid (HX1.out.trans HXW.out);have HCA:Hid (∀ j,j < N + 1 -> W.cell? ⟨gs,j,none⟩=some (.string (wordAt ws j))):=hid (fun j hj=>HXW.out.cell (HC1.out j hj));have HRA:=hid (HR1.out.ext HXW.out);have hBW:B <= W.heap.size:=by omega
 have htk0:TkR ws 0 [] false:=⟨fun _=>rfl,fun h=>by cases h⟩
 clear k0 k1 HX1 HC1 HR1 HXW
 go_loopw [7] (fun _ wr=>∃ (k:Nat) (vo:Value) (l:List Int) (b:Bool),k <= N /\ Blk wr gt 257 #[.slice (some ⟨gs,k,none⟩) (N + 1 - k) (N + 1 - k),.bool b] /\ Blk wr gp 167 #[vo,.bool false] /\ Q0q wr B 3 (.int .i64) vo l /\ l.length=k /\ (∀ j,j < N + 1 -> wr.cell? ⟨gs,j,none⟩=some (.string (wordAt ws j))) /\ Blk wr gr 167 #[.slice none 0 0,.bool false] /\ Ext w wr /\ B <= wr.heap.size /\ TkR ws k l b) (fun _ wr=>K1r wr gt)
 case atStart=>exact ⟨0,_,[],false,Nat.zero_le _,K0.out,K1.out,Q0q.nil _ _ _ _,rfl,HCA.out,HRA.out,HXA.out,hBW,htk0⟩
 case round =>
  obtain ⟨k,vo,l,b,hk,hbt,hbp,hown,hlk,hcs,hbr,hxr,hsz,htk⟩:=hrel;have HBT:=hid hbt;have HBP:=hid hbp;have HOW:=hid hown;have HCS:=hid hcs;have HBR:=hid hbr;have HXR:=hid hxr;have HTK:=hid htk;have HWR:=hid (HWD.out.ext hxr);obtain ⟨M,hM⟩:∃ x,N + 1 - k=x:=⟨_,rfl⟩;have c0:=hbt.cell 0;simp only [Go.Tw.gA,Go.Tw.gB] at c0;rw [hM] at c0;have d0:=hcs k (by omega)
  clear hbt hbp hown hcs hbr hxr htk
  by_cases hlt:k < N
  . have hMI:(1:Int) < (M:Int):=by omega
    have hdig:=K0v wr gt gs k M M (wordAt ws k) b (by rw [<- hM]; exact HBT.out) (by omega) (Nat.le_refl _) (by omega) d0
    have HDIG:=hid hdig;have HNX:=hid (fun d q=>K1a (d:=d) (q:=q) HTK.out (by rw [HLEN.out]; omega))
    clear hdig d0;go_wp2_with fail;refine HDIG.out.mono ?_;rintro e w3 ⟨d,q,rfl,hb3,ho3,hq⟩;have HT3:=hid (HNX.out d q hq);have HB3:=hid hb3;have HP3:=hid (HBP.out.only (by omega) ho3.2)
    have hown3:=Q0q.only HOW.out (show gt < B by omega) ho3.2
    have HO3:=hid hown3;have HC3:Hid (∀ j,j < N + 1 -> w3.cell? ⟨gs,j,none⟩=some (.string (wordAt ws j))):=hid (fun j hj=>(J9v (by show gs ≠ gt; omega) ho3.2).trans (HCS.out j hj))
    have HR3:=hid (HBR.out.only (by omega) ho3.2)
    have HX3:Hid (Ext w w3):=hid (Below.trans HXR.out (ho3.1 _ (by have:=HGR.out; omega)))
    have hsz3:B <= w3.heap.size:=by have:=(ho3.1 0 (Nat.zero_le _)).size; omega
    have c0:w3.cell? ⟨gp,0,none⟩=some vo:=HP3.out.cell 0;have hrf:=Ext.refl w3;clear hb3 ho3 hq c0;have c0:w3.cell? ⟨gp,0,none⟩=some vo:=HP3.out.cell 0;go_wp2_with (at_builtin; refine halted ?_);unfold Q1i;clear c0
    (at_builtin; refine wpList_append_own _ rfl _ _ 22 rfl (B) 3 i0 (.int .i64 0) 1 8 Tryz.underlying22 hi hz0 hz1 hz2 rfl (by decide) _ _ _ rfl (World.ownsRow.alloc hown3 _) ⟨w3.heap.size,0,none⟩ 1 1 [.int .i64 d] rfl rfl ?_ ?_ ?_ ?_ ?_ ?_; exact Q4p _ _ _; (focus (simp [Value.oneCell'])); (focus (unfold maxLen; omega)); (focus omega); (focus (have:=hrf.size; simp at this ⊢; omega)); intro v' w1 hown' hgrow _)
    refine halted ?_;have hbl:=Y1a hown3 hgrow (Nat.le_refl _) hsz3;have HBL:=hid hbl;have hb1:=HP3.out.below hbl (by omega)
    have c1':w1.cell? ⟨gp,0,none⟩=some vo:=hb1.cell 0;have f1:=hb1.frozen 0;have HB1:=hid hb1;have HB4:=hid (HB3.out.below hbl (by omega))
    have HR4:=hid (HR3.out.below hbl (by omega))
    have HC4:Hid (∀ j,j < N + 1 -> w1.cell? ⟨gs,j,none⟩=some (.string (wordAt ws j))):=hid (fun j hj=>(Below.cell (p:=⟨gs,j,none⟩) hbl (by show gs < B; omega)).trans (HC3.out j hj))
    have HX4:Hid (Ext w w1):=hid (Below.trans HX3.out (hbl.mono (by have:=HGR.out; omega)))
    have HSZ:Hid (B <= w1.heap.size):=hid (by have:=hbl.size; omega)
    have HOO:=hid (show Q0q w1 B 3 (.int .i64) v' (l ++ [d]) from Q0q.snoc hown')
    obtain ⟨Av,cv',rfl,-⟩:=HOO.out.shape;clear hgrow hb1 hbl hown' hown3;unfold Q1i;go_wp2;go_roundw
    case rel=>exact ⟨k + 1,_,l ++ [d],b || q,by omega,by have h:=J7d HB4.out (p:=⟨gp,0,none⟩) (by show gt ≠ gp; omega) (.slice Av (k + 1) cv'); rw [show N + 1 - (k + 1)=M - 1 by omega]; exact h,HB1.out.set 0 _,by have h:=HOO.out.setCell (p:=⟨gp,0,none⟩) (by show gp < B; omega) (.slice Av (k + 1) cv'); rw [List.length_append,hlk] at h; exact h,by simp; omega,
     fun j hj=>(World.cell?_setCell_other _ _ _ _ (by intro h; injection h with h; omega)).trans (HC4.out j hj),J7d HR4.out (p:=⟨gp,0,none⟩) (by show gr ≠ gp; omega) _,Below.setCell (p:=⟨gp,0,none⟩) HX4.out (by show w.heap.size <= gp; have:=HGR.out; omega) _,by have:=HSZ.out; simp; omega,HT3.out⟩
    case measure =>
     rw [J9b HBT.out];have h:=J9b (J7d HB4.out (p:=⟨gp,0,none⟩) (by show gt ≠ gp; omega) (.slice Av (k + 1) cv'))
     rw [h];omega
  . have hMI:¬ (1:Int) < (M:Int):=by omega
    have hkn:k=N:=by omega
    subst hkn;have hM1:M=1:=by omega
    subst hM1;obtain ⟨Av,cv,hsv,-⟩:=HOW.out.shape;subst hsv;obtain ⟨y,hy⟩:∃ x,wordAt ws k=x:=⟨_,rfl⟩;rw [hy] at d0;have HE:=hid hy;have HD0:=hid d0;have hei:=K1o y;obtain ⟨IX,hIX⟩:∃ z,J6k y=z:=⟨_,rfl⟩;rw [hIX] at hei;have HEI:=hid hei;have HCI:Hid (∀ w,Words w -> Calls Tryz.prog 163 #[.slice (some ⟨0,0,none⟩) 2 2,.string y] w fun e w'=>e=.returned (.int .i64 IX) /\ w=w'):=hid (fun w h=>by rw [<- hIX]; exact J9f w y h)
    clear hy hIX hei d0;go_wp2_with fail;clear c0;have hdr:=(Ext.refl wr).drew;refine Flow.Q1o [.p,.p,.p,.p,.w,.p,.w,.w,.p] [0,1,2,3,4,5,6,7,8] [[],[],[1],[2],[3],[4],[5],[0,6],[0,1,2,3,4,5,6,7]]
     [.c 0 (.slice (some ⟨0,0,none⟩) 2 2),.c 1 (.pointer (some ⟨gt,0,none⟩)),.c 2 (.pointer (some ⟨gt,0,none⟩)),.c 3 (.pointer (some ⟨gt,0,none⟩)),.c 4 (.slice (some ⟨gs,k,none⟩) 1 1),.c 5 (.pointer (some ⟨gs,k,none⟩)),.c 6 (.string y),.c 7 (.int .i64 IX),.c 8 (.int .i64 IX)]
     (by kernel_rfl) rfl (by kernel_rfl) ⟨?g0,?g1,?g2,?g3,?g4,?g5,?g6,?g7,?g8,trivial⟩ ?post
    case g0 | g1=>
     intro v w1 hx;intro bb hbb;subst hbb;refine ⟨_,fun w=>?_,rfl⟩;go_simp
    case g2 | g3 | g5 | g8=>
     intro v w1 hx;(repeat intro (zq:v _=_));intro bb hbb;subst hbb;refine ⟨_,fun w=>?_,rfl⟩;go_simp
    case g4=>
     intro v w1 hx;(repeat intro (zq:v _=_));intro bb hbb;subst hbb;have n0:w1.cell? ⟨gt,0,none⟩=some (.slice (some ⟨gs,k,none⟩) 1 1):=by have h:=(HBT.out.ext (hdr.trans hx)).cell 0; rw [hM] at h; exact h
     intro K hK;go_simp;exact hK _ _ (Ext.refl _) rfl
    case g6=>
     intro v w1 hx;(repeat intro (zq:v _=_));intro bb hbb;subst hbb;have n0:=(hdr.trans hx).cell HD0.out;intro K hK;go_simp;exact hK _ _ (Ext.refl _) rfl
    case g7=>
     intro v w1 hx;(repeat intro (zq:v _=_));intro bb hbb;subst hbb;intro K hK;go_simp;refine Q0e (HCI.out w1 (HWR.out.ext (hdr.trans hx))) ?_;rintro e w2 ⟨rfl,rfl⟩;exact ⟨_,rfl,hK _ _ (Ext.refl _) rfl⟩
    case post =>
     intro v w1 hx (q0:v 0=_) (q1:v 1=_) (q2:v 2=_) (q3:v 3=_) (q4:v 4=_) (q5:v 5=_) (q6:v 6=_) (q7:v 7=_) (q8:v 8=_);simp only [Flow.All,Flow.acts,Act.put];go_simp;have hxx:=hdr.trans hx;have HBP8:=hid (HBP.out.ext hxx);have HBT8:=hid (HBT.out.ext hxx);have HBR8:=hid (HBR.out.ext hxx);have HOW8:=hid (HOW.out.below hxx);have HX8:=hid (HXR.out.trans hxx);clear hx hdr hxx q0 q1 q2 q3 q4 q5 q6 q7 q8
     rcases HEI.out with ⟨hend,hix⟩ | ⟨hend,hix⟩ | ⟨hend,hix⟩
     . subst hix
       go_wp2_with (refine X1z rfl _ _ 4 rfl Tryz.J6x (u:=.bool false) (g:=gp) (k:=1) rfl rfl rfl rfl HBP8.out (by show 1 < 2; omega) ?_; intro w9 hb9 hl9 ho9; refine halted ?_)
       have HBP9:Hid (Blk w9 gp 167 #[.slice Av l.length cv,.bool false]):=hid hb9;have HBT9:=hid (HBT8.out.only (by omega) ho9)
       have HBR9:=hid (HBR8.out.only (by omega) ho9)
       have HOW9:=hid (Q0q.only HOW8.out (by omega) ho9)
       have HX9:Hid (Ext w w9):=hid (Below.trans HX8.out (hl9 _ (by have:=HGR.out; omega)))
       have HNP:Hid (gp ≠ gr):=hid (by omega)
       have HNT:Hid (gt ≠ gr):=hid (by omega)
       clear hb9 hl9 ho9;unfold Q1i;go_wp2_with fail;have hdr:X3b gr 167 #[.slice Av l.length cv,.bool false] w9 w9.drew:=X3b.ext (Ext.refl w9).drew;refine Flow.Z3s (X3b gr 167 #[.slice Av l.length cv,.bool false]) 10 Ext Ext.refl (fun _ _ _=>Ext.trans) (fun _ _=>X3b.ext) (X3b.refl _ _ _) (fun _ _ _=>X3b.trans) (fun _ _ h=>h.size) [.w,.p,.p,.p,.p,.p,.p,.w,.p,.p,.w,.last] [0,1,2,3,4,5,6,7,8,9,10,11] [[],[],[1],[1,2],[1,2,3],[1,2,3,4],[1,2,3,4,5],[1,2,3,4,5,6],[1,2,3,4,5,6,7],[1,2,3,4,5,6,7,8],[0,1,2,3],[0,1,2,3,4,5,6,7,8,9,10]] [11]
        [.c 0 (.agg #[.slice Av l.length cv,.bool false]),.c 1 (.int .i64 (-1)),.c 2 (.bool false),.c 3 (.bool false),.c 4 (undef),.c 5 (undef),.c 6 (undef),.c 7 (undef),.c 8 (undef),.c 9 (.bool false),⟨fun v wz=>(fun v w'=>Blk w' gr 167 #[.slice Av l.length cv,.bool false]) v wz,by rintro v a b hx h; exact hx.2.2 h⟩,.none]
        [fun v w1 w'=>v 11=.bool false /\ w1=w'] (by kernel_rfl) rfl (by kernel_rfl) ⟨?g0,?g1,?g2,?g3,?g4,?g5,?g6,?g7,?g8,?g9,?g10,?g11,trivial⟩ ?post
       case g0=>
        intro v w1 hx;replace hx:(X3b gr 167 #[.slice Av l.length cv,.bool false]) _ w1:=hx;intro bb hbb;intro K hK;have o1:bb.eval (.tmp 6)=.pointer (some ⟨gp,0,none⟩):=fze03
        exact Q0p (.tmp 6) _ rfl Tryz.J6u Tryz.J3c o1 ((hdr.trans hx).blk HBP9.out HNP.out) rfl (hK _ _ (Ext.refl w1) rfl)
       case g1=>
        intro v w1 hx;replace hx:(X3b gr 167 #[.slice Av l.length cv,.bool false]) _ w1:=hx;intro bb hbb;subst hbb;refine ⟨_,fun w=>?_,rfl⟩;go_simp
       case g2 | g3 | g9=>
        intro v w1 hx;(repeat intro (zq:v _=_));replace hx:(X3b gr 167 #[.slice Av l.length cv,.bool false]) _ w1:=hx;intro bb hbb;subst hbb;refine ⟨_,fun w=>?_,rfl⟩;go_simp
       case g4 | g5 | g6 | g7 | g8=>
        intro v w1 hx;(repeat intro (zq:v _=_));replace hx:(X3b gr 167 #[.slice Av l.length cv,.bool false]) _ w1:=hx;intro bb hbb;exact Flow.Q1c (d:=43) rfl rfl fzb03 fzc03 rfl
       case g10=>
        intro v w1 hx;(repeat intro (zq:v _=_));replace hx:Ext _ w1:=hx;intro bb hbb;intro K hK;have o1:bb.eval (.tmp 2)=.pointer (some ⟨gr,0,none⟩):=fze03
        have o2:bb.eval (.tmp 40)=.agg #[.slice Av l.length cv,.bool false]:=by rw [hbb]; dsimp only; (try simp (discharger:=decide) only [eval_put_ne]); rw [Q0a (by exact (by decide:40 < 50))]; assumption
        exact Q2b (.tmp 2) (.tmp 40) _ rfl Tryz.J3c o1 o2 (HBR9.out.ext ((Ext.refl w9).drew.trans hx)) rfl rfl J7a (fun vv w' hb hl ho=>hK _ _ (show X3b _ _ _ _ _ from ⟨fun n hn _=>hl n hn,fun k _ hk=>ho k hk,fun _=>hb⟩) hb)
       case g11=>
        intro v w1 hx (q0:v 0=_) (q1:v 1=_) (q2:v 2=_) (q3:v 3=_) (q4:v 4=_) (q5:v 5=_) (q6:v 6=_) (q7:v 7=_) (q8:v 8=_) (q9:v 9=_) _;intro wl hT;obtain rfl:wl=w1:=hT;intro bb hbb;subst hbb;intro K hK;go_simp;exact hK _ _ ⟨rfl,rfl⟩
       case post =>
        intro v w1 hx;(iterate 10 intro (zq:v _=_));intro (q10:(fun v w'=>Blk w' gr 167 #[.slice Av l.length cv,.bool false]) v w1);intro w2 hE;replace hE:(fun v w1 w'=>v 11=.bool false /\ w1=w') v w1 w2:=hE;simp only [Flow.acts,Act.put];go_simp;obtain ⟨h11,hE⟩:=hE;subst hE
        try rw [h11]
        try clear h11
        replace q10:Blk w1 gr 167 #[.slice Av l.length cv,.bool false]:=q10;have hrel:=hdr.trans hx;have HO11:=hid (J5v HOW9.out (by omega:gr < B) hrel.2.1)
        have HX11:Hid (Ext w w1):=hid (Below.trans HX9.out (hrel.1 _ (by have:=HGR.out; omega) HX9.out.size))
        clear hx hdr hrel;(repeat clear zq);go_wp2;refine bodyPost_ret (Q4c Tryz.results152 rfl q10 Tryz.J6u Tryz.J3c rfl) rfl ?_;have ho:=Q0q.weaken (base':=w.heap.size) HO11.out (by have:=HGR.out; omega)
        exact J2w.no (HL.out.K2v (by rw [HE.out]; exact hend)) ho (by omega) HX11.out
     . subst hix
       go_wp2_with (refine X1z rfl _ _ 4 rfl Tryz.J6x (u:=.bool false) (g:=gp) (k:=1) rfl rfl rfl rfl HBP8.out (by show 1 < 2; omega) ?_; intro w9 hb9 hl9 ho9; refine halted ?_)
       have HBP9:Hid (Blk w9 gp 167 #[.slice Av l.length cv,.bool false]):=hid hb9;have HBT9:=hid (HBT8.out.only (by omega) ho9)
       have HBR9:=hid (HBR8.out.only (by omega) ho9)
       have HOW9:=hid (Q0q.only HOW8.out (by omega) ho9)
       have HX9:Hid (Ext w w9):=hid (Below.trans HX8.out (hl9 _ (by have:=HGR.out; omega)))
       have HNP:Hid (gp ≠ gr):=hid (by omega)
       have HNT:Hid (gt ≠ gr):=hid (by omega)
       clear hb9 hl9 ho9;unfold Q1i;go_wp2_with fail;have hdr:X3b gr 167 #[.slice Av l.length cv,.bool false] w9 w9.drew:=X3b.ext (Ext.refl w9).drew;refine Flow.Z3s (X3b gr 167 #[.slice Av l.length cv,.bool false]) 10 Ext Ext.refl (fun _ _ _=>Ext.trans) (fun _ _=>X3b.ext) (X3b.refl _ _ _) (fun _ _ _=>X3b.trans) (fun _ _ h=>h.size) [.w,.p,.p,.p,.p,.p,.p,.w,.p,.p,.w,.last] [0,1,2,3,4,5,6,7,8,9,10,11] [[],[],[1],[1,2],[1,2,3],[1,2,3,4],[1,2,3,4,5],[1,2,3,4,5,6],[1,2,3,4,5,6,7],[1,2,3,4,5,6,7,8],[0,1,2,3],[0,1,2,3,4,5,6,7,8,9,10]] [11]
        [.c 0 (.agg #[.slice Av l.length cv,.bool false]),.c 1 (.int .i64 0),.c 2 (.bool true),.c 3 (.bool true),.c 4 (.pointer (some ⟨gt,0,none⟩)),.c 5 (.pointer (some ⟨gt,0,none⟩)),.c 6 (.pointer (some ⟨gt,1,none⟩)),.c 7 (.bool b),.c 8 (.bool (!b)),.c 9 (.bool (!b)),⟨fun v wz=>(fun v w'=>Blk w' gr 167 #[.slice Av l.length cv,.bool false]) v wz,by rintro v a b hx h; exact hx.2.2 h⟩,.none]
        [fun v w1 w'=>v 11=.bool (!b) /\ w1=w'] (by kernel_rfl) rfl (by kernel_rfl) ⟨?g0,?g1,?g2,?g3,?g4,?g5,?g6,?g7,?g8,?g9,?g10,?g11,trivial⟩ ?post
       case g0=>
        intro v w1 hx;replace hx:(X3b gr 167 #[.slice Av l.length cv,.bool false]) _ w1:=hx;intro bb hbb;intro K hK;have o1:bb.eval (.tmp 6)=.pointer (some ⟨gp,0,none⟩):=fze03
        exact Q0p (.tmp 6) _ rfl Tryz.J6u Tryz.J3c o1 ((hdr.trans hx).blk HBP9.out HNP.out) rfl (hK _ _ (Ext.refl w1) rfl)
       case g1=>
        intro v w1 hx;replace hx:(X3b gr 167 #[.slice Av l.length cv,.bool false]) _ w1:=hx;intro bb hbb;subst hbb;refine ⟨_,fun w=>?_,rfl⟩;go_simp
       case g2 | g3 | g9=>
        intro v w1 hx;(repeat intro (zq:v _=_));replace hx:(X3b gr 167 #[.slice Av l.length cv,.bool false]) _ w1:=hx;intro bb hbb;subst hbb;refine ⟨_,fun w=>?_,rfl⟩;go_simp
       case g4 | g5 | g6 | g8=>
        intro v w1 hx;(repeat intro (zq:v _=_));replace hx:(X3b gr 167 #[.slice Av l.length cv,.bool false]) _ w1:=hx;intro bb hbb;refine Flow.Q0l (d:=43) rfl rfl fzb03 fzc03 ?_
        subst hbb;refine ⟨_,fun w=>?_,rfl⟩;go_simp
       case g7=>
        intro v w1 hx;(repeat intro (zq:v _=_));replace hx:(X3b gr 167 #[.slice Av l.length cv,.bool false]) _ w1:=hx;intro bb hbb;have n0:w1.cell? ⟨gt,1,none⟩=some (.bool b):=((hdr.trans hx).blk HBT9.out HNT.out).cell 1;refine Flow.Q0l (d:=43) rfl rfl fzb03 fzc03 ?_
        subst hbb;intro K hK;go_simp;exact hK _ _ (Ext.refl w1) rfl
       case g10=>
        intro v w1 hx;(repeat intro (zq:v _=_));replace hx:Ext _ w1:=hx;intro bb hbb;intro K hK;have o1:bb.eval (.tmp 2)=.pointer (some ⟨gr,0,none⟩):=fze03
        have o2:bb.eval (.tmp 40)=.agg #[.slice Av l.length cv,.bool false]:=by rw [hbb]; dsimp only; (try simp (discharger:=decide) only [eval_put_ne]); rw [Q0a (by exact (by decide:40 < 50))]; assumption
        exact Q2b (.tmp 2) (.tmp 40) _ rfl Tryz.J3c o1 o2 (HBR9.out.ext ((Ext.refl w9).drew.trans hx)) rfl rfl J7a (fun vv w' hb hl ho=>hK _ _ (show X3b _ _ _ _ _ from ⟨fun n hn _=>hl n hn,fun k _ hk=>ho k hk,fun _=>hb⟩) hb)
       case g11=>
        intro v w1 hx (q0:v 0=_) (q1:v 1=_) (q2:v 2=_) (q3:v 3=_) (q4:v 4=_) (q5:v 5=_) (q6:v 6=_) (q7:v 7=_) (q8:v 8=_) (q9:v 9=_) _;intro wl hT;obtain rfl:wl=w1:=hT;intro bb hbb;subst hbb;intro K hK;go_simp;exact hK _ _ ⟨rfl,rfl⟩
       case post =>
        intro v w1 hx;(iterate 10 intro (zq:v _=_));intro (q10:(fun v w'=>Blk w' gr 167 #[.slice Av l.length cv,.bool false]) v w1);intro w2 hE;replace hE:(fun v w1 w'=>v 11=.bool (!b) /\ w1=w') v w1 w2:=hE;simp only [Flow.acts,Act.put];go_simp;obtain ⟨h11,hE⟩:=hE;subst hE
        try rw [h11]
        try clear h11
        replace q10:Blk w1 gr 167 #[.slice Av l.length cv,.bool false]:=q10;have hrel:=hdr.trans hx;have HO11:=hid (J5v HOW9.out (by omega:gr < B) hrel.2.1)
        have HX11:Hid (Ext w w1):=hid (Below.trans HX9.out (hrel.1 _ (by have:=HGR.out; omega) HX9.out.size))
        clear hx hdr hrel;(repeat clear zq);go_wp2;refine bodyPost_ret (Q4c Tryz.results152 rfl q10 Tryz.J6u Tryz.J3c rfl) rfl ?_;have ho:=Q0q.weaken (base':=w.heap.size) HO11.out (by have:=HGR.out; omega)
        cases b with
        | false =>
          exact J2w.yes (by rw [HL.out.read,HE.out,HTK.out.1 rfl,hend]; rfl) ho (by omega) HX11.out
        | true =>
          exact J2w.no (by rw [HL.out.read,HTK.out.2 rfl]; rfl) ho (by omega) HX11.out
     . subst hix
       go_wp2_with (refine X1z rfl _ _ 4 rfl Tryz.J6x (u:=.bool true) (g:=gp) (k:=1) rfl rfl rfl rfl HBP8.out (by show 1 < 2; omega) ?_; intro w9 hb9 hl9 ho9; refine halted ?_)
       have HBP9:Hid (Blk w9 gp 167 #[.slice Av l.length cv,.bool true]):=hid hb9;have HBT9:=hid (HBT8.out.only (by omega) ho9)
       have HBR9:=hid (HBR8.out.only (by omega) ho9)
       have HOW9:=hid (Q0q.only HOW8.out (by omega) ho9)
       have HX9:Hid (Ext w w9):=hid (Below.trans HX8.out (hl9 _ (by have:=HGR.out; omega)))
       have HNP:Hid (gp ≠ gr):=hid (by omega)
       have HNT:Hid (gt ≠ gr):=hid (by omega)
       clear hb9 hl9 ho9;unfold Q1i;go_wp2_with fail;have hdr:X3b gr 167 #[.slice Av l.length cv,.bool true] w9 w9.drew:=X3b.ext (Ext.refl w9).drew;refine Flow.Z3s (X3b gr 167 #[.slice Av l.length cv,.bool true]) 10 Ext Ext.refl (fun _ _ _=>Ext.trans) (fun _ _=>X3b.ext) (X3b.refl _ _ _) (fun _ _ _=>X3b.trans) (fun _ _ h=>h.size) [.w,.p,.p,.p,.p,.p,.p,.w,.p,.p,.w,.last] [0,1,2,3,4,5,6,7,8,9,10,11] [[],[],[1],[1,2],[1,2,3],[1,2,3,4],[1,2,3,4,5],[1,2,3,4,5,6],[1,2,3,4,5,6,7],[1,2,3,4,5,6,7,8],[0,1,2,3],[0,1,2,3,4,5,6,7,8,9,10]] [11]
        [.c 0 (.agg #[.slice Av l.length cv,.bool true]),.c 1 (.int .i64 1),.c 2 (.bool true),.c 3 (.bool true),.c 4 (.pointer (some ⟨gt,0,none⟩)),.c 5 (.pointer (some ⟨gt,0,none⟩)),.c 6 (.pointer (some ⟨gt,1,none⟩)),.c 7 (.bool b),.c 8 (.bool (!b)),.c 9 (.bool (!b)),⟨fun v wz=>(fun v w'=>Blk w' gr 167 #[.slice Av l.length cv,.bool true]) v wz,by rintro v a b hx h; exact hx.2.2 h⟩,.none]
        [fun v w1 w'=>v 11=.bool (!b) /\ w1=w'] (by kernel_rfl) rfl (by kernel_rfl) ⟨?g0,?g1,?g2,?g3,?g4,?g5,?g6,?g7,?g8,?g9,?g10,?g11,trivial⟩ ?post
       case g0=>
        intro v w1 hx;replace hx:(X3b gr 167 #[.slice Av l.length cv,.bool true]) _ w1:=hx;intro bb hbb;intro K hK;have o1:bb.eval (.tmp 6)=.pointer (some ⟨gp,0,none⟩):=fze03
        exact Q0p (.tmp 6) _ rfl Tryz.J6u Tryz.J3c o1 ((hdr.trans hx).blk HBP9.out HNP.out) rfl (hK _ _ (Ext.refl w1) rfl)
       case g1=>
        intro v w1 hx;replace hx:(X3b gr 167 #[.slice Av l.length cv,.bool true]) _ w1:=hx;intro bb hbb;subst hbb;refine ⟨_,fun w=>?_,rfl⟩;go_simp
       case g2 | g3 | g9=>
        intro v w1 hx;(repeat intro (zq:v _=_));replace hx:(X3b gr 167 #[.slice Av l.length cv,.bool true]) _ w1:=hx;intro bb hbb;subst hbb;refine ⟨_,fun w=>?_,rfl⟩;go_simp
       case g4 | g5 | g6 | g8=>
        intro v w1 hx;(repeat intro (zq:v _=_));replace hx:(X3b gr 167 #[.slice Av l.length cv,.bool true]) _ w1:=hx;intro bb hbb;refine Flow.Q0l (d:=43) rfl rfl fzb03 fzc03 ?_
        subst hbb;refine ⟨_,fun w=>?_,rfl⟩;go_simp
       case g7=>
        intro v w1 hx;(repeat intro (zq:v _=_));replace hx:(X3b gr 167 #[.slice Av l.length cv,.bool true]) _ w1:=hx;intro bb hbb;have n0:w1.cell? ⟨gt,1,none⟩=some (.bool b):=((hdr.trans hx).blk HBT9.out HNT.out).cell 1;refine Flow.Q0l (d:=43) rfl rfl fzb03 fzc03 ?_
        subst hbb;intro K hK;go_simp;exact hK _ _ (Ext.refl w1) rfl
       case g10=>
        intro v w1 hx;(repeat intro (zq:v _=_));replace hx:Ext _ w1:=hx;intro bb hbb;intro K hK;have o1:bb.eval (.tmp 2)=.pointer (some ⟨gr,0,none⟩):=fze03
        have o2:bb.eval (.tmp 40)=.agg #[.slice Av l.length cv,.bool true]:=by rw [hbb]; dsimp only; (try simp (discharger:=decide) only [eval_put_ne]); rw [Q0a (by exact (by decide:40 < 50))]; assumption
        exact Q2b (.tmp 2) (.tmp 40) _ rfl Tryz.J3c o1 o2 (HBR9.out.ext ((Ext.refl w9).drew.trans hx)) rfl rfl J7a (fun vv w' hb hl ho=>hK _ _ (show X3b _ _ _ _ _ from ⟨fun n hn _=>hl n hn,fun k _ hk=>ho k hk,fun _=>hb⟩) hb)
       case g11=>
        intro v w1 hx (q0:v 0=_) (q1:v 1=_) (q2:v 2=_) (q3:v 3=_) (q4:v 4=_) (q5:v 5=_) (q6:v 6=_) (q7:v 7=_) (q8:v 8=_) (q9:v 9=_) _;intro wl hT;obtain rfl:wl=w1:=hT;intro bb hbb;subst hbb;intro K hK;go_simp;exact hK _ _ ⟨rfl,rfl⟩
       case post =>
        intro v w1 hx;(iterate 10 intro (zq:v _=_));intro (q10:(fun v w'=>Blk w' gr 167 #[.slice Av l.length cv,.bool true]) v w1);intro w2 hE;replace hE:(fun v w1 w'=>v 11=.bool (!b) /\ w1=w') v w1 w2:=hE;simp only [Flow.acts,Act.put];go_simp;obtain ⟨h11,hE⟩:=hE;subst hE
        try rw [h11]
        try clear h11
        replace q10:Blk w1 gr 167 #[.slice Av l.length cv,.bool true]:=q10;have hrel:=hdr.trans hx;have HO11:=hid (J5v HOW9.out (by omega:gr < B) hrel.2.1)
        have HX11:Hid (Ext w w1):=hid (Below.trans HX9.out (hrel.1 _ (by have:=HGR.out; omega) HX9.out.size))
        clear hx hdr hrel;(repeat clear zq);go_wp2;refine bodyPost_ret (Q4c Tryz.results152 rfl q10 Tryz.J6u Tryz.J3c rfl) rfl ?_;have ho:=Q0q.weaken (base':=w.heap.size) HO11.out (by have:=HGR.out; omega)
        cases b with
        | false =>
          exact J2w.yes (by rw [HL.out.read,HE.out,HTK.out.1 rfl,hend]; rfl) ho (by omega) HX11.out
        | true =>
          exact J2w.no (by rw [HL.out.read,HTK.out.2 rfl]; rfl) ho (by omega) HX11.out
end Go.Proofs
