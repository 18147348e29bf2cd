/- Contract of the reference's rule. Contract of the reference's Parse. Contract: the taker's digit. -/
import Derived.Test.YthnobngcipaljaaGreatDoorPp35
import Derived.Test.YthnobngcipaljaaGreatDoorPx01
set_option maxRecDepth 1000000
set_option maxHeartbeats 64000000
set_option linter.unusedVariables false
set_option linter.unusedSimpArgs false
set_option linter.constructorNameAsVariable false
open Go.Lib (hid)
namespace Go.Proofs
open Go.RowKit Go.Tw Go.Flow
attribute [local go_sem] Oper.semAt_some
theorem Tryz.J5j (w:World):(isAgg 115).run Tryz.prog w=.ok true w:=by kernel_rfl
theorem Tryz.J2s (w:World):(sizeOf 115).run Tryz.prog w=.ok 2 w:=by kernel_rfl
theorem Tryz.J8w (w:World):(sizeOf 22).run Tryz.prog w=.ok 1 w:=by kernel_rfl
def J2p (w:World) (s:ByteArray) (e:Ending) (w':World):Prop:=∃ X c l,e=.returned (.tuple #[.agg #[X,.bool c],.bool (J2m (parts 32 (dat s))).isSome]) /\ Q0q w' w.heap.size 3 (.int .i64) X l /\ l.length <= 4096 /\ (∀ q,J2m (parts 32 (dat s))=some q -> q=⟨l,c⟩) /\ Ext w w'
theorem J2p.no {w w':World} {s:ByteArray} {X:Value} {c:Bool} {l:List Int} (h:J2m (parts 32 (dat s))=none) (ho:Q0q w' w.heap.size 3 (.int .i64) X l) (hl:l.length <= 4096) (hx:Ext w w'):J2p w s (.returned (.tuple #[.agg #[X,.bool c],.bool false])) w' :=
 ⟨X,c,l,by rw [h]; rfl,ho,hl,(fun q hq=>by rw [h] at hq; cases hq),hx⟩
theorem J2p.yes {w w':World} {s:ByteArray} {X:Value} {c:Bool} {l:List Int} (h:J2m (parts 32 (dat s))=some ⟨l,c⟩) (ho:Q0q w' w.heap.size 3 (.int .i64) X l) (hl:l.length <= 4096) (hx:Ext w w'):J2p w s (.returned (.tuple #[.agg #[X,.bool c],.bool true])) w' :=
 ⟨X,c,l,by rw [h]; rfl,ho,hl,(fun q hq=>by rw [h] at hq; cases hq; rfl),hx⟩
def wordsOf (s:ByteArray):List ByteArray:=J2q 32 s
def wordAt (W:List ByteArray) (k:Nat):ByteArray:=W.getD k ⟨#[]⟩
theorem J3e {W:List ByteArray} {k:Nat} (h:k < W.length):W[k]=wordAt W k:=by
 unfold wordAt; rw [List.getD_eq_getElem?_getD,List.getElem?_eq_getElem h]; rfl
structure Line (s:ByteArray) (W:List ByteArray) (N:Nat):Prop where
 len:W.length=N + 1
 small:N <= s.size
 read:J2m (parts 32 (dat s))=(J3q ((W.map dat).take N)).bind fun a=>(endOf (dat (wordAt W N))).map fun c=>⟨a,c⟩
theorem J7r (s:ByteArray):∃ N,Line s (wordsOf s) N:=by
 obtain ⟨x,r,h⟩:=J4s 32 s;have hl:(wordsOf s).length=r.length + 1:=by unfold wordsOf; rw [h]; rfl
 refine ⟨r.length,hl,?_,?_⟩
 . have h1:=J3k 32 (dat s)
   rw [<- J2z,List.length_map,J2x] at h1;have:(J2q 32 s).length=r.length + 1:=hl;omega
 . have hd:(wordsOf s).map dat=parts 32 (dat s):=J2z 32 s
   rw [<- hd,J6x (N:=r.length) (l:=(wordsOf s).map dat) (by rw [List.length_map]; exact hl),J3d]
   have h2:((wordsOf s).map dat).getD r.length []=dat (wordAt (wordsOf s) r.length):=by
    rw [<- J3e (by omega),List.getD_eq_getElem?_getD,List.getElem?_map,List.getElem?_eq_getElem (by omega)]; rfl
   have h3:(((wordsOf s).map dat).take r.length ++ [dat (wordAt (wordsOf s) r.length)]).take r.length=((wordsOf s).map dat).take r.length:=by
    rw [List.take_append_of_le_length (by rw [List.length_take,List.length_map]; omega),List.take_take,Nat.min_self]
   rw [h2,h3]
theorem Line.J8m {s:ByteArray} {W:List ByteArray} {N:Nat} (h:Line s W N) (he:endOf (dat (wordAt W N))=none):J2m (parts 32 (dat s))=none:=by
 rw [h.read,he]; cases J3q ((W.map dat).take N) <;> rfl
theorem J7y {l:List (List UInt8)} {k N:Nat} (h:J3q (l.take k)=none) (hk:k <= N):J3q (l.take N)=none:=by
 induction N with
 | zero=>rw [show k=0 by omega] at h; exact h
 | succ N ih =>
   by_cases hkn:k=N + 1
   . rw [<- hkn]; exact h
   . have:=ih (by omega)
     by_cases hl:N < l.length
     . rw [List.take_succ_eq_append_getElem hl,J4t,this]; rfl
     . rw [List.take_of_length_le (by omega)]; rw [List.take_of_length_le (by omega)] at this; exact this
theorem J6d {W:List ByteArray} {k:Nat} (h:k < W.length):J3q ((W.map dat).take (k + 1))=(J3q ((W.map dat).take k)).bind fun a=>(J2t (dat (wordAt W k))).map fun d=>a ++ [d]:=by
 rw [List.take_succ_eq_append_getElem (by rw [List.length_map]; exact h),J4t,List.getElem_map,J3e h]
theorem Line.J9a {s:ByteArray} {W:List ByteArray} {N k:Nat} (h:Line s W N) (hk:k < N) (hd:J2t (dat (wordAt W k))=none):J2m (parts 32 (dat s))=none:=by
 have h1:J3q ((W.map dat).take (k + 1))=none:=by
  rw [J6d (by rw [h.len]; omega),hd]; cases J3q ((W.map dat).take k) <;> rfl
 rw [h.read,J7y h1 (by omega)]; rfl
theorem J6a {s:ByteArray} (h:s=⟨#[99,108,111,115,101]⟩):endOf (dat s)=some true:=by rw [h]; rfl
theorem J6l {s:ByteArray} (h:s=⟨#[111,112,101,110]⟩):endOf (dat s)=some false:=by rw [h]; rfl
theorem J5s {s:ByteArray} (h1:¬ s=⟨#[99,108,111,115,101]⟩) (h2:¬ s=⟨#[111,112,101,110]⟩):endOf (dat s)=none:=by
 unfold endOf;rw [if_neg (fun e=>h1 (J5n (e.trans rfl))),if_neg (fun e=>h2 (J5n (e.trans rfl)))]
theorem J9e {α:Type} {enc:α -> Value} {w:World} {g:Nat} {x:α} (h:w.cell? ⟨g,0,none⟩=some (enc x)):∀ j (hj:j < [x].length),w.cell? ((⟨g,0,none⟩:Addr).add j)=some (enc [x][j]):=fun j hj=>by
 have hj0:j=0:=by simpa using hj
 subst hj0;rw [addr_add]; exact h
theorem J9h {e:ByteArray} {c:Bool} (_h:endOf (dat e)=some c) (w:World):∃ Z,w.alloc (.cells #[.slice none 0 0,.bool c] 115)=Z /\ Ext w Z /\ Blk Z w.heap.size 115 #[.slice none 0 0,.bool c] /\ Z.heap.size=w.heap.size + 1:=⟨_,rfl,Ext.box _ _,Blk.made _ _ _,by simp⟩
def J3z:ByteArray:=⟨#[99,108,111,115,101]⟩
def J6e:ByteArray:=⟨#[111,112,101,110]⟩
theorem J2u:J3z.toList=[99,108,111,115,101]:=by simp [J3z,go_sem]
theorem open_list:J6e.toList=[111,112,101,110]:=by simp [J6e,go_sem]
theorem J7k (w:World) (s:ByteArray) (hs:s.size <= 4096) :
    Calls Tryz.prog 155 #[.string s] w fun e w'=>J2p w s e w':=by
 obtain ⟨i0,hi,hz0,hz1,hz2⟩:=info_parts Tryz.info3;obtain ⟨N,hline⟩:=J7r s;have HL:=hid hline;have hN:=hline.small;have hlen:=hline.len;have hsp:wordsOf s=J2q 32 s:=rfl;obtain ⟨ws,hws⟩:∃ x,wordsOf s=x:=⟨_,rfl⟩;rw [hws] at HL hlen;have HWE:Hid (J2q 32 s=ws):=hid (hsp.symm.trans hws);clear hline hsp hws;go_enter Tryz.func155,Tryz.ntmps155;go_wp2_with fail;obtain ⟨W,hWW,k0,HXW,eW⟩:=Q1t w 115 #[.slice none 0 0,.bool false];rw [hWW];clear hWW;obtain ⟨gr,hgr⟩:∃ x,w.heap.size=x:=⟨_,rfl⟩;have HGR:=hid hgr;rw [hgr] at k0 eW ⊢;have KR:=hid k0;clear k0 hgr;refine (J5i W s 32 (by omega)).mono ?_
 rintro e w2 ⟨v2,rfl,hown2,hx2⟩;have HX2:=hid (HXW.out.trans hx2);have HK2:=hid (KR.out.ext hx2);have hsz2:gr + 1 <= w2.heap.size:=by have:=hx2.size; omega
 rw [HWE.out] at hown2;obtain ⟨bw,cw,hv2,hcw⟩:∃ bw cw,v2=.slice (some ⟨bw,0,none⟩) ws.length cw /\ ∀ j (h:j < ws.length),w2.cell? ⟨bw,j,none⟩=some (.string (wordAt ws j)):=by
  rcases hown2.cells2 with ⟨_,h0⟩ | ⟨g,c,hv,_,_,_,hc⟩
  . rw [h0] at hlen; cases hlen
  . refine ⟨g,c,hv,fun j h=>?_⟩
    have:=hc j h;rw [J3e h] at this
    simpa using this
 subst hv2;rw [hlen] at hcw;have HCW:=hid hcw;have hcl:=hcw N (by omega)
 have HCE:=hid hcl;rw [hlen];clear hown2 hx2 hcw hcl hlen;have hN1:(N:Int) < ((N + 1:Nat):Int):=by omega
 have hN2:IntKind.i64.wrap (((N + 1:Nat):Int) - 1)=(N:Int):=by rw [Q2v _ (by omega) (by omega)]; omega
 have hN3:(N:Int) < (N:Int) + 1:=by omega
 have hNO:=hid HL.out.J8m;obtain ⟨e,he⟩:∃ x,wordAt ws N=x:=⟨_,rfl⟩;have HE:=hid he;rw [he] at HCE hNO;clear he
 by_cases h12:e=⟨#[99,108,111,115,101]⟩ ∨ e=⟨#[111,112,101,110]⟩
 . obtain ⟨cl,hend,e1,e2⟩:∃ cl:Bool,endOf (dat e)=some cl /\ (e.toList == [99,108,111,115,101])=cl /\ (e.toList == [111,112,101,110]) = !cl:=by
    rcases h12 with h | h
    . exact ⟨true,J6a h,toList_eq J2u h,Z4b open_list (by rw [h]; decide)⟩
    . exact ⟨false,J6l h,Z4b J2u (by rw [h]; decide),toList_eq open_list h⟩
   have HEND:=hid hend;have c0:=HCE.out;clear h12 hend;cases cl
   all_goals
    simp only [Bool.not_true,Bool.not_false] at e2;go_wp2_with fail;obtain ⟨wb,hwb,hxb,hkb,hzb⟩:=J9h HEND.out w2;obtain ⟨gp,hgp⟩:∃ x,w2.heap.size=x:=⟨_,rfl⟩;have hxg:Below gp w2 wb:=hgp ▸ (hxb:Below w2.heap.size w2 wb);rw [hgp] at hkb hzb hsz2;rw [hwb,hgp];have HKB:=hid hkb;have HXB:=hid hxb;have HXG:=hid hxg;have HGP:=hid hgp;have hgg:bw < gp:=by rw [<- hgp]; exact World.block_lt_of_cell? w2 _ HCE.out
    clear hwb hgp hkb hxb c0 e1 e2 hxg
    go_loopw [7] (fun i wr=>∃ (k:Nat) (vo:Value) (l:List Int) (c:Bool),k <= N /\ i=.int .i64 k /\ endOf (dat e)=some c /\ J3q ((ws.map dat).take k)=some l /\ Blk wr gp 115 #[vo,.bool c] /\ Q0q wr (gp + 1) 3 (.int .i64) vo l /\ Below gp wb wr /\ gp + 1 <= wr.heap.size) (fun i _=>N - (intOf i).toNat)
    case atStart=>exact ⟨0,_,[],_,Nat.zero_le _,rfl,HEND.out,rfl,HKB.out,Q0q.nil _ _ _ _,Below.refl _ _,by omega⟩
    case round =>
     obtain ⟨k,vo,l,c,hk,rfl,hec,hdl,hbo,hown,hlow,hsz⟩:=hrel;have hlk:l.length <= 4096:=by rw [J6n hdl,List.length_take]; omega
     have HXR:Hid (Ext w wr):=hid (Below.trans (HX2.out.trans HXB.out) (hlow.mono (by have:=HX2.out.size; have:=HGP.out; omega)))
     have HWR:Hid (Below gp w2 wr):=hid (HXG.out.trans hlow);have HKR:=hid (HK2.out.below HWR.out (by omega))
     have HEC:=hid hec;have HDL:=hid hdl;have HBO:=hid hbo;have HOW:=hid hown;have HLO:=hid hlow;clear hec hdl hbo hown hlow
     by_cases hlt:k < N
     . have hkI:(k:Int) < N:=by omega
       have hk1:(k:Int) < (N:Int) + 1:=by omega
       have hk2:k < N + 1:=by omega
       have d0:=(Below.cell (p:=⟨bw,k,none⟩) HWR.out hgg).trans (HCW.out k hk2);have HDA:=hid (J6d (W:=ws) (k:=k) (by rw [HL.out.len]; omega))
       have HND:=hid (fun h=>HL.out.J9a hlt h);obtain ⟨y,hy⟩:∃ x,wordAt ws k=x:=⟨_,rfl⟩;rw [hy] at d0 HDA HND;clear hy
       by_cases h1:y.size=1
       . have hs1:((y.size:Int) != 1)=false:=by simp [h1]
         have hp:0 < y.size:=by omega
         have hpI:(0:Int) < (y.size:Int):=by omega
         have HDG:=hid (J7m h1);obtain ⟨bt,hbt⟩:∃ z,(y[0]'hp).toNat=z:=⟨_,rfl⟩;rw [hbt] at HDG
         by_cases g0:bt < 48
         . have f0:((y[0]'hp).toNat:Int) < 48:=by omega
           have HNONE:=hid (HND.out (by rw [HDG.out,if_neg (by omega)]))
           clear g0 hbt h1;go_wp2_with (refine Q0s rfl _ _ 115 rfl Tryz.J2s rfl rfl HKR.out rfl rfl ?_ ?_; (focus (intro u hu; simp only [List.mem_cons,List.not_mem_nil,or_false] at hu; rcases hu with rfl | rfl <;> rfl)); intro w8 hb8 hl8 ho8)
           refine bodyPost_ret (Q4c Tryz.results155 rfl hb8 Tryz.J5j Tryz.J2s rfl) rfl ?_;exact J2p.no HNONE.out (Q0q.nil _ _ _ _) (by simp) (Below.trans HXR.out (hl8 _ (by have:=HGR.out; omega)))
         have f0:¬ ((y[0]'hp).toNat:Int) < 48:=by omega
         by_cases g1:57 < bt
         . have f1:(57:Int) < ((y[0]'hp).toNat:Int):=by omega
           have HNONE:=hid (HND.out (by rw [HDG.out,if_neg (by omega)]))
           clear g0 g1 hbt h1;go_wp2_with (refine Q0s rfl _ _ 115 rfl Tryz.J2s rfl rfl HKR.out rfl rfl ?_ ?_; (focus (intro u hu; simp only [List.mem_cons,List.not_mem_nil,or_false] at hu; rcases hu with rfl | rfl <;> rfl)); intro w8 hb8 hl8 ho8)
           refine bodyPost_ret (Q4c Tryz.results155 rfl hb8 Tryz.J5j Tryz.J2s rfl) rfl ?_;exact J2p.no HNONE.out (Q0q.nil _ _ _ _) (by simp) (Below.trans HXR.out (hl8 _ (by have:=HGR.out; omega)))
         have f1:¬ (57:Int) < ((y[0]'hp).toNat:Int):=by omega
         obtain ⟨d,hd⟩:∃ d:Int,(bt:Int) - 48=d:=⟨_,rfl⟩;have HB:Hid ((y[0]'hp).toNat=bt):=hid hbt;have HU:Hid (IntKind.u8.wrap ((bt:Int) - 48)=d):=hid (by rw [IntKind.wrap_u8]; omega)
         have HV:Hid (IntKind.i64.wrap d=d):=hid (Q2v _ (by omega) (by omega))
         have HDN:Hid (J3q ((ws.map dat).take (k + 1))=some (l ++ [d])):=hid (by rw [HDA.out,HDL.out,HDG.out,if_pos (by omega),hd]; rfl)
         have HDC:=hid d0;clear g0 g1 hbt h1 hd HDA HND HDG;go_wp2_with fail;clear d0 f0 f1;have hdr:=(Ext.refl wr).drew;refine Flow.Q4m [.p,.w,.p,.p,.p,.w,.w,.p,.w,.w,.last,.last,.last] [0,1,2,3,4,5,6,7,8,9,10,11,12] [[],[0],[],[],[2,3],[2,3,4],[2,3,4,5],[2,3,4,5,6],[2,3,4,5,6,7],[2,3,4,5,6,7,8],[0,1,2,3,4,5,6,7,8,9],[0,1,2,3,4,5,6,7,8,9,10],[0,1,2,3,4,5,6,7,8,9,10,11]] [10,11,12]
          [.c 0 (.pointer (some ⟨gp,0,none⟩)),.c 1 (vo),.c 2 (.slice (some ⟨bw,0,none⟩) (N + 1) cw),.c 3 (.int .i64 (k:Int)),.c 4 (.pointer (some ⟨bw,k,none⟩)),.c 5 (.string y),.c 6 (.int .u8 (bt:Int)),.c 7 (.int .u8 d),.c 8 (.int .i64 d),⟨fun v wz=>(fun v w'=>∃ g,v 9=.slice (some ⟨g,0,none⟩) 1 1 /\ w'.cell? ⟨g,0,none⟩=some (.int .i64 d)) v wz,by rintro v a b hx ⟨g,h1,h2⟩; exact ⟨g,h1,hx.cell h2⟩⟩,.none,.none,.none]
          [fun v w1 w'=>Q0q w' (gp + 1) 3 (.int .i64) (v 10) (l ++ [d]) /\ w1.grownBy w' vo.ownBlock,fun v w1 w'=>v 11=.pointer (some ⟨gp,0,none⟩) /\ Q0q w' (gp + 1) 3 (.int .i64) (v 10) (l ++ [d]) /\ w1.grownBy w' vo.ownBlock,fun v w1 w'=>∃ x wm,Q0q wm (gp + 1) 3 (.int .i64) x (l ++ [d]) /\ w1.grownBy wm vo.ownBlock /\ w'=wm.setCell ⟨gp,0,none⟩ x] (by kernel_rfl) rfl (by kernel_rfl) ⟨?g0,?g1,?g2,?g3,?g4,?g5,?g6,?g7,?g8,?g9,?g10,?g11,?g12,trivial⟩ ?post
         case g0 | g2 | g3=>
          intro v w1 hx;intro bb hbb;subst hbb;refine ⟨_,fun w=>?_,rfl⟩;go_simp
         case g1=>
          intro v w1 hx;(repeat intro (zq:v _=_));intro bb hbb;subst hbb;have n0:w1.cell? ⟨gp,0,none⟩=some vo:=(HBO.out.ext (hdr.trans hx)).cell 0;intro K hK;go_simp;exact hK _ _ (Ext.refl _) rfl
         case g4=>
          intro v w1 hx;(repeat intro (zq:v _=_));intro bb hbb;subst hbb;refine ⟨_,fun w=>?_,rfl⟩;go_simp
         case g5=>
          intro v w1 hx;(repeat intro (zq:v _=_));intro bb hbb;subst hbb;have n0:=(hdr.trans hx).cell HDC.out;intro K hK;go_simp;exact hK _ _ (Ext.refl _) rfl
         case g6=>
          intro v w1 hx;(repeat intro (zq:v _=_));intro bb hbb;subst hbb;intro K hK;go_simp;rw [HB.out];exact hK _ _ (Ext.refl _) rfl
         case g7=>
          intro v w1 hx;(repeat intro (zq:v _=_));intro bb hbb;subst hbb;refine ⟨.int .u8 d,fun w=>?_,rfl⟩;go_simp;rw [HU.out]
         case g8=>
          intro v w1 hx;(repeat intro (zq:v _=_));intro bb hbb;subst hbb;intro K hK;go_simp;rw [HV.out];exact hK _ _ (Ext.refl _) rfl
         case g9=>
          intro v w1 hx;(repeat intro (zq:v _=_));intro bb hbb;subst hbb;intro K hK;go_simp;exact hK _ _ (Ext.box _ _) ⟨_,rfl,X9z _ _ _ 0⟩
         case g10=>
          intro v w1 hx (q0:v 0=_) (q1:v 1=_) (q2:v 2=_) (q3:v 3=_) (q4:v 4=_) (q5:v 5=_) (q6:v 6=_) (q7:v 7=_) (q8:v 8=_) (q9:(fun v w'=>∃ g,v 9=.slice (some ⟨g,0,none⟩) 1 1 /\ w'.cell? ⟨g,0,none⟩=some (.int .i64 d)) v w1);intro wl hT;obtain rfl:wl=w1:=hT;intro bb hbb;intro K hK;obtain ⟨g,hg9,hc9⟩:=q9;have o1:bb.eval (.tmp 61)=vo:=by rw [hbb]; dsimp only; (try simp (discharger:=decide) only [eval_put_ne]); rw [Q0a (by simp only [size_put]; exact (by decide:61 < 73))]; exact q1
          have o2:bb.eval (.tmp 69)=.slice (some ⟨g,0,none⟩) 1 1:=by rw [hbb]; dsimp only; (try simp (discharger:=decide) only [eval_put_ne]); rw [Q0a (by simp only [size_put]; exact (by decide:69 < 73))]; exact hg9
          have hxx:=hdr.trans hx;exact J5t _ _ 22 rfl (gp + 1) 3 i0 (.int .i64 0) 8 Tryz.underlying22 hi hz0 hz1 hz2 rfl (.int .i64) vo l [d] o1 (HOW.out.below hxx) ⟨g,0,none⟩ 1 o2 (J9e hc9) (fun _=>rfl) (by simp; omega) (by decide) (by have:=hxx.size; omega) (fun v' w' hown hg=>hK _ _ ⟨hown,hg⟩)
         case g11=>
          intro v w1 hx (q0:v 0=_) (q1:v 1=_) (q2:v 2=_) (q3:v 3=_) (q4:v 4=_) (q5:v 5=_) (q6:v 6=_) (q7:v 7=_) (q8:v 8=_) _;intro wl hT;replace hT:(fun v w1 w'=>Q0q w' (gp + 1) 3 (.int .i64) (v 10) (l ++ [d]) /\ w1.grownBy w' vo.ownBlock) v w1 wl:=hT;intro bb hbb;subst hbb;intro K hK;go_simp;exact hK _ _ ⟨rfl,hT⟩
         case g12=>
          intro v w1 hx (q0:v 0=_) (q1:v 1=_) (q2:v 2=_) (q3:v 3=_) (q4:v 4=_) (q5:v 5=_) (q6:v 6=_) (q7:v 7=_) (q8:v 8=_) _;intro wl hT;replace hT:(fun v w1 w'=>v 11=.pointer (some ⟨gp,0,none⟩) /\ Q0q w' (gp + 1) 3 (.int .i64) (v 10) (l ++ [d]) /\ w1.grownBy w' vo.ownBlock) v w1 wl:=hT;intro bb hbb;intro K hK;obtain ⟨hT0,hT1,hT2⟩:=hT;have hxx:=hdr.trans hx;obtain ⟨bp,cp,hsh,_⟩:=hT1.shape;have o1:bb.eval (.tmp 71)=.pointer (some ⟨gp,0,none⟩):=by rw [hbb]; dsimp only; (try simp (discharger:=decide) only [eval_put_ne]); rw [Q0a (by simp only [size_put]; exact (by decide:71 < 73))]; exact hT0
          have o2:bb.eval (.tmp 70)=v 10:=by rw [hbb]; dsimp only; (try simp (discharger:=decide) only [eval_put_ne]); rw [Q0a (by simp only [size_put]; exact (by decide:70 < 73))]
          have hbl:=Go.Tw.Q5l (HBO.out.ext hxx) (HOW.out.below hxx) (Nat.lt_succ_self gp) hT2;exact Q3y _ _ rfl Tryz.J8w (g:=gp) (k:=0) o1 o2 (by rw [hsh]; rfl) (by rw [hsh]; rfl) hbl (by show 0 < 2; omega) (fun v'=>hK _ _ ⟨v 10,wl,hT1,hT2,rfl⟩)
         case post =>
          intro v w1 hx;(iterate 9 intro (zq:v _=_));intro (q9:(fun v w'=>∃ g,v 9=.slice (some ⟨g,0,none⟩) 1 1 /\ w'.cell? ⟨g,0,none⟩=some (.int .i64 d)) v w1);intro w2 hE;replace hE:(fun v w1 w'=>∃ x wm,Q0q wm (gp + 1) 3 (.int .i64) x (l ++ [d]) /\ w1.grownBy wm vo.ownBlock /\ w'=wm.setCell ⟨gp,0,none⟩ x) v w1 w2:=hE;simp only [Flow.acts,Act.put];go_simp;obtain ⟨x,wm,hom,hgm,rfl⟩:=hE;have hxx:=hdr.trans hx;have howx:=HOW.out.below hxx;have hbm:=Go.Tw.Q5l (HBO.out.ext hxx) howx (Nat.lt_succ_self gp) hgm;have HO6:=hid (Q0q.setCell hom (p:=⟨gp,0,none⟩) (Nat.lt_succ_self gp) x);have HB6:=hid (hbm.set 0 x);have hxm:Below gp wb wm:=Below.trans HLO.out (Below.grown (hxx.mono (by omega)) hgm (by have:=hxx.size; omega) (fun j hj=>by have:=(howx.lt j hj).1; omega))
          have HX6:=hid (hxm.setCell (p:=⟨gp,0,none⟩) (Nat.le_refl _) x);have HS6:Hid (gp + 1 <= (wm.setCell ⟨gp,0,none⟩ x).heap.size):=hid (by have:=hbm.lt; simp; omega)
          obtain ⟨w6,hw6⟩:∃ y,wm.setCell ⟨gp,0,none⟩ x=y:=⟨_,rfl⟩;rw [hw6] at HO6 HB6 HX6 HS6 ⊢;clear hw6 hom hgm hxx hx hbm hxm howx hdr q9;(repeat clear zq);go_wp2;go_roundw
          case rel=>exact ⟨k + 1,x,l ++ [d],c,by omega,by go_num,HEC.out,HDN.out,HB6.out,HO6.out,HX6.out,HS6.out⟩
          case measure=>simp [intOf]; omega
       . have hs1:((y.size:Int) != 1)=true:=by simp; omega
         have HNONE:=hid (HND.out (J8n h1));clear h1;go_wp2_with (refine Q0s rfl _ _ 115 rfl Tryz.J2s rfl rfl HKR.out rfl rfl ?_ ?_; (focus (intro u hu; simp only [List.mem_cons,List.not_mem_nil,or_false] at hu; rcases hu with rfl | rfl <;> rfl)); intro w8 hb8 hl8 ho8)
         refine bodyPost_ret (Q4c Tryz.results155 rfl hb8 Tryz.J5j Tryz.J2s rfl) rfl ?_;exact J2p.no HNONE.out (Q0q.nil _ _ _ _) (by simp) (Below.trans HXR.out (hl8 _ (by have:=HGR.out; omega)))
     . have hkI:¬ (k:Int) < N:=by omega
       have hkn:k=N:=by omega
       subst hkn;have HRD:Hid (J2m (parts 32 (dat s))=some ⟨l,c⟩):=hid (by rw [HL.out.read,HE.out,HDL.out,HEC.out]; rfl)
       obtain ⟨Av,cv,hsv,-⟩:=HOW.out.shape;subst hsv;go_wp2_with (first | (refine Q7z rfl _ 115 rfl Tryz.J5j Tryz.J2s rfl HBO.out rfl ?_) | (refine Q0s rfl _ _ 115 rfl Tryz.J2s rfl rfl HKR.out rfl rfl ?_ ?_; (focus (intro u hu; simp only [List.mem_cons,List.not_mem_nil,or_false] at hu; rcases hu with rfl | rfl <;> rfl)); intro w8 hb8 hl8 ho8))
       refine bodyPost_ret (Q4c Tryz.results155 rfl hb8 Tryz.J5j Tryz.J2s rfl) rfl ?_;exact J2p.yes HRD.out (Q0q.weaken (HOW.out.only (by omega) ho8) (by have:=HX2.out.size; have:=HGP.out; omega)) hlk (Below.trans HXR.out (hl8 _ (by have:=HGR.out; omega)))
 have h1:¬ e=⟨#[99,108,111,115,101]⟩:=fun h=>h12 (.inl h);have h2:¬ e=⟨#[111,112,101,110]⟩:=fun h=>h12 (.inr h);clear h12;have HNONE:=hid (hNO.out (J5s h1 h2));have e1:=Z4b J2u h1;have e2:=Z4b open_list h2;have c0:=HCE.out;clear h1 h2;go_wp2_with (refine Q0s rfl _ _ 115 rfl Tryz.J2s rfl rfl HK2.out rfl rfl ?_ ?_; (focus (intro u hu; simp only [List.mem_cons,List.not_mem_nil,or_false] at hu; rcases hu with rfl | rfl <;> rfl)); intro w8 hb8 hl8 ho8)
 refine bodyPost_ret (Q4c Tryz.results155 rfl hb8 Tryz.J5j Tryz.J2s rfl) rfl ?_;exact J2p.no HNONE.out (Q0q.nil _ _ _ _) (by simp) (Below.trans HX2.out (hl8 _ (by have:=HGR.out; omega)))
end Go.Proofs
namespace Go.Proofs
open Go.RowKit Go.Tw Go.Flow
attribute [local go_sem] Oper.semAt_some
theorem J2l {P:Program} {fn:Func} {p q r:Tmp} {T:TypeId} (h:fn.results=#[.cell p T,.tmp q,.tmp r]) {tmps:Array Value} {w:World} {g:Nat} (ht:tmps.getD p undef=.pointer (some ⟨g,0,none⟩)) {BT:TypeId} {cs:Array Value} (hb:Blk w g BT cs)
    (hA:∀ w,(isAgg T).run P w=.ok true w) (hS:∀ w,(sizeOf T).run P w=.ok cs.size w) {u v:Value} (hq:tmps.getD q undef=u) (hr:tmps.getD r undef=v):(results fn tmps).run P w=.ok (.tuple #[.agg cs,u,v]) w:=by
 unfold results;rw [h];simp only [List.mapM_toArray,List.mapM_cons,List.mapM_nil,Sem.run_bind,Sem.run_pure,ht,hq,hr,asAddr];simp [Q3a hb hA hS]
theorem J6r (w:World):Q3m w (.slice none 0 0) []:=X7y (Q0z.nil w 0 115 2 X8h) (by simp) (fun q hq=>by simp at hq) (fun q hq=>by simp at hq)
def J2n (w:World) (s:ByteArray) (e:Ending) (w':World):Prop:=∃ x,e=.returned (.tuple #[x,.int .i64 (J2o s).2.1,.int .i64 (J2o s).2.2]) /\ Q0w w' x (J2o s).1 /\ Ext w w'
theorem J2n.no {w w':World} {s:ByteArray} {i e:Int} (h:J2o s=([],i,e)) (hx:Ext w w'):J2n w s (.returned (.tuple #[.agg #[.slice none 0 0],.int .i64 i,.int .i64 e])) w' :=
 ⟨_,by rw [h],by rw [h]; exact ⟨_,rfl,J6r w'⟩,hx⟩
theorem J2n.yes {w w':World} {s:ByteArray} {p:List Rul} {a:Value} (h:J2o s=(p,0,0)) (ha:Q3m w' a p) (hx:Ext w w'):J2n w s (.returned (.tuple #[.agg #[a],.int .i64 0,.int .i64 0])) w' :=
 ⟨_,by rw [h],by rw [h]; exact ⟨_,rfl,ha⟩,hx⟩
def RdR (s:ByteArray) (L:List ByteArray) (p:List Rul) (k:Nat):Prop:=J2k p k ((L.map dat).drop k)=J2k [] 0 (parts 10 (dat s))
theorem J7f (s:ByteArray):RdR s (J2q 10 s) [] 0:=by unfold RdR; rw [J2z,List.drop_zero]
theorem drop_at {L:List ByteArray} {k:Nat} (hk:k < L.length):(L.map dat).drop k=dat (wordAt L k) :: (L.map dat).drop (k + 1):=by
 rw [List.drop_eq_getElem_cons (by rw [List.length_map]; exact hk),List.getElem_map,J3e hk]
theorem J6j {L:List ByteArray} {k:Nat} (hk:k + 1 < L.length):∃ y r,(L.map dat).drop (k + 1)=y :: r:=⟨_,_,drop_at hk⟩
theorem J9c {s:ByteArray} {L:List ByteArray} {p:List Rul} {k:Nat} (h:RdR s L p k) (hk:k + 1 < L.length) (hr:J2m (parts 32 (dat (wordAt L k)))=none):J2k [] 0 (parts 10 (dat s))=([],(k:Int),26):=by
 obtain ⟨y,r,hy⟩:=J6j hk;rw [<- h,drop_at (by omega),hy,J2k,hr]
theorem J8t {s:ByteArray} {L:List ByteArray} {p:List Rul} {q:Rul} {k:Nat} (h:RdR s L p k) (hk:k + 1 < L.length) (hr:J2m (parts 32 (dat (wordAt L k)))=some q):RdR s L (p ++ [q]) (k + 1):=by
 obtain ⟨y,r,hy⟩:=J6j hk;have e:=h;unfold RdR at e ⊢;rw [drop_at (by omega),hy,J2k,hr] at e
 rw [hy]; exact e
theorem J8v {s:ByteArray} {L:List ByteArray} {p:List Rul} {k:Nat} (h:RdR s L p k) (hk:L.length=k + 1):J2k [] 0 (parts 10 (dat s))=if (dat (wordAt L k)).isEmpty then (if Q6h p=0 then (p,0,0) else ([],(k:Int),Q6h p)) else ([],(k:Int),26):=by
 rw [<- h,drop_at (by omega),List.drop_eq_nil_of_le (by rw [List.length_map]; omega),J2k]
theorem J5z (s:ByteArray):∃ N,(J2q 10 s).length=N + 1 /\ N <= s.size:=by
 obtain ⟨x,r,h⟩:=J4s 10 s;have h1:=J3k 10 (dat s);rw [<- J2z,List.length_map,J2x,h] at h1;exact ⟨r.length,by rw [h]; rfl,by simpa using h1⟩
theorem J7o {c:UInt8} {s:ByteArray} {k:Nat} (h:k < (J2q c s).length):(wordAt (J2q c s) k).size <= s.size:=by
 have h1:=J3b c (dat s) (dat (wordAt (J2q c s) k)) (by rw [<- J2z,<- J3e h]; exact List.mem_map_of_mem (List.getElem_mem h))
 rwa [J2x,J2x] at h1
theorem J7a (w:World) (s:ByteArray) (hs:s.size <= 5000) :
    Calls Tryz.prog 85 #[.string s] w fun e w'=>J2n w s e w':=by
 obtain ⟨i0,hi,hz0,hz1,hz2⟩:=info_parts Tryz.Z9v
 by_cases hlong:4096 < s.size
 . have hl:(4096:Int) < (s.size:Int):=by omega
   have HE:Hid (J2o s=([],0,27)):=hid (by unfold J2o; rw [if_pos hlong])
   clear hlong;go_enter Tryz.func85,Tryz.ntmps85;go_wp2_with (refine Q0s rfl _ _ 47 rfl Tryz.Z7k rfl rfl (Blk.made _ _ _) rfl rfl ?_ ?_; (focus (intro u hu; simp only [List.mem_cons,List.not_mem_nil,or_false] at hu; rcases hu with rfl; rfl)); intro w8 hb8 hl8 ho8);refine bodyPost_ret (J2l Tryz.results85 rfl hb8 Tryz.Z9i Tryz.Z7k rfl rfl) rfl ?_;exact J2n.no HE.out (Below.trans (Ext.box w _) (hl8 _ (Nat.le_refl _)))
 have hl:¬ (4096:Int) < (s.size:Int):=by omega
 have HE:Hid (J2o s=J2k [] 0 (parts 10 (dat s))):=hid (by unfold J2o; rw [if_neg hlong]; rfl)
 obtain ⟨N,hlen,hN⟩:=J5z s;have hps:∀ k,k < N + 1 -> (wordAt (J2q 10 s) k).size <= 4096:=fun k hk=>Nat.le_trans (J7o (by omega)) (by omega)
 have h0:=J7f s;obtain ⟨ws,hws⟩:∃ x,J2q 10 s=x:=⟨_,rfl⟩;rw [hws] at hlen hps h0;have HWE:=hid hws;have HPS:=hid hps;have H0:=hid h0;have HLEN:=hid hlen;clear hws hps h0 hlong;go_enter Tryz.func85,Tryz.ntmps85;go_wp2_with fail;obtain ⟨W,hWW,k0,k1,HXW,eW⟩:=Q4e w 47 #[.slice none 0 0] 47 #[.slice none 0 0];rw [hWW];clear hWW;obtain ⟨gr,hgr⟩:∃ x,w.heap.size=x:=⟨_,rfl⟩;have HGR:=hid hgr;rw [hgr] at k0 k1 eW ⊢;have KR:=hid k0;obtain ⟨gp,hgp⟩:∃ x,gr + 1=x:=⟨_,rfl⟩;rw [hgp] at k1 eW ⊢;have KP:=hid k1;have hgg:gr < gp:=by omega
 clear k0 k1 hgr hgp;refine (J5i W s 10 (by omega)).mono ?_
 rintro e w2 ⟨v2,rfl,hown2,hx2⟩;have HX2:=hid (HXW.out.trans hx2);have HK2:=hid (KR.out.ext hx2);have HP2:=hid (KP.out.ext hx2);have hsz2:gp + 1 <= w2.heap.size:=by have:=hx2.size; omega
 rw [HWE.out] at hown2;obtain ⟨bw,cw,hv2,hgb,hcw⟩:∃ bw cw,v2=.slice (some ⟨bw,0,none⟩) ws.length cw /\ W.heap.size <= bw /\ ∀ j (h:j < ws.length),w2.cell? ⟨bw,j,none⟩=some (.string (wordAt ws j)):=by
  rcases hown2.cells2 with ⟨_,h0⟩ | ⟨g,c,hv,_,hgb,_,hc⟩
  . rw [h0] at hlen; cases hlen
  . refine ⟨g,c,hv,hgb,fun j h=>?_⟩
    have:=hc j h;rw [J3e h] at this
    simpa using this
 subst hv2;rw [hlen] at hcw;have HCW:=hid hcw;rw [hlen];have hbw:bw < w2.heap.size:=World.block_lt_of_cell? w2 _ (hcw 0 (by omega))
 have hbg:gp < bw:=by omega
 obtain ⟨B,hB⟩:∃ x,w2.heap.size=x:=⟨_,rfl⟩;rw [hB] at hbw hsz2;have HB2:=hid hB;have hN1:IntKind.i64.wrap (((N + 1:Nat):Int) - 1)=(N:Int):=by rw [Q2v _ (by omega) (by omega)]; omega
 clear hown2 hx2 hcw hlen hB hgb;go_wp2
 go_loopw [8] (fun i wr=>∃ (k:Nat) (vo:Value) (qs:List (Value × Rul)),k <= N /\ i=.int .i64 k /\ Blk wr gp 47 #[vo] /\ Q0z wr B 115 2 X8h vo qs /\ qs.length=k /\ RdR s ws (qs.map (·.2)) k /\ RuR wr qs /\ (∀ q ∈ qs,q.2.classes.length <= 4096) /\ Below gp w2 wr /\ B <= wr.heap.size /\ (∀ j,j < N + 1 -> wr.cell? ⟨bw,j,none⟩=some (.string (wordAt ws j)))) (fun i _=>N - (intOf i).toNat)
 case atStart=>exact ⟨0,_,[],Nat.zero_le _,rfl,HP2.out,Q0z.nil _ _ _ _ _,rfl,H0.out,(fun q hq=>by simp at hq),(fun q hq=>by simp at hq),Below.refl _ _,by have:=HB2.out; omega,HCW.out⟩
 case round =>
  obtain ⟨k,vo,qs,hk,rfl,hbo,hown,hqk,hrd,hru,hcl,hlow,hsz,hcw⟩:=hrel;have HXR:Hid (Ext w wr):=hid (Below.trans HX2.out (hlow.mono (by have:=HGR.out; omega)))
  have HKR:=hid (HK2.out.below hlow hgg);have HRD:=hid hrd;have HRU:=hid hru;have HCL:=hid hcl;have HLO:=hid hlow;have HQK:=hid hqk;have HCR:=hid hcw;have HBO:=hid hbo;have HOW:=hid hown;clear hrd hru hcl hlow hqk hcw hbo hown
  by_cases hlt:k < N
  . have hkI:(k:Int) < N:=by omega
    have hk1:(k:Int) < (N:Int) + 1:=by omega
    have d0:=HCR.out k (by omega)
    have hys:=HPS.out k (by omega)
    have HNO:=hid (J9c HRD.out (by rw [HLEN.out]; omega))
    have HYES:=hid (fun q=>J8t (q:=q) HRD.out (by rw [HLEN.out]; omega))
    obtain ⟨y,hy⟩:∃ x,wordAt ws k=x:=⟨_,rfl⟩;rw [hy] at d0 hys HNO HYES;clear hy;go_wp2_with fail;refine (J7k wr y hys).mono ?_;rintro e w3 ⟨X,c,l,rfl,hox,hlx,hq,hx3⟩;obtain ⟨sb,sc,rfl,-⟩:=hox.shape;have HX3:=hid (HXR.out.trans hx3);have HK3:=hid ((HKR.out.ext hx3).ext (Ext.box w3 (.cells #[.slice sb l.length sc,.bool c] 115)))
    rcases hrr:J2m (parts 32 (dat y)) with _ | q
    . have hsome:(none:Option Rul).isSome=false:=rfl
      rw [hsome];have HF:Hid (J2o s=([],(k:Int),26)):=hid (HE.out.trans (HNO.out hrr));clear hrr hsome hq hox hx3 d0 hlx;go_wp2_with (refine Q0s rfl _ _ 47 rfl Tryz.Z7k rfl rfl HK3.out rfl rfl ?_ ?_; (focus (intro u hu; simp only [List.mem_cons,List.not_mem_nil,or_false] at hu; rcases hu with rfl; rfl)); intro w8 hb8 hl8 ho8);refine bodyPost_ret (J2l Tryz.results85 rfl hb8 Tryz.Z9i Tryz.Z7k rfl rfl) rfl ?_;exact J2n.no HF.out (Below.trans (HX3.out.trans (Ext.box w3 _)) (hl8 _ (by have:=HGR.out; omega)))
    . have hsome:(some q).isSome=true:=rfl
      rw [hsome];have hqe:=hq q hrr;subst hqe;have HNX:=hid (HYES.out _ hrr);have HR3:=hid ((HRU.out.ext hx3).snoc (q:=(.slice sb l.length sc,⟨l,c⟩)) (Q0q.weaken hox (Nat.zero_le _)));have HC3:Hid (∀ q ∈ qs ++ [(Value.slice sb l.length sc,(⟨l,c⟩:Rul))],q.2.classes.length <= 4096):=hid (fun q hq=>by
       rcases List.mem_append.1 hq with hq | hq
       . exact HCL.out q hq
       . rw [List.mem_singleton.1 hq]; exact hlx)
      have hbx:=Ext.box w3 (.cells #[.slice sb l.length sc,.bool c] 115);have hxx:=hx3.trans hbx;have c2:(w3.alloc (.cells #[.slice sb l.length sc,.bool c] 115)).cell? ⟨gp,0,none⟩=some vo:=(HBO.out.ext hxx).cell 0;have HX2W:=hid hxx;clear hrr hsome hq hox d0 hlx;go_wp2_with (at_builtin; refine halted ?_);unfold Q1i;have hes:(w3.alloc (.cells #[.slice sb l.length sc,.bool c] 115)).heap.size=w3.heap.size + 1:=by simp
      obtain ⟨wb,hwb⟩:∃ Z,w3.alloc (.cells #[.slice sb l.length sc,.bool c] 115)=Z:=⟨_,rfl⟩;rw [hwb] at hbx hes hxx HX2W ⊢;rw [<- hes];have hown1:=HOW.out.below hxx;have HOB:=hid hown1;have HBB:=hid (HBO.out.ext hxx);have HRB:=hid (HR3.out.ext hbx);have hsz1:B <= wb.heap.size:=by have:=hxx.size; omega
      have HBX:=hid hbx;have hq4:qs.length <= 5000:=by rw [HQK.out]; omega
      clear hwb c2 hx3
      (at_builtin; refine wpList_append_own _ rfl _ _ 45 rfl (B) 115 i0 (.agg #[.slice none 0 0,.bool false]) 2 32 Tryz.underlying45 hi hz0 hz1 hz2 rfl (by decide) _ _ _ rfl (World.ownsRow.alloc hown1 _) ⟨wb.heap.size,0,none⟩ 1 1 [.slice sb l.length sc,.bool c] rfl rfl ?_ ?_ ?_ ?_ ?_ ?_; exact X9i _ _ _; (focus (simp [Value.oneCell'])); (focus (unfold maxLen; omega)); (focus omega); (focus (have:=hbx.size; simp at this ⊢; omega)); intro v' w1 hown' hgrow _)
      refine halted ?_;have hbl:=Y1a hown1 hgrow (Nat.le_refl _) hsz1;have hb1:=HBB.out.below hbl (by omega)
      have c1':w1.cell? ⟨gp,0,none⟩=some vo:=hb1.cell 0;have f1:=hb1.frozen 0;have HB1:=hid hb1;have HBL:=hid hbl;have hbo:=HBB.out.ext (Ext.box wb (.cells #[.slice sb l.length sc,.bool c] 115));have HR1:=hid ((HRB.out.ext (Ext.box wb (.cells #[.slice sb l.length sc,.bool c] 115))).grown (hown1.below (Ext.box wb _)) (by decide) hgrow)
      have HSZ1:Hid (B <= w1.heap.size):=hid (by have:=hbl.size; omega)
      have HCC:Hid (∀ j,j < N + 1 -> w1.cell? ⟨bw,j,none⟩=some (.string (wordAt ws j))):=hid (fun j hj=>(Below.cell (p:=⟨bw,j,none⟩) hbl hbw).trans (HX2W.out.cell (HCR.out j hj)));have HOO:=hid (show Q0z w1 B 115 2 X8h v' (qs ++ [(.slice sb l.length sc,⟨l,c⟩)]) from Q0z.snoc hown')
      obtain ⟨Av,cv',rfl,-⟩:=HOO.out.shape;clear hgrow hb1 hbl hown' hown1 hbx hbo hxx;unfold Q1i;go_wp2;go_roundw
      case rel=>exact ⟨k + 1,_,qs ++ [(.slice sb l.length sc,⟨l,c⟩)],by omega,by go_num,HB1.out.set 0 _,by have h:=HOO.out; rw [List.length_append] at h; exact h.X0g (p:=⟨gp,0,none⟩) (by show gp < B; omega) _,by rw [List.length_append,HQK.out]; rfl,
       by rw [List.map_append]; exact HNX.out,HR1.out.set (k:=0) HB1.out (by decide),HC3.out,
       (Below.trans HLO.out (Below.trans (HX2W.out.mono (by have:=HSZ1.out; omega)) (HBL.out.mono (by omega)))).setCell (p:=⟨gp,0,none⟩) (Nat.le_refl _) _,by have:=HSZ1.out; simp; omega,
       fun j hj=>(World.cell?_setCell_other _ _ _ _ (by intro h; injection h with h; omega)).trans (HCC.out j hj)⟩
      case measure=>simp [intOf]; omega
  . have hkI:¬ (k:Int) < N:=by omega
    have hkn:k=N:=by omega
    subst hkn;have hk1:(k:Int) < (k:Int) + 1:=by omega
    have d0:=HCR.out k (by omega)
    have HEN:=hid (HE.out.trans (J8v HRD.out HLEN.out));have hr:=X7y HOW.out (by rw [HQK.out]; omega) HRU.out HCL.out
    have HRS:=hid hr;obtain ⟨Av,cv,hsv,-⟩:=HOW.out.shape;subst hsv;obtain ⟨y,hy⟩:∃ x,wordAt ws k=x:=⟨_,rfl⟩;rw [hy] at d0 HEN;obtain ⟨P,hP⟩:∃ x,qs.map (·.2)=x:=⟨_,rfl⟩;rw [hP] at HEN HRS;have HPQ:=hid hP;clear hy hP hr
    by_cases hz:y.toList=[]
    . have hzE:y.toList.isEmpty=true:=by rw [hz]; rfl
      have hdz:(dat y).isEmpty=true:=by
       rw [toList_nil_iff_emptyBytes] at hz; rw [hz]; rfl
      have HF:=HEN.out;rw [if_pos hdz] at HF;have HEF:=hid HF;clear hz hdz HF;go_wp2_with (refine Q7z rfl _ 47 rfl Tryz.Z9i Tryz.Z7k rfl HBO.out rfl ?_);refine (J3a wr _ P ⟨_,rfl,HRS.out⟩).mono ?_;rintro e w3 ⟨rfl,hx3⟩;have HX3:=hid (HXR.out.trans hx3);have HK3:=hid (HKR.out.ext hx3);have HB3:=hid (HBO.out.ext hx3);have HR3:=hid (HRS.out.ext hx3);have HX4:=hid hx3;obtain ⟨E,hE⟩:∃ x,Q6h P=x:=⟨_,rfl⟩;rw [hE] at HEF ⊢;clear hx3 hE
      by_cases he:E=0
      . have heb:(E != 0)=false:=by simp [he]
        have HF:Hid (J2o s=(P,0,0)):=hid (by rw [HEF.out,if_pos he])
        clear he;have c0:w3.cell? ⟨gp,0,none⟩=_:=HB3.out.cell 0;simp only [Go.Tw.gA,Go.Tw.gB] at c0;have c1:w3.cell? ⟨gr,0,none⟩=some (.slice none 0 0):=HK3.out.cell 0;have f1:=HK3.out.frozen 0;have HOF:=hid (HOW.out.below HX4.out);have HRF:=hid (HRU.out.ext HX4.out);go_wp2;refine bodyPost_ret (J2l Tryz.results85 rfl (HK3.out.set 0 _) Tryz.Z9i Tryz.Z7k rfl rfl) rfl ?_;have h:=X7y (HOF.out.X0g (p:=⟨gr,0,none⟩) (by show gr < B; omega) (.slice Av qs.length cv)) (by rw [HQK.out]; omega) (HRF.out.set (k:=0) (u:=.slice Av qs.length cv) HK3.out (by decide)) HCL.out
        rw [HPQ.out] at h;exact J2n.yes HF.out h (HX3.out.Y0h (p:=⟨gr,0,none⟩) (by show w.heap.size <= gr; have:=HGR.out; omega) _)
      . have heb:(E != 0)=true:=by simp [he]
        have HF:Hid (J2o s=([],(k:Int),E)):=hid (by rw [HEF.out,if_neg he])
        clear he;go_wp2_with (refine Q0s rfl _ _ 47 rfl Tryz.Z7k rfl rfl HK3.out rfl rfl ?_ ?_; (focus (intro u hu; simp only [List.mem_cons,List.not_mem_nil,or_false] at hu; rcases hu with rfl; rfl)); intro w8 hb8 hl8 ho8);refine bodyPost_ret (J2l Tryz.results85 rfl hb8 Tryz.Z9i Tryz.Z7k rfl rfl) rfl ?_;exact J2n.no HF.out (Below.trans HX3.out (hl8 _ (by have:=HGR.out; omega)))
    . have hzE:y.toList.isEmpty=false:=by rw [List.isEmpty_eq_false_iff]; exact hz
      have hdz:¬ (dat y).isEmpty=true:=fun h=>hz (by rw [toList_nil_iff_emptyBytes]; exact J5n (List.isEmpty_iff.1 h))
      have HF:=HEN.out;rw [if_neg hdz] at HF;have HEF:=hid HF;clear hz hdz HF;go_wp2_with (refine Q0s rfl _ _ 47 rfl Tryz.Z7k rfl rfl HKR.out rfl rfl ?_ ?_; (focus (intro u hu; simp only [List.mem_cons,List.not_mem_nil,or_false] at hu; rcases hu with rfl; rfl)); intro w8 hb8 hl8 ho8);refine bodyPost_ret (J2l Tryz.results85 rfl hb8 Tryz.Z9i Tryz.Z7k rfl rfl) rfl ?_;exact J2n.no HEF.out (Below.trans HXR.out (hl8 _ (by have:=HGR.out; omega)))
end Go.Proofs
namespace Go.Proofs
open Go.RowKit Go.Tw Go.Flow
theorem Tryz.J7i (w:World):(sizeOf 157).run Tryz.prog w=.ok 1 w:=by kernel_rfl
theorem Tryz.J5g (w:World):(sizeOf 4).run Tryz.prog w=.ok 1 w:=by kernel_rfl
def Only (g:Nat) (w w':World):Prop:=(∀ n,n <= g -> Below n w w') /\ ∀ k,k ≠ g -> w'.heap[k]?=w.heap[k]?
theorem Only.trans {g:Nat} {a b c:World} (h:Only g a b) (k:Only g b c):Only g a c:=⟨fun n hn=>Below.trans (h.1 n hn) (k.1 n hn),fun x hx=>(k.2 x hx).trans (h.2 x hx)⟩
def J2y (w:World) (g s off m cap:Nat) (x:ByteArray) (b:Bool) (e:Ending) (w':World):Prop:=∃ d q,e=.returned (.int .i64 d) /\ Blk w' g 257 #[.slice (some ⟨s,off + 1,none⟩) (m - 1) (cap - 1),.bool (b || q)] /\ Only g w w' /\ ((q=false /\ J2t (dat x)=some d) ∨ (q=true /\ J2t (dat x)=none))
theorem J2y.no {w w2 w3:World} {g s off m cap:Nat} {x:ByteArray} {b:Bool} (h:J2t (dat x)=none) (hb:Blk w3 g 257 #[.slice (some ⟨s,off + 1,none⟩) (m - 1) (cap - 1),.bool true]) (ho:Only g w w2) (ho3:Only g w2 w3):J2y w g s off m cap x b (.returned (.int .i64 0)) w3 :=
 ⟨0,true,rfl,by rw [Bool.or_true]; exact hb,ho.trans ho3,.inr ⟨rfl,h⟩⟩
theorem J2y.yes {w w2:World} {g s off m cap:Nat} {x:ByteArray} {b:Bool} {d:Int} (h:J2t (dat x)=some d) (hb:Blk w2 g 257 #[.slice (some ⟨s,off + 1,none⟩) (m - 1) (cap - 1),.bool b]) (ho:Only g w w2):J2y w g s off m cap x b (.returned (.int .i64 d)) w2 :=
 ⟨d,false,rfl,by rw [Bool.or_false]; exact hb,ho,.inl ⟨rfl,h⟩⟩
theorem J7h (w:World) (g s off m cap:Nat) (x:ByteArray) (b:Bool) (hb:Blk w g 257 #[.slice (some ⟨s,off,none⟩) m cap,.bool b]) (hm:2 <= m) (hmc:m <= cap) (hcl:cap <= 100000) (hx:w.cell? ⟨s,off,none⟩=some (.string x)) :
    Calls Tryz.prog 183 #[.pointer (some ⟨g,0,none⟩)] w fun e w'=>J2y w g s off m cap x b e w':=by
 have c0:=hb.cell 0;simp only [Go.Tw.gA,Go.Tw.gB,Go.Tw.gC] at c0;have HB:=hid hb;have hn1:(0:Int) < m:=by omega
 have hn2:(1:Int) <= m:=by omega
 have hn3:(m:Int) <= cap:=by omega
 have hcap:¬ cap=1:=by omega
 clear hb hm hmc;go_enter Tryz.func183,Tryz.ntmps183;go_upto_region 3 with (refine X1z rfl _ _ 157 rfl Tryz.J7i (u:=.slice (some ⟨s,off + 1,none⟩) (m - 1) (cap - 1)) (g:=g) (k:=0) rfl rfl rfl rfl HB.out (by show 0 < 2; omega) ?_; intro w2 hb2 hl2 ho2; refine halted ?_)
 have HO:Hid (Only g w w2):=hid ⟨hl2,ho2⟩;have HB2:Hid (Blk w2 g 257 #[.slice (some ⟨s,off + 1,none⟩) (m - 1) (cap - 1),.bool b]):=hid hb2;clear hb2 hl2 ho2 c0 hx;unfold Q1i
 by_cases h1:x.size=1
 . have hs1:((x.size:Int) != 1)=false:=by simp [h1]
   have hp:0 < x.size:=by omega
   have hpI:(0:Int) < (x.size:Int):=by omega
   have HDG:=hid (J7m h1);obtain ⟨bt,hbt⟩:∃ z,(x[0]'hp).toNat=z:=⟨_,rfl⟩;rw [hbt] at HDG
   by_cases g0:bt < 48
   . have f0:((x[0]'hp).toNat:Int) < 48:=by omega
     have HNONE:Hid (J2t (dat x)=none):=hid (by rw [HDG.out,if_neg (by omega)])
     clear g0 hbt h1;go_wp2_with (refine X1z rfl _ _ 4 rfl Tryz.J5g (u:=.bool true) (g:=g) (k:=1) rfl rfl rfl rfl HB2.out (by show 1 < 2; omega) ?_; intro w3 hb3 hl3 ho3; refine halted ?_)
     have HF:=hid (J2y.no (b:=b) HNONE.out hb3 HO.out ⟨hl3,ho3⟩);clear hb3 hl3 ho3;unfold Q1i;go_wp2;go_ret;exact HF.out
   have f0:¬ ((x[0]'hp).toNat:Int) < 48:=by omega
   by_cases g1:57 < bt
   . have f1:(57:Int) < ((x[0]'hp).toNat:Int):=by omega
     have HNONE:Hid (J2t (dat x)=none):=hid (by rw [HDG.out,if_neg (by omega)])
     clear g0 g1 hbt h1;go_wp2_with (refine X1z rfl _ _ 4 rfl Tryz.J5g (u:=.bool true) (g:=g) (k:=1) rfl rfl rfl rfl HB2.out (by show 1 < 2; omega) ?_; intro w3 hb3 hl3 ho3; refine halted ?_)
     have HF:=hid (J2y.no (b:=b) HNONE.out hb3 HO.out ⟨hl3,ho3⟩);clear hb3 hl3 ho3;unfold Q1i;go_wp2;go_ret;exact HF.out
   have f1:¬ (57:Int) < ((x[0]'hp).toNat:Int):=by omega
   obtain ⟨d,hd⟩:∃ d:Int,(bt:Int) - 48=d:=⟨_,rfl⟩;have hu:IntKind.u8.wrap (((x[0]'hp).toNat:Int) - 48)=d:=by rw [IntKind.wrap_u8]; omega
   have hv:IntKind.i64.wrap d=d:=Q2v _ (by omega) (by omega)
   have HF:=hid (J2y.yes (b:=b) (by rw [HDG.out,if_pos (by omega),hd]) HB2.out HO.out)
   clear g0 g1 hbt h1 hd HDG;go_wp2;go_ret;exact HF.out
 . have hs1:((x.size:Int) != 1)=true:=by simp; omega
   have HNONE:=hid (J8n h1);clear h1;go_wp2_with (refine X1z rfl _ _ 4 rfl Tryz.J5g (u:=.bool true) (g:=g) (k:=1) rfl rfl rfl rfl HB2.out (by show 1 < 2; omega) ?_; intro w3 hb3 hl3 ho3; refine halted ?_)
   have HF:=hid (J2y.no (b:=b) HNONE.out hb3 HO.out ⟨hl3,ho3⟩);clear hb3 hl3 ho3;unfold Q1i;go_wp2;go_ret;exact HF.out
end Go.Proofs
