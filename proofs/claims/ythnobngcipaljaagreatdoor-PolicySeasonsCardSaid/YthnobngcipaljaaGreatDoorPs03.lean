/- Contract of the reference: Coded. Contracts of the reference: Coded, Always. -/
import Derived.Test.YthnobngcipaljaaGreatDoorPo34
import Derived.Test.YthnobngcipaljaaGreatDoorPo36
import Derived.Test.YthnobngcipaljaaGreatDoorPs02
import Derived.Test.YthnobngcipaljaaGreatDoorPs01
set_option maxRecDepth 1000000
set_option maxHeartbeats 64000000
set_option linter.unusedVariables false
set_option linter.unusedSimpArgs false
set_option linter.constructorNameAsVariable false
namespace Go.Proofs
open Go.RowKit Go.Tw Go.Flow
attribute [local go_sem] Oper.semAt_some
def cdN (n k:Nat):Nat:=n / 2 ^ k
def cdB (n k:Nat):Bool:=n.testBit k
theorem J7q (n:Nat):cdN n 0 = n:=by unfold cdN; simp
theorem J7i (s:Q0b) (n:Nat) {k:Nat} (hk:k < s.hist.length):(J4u s n).take (k + 1) = (J4u s n).take k ++ [⟨s.hist.getD k [],cdB n k⟩]:=by
 have hl:k < (J4u s n).length:=by unfold J4u; simpa using hk
 rw [List.take_succ_eq_append_getElem hl]
 congr 2
 unfold J4u;simp [cdB]
theorem J6z (s:Q0b) (n:Nat):(J4u s n).length = s.hist.length:=by unfold J4u; simp
theorem J7c (w:World) (v:Value) (s:Q0b) (n:Nat) (hv:Q0h w v s) (he:s.err = 0) (hn:n < 2 ^ 62) :
    Calls Tryz.prog 36 #[v,.int .i64 (n:Int)] w fun e w'=>∃ x,e = .returned x /\ J7x 115 w w' x (J4u s n) /\ Ext w w':=by
 obtain ⟨i0,hi,hz0,hz1,hz2⟩:=info_parts Tryz.J2k;have hS:=Q0y.of he;have hhl:=Z7m hS;have hhp:=J7d hS;have HV:=Lib.hid hv;have HERR:=Lib.hid he;have h8:Hid (∀ h ∈ s.hist,h.length <= 6):=Z3t hS;obtain ⟨a,b,rfl,-⟩:=hv;have ha:∃ A n c,a = .slice A n c:=by obtain ⟨_,_,e,h2⟩:=HV.out; cases e; obtain ⟨A,c,e,-⟩:=h2.ships.opened; exact ⟨A,_,c,e⟩
 have hb:∃ A n c,b = .slice A n c:=by obtain ⟨_,_,e,h2⟩:=HV.out; cases e; obtain ⟨A,c,e,-⟩:=h2.members.opened; exact ⟨A,_,c,e⟩
 obtain ⟨A1,n1,ca1,rfl⟩:=ha;obtain ⟨A2,n2,ca2,rfl⟩:=hb;have HP:=Lib.hid (J6z s n);have HTK:Hid (∀ k,k < s.hist.length -> (J4u s n).take (k + 1) = (J4u s n).take k ++ [⟨s.hist.getD k [],cdB n k⟩]):=fun k hk=>J7i s n hk;clear hS he;go_enter Tryz.func36,Tryz.ntmps36;go_wp2_with fail;obtain ⟨W,hWW,k0,k1,HXW,eW⟩:=Q4e w 25 #[.int .i64 s.limit,.slice A1 n1 ca1,.slice A2 n2 ca2] 47 #[.slice none 0 0];rw [hWW];clear hWW;have HV1:=Lib.hid (HV.out.ext HXW.out);obtain ⟨gs,hgs⟩:∃ x,w.heap.size = x:=⟨_,rfl⟩;have HGS:=Lib.hid hgs;rw [hgs] at k0 k1 eW ⊢;have K1:=Lib.hid k1;have c0:=k0.cell 0;have c1:=k0.cell 1;have c2:=k0.cell 2;simp only [Go.Tw.gA,Go.Tw.gB,Go.Tw.gC] at c0 c1 c2;clear k0 k1 hgs;go_wp2_with (go_at_call 44; refine (J5b _ _ s HV1.out HERR.out).mono ?_; rintro e wh ⟨xh,rfl,hll,hxh⟩; refine halted ?_);obtain ⟨vs,hoh,hrl⟩:=hll;have hlu:=hrl.1
 rcases hoh.cells2 with ⟨rfl,hve⟩ | ⟨g0,cc,rfl,hcc,hbg,hgl,hcl⟩
 . exfalso
   rw [hve] at hlu;simp at hlu;omega
 obtain ⟨H,hH⟩:∃ x,s.hist.length = x:=⟨_,rfl⟩;rw [hH] at hlu hhl HTK HP;rw [hlu] at hcc;have HLU:=Lib.hid hlu;have HHH:=Lib.hid hH;have HCL:=Lib.hid hcl;have HRL:=Lib.hid hrl;have hxp:=Ext.box wh (.cells #[.slice none 0 0] 47);have hbp:=Blk.made wh 47 #[.slice none 0 0];have hes:(wh.alloc (.cells #[.slice none 0 0] 47)).heap.size = wh.heap.size + 1:=by simp
 rw [hlu];unfold Q1j;go_wp2_with fail;obtain ⟨gp,hgp⟩:∃ x,wh.heap.size = x:=⟨_,rfl⟩;obtain ⟨wp,hwp⟩:∃ X,wh.alloc (.cells #[.slice none 0 0] 47) = X:=⟨_,rfl⟩;rw [hwp,hgp] at hbp hes;rw [hwp] at hxp;rw [hwp,hgp];have HGP:=Lib.hid hgp;have HXH:=Lib.hid hxh;have HXP:=Lib.hid hxp;have hgW:gs + 1 < gp:=by have:=hxh.size; omega
 clear hwp hgp hoh hrl hcl hlu hH hhp hxh c0 c1 c2
 go_loopw [1,7] (fun c i wr=>∃ (k:Nat) (vo:Value) (qs:List (Value × Rul)),k <= H /\ i = .int .i64 k /\ c = .int .i64 (cdN n k:Nat) /\ Blk wr gp 47 #[vo] /\ Q1d wr (gp + 1) 115 2 Z3h vo qs /\ qs.map (·.2) = (J4u s n).take k /\ RuR wr qs /\ Ext wh wr /\ gp + 1 <= wr.heap.size) (fun _ i _=>H - (intOf i).toNat)
 case atStart=>exact ⟨0,_,[],Nat.zero_le _,rfl,by rw [J7q],hbp,Q1d.nil _ _ _ _ _,rfl,(fun q hq=>by simp at hq),HXP.out,by omega⟩
 case round =>
  obtain ⟨k,vo,qs,hk,rfl,rfl,hbo,hown,hqs,hru,hxr,hsz⟩:=hrel;have hqk:qs.length = k:=by rw [<- List.length_map (f:=(·.2)),hqs,List.length_take,HP.out]; omega
  have HQS:=Lib.hid hqs;have HRU:=Lib.hid hru;have HBO:=Lib.hid hbo;have HOW:=Lib.hid hown;have HXR:=Lib.hid hxr
  by_cases hlt:k < H
  . have hkI:(k:Int) < H:=by omega
    have hek:=hxr.cell (HCL.out k (by rw [HLU.out]; exact hlt))
    rw [Nat.zero_add] at hek;have hok:=HRL.out.2 k (by rw [HHH.out]; exact hlt)
    rw [Q0v _ (show k < vs.length by rw [HLU.out]; exact hlt)] at hok
    obtain ⟨hv1,hhv⟩:∃ x,vs[k]'(by rw [HLU.out]; exact hlt) = x:=⟨_,rfl⟩
    have hek:wr.cell? ⟨g0,k,none⟩ = some (vs[k]'(by rw [HLU.out]; exact hlt)):=hek
    rw [hhv] at hek hok;obtain ⟨X,capx,rfl,hcx⟩:=hok.shape;have htk:=HTK.out k hlt;have hl6:(s.hist.getD k []).length <= 6:=by rw [Q0v _ (by rw [HHH.out]; exact hlt)]; exact h8.out _ (List.getElem_mem _)
    obtain ⟨l,hl⟩:∃ x,s.hist.getD k [] = x:=⟨_,rfl⟩;rw [hl] at hek hok htk hl6;have HEK:=Lib.hid hek;have HTK1:=Lib.hid htk;have HOK:=Lib.hid (hok.below hxr);have hcb:((cdN n k:Nat):Int).tmod 2 = 1 ↔ cdB n k = true:=by
     have:=Z8h n k;unfold cdN cdB;rw [<- this]; simp
    have hcb2:(((cdN n k:Nat):Int).tmod 2 == 1) = cdB n k:=Z8h n k;have hch:((cdN n k:Nat):Int).tdiv 2 = ((cdN n (k + 1):Nat):Int):=Z4b n k;have hnk:cdN n k <= n:=Nat.div_le_self _ _;have hnk1:cdN n (k + 1) <= n:=Nat.div_le_self _ _;obtain ⟨c,hc⟩:∃ x,cdN n k = x:=⟨_,rfl⟩;obtain ⟨c2,hc2⟩:∃ x,cdN n (k + 1) = x:=⟨_,rfl⟩;obtain ⟨q,hq⟩:∃ x,cdB n k = x:=⟨_,rfl⟩;rw [hc] at hcb2 hch hnk ⊢;rw [hc2] at hch hnk1;rw [hq] at hcb2 HTK1;have hcb3:((c:Int) % 2 == 1) = q:=by rw [<- hcb2,Int.tmod_eq_emod_of_nonneg (by omega)]
    have HC2:=Lib.hid hc2;have HCB:=Lib.hid hcb2;have HCB3:=Lib.hid hcb3;have HWC:Hid (wrap64 (c2:Int) = c2):=Lib.hid (by unfold wrap64; omega)
    obtain ⟨wq,rfl⟩:∃ Z,Z = wr:=⟨_,rfl⟩;have hdr:=(Ext.refl wq).drew;clear hbo hown hqs hru hxr hek hok htk hl hhv hc hq hcb hc2 hcb2 hcb3;go_wp2_with fail;refine Flow.Q5l [.p,.w,.p,.p,.p,.w,.p,.p,.p,.p,.w,.last,.last,.last] [0,1,2,3,4,5,6,7,8,9,10,11,12,13] [[],[0],[],[],[2,3],[2,3,4],[],[6],[6,7],[2,3,4,5,6,7,8],[2,3,4,5,6,7,8,9],[0,1,2,3,4,5,6,7,8,9,10],[0,1,2,3,4,5,6,7,8,9,10,11],[0,1,2,3,4,5,6,7,8,9,10,11,12]] [11,12,13]
     [.c 0 (.pointer (some ⟨gp,0,none⟩)),.c 1 (vo),.c 2 (.slice (some ⟨g0,0,none⟩) H cc),.c 3 (.int .i64 (k:Int)),.c 4 (.pointer (some ⟨g0,k,none⟩)),.c 5 (.slice X l.length capx),.c 6 (.int .i64 (c:Int)),.c 7 (.int .i64 ((c:Int).tmod 2)),.c 8 (.bool q),⟨fun v wz=>(fun v w'=>v 9 = .agg #[.slice X l.length capx,.bool q]) v wz,by intro _ _ _ _ h; exact h⟩,⟨fun v wz=>(fun v w'=>∃ g,v 10 = .slice (some ⟨g,0,none⟩) 1 1 /\ Blk w' g 115 (Z3h (.slice X l.length capx,⟨l,q⟩)).toArray) v wz,by rintro v a b hx ⟨g,h1,h2⟩; exact ⟨g,h1,h2.ext hx⟩⟩,.none,.none,.none]
     [fun v w1 w'=>Q1d w' (gp + 1) 115 2 Z3h (v 11) (qs ++ [(.slice X l.length capx,⟨l,q⟩)]) /\ w1.grownBy w' vo.ownBlock,fun v w1 w'=>v 12 = .pointer (some ⟨gp,0,none⟩) /\ Q1d w' (gp + 1) 115 2 Z3h (v 11) (qs ++ [(.slice X l.length capx,⟨l,q⟩)]) /\ w1.grownBy w' vo.ownBlock,fun v w1 w'=>∃ x wm,Q1d wm (gp + 1) 115 2 Z3h x (qs ++ [(.slice X l.length capx,⟨l,q⟩)]) /\ w1.grownBy wm vo.ownBlock /\ w' = wm.setCell ⟨gp,0,none⟩ x] (by kernel_rfl) rfl (by kernel_rfl) ⟨?g0,?g1,?g2,?g3,?g4,?g5,?g6,?g7,?g8,?g9,?g10,?g11,?g12,?g13,trivial⟩ ?post
    case g0 | g2 | g3 | g6=>
     intro v w1 hx;intro bb hbb;subst hbb;refine ⟨_,fun w=>?_,rfl⟩;go_simp
    case g1 | g5=>
     intro v w1 hx;(repeat intro (zq:v _ = _));intro bb hbb;subst hbb;have n0:w1.cell? ⟨gp,0,none⟩ = some vo:=(HBO.out.ext (hdr.trans hx)).cell 0;have n1:w1.cell? ⟨g0,k,none⟩ = some (.slice X l.length capx):=(hdr.trans hx).cell HEK.out;intro K hK;go_simp;exact hK _ _ (Ext.refl _) rfl
    case g4 | g7=>
     intro v w1 hx;(repeat intro (zq:v _ = _));intro bb hbb;subst hbb;refine ⟨_,fun w=>?_,rfl⟩;go_simp
    case g8=>
     intro v w1 hx;(repeat intro (zq:v _ = _));intro bb hbb;subst hbb;refine ⟨.bool q,fun w=>?_,rfl⟩;go_simp
     (first | exact HCB.out | (rw [HCB.out]) | (rw [HCB3.out]))
    case g9=>
     intro v w1 hx;(repeat intro (zq:v _ = _));intro bb hbb;have o1:bb.eval (.tmp 21) = .slice X l.length capx:=by rw [hbb]; dsimp only; (try simp (discharger:=decide) only [eval_put_ne]); rw [Q0a (by simp only [size_put]; exact (by decide:21 < 32))]; assumption
     have o2:bb.eval (.tmp 24) = .bool q:=by rw [hbb]; dsimp only; (try simp (discharger:=decide) only [eval_put_ne]); rw [Q0a (by simp only [size_put]; exact (by decide:24 < 32))]; assumption
     exact ⟨_,fun w=>Z0v _ (.tmp 21) (.tmp 24) rfl o1 o2 (fun w=>J6y w _ _ _ _),rfl⟩
    case g10=>
     intro v w1 hx (q2:v 2 = _) (q3:v 3 = _) (q4:v 4 = _) (q5:v 5 = _) (q6:v 6 = _) (q7:v 7 = _) (q8:v 8 = _) (q9:(fun v w'=>v 9 = .agg #[.slice X l.length capx,.bool q]) v w1);intro bb hbb;intro K hK;have o1:bb.eval (.tmp 25) = .agg #[.slice X l.length capx,.bool q]:=by rw [hbb]; dsimp only; (try simp (discharger:=decide) only [eval_put_ne]); rw [Q0a (by simp only [size_put]; exact (by decide:25 < 32))]; exact q9
     exact Q4u 45 115 (.tmp 25) rfl o1 (J7m w1 _ _ _ _) (hK _ _ (Ext.box _ _) ⟨_,rfl,Blk.made _ _ _⟩)
    case g11=>
     intro v w1 hx (q0:v 0 = _) (q1:v 1 = _) (q2:v 2 = _) (q3:v 3 = _) (q4:v 4 = _) (q5:v 5 = _) (q6:v 6 = _) (q7:v 7 = _) (q8:v 8 = _) _ (q10:(fun v w'=>∃ g,v 10 = .slice (some ⟨g,0,none⟩) 1 1 /\ Blk w' g 115 (Z3h (.slice X l.length capx,⟨l,q⟩)).toArray) v w1);intro wl hT;obtain rfl:wl = w1:=hT;intro bb hbb;intro K hK;obtain ⟨g,hg10,hb10⟩:=q10;have o1:bb.eval (.tmp 17) = vo:=by rw [hbb]; dsimp only; (try simp (discharger:=decide) only [eval_put_ne]); rw [Q0a (by simp only [size_put]; exact (by decide:17 < 32))]; exact q1
     have o2:bb.eval (.tmp 26) = .slice (some ⟨g,0,none⟩) 1 1:=by rw [hbb]; dsimp only; (try simp (discharger:=decide) only [eval_put_ne]); rw [Q0a (by simp only [size_put]; exact (by decide:26 < 32))]; exact hg10
     have hxx:=hdr.trans hx;exact Q2x _ _ 45 rfl (gp + 1) 115 i0 (.agg #[.slice none 0 0,.bool false]) 2 32 Tryz.underlying45 hi hz0 hz1 hz2 rfl (by decide) Z3h X6a vo _ (.slice X l.length capx,⟨l,q⟩) o1 (HOW.out.below hxx) ⟨g,0,none⟩ 1 o2 (Q6g hb10) (J7v (q:=(.slice X l.length capx,⟨l,q⟩)) HOK.out) (by omega) (by decide) (by have:=hxx.size; omega) (fun v' w' h1 h2=>hK _ _ ⟨h1,h2⟩)
    case g12=>
     intro v w1 hx (q0:v 0 = _) (q1:v 1 = _) (q2:v 2 = _) (q3:v 3 = _) (q4:v 4 = _) (q5:v 5 = _) (q6:v 6 = _) (q7:v 7 = _) (q8:v 8 = _) _ _;intro wl hT;replace hT:(fun v w1 w'=>Q1d w' (gp + 1) 115 2 Z3h (v 11) (qs ++ [(.slice X l.length capx,⟨l,q⟩)]) /\ w1.grownBy w' vo.ownBlock) v w1 wl:=hT;intro bb hbb;subst hbb;intro K hK;go_simp;exact hK _ _ ⟨rfl,hT⟩
    case g13=>
     intro v w1 hx (q0:v 0 = _) (q1:v 1 = _) (q2:v 2 = _) (q3:v 3 = _) (q4:v 4 = _) (q5:v 5 = _) (q6:v 6 = _) (q7:v 7 = _) (q8:v 8 = _) _ _;intro wl hT;replace hT:(fun v w1 w'=>v 12 = .pointer (some ⟨gp,0,none⟩) /\ Q1d w' (gp + 1) 115 2 Z3h (v 11) (qs ++ [(.slice X l.length capx,⟨l,q⟩)]) /\ w1.grownBy w' vo.ownBlock) v w1 wl:=hT;intro bb hbb;intro K hK;obtain ⟨hT0,hT1,hT2⟩:=hT;have hxx:=hdr.trans hx;obtain ⟨bp,cp,hsh,_⟩:=hT1.shape;have o1:bb.eval (.tmp 28) = .pointer (some ⟨gp,0,none⟩):=by rw [hbb]; dsimp only; (try simp (discharger:=decide) only [eval_put_ne]); rw [Q0a (by simp only [size_put]; exact (by decide:28 < 32))]; exact hT0
     have o2:bb.eval (.tmp 27) = v 11:=by rw [hbb]; dsimp only; (try simp (discharger:=decide) only [eval_put_ne]); rw [Q0a (by simp only [size_put]; exact (by decide:27 < 32))]
     have hbl:=Go.Tw.Q9q (HBO.out.ext hxx) (HOW.out.below hxx) (by omega) hT2
     exact Q5b _ _ rfl Tryz.J7w (g:=gp) (k:=0) o1 o2 (by rw [hsh]; rfl) (by rw [hsh]; rfl) hbl (by show 0 < 1; omega) (fun v'=>hK _ _ ⟨v 11,wl,hT1,hT2,rfl⟩)
    case post =>
     intro v w1 hx;(iterate 9 intro (zq:v _ = _));intro (q9:(fun v w'=>v 9 = .agg #[.slice X l.length capx,.bool q]) v w1) (q10:(fun v w'=>∃ g,v 10 = .slice (some ⟨g,0,none⟩) 1 1 /\ Blk w' g 115 (Z3h (.slice X l.length capx,⟨l,q⟩)).toArray) v w1);intro w2 hE;replace hE:(fun v w1 w'=>∃ x wm,Q1d wm (gp + 1) 115 2 Z3h x (qs ++ [(.slice X l.length capx,⟨l,q⟩)]) /\ w1.grownBy wm vo.ownBlock /\ w' = wm.setCell ⟨gp,0,none⟩ x) v w1 w2:=hE;simp only [Flow.acts,Act.put];go_simp;obtain ⟨x,wm,hom,hgm,rfl⟩:=hE;have hxx:=hdr.trans hx;have howx:=HOW.out.below hxx;have hbm:=Go.Tw.Q9q (HBO.out.ext hxx) howx (by omega) hgm
     have HO6:=Lib.hid (hom.Y2t (p:=⟨gp,0,none⟩) (Nat.lt_succ_self gp) x);have HB6:=Lib.hid (hbm.set 0 x);have hxm:Ext wh wm:=Below.grown (HXR.out.trans hxx) hgm (by have:=(HXR.out.trans hxx).size; omega) (fun j hj=>by have:=(howx.lt j hj).1; have:=HGP.out; omega)
     have HX6:=Lib.hid (hxm.Z0e (p:=⟨gp,0,none⟩) (by show wh.heap.size <= gp; rw [HGP.out]; exact Nat.le_refl _) x)
     have HR6:=Lib.hid ((((HRU.out.ext hxx).snoc (q:=(.slice X l.length capx,⟨l,q⟩)) (HOK.out.below hxx)).grown howx (by decide) hgm).set (k:=0) (u:=x) hbm (by decide))
     have HS6:Hid (gp + 1 <= (wm.setCell ⟨gp,0,none⟩ x).heap.size):=Lib.hid (by have:=hbm.lt; simp; omega)
     obtain ⟨w6,hw6⟩:∃ y,wm.setCell ⟨gp,0,none⟩ x = y:=⟨_,rfl⟩;rw [hw6] at HO6 HB6 HX6 HR6 HS6 ⊢;clear hnk hnk1 hn hw6 hom hgm hxx hx hbm hxm howx hdr q9 q10;(repeat clear zq);go_wp2;go_roundw
     case rel=>exact ⟨k + 1,x,qs ++ [(.slice X l.length capx,⟨l,q⟩)],by omega,by go_num,by first | rw [HC2.out,HWC.out] | rw [HC2.out],HB6.out,HO6.out,by rw [List.map_append,HQS.out,HTK1.out]; rfl,HR6.out,HX6.out,HS6.out⟩
     case measure=>simp [intOf]; omega
  . have hkI:¬ (k:Int) < H:=by omega
    have hkn:k = H:=by omega
    subst hkn;have hp:(J4u s n).take k = J4u s n:=by rw [List.take_of_length_le (by rw [HP.out]; omega)]
    obtain ⟨Av,cv',rfl,-⟩:=hown.shape;rw [hqk] at hown hbo;have HOWN:=Lib.hid hown;have HQK:=Lib.hid hqk;have c0:wr.cell? ⟨gp,0,none⟩ = _:=hbo.cell 0;simp only [Go.Tw.gA,Go.Tw.gB] at c0;have hk1:=(K1.out.ext HXH.out).ext hxr;have c1:wr.cell? ⟨gs + 1,0,none⟩ = some (.slice none 0 0):=hk1.cell 0;have f1:=hk1.frozen 0;have HK1:=Lib.hid hk1;have hxa:Ext w wr:=(HXW.out.trans HXH.out).trans hxr;have HXA:=Lib.hid hxa;rw [hp] at hqs;have HQA:=Lib.hid hqs;clear hbo hown hqs hru hxr hk1 hxa hp;go_wp2;refine bodyPost_ret (Q2d Tryz.results36 rfl (HK1.out.set 0 _) Tryz.J2n Tryz.J0b) rfl ?_;refine ⟨_,rfl,⟨_,qs,rfl,?_,HQA.out,HRU.out.set HK1.out (by decide)⟩,HXA.out.Z0e (p:=⟨gs + 1,0,none⟩) (by show w.heap.size <= gs + 1; have:=HGS.out; omega) _⟩
    have h:=J5f (HOWN.out.Y2t (p:=⟨gs + 1,0,none⟩) (by show gs + 1 < gp + 1; omega) (.slice Av k cv')) (show w.heap.size <= gp + 1 by have:=HGS.out; omega)
    have he:=HQK.out;subst he;exact h
end Go.Proofs
namespace Go.Proofs
open Go.RowKit Go.Tw Go.Flow
attribute [local go_sem] Oper.semAt_some
def J7t (s:Q0b) (c:Bool) (k:Nat) (qs:List (Value × Rul)):Prop:=qs.map (fun q=>q.2.classes) = s.hist /\ ∀ j (h:j < qs.length),j < k -> qs[j].2.close = c
theorem J7t.start {s:Q0b} {c:Bool} {qs:List (Value × Rul)} (h:qs.map (·.2) = J4u s 0):J7t s c 0 qs:=by
 refine ⟨?_,fun j _ h=>absurd h (Nat.not_lt_zero _)⟩;have h1:qs.map (fun q=>q.2.classes) = (qs.map (·.2)).map Rul.classes:=by rw [List.map_map]; rfl
 rw [h1,h];unfold J4u;rw [List.map_map]
 apply List.ext_getElem
 . simp
 . intro i h1 h2
   simp [h2]
theorem J7t.step {s:Q0b} {c:Bool} {k:Nat} {qs:List (Value × Rul)} (h:J7t s c k qs) (hk:k < qs.length):J7t s c (k + 1) (qs.set k (qs[k].1,⟨qs[k].2.classes,c⟩)):=by
 obtain ⟨h1,h2⟩:=h;refine ⟨?_,fun j hj hjk=>?_⟩
 . rw [<- h1,List.map_set]
   apply List.ext_getElem
   . simp
   . intro i g1 g2
     rw [List.getElem_set]
     split
     . rename_i e; subst e; simp
     . rfl
 . rw [List.getElem_set]
   split
   . rfl
   . exact h2 j (by simpa using hj) (by omega)
theorem J7t.all {s:Q0b} {c:Bool} {qs:List (Value × Rul)} (h:J7t s c qs.length qs):qs.map (·.2) = always s c:=by
 obtain ⟨h1,h2⟩:=h;unfold always;rw [<- h1,List.map_map];refine List.map_congr_left fun q hq=>?_;obtain ⟨j,hj,rfl⟩:=List.getElem_of_mem hq;have:=h2 j hj hj;show qs[j].2 = ⟨qs[j].2.classes,c⟩;rw [<- this]
theorem RuR.put {w:World} {qs:List (Value × Rul)} {k:Nat} {c:Bool} (h:RuR w qs) (hk:k < qs.length):RuR w (qs.set k (qs[k].1,⟨qs[k].2.classes,c⟩)):=by
 intro q hq
 rcases List.mem_or_eq_of_mem_set hq with hq | rfl
 . exact h q hq
 . exact (show Q0t w 0 3 (.int .i64) qs[k].1 qs[k].2.classes from h _ (List.getElem_mem hk))
theorem J6s (w:World) (v:Value) (s:Q0b) (c:Bool) (hv:Q0h w v s) (he:s.err = 0) :
    Calls Tryz.prog 45 #[v,.bool c] w fun e w'=>∃ x,e = .returned x /\ J7x 115 w w' x (always s c) /\ Ext w w':=by
 have hS:=Q0y.of he;have hhl:=Z7m hS;have hhp:=J7d hS;have HV:=Lib.hid hv;have HERR:=Lib.hid he;obtain ⟨a,b,rfl,-⟩:=hv;have ha:∃ A n c,a = .slice A n c:=by obtain ⟨_,_,e,h2⟩:=HV.out; cases e; obtain ⟨A,c,e,-⟩:=h2.ships.opened; exact ⟨A,_,c,e⟩
 have hb:∃ A n c,b = .slice A n c:=by obtain ⟨_,_,e,h2⟩:=HV.out; cases e; obtain ⟨A,c,e,-⟩:=h2.members.opened; exact ⟨A,_,c,e⟩
 obtain ⟨A1,n1,ca1,rfl⟩:=ha;obtain ⟨A2,n2,ca2,rfl⟩:=hb;have HP:=Lib.hid (J6z s 0);clear hS he;go_enter Tryz.func45,Tryz.ntmps45;go_wp2_with fail;obtain ⟨W,hWW,k0,k1,HXW,eW⟩:=Q4e w 25 #[.int .i64 s.limit,.slice A1 n1 ca1,.slice A2 n2 ca2] 47 #[.slice none 0 0];rw [hWW];clear hWW;have HV1:=Lib.hid (HV.out.ext HXW.out);obtain ⟨gs,hgs⟩:∃ x,w.heap.size = x:=⟨_,rfl⟩;have HGS:=Lib.hid hgs;rw [hgs] at k0 k1 eW ⊢;have K1:=Lib.hid k1;have c0:=k0.cell 0;have c1:=k0.cell 1;have c2:=k0.cell 2;simp only [Go.Tw.gA,Go.Tw.gB,Go.Tw.gC] at c0 c1 c2;clear k0 k1 hgs;go_wp2_with (go_at_call 36; refine (J7c _ _ s 0 HV1.out HERR.out (by decide)).mono ?_; rintro e wc ⟨xc,rfl,⟨vo,qs,rfl,hown,hqs,hru⟩,hxc⟩; refine halted ?_)
 have hql:qs.length = s.hist.length:=by rw [<- List.length_map (f:=(·.2)),hqs,HP.out]
 obtain ⟨g,cap,cur,rfl,hbg,hblk,hc,hm,hsz,htk⟩:=J6x hown (by omega)
 have hal:=J7t.start (c:=c) hqs;obtain ⟨H,hH⟩:∃ x,qs.length = x:=⟨_,rfl⟩;have HQL:Hid (H = s.hist.length):=Lib.hid (by omega)
 have HHQ:=Lib.hid hH;rw [hH] at hown hc ⊢;have hH8:H <= 48:=by have:=HQL.out; omega
 clear hql hH;have hxp:=Ext.box wc (.cells #[.slice (some ⟨g,0,none⟩) H cap] 47);have hbp:=Blk.made wc 47 #[.slice (some ⟨g,0,none⟩) H cap];have hes:(wc.alloc (.cells #[.slice (some ⟨g,0,none⟩) H cap] 47)).heap.size = wc.heap.size + 1:=by simp
 have hgl:=hblk.lt;unfold Q1j;go_wp2_with fail;obtain ⟨gp,hgp⟩:∃ x,wc.heap.size = x:=⟨_,rfl⟩;obtain ⟨wp,hwp⟩:∃ X,wc.alloc (.cells #[.slice (some ⟨g,0,none⟩) H cap] 47) = X:=⟨_,rfl⟩;rw [hwp,hgp] at hbp hes;rw [hwp] at hxp;rw [hwp,hgp];have hown1:=hown.below hxp;have hru1:=hru.ext hxp;have hgs1:gs + 1 < W.heap.size:=by omega
 have hgpW:W.heap.size <= gp:=by have:=hxc.size; omega
 have hxW:Ext W wp:=hxc.trans hxp;have HXP:=Lib.hid hxW;have HBG:=Lib.hid hbg;have hggp:g ≠ gp:=by omega
 clear hwp hgp hown hqs hru hxp c0 c1 c2 hblk hc hm hsz htk hxc hxW hhl hhp
 go_loopw [6] (fun i wr=>∃ (k:Nat) (qs':List (Value × Rul)),k <= H /\ i = .int .i64 k /\ qs'.length = H /\ Blk wr gp 47 #[.slice (some ⟨g,0,none⟩) H cap] /\ Q1d wr W.heap.size 115 2 Z3h (.slice (some ⟨g,0,none⟩) H cap) qs' /\ J7t s c k qs' /\ RuR wr qs' /\ Ext W wr) (fun i _=>H - (intOf i).toNat)
 case atStart=>exact ⟨0,qs,Nat.zero_le _,rfl,HHQ.out,hbp,hown1,hal,hru1,HXP.out⟩
 case round =>
  obtain ⟨k,qs',hk,rfl,hl,hbo,hown,hac,hru,hxr⟩:=hrel;have HAC:=Lib.hid hac;have HRU:=Lib.hid hru;have HBO:=Lib.hid hbo;have HXR:=Lib.hid hxr;have c0:wr.cell? ⟨gp,0,none⟩ = some (.slice (some ⟨g,0,none⟩) H cap):=hbo.cell 0
  by_cases hlt:k < H
  . have hkI:(k:Int) < H:=by omega
    obtain ⟨g',cap',cur,hve,hbg',hblk,hc,hm,hsz,htk⟩:=J6x hown (by omega)
    simp only [Value.slice.injEq,Option.some.injEq,Addr.mk.injEq] at hve;obtain ⟨⟨rfl,-⟩,-,rfl⟩:=hve;have hkq:k < qs'.length:=by omega
    have hcell:=J7p X6a hblk htk (i:=k) (j:=1) hkq (by decide)
    obtain ⟨ob,hob⟩:∃ x,qs'[k].2.close = x:=⟨_,rfl⟩;have hcell:wr.cell? ⟨g,k * 2 + 1,none⟩ = some (.bool ob):=by rw [hcell,<- hob]; rfl
    have hfr:=hblk.frozen (k * 2 + 1);have hput:=J7r (y:=(qs'[k].1,⟨qs'[k].2.classes,c⟩)) X6a hbg' hc hm hsz htk hkq (by decide:1 < 2) rfl (hblk.set (k * 2 + 1) (.bool c))
    rw [hl] at hput;have HPUT:=Lib.hid hput;have HR6:=Lib.hid ((hru.put (c:=c) hkq).set (k:=k * 2 + 1) (u:=.bool c) hblk (by decide))
    have HB6:=Lib.hid (J6n (g:=g) hbo hggp.symm (Q2q wr ⟨g,k * 2 + 1,none⟩ (.bool c)));have HX6:=Lib.hid (hxr.Z0e (p:=⟨g,k * 2 + 1,none⟩) (by show W.heap.size <= g; exact HBG.out) (.bool c))
    have HA6:=Lib.hid (hac.step hkq);have HL6:Hid ((qs'.set k (qs'[k].1,⟨qs'[k].2.classes,c⟩)).length = H):=Lib.hid (by rw [List.length_set]; exact hl)
    clear hblk hc hm hsz htk hput hown hbo hru hac hxr;go_wp2;go_roundw
    case rel=>exact ⟨k + 1,_,by omega,by go_num,HL6.out,HB6.out,HPUT.out,HA6.out,HR6.out,HX6.out⟩
    case measure=>simp [intOf]; omega
  . have hkI:¬ (k:Int) < H:=by omega
    have hkn:k = H:=by omega
    subst hkn;have hk1:=K1.out.ext hxr;have c1:wr.cell? ⟨gs + 1,0,none⟩ = some (.slice none 0 0):=hk1.cell 0;have f1:=hk1.frozen 0;have HK1:=Lib.hid hk1;have hxa:Ext w wr:=HXW.out.trans hxr;have HXA:=Lib.hid hxa;rw [<- hl] at hac;have hqa:=hac.all;have HQA:=Lib.hid hqa;have HOWN:=Lib.hid hown;clear hbo hown hac hru hxr hk1 hxa hqa;go_wp2;refine bodyPost_ret (Q2d Tryz.results45 rfl (HK1.out.set 0 _) Tryz.J2n Tryz.J0b) rfl ?_;exact ⟨_,rfl,⟨_,qs',rfl,J5f (HOWN.out.Y2t (p:=⟨gs + 1,0,none⟩) hgs1 _) (by have:=HXW.out.size; omega),HQA.out,HRU.out.set HK1.out (by decide)⟩,HXA.out.Z0e (p:=⟨gs + 1,0,none⟩) (by show w.heap.size <= gs + 1; have:=HGS.out; omega) _⟩
end Go.Proofs
