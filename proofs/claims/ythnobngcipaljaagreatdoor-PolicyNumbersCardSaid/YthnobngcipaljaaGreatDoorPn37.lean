/- Contract of the law's own function: own. -/
import Derived.Test.YthnobngcipaljaaGreatDoorPn36
set_option maxRecDepth 1000000
set_option maxHeartbeats 64000000
set_option linter.unusedVariables false
set_option linter.unusedSimpArgs false
set_option linter.constructorNameAsVariable false
open Go.Lib (hid)
namespace Go.Proofs
open Go.RowKit Go.Tw Go.Flow
attribute [local go_sem] Oper.semAt_some
theorem Y0h (w:World) (v:Value) (p:List Rul) (hv:Q0j w v p) (hl:p.length <= 4096) (h8:∀ k,k < p.length -> (Q0n p k).length <= 4096) :
    Calls Tryz.prog 34 #[v] w fun e w'=>∃ u,e=.returned u /\ Q0j w' u p /\ Ext w w':=by
 obtain ⟨i0,hi,hz0,hz1,hz2⟩:=info_parts Tryz.J5m;obtain ⟨a,rfl,h2⟩:=hv;obtain ⟨A,cap,rfl,-,hcap,hc⟩:=h2.opened;have HC:=hid hc;obtain ⟨n,hn⟩:∃ n,p.length=n:=⟨_,rfl⟩;have HN:=hid hn;rw [hn] at hl HC h8 ⊢;have H8:=hid h8;clear h2 hc hn hcap h8;go_enter Tryz.func34,Tryz.ntmps34;go_wp2_with fail;obtain ⟨W,hWW,k0,k1,k2,HXW,eW⟩:=X1i w 47 #[.slice A n cap] 38 #[.slice none 0 0] 38 #[.slice none 0 0];rw [hWW];clear hWW;obtain ⟨gs,hgs⟩:∃ x,w.heap.size=x:=⟨_,rfl⟩;have HGS:=hid hgs;rw [hgs] at k1 k2 eW ⊢;have K1:=hid k1;clear k0 k1 hgs;obtain ⟨gp,hgp⟩:∃ x,gs + 1 + 1=x:=⟨_,rfl⟩;have HGP:=hid hgp;rw [hgp] at k2 eW ⊢;clear hgp
 go_loopw [9] (fun i wr=>∃ (k:Nat) (vo:Value) (qs:List (Value × Rul)),k <= n /\ i=.int .i64 k /\ Blk wr gp 38 #[vo] /\ Q1g wr (gp + 1) 167 2 X3u vo qs /\ qs.map (·.2)=p.take k /\ RuR wr qs /\ Below gp W wr /\ gp + 1 <= wr.heap.size) (fun i _=>n - (intOf i).toNat)
 case atStart=>exact ⟨0,_,[],Nat.zero_le _,rfl,k2,Q1g.nil _ _ _ _ _,rfl,(fun q hq=>by simp at hq),Below.refl _ _,by omega⟩
 case round =>
  obtain ⟨k,vo,qs,hk,rfl,hbo,hown,hqs,hru,hlow,hsz⟩:=hrel;have hxr:Ext w wr:=Below.trans HXW.out (hlow.mono (by have:=HGS.out; have:=HGP.out; omega))
  have hqk:qs.length=k:=by rw [<- List.length_map (f:=(·.2)),hqs,List.length_take,HN.out]; omega
  have HQS:=hid hqs;have HLO:=hid hlow;have HRU:=hid hru
  by_cases hlt:k < n
  . have hkI:(k:Int) < n:=by omega
    obtain ⟨b,off,x,rfl,hb,e0,e1,hi0⟩:=HC.out k hlt;replace e0:=hxr.cell e0;replace e1:=hxr.cell e1;obtain ⟨X,capx,rfl,-,-,-⟩:=hi0.opened;have hpk:p.take (k + 1)=p.take k ++ [⟨Q0n p k,Q3v p k⟩]:=by
     rw [List.take_succ_eq_append_getElem (by rw [HN.out]; exact hlt),Q0n,Q3v,Q0t _ (by rw [HN.out]; exact hlt)]
    have hl8:=H8.out k hlt;have HI:=hid (hi0.ext hxr);have HPK:=hid hpk;obtain ⟨cs,hcs⟩:∃ c,Q0n p k=c:=⟨_,rfl⟩;obtain ⟨cb,hcb⟩:∃ c,Q3v p k=c:=⟨_,rfl⟩;rw [hcs] at e0 HI HPK hl8;rw [hcb] at e1 HPK;have hbx:=Ext.box wr (.cells #[.slice X cs.length capx,.bool cb] 115);have hbk:=Blk.made wr 115 #[.slice X cs.length capx,.bool cb];have HBO:=hid (hbo.ext hbx);have HOW:=hid (hown.below hbx);have HR0:=hid (hru.ext hbx);have HI1:=hid (HI.out.ext hbx);have hsz1:gp + 1 <= (wr.alloc (.cells #[.slice X cs.length capx,.bool cb] 115)).heap.size:=by have:=hbx.size; omega
    clear hqs hru hlow hxr hi0 hpk hcs hcb hbo hown;go_wp2_with fail;obtain ⟨gx,hgx⟩:∃ x,wr.heap.size=x:=⟨_,rfl⟩;obtain ⟨wb,hwb⟩:∃ Z,wr.alloc (.cells #[.slice X cs.length capx,.bool cb] 115)=Z:=⟨_,rfl⟩;rw [hwb,hgx] at hbk;rw [hwb] at hbx hsz1;rw [hwb] at HBO HOW HR0 HI1;rw [hwb,hgx];have KX:=hid hbk;have HBX:=hid hbx;have hgx1:gp < gx:=by omega
    have hdr:=(Ext.refl wb).drew;clear hwb hgx hbk hbx e0 e1 hb;refine Flow.Q4c [.p,.w,.p,.w,.w,.p,.w,.p,.w,.last,.last,.last] [0,1,2,3,4,5,6,7,8,9,10,11] [[],[0],[],[2],[2,3],[],[5],[2,3,4,5,6],[2,3,4,5,6,7],[0,1,2,3,4,5,6,7,8],[0,1,2,3,4,5,6,7,8,9],[0,1,2,3,4,5,6,7,8,9,10]] [9,10,11]
     [.c 0 (.pointer (some ⟨gp,0,none⟩)),.c 1 (vo),.c 2 (.pointer (some ⟨gx,0,none⟩)),.c 3 (.slice X cs.length capx),⟨fun v wz=>(fun v w'=>Q0m w' 0 3 (.int .i64) (v 4) cs) v wz,by intro v a b hx h; exact Q0m.below h hx⟩,.c 5 (.pointer (some ⟨gx,1,none⟩)),.c 6 (.bool cb),⟨fun v wz=>(fun v w'=>v 7=.agg #[v 4,.bool cb]) v wz,by intro _ _ _ _ h; exact h⟩,⟨fun v wz=>(fun v w'=>∃ g,v 8=.slice (some ⟨g,0,none⟩) 1 1 /\ Blk w' g 167 (X3u (v 4,⟨cs,cb⟩)).toArray) v wz,by rintro v a b hx ⟨g,h1,h2⟩; exact ⟨g,h1,h2.ext hx⟩⟩,.none,.none,.none]
     [fun v w1 w'=>Q1g w' (gp + 1) 167 2 X3u (v 9) (qs ++ [(v 4,⟨cs,cb⟩)]) /\ w1.grownBy w' vo.ownBlock,fun v w1 w'=>v 10=.pointer (some ⟨gp,0,none⟩) /\ Q1g w' (gp + 1) 167 2 X3u (v 9) (qs ++ [(v 4,⟨cs,cb⟩)]) /\ w1.grownBy w' vo.ownBlock,fun v w1 w'=>∃ x wm,Q1g wm (gp + 1) 167 2 X3u x (qs ++ [(v 4,⟨cs,cb⟩)]) /\ w1.grownBy wm vo.ownBlock /\ w'=wm.setCell ⟨gp,0,none⟩ x] (by kernel_rfl) rfl (by kernel_rfl) ⟨?g0,?g1,?g2,?g3,?g4,?g5,?g6,?g7,?g8,?g9,?g10,?g11,trivial⟩ ?post
    case g0 | g2 | g5=>
     intro v w1 hx;intro bb hbb;subst hbb;refine ⟨_,fun w=>?_,rfl⟩;go_simp
    case g1 | g3 | g6=>
     intro v w1 hx;(repeat intro (zq:v _=_));intro bb hbb;subst hbb;have n0:w1.cell? ⟨gp,0,none⟩=some vo:=(HBO.out.ext (hdr.trans hx)).cell 0;have n1:w1.cell? ⟨gx,0,none⟩=some (.slice X cs.length capx):=(KX.out.ext (hdr.trans hx)).cell 0;have n2:w1.cell? ⟨gx,1,none⟩=some (.bool cb):=(KX.out.ext (hdr.trans hx)).cell 1;intro K hK;go_simp;exact hK _ _ (Ext.refl _) rfl
    case g4=>
     intro v w1 hx;(repeat intro (zq:v _=_));intro bb hbb;subst hbb;intro K hK;go_simp;refine Q0d (Q7s w1 _ _ (HI1.out.ext (hdr.trans hx)) (by omega)) ?_
     rintro e w2 ⟨u,rfl,hown,hx2⟩;exact ⟨_,rfl,hK _ _ hx2 (Q0m.weaken hown (Nat.zero_le _))⟩
    case g7=>
     intro v w1 hx (q2:v 2=_) (q3:v 3=_) (q4:(fun v w'=>Q0m w' 0 3 (.int .i64) (v 4) cs) v w1) (q5:v 5=_) (q6:v 6=_);intro bb hbb;obtain ⟨s9,c9,e9,_⟩:=Q0m.shape q4;have o1:bb.eval (.tmp 17)=v 4:=by rw [hbb]; dsimp only; (try simp (discharger:=decide) only [eval_put_ne]); rw [Q0a (by simp only [size_put]; exact (by decide:17 < 26))]
     have o2:bb.eval (.tmp 19)=.bool cb:=by rw [hbb]; dsimp only; (try simp (discharger:=decide) only [eval_put_ne]); rw [Q0a (by simp only [size_put]; exact (by decide:19 < 26))]; exact q6
     rw [e9] at o1;exact ⟨_,fun w=>Y3h _ (.tmp 17) (.tmp 19) rfl o1 o2 (fun w=>Y8e w _ _ _ _),by show Value.agg #[.slice s9 cs.length c9,.bool cb]=Value.agg #[v 4,.bool cb]; rw [e9]⟩
    case g8=>
     intro v w1 hx (q2:v 2=_) (q3:v 3=_) (q4:(fun v w'=>Q0m w' 0 3 (.int .i64) (v 4) cs) v w1) (q5:v 5=_) (q6:v 6=_) (q7:(fun v w'=>v 7=.agg #[v 4,.bool cb]) v w1);intro bb hbb;intro K hK;obtain ⟨s9,c9,e9,_⟩:=Q0m.shape q4;have o1:bb.eval (.tmp 20)=.agg #[v 4,.bool cb]:=by rw [hbb]; dsimp only; (try simp (discharger:=decide) only [eval_put_ne]); rw [Q0a (by simp only [size_put]; exact (by decide:20 < 26))]; exact q7
     rw [e9] at o1;have hbl:Blk (w1.alloc (.cells (Value.agg #[.slice s9 cs.length c9,.bool cb]).cells 167)) w1.heap.size 167 (X3u (v 4,⟨cs,cb⟩)).toArray:=by rw [e9]; exact Blk.made _ _ _
     exact Q4j 36 167 (.tmp 20) rfl o1 (Z6z w1 _ _ _ _) (hK _ _ (Ext.box _ _) ⟨_,rfl,hbl⟩)
    case g9=>
     intro v w1 hx (q0:v 0=_) (q1:v 1=_) (q2:v 2=_) (q3:v 3=_) (q4:(fun v w'=>Q0m w' 0 3 (.int .i64) (v 4) cs) v w1) (q5:v 5=_) (q6:v 6=_) _ (q8:(fun v w'=>∃ g,v 8=.slice (some ⟨g,0,none⟩) 1 1 /\ Blk w' g 167 (X3u (v 4,⟨cs,cb⟩)).toArray) v w1);intro wl hT;obtain rfl:wl=w1:=hT;intro bb hbb;intro K hK;obtain ⟨g,hg10,hb10⟩:=q8;have o1:bb.eval (.tmp 14)=vo:=by rw [hbb]; dsimp only; (try simp (discharger:=decide) only [eval_put_ne]); rw [Q0a (by simp only [size_put]; exact (by decide:14 < 26))]; exact q1
     have o2:bb.eval (.tmp 21)=.slice (some ⟨g,0,none⟩) 1 1:=by rw [hbb]; dsimp only; (try simp (discharger:=decide) only [eval_put_ne]); rw [Q0a (by simp only [size_put]; exact (by decide:21 < 26))]; exact hg10
     have hxx:=hdr.trans hx;exact Q2u _ _ 36 rfl (gp + 1) 167 i0 (.agg #[.slice none 0 0,.bool false]) 2 32 Tryz.underlying36 hi hz0 hz1 hz2 rfl (by decide) X3u X2r vo _ (v 4,⟨cs,cb⟩) o1 (HOW.out.below hxx) ⟨g,0,none⟩ 1 o2 (Q6e hb10) (Z9y (q:=(v 4,⟨cs,cb⟩)) q4) (by omega) (by decide) (by have:=hxx.size; omega) (fun v' w' h1 h2=>hK _ _ ⟨h1,h2⟩)
    case g10=>
     intro v w1 hx (q0:v 0=_) (q1:v 1=_) (q2:v 2=_) (q3:v 3=_) _ (q5:v 5=_) (q6:v 6=_) _ _;intro wl hT;replace hT:(fun v w1 w'=>Q1g w' (gp + 1) 167 2 X3u (v 9) (qs ++ [(v 4,⟨cs,cb⟩)]) /\ w1.grownBy w' vo.ownBlock) v w1 wl:=hT;intro bb hbb;subst hbb;intro K hK;go_simp;exact hK _ _ ⟨rfl,hT⟩
    case g11=>
     intro v w1 hx (q0:v 0=_) (q1:v 1=_) (q2:v 2=_) (q3:v 3=_) _ (q5:v 5=_) (q6:v 6=_) _ _;intro wl hT;replace hT:(fun v w1 w'=>v 10=.pointer (some ⟨gp,0,none⟩) /\ Q1g w' (gp + 1) 167 2 X3u (v 9) (qs ++ [(v 4,⟨cs,cb⟩)]) /\ w1.grownBy w' vo.ownBlock) v w1 wl:=hT;intro bb hbb;intro K hK;obtain ⟨hT0,hT1,hT2⟩:=hT;have hxx:=hdr.trans hx;obtain ⟨bp,cp,hsh,_⟩:=hT1.shape;have o1:bb.eval (.tmp 23)=.pointer (some ⟨gp,0,none⟩):=by rw [hbb]; dsimp only; (try simp (discharger:=decide) only [eval_put_ne]); rw [Q0a (by simp only [size_put]; exact (by decide:23 < 26))]; exact hT0
     have o2:bb.eval (.tmp 22)=v 9:=by rw [hbb]; dsimp only; (try simp (discharger:=decide) only [eval_put_ne]); rw [Q0a (by simp only [size_put]; exact (by decide:22 < 26))]
     have hbl:=Go.Tw.Q6j (HBO.out.ext hxx) (HOW.out.below hxx) (by omega) hT2
     exact Q5a _ _ rfl Tryz.J3j (g:=gp) (k:=0) o1 o2 (by rw [hsh]; rfl) (by rw [hsh]; rfl) hbl (by show 0 < 1; omega) (fun v'=>hK _ _ ⟨v 9,wl,hT1,hT2,rfl⟩)
    case post =>
     intro v w1 hx;(iterate 4 intro (zq:v _=_));intro (q4:(fun v w'=>Q0m w' 0 3 (.int .i64) (v 4) cs) v w1);(iterate 2 intro (zq:v _=_));intro (q7:(fun v w'=>v 7=.agg #[v 4,.bool cb]) v w1) (q8:(fun v w'=>∃ g,v 8=.slice (some ⟨g,0,none⟩) 1 1 /\ Blk w' g 167 (X3u (v 4,⟨cs,cb⟩)).toArray) v w1);intro w2 hE;replace hE:(fun v w1 w'=>∃ x wm,Q1g wm (gp + 1) 167 2 X3u x (qs ++ [(v 4,⟨cs,cb⟩)]) /\ w1.grownBy wm vo.ownBlock /\ w'=wm.setCell ⟨gp,0,none⟩ x) v w1 w2:=hE;simp only [Flow.acts,Act.put];go_simp;obtain ⟨x,wm,hom,hgm,rfl⟩:=hE;have hxx:=hdr.trans hx;have howx:=HOW.out.below hxx;have hbm:=Go.Tw.Q6j (HBO.out.ext hxx) howx (by omega) hgm
     have HO6:=hid (hom.X2h (p:=⟨gp,0,none⟩) (Nat.lt_succ_self gp) x);have HB6:=hid (hbm.set 0 x);have hxm:Below gp W wm:=Below.trans HLO.out (Below.grown ((HBX.out.trans hxx).mono (by omega)) hgm (by have:=hxx.size; omega) (fun j hj=>by have:=(howx.lt j hj).1; omega))
     have HX6:=hid (hxm.setCell (p:=⟨gp,0,none⟩) (Nat.le_refl _) x);have HR6:=hid ((((HR0.out.ext hxx).snoc (q:=(v 4,⟨cs,cb⟩)) q4).grown howx (by decide) hgm).set (k:=0) (u:=x) hbm (by decide))
     have HS6:Hid (gp + 1 <= (wm.setCell ⟨gp,0,none⟩ x).heap.size):=hid (by have:=hbm.lt; simp; omega)
     obtain ⟨w6,hw6⟩:∃ y,wm.setCell ⟨gp,0,none⟩ x=y:=⟨_,rfl⟩;rw [hw6] at HO6 HB6 HX6 HR6 HS6 ⊢;clear hw6 hom hgm hxx hx hbm hxm howx hdr q4 q7 q8;(repeat clear zq);go_wp2;go_roundw
     case rel=>exact ⟨k + 1,x,qs ++ [(v 4,⟨cs,cb⟩)],by omega,by go_num,HB6.out,HO6.out,by rw [List.map_append,HQS.out,HPK.out]; rfl,HR6.out,HX6.out,HS6.out⟩
     case measure=>simp [intOf]; omega
  . have hkI:¬ (k:Int) < n:=by omega
    have hkn:k=n:=by omega
    subst hkn;have hp:p.take k=p:=by rw [List.take_of_length_le (by rw [HN.out]; omega)]
    rw [hp] at hqs;obtain ⟨Av,cv',rfl,-⟩:=hown.shape;rw [hqk] at hbo;have HOWN:=hid hown;have HQK:=hid hqk;have c0:wr.cell? ⟨gp,0,none⟩=some (.slice Av k cv'):=hbo.cell 0;have hk1:=K1.out.below hlow (by have:=HGP.out; omega)
    have c1:wr.cell? ⟨gs + 1,0,none⟩=some (.slice none 0 0):=hk1.cell 0;have f1:=hk1.frozen 0;have HK1:=hid hk1;have HXR:=hid hxr;have HQA:=hid hqs;have HG1:Hid (gs + 1 < gp + 1):=hid (by have:=HGP.out; omega)
    clear hbo hown hqs hru hxr hk1 hlow hp;go_wp2;refine bodyPost_ret (Q1w Tryz.results34 rfl (HK1.out.set 0 _) Tryz.Q9h Tryz.Q5e) rfl ?_;have hro:=HOWN.out.X2h (p:=⟨gs + 1,0,none⟩) HG1.out (.slice Av k cv');have hrr:=HRU.out.set (k:=0) (u:=.slice Av k cv') HK1.out (by decide)
    rw [HQK.out] at hro;have h:=Y2b hro (by rw [HQK.out]; omega) hrr (fun q hq=>by
     have hm:q.2 ∈ p:=by rw [<- HQA.out]; exact List.mem_map_of_mem hq
     obtain ⟨j,hj,he⟩:=List.getElem_of_mem hm;have:=H8.out j (by rw [<- HN.out]; exact hj)
     unfold Q0n at this;rw [Q0t _ hj,he] at this;exact this)
    rw [HQA.out] at h;exact ⟨_,rfl,⟨_,rfl,h⟩,HXR.out.Y4f (p:=⟨gs + 1,0,none⟩) (by show w.heap.size <= gs + 1; have:=HGS.out; omega) _⟩
end Go.Proofs
