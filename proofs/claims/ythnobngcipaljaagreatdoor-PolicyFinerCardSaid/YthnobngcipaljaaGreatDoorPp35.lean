/- Contract of the law's own function: own. What the arguments of a law of chapter 5 read as: seasons, policies, lists of numbers, short lists of truth values. What the listed tables give; small facts on the program for the rows. joinedFacts, fact by fact (in one declaration the kernel's lid of memory is too low for this program); the facts of the program alone. The part of a function's body from a region on: a great walk is cut into theorems there. What all later laws of chapter 5 stand on. -/
import Derived.Test.YthnobngcipaljaaGreatDoorPp34
import Derived.Test.YthnobngcipaljaaGreatDoorPp04
import Derived.Test.YthnobngcipaljaaGreatDoorProg
import Derived.Deep.Slices
import Derived.Deep.Strs
import Derived.ProofKit
import Derived.SizedLaws
import Derived.Test.YthnobngcipaljaaGreatDoorPp32
import Derived.Test.YthnobngcipaljaaGreatDoorRows
import Derived.Test.YthnobngcipaljaaGreatDoorTie
import Derived.Test.YthnobngcipaljaaGreatDoorCards
import Derived.OpenShut
import Derived.LaidMore
import Derived.Lay
import Derived.SevenTiedAt
import Derived.Stop.Joined
import Derived.Test.YthnobngcipaljaaGreatDoorPp01
import Derived.Test.YthnobngcipaljaaGreatDoorPp33
import Derived.Test.YthnobngcipaljaaGreatDoorPp09
set_option maxRecDepth 1000000
set_option maxHeartbeats 64000000
set_option linter.unusedVariables false
set_option linter.unusedSimpArgs false
set_option linter.constructorNameAsVariable false
open Go.Lib (hid)
namespace Go.Proofs
open Go.RowKit Go.Tw Go.Flow
attribute [local go_sem] Oper.semAt_some
theorem J1w (w:World) (v:Value) (p:List Rul) (hv:Q0w w v p) (hl:p.length <= 4096) (h8:∀ k,k < p.length -> (Q0n p k).length <= 4096) :
    Calls Tryz.prog 34 #[v] w fun e w'=>∃ u,e=.returned u /\ Q0w w' u p /\ Ext w w':=by
 obtain ⟨i0,hi,hz0,hz1,hz2⟩:=info_parts Tryz.Z9b;obtain ⟨a,rfl,h2⟩:=hv;obtain ⟨A,cap,rfl,-,hcap,hc⟩:=h2.opened;have HC:=hid hc;obtain ⟨n,hn⟩:∃ n,p.length=n:=⟨_,rfl⟩;have HN:=hid hn;rw [hn] at hl HC h8 ⊢;have H8:=hid h8;clear h2 hc hn hcap h8;go_enter Tryz.func34,Tryz.ntmps34;go_wp2_with fail;obtain ⟨W,hWW,k0,k1,k2,HXW,eW⟩:=X2z w 47 #[.slice A n cap] 38 #[.slice none 0 0] 38 #[.slice none 0 0];rw [hWW];clear hWW;obtain ⟨gs,hgs⟩:∃ x,w.heap.size=x:=⟨_,rfl⟩;have HGS:=hid hgs;rw [hgs] at k1 k2 eW ⊢;have K1:=hid k1;clear k0 k1 hgs;obtain ⟨gp,hgp⟩:∃ x,gs + 1 + 1=x:=⟨_,rfl⟩;have HGP:=hid hgp;rw [hgp] at k2 eW ⊢;clear hgp
 go_loopw [9] (fun i wr=>∃ (k:Nat) (vo:Value) (qs:List (Value × Rul)),k <= n /\ i=.int .i64 k /\ Blk wr gp 38 #[vo] /\ Q0z wr (gp + 1) 167 2 X8h vo qs /\ qs.map (·.2)=p.take k /\ RuR wr qs /\ Below gp W wr /\ gp + 1 <= wr.heap.size) (fun i _=>n - (intOf i).toNat)
 case atStart=>exact ⟨0,_,[],Nat.zero_le _,rfl,k2,Q0z.nil _ _ _ _ _,rfl,(fun q hq=>by simp at hq),Below.refl _ _,by omega⟩
 case round =>
  obtain ⟨k,vo,qs,hk,rfl,hbo,hown,hqs,hru,hlow,hsz⟩:=hrel;have hxr:Ext w wr:=Below.trans HXW.out (hlow.mono (by have:=HGS.out; have:=HGP.out; omega))
  have hqk:qs.length=k:=by rw [<- List.length_map (f:=(·.2)),hqs,List.length_take,HN.out]; omega
  have HQS:=hid hqs;have HLO:=hid hlow;have HRU:=hid hru
  by_cases hlt:k < n
  . have hkI:(k:Int) < n:=by omega
    obtain ⟨b,off,x,rfl,hb,e0,e1,hi0⟩:=HC.out k hlt;replace e0:=hxr.cell e0;replace e1:=hxr.cell e1;obtain ⟨X,capx,rfl,-,-,-⟩:=hi0.opened;have hpk:p.take (k + 1)=p.take k ++ [⟨Q0n p k,Q3p p k⟩]:=by
     rw [List.take_succ_eq_append_getElem (by rw [HN.out]; exact hlt),Q0n,Q3p,Q0v _ (by rw [HN.out]; exact hlt)]
    have hl8:=H8.out k hlt;have HI:=hid (hi0.ext hxr);have HPK:=hid hpk;obtain ⟨cs,hcs⟩:∃ c,Q0n p k=c:=⟨_,rfl⟩;obtain ⟨cb,hcb⟩:∃ c,Q3p p k=c:=⟨_,rfl⟩;rw [hcs] at e0 HI HPK hl8;rw [hcb] at e1 HPK;have hbx:=Ext.box wr (.cells #[.slice X cs.length capx,.bool cb] 115);have hbk:=Blk.made wr 115 #[.slice X cs.length capx,.bool cb];have HBO:=hid (hbo.ext hbx);have HOW:=hid (hown.below hbx);have HR0:=hid (hru.ext hbx);have HI1:=hid (HI.out.ext hbx);have hsz1:gp + 1 <= (wr.alloc (.cells #[.slice X cs.length capx,.bool cb] 115)).heap.size:=by have:=hbx.size; omega
    clear hqs hru hlow hxr hi0 hpk hcs hcb hbo hown;go_wp2_with fail;obtain ⟨gx,hgx⟩:∃ x,wr.heap.size=x:=⟨_,rfl⟩;obtain ⟨wb,hwb⟩:∃ Z,wr.alloc (.cells #[.slice X cs.length capx,.bool cb] 115)=Z:=⟨_,rfl⟩;rw [hwb,hgx] at hbk;rw [hwb] at hbx hsz1;rw [hwb] at HBO HOW HR0 HI1;rw [hwb,hgx];have KX:=hid hbk;have HBX:=hid hbx;have hgx1:gp < gx:=by omega
    have hdr:=(Ext.refl wb).drew;clear hwb hgx hbk hbx e0 e1 hb;refine Flow.Q4m [.p,.w,.p,.w,.w,.p,.w,.p,.w,.last,.last,.last] [0,1,2,3,4,5,6,7,8,9,10,11] [[],[0],[],[2],[2,3],[],[5],[2,3,4,5,6],[2,3,4,5,6,7],[0,1,2,3,4,5,6,7,8],[0,1,2,3,4,5,6,7,8,9],[0,1,2,3,4,5,6,7,8,9,10]] [9,10,11]
     [.c 0 (.pointer (some ⟨gp,0,none⟩)),.c 1 (vo),.c 2 (.pointer (some ⟨gx,0,none⟩)),.c 3 (.slice X cs.length capx),⟨fun v wz=>(fun v w'=>Q0q w' 0 3 (.int .i64) (v 4) cs) v wz,by intro v a b hx h; exact Q0q.below h hx⟩,.c 5 (.pointer (some ⟨gx,1,none⟩)),.c 6 (.bool cb),⟨fun v wz=>(fun v w'=>v 7=.agg #[v 4,.bool cb]) v wz,by intro _ _ _ _ h; exact h⟩,⟨fun v wz=>(fun v w'=>∃ g,v 8=.slice (some ⟨g,0,none⟩) 1 1 /\ Blk w' g 167 (X8h (v 4,⟨cs,cb⟩)).toArray) v wz,by rintro v a b hx ⟨g,h1,h2⟩; exact ⟨g,h1,h2.ext hx⟩⟩,.none,.none,.none]
     [fun v w1 w'=>Q0z w' (gp + 1) 167 2 X8h (v 9) (qs ++ [(v 4,⟨cs,cb⟩)]) /\ w1.grownBy w' vo.ownBlock,fun v w1 w'=>v 10=.pointer (some ⟨gp,0,none⟩) /\ Q0z w' (gp + 1) 167 2 X8h (v 9) (qs ++ [(v 4,⟨cs,cb⟩)]) /\ w1.grownBy w' vo.ownBlock,fun v w1 w'=>∃ x wm,Q0z wm (gp + 1) 167 2 X8h x (qs ++ [(v 4,⟨cs,cb⟩)]) /\ w1.grownBy wm vo.ownBlock /\ w'=wm.setCell ⟨gp,0,none⟩ x] (by kernel_rfl) rfl (by kernel_rfl) ⟨?g0,?g1,?g2,?g3,?g4,?g5,?g6,?g7,?g8,?g9,?g10,?g11,trivial⟩ ?post
    case g0 | g2 | g5=>
     intro v w1 hx;intro bb hbb;subst hbb;refine ⟨_,fun w=>?_,rfl⟩;go_simp
    case g1 | g3 | g6=>
     intro v w1 hx;(repeat intro (zq:v _=_));intro bb hbb;subst hbb;have n0:w1.cell? ⟨gp,0,none⟩=some vo:=(HBO.out.ext (hdr.trans hx)).cell 0;have n1:w1.cell? ⟨gx,0,none⟩=some (.slice X cs.length capx):=(KX.out.ext (hdr.trans hx)).cell 0;have n2:w1.cell? ⟨gx,1,none⟩=some (.bool cb):=(KX.out.ext (hdr.trans hx)).cell 1;intro K hK;go_simp;exact hK _ _ (Ext.refl _) rfl
    case g4=>
     intro v w1 hx;(repeat intro (zq:v _=_));intro bb hbb;subst hbb;intro K hK;go_simp;refine Q0e (Q8m w1 _ _ (HI1.out.ext (hdr.trans hx)) (by omega)) ?_
     rintro e w2 ⟨u,rfl,hown,hx2⟩;exact ⟨_,rfl,hK _ _ hx2 (Q0q.weaken hown (Nat.zero_le _))⟩
    case g7=>
     intro v w1 hx (q2:v 2=_) (q3:v 3=_) (q4:(fun v w'=>Q0q w' 0 3 (.int .i64) (v 4) cs) v w1) (q5:v 5=_) (q6:v 6=_);intro bb hbb;obtain ⟨s9,c9,e9,_⟩:=Q0q.shape q4;have o1:bb.eval (.tmp 17)=v 4:=by rw [hbb]; dsimp only; (try simp (discharger:=decide) only [eval_put_ne]); rw [Q0a (by simp only [size_put]; exact (by decide:17 < 26))]
     have o2:bb.eval (.tmp 19)=.bool cb:=by rw [hbb]; dsimp only; (try simp (discharger:=decide) only [eval_put_ne]); rw [Q0a (by simp only [size_put]; exact (by decide:19 < 26))]; exact q6
     rw [e9] at o1;exact ⟨_,fun w=>X8g _ (.tmp 17) (.tmp 19) rfl o1 o2 (fun w=>Y4b w _ _ _ _),by show Value.agg #[.slice s9 cs.length c9,.bool cb]=Value.agg #[v 4,.bool cb]; rw [e9]⟩
    case g8=>
     intro v w1 hx (q2:v 2=_) (q3:v 3=_) (q4:(fun v w'=>Q0q w' 0 3 (.int .i64) (v 4) cs) v w1) (q5:v 5=_) (q6:v 6=_) (q7:(fun v w'=>v 7=.agg #[v 4,.bool cb]) v w1);intro bb hbb;intro K hK;obtain ⟨s9,c9,e9,_⟩:=Q0q.shape q4;have o1:bb.eval (.tmp 20)=.agg #[v 4,.bool cb]:=by rw [hbb]; dsimp only; (try simp (discharger:=decide) only [eval_put_ne]); rw [Q0a (by simp only [size_put]; exact (by decide:20 < 26))]; exact q7
     rw [e9] at o1;have hbl:Blk (w1.alloc (.cells (Value.agg #[.slice s9 cs.length c9,.bool cb]).cells 167)) w1.heap.size 167 (X8h (v 4,⟨cs,cb⟩)).toArray:=by rw [e9]; exact Blk.made _ _ _
     exact Q3i 36 167 (.tmp 20) rfl o1 (Z1r w1 _ _ _ _) (hK _ _ (Ext.box _ _) ⟨_,rfl,hbl⟩)
    case g9=>
     intro v w1 hx (q0:v 0=_) (q1:v 1=_) (q2:v 2=_) (q3:v 3=_) (q4:(fun v w'=>Q0q w' 0 3 (.int .i64) (v 4) cs) v w1) (q5:v 5=_) (q6:v 6=_) _ (q8:(fun v w'=>∃ g,v 8=.slice (some ⟨g,0,none⟩) 1 1 /\ Blk w' g 167 (X8h (v 4,⟨cs,cb⟩)).toArray) v w1);intro wl hT;obtain rfl:wl=w1:=hT;intro bb hbb;intro K hK;obtain ⟨g,hg10,hb10⟩:=q8;have o1:bb.eval (.tmp 14)=vo:=by rw [hbb]; dsimp only; (try simp (discharger:=decide) only [eval_put_ne]); rw [Q0a (by simp only [size_put]; exact (by decide:14 < 26))]; exact q1
     have o2:bb.eval (.tmp 21)=.slice (some ⟨g,0,none⟩) 1 1:=by rw [hbb]; dsimp only; (try simp (discharger:=decide) only [eval_put_ne]); rw [Q0a (by simp only [size_put]; exact (by decide:21 < 26))]; exact hg10
     have hxx:=hdr.trans hx;exact Q2i _ _ 36 rfl (gp + 1) 167 i0 (.agg #[.slice none 0 0,.bool false]) 2 32 Tryz.underlying36 hi hz0 hz1 hz2 rfl (by decide) X8h Y8f vo _ (v 4,⟨cs,cb⟩) o1 (HOW.out.below hxx) ⟨g,0,none⟩ 1 o2 (Q5g hb10) (Z4q (q:=(v 4,⟨cs,cb⟩)) q4) (by omega) (by decide) (by have:=hxx.size; omega) (fun v' w' h1 h2=>hK _ _ ⟨h1,h2⟩)
    case g10=>
     intro v w1 hx (q0:v 0=_) (q1:v 1=_) (q2:v 2=_) (q3:v 3=_) _ (q5:v 5=_) (q6:v 6=_) _ _;intro wl hT;replace hT:(fun v w1 w'=>Q0z w' (gp + 1) 167 2 X8h (v 9) (qs ++ [(v 4,⟨cs,cb⟩)]) /\ w1.grownBy w' vo.ownBlock) v w1 wl:=hT;intro bb hbb;subst hbb;intro K hK;go_simp;exact hK _ _ ⟨rfl,hT⟩
    case g11=>
     intro v w1 hx (q0:v 0=_) (q1:v 1=_) (q2:v 2=_) (q3:v 3=_) _ (q5:v 5=_) (q6:v 6=_) _ _;intro wl hT;replace hT:(fun v w1 w'=>v 10=.pointer (some ⟨gp,0,none⟩) /\ Q0z w' (gp + 1) 167 2 X8h (v 9) (qs ++ [(v 4,⟨cs,cb⟩)]) /\ w1.grownBy w' vo.ownBlock) v w1 wl:=hT;intro bb hbb;intro K hK;obtain ⟨hT0,hT1,hT2⟩:=hT;have hxx:=hdr.trans hx;obtain ⟨bp,cp,hsh,_⟩:=hT1.shape;have o1:bb.eval (.tmp 23)=.pointer (some ⟨gp,0,none⟩):=by rw [hbb]; dsimp only; (try simp (discharger:=decide) only [eval_put_ne]); rw [Q0a (by simp only [size_put]; exact (by decide:23 < 26))]; exact hT0
     have o2:bb.eval (.tmp 22)=v 9:=by rw [hbb]; dsimp only; (try simp (discharger:=decide) only [eval_put_ne]); rw [Q0a (by simp only [size_put]; exact (by decide:22 < 26))]
     have hbl:=Go.Tw.Q5l (HBO.out.ext hxx) (HOW.out.below hxx) (by omega) hT2
     exact Q3y _ _ rfl Tryz.Z7u (g:=gp) (k:=0) o1 o2 (by rw [hsh]; rfl) (by rw [hsh]; rfl) hbl (by show 0 < 1; omega) (fun v'=>hK _ _ ⟨v 9,wl,hT1,hT2,rfl⟩)
    case post =>
     intro v w1 hx;(iterate 4 intro (zq:v _=_));intro (q4:(fun v w'=>Q0q w' 0 3 (.int .i64) (v 4) cs) v w1);(iterate 2 intro (zq:v _=_));intro (q7:(fun v w'=>v 7=.agg #[v 4,.bool cb]) v w1) (q8:(fun v w'=>∃ g,v 8=.slice (some ⟨g,0,none⟩) 1 1 /\ Blk w' g 167 (X8h (v 4,⟨cs,cb⟩)).toArray) v w1);intro w2 hE;replace hE:(fun v w1 w'=>∃ x wm,Q0z wm (gp + 1) 167 2 X8h x (qs ++ [(v 4,⟨cs,cb⟩)]) /\ w1.grownBy wm vo.ownBlock /\ w'=wm.setCell ⟨gp,0,none⟩ x) v w1 w2:=hE;simp only [Flow.acts,Act.put];go_simp;obtain ⟨x,wm,hom,hgm,rfl⟩:=hE;have hxx:=hdr.trans hx;have howx:=HOW.out.below hxx;have hbm:=Go.Tw.Q5l (HBO.out.ext hxx) howx (by omega) hgm
     have HO6:=hid (hom.X0g (p:=⟨gp,0,none⟩) (Nat.lt_succ_self gp) x);have HB6:=hid (hbm.set 0 x);have hxm:Below gp W wm:=Below.trans HLO.out (Below.grown ((HBX.out.trans hxx).mono (by omega)) hgm (by have:=hxx.size; omega) (fun j hj=>by have:=(howx.lt j hj).1; omega))
     have HX6:=hid (hxm.setCell (p:=⟨gp,0,none⟩) (Nat.le_refl _) x);have HR6:=hid ((((HR0.out.ext hxx).snoc (q:=(v 4,⟨cs,cb⟩)) q4).grown howx (by decide) hgm).set (k:=0) (u:=x) hbm (by decide))
     have HS6:Hid (gp + 1 <= (wm.setCell ⟨gp,0,none⟩ x).heap.size):=hid (by have:=hbm.lt; simp; omega)
     obtain ⟨w6,hw6⟩:∃ y,wm.setCell ⟨gp,0,none⟩ x=y:=⟨_,rfl⟩;rw [hw6] at HO6 HB6 HX6 HR6 HS6 ⊢;clear hw6 hom hgm hxx hx hbm hxm howx hdr q4 q7 q8;(repeat clear zq);go_wp2;go_roundw
     case rel=>exact ⟨k + 1,x,qs ++ [(v 4,⟨cs,cb⟩)],by omega,by go_num,HB6.out,HO6.out,by rw [List.map_append,HQS.out,HPK.out]; rfl,HR6.out,HX6.out,HS6.out⟩
     case measure=>simp [intOf]; omega
  . have hkI:¬ (k:Int) < n:=by omega
    have hkn:k=n:=by omega
    subst hkn;have hp:p.take k=p:=by rw [List.take_of_length_le (by rw [HN.out]; omega)]
    rw [hp] at hqs;obtain ⟨Av,cv',rfl,-⟩:=hown.shape;rw [hqk] at hbo;have HOWN:=hid hown;have HQK:=hid hqk;have c0:wr.cell? ⟨gp,0,none⟩=some (.slice Av k cv'):=hbo.cell 0;have hk1:=K1.out.below hlow (by have:=HGP.out; omega)
    have c1:wr.cell? ⟨gs + 1,0,none⟩=some (.slice none 0 0):=hk1.cell 0;have f1:=hk1.frozen 0;have HK1:=hid hk1;have HXR:=hid hxr;have HQA:=hid hqs;have HG1:Hid (gs + 1 < gp + 1):=hid (by have:=HGP.out; omega)
    clear hbo hown hqs hru hxr hk1 hlow hp;go_wp2;refine bodyPost_ret (Q1v Tryz.results34 rfl (HK1.out.set 0 _) Tryz.Q8b Tryz.Q4b) rfl ?_;have hro:=HOWN.out.X0g (p:=⟨gs + 1,0,none⟩) HG1.out (.slice Av k cv');have hrr:=HRU.out.set (k:=0) (u:=.slice Av k cv') HK1.out (by decide)
    rw [HQK.out] at hro;have h:=X7y hro (by rw [HQK.out]; omega) hrr (fun q hq=>by
     have hm:q.2 ∈ p:=by rw [<- HQA.out]; exact List.mem_map_of_mem hq
     obtain ⟨j,hj,he⟩:=List.getElem_of_mem hm;have:=H8.out j (by rw [<- HN.out]; exact hj)
     unfold Q0n at this;rw [Q0v _ hj,he] at this;exact this)
    rw [HQA.out] at h;exact ⟨_,rfl,⟨_,rfl,h⟩,HXR.out.Y0h (p:=⟨gs + 1,0,none⟩) (by show w.heap.size <= gs + 1; have:=HGS.out; omega) _⟩
end Go.Proofs
namespace Go.Proofs
open Go.RowKit Go.Tw Go.ChangeShapes Go.WideShapes Go.Deep
section
variable {H:Type} {enc:TypeId × Value -> H} {W:World}
def X2y (t:TypeId) (d:DataW H):Prop:=∀ x ∈ d.weights Tryz.prog t,x <= 140737488351232
theorem X8k (b off n:Nat):(⟨b,off,none⟩:Addr).add n=⟨b,off + n,none⟩:=by
 unfold Addr.add
 split
 . simp_all
 . rfl
theorem X2x {α:Type} [Inhabited α] {t e:TypeId} {k bts fuel:Nat} {v:Value} {y:DataW H × List MemPlace} {R:World -> (Nat -> Value) -> α -> Prop} (ht:Tryz.prog.underlying t=some (.slice e)) (hc:Tryz.prog.cellsOf e=k) (hk:0 < k) (hb:Tryz.prog.bytesOf e=bts) (h8:8 <= bts)
    (hel:∀ (cs:List Value) (y:DataW H × List MemPlace) (n:Nat),cs.length=k -> DataW.trod enc Tryz.prog W 0 (fun _=>true) true n e cs=some y -> X2y e y.1 -> ∃ x:α,R W (fun i=>cs.getD i undef) x)
    (hloc:∀ (w:World) (c c':Nat -> Value) (x:α),(∀ i,i < k -> c i=c' i) -> R w c x -> R w c' x)
    (h:DataW.trod enc Tryz.prog W 0 (fun _=>true) true fuel t [v]=some y) (hw:X2y t y.1):∃ l:List α,Go.Tw.Rows k R W v l:=by
 rcases open_slice ht h with ⟨hcs,_⟩ | ⟨a,len,cap,m,n,D,Pl,hcs,_,hlc,_,hm,rfl,hx⟩
 . obtain rfl:v=.slice none 0 0:=by simpa using hcs
   exact ⟨[],Go.Tw.Rows.nil _ _ _⟩
 . obtain rfl:v=.slice (some a) len cap:=by simpa using hcs
   simp only [if_true] at hm;subst hm;rw [hc] at hx;have hhead:(len + (m - len)) * bts <= 140737488351232:=by
    have:=hw ((((List.range len).map D).length + ((List.range (m - len)).map fun j=>D (len + j)).length) * Tryz.prog.bytesOf e) (by simp [DataW.weights,ht])
    simpa [hb] using this
   have hm8:m * 8 <= 140737488351232:=by
    have h1:m=len + (m - len):=by omega
    rw [<- h1] at hhead;exact Nat.le_trans (Nat.mul_le_mul_left m h8) hhead
   have hfit:∀ i,i < len -> X2y e (D i):=by
    intro i hi x hx';refine hw x ?_;have e1:∀ (l:List (DataW H)) d,d ∈ l -> x ∈ d.weights Tryz.prog e -> x ∈ DataW.weightsAll Tryz.prog e l:=by
     intro l
     induction l with
     | nil=>intro d hd; cases hd
     | cons d0 l ih =>
       intro d hd hxx;rw [DataW.weightsAll]
       rcases List.mem_cons.1 hd with rfl | hd
       . exact List.mem_append_left _ hxx
       . exact List.mem_append_right _ (ih d hd hxx)
    simp only [DataW.weights,ht];refine List.mem_cons_of_mem _ (List.mem_append_left _ (e1 _ (D i) ?_ hx'));exact List.mem_map.2 ⟨i,List.mem_range.2 hi,rfl⟩
   obtain ⟨f,hf⟩:=choose_lt (α:=List Value) (n:=len) (p:=fun i cs=>(∀ r,r < k -> W.cell? ((a.add (i * k)).add r)=cs[r]?) /\ cs.length=k /\ ∃ x:α,R W (fun j=>cs.getD j undef) x) (fun i hi=>by
    obtain ⟨cs,h1,h2⟩:=hx i (by omega)
    obtain ⟨_,h3,h4⟩:=World.cells?_some h1;exact ⟨cs,h4,h3,hel cs _ n h3 h2 (hfit i hi)⟩)
   obtain ⟨g,hg⟩:=choose_lt (α:=α) (n:=len) (p:=fun i x=>R W (fun j=>(f i).getD j undef) x) (fun i hi=>(hf i hi).2.2)
   have hR:∀ i,i < len -> R W (fun j=>(f ((i * k + j) / k)).getD ((i * k + j) % k) undef) (g i):=fun i hi=>hloc W _ _ _ (fun j hj=>by
    have e1:(i * k + j) / k=i:=by rw [Nat.mul_comm,Nat.mul_add_div hk,Nat.div_eq_of_lt hj,Nat.add_zero]
    have e2:(i * k + j) % k=j:=by rw [Nat.mul_comm,Nat.mul_add_mod,Nat.mod_eq_of_lt hj]
    rw [e1,e2]) (hg i hi)
   refine ⟨(List.range len).map g,fun j=>(f (j / k)).getD (j % k) undef,⟨some a,m,by simp,by simp; omega,by simpa using hlc,fun j hj=>?_⟩,fun j hj=>?_⟩
   . have hj':j < len * k:=by simpa using hj
     have hq:j / k < len:=(Nat.div_lt_iff_lt_mul hk).2 hj';have hr:j % k < k:=Nat.mod_lt _ hk;obtain ⟨h1,h2,_⟩:=hf (j / k) hq;have h3:=h1 (j % k) hr;rw [List.getElem?_eq_getElem (by omega)] at h3
     have hsp:a.spot=none:=by
      obtain ⟨g1,g2,_⟩:=hf 0 (Nat.lt_of_le_of_lt (Nat.zero_le _) hq);have g3:=g1 0 hk;rw [List.getElem?_eq_getElem (by omega)] at g3
      have:=World.cell?_spot g3
      simpa [Addr.add] using this
     obtain ⟨b,off,spot⟩:=a;obtain rfl:spot=none:=hsp;refine ⟨b,off,rfl,?_⟩;have e:(((⟨b,off,none⟩:Addr).add (j / k * k)).add (j % k))=⟨b,off + j,none⟩:=by
      rw [X8k,X8k,Nat.add_assoc];have:j / k * k + j % k=j:=by rw [Nat.mul_comm]; exact Nat.div_add_mod j k
      rw [this]
     rw [e] at h3;rw [h3];simp [h2,hr]
   . have hj':j < len:=by simpa using hj
     have:=hR j hj'
     simpa using this
theorem Tryz.c3:Tryz.prog.cellsOf 3=1:=by kernel_rfl
theorem Tryz.b3:Tryz.prog.bytesOf 3=8:=by kernel_rfl
theorem Q5z {fuel:Nat} {v:Value} {y:DataW H × List MemPlace} (h:DataW.trod enc Tryz.prog W 0 (fun _=>true) true fuel 22 [v]=some y) (hw:X2y 22 y.1):∃ l,Q0d W v l :=
 X2x (α:=Int) Tryz.underlying22 Tryz.c3 (by decide) Tryz.b3 (by decide) (fun cs y n hl h _=>by
  obtain ⟨z,rfl,_,_⟩:=DataW.trod_int Tryz.underlying3 h;exact ⟨z,rfl⟩) (fun _ c c' x hc h=>by rw [<- hc 0 (by decide)]; exact h) h hw
theorem str_of_trod {fuel:Nat} {v:Value} {y:DataW H × List MemPlace} (h:DataW.trod enc Tryz.prog W 0 (fun _=>true) true fuel 9 [v]=some y) (hw:X2y 9 y.1):∃ s,v=.string s /\ Short s:=by
 obtain ⟨s,h1,rfl,_⟩:=DataW.trod_string Tryz.underlying9 h;refine ⟨s,by simpa using h1,?_⟩
 have:=hw s.data.toList.length (by simp [DataW.weights])
 have e:s.data.toList.length=s.size:=Array.length_toList;unfold Short;omega
theorem int_of_trod {fuel:Nat} {v:Value} {y:DataW H × List MemPlace} (h:DataW.trod enc Tryz.prog W 0 (fun _=>true) true fuel 3 [v]=some y):∃ z,v=.int .i64 z:=by
 obtain ⟨z,h1,_,_⟩:=DataW.trod_int Tryz.underlying3 h;exact ⟨z,by simpa using h1⟩
theorem Q4u {t:TypeId} {ts:List TypeId} {d:DataW H} {ds:List (DataW H)} (h:∀ x ∈ DataW.weightsEach Tryz.prog (t :: ts) (d :: ds),x <= 140737488351232):X2y t d /\ ∀ x ∈ DataW.weightsEach Tryz.prog ts ds,x <= 140737488351232:=by
 rw [DataW.weightsEach] at h;exact ⟨fun x hx=>h x (List.mem_append_left _ hx),fun x hx=>h x (List.mem_append_right _ hx)⟩
theorem Tryz.cS:Tryz.prog.cellsOf 9=1:=by kernel_rfl
theorem Tryz.cI:Tryz.prog.cellsOf 22=1:=by kernel_rfl
theorem Y3l {t:TypeId} {f0 f1 f2 f3 f4:Field} {fuel:Nat} {cs:List Value} {x:DataW H × List MemPlace} (ht:Tryz.prog.underlying t=some (.struct #[f0,f1,f2,f3,f4])) (h:DataW.trod enc Tryz.prog W 0 (fun _=>true) true fuel t cs=some x) :
    ∃ y0 y1 y2 y3 y4 n,x=(.agg [y0.1,y1.1,y2.1,y3.1,y4.1],y0.2 ++ (y1.2 ++ (y2.2 ++ (y3.2 ++ y4.2)))) /\ cs.length=Tryz.prog.cellsOf t /\ DataW.trod enc Tryz.prog W 0 (fun _=>true) true n f0.type ((cs.drop f0.offset).take (Tryz.prog.cellsOf f0.type))=some y0 /\
     DataW.trod enc Tryz.prog W 0 (fun _=>true) true n f1.type ((cs.drop f1.offset).take (Tryz.prog.cellsOf f1.type))=some y1 /\ DataW.trod enc Tryz.prog W 0 (fun _=>true) true n f2.type ((cs.drop f2.offset).take (Tryz.prog.cellsOf f2.type))=some y2 /\
     DataW.trod enc Tryz.prog W 0 (fun _=>true) true n f3.type ((cs.drop f3.offset).take (Tryz.prog.cellsOf f3.type))=some y3 /\ DataW.trod enc Tryz.prog W 0 (fun _=>true) true n f4.type ((cs.drop f4.offset).take (Tryz.prog.cellsOf f4.type))=some y4:=by
 obtain ⟨xs,n,_,rfl,hl,hlen,hf⟩:=DataW.trod_struct ht h
 match xs,hlen with
 | [y0,y1,y2,y3,y4],_=>exact ⟨y0,y1,y2,y3,y4,n,by simp,hl,by simpa using hf 0 f0 rfl,by simpa using hf 1 f1 rfl,by simpa using hf 2 f2 rfl,by simpa using hf 3 f3 rfl,by simpa using hf 4 f4 rfl⟩
theorem Tryz.cMb:Tryz.prog.cellsOf 68=5:=by kernel_rfl
theorem Tryz.bMb:Tryz.prog.bytesOf 68=96:=by kernel_rfl
theorem Y3x {fuel:Nat} {v:Value} {y:DataW H × List MemPlace} (h:DataW.trod enc Tryz.prog W 0 (fun _=>true) true fuel 23 [v]=some y) (hw:X2y 23 y.1):∃ l,Q8h W v l :=
 X2x (α:=Mem) Tryz.underlying23 Tryz.cMb (by decide) Tryz.bMb (by decide) (fun cs y n hl h hw=>by
  obtain ⟨y0,y1,y2,y3,y4,m,rfl,_,h0,h1,h2,h3,h4⟩:=Y3l Tryz.underlying68 h
  match cs,hl with
  | [c0,c1,c2,c3,c4],_ =>
    have hw2:∀ x ∈ DataW.weightsEach Tryz.prog [9,3,22,22,22] [y0.1,y1.1,y2.1,y3.1,y4.1],x <= 140737488351232:=fun x hx=>hw x (by simpa [DataW.weights,Tryz.underlying68] using hx)
    obtain ⟨w0,r0⟩:=Q4u hw2;obtain ⟨_,r1⟩:=Q4u r0;obtain ⟨w2,r2⟩:=Q4u r1;obtain ⟨w3,r3⟩:=Q4u r2;obtain ⟨w4,_⟩:=Q4u r3;have h0':DataW.trod enc Tryz.prog W 0 (fun _=>true) true m 9 [c0]=some y0:=by simpa [Tryz.cS,Tryz.c3,Tryz.cI] using h0
    have h1':DataW.trod enc Tryz.prog W 0 (fun _=>true) true m 3 [c1]=some y1:=by simpa [Tryz.cS,Tryz.c3,Tryz.cI] using h1
    have h2':DataW.trod enc Tryz.prog W 0 (fun _=>true) true m 22 [c2]=some y2:=by simpa [Tryz.cS,Tryz.c3,Tryz.cI] using h2
    have h3':DataW.trod enc Tryz.prog W 0 (fun _=>true) true m 22 [c3]=some y3:=by simpa [Tryz.cS,Tryz.c3,Tryz.cI] using h3
    have h4':DataW.trod enc Tryz.prog W 0 (fun _=>true) true m 22 [c4]=some y4:=by simpa [Tryz.cS,Tryz.c3,Tryz.cI] using h4
    obtain ⟨s,rfl,hs⟩:=str_of_trod h0' w0;obtain ⟨z,rfl⟩:=int_of_trod h1';obtain ⟨l2,hl2⟩:=Q5z h2' w2;obtain ⟨l3,hl3⟩:=Q5z h3' w3;obtain ⟨l4,hl4⟩:=Q5z h4' w4;exact ⟨⟨s,z,l2,l3,l4⟩,rfl,rfl,hl2,hl3,hl4,hs⟩)
  (fun _ c c' x hc h=>⟨by rw [<- hc 0 (by decide)]; exact h.1,by rw [<- hc 1 (by decide)]; exact h.2.1,by rw [<- hc 2 (by decide)]; exact h.2.2.1,by rw [<- hc 3 (by decide)]; exact h.2.2.2.1,by rw [<- hc 4 (by decide)]; exact h.2.2.2.2.1,h.2.2.2.2.2⟩) h hw
theorem Tryz.cSn:Tryz.prog.cellsOf 25=3:=by kernel_rfl
theorem Z4e {b0:Nat} {v:Value} {d:DataW H} {ps:List MemPlace} (hv:Value.okWide Tryz.prog W .any b0 25 v) (h:DataW.Trod enc Tryz.prog W 0 (fun _=>true) true 25 v d ps) (hw:X2y 25 d):∃ t,Q0h W v t:=by
 obtain ⟨cs,rfl,hsz⟩:=okWide_struct Tryz.underlying25 hv;rw [Tryz.cSn] at hsz;obtain ⟨c0,c1,c2,rfl⟩:∃ a b c,cs=#[a,b,c]:=by
  obtain ⟨l⟩:=cs
  match l,hsz with
  | [a,b,c],_=>exact ⟨a,b,c,rfl⟩
 obtain ⟨fuel,hf⟩:=h;obtain ⟨y0,y1,y2,m,hx,_,h0,h1,h2⟩:=trod_struct3 Tryz.underlying25 hf;simp only [Prod.mk.injEq] at hx;obtain ⟨rfl,_⟩:=hx;have hw2:∀ x ∈ DataW.weightsEach Tryz.prog [3,22,23] [y0.1,y1.1,y2.1],x <= 140737488351232:=fun x hx=>hw x (by simpa [DataW.weights,Tryz.underlying25] using hx)
 obtain ⟨_,r0⟩:=Q4u hw2;obtain ⟨w1,r1⟩:=Q4u r0;obtain ⟨w2,_⟩:=Q4u r1;have e2:Tryz.prog.cellsOf 23=1:=by kernel_rfl
 have h0':DataW.trod enc Tryz.prog W 0 (fun _=>true) true m 3 [c0]=some y0:=by simpa [Tryz.c3,Tryz.cI,e2,Value.cells] using h0
 have h1':DataW.trod enc Tryz.prog W 0 (fun _=>true) true m 22 [c1]=some y1:=by simpa [Tryz.c3,Tryz.cI,e2,Value.cells] using h1
 have h2':DataW.trod enc Tryz.prog W 0 (fun _=>true) true m 23 [c2]=some y2:=by simpa [Tryz.c3,Tryz.cI,e2,Value.cells] using h2
 obtain ⟨z,rfl⟩:=int_of_trod h0';obtain ⟨b,hb⟩:=Q5z h1' w1;obtain ⟨c,hc⟩:=Y3x h2' w2;exact ⟨⟨z,b,c⟩,_,_,rfl,⟨hb,hc⟩⟩
end
end Go.Proofs
namespace Go.Proofs.YthnobngcipaljaaGreatDoor
open Go.ChangeShapes Go.WideShapes Go.ChangeAt Go.RowKit Go.Tw
theorem own:ownKnob Tryz.prog.godebug=none:=by kernel_rfl
theorem laidOut:laidOutB Tryz.prog=true:=by kernel_rfl
def J0p:List (String × DataW Unit):=Rows.policyFollowsRow.laid
theorem Z5z {W:World} (h:laidMetH Tryz.prog J0p W):Words W:=by
 rw [MakeChecks.laidMetH_plain _ _ _ (by kernel_rfl)] at h
 obtain ⟨ps,⟨g0,t0,cs0,f0,p0,q0,hg0,ht0,hv0,hd0,⟨g1,t1,cs1,f1,p1,q1,hg1,ht1,hv1,hd1,⟨g2,t2,cs2,f2,p2,q2,hg2,ht2,hv2,hd2,⟨g3,t3,cs3,f3,p3,q3,hg3,ht3,hv3,hd3,_⟩,_⟩,_⟩,_⟩,_,_⟩:=h;obtain rfl:=Option.some.inj ((show Tryz.prog.globalNamed (J0p[3]?.map (·.1)).get! = some 0 by kernel_rfl).symm.trans hg3)
 obtain ⟨t,ht⟩:∃ t,(Tryz.prog.globals[0]?).map (·.type)=some t:=⟨_,ht3⟩;obtain rfl:=Option.some.inj (ht.symm.trans ht3);have hty:(Tryz.prog.globals[0]?).map (·.type)=some 215:=by kernel_rfl
 obtain rfl:=Option.some.inj (hty.symm.trans ht);obtain ⟨xs,m,_,hx,hlen,hxl,hel⟩:=DataW.trod_array Tryz.underlying215 hd3;rw [Tryz.cS] at hel;have hm:xs.map (·.1)=[.lit (.string [111,112,101,110]),.lit (.string [99,108,111,115,101])]:=by
  have:=congrArg Prod.fst hx;simp only [Rows.laid_tideway_policy_words] at this;injection this with this;exact this.symm
 obtain ⟨x0,x1,rfl⟩:∃ a b,xs=[a,b]:=by
  match xs,hxl with
  | [a,b],_=>exact ⟨a,b,rfl⟩
 simp only [List.map_cons,List.map_nil,List.cons.injEq,and_true] at hm;obtain ⟨hx0,hx1⟩:=hm;obtain ⟨s0,hc0,rfl,_⟩:=DataW.trod_string Tryz.underlying9 (hel 0 (by decide))
 obtain ⟨s1,hc1,rfl,_⟩:=DataW.trod_string Tryz.underlying9 (hel 1 (by decide))
 have e0:s0=⟨#[111,112,101,110]⟩:=by
  simp only [DataW.lit.injEq,Lit.string.injEq] at hx0;obtain ⟨d⟩:=s0;obtain ⟨l⟩:=d;have h:l=[111,112,101,110]:=hx0;rw [h]
 have e1:s1=⟨#[99,108,111,115,101]⟩:=by
  simp only [DataW.lit.injEq,Lit.string.injEq] at hx1;obtain ⟨d⟩:=s1;obtain ⟨l⟩:=d;have h:l=[99,108,111,115,101]:=hx1;rw [h]
 subst e0 e1;obtain ⟨l3⟩:=cs3;have hl2:l3.length=2:=by
  have h:=hlen;rw [show Tryz.prog.cellsOf 215=2 from by kernel_rfl] at h
  exact h
 obtain ⟨c0,c1,rfl⟩:∃ a b,l3=[a,b]:=by
  match l3,hl2 with
  | [a,b],_=>exact ⟨a,b,rfl⟩
 simp at hc0 hc1;subst hc0 hc1;exact ⟨by rw [World.var?_cell hg3 hv3 0]; rfl,by rw [World.var?_cell hg3 hv3 1]; rfl⟩
end Go.Proofs.YthnobngcipaljaaGreatDoor
namespace Go.Proofs.YthnobngcipaljaaGreatDoor
open Go.ChangeShapes Go.WideShapes Go.ChangeAt Go.RowKit Go.Tw
theorem Q9t {a b:Bool} (h:a=true) (k:b=true):(a && b)=true:=by rw [h,k]; rfl
theorem J0y {a b:Bool} (h:(a && b)=true):a=true:=by cases a <;> simp_all
theorem J1i {a b:Bool} (h:(a && b)=true):b=true:=by cases a <;> simp_all
theorem J0j (P:Program) (f:FuncId) (fn:Func) (s:ChangeSpec) (c:OpenClaim)
    (k0:(c.wf (OpenSpec.ofChange s):Bool)=true)
    (k1:(laidOutB P:Bool)=true)
    (k2:(mapsRowed P:Bool)=true)
    (k3:(fn.params.all (P.readableRec ·):Bool)=true)
    (k4:(namedTie P c.named s.vars:Bool)=true)
    (k5:((c.stops == []):Bool)=true)
    (k6:((P.stops == []):Bool)=true)
    (k7:((c.knobs == []):Bool)=true)
    (k8:((P.stopKnobs == []):Bool)=true)
    (k9:((c.inPlace == P.inPlace f):Bool)=true)
    (k10:((c.unfollowed == P.unfollowed f):Bool)=true)
    (k11:((c.recurses == P.recurses f):Bool)=true)
    (k12:((c.named == P.varsNamed f):Bool)=true)
    (k13:((c.maps == (fn.params.toList ++ s.plain.varTypes P).any (P.mapsRec ·)):Bool)=true)
    (k14:((c.ifaces == (fn.params.toList ++ s.plain.varTypes P).any (P.ifacesRec ·)):Bool)=true)
    (k15:((c.mapsOut == P.mapsAmong fn.resultTypes.toList):Bool)=true)
    (k16:((c.loops == (fn.params.toList ++ s.plain.varTypes P).any (P.loopsFrom ·)):Bool)=true)
    (k17:((c.wideKeys == (fn.params.toList ++ s.plain.varTypes P ++ fn.resultTypes.toList).any (P.wideKeysFrom ·)):Bool)=true)
    (k18:(s.vars.all (P.varReadable ·):Bool)=true)
    (k19:(fn.resultTypes.all (fun t=>P.readableRec t && decide (t < P.types.size)):Bool)=true)
    (k20:((c.ifacesOut == fn.resultTypes.toList.any (P.ifacesRec ·)):Bool)=true)
    (k21:((c.loopsOut == fn.resultTypes.toList.any (P.loopsFrom ·)):Bool)=true)
    (k22:((c.plainKeys == P.plainKeys):Bool)=true)
    (k23:(c.shortTexts.isNone:Bool)=true)
    (k24:(P.stopsHeard:Bool)=true)
    (k25:(P.mayEnter:Bool)=true)
    (k26:((c.lifted == P.liftsFinal):Bool)=true)
    (k27:((P.make == some c.make):Bool)=true)
    (k28:(c.domain.isEmpty && (c.kinds == []):Bool)=true)
    (k29:((c.pinned == c.pinnedBy):Bool)=true)
    (k30:((c.veiled == (fn.params.toList ++ s.plain.varTypes P ++ fn.resultTypes.toList).any (P.veiledRec ·)):Bool)=true)
    (k31:(c.veiledFits P fn.params.toList (fn.params.toList ++ s.plain.varTypes P ++ fn.resultTypes.toList):Bool)=true)
   :joinedFacts P f fn s c=true:=by unfold joinedFacts; exact Q9t (Q9t (Q9t (Q9t (Q9t (Q9t (Q9t (Q9t (Q9t (Q9t (Q9t (Q9t (Q9t (Q9t (Q9t (Q9t (Q9t (Q9t (Q9t (Q9t (Q9t (Q9t (Q9t (Q9t (Q9t (Q9t (Q9t (Q9t (Q9t (Q9t (Q9t (k0) k1) k2) k3) k4) k5) k6) k7) k8) k9) k10) k11) k12) k13) k14) k15) k16) k17) k18) k19) k20) k21) k22) k23) k24) k25) k26) k27) (by rw [if_pos (J0y k28)]; exact J1i k28)) k29) k30) k31
theorem J1t:(laidOutB Tryz.prog:Bool)=true:=by kernel_rfl
theorem J1k:(mapsRowed Tryz.prog:Bool)=true:=by kernel_rfl
theorem J1e:((Tryz.prog.stops == []):Bool)=true:=by kernel_rfl
theorem J1c:((Tryz.prog.stopKnobs == []):Bool)=true:=by kernel_rfl
theorem J0v:(Tryz.prog.stopsHeard:Bool)=true:=by kernel_rfl
theorem J0x:(Tryz.prog.mayEnter:Bool)=true:=by kernel_rfl
end Go.Proofs.YthnobngcipaljaaGreatDoor
namespace Go.Tw
def Z6w (k:Nat):Code -> Bool
 | .region n _ _=>Nat.beq n k
 | .seq a _=>Z6w k a
 | _=>false
def Z6s (k:Nat):Code -> Option Code
 | .seq a b=>if Z6w k a=true then some (.seq a b) else Z6s k b
 | _=>none
noncomputable def codeFrom (fn:Func) (k:Nat):Code:=((fn.body.bind (Z6s k)).getD .skip)
end Go.Tw
namespace Go.Proofs.YthnobngcipaljaaGreatDoor
theorem base_ground:True:=trivial
end Go.Proofs.YthnobngcipaljaaGreatDoor
