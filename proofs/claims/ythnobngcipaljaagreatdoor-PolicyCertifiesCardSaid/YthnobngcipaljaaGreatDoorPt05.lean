/- Contracts of the law's own functions: grouped, certificate. Contracts of the reference: Coded, Always. Contracts of the reference: Few, Most. Most and Best of the program at a season that is refused; small facts for the law PolicySearches. What the law PolicyBest asks, as plain facts. What the law PolicyCertifies asks, as plain facts; small lists in memory. -/
import Derived.Test.YthnobngcipaljaaGreatDoorPp35
import Derived.Test.YthnobngcipaljaaGreatDoorPt04
import Derived.Test.YthnobngcipaljaaGreatDoorPt01
import Derived.Test.YthnobngcipaljaaGreatDoorPt02
import Derived.Test.YthnobngcipaljaaGreatDoorPt03
import Derived.Lib.MinMax
set_option maxRecDepth 1000000
set_option maxHeartbeats 64000000
set_option linter.unusedVariables false
set_option linter.unusedSimpArgs false
set_option linter.constructorNameAsVariable false
open Go.Lib (hid)
namespace Go.Proofs
open Go.RowKit Go.Tw Go.Flow
attribute [local go_sem] Oper.semAt_some
theorem J5y (w:World) (a:Option Addr) (n c:Nat) (b:Int):(Instr.build 64 #[(0,.slice a n c),(1,.int .i64 b)]).run Tryz.prog w=.ok (.agg #[.slice a n c,.int .i64 b]) w:=by kernel_rfl
theorem J7p (w:World) (a:Option Addr) (n c:Nat) (b:Int):(Instr.buildSlice 60 1 #[(0,.agg #[.slice a n c,.int .i64 b])]).run Tryz.prog w=.ok (.slice (some ⟨w.heap.size,0,none⟩) 1 1) (w.alloc (.cells #[.slice a n c,.int .i64 b] 64)):=by kernel_rfl
theorem J6g (w:World) (a b:Option Addr) (n c m d:Nat):(Instr.build 124 #[(0,.agg #[.slice a n c]),(1,.slice b m d)]).run Tryz.prog w=.ok (.agg #[.slice a n c,.slice b m d]) w:=by kernel_rfl
theorem J7z {w:World} {q:Value × Grp} (h:Q0q w 0 3 (.int .i64) q.1 q.2.members):∀ u ∈ Y0p q,u.oneCell'=true:=by
 obtain ⟨b,c,e,_⟩:=h.shape;intro u hu;simp only [Y0p,List.mem_cons,List.not_mem_nil,or_false] at hu
 rcases hu with rfl | rfl
 . rw [e]; rfl
 . rfl
def J5m (w w':World) (p:List Grp) (e:Ending):Prop:=∃ u qs,e=.returned u /\ Q0z w' w.heap.size 64 2 Y0p u qs /\ qs.map (·.2)=p /\ GrR w' qs /\ Ext w w'
theorem J5b (w:World) (v:Value) (p:List Grp) (hv:Q4j w v p) (hl:p.length <= 4096) (h8:∀ k,k < p.length -> (Q5i p k).length <= 4096) :
    Calls Tryz.prog 79 #[v] w fun e w'=>J5m w w' p e:=by
 obtain ⟨i0,hi,hz0,hz1,hz2⟩:=info_parts Tryz.Z9p;obtain ⟨A,cap,rfl,-,hcap,hc⟩:=hv.opened;have HC:=hid hc;obtain ⟨n,hn⟩:∃ n,p.length=n:=⟨_,rfl⟩;have HN:=hid hn;rw [hn] at hl HC h8 ⊢;have H8:=hid h8;clear hv hc hn hcap h8;go_enter Tryz.func79,Tryz.ntmps79;go_wp2_with fail
 go_loopw [3,8] (fun vo i wr=>∃ (k:Nat) (qs:List (Value × Grp)),k <= n /\ i=.int .i64 k /\ Q0z wr w.heap.size 64 2 Y0p vo qs /\ qs.map (·.2)=p.take k /\ GrR wr qs /\ Ext w wr) (fun _ i _=>n - (intOf i).toNat)
 case atStart=>exact ⟨0,[],Nat.zero_le _,rfl,Q0z.nil _ _ _ _ _,rfl,GrR.nil _,Ext.refl _⟩
 case round =>
  obtain ⟨k,qs,hk,rfl,hown,hqs,hru,hxr⟩:=hrel;have hqk:qs.length=k:=by rw [<- List.length_map (f:=(·.2)),hqs,List.length_take,HN.out]; omega
  obtain ⟨Av,cav,rfl,-⟩:=hown.shape;rw [hqk] at hown;have HQS:=hid hqs;have HRU:=hid hru;have HXR:=hid hxr
  by_cases hlt:k < n
  . have hkI:(k:Int) < n:=by omega
    obtain ⟨b,off,x,rfl,hb,e0,e1,hi0⟩:=HC.out k hlt;replace e0:=hxr.cell e0;replace e1:=hxr.cell e1;obtain ⟨X,capx,rfl,-,-,-⟩:=hi0.opened;have hpk:p.take (k + 1)=p.take k ++ [⟨Q5i p k,Q8d p k⟩]:=by
     rw [List.take_succ_eq_append_getElem (by rw [HN.out]; exact hlt),Q5i,Q8d,Q0v _ (by rw [HN.out]; exact hlt)]
    have hl8:=H8.out k hlt;have HI:=hid (hi0.ext hxr);have HPK:=hid hpk;obtain ⟨cs,hcs⟩:∃ c,Q5i p k=c:=⟨_,rfl⟩;obtain ⟨cb,hcb⟩:∃ c,Q8d p k=c:=⟨_,rfl⟩;rw [hcs] at e0 HI HPK hl8;rw [hcb] at e1 HPK;have hbx:=Ext.box wr (.cells #[.slice X cs.length capx,.int .i64 cb] 153);have hbk:=Blk.made wr 153 #[.slice X cs.length capx,.int .i64 cb];have HOW:=hid (hown.below hbx);have HR0:=hid (hru.ext hbx);have HI1:=hid (HI.out.ext hbx);have HXB:=hid (hxr.trans hbx);clear hqs hru hxr hi0 hpk hcs hcb hown;go_wp2_with fail;obtain ⟨gx,hgx⟩:∃ x,wr.heap.size=x:=⟨_,rfl⟩;obtain ⟨wb,hwb⟩:∃ Z,wr.alloc (.cells #[.slice X cs.length capx,.int .i64 cb] 153)=Z:=⟨_,rfl⟩;rw [hwb,hgx] at hbk;rw [hwb] at hbx HOW HR0 HI1 HXB;rw [hwb,hgx];have KX:=hid hbk;have hdr:=(Ext.refl wb).drew;clear hwb hgx hbk hbx e0 e1 hb;refine Flow.Q4m [.p,.p,.w,.w,.p,.w,.p,.w,.last,.last] [0,1,2,3,4,5,6,7,8,9] [[],[],[1],[1,2],[],[4],[1,2,3,4,5],[1,2,3,4,5,6],[0,1,2,3,4,5,6,7],[0,1,2,3,4,5,6,7,8]] [8,9]
     [.c 0 (.slice Av k cav),.c 1 (.pointer (some ⟨gx,0,none⟩)),.c 2 (.slice X cs.length capx),⟨fun v wz=>(fun v w'=>Q0q w' 0 3 (.int .i64) (v 3) cs) v wz,by intro v a b hx h; exact Q0q.below h hx⟩,.c 4 (.pointer (some ⟨gx,1,none⟩)),.c 5 (.int .i64 cb),⟨fun v wz=>(fun v w'=>v 6=.agg #[v 3,.int .i64 cb]) v wz,by intro _ _ _ _ h; exact h⟩,⟨fun v wz=>(fun v w'=>∃ g,v 7=.slice (some ⟨g,0,none⟩) 1 1 /\ Blk w' g 64 (Y0p (v 3,⟨cs,cb⟩)).toArray) v wz,by rintro v a b hx ⟨g,h1,h2⟩; exact ⟨g,h1,h2.ext hx⟩⟩,.none,.none]
     [fun v w1 w'=>Q0z w' w.heap.size 64 2 Y0p (v 8) (qs ++ [(v 3,⟨cs,cb⟩)]) /\ w1.grownBy w' (Value.slice Av k cav).ownBlock,fun v w1 w'=>v 9=v 8 /\ Q0z w' w.heap.size 64 2 Y0p (v 8) (qs ++ [(v 3,⟨cs,cb⟩)]) /\ w1.grownBy w' (Value.slice Av k cav).ownBlock] (by kernel_rfl) rfl (by kernel_rfl) ⟨?g0,?g1,?g2,?g3,?g4,?g5,?g6,?g7,?g8,?g9,trivial⟩ ?post
    case g0 | g1 | g4=>
     intro v w1 hx;intro bb hbb;subst hbb;refine ⟨_,fun w=>?_,rfl⟩;go_simp
    case g2 | g5=>
     intro v w1 hx;(repeat intro (zq:v _=_));intro bb hbb;subst hbb;have n0:w1.cell? ⟨gx,0,none⟩=some (.slice X cs.length capx):=(KX.out.ext (hdr.trans hx)).cell 0;have n1:w1.cell? ⟨gx,1,none⟩=some (.int .i64 cb):=(KX.out.ext (hdr.trans hx)).cell 1;intro K hK;go_simp;exact hK _ _ (Ext.refl _) rfl
    case g3=>
     intro v w1 hx;(repeat intro (zq:v _=_));intro bb hbb;subst hbb;intro K hK;go_simp;refine Q0e (Q8m w1 _ _ (HI1.out.ext (hdr.trans hx)) (by omega)) ?_
     rintro e w2 ⟨u,rfl,hown,hx2⟩;exact ⟨_,rfl,hK _ _ hx2 (Q0q.weaken hown (Nat.zero_le _))⟩
    case g6=>
     intro v w1 hx (q1:v 1=_) (q2:v 2=_) (q3:(fun v w'=>Q0q w' 0 3 (.int .i64) (v 3) cs) v w1) (q4:v 4=_) (q5:v 5=_);intro bb hbb;obtain ⟨s9,c9,e9,_⟩:=Q0q.shape q3;have o1:bb.eval (.tmp 15)=v 3:=by rw [hbb]; dsimp only; (try simp (discharger:=decide) only [eval_put_ne]); rw [Q0a (by simp only [size_put]; exact (by decide:15 < 23))]
     have o2:bb.eval (.tmp 17)=.int .i64 cb:=by rw [hbb]; dsimp only; (try simp (discharger:=decide) only [eval_put_ne]); rw [Q0a (by simp only [size_put]; exact (by decide:17 < 23))]; exact q5
     rw [e9] at o1;exact ⟨_,fun w=>X8g _ (.tmp 15) (.tmp 17) rfl o1 o2 (fun w=>J5y w _ _ _ _),by show Value.agg #[.slice s9 cs.length c9,.int .i64 cb]=Value.agg #[v 3,.int .i64 cb]; rw [e9]⟩
    case g7=>
     intro v w1 hx (q1:v 1=_) (q2:v 2=_) (q3:(fun v w'=>Q0q w' 0 3 (.int .i64) (v 3) cs) v w1) (q4:v 4=_) (q5:v 5=_) (q6:(fun v w'=>v 6=.agg #[v 3,.int .i64 cb]) v w1);intro bb hbb;intro K hK;obtain ⟨s9,c9,e9,_⟩:=Q0q.shape q3;have o1:bb.eval (.tmp 18)=.agg #[v 3,.int .i64 cb]:=by rw [hbb]; dsimp only; (try simp (discharger:=decide) only [eval_put_ne]); rw [Q0a (by simp only [size_put]; exact (by decide:18 < 23))]; exact q6
     rw [e9] at o1;have hbl:Blk (w1.alloc (.cells (Value.agg #[.slice s9 cs.length c9,.int .i64 cb]).cells 64)) w1.heap.size 64 (Y0p (v 3,⟨cs,cb⟩)).toArray:=by rw [e9]; exact Blk.made _ _ _
     exact Q3i 60 64 (.tmp 18) rfl o1 (J7p w1 _ _ _ _) (hK _ _ (Ext.box _ _) ⟨_,rfl,hbl⟩)
    case g8=>
     intro v w1 hx (q0:v 0=_) (q1:v 1=_) (q2:v 2=_) (q3:(fun v w'=>Q0q w' 0 3 (.int .i64) (v 3) cs) v w1) (q4:v 4=_) (q5:v 5=_) _ (q7:(fun v w'=>∃ g,v 7=.slice (some ⟨g,0,none⟩) 1 1 /\ Blk w' g 64 (Y0p (v 3,⟨cs,cb⟩)).toArray) v w1);intro wl hT;obtain rfl:wl=w1:=hT;intro bb hbb;intro K hK;obtain ⟨g,hg10,hb10⟩:=q7;have o1:bb.eval (.tmp 12)=.slice Av k cav:=by rw [hbb]; dsimp only; (try simp (discharger:=decide) only [eval_put_ne]); rw [Q0a (by simp only [size_put]; exact (by decide:12 < 23))]; exact q0
     have o2:bb.eval (.tmp 19)=.slice (some ⟨g,0,none⟩) 1 1:=by rw [hbb]; dsimp only; (try simp (discharger:=decide) only [eval_put_ne]); rw [Q0a (by simp only [size_put]; exact (by decide:19 < 23))]; exact hg10
     have hxx:=hdr.trans hx;exact Q2i _ _ 60 rfl w.heap.size 64 i0 (.agg #[.slice none 0 0,.int .i64 0]) 2 32 Tryz.underlying60 hi hz0 hz1 hz2 rfl (by decide) Y0p Y0z (.slice Av k cav) _ (v 3,⟨cs,cb⟩) o1 (HOW.out.below hxx) ⟨g,0,none⟩ 1 o2 (Q5g hb10) (J7z (q:=(v 3,⟨cs,cb⟩)) q3) (by omega) (by decide) (HXB.out.trans hxx).size (fun v' w' h1 h2=>hK _ _ ⟨h1,h2⟩)
    case g9=>
     intro v w1 hx (q0:v 0=_) (q1:v 1=_) (q2:v 2=_) _ (q4:v 4=_) (q5:v 5=_) _ _;intro wl hT;replace hT:(fun v w1 w'=>Q0z w' w.heap.size 64 2 Y0p (v 8) (qs ++ [(v 3,⟨cs,cb⟩)]) /\ w1.grownBy w' (Value.slice Av k cav).ownBlock) v w1 wl:=hT;intro bb hbb;subst hbb;intro K hK;go_simp;exact hK _ _ ⟨rfl,hT⟩
    case post =>
     intro v w1 hx;(iterate 3 intro (zq:v _=_));intro (q3:(fun v w'=>Q0q w' 0 3 (.int .i64) (v 3) cs) v w1);(iterate 2 intro (zq:v _=_));intro (q6:(fun v w'=>v 6=.agg #[v 3,.int .i64 cb]) v w1) (q7:(fun v w'=>∃ g,v 7=.slice (some ⟨g,0,none⟩) 1 1 /\ Blk w' g 64 (Y0p (v 3,⟨cs,cb⟩)).toArray) v w1);intro w2 hE;replace hE:(fun v w1 w'=>v 9=v 8 /\ Q0z w' w.heap.size 64 2 Y0p (v 8) (qs ++ [(v 3,⟨cs,cb⟩)]) /\ w1.grownBy w' (Value.slice Av k cav).ownBlock) v w1 w2:=hE;simp only [Flow.acts,Act.put];go_simp;obtain ⟨h9,hom,hgm⟩:=hE;have hxx:=hdr.trans hx;have howx:=HOW.out.below hxx;have hxm:Ext w w2:=Below.grown (HXB.out.trans hxx) hgm (HXB.out.trans hxx).size (fun j hj=>(howx.lt j hj).1);have HX6:=hid hxm;have HO6:=hid hom;have HR6:=hid (((HR0.out.ext hxx).snoc (q:=(v 3,⟨cs,cb⟩)) q3).grown howx (by decide) hgm)
     try rw [h9]
     obtain ⟨vn,hvn⟩:∃ z,v 8=z:=⟨_,rfl⟩;rw [hvn] at HO6 ⊢;clear hom hgm hxx hx howx hxm hdr h9 hvn q3 q6 q7;(repeat clear zq);go_wp2;go_roundw
     case rel=>exact ⟨k + 1,qs ++ [(v 3,⟨cs,cb⟩)],by omega,by go_num,HO6.out,by rw [List.map_append,HQS.out,HPK.out]; rfl,HR6.out,HX6.out⟩
     case measure=>simp [intOf]; omega
  . have hkI:¬ (k:Int) < n:=by omega
    have hkn:k=n:=by omega
    subst hkn;have hp:p.take k=p:=by rw [List.take_of_length_le (by rw [HN.out]; omega)]
    rw [hp] at hqs;have HOWN:=hid hown;have HQA:=hid hqs;clear hown hqs hru hxr hp;go_wp2;go_ret;exact ⟨_,qs,rfl,HOWN.out,HQA.out,HRU.out,HXR.out⟩
theorem J7v {w':World} {B:Nat} {u:Value} {qs:List (Value × Grp)} {p:List Grp} (ho:Q0z w' B 64 2 Y0p u qs) (hq:qs.map (·.2)=p) (hr:GrR w' qs) (hl:p.length <= 1000) (h8:∀ k,k < p.length -> (Q5i p k).length <= 1000):Q4j w' u p:=by
 subst hq;rw [List.length_map] at hl;exact Z3j ho hr hl fun q hq=>by
  obtain ⟨j,hj,rfl⟩:=List.getElem_of_mem hq;have:=h8 j (by rw [List.length_map]; exact hj)
  unfold Q5i at this;rw [Q0v _ (by rw [List.length_map]; exact hj),List.getElem_map] at this
  exact this
theorem J4y (w:World) (v:Value) (p:List Grp) (hv:Q4j w v p) (hl:p.length <= 1000) (h8:∀ k,k < p.length -> (Q5i p k).length <= 1000) :
    Calls Tryz.prog 79 #[v] w fun e w'=>∃ u,e=.returned u /\ Q4j w' u p /\ Ext w w' :=
 (J5b w v p hv (by omega) (fun k hk=>by have:=h8 k hk; omega)).mono fun e w' h=>by
  unfold J5m at h;obtain ⟨u,qs,he,ho,hq,hr,hx⟩:=h;exact ⟨u,he,J7v ho hq hr hl h8,hx⟩
def J9o (p:List Rul) (l:List Int) (e:Ending) (w':World):Prop:=∃ x y,e=.returned (.agg #[x,y]) /\ Q3m w' x p /\ Q0d w' y l
theorem Tryz.rCf:Tryz.f80.results=#[.cell 2 124]:=by kernel_rfl
theorem J2n (w:World) (u v:Value) (p:List Rul) (l:List Int) (hu:Q3m w u p) (hv:Q0d w v l) (hl:p.length <= 4096) (h8:∀ k,k < p.length -> (Q0n p k).length <= 4096) (hll:l.length <= 4096) :
    Calls Tryz.prog 80 #[.agg #[u,v]] w fun e w'=>J9o p l e w' /\ Ext w w':=by
 obtain ⟨X,c,rfl,-,-,-⟩:=hu.opened;obtain ⟨Y,d,rfl,-,-,-⟩:=hv.opened;have HU:=hid hu;have HV:=hid hv;obtain ⟨n,hn⟩:∃ z,p.length=z:=⟨_,rfl⟩;obtain ⟨m,hm⟩:∃ z,l.length=z:=⟨_,rfl⟩;have HN:=hid hn;have HM:=hid hm;have HL:=hid hl;have H8:=hid h8;have HLL:=hid hll;rw [hn] at HU ⊢;rw [hm] at HV ⊢;clear hu hv hn hm hl h8 hll;go_enter Tryz.func80,Tryz.ntmps80;go_upto_region 1 with fail;change Code.wp _ _ _ _ ((w.alloc (.cells #[.slice X n c,.slice Y m d] 124)).alloc (.cells #[.slice none 0 0,.slice none 0 0] 124));obtain ⟨W,hWW,k0,k1,HXW,eW⟩:=Q4e w 124 #[.slice X n c,.slice Y m d] 124 #[.slice none 0 0,.slice none 0 0];rw [hWW];clear hWW;obtain ⟨gs,hgs⟩:∃ x,w.heap.size=x:=⟨_,rfl⟩;have HGS:=hid hgs;rw [hgs] at k0 k1 eW ⊢;have K0:=hid k0;have K1:=hid k1;have hdr:=(Ext.refl W).drew;clear k0 k1 hgs;refine Flow.Q4m [.p,.w,.w,.w,.p,.w,.w,.p,.last] [0,1,2,3,4,5,6,7,8] [[],[0],[0,1],[0,1,2],[],[4],[0,1,2,3,4,5],[0,1,2,3,4,5,6],[0,1,2,3,4,5,6,7]] [8]
  [.c 0 (.pointer (some ⟨gs,0,none⟩)),.c 1 (.agg #[.slice X n c]),⟨fun v wz=>(fun v w'=>Q0w w' (v 2) p) v wz,by intro v a b hx h; exact Q0w.ext h hx⟩,⟨fun v wz=>(fun v w'=>∃ X c,v 3=.agg #[.slice X n c] /\ Q3m w' (.slice X n c) p) v wz,by rintro v a b hx ⟨X,c,h1,h2⟩; exact ⟨X,c,h1,h2.ext hx⟩⟩,.c 4 (.pointer (some ⟨gs,1,none⟩)),.c 5 (.slice Y m d),⟨fun v wz=>(fun v w'=>∃ X c,v 6=.slice X m c /\ Q0d w' (.slice X m c) l) v wz,by rintro v a b hx ⟨X,c,h1,h2⟩; exact ⟨X,c,h1,h2.ext hx⟩⟩,⟨fun v wz=>(fun v w'=>∃ X c Y d,v 7=.agg #[.slice X n c,.slice Y m d] /\ Q3m w' (.slice X n c) p /\ Q0d w' (.slice Y m d) l) v wz,by rintro v a b hx ⟨X,c,Y,d,h1,h2,h3⟩; exact ⟨X,c,Y,d,h1,h2.ext hx,h3.ext hx⟩⟩,.none]
  [fun v w1 w'=>∃ X c Y d,Blk w' (gs + 1) 124 #[.slice X n c,.slice Y m d] /\ Q3m w' (.slice X n c) p /\ Q0d w' (.slice Y m d) l /\ Ext w w'] (by kernel_rfl) rfl (by kernel_rfl) ⟨?g0,?g1,?g2,?g3,?g4,?g5,?g6,?g7,?g8,trivial⟩ ?post
 case g0 | g4=>
  intro v w1 hx;intro bb hbb;subst hbb;refine ⟨_,fun w=>?_,rfl⟩;go_simp
 case g1=>
  intro v w1 hx;(repeat intro (zq:v _=_));intro bb hbb;intro K hK;have o1:bb.eval (.tmp 3)=.pointer (some ⟨gs,0,none⟩):=by rw [hbb]; dsimp only; (try simp (discharger:=decide) only [eval_put_ne]); rw [Q0a (by simp only [size_put]; exact (by decide:3 < 11))]; assumption
  exact Q5q (.tmp 3) _ rfl Tryz.Q8b Tryz.Q4b o1 (J5k (K0.out.ext (hdr.trans hx))) rfl (hK _ _ (Ext.refl _) rfl)
 case g2=>
  intro v w1 hx;(repeat intro (zq:v _=_));intro bb hbb;subst hbb;intro K2 hK2;go_simp;refine Q0e (Y7d w1 _ p ⟨_,rfl,HU.out.ext (HXW.out.trans (hdr.trans hx))⟩ HL.out) ?_;rintro e w2 ⟨u,rfl,hu,hx2⟩;exact ⟨_,rfl,hK2 _ _ hx2 hu⟩
 case g3=>
  intro v w1 hx (q0:v 0=_) (q1:v 1=_) (q2:(fun v w'=>Q0w w' (v 2) p) v w1);intro bb hbb;subst hbb;intro K2 hK2;go_simp;refine Q0e (J1w w1 _ p q2 HL.out H8.out) ?_;rintro e w2 ⟨u,rfl,hu,hx2⟩;obtain ⟨ux,rfl,hr⟩:=hu;obtain ⟨X,c,rfl,-,-,-⟩:=hr.opened;rw [HN.out] at hr;rw [HN.out];exact ⟨_,rfl,hK2 _ _ hx2 ⟨_,_,rfl,hr⟩⟩
 case g5=>
  intro v w1 hx;(repeat intro (zq:v _=_));intro bb hbb;subst hbb;have n0:w1.cell? ⟨gs,1,none⟩=some (.slice Y m d):=(K0.out.ext (hdr.trans hx)).cell 1;intro K hK;go_simp;exact hK _ _ (Ext.refl _) rfl
 case g6=>
  intro v w1 hx (q0:v 0=_) (q1:v 1=_) _ _ (q4:v 4=_) (q5:v 5=_);intro bb hbb;subst hbb;intro K2 hK2;go_simp;refine Q0e (Q8m w1 _ l (HV.out.ext (HXW.out.trans (hdr.trans hx))) HLL.out) ?_;rintro e w2 ⟨u,rfl,hu,hx2⟩;have hi:=Q0q.ints hu (by have:=HLL.out; omega)
  obtain ⟨X,c,rfl,-,-,-⟩:=hi.opened;rw [HM.out] at hi;rw [HM.out];exact ⟨_,rfl,hK2 _ _ hx2 ⟨_,_,rfl,hi⟩⟩
 case g7=>
  intro v w1 hx (q0:v 0=_) (q1:v 1=_) _ (q3:(fun v w'=>∃ X c,v 3=.agg #[.slice X n c] /\ Q3m w' (.slice X n c) p) v w1) (q4:v 4=_) (q5:v 5=_) (q6:(fun v w'=>∃ X c,v 6=.slice X m c /\ Q0d w' (.slice X m c) l) v w1);intro bb hbb;obtain ⟨X,c,e3,h3⟩:=q3;obtain ⟨Y,d,e6,h6⟩:=q6;have o1:bb.eval (.tmp 6)=.agg #[.slice X n c]:=by rw [hbb]; dsimp only; (try simp (discharger:=decide) only [eval_put_ne]); rw [Q0a (by simp only [size_put]; exact (by decide:6 < 11))]; exact e3
  have o2:bb.eval (.tmp 9)=.slice Y m d:=by rw [hbb]; dsimp only; (try simp (discharger:=decide) only [eval_put_ne]); rw [Q0a (by simp only [size_put]; exact (by decide:9 < 11))]; exact e6
  exact ⟨_,fun w=>X8g _ (.tmp 6) (.tmp 9) rfl o1 o2 (fun w=>J6g w _ _ _ _ _ _),⟨_,_,_,_,rfl,h3,h6⟩⟩
 case g8=>
  intro v w1 hx (q0:v 0=_) (q1:v 1=_) _ _ (q4:v 4=_) (q5:v 5=_) _ (q7:(fun v w'=>∃ X c Y d,v 7=.agg #[.slice X n c,.slice Y m d] /\ Q3m w' (.slice X n c) p /\ Q0d w' (.slice Y m d) l) v w1);intro wl hT;obtain rfl:wl=w1:=hT;intro bb hbb;intro K hK;obtain ⟨X,c,Y,d,e7,h3,h6⟩:=q7;have o1:bb.eval (.tmp 2)=.pointer (some ⟨gs + 1,0,none⟩):=by rw [hbb]; dsimp only; (try simp (discharger:=decide) only [eval_put_ne]); rfl
  have o2:bb.eval (.tmp 10)=.agg #[.slice X n c,.slice Y m d]:=by rw [hbb]; dsimp only; (try simp (discharger:=decide) only [eval_put_ne]); rw [Q0a (by simp only [size_put]; exact (by decide:10 < 11))]; exact e7
  have hb0:=K1.out.ext (hdr.trans hx);exact Q2b (.tmp 2) (.tmp 10) _ rfl Tryz.J2x o1 o2 hb0 rfl rfl Y1w (fun vv w' hb hl ho=>hK _ _ ⟨_,_,_,_,hb,J3i h3 hb0 (fun k _ hk=>ho k hk),Y9q h6 hb0 (fun k _ hk=>ho k hk),Below.trans (HXW.out.trans (hdr.trans hx)) (hl _ (by have:=HGS.out; omega))⟩)
 case post =>
  intro v w1 hx;(iterate 2 intro (zq:v _=_));intro (q2:(fun v w'=>Q0w w' (v 2) p) v w1) (q3:(fun v w'=>∃ X c,v 3=.agg #[.slice X n c] /\ Q3m w' (.slice X n c) p) v w1);(iterate 2 intro (zq:v _=_));intro (q6:(fun v w'=>∃ X c,v 6=.slice X m c /\ Q0d w' (.slice X m c) l) v w1) (q7:(fun v w'=>∃ X c Y d,v 7=.agg #[.slice X n c,.slice Y m d] /\ Q3m w' (.slice X n c) p /\ Q0d w' (.slice Y m d) l) v w1);intro w2 hE;replace hE:(fun v w1 w'=>∃ X c Y d,Blk w' (gs + 1) 124 #[.slice X n c,.slice Y m d] /\ Q3m w' (.slice X n c) p /\ Q0d w' (.slice Y m d) l /\ Ext w w') v w1 w2:=hE;simp only [Flow.acts,Act.put];go_simp;obtain ⟨X1,c1,Y1,d1,hb,h3,h6,hxz⟩:=hE;have HB:=hid hb;have H3:=hid h3;have H6:=hid h6;have HXZ:=hid hxz;obtain ⟨wz,rfl⟩:∃ Z,Z=w2:=⟨_,rfl⟩;clear hx hdr hb h3 h6 hxz q2 q3 q6 q7;(repeat clear zq);go_wp2;refine bodyPost_ret (Q1v Tryz.rCf rfl HB.out Tryz.J6c Tryz.J2x) rfl ?_;exact ⟨⟨_,_,rfl,H3.out,H6.out⟩,HXZ.out⟩
end Go.Proofs
namespace Go.Proofs
open Go.RowKit Go.Tw Go.Flow
attribute [local go_sem] Oper.semAt_some
def J9d (s:Q0b) (c:Bool) (k:Nat) (qs:List (Value × Rul)):Prop:=qs.map (fun q=>q.2.classes)=s.hist /\ ∀ j (h:j < qs.length),j < k -> qs[j].2.close=c
theorem J9d.start {s:Q0b} {c:Bool} {qs:List (Value × Rul)} (h:qs.map (·.2)=J4v s 0):J9d s c 0 qs:=by
 refine ⟨?_,fun j _ h=>absurd h (Nat.not_lt_zero _)⟩;have h1:qs.map (fun q=>q.2.classes)=(qs.map (·.2)).map Rul.classes:=by rw [List.map_map]; rfl
 rw [h1,h];unfold J4v;rw [List.map_map]
 apply List.ext_getElem
 . simp
 . intro i h1 h2
   simp [h2]
theorem J9d.step {s:Q0b} {c:Bool} {k:Nat} {qs:List (Value × Rul)} (h:J9d s c k qs) (hk:k < qs.length):J9d s c (k + 1) (qs.set k (qs[k].1,⟨qs[k].2.classes,c⟩)):=by
 obtain ⟨h1,h2⟩:=h;refine ⟨?_,fun j hj hjk=>?_⟩
 . rw [<- h1,List.map_set]
   apply List.ext_getElem
   . simp
   . intro i g1 g2
     rw [List.getElem_set]
     split
     . rename_i e; subst e; simp
     . rfl
 . rw [List.getElem_set]
   split
   . rfl
   . exact h2 j (by simpa using hj) (by omega)
theorem J9d.all {s:Q0b} {c:Bool} {qs:List (Value × Rul)} (h:J9d s c qs.length qs):qs.map (·.2)=always s c:=by
 obtain ⟨h1,h2⟩:=h;unfold always;rw [<- h1,List.map_map];refine List.map_congr_left fun q hq=>?_;obtain ⟨j,hj,rfl⟩:=List.getElem_of_mem hq;have:=h2 j hj hj;show qs[j].2=⟨qs[j].2.classes,c⟩;rw [<- this]
theorem RuR.put {w:World} {qs:List (Value × Rul)} {k:Nat} {c:Bool} (h:RuR w qs) (hk:k < qs.length):RuR w (qs.set k (qs[k].1,⟨qs[k].2.classes,c⟩)):=by
 intro q hq
 rcases List.mem_or_eq_of_mem_set hq with hq | rfl
 . exact h q hq
 . exact (show Q0q w 0 3 (.int .i64) qs[k].1 qs[k].2.classes from h _ (List.getElem_mem hk))
end Go.Proofs
namespace Go.Proofs
open Go.RowKit Go.Tw Go.Flow
attribute [local go_sem] Oper.semAt_some
theorem J2d.policy {s:Q0b} (hS:Q1b s) {n:Nat} {w w':World} {x:Value} (h:J2d 115 w w' x (J4v s n)):Q0w w' x (J4v s n):=by
 refine h.is (by have:=Z5n hS; rw [J8h]; omega) fun r hr=>?_
 unfold J4v at hr;obtain ⟨i,hi,rfl⟩:=List.mem_map.1 hr;have hi':=List.mem_range.1 hi;have:=Z2v hS _ (List.getElem_mem hi');show (s.hist.getD i []).length <= 4096;rw [Q0v _ hi']; omega
def J9l (s:Q0b):Bool:=decide (s.hist.length <= 9)
theorem J8v (w:World) (v:Value) (s:Q0b) (hv:Q0h w v s) (he:s.err=0) :
    Calls Tryz.prog 17 #[v] w fun e w'=>e=.returned (.bool (J9l s)) /\ Ext w w':=by
 have hS:=Q1b.of he;have hhl:=Z5n hS;have HV:=hid hv;have HERR:=hid he;have HVS:=hid hS;obtain ⟨a,b,rfl,-⟩:=hv;have ha:∃ A n c,a=.slice A n c:=by obtain ⟨_,_,e,h2⟩:=HV.out; cases e; obtain ⟨A,c,e,-⟩:=h2.ships.opened; exact ⟨A,_,c,e⟩
 have hb:∃ A n c,b=.slice A n c:=by obtain ⟨_,_,e,h2⟩:=HV.out; cases e; obtain ⟨A,c,e,-⟩:=h2.members.opened; exact ⟨A,_,c,e⟩
 obtain ⟨A1,n1,ca1,rfl⟩:=ha;obtain ⟨A2,n2,ca2,rfl⟩:=hb;clear hS he;go_enter Tryz.func17,Tryz.ntmps17;go_wp2_with fail;change Calls _ _ _ (w.alloc (.cells #[.int .i64 s.limit,.slice A1 n1 ca1,.slice A2 n2 ca2] 25)) _;obtain ⟨W,hWW,k0,HXW,eW⟩:=Q1t w 25 #[.int .i64 s.limit,.slice A1 n1 ca1,.slice A2 n2 ca2];rw [hWW];clear hWW;refine (J5f _ _ s (HV.out.ext HXW.out) HERR.out).mono ?_;rintro e wh ⟨xh,rfl,hll,hxh⟩;have hih:=J8d HVS.out hll;obtain ⟨AH,ch,rfl,-,-,-⟩:=hih.opened;have HXH:=hid (HXW.out.trans hxh);obtain ⟨H,hH⟩:∃ x,s.hist.length=x:=⟨_,rfl⟩;have HH:=hid hH;rw [hH] at hhl ⊢;clear hll hih hH hxh k0 eW
 by_cases h9:H <= 9
 . have hI:(H:Int) <= 9:=by omega
   have HD:Hid (J9l s=true):=hid (decide_eq_true (by rw [HH.out]; exact h9))
   go_wp2;go_ret;exact ⟨by rw [HD.out] <;> rfl,HXH.out⟩
 . have hI:¬ (H:Int) <= 9:=by omega
   have HD:Hid (J9l s=false):=hid (decide_eq_false (by rw [HH.out]; exact h9))
   go_wp2;go_ret;exact ⟨by rw [HD.out]; show Ending.returned (.bool (decide ((H:Int) <= 9)))=_; rw [decide_eq_false (show ¬ (H:Int) <= 9 by omega)],HXH.out⟩
end Go.Proofs
namespace Go.Proofs
open Go.RowKit Go.Tw Go.Flow
attribute [local go_sem] Oper.semAt_some
theorem J7w (w:World) (x:Int):Calls Tryz.prog 23 #[.int .i64 x] w fun e w'=>e=.returned (.int .i64 (Q0f x 0 8000)) /\ Ext w w' :=
 (J5g w x).mono fun e w' ⟨h1,h2⟩=>⟨h1,by rw [<- h2]; exact Ext.refl _⟩
theorem J6k (s:Q0b) (x:Plan):Q2d s.hist (X7b s x)=0:=Q4h.2 (by simp [X7b,Function.comp_def])
structure J9q (s:Q0b) (need:Int) (F b c d:Int) (x:Option Plan):Prop where
 f:Z2w s need=F
 x:Y2s s need=x
theorem J7j {s:Q0b} {need:Int} (hF:Z2w s need=0) {x:Plan} (h:Y2s s need=some x):X9c s need=(x.closings,x.delay,0) /\ Y1g s need=X7b s x:=by
 unfold X9c Y1g; rw [hF,h]; exact ⟨rfl,rfl⟩
end Go.Proofs
namespace Go.Proofs
open Go.Tw Go.RowKit
theorem _root_.Go.RowKit.Below.ext {a b c:World} (h:Below a.heap.size a b) (k:Ext b c):Below a.heap.size a c:=(show Ext a b from h).trans k
theorem J8j {s:Q0b} (hv:Q1b s) (p:List Rul):Q2c s (Q3r s p) <= 8000:=by
 have h:∀ l:List Int,(∀ x ∈ l,0 <= x /\ x < s.members.length) -> Q2c s l <= 1000 * l.length:=by
  intro l
  induction l with
  | nil=>intro _; simp [Q2c]
  | cons x l ih =>
    intro h;have h1:=h x (by simp)
    have h2:=(hv.weights x.toNat (by omega)).2
    have h3:=ih (fun y hy=>h y (List.mem_cons_of_mem _ hy));simp only [Q2c,List.map_cons,List.sum_cons,List.length_cons] at h3 ⊢;omega
 have h1:=h _ (Q8t s p);have h2:=kept_len s p;have:=hv.some;omega
theorem J6f {s:Q0b} (hv:Q1b s):Z5c s <= 8000:=by
 obtain ⟨x,hx,e⟩:=J4x hv;rw [<- e,<- (Z5r hv.toFine hx).1];exact J8j hv _
structure J9p (s:Q0b) (need m n1 d1 n2 d2 e3:Int):Prop where
 two:(e3=24 /\ ¬ need <= m) ∨ (e3=0 /\ need <= m /\ (n2 < n1 ∨ n2=n1 /\ d2 <= d1))
 best:∀ p,need <= Q2c s (Q3r s p) -> e3=0 /\ (n2 < Q4z s p ∨ n2=Q4z s p /\ d2 <= X2t s p)
theorem J9f {s:Q0b} (hv:Q1b s) (he:s.err=0):∃ x,Y2s s (Z5c s)=some x /\ X9c s (Z5c s)=(x.closings,x.delay,0) /\ Y1g s (Z5c s)=X7b s x /\ Q2c s (Q3r s (X7b s x))=Z5c s:=by
 obtain ⟨x,hx⟩:=Option.isSome_iff_exists.1 ((J8g hv (Z5c s)).2 (Int.le_refl _));have hF:Z2w s (Z5c s)=0:=by
  unfold Z2w;rw [he,Q5h.2 ⟨J5e,J6f hv⟩]; rfl
 obtain ⟨e1,e2⟩:=J7j hF hx;exact ⟨x,hx,e1,e2,by rw [(Z7o hv.toFine hx).2.1]; exact J8e hx⟩
theorem J6i {s:Q0b} (he:s.err=0) {need:Int} (hn:Q0f need 0 8000=0):(Q7n s need=7 /\ X1s s need=[] /\ need <= Y7i s) ∨ (Q7n s need=0 /\ X1s s need=Q5b s /\ Y7i s < need):=by
 have hF:Q8l s need=0:=by unfold Q8l; rw [he,hn]; rfl
 unfold X1s Q7n;rw [if_pos hF]
 by_cases h:need <= Y7i s
 . rw [if_pos h]; exact .inl ⟨rfl,rfl,h⟩
 . rw [if_neg h]; exact .inr ⟨rfl,rfl,by omega⟩
theorem J9h {s:Q0b} (hv:Q1b s):∀ g ∈ Q5b s,0 <= g.weight /\ g.weight <= 8000:=by
 intro g hg;rw [<- Y9h] at hg;unfold Q5a at hg;obtain ⟨i,_,rfl⟩:=List.mem_map.1 hg;have hm:∀ x ∈ Q9e s i,x < s.members.length:=fun x hx=>List.mem_range.1 (List.mem_filter.1 hx).1;have h8:(Q9e s i).length <= 8:=by
  have h1:(Q9e s i).length <= (List.range s.members.length).length:=List.length_filter_le ..;rw [List.length_range] at h1;have:=hv.some; omega
 exact Y4u hv hm h8 _
theorem J8l {s:Q0b} {p:List Rul} (he:s.err=0) (hp:Q2d s.hist p=0):Q1g s p=0:=by unfold Q1g; rw [if_neg (fun h=>h he)]; exact hp
theorem J4h {s:Q0b} (hv:Q1b s) {p:List Rul} (hp:Q2d s.hist p=0):p.length <= 1000:=by
 have h:=congrArg List.length (Q4h.1 hp);rw [List.length_map] at h;have:=Z5n hv;omega
theorem J5n {s:Q0b} (hv:Q1b s) {p:List Rul} (hp:Q2d s.hist p=0):∀ k,k < p.length -> (Q0n p k).length <= 8:=fun k hk=>by
 have h:=Q4h.1 hp;have hm:p[k].classes ∈ s.hist:=by rw [<- h]; exact List.mem_map_of_mem (List.getElem_mem hk)
 have:=Z2v hv _ hm;unfold Q0n;rw [Q0v _ hk];omega
end Go.Proofs
namespace Go.Proofs
open Go.RowKit Go.Tw Go.Flow
theorem J7d {s:Q0b} (he:s.err=0) {need:Int} (hn:Q0f need 0 8000=0) (hb:Y7i s < need):J2m s need (Q5b s)=0:=by
 unfold J2m;rw [if_neg (fun h=>h he),if_neg (fun h=>h hn),if_neg];rintro (h | h)
 . exact h rfl
 . omega
theorem J5h {s:Q0b} (he:s.err=0) {need:Int} (hn:Q0f need 0 8000=0) {l:List Grp} (hl:l.map Z6j ≠ (Q5b s).map Z6j):J2m s need l=22:=by
 unfold J2m;rw [if_neg (fun h=>h he),if_neg (fun h=>h hn),if_pos];exact .inl hl
theorem J6d {s:Q0b} (hv:Q1b s) (he:s.err=0) {need:Int} (hn:Q0f need 0 8000=0):J2m s need ((Q5b s).drop 1)=22:=by
 refine J5h he hn fun h=>?_;have:=congrArg List.length h;rw [List.length_map,List.length_map,List.length_drop] at this;have:=List.length_pos_iff.2 (J5c s hv.some.1);omega
theorem J5t {s:Q0b} (hv:Q1b s) (he:s.err=0) {need:Int} (hn:Q0f need 0 8000=0) {x:Int} (hx:x ≠ Q8d (Q5b s) 0):J2m s need ((Q5b s).set 0 ⟨Q5i (Q5b s) 0,x⟩)=22:=by
 have h0:=List.length_pos_iff.2 (J5c s hv.some.1);refine J5h he hn fun h=>?_;have h2:=congrArg (fun l=>(l[0]?).map Prod.snd) h;simp only [List.getElem?_map] at h2;rw [List.getElem?_set_self h0,List.getElem?_eq_getElem h0] at h2;simp only [Option.map_some,Z6j,Option.some.injEq] at h2
 apply hx
 rw [Q8d,Q0v _ h0];exact h2
theorem J6a {w:World} {g:Nat} {T:TypeId} {l:List Int} (hl:l.length <= 1000) (h:Blk w g T (l.map (Value.int .i64)).toArray):Q0d w (.slice (some ⟨g,0,none⟩) l.length l.length) l:=by
 refine ⟨fun j=>.int .i64 (l.getD j 0),⟨some ⟨g,0,none⟩,_,rfl,by omega,Nat.le_refl _,fun j hj=>?_⟩,fun j hj=>?_⟩
 . refine ⟨g,0,rfl,?_⟩
   have hj':j < l.length:=by omega
   rw [Nat.zero_add,h.cell,List.getElem?_toArray,List.getElem?_map,List.getElem?_eq_getElem hj'];show some (Value.int .i64 l[j])=some (Value.int .i64 (l.getD j 0));rw [List.getD_eq_getElem?_getD,List.getElem?_eq_getElem hj']; rfl
 . show Value.int .i64 (l.getD (j * 1 + 0) 0)=_
   rw [Nat.mul_one,Nat.add_zero,List.getD_eq_getElem?_getD,List.getElem?_eq_getElem hj]; rfl
theorem J7x {w:World} {b off n c:Nat} {l:List Grp} (h:Q4j w (.slice (some ⟨b,off,none⟩) n c) l) (h0:0 < n):Q4j w (.slice (some (if c=1 then ⟨b,off,none⟩ else ⟨b,off + 2,none⟩)) (n - 1) (c - 1)) (l.drop 1):=by
 obtain ⟨f,⟨A,cap,hv,hn,hcap,hc⟩,h2⟩:=h;injection hv with e1 e2 e3;subst e2 e3;subst e1;refine ⟨fun j=>f (j + 2),⟨_,_,by rw [List.length_drop],by rw [List.length_drop]; omega,by rw [List.length_drop]; omega,fun j hj=>?_⟩,fun j hj=>?_⟩
 . rw [List.length_drop] at hj
   obtain ⟨b',o',he,hcell⟩:=hc (j + 2) (by omega)
   injection he with he;injection he with e4 e5 _;subst e4 e5
   by_cases h1:c=1
   . omega
   . rw [if_neg h1]
     exact ⟨b,off + 2,rfl,by rw [show off + 2 + j=off + (j + 2) by omega]; exact hcell⟩
 . rw [List.length_drop] at hj
   have h3:=h2 (j + 1) (by omega)
   have e:(l.drop 1)[j]'(by rw [List.length_drop]; exact hj)=l[j + 1]'(by omega):=by rw [List.getElem_drop]; congr 1; omega
   rw [e];have e6:(fun i=>f (j * 2 + i + 2))=fun i=>f ((j + 1) * 2 + i):=by funext i; congr 1; omega
   show J0e w (fun i=>f (j * 2 + i + 2)) _;rw [e6]; exact h3
theorem GrR.put {w:World} {qs:List (Value × Grp)} {x:Int} (h:GrR w qs) (h0:0 < qs.length):GrR w (qs.set 0 (qs[0].1,⟨qs[0].2.members,x⟩)):=by
 intro q hq
 rcases List.mem_or_eq_of_mem_set hq with hq | rfl
 . exact h q hq
 . exact (show Q0q w 0 3 (.int .i64) qs[0].1 qs[0].2.members from h _ (List.getElem_mem h0))
theorem J8w {s:Q0b} (he:s.err=0) {p:List Rul} (hp:Q2d s.hist p=0):Q1g s p=0 /\ J8t s p=p /\ Y8s s p=Q3r s p:=⟨J8l he hp,if_pos (J8l he hp),if_pos (J8l he hp)⟩
theorem J6p (w:World) (v u:Value) (s:Q0b) (p:List Rul) (hv:Q0h w v s) (hu:Q0w w u p) (hs:Q3k s) (he:s.err=0) (hp:Q2d s.hist p=0) :
    Calls Tryz.prog 71 #[v,u] w fun e w'=>∃ x y,e=.returned (.tuple #[.agg #[x,y],.int .i64 0]) /\ Q3m w' x p /\ Q0d w' y (Q3r s p) /\ Ext w w':=by
 have hv0:=Q1b.of he;obtain ⟨h1,h2,h3⟩:=J8w he hp;refine (J5z w v u s p hv hu hs (J4h hv0 hp) (fun k hk=>by have:=J5n hv0 hp k hk; omega)).mono ?_
 rintro e w' ⟨⟨x,y,rfl,hx,hy⟩,hxx⟩;rw [h2] at hx;rw [h3] at hy;rw [h1];exact ⟨x,y,rfl,hx,hy,hxx⟩
theorem J8a {s:Q0b} (hv:Q1b s) (he:s.err=0) {p:List Rul} (hp:Q2d s.hist p=0) {m:Int} (hm:Q2c s (Q3r s p)=m) (h0:0 <= m /\ m <= 8000):J2s s m p (Q3r s p)=0 /\ (m < 8000 -> J2s s (m + 1) p (Q3r s p)=22):=by
 refine ⟨?_,fun h=>?_⟩
 . rw [J5r he hv.some.2 hp h0,hm,if_neg (by omega)]
 . rw [J5r he hv.some.2 hp ⟨by omega,by omega⟩,hm,if_pos (by omega)]
end Go.Proofs
