/- Part of the proof of the law PolicyReads. -/
import Derived.Test.YthnobngcipaljaaGreatDoorPp35
import Derived.Test.YthnobngcipaljaaGreatDoorPw03
import Derived.Test.YthnobngcipaljaaGreatDoorPw02
import Derived.Test.YthnobngcipaljaaGreatDoorPw01
set_option maxRecDepth 1000000
set_option maxHeartbeats 64000000
set_option linter.unusedVariables false
set_option linter.unusedSimpArgs false
set_option linter.constructorNameAsVariable false
open Go.Lib (hid)
namespace Go.Proofs
open Go.RowKit Go.Tw Go.Flow
attribute [local go_sem] Oper.semAt_some
def PrR (s s1:ByteArray) (p:List Rul) (k:Nat):Prop:=J2l p k (parts 10 (dat s1))=J2l [] 0 (parts 10 (dat s)) /\ s1.size + k <= s.size
theorem K0j (s:ByteArray):PrR s s [] 0:=⟨rfl,by omega⟩
theorem K1x {s s1:ByteArray} {p:List Rul} {k:Nat} (h:PrR s s1 p k) (h0:s1.toList=[]):J2l [] 0 (parts 10 (dat s))=if Q6h p=0 then (p,0,0) else ([],(k:Int),Q6h p):=by
 rw [<- h.1];have e:dat s1=[]:=by rw [toList_nil_iff_emptyBytes] at h0; rw [h0]; rfl
 rw [e,K0r,J2l];rfl
theorem K1t {s s1:ByteArray} {p:List Rul} {k:Nat} (h:PrR s s1 p k) (h0:¬ s1.toList=[]) (h1:(10:UInt8) ∉ dat s1):J2l [] 0 (parts 10 (dat s))=([],(k:Int),26):=by
 rw [<- h.1,J5d h1,J2l];have e:(dat s1).isEmpty=false:=by
  rw [<- Bool.not_eq_true,List.isEmpty_iff];intro e;exact h0 (by rw [toList_nil_iff_emptyBytes]; exact J8i e)
 rw [e];rfl
theorem size_mk (l:List UInt8):(⟨l.toArray⟩:ByteArray).size=l.length:=by show l.toArray.size=_; simp
theorem K1k {s s1:ByteArray} {p:List Rul} {k:Nat} {x r:List UInt8} (h:PrR s s1 p k) (e:dat s1=x ++ 10 :: r) (hx:(10:UInt8) ∉ x) :
    (J2m (parts 32 (dat ⟨x.toArray⟩))=none -> J2l [] 0 (parts 10 (dat s))=([],(k:Int),26)) /\ ∀ q,J2m (parts 32 (dat ⟨x.toArray⟩))=some q -> PrR s ⟨r.toArray⟩ (p ++ [q]) (k + 1):=by
 obtain ⟨h1,h2⟩:=h;obtain ⟨y,r2,hp⟩:=J3k 10 r;rw [e,J4b hx,hp,J2l] at h1;have hsz:s1.size=x.length + (r.length + 1):=by rw [<- J4u,e]; simp
 constructor
 . intro hn
   rw [<- h1];rw [show J2m (parts 32 x)=none from hn]
 . intro q hs
   refine ⟨?_,?_⟩
   . rw [<- h1,show J2m (parts 32 x)=some q from hs]
     show J2l (p ++ [q]) (k + 1) (parts 10 r)=_;rw [hp]
   . rw [size_mk]; omega
def K2z:Value -> Nat
 | .string s=>s.size
 | _=>0
theorem K0m (w:World) (s a b:ByteArray) (ok:Bool) (hm:K0x w) (hs:s.size <= 5000) (h:Lib.cut s.data.toList [10]=(a.data.toList,b.data.toList,ok)):Calls Tryz.prog 151 #[.string s,.string ⟨#[10]⟩] w fun e w'=>e=.returned (.tuple #[.string a,.string b,.bool ok]) /\ Ext w w':=by
 obtain ⟨m,hm⟩:=hm;refine (Tryz.strings_Cut s ⟨#[10]⟩ m w (by omega) hm).mono ?_
 rintro e w'' ⟨rfl,n,rfl⟩;have e2:Lib.cut s.data.toList (⟨#[10]⟩:ByteArray).data.toList=(a.data.toList,b.data.toList,ok):=h;rw [e2];refine ⟨?_,(Ext.refl _).drewN n⟩;simp
theorem J6p (w:World) (s:ByteArray) (hs:s.size <= 5000) (hm:K0x w) (hW:Words w) :
    Calls Tryz.prog 82 #[.string s] w fun e w'=>J2q w s e w':=by
 obtain ⟨i0,hi,hz0,hz1,hz2⟩:=info_parts Tryz.Z9b
 by_cases hlong:4096 < s.size
 . have hl:(4096:Int) < (s.size:Int):=by omega
   have HE:Hid (J2n s=([],0,27)):=hid (by unfold J2n; rw [if_pos hlong])
   clear hlong;go_enter Tryz.func82,Tryz.ntmps82;go_wp2_with (refine Q0s rfl _ _ 38 rfl Tryz.Q4b rfl rfl (Blk.made _ _ _) rfl rfl ?_ ?_; (focus (intro u hu; simp only [List.mem_cons,List.not_mem_nil,or_false] at hu; rcases hu with rfl; rfl)); intro w8 hb8 hl8 ho8);refine bodyPost_ret (J2o Tryz.results82 rfl hb8 Tryz.Q8b Tryz.Q4b rfl rfl) rfl ?_;exact J2q.no HE.out (Below.trans (Ext.box w _) (hl8 _ (Nat.le_refl _)))
 have hl:¬ (4096:Int) < (s.size:Int):=by omega
 have HE:Hid (J2n s=J2l [] 0 (parts 10 (dat s))):=hid (by unfold J2n; rw [if_neg hlong]; rfl)
 have HM:=hid hm;have HWD:=hid hW;clear hm hW;go_enter Tryz.func82,Tryz.ntmps82;go_wp2_with fail;obtain ⟨W,hWW,k0,k1,HXW,eW⟩:=Q4e w 38 #[.slice none 0 0] 38 #[.slice none 0 0];rw [hWW];clear hWW;obtain ⟨gr,hgr⟩:∃ x,w.heap.size=x:=⟨_,rfl⟩;have HGR:=hid hgr;rw [hgr] at k0 k1 eW ⊢;have KR:=hid k0;obtain ⟨gp,hgp⟩:∃ x,gr + 1=x:=⟨_,rfl⟩;rw [hgp] at k1 eW ⊢;have KP:=hid k1;have hgg:gr < gp:=by omega
 have hWs:gp + 1 <= W.heap.size:=by omega
 clear k0 k1 hgr hgp
 go_loopw [0] (fun sv wr=>∃ (s1:ByteArray) (k:Nat) (vo:Value) (qs:List (Value × Rul)),sv=.string s1 /\ PrR s s1 (qs.map (·.2)) k /\ Blk wr gp 38 #[vo] /\ Q0z wr (gp + 1) 167 2 X8h vo qs /\ qs.length=k /\ RuR wr qs /\ (∀ q ∈ qs,q.2.classes.length <= 4096) /\ Below gp W wr /\ gp + 1 <= wr.heap.size) (fun sv _=>K2z sv)
 case atStart=>exact ⟨s,0,_,[],rfl,K0j s,KP.out,Q0z.nil _ _ _ _ _,rfl,(fun q hq=>by simp at hq),(fun q hq=>by simp at hq),Below.refl _ _,hWs⟩
 case round =>
  obtain ⟨s1,k,vo,qs,rfl,hpr,hbo,hown,hqk,hru,hcl,hlow,hsz⟩:=hrel;have hks:=hpr.2;have HXR:Hid (Ext w wr):=hid (Below.trans HXW.out (hlow.mono (by have:=HGR.out; omega)))
  have HKR:=hid (KR.out.below hlow hgg);have HPR:=hid hpr;have HRU:=hid hru;have HCL:=hid hcl;have HLO:=hid hlow;have HQK:=hid hqk;have HBO:=hid hbo;have HOW:=hid hown;have HMR:=hid (HM.out.ext HXR.out);have HWR:=hid (HWD.out.ext HXR.out);clear hpr hbo hown hqk hru hcl hlow
  by_cases hz:s1.toList=[]
  . have hzE:s1.toList.isEmpty=true:=by rw [hz]; rfl
    have HEN:=hid (HE.out.trans (K1x HPR.out hz));have hr:=X7y HOW.out (by rw [HQK.out]; omega) HRU.out HCL.out
    have HRS:=hid hr;have HCP:Hid (∀ r ∈ qs.map (·.2),r.classes.length <= 4096):=hid (fun r hr=>by obtain ⟨q,hq,rfl⟩:=List.mem_map.1 hr; exact HCL.out q hq)
    obtain ⟨Av,cv,hsv,-⟩:=HOW.out.shape;rw [HQK.out] at hsv;subst hsv;obtain ⟨P,hP⟩:∃ x,qs.map (·.2)=x:=⟨_,rfl⟩;have HPQ:=hid hP;rw [hP] at HEN HRS HCP;clear hz hP hr;go_wp2_with (refine Q7z rfl _ 38 rfl Tryz.Q8b Tryz.Q4b rfl HBO.out rfl ?_);refine (X6w wr _ P ⟨_,rfl,HRS.out⟩ HCP.out).mono ?_;rintro e w3 ⟨rfl,hx3⟩;have HX3:=hid (HXR.out.trans hx3);have HX4:=hid hx3;have HK3:=hid (HKR.out.ext hx3);have HB3:=hid (HBO.out.ext hx3);obtain ⟨E,hE⟩:∃ x,Q6h P=x:=⟨_,rfl⟩;rw [hE] at HEN ⊢;clear hx3 hE
    by_cases he:E=0
    . have heb:(E != 0)=false:=by simp [he]
      have HF:Hid (J2n s=(P,0,0)):=hid (by rw [HEN.out,if_pos he])
      clear he;have c0:w3.cell? ⟨gp,0,none⟩=_:=HB3.out.cell 0;simp only [Go.Tw.gA,Go.Tw.gB] at c0;have c1:w3.cell? ⟨gr,0,none⟩=some (.slice none 0 0):=HK3.out.cell 0;have f1:=HK3.out.frozen 0;have HOF:=hid (HOW.out.below HX4.out);have HRF:=hid (HRU.out.ext HX4.out);go_wp2;refine bodyPost_ret (J2o Tryz.results82 rfl (HK3.out.set 0 _) Tryz.Q8b Tryz.Q4b rfl rfl) rfl ?_;have h:=X7y (HOF.out.X0g (p:=⟨gr,0,none⟩) (by show gr < gp + 1; omega) (.slice Av k cv)) (by rw [HQK.out]; omega) (HRF.out.set (k:=0) (u:=.slice Av k cv) HK3.out (by decide)) HCL.out
      rw [HPQ.out] at h;exact J2q.yes HF.out h (HX3.out.Y0h (p:=⟨gr,0,none⟩) (by show w.heap.size <= gr; have:=HGR.out; omega) _)
    . have heb:(E != 0)=true:=by simp [he]
      have HF:Hid (J2n s=([],(k:Int),E)):=hid (by rw [HEN.out,if_neg he])
      have HXY:=HX3;have HNP:Hid (gp ≠ gr):=hid (by omega)
      clear he;go_wp2_with fail;have hdr:X3b gr 38 #[.slice none 0 0] w3 w3.drew:=X3b.ext (Ext.refl w3).drew;refine Flow.Z3s (X3b gr 38 #[.slice none 0 0]) 5 Ext Ext.refl (fun _ _ _=>Ext.trans) (fun _ _=>X3b.ext) (X3b.refl _ _ _) (fun _ _ _=>X3b.trans) (fun _ _ h=>h.size) [.p,.p,.w,.p,.p,.w,.p,.last] [0,1,2,3,4,5,6,7] [[],[],[1],[1,2],[],[0],[0,1,2,3,5],[0,1,2,3,4,5,6]] [7]
       [.c 0 (.agg #[.slice none 0 0]),.c 1 (.pointer (some ⟨gp,0,none⟩)),.c 2 (.slice Av k cv),.c 3 (.int .i64 ((k:Nat):Int)),.c 4 (.int .i64 E),⟨fun v wz=>(fun v w'=>Blk w' gr 38 #[.slice none 0 0]) v wz,by rintro v a b hx h; exact hx.2.2 h⟩,.c 6 (.int .i64 ((k:Nat):Int)),.none]
       [fun v w1 w'=>v 7=.int .i64 E /\ w1=w'] (by kernel_rfl) rfl (by kernel_rfl) ⟨?g0,?g1,?g2,?g3,?g4,?g5,?g6,?g7,trivial⟩ ?post
      case g0 | g1 | g4=>
       intro v w1 hx;replace hx:(X3b gr 38 #[.slice none 0 0]) _ w1:=hx;intro bb hbb;subst hbb;refine ⟨_,fun w=>?_,rfl⟩;go_simp
      case g2=>
       intro v w1 hx;(repeat intro (zq:v _=_));replace hx:(X3b gr 38 #[.slice none 0 0]) _ w1:=hx;intro bb hbb;subst hbb;have n0:w1.cell? ⟨gp,0,none⟩=some (.slice Av k cv):=((hdr.trans hx).blk HB3.out HNP.out).cell 0;intro K hK;go_simp;exact hK _ _ (Ext.refl w1) rfl
      case g3=>
       intro v w1 hx;(repeat intro (zq:v _=_));replace hx:(X3b gr 38 #[.slice none 0 0]) _ w1:=hx;intro bb hbb;subst hbb;refine ⟨_,fun w=>?_,rfl⟩;go_simp
      case g5=>
       intro v w1 hx;(repeat intro (zq:v _=_));replace hx:Ext _ w1:=hx;intro bb hbb;intro K hK;have o1:bb.eval (.tmp 2)=.pointer (some ⟨gr,0,none⟩):=by rw [hbb]; dsimp only; (try simp (discharger:=decide) only [eval_put_ne]); rfl
       have o2:bb.eval (.tmp 50)=.agg #[.slice none 0 0]:=by rw [hbb]; dsimp only; (try simp (discharger:=decide) only [eval_put_ne]); rw [Q0a (by simp only [size_put]; exact (by decide:50 < 56))]; assumption
       exact Q2b (.tmp 2) (.tmp 50) _ rfl Tryz.Q4b o1 o2 (HK3.out.ext ((Ext.refl w3).drew.trans hx)) rfl rfl Y0c (fun vv w' hb hl ho=>hK _ _ (show X3b _ _ _ _ _ from ⟨fun n hn _=>hl n hn,fun k _ hk=>ho k hk,fun _=>hb⟩) hb)
      case g6=>
       intro v w1 hx (q0:v 0=_) (q1:v 1=_) (q2:v 2=_) (q3:v 3=_) _;replace hx:(X3b gr 38 #[.slice none 0 0]) _ w1:=hx;intro bb hbb;subst hbb;refine ⟨_,fun w=>?_,rfl⟩;go_simp
      case g7=>
       intro v w1 hx (q0:v 0=_) (q1:v 1=_) (q2:v 2=_) (q3:v 3=_) (q4:v 4=_) _ (q6:v 6=_);intro wl hT;obtain rfl:wl=w1:=hT;intro bb hbb;subst hbb;intro K hK;go_simp;exact hK _ _ ⟨rfl,rfl⟩
      case post =>
       intro v w1 hx;(iterate 5 intro (zq:v _=_));intro (q5:(fun v w'=>Blk w' gr 38 #[.slice none 0 0]) v w1);(iterate 1 intro (zq:v _=_));intro w2 hE;replace hE:(fun v w1 w'=>v 7=.int .i64 E /\ w1=w') v w1 w2:=hE;simp only [Flow.acts,Act.put];go_simp;obtain ⟨ht,hE⟩:=hE;subst hE
       try rw [ht]
       try clear ht
       replace q5:Blk w1 gr 38 #[.slice none 0 0]:=q5;have hrel:=hdr.trans hx;have HXF:Hid (Ext w w1):=hid (Below.trans HXY.out (hrel.1 _ (by have:=HGR.out; omega) HXY.out.size))
       clear hx hdr hrel;(repeat clear zq);go_wp2;refine bodyPost_ret (J2o Tryz.results82 rfl q5 Tryz.Q8b Tryz.Q4b rfl rfl) rfl ?_;exact J2q.no HF.out HXF.out
  . have hzE:s1.toList.isEmpty=false:=by rw [List.isEmpty_eq_false_iff]; exact hz
    by_cases h10:(10:UInt8) ∈ dat s1
    . obtain ⟨x,r,hxr,hnx⟩:=List.eq_append_cons_of_mem h10
      have HL:=hid (K1k HPR.out hxr hnx);have hsz2:s1.size=x.length + (r.length + 1):=by rw [<- J4u,hxr]; simp
      have hcut:Lib.cut s1.data.toList [10]=(x,r,true):=by
       show Lib.cut (dat s1) [10]=_;rw [hxr]; exact K2o hnx
      obtain ⟨xa,hxa⟩:∃ a:ByteArray,⟨x.toArray⟩=a:=⟨_,rfl⟩;obtain ⟨ra,hra⟩:∃ a:ByteArray,⟨r.toArray⟩=a:=⟨_,rfl⟩;have HCUT:=hid (K0m wr s1 xa ra true HMR.out (by omega) (by rw [hcut,<- hxa,<- hra]))
      have hxs:xa.size <= 4096:=by rw [<- hxa,size_mk]; omega
      have hrs:ra.size < s1.size:=by rw [<- hra,size_mk]; omega
      rw [hxa] at HL;rw [hra] at HL;have HRS:=hid hrs;clear hcut hxr h10 hnx hsz2 hxa hra hrs hz;go_wp2_with fail;refine HCUT.out.mono ?_;rintro e w2 ⟨rfl,hx2⟩;have HM2:=hid (HMR.out.ext hx2);have HW2:=hid (HWR.out.ext hx2);have HX2:=hid hx2;clear hx2;go_wp2_with fail;refine (J7g w2 xa hxs HM2.out HW2.out).mono ?_;rintro e w3 ⟨X,c,l,rfl,hox,hlx,hq,hx3'⟩;have hx3:=HX2.out.trans hx3';obtain ⟨sb,sc,rfl,-⟩:=hox.shape;have HX3:=hid (HXR.out.trans hx3);have HK3:=hid (HKR.out.ext hx3)
      rcases hrr:J2m (parts 32 (dat xa)) with _ | q
      . have hsome:(none:Option Rul).isSome=false:=rfl
        rw [hsome];have HF:Hid (J2n s=([],(k:Int),26)):=hid (HE.out.trans (HL.out.1 hrr));obtain ⟨Av,cv,hsv,-⟩:=HOW.out.shape;rw [HQK.out] at hsv;subst hsv;have HB3:=hid (HBO.out.ext hx3);clear hrr hsome hq hox hx3 hlx hx3';go_wp2_with fail;obtain ⟨wy,hwy⟩:∃ X,w3.alloc (.cells #[.slice sb l.length sc,.bool c] 167)=X:=⟨_,rfl⟩;have hby:Ext w3 wy:=by rw [<- hwy]; exact Ext.box _ _
        rw [hwy];have HBY:=hid (HB3.out.ext hby);have HKY:=hid (HK3.out.ext hby);have HXY:=hid (HX3.out.trans hby);have HNP:Hid (gp ≠ gr):=hid (by omega)
        clear hwy hby
        have hdr:X3b gr 38 #[.slice none 0 0] wy wy.drew:=X3b.ext (Ext.refl wy).drew;refine Flow.Z3s (X3b gr 38 #[.slice none 0 0]) 4 Ext Ext.refl (fun _ _ _=>Ext.trans) (fun _ _=>X3b.ext) (X3b.refl _ _ _) (fun _ _ _=>X3b.trans) (fun _ _ h=>h.size) [.p,.p,.w,.p,.w,.p,.last] [0,1,2,3,4,5,6] [[],[],[1],[1,2],[0],[0,1,2,3,4],[0,1,2,3,4,5]] [6]
         [.c 0 (.agg #[.slice none 0 0]),.c 1 (.pointer (some ⟨gp,0,none⟩)),.c 2 (.slice Av k cv),.c 3 (.int .i64 ((k:Nat):Int)),⟨fun v wz=>(fun v w'=>Blk w' gr 38 #[.slice none 0 0]) v wz,by rintro v a b hx h; exact hx.2.2 h⟩,.c 5 (.int .i64 ((k:Nat):Int)),.none]
         [fun v w1 w'=>v 6=.int .i64 26 /\ w1=w'] (by kernel_rfl) rfl (by kernel_rfl) ⟨?g0,?g1,?g2,?g3,?g4,?g5,?g6,trivial⟩ ?post
        case g0 | g1=>
         intro v w1 hx;replace hx:(X3b gr 38 #[.slice none 0 0]) _ w1:=hx;intro bb hbb;subst hbb;refine ⟨_,fun w=>?_,rfl⟩;go_simp
        case g2=>
         intro v w1 hx;(repeat intro (zq:v _=_));replace hx:(X3b gr 38 #[.slice none 0 0]) _ w1:=hx;intro bb hbb;subst hbb;have n0:w1.cell? ⟨gp,0,none⟩=some (.slice Av k cv):=((hdr.trans hx).blk HBY.out HNP.out).cell 0;intro K hK;go_simp;exact hK _ _ (Ext.refl w1) rfl
        case g3=>
         intro v w1 hx;(repeat intro (zq:v _=_));replace hx:(X3b gr 38 #[.slice none 0 0]) _ w1:=hx;intro bb hbb;subst hbb;refine ⟨_,fun w=>?_,rfl⟩;go_simp
        case g4=>
         intro v w1 hx;(repeat intro (zq:v _=_));replace hx:Ext _ w1:=hx;intro bb hbb;intro K hK;have o1:bb.eval (.tmp 2)=.pointer (some ⟨gr,0,none⟩):=by rw [hbb]; dsimp only; (try simp (discharger:=decide) only [eval_put_ne]); rfl
         have o2:bb.eval (.tmp 35)=.agg #[.slice none 0 0]:=by rw [hbb]; dsimp only; (try simp (discharger:=decide) only [eval_put_ne]); rw [Q0a (by simp only [size_put]; exact (by decide:35 < 56))]; assumption
         exact Q2b (.tmp 2) (.tmp 35) _ rfl Tryz.Q4b o1 o2 (HKY.out.ext ((Ext.refl wy).drew.trans hx)) rfl rfl Y0c (fun vv w' hb hl ho=>hK _ _ (show X3b _ _ _ _ _ from ⟨fun n hn _=>hl n hn,fun k _ hk=>ho k hk,fun _=>hb⟩) hb)
        case g5=>
         intro v w1 hx (q0:v 0=_) (q1:v 1=_) (q2:v 2=_) (q3:v 3=_) _;replace hx:(X3b gr 38 #[.slice none 0 0]) _ w1:=hx;intro bb hbb;subst hbb;refine ⟨_,fun w=>?_,rfl⟩;go_simp
        case g6=>
         intro v w1 hx (q0:v 0=_) (q1:v 1=_) (q2:v 2=_) (q3:v 3=_) _ (q5:v 5=_);intro wl hT;obtain rfl:wl=w1:=hT;intro bb hbb;subst hbb;intro K hK;go_simp;exact hK _ _ ⟨rfl,rfl⟩
        case post =>
         intro v w1 hx;(iterate 4 intro (zq:v _=_));intro (q4:(fun v w'=>Blk w' gr 38 #[.slice none 0 0]) v w1);(iterate 1 intro (zq:v _=_));intro w2 hE;replace hE:(fun v w1 w'=>v 6=.int .i64 26 /\ w1=w') v w1 w2:=hE;simp only [Flow.acts,Act.put];go_simp;obtain ⟨ht,hE⟩:=hE;subst hE
         try rw [ht]
         try clear ht
         replace q4:Blk w1 gr 38 #[.slice none 0 0]:=q4;have hrel:=hdr.trans hx;have HXF:Hid (Ext w w1):=hid (Below.trans HXY.out (hrel.1 _ (by have:=HGR.out; omega) HXY.out.size))
         clear hx hdr hrel;(repeat clear zq);go_wp2;refine bodyPost_ret (J2o Tryz.results82 rfl q4 Tryz.Q8b Tryz.Q4b rfl rfl) rfl ?_;exact J2q.no HF.out HXF.out
      . have hsome:(some q).isSome=true:=rfl
        rw [hsome];have hqe:=hq q hrr;subst hqe;have HNX:=hid (HL.out.2 _ hrr);have HR3:=hid ((HRU.out.ext hx3).snoc (q:=(.slice sb l.length sc,⟨l,c⟩)) (Q0q.weaken hox (Nat.zero_le _)));have HC3:Hid (∀ q ∈ qs ++ [(Value.slice sb l.length sc,(⟨l,c⟩:Rul))],q.2.classes.length <= 4096):=hid (fun q hq=>by
         rcases List.mem_append.1 hq with hq | hq
         . exact HCL.out q hq
         . rw [List.mem_singleton.1 hq]; exact hlx)
        have hbx:=Ext.box w3 (.cells #[.slice sb l.length sc,.bool c] 167);have hxx:=hx3.trans hbx;have c2:(w3.alloc (.cells #[.slice sb l.length sc,.bool c] 167)).cell? ⟨gp,0,none⟩=some vo:=(HBO.out.ext hxx).cell 0;have HX2W:=hid hxx;clear hrr hsome hq hox hlx hx3';go_wp2_with (at_builtin; refine halted ?_);unfold Q1i;have hes:(w3.alloc (.cells #[.slice sb l.length sc,.bool c] 167)).heap.size=w3.heap.size + 1:=by simp
        obtain ⟨wb,hwb⟩:∃ Z,w3.alloc (.cells #[.slice sb l.length sc,.bool c] 167)=Z:=⟨_,rfl⟩;rw [hwb] at hbx hes hxx HX2W ⊢;rw [<- hes];have hown1:=HOW.out.below hxx;have HBB:=hid (HBO.out.ext hxx);have HRB:=hid (HR3.out.ext hbx);have hsz1:gp + 1 <= wb.heap.size:=by have:=hxx.size; omega
        have hq4:qs.length <= 5000:=by rw [HQK.out]; omega
        clear hwb c2 hx3
        (at_builtin; refine wpList_append_own _ rfl _ _ 36 rfl (gp + 1) 167 i0 (.agg #[.slice none 0 0,.bool false]) 2 32 Tryz.underlying36 hi hz0 hz1 hz2 rfl (by decide) _ _ _ rfl (World.ownsRow.alloc hown1 _) ⟨wb.heap.size,0,none⟩ 1 1 [.slice sb l.length sc,.bool c] rfl rfl ?_ ?_ ?_ ?_ ?_ ?_; exact X9i _ _ _; (focus (simp [Value.oneCell'])); (focus (unfold maxLen; omega)); (focus omega); (focus (have:=hbx.size; simp at this ⊢; omega)); intro v' w1 hown' hgrow _)
        refine halted ?_;have hbl:=Y1a hown1 hgrow (Nat.le_refl _) hsz1;have hb1:=HBB.out.below hbl (Nat.lt_succ_self gp);have c1':w1.cell? ⟨gp,0,none⟩=some vo:=hb1.cell 0;have f1:=hb1.frozen 0;have HB1:=hid hb1;have HBL:=hid hbl;have HR1:=hid ((HRB.out.ext (Ext.box wb (.cells #[.slice sb l.length sc,.bool c] 167))).grown (hown1.below (Ext.box wb _)) (by decide) hgrow)
        have HSZ1:Hid (gp + 1 <= w1.heap.size):=hid (by have:=hbl.size; omega)
        have HOO:=hid (show Q0z w1 (gp + 1) 167 2 X8h v' (qs ++ [(.slice sb l.length sc,⟨l,c⟩)]) from Q0z.snoc hown')
        obtain ⟨Av,cv',rfl,-⟩:=HOO.out.shape;clear hgrow hb1 hbl hown' hown1 hbx hxx;unfold Q1i;go_wp2;go_roundw
        case rel=>exact ⟨ra,k + 1,_,qs ++ [(.slice sb l.length sc,⟨l,c⟩)],rfl,by rw [List.map_append]; exact HNX.out,HB1.out.set 0 _,by have h:=HOO.out; rw [List.length_append] at h; exact h.X0g (p:=⟨gp,0,none⟩) (by show gp < gp + 1; omega) _,by rw [List.length_append,HQK.out]; rfl,
         HR1.out.set (k:=0) HB1.out (by decide),HC3.out,
         (Below.trans HLO.out (Below.trans (HX2W.out.mono (by omega)) (HBL.out.mono (by omega)))).setCell (p:=⟨gp,0,none⟩) (Nat.le_refl _) _,by have:=HSZ1.out; simp; omega⟩
        case measure=>exact HRS.out
    . have HF:Hid (J2n s=([],(k:Int),26)):=hid (HE.out.trans (K1t HPR.out hz h10))
      have HCUT:=hid (K0m wr s1 s1 ⟨#[]⟩ false HMR.out (by omega) (show Lib.cut (dat s1) [10]=_ from K2x h10))
      have hxs:s1.size <= 4096:=by omega
      clear h10 hz;go_wp2_with fail;refine HCUT.out.mono ?_;rintro e w2 ⟨rfl,hx2⟩;have HM2:=hid (HMR.out.ext hx2);have HW2:=hid (HWR.out.ext hx2);have HX2:=hid hx2;clear hx2;go_wp2_with fail;refine (J7g w2 s1 hxs HM2.out HW2.out).mono ?_;rintro e w3 ⟨X,c,l,rfl,hox,hlx,hq,hx3'⟩;have hx3:=HX2.out.trans hx3';obtain ⟨sb,sc,rfl,-⟩:=hox.shape;have HX3:=hid (HXR.out.trans hx3);have HK3:=hid (HKR.out.ext hx3);obtain ⟨Av,cv,hsv,-⟩:=HOW.out.shape;rw [HQK.out] at hsv;subst hsv;have HB3:=hid (HBO.out.ext hx3);obtain ⟨is,his⟩:∃ z,(J2m (parts 32 (dat s1))).isSome=z:=⟨_,rfl⟩;rw [his];clear hq hox hx3 hlx hx3' his;go_wp2_with fail;obtain ⟨wy,hwy⟩:∃ X,w3.alloc (.cells #[.slice sb l.length sc,.bool c] 167)=X:=⟨_,rfl⟩;have hby:Ext w3 wy:=by rw [<- hwy]; exact Ext.box _ _
      rw [hwy];have HBY:=hid (HB3.out.ext hby);have HKY:=hid (HK3.out.ext hby);have HXY:=hid (HX3.out.trans hby);have HNP:Hid (gp ≠ gr):=hid (by omega)
      clear hwy hby
      have hdr:X3b gr 38 #[.slice none 0 0] wy wy.drew:=X3b.ext (Ext.refl wy).drew;refine Flow.Z3s (X3b gr 38 #[.slice none 0 0]) 4 Ext Ext.refl (fun _ _ _=>Ext.trans) (fun _ _=>X3b.ext) (X3b.refl _ _ _) (fun _ _ _=>X3b.trans) (fun _ _ h=>h.size) [.p,.p,.w,.p,.w,.p,.last] [0,1,2,3,4,5,6] [[],[],[1],[1,2],[0],[0,1,2,3,4],[0,1,2,3,4,5]] [6]
       [.c 0 (.agg #[.slice none 0 0]),.c 1 (.pointer (some ⟨gp,0,none⟩)),.c 2 (.slice Av k cv),.c 3 (.int .i64 ((k:Nat):Int)),⟨fun v wz=>(fun v w'=>Blk w' gr 38 #[.slice none 0 0]) v wz,by rintro v a b hx h; exact hx.2.2 h⟩,.c 5 (.int .i64 ((k:Nat):Int)),.none]
       [fun v w1 w'=>v 6=.int .i64 26 /\ w1=w'] (by kernel_rfl) rfl (by kernel_rfl) ⟨?g0,?g1,?g2,?g3,?g4,?g5,?g6,trivial⟩ ?post
      case g0 | g1=>
       intro v w1 hx;replace hx:(X3b gr 38 #[.slice none 0 0]) _ w1:=hx;intro bb hbb;subst hbb;refine ⟨_,fun w=>?_,rfl⟩;go_simp
      case g2=>
       intro v w1 hx;(repeat intro (zq:v _=_));replace hx:(X3b gr 38 #[.slice none 0 0]) _ w1:=hx;intro bb hbb;subst hbb;have n0:w1.cell? ⟨gp,0,none⟩=some (.slice Av k cv):=((hdr.trans hx).blk HBY.out HNP.out).cell 0;intro K hK;go_simp;exact hK _ _ (Ext.refl w1) rfl
      case g3=>
       intro v w1 hx;(repeat intro (zq:v _=_));replace hx:(X3b gr 38 #[.slice none 0 0]) _ w1:=hx;intro bb hbb;subst hbb;refine ⟨_,fun w=>?_,rfl⟩;go_simp
      case g4=>
       intro v w1 hx;(repeat intro (zq:v _=_));replace hx:Ext _ w1:=hx;intro bb hbb;intro K hK;have o1:bb.eval (.tmp 2)=.pointer (some ⟨gr,0,none⟩):=by rw [hbb]; dsimp only; (try simp (discharger:=decide) only [eval_put_ne]); rfl
       have o2:bb.eval (.tmp 35)=.agg #[.slice none 0 0]:=by rw [hbb]; dsimp only; (try simp (discharger:=decide) only [eval_put_ne]); rw [Q0a (by simp only [size_put]; exact (by decide:35 < 56))]; assumption
       exact Q2b (.tmp 2) (.tmp 35) _ rfl Tryz.Q4b o1 o2 (HKY.out.ext ((Ext.refl wy).drew.trans hx)) rfl rfl Y0c (fun vv w' hb hl ho=>hK _ _ (show X3b _ _ _ _ _ from ⟨fun n hn _=>hl n hn,fun k _ hk=>ho k hk,fun _=>hb⟩) hb)
      case g5=>
       intro v w1 hx (q0:v 0=_) (q1:v 1=_) (q2:v 2=_) (q3:v 3=_) _;replace hx:(X3b gr 38 #[.slice none 0 0]) _ w1:=hx;intro bb hbb;subst hbb;refine ⟨_,fun w=>?_,rfl⟩;go_simp
      case g6=>
       intro v w1 hx (q0:v 0=_) (q1:v 1=_) (q2:v 2=_) (q3:v 3=_) _ (q5:v 5=_);intro wl hT;obtain rfl:wl=w1:=hT;intro bb hbb;subst hbb;intro K hK;go_simp;exact hK _ _ ⟨rfl,rfl⟩
      case post =>
       intro v w1 hx;(iterate 4 intro (zq:v _=_));intro (q4:(fun v w'=>Blk w' gr 38 #[.slice none 0 0]) v w1);(iterate 1 intro (zq:v _=_));intro w2 hE;replace hE:(fun v w1 w'=>v 6=.int .i64 26 /\ w1=w') v w1 w2:=hE;simp only [Flow.acts,Act.put];go_simp;obtain ⟨ht,hE⟩:=hE;subst hE
       try rw [ht]
       try clear ht
       replace q4:Blk w1 gr 38 #[.slice none 0 0]:=q4;have hrel:=hdr.trans hx;have HXF:Hid (Ext w w1):=hid (Below.trans HXY.out (hrel.1 _ (by have:=HGR.out; omega) HXY.out.size))
       clear hx hdr hrel;(repeat clear zq);go_wp2;refine bodyPost_ret (J2o Tryz.results82 rfl q4 Tryz.Q8b Tryz.Q4b rfl rfl) rfl ?_;exact J2q.no HF.out HXF.out
end Go.Proofs
namespace Go.Proofs
open Go.RowKit Go.Tw Go.Flow
attribute [local go_sem] Oper.semAt_some
def K1v (w:World) (qs:List (Value × Rul)) (k:Nat):Prop:=∀ j (h:j < qs.length),j < k -> Q0q w 0 3 (.int .i64) qs[j].1 qs[j].2.classes
theorem K1v.set {w:World} {qs:List (Value × Rul)} {k:Nat} {u:Value} {r:Rul} (h:K1v w qs k) (hu:Q0q w 0 3 (.int .i64) u r.classes):K1v w (qs.set k (u,r)) (k + 1):=by
 intro j hj hk;rw [List.length_set] at hj
 by_cases e:k=j
 . subst e
   rw [List.getElem_set_self]; exact hu
 . rw [List.getElem_set_ne e]
   exact h j hj (by omega)
end Go.Proofs
