/- Contracts: count, alone (of the program). Ranges over functions inside a loop: the marks that they leave among the deferred calls; a loop whose invariant names them and counts up in a slot. Contract: groups (of the program): the groups of a valid season and the sum of their weights. Contract of the law's own function: groups. -/
import Derived.Test.YthnobngcipaljaaGreatDoorPp15
import Derived.Test.YthnobngcipaljaaGreatDoorPp10
import Derived.Scope
import Derived.WalkMore
import Derived.Test.YthnobngcipaljaaGreatDoorPp06
import Derived.Test.YthnobngcipaljaaGreatDoorPp09
import Derived.OwnWalk
set_option maxRecDepth 1000000
set_option maxHeartbeats 64000000
set_option linter.unusedVariables false
set_option linter.unusedSimpArgs false
set_option linter.constructorNameAsVariable false
open Go.Lib (hid)
namespace Go.Proofs
open Go.RowKit Go.Tw Go.Flow
attribute [local go_sem] Oper.semAt_some
theorem Q5n (w:World) (v:Value) (l:List Bool) (hv:Q1q w v l) :
    Calls Tryz.prog 129 #[v] w fun e w'=>e=.returned (.int .i64 (countB l)) /\ Ext w w':=by
 obtain ⟨A,cap,rfl,hl,hcap,hc⟩:=hv.opened;clear hv;go_enter Tryz.func129,Tryz.ntmps129;go_wp2
 go_loopw [3,8] (fun n i wr=>∃ (k:Nat) (m:Int),k <= l.length /\ i=.int .i64 k /\ n=.int .i64 m /\ 0 <= m /\ m <= k /\ m + countB (l.drop k)=countB l /\ Ext w wr) (fun _ i _=>l.length - (intOf i).toNat)
 case atStart=>exact ⟨0,0,Nat.zero_le _,rfl,rfl,Int.le_refl _,Int.le_refl _,by simp,Ext.refl _⟩
 case round =>
  obtain ⟨k,m,hk,rfl,rfl,hm0,hmk,hr,hx⟩:=hrel;have HR:=hid hr; clear hr
  by_cases hlt:k < l.length
  . obtain ⟨b,off,rfl,hb,hcell⟩:=hc k hlt
    replace hcell:=hx.cell hcell;have HD:=hid (Y0u hlt);clear hc;cases hb:bx l k
    . rw [hb] at hcell
      have HB:=hid hb; clear hb;go_wp2;go_roundw
      case rel=>exact ⟨k + 1,m,by omega,by go_num,rfl,hm0,by omega,by rw [<- HR.out,HD.out,X4z,HB.out]; simp,hx⟩
      case measure=>simp [intOf]; omega
    . rw [hb] at hcell
      have HB:=hid hb; clear hb;go_wp2;go_roundw
      case rel=>exact ⟨k + 1,m + 1,by omega,by go_num,by go_num,by omega,by omega,by rw [<- HR.out,HD.out,X4z,HB.out]; simp; omega,hx⟩
      case measure=>simp [intOf]; omega
  . clear hc
    go_wp2;go_ret;exact ⟨Q1d (by have:=HR.out; rw [List.drop_eq_nil_of_le (by omega)] at this; rw [<- this]; show m=m + 0; omega),hx⟩
def Q7a (w:World) (x:Value) (o:Option (List Bool)):Prop:=match o with
 | none=>x=.slice none 0 0
 | some b=>Q0q w 0 4 .bool x b
theorem Q7a.ext {w w':World} {x:Value} {o:Option (List Bool)} (h:Q7a w x o) (hx:Ext w w'):Q7a w' x o:=by
 cases o with
 | none=>exact h
 | some b=>exact Q0q.below h hx
theorem Q7a.turns {B:Nat} {w w':World} {x:Value} {o:Option (List Bool)} (h:Q7a w x o) (hx:Turns B w w'):Q7a w' x o:=by
 cases o with
 | none=>exact h
 | some b=>exact hx.own h
theorem X3e (w:World) (a:Addr) (n cap:Nat):(binOp .eql 82 (.slice (some a) n cap) (.slice none 0 0)).run Tryz.prog w=.ok (.bool false) w:=by kernel_rfl
theorem X1f (w:World):(binOp .eql 82 (.slice none 0 0) (.slice none 0 0)).run Tryz.prog w=.ok (.bool true) w:=by kernel_rfl
attribute [local go_sem ↓] X3e X1f
theorem Q5w (m:Mem) (lim:Int) (T:Nat):∀ n b,m.Q3n lim T n=some b -> b.length=T
 | 0,b,h=>by cases h
 | n + 1,b,h=>by
   unfold Mem.Q3n at h
   split at h
   . cases h; exact X3w n T
   . exact Q5w m lim T n b h
theorem Z0r {m:Mem} {lim:Int} {T n:Nat} (h:m.keeps lim (Q5u n T)=false):m.Q3n lim T (n + 1)=m.Q3n lim T n:=by
 show (if _ then _ else _)=_
 rw [if_neg (by rw [h]; simp)]
theorem Y5e {m:Mem} {lim:Int} {T n:Nat} (h:m.keeps lim (Q5u n T)=true) (h0:m.Q3n lim T n=none):m.Q3n lim T (n + 1)=some (Q5u n T):=by
 show (if _ then _ else _)=_
 rw [if_pos ⟨h,fun b hb=>by rw [h0] at hb; cases hb⟩]
theorem Y0y {m:Mem} {lim:Int} {T n:Nat} {b:List Bool} (h:m.keeps lim (Q5u n T)=true) (h0:m.Q3n lim T n=some b) (q:Bool) (hq:decide (countB (Q5u n T) < countB b)=q):m.Q3n lim T (n + 1)=some (if q then Q5u n T else b):=by
 show (if _ then _ else _)=_
 cases q with
 | true=>rw [if_pos ⟨h,fun b' hb=>by rw [h0] at hb; cases hb; exact of_decide_eq_true hq⟩]; rfl
 | false=>rw [if_neg (fun hn=>(of_decide_eq_false hq) (hn.2 b h0)),h0]; rfl
theorem X7q (w:World) (v:Value) (m:Mem) (lim:Int) (T:Nat) (hv:X0q w v m) (hT:m.classes.length=T) (hT8:T <= 8) (hT0:0 < T) (hm:OkM m T) :
    Calls Tryz.prog 128 #[v,.int .i64 lim] w fun e w'=>∃ x,e=.returned x /\ Q7a w' x (m.Q3n lim T (2 ^ T)) /\ Ext w w':=by
 have HV:=hid hv;obtain ⟨x,y,z,rfl,hx,hy,hz⟩:=hv;obtain ⟨X,capx,rfl,-,-,-⟩:=hx.opened;obtain ⟨Y,capy,rfl,-,-,-⟩:=hy.opened;obtain ⟨Z,capz,rfl,-,-,-⟩:=hz.opened;have HM:=hid hm;obtain ⟨lo,hlo⟩:∃ x,m.outside.length=x:=⟨_,rfl⟩;obtain ⟨li,hli⟩:∃ x,m.inflow.length=x:=⟨_,rfl⟩;rw [hT,hlo,hli] at HV ⊢;clear hx hy hz hm hT hlo hli;refine (callsIn_wide (n:=9)).1 ?_;refine callsIn_of_wp_marks Tryz.func128 rfl trivial ?_ rfl;simp only [Tryz.ntmps128,List.size_toArray,List.length_cons,List.length_nil,Nat.reduceAdd,Nat.reduceSub,Array.replicate_succ,Array.replicate_zero,List.push_toArray,List.append_toArray,List.nil_append,List.cons_append]
 gi_wp2_with (refine ⟨trivial,?_⟩; gi_at_call 112; refine halted ?_)
 change CallsIn _ _ _ _ _ (((w.alloc (.cells #[.string m.name,.int .i64 m.weight,.slice X T capx,.slice Y lo capy,.slice Z li capz] 69)).alloc (.cells #[.int .i64 lim] 3)).alloc (.cells #[.slice none 0 0] 82)) _;obtain ⟨W,hWW,k0,k1,k2,HXW,eW⟩:=X2z w 69 #[.string m.name,.int .i64 m.weight,.slice X T capx,.slice Y lo capy,.slice Z li capz] 3 #[.int .i64 lim] 82 #[.slice none 0 0];rw [hWW];clear hWW;refine (callsIn_wide.2 (Y0n W (T:Int))).mono ?_;rintro e w' ⟨rfl,hbe,hse,hxe⟩;rw [eW] at hbe hse ⊢;replace k0:=k0.ext hxe;replace k1:=k1.ext hxe;replace k2:=k2.ext hxe;have HXW':=hid (HXW.out.trans hxe);obtain ⟨gm,hgm⟩:∃ x,w.heap.size=x:=⟨_,rfl⟩;have HGM:=hid hgm;rw [hgm] at k0 k1 k2 hbe hse ⊢;have K0:=hid k0;have K1:=hid k1;clear k0 k1 hxe hgm HXW eW
 gi_wp2
 refine Q9s (n:=9) rfl (by omega) (gf:=170) (lb:=#[.pointer (some ⟨gm + 1 + 1 + 1,0,none⟩)]) rfl trivial (enters_of Tryz.func170 (by kernel_rfl) rfl)
  (X1n _ (gm + 1 + 1 + 1) T w' hT8 hbe) rfl (fun h1 h2=>Eq.trans h2 h1) (fun h=>h.same (by omega)) (fun h ho=>h.own ho)
  (fun k W=>∃ bv,Blk W (gm + 1 + 1) 82 #[bv] /\ Q7a W bv (m.Q3n lim T k) /\ Below (gm + 1 + 1) w' W)
  (fun k A B ⟨bv,h1,h2,h3⟩ hx=>⟨bv,h1.ext hx,h2.ext hx,Below.trans h3 (hx.mono (by have:=h1.lt; omega))⟩)
  (fun h ⟨bv,h1,h2,h3⟩=>⟨bv,h.blk h1,h2.turns h,Below.trans h3 (h.below (by omega))⟩)
  ⟨_,k2,rfl,Below.refl _ _⟩ ?frm ?assign ?body ?done
 case assign =>
  intro l x W K hK
  gi_wp2
  exact hK
 case done =>
  rintro D W hD ⟨bv,hb,hbr,hB⟩ hK;have hcell:=hb.cell 0
  gi_wp2
  refine ⟨by simp,.inl ⟨_,_,rfl,run_takeDeferred hK,?_⟩⟩
  have hturn:Turns w'.heap.size W (W.putObj D (.deferred none)):=⟨D,_,_,hD,hK,rfl,rfl⟩;exact ⟨_,results_tmp rfl _ _ _,⟨bv,rfl,hbr.turns hturn,Below.trans HXW'.out (Below.trans (hB.mono (by have:=HGM.out; omega)) (hturn.below (by have:=HXW'.out.size; omega)))⟩⟩
 case body =>
  rintro l k v W hk ⟨bv,hb,hbr,hB⟩ hv;have hTp:(2:Nat) ^ T <= 2 ^ 8:=Nat.pow_le_pow_right (by omega) hT8
  have hsz:=hB.size;have HB0:=hid (K0.out.below hB (by omega))
  have HB1:=hid (K1.out.below hB (by omega))
  have HBB:=hid hb;have HVW:=hid (HV.out.ext (Below.trans HXW'.out (hB.mono (by have:=HGM.out; omega))))
  have HBE:=hid hB;have hcll:=X3w k T;have hno:=Z0r (m:=m) (lim:=lim) (T:=T) (n:=k);have hnew:=Y5e (m:=m) (lim:=lim) (T:=T) (n:=k);have hless:=fun b=>Y0y (m:=m) (lim:=lim) (T:=T) (n:=k) (b:=b);have hal:=Q5w m lim T k;obtain ⟨cl,hcl⟩:∃ x,Q5u k T=x:=⟨_,rfl⟩;rw [hcl] at hv hcll hno hnew hless;have HOV:=hid hv;obtain ⟨Av,cv,rfl,-⟩:=hv.shape;have HKE0:=hid (fun (w1:World) (hx:Ext W w1)=>Q8y w1 _ _ m lim cl (HVW.out.ext hx) ((HOV.out.bools (by omega)).ext hx) (by omega) (by rw [hcll]; exact HM.out))
  have HCO:=hid (fun (w1:World) (hx:Ext W w1)=>Q5n w1 _ cl ((HOV.out.bools (by omega)).ext hx))
  have HLL:Hid (cl.length=T):=hid hcll;obtain ⟨kp,hkp⟩:∃ x,m.keeps lim cl=x:=⟨_,rfl⟩;rw [hkp] at hno hnew hless HKE0;have hdr:=(Ext.refl W).drew;obtain ⟨st,hst⟩:∃ x,m.Q3n lim T k=x:=⟨_,rfl⟩;rw [hst] at hbr hno hnew hless hal;have HBR:=hid hbr;have HSZ:Hid (gm + 1 + 1 + 1 + 1 <= W.heap.size):=hid (by omega)
  clear hb hv hcl hkp hst hsz hTp hcll;cases kp with
  | false =>
    have HNX:=hid (hno rfl);have HKE:=HKE0;clear hno hnew hless hbr hal hB
    gi_wp2
    refine Flow.X1e [.w,.w,.p,.w,.p,.w,.p,.p,.p,.w,.w,.w,.p,.p,.p] [0,1,2,3,4,5,6,7,8,9,10,11,12,13,14] [[],[],[],[0,1,2],[3],[4],[4,5],[4,6],[7],[7,8],[7],[7,9,10],[7,9,11],[4,7,12],[4,13]]
     [.c 0 (.agg #[.string m.name,.int .i64 m.weight,.slice X T capx,.slice Y lo capy,.slice Z li capz]),.c 1 (.int .i64 lim),.c 2 (.slice Av cl.length cv),.c 3 (.bool false),.c 4 (.bool false),.c 5 (undef),.c 6 (undef),.c 7 (undef),.c 8 (undef),.c 9 (undef),.c 10 (undef),.c 11 (undef),.c 12 (undef),.c 13 (undef),.c 14 (.bool false)]
     (by kernel_rfl) (by kernel_rfl) rfl (by kernel_rfl) ⟨?g0,?g1,?g2,?g3,?g4,?g5,?g6,?g7,?g8,?g9,?g10,?g11,?g12,?g13,?g14,trivial⟩ ?post
    case g0=>
     intro v w1 hx;intro bb hbb;intro K hK;have o1:bb.eval (.tmp 2)=.pointer (some ⟨gm,0,none⟩):=by rw [hbb]; dsimp only; (try simp (discharger:=decide) only [eval_put_ne]); rfl
     exact Q0p (.tmp 2) _ rfl Tryz.Y8q Tryz.X8y o1 (HB0.out.ext (hdr.trans hx)) rfl (hK _ _ (Ext.refl _) rfl)
    case g1=>
     intro v w1 hx;intro bb hbb;subst hbb;have n0:w1.cell? ⟨gm + 1,0,none⟩=some (.int .i64 lim):=(HB1.out.ext (hdr.trans hx)).cell 0;intro K hK;go_simp;exact hK _ _ (Ext.refl _) rfl
    case g2=>
     intro v w1 hx;intro bb hbb;subst hbb;refine ⟨_,fun w=>?_,rfl⟩;go_simp
    case g3=>
     intro v w1 hx;(repeat intro (zq:v _=_));intro bb hbb;subst hbb;intro K hK;go_simp;refine Q0e (HKE.out w1 (hdr.trans hx)) ?_;rintro e w2 ⟨rfl,hx2⟩;exact ⟨_,rfl,hK _ _ hx2 rfl⟩
    case g4 | g14=>
     intro v w1 hx;(repeat intro (zq:v _=_));intro bb hbb;subst hbb;refine ⟨_,fun w=>?_,rfl⟩;go_simp
    case g5 | g6 | g7 | g13=>
     intro v w1 hx;(repeat intro (zq:v _=_));intro bb hbb;exact Flow.Q1c (d:=16) rfl rfl (by rw [hbb]; simp only [size_put]; exact (by decide:16 < 29)) (by rw [hbb]; dsimp only; (try simp (discharger:=decide) only [eval_put_ne]); rw [Q0a (by simp only [size_put]; exact (by decide:16 < 29))]; assumption) rfl
    case g8 | g9 | g10 | g11 | g12=>
     intro v w1 hx;(repeat intro (zq:v _=_));intro bb hbb;exact Flow.X9j (d:=19) rfl rfl (by rw [hbb]; simp only [size_put]; exact (by decide:19 < 29)) (by rw [hbb]; dsimp only; (try simp (discharger:=decide) only [eval_put_ne]); rw [Q0a (by simp only [size_put]; exact (by decide:19 < 29))]; assumption) rfl
    case post =>
     intro v w1 hx;(iterate 15 intro (zq:v _=_));simp only [Flow.All,Flow.acts,Act.put];go_simp;have HX:=hid (hdr.trans hx);clear hx hdr;(repeat clear zq)
     gi_wp2
     exact ⟨X4k HX.out,Below.block HX.out _ (by have:=HSZ.out; omega),⟨bv,HBB.out.ext HX.out,by rw [HNX.out]; exact HBR.out.ext HX.out,Below.trans HBE.out (HX.out.mono (by have:=HSZ.out; omega))⟩⟩
  | true =>
    have HKE:=HKE0;cases st with
    | none =>
      have HNX:=hid (hnew rfl rfl);replace hbr:bv=.slice none 0 0:=hbr;subst hbr;clear hno hnew hless hal hB
      gi_wp2
      refine Flow.X1e [.w,.w,.p,.w,.p,.w,.p,.p,.p,.w,.w,.w,.p,.p,.p] [0,1,2,3,4,5,6,7,8,9,10,11,12,13,14] [[],[],[],[0,1,2],[3],[4],[4,5],[4,6],[7],[7,8],[7],[7,9,10],[7,9,11],[4,7,12],[4,13]]
       [.c 0 (.agg #[.string m.name,.int .i64 m.weight,.slice X T capx,.slice Y lo capy,.slice Z li capz]),.c 1 (.int .i64 lim),.c 2 (.slice Av cl.length cv),.c 3 (.bool true),.c 4 (.bool true),.c 5 (.slice none 0 0),.c 6 (.bool true),.c 7 (.bool true),.c 8 (undef),.c 9 (undef),.c 10 (undef),.c 11 (undef),.c 12 (undef),.c 13 (.bool true),.c 14 (.bool true)]
       (by kernel_rfl) (by kernel_rfl) rfl (by kernel_rfl) ⟨?g0,?g1,?g2,?g3,?g4,?g5,?g6,?g7,?g8,?g9,?g10,?g11,?g12,?g13,?g14,trivial⟩ ?post
      case g0=>
       intro v w1 hx;intro bb hbb;intro K hK;have o1:bb.eval (.tmp 2)=.pointer (some ⟨gm,0,none⟩):=by rw [hbb]; dsimp only; (try simp (discharger:=decide) only [eval_put_ne]); rfl
       exact Q0p (.tmp 2) _ rfl Tryz.Y8q Tryz.X8y o1 (HB0.out.ext (hdr.trans hx)) rfl (hK _ _ (Ext.refl _) rfl)
      case g1=>
       intro v w1 hx;intro bb hbb;subst hbb;have n0:w1.cell? ⟨gm + 1,0,none⟩=some (.int .i64 lim):=(HB1.out.ext (hdr.trans hx)).cell 0;intro K hK;go_simp;exact hK _ _ (Ext.refl _) rfl
      case g2=>
       intro v w1 hx;intro bb hbb;subst hbb;refine ⟨_,fun w=>?_,rfl⟩;go_simp
      case g3=>
       intro v w1 hx;(repeat intro (zq:v _=_));intro bb hbb;subst hbb;intro K hK;go_simp;refine Q0e (HKE.out w1 (hdr.trans hx)) ?_;rintro e w2 ⟨rfl,hx2⟩;exact ⟨_,rfl,hK _ _ hx2 rfl⟩
      case g4 | g14=>
       intro v w1 hx;(repeat intro (zq:v _=_));intro bb hbb;subst hbb;refine ⟨_,fun w=>?_,rfl⟩;go_simp
      case g5=>
       intro v w1 hx;(repeat intro (zq:v _=_));intro bb hbb;refine Flow.Q0l (d:=16) rfl rfl (by rw [hbb]; simp only [size_put]; exact (by decide:16 < 29)) (by rw [hbb]; dsimp only; (try simp (discharger:=decide) only [eval_put_ne]); rw [Q0a (by simp only [size_put]; exact (by decide:16 < 29))]; assumption) ?_
       subst hbb;have n0:w1.cell? ⟨gm + 1 + 1,0,none⟩=some (.slice none 0 0):=(HBB.out.ext (hdr.trans hx)).cell 0;intro K hK;go_simp;exact hK _ _ (Ext.refl _) rfl
      case g6 | g7 | g13=>
       intro v w1 hx;(repeat intro (zq:v _=_));intro bb hbb;refine Flow.Q0l (d:=16) rfl rfl (by rw [hbb]; simp only [size_put]; exact (by decide:16 < 29)) (by rw [hbb]; dsimp only; (try simp (discharger:=decide) only [eval_put_ne]); rw [Q0a (by simp only [size_put]; exact (by decide:16 < 29))]; assumption) ?_
       subst hbb;refine ⟨_,fun w=>?_,rfl⟩;go_simp
      case g8 | g9 | g10 | g11 | g12=>
       intro v w1 hx;(repeat intro (zq:v _=_));intro bb hbb;exact Flow.Q1c (d:=19) rfl rfl (by rw [hbb]; simp only [size_put]; exact (by decide:19 < 29)) (by rw [hbb]; dsimp only; (try simp (discharger:=decide) only [eval_put_ne]); rw [Q0a (by simp only [size_put]; exact (by decide:19 < 29))]; assumption) rfl
      case post =>
       intro v w1 hx;(iterate 15 intro (zq:v _=_));simp only [Flow.All,Flow.acts,Act.put];go_simp;have HX:=hid (hdr.trans hx);have hbx:=HBB.out.ext HX.out;have g3:w1.cell? ⟨gm + 1 + 1,0,none⟩=some (.slice none 0 0):=hbx.cell 0;have gf:=hbx.frozen 0;have HBX:=hid hbx;clear hx hdr hbx;(repeat clear zq)
       gi_wp2
       exact ⟨(X4k HX.out).trans (KeepsOthers.setCell _ _ _),(Q2p _ _ _ _ (by show gm + 1 + 1 + 1 ≠ gm + 1 + 1; omega)).trans (Below.block HX.out _ (by have:=HSZ.out; omega)),
        ⟨.slice Av cl.length cv,HBX.out.set 0 _,by rw [HNX.out]; exact Y8k (HOV.out.below HX.out) HBX.out (by decide),(Below.trans HBE.out (HX.out.mono (by have:=HSZ.out; omega))).setCell (p:=⟨gm + 1 + 1,0,none⟩) (Nat.le_refl _) _⟩⟩
    | some b =>
      obtain ⟨q,hq⟩:∃ q,decide (countB cl < countB b)=q:=⟨_,rfl⟩;have HNX:=hid (hless b rfl rfl q hq);have HQ:=hid hq;have hbl:=hal b rfl;obtain ⟨Ab,cb,rfl,-⟩:=(show Q0q W 0 4 .bool bv b from hbr).shape
      have HCB:=hid (fun (w1:World) (hx:Ext W w1)=>Q5n w1 _ b ((Q0q.bools (show Q0q W 0 4 .bool _ b from hbr) (by omega)).ext hx))
      obtain ⟨ab,hab⟩:∃ a,Ab=some a:=by
       rcases (show Q0q W 0 4 .bool _ b from hbr).2 with ⟨_,h0⟩ | ⟨g,cap,cur,he,_⟩
       . omega
       . cases he; exact ⟨_,rfl⟩
      subst hab;clear hno hnew hless hal hB hbr hq hbl
      gi_wp2
      refine Flow.X1e [.w,.w,.p,.w,.p,.w,.p,.p,.p,.w,.w,.w,.p,.p,.p] [0,1,2,3,4,5,6,7,8,9,10,11,12,13,14] [[],[],[],[0,1,2],[3],[4],[4,5],[4,6],[7],[7,8],[7],[7,9,10],[7,9,11],[4,7,12],[4,13]]
       [.c 0 (.agg #[.string m.name,.int .i64 m.weight,.slice X T capx,.slice Y lo capy,.slice Z li capz]),.c 1 (.int .i64 lim),.c 2 (.slice Av cl.length cv),.c 3 (.bool true),.c 4 (.bool true),.c 5 (.slice (some ab) b.length cb),.c 6 (.bool false),.c 7 (.bool false),.c 8 (.slice Av cl.length cv),.c 9 (.int .i64 (countB cl)),.c 10 (.slice (some ab) b.length cb),.c 11 (.int .i64 (countB b)),.c 12 (.bool (decide (countB cl < countB b))),.c 13 (.bool (decide (countB cl < countB b))),.c 14 (.bool (decide (countB cl < countB b)))]
       (by kernel_rfl) (by kernel_rfl) rfl (by kernel_rfl) ⟨?g0,?g1,?g2,?g3,?g4,?g5,?g6,?g7,?g8,?g9,?g10,?g11,?g12,?g13,?g14,trivial⟩ ?post
      case g0=>
       intro v w1 hx;intro bb hbb;intro K hK;have o1:bb.eval (.tmp 2)=.pointer (some ⟨gm,0,none⟩):=by rw [hbb]; dsimp only; (try simp (discharger:=decide) only [eval_put_ne]); rfl
       exact Q0p (.tmp 2) _ rfl Tryz.Y8q Tryz.X8y o1 (HB0.out.ext (hdr.trans hx)) rfl (hK _ _ (Ext.refl _) rfl)
      case g1=>
       intro v w1 hx;intro bb hbb;subst hbb;have n0:w1.cell? ⟨gm + 1,0,none⟩=some (.int .i64 lim):=(HB1.out.ext (hdr.trans hx)).cell 0;intro K hK;go_simp;exact hK _ _ (Ext.refl _) rfl
      case g2=>
       intro v w1 hx;intro bb hbb;subst hbb;refine ⟨_,fun w=>?_,rfl⟩;go_simp
      case g3=>
       intro v w1 hx;(repeat intro (zq:v _=_));intro bb hbb;subst hbb;intro K hK;go_simp;refine Q0e (HKE.out w1 (hdr.trans hx)) ?_;rintro e w2 ⟨rfl,hx2⟩;exact ⟨_,rfl,hK _ _ hx2 rfl⟩
      case g4 | g14=>
       intro v w1 hx;(repeat intro (zq:v _=_));intro bb hbb;subst hbb;refine ⟨_,fun w=>?_,rfl⟩;go_simp
      case g5=>
       intro v w1 hx;(repeat intro (zq:v _=_));intro bb hbb;refine Flow.Q0l (d:=16) rfl rfl (by rw [hbb]; simp only [size_put]; exact (by decide:16 < 29)) (by rw [hbb]; dsimp only; (try simp (discharger:=decide) only [eval_put_ne]); rw [Q0a (by simp only [size_put]; exact (by decide:16 < 29))]; assumption) ?_
       subst hbb;have n0:w1.cell? ⟨gm + 1 + 1,0,none⟩=some (.slice (some ab) b.length cb):=(HBB.out.ext (hdr.trans hx)).cell 0;intro K hK;go_simp;exact hK _ _ (Ext.refl _) rfl
      case g6 | g7 | g13=>
       intro v w1 hx;(repeat intro (zq:v _=_));intro bb hbb;refine Flow.Q0l (d:=16) rfl rfl (by rw [hbb]; simp only [size_put]; exact (by decide:16 < 29)) (by rw [hbb]; dsimp only; (try simp (discharger:=decide) only [eval_put_ne]); rw [Q0a (by simp only [size_put]; exact (by decide:16 < 29))]; assumption) ?_
       subst hbb;refine ⟨_,fun w=>?_,rfl⟩;go_simp
      case g8 | g12=>
       intro v w1 hx;(repeat intro (zq:v _=_));intro bb hbb;refine Flow.Q0l (d:=19) rfl rfl (by rw [hbb]; simp only [size_put]; exact (by decide:19 < 29)) (by rw [hbb]; dsimp only; (try simp (discharger:=decide) only [eval_put_ne]); rw [Q0a (by simp only [size_put]; exact (by decide:19 < 29))]; assumption) ?_
       subst hbb;refine ⟨_,fun w=>?_,rfl⟩;go_simp
      case g9=>
       intro v w1 hx;(repeat intro (zq:v _=_));intro bb hbb;refine Flow.Q0l (d:=19) rfl rfl (by rw [hbb]; simp only [size_put]; exact (by decide:19 < 29)) (by rw [hbb]; dsimp only; (try simp (discharger:=decide) only [eval_put_ne]); rw [Q0a (by simp only [size_put]; exact (by decide:19 < 29))]; assumption) ?_
       subst hbb;intro K hK;go_simp;refine Q0e (HCO.out w1 (hdr.trans hx)) ?_;rintro e w2 ⟨rfl,hx2⟩;exact ⟨_,rfl,hK _ _ hx2 rfl⟩
      case g10=>
       intro v w1 hx;(repeat intro (zq:v _=_));intro bb hbb;refine Flow.Q0l (d:=19) rfl rfl (by rw [hbb]; simp only [size_put]; exact (by decide:19 < 29)) (by rw [hbb]; dsimp only; (try simp (discharger:=decide) only [eval_put_ne]); rw [Q0a (by simp only [size_put]; exact (by decide:19 < 29))]; assumption) ?_
       subst hbb;have n0:w1.cell? ⟨gm + 1 + 1,0,none⟩=some (.slice (some ab) b.length cb):=(HBB.out.ext (hdr.trans hx)).cell 0;intro K hK;go_simp;exact hK _ _ (Ext.refl _) rfl
      case g11=>
       intro v w1 hx;(repeat intro (zq:v _=_));intro bb hbb;refine Flow.Q0l (d:=19) rfl rfl (by rw [hbb]; simp only [size_put]; exact (by decide:19 < 29)) (by rw [hbb]; dsimp only; (try simp (discharger:=decide) only [eval_put_ne]); rw [Q0a (by simp only [size_put]; exact (by decide:19 < 29))]; assumption) ?_
       subst hbb;intro K hK;go_simp;refine Q0e (HCB.out w1 (hdr.trans hx)) ?_;rintro e w2 ⟨rfl,hx2⟩;exact ⟨_,rfl,hK _ _ hx2 rfl⟩
      case post =>
       intro v w1 hx (q0:v 0=_) (q1:v 1=_) (q2:v 2=_) (q3:v 3=_) (q4:v 4=_) (q5:v 5=_) (q6:v 6=_) (q7:v 7=_) (q8:v 8=_) (q9:v 9=_) (q10:v 10=_) (q11:v 11=_) (q12:v 12=_) (q13:v 13=_) (q14:v 14=_);simp only [Flow.All,Flow.acts,Act.put];go_simp;rw [HQ.out];cases q with
       | false =>
         have HX:=hid (hdr.trans hx);clear hx hdr q0 q1 q2 q3 q4 q5 q6 q7 q8 q9 q10 q11 q12 q13 q14
         gi_wp2
         exact ⟨X4k HX.out,Below.block HX.out _ (by have:=HSZ.out; omega),⟨(.slice (some ab) b.length cb),HBB.out.ext HX.out,by rw [HNX.out]; exact HBR.out.ext HX.out,Below.trans HBE.out (HX.out.mono (by have:=HSZ.out; omega))⟩⟩
       | true =>
         have HX:=hid (hdr.trans hx);have hbx:=HBB.out.ext HX.out;have g3:w1.cell? ⟨gm + 1 + 1,0,none⟩=some (.slice (some ab) b.length cb):=hbx.cell 0;have gf:=hbx.frozen 0;have HBX:=hid hbx;clear hx hdr hbx q0 q1 q2 q3 q4 q5 q6 q7 q8 q9 q10 q11 q12 q13 q14
         gi_wp2
         exact ⟨(X4k HX.out).trans (KeepsOthers.setCell _ _ _),(Q2p _ _ _ _ (by show gm + 1 + 1 + 1 ≠ gm + 1 + 1; omega)).trans (Below.block HX.out _ (by have:=HSZ.out; omega)),
          ⟨.slice Av cl.length cv,HBX.out.set 0 _,by rw [HNX.out]; exact Y8k (HOV.out.below HX.out) HBX.out (by decide),(Below.trans HBE.out (HX.out.mono (by have:=HSZ.out; omega))).setCell (p:=⟨gm + 1 + 1,0,none⟩) (Nat.le_refl _) _⟩⟩
end Go.Proofs
namespace Go.Flow
open Go.RowKit Go.Tw
def Z9g (D:Nat):Deferred:={ target:=.collected D,args:=#[] }
def marks (l:List Nat):List Deferred:=l.map Z9g
structure Marked (W:World) (l:List Nat):Prop where
 nd:l.Nodup
 all:∀ D,D ∈ l -> W.heap[D]?=some (.deferred (some []))
theorem Marked.nil (W:World):Marked W []:=⟨List.nodup_nil,fun D h=>by cases h⟩
theorem Marked.lt {W:World} {l:List Nat} (h:Marked W l) {D:Nat} (hD:D ∈ l):D < W.heap.size:=(Array.getElem?_eq_some_iff.1 (h.all D hD)).1
theorem Marked.ext {W W':World} {l:List Nat} (h:Marked W l) (hx:Ext W W'):Marked W' l:=⟨h.nd,fun D hD=>by rw [Below.block hx _ (h.lt hD)]; exact h.all D hD⟩
theorem Marked.keeps {W W':World} {l:List Nat} (h:Marked W l) (hx:KeepsOthers W W'):Marked W' l:=⟨h.nd,fun D hD=>hx.same _ _ (h.all D hD) rfl⟩
theorem Marked.turns {B:Nat} {W W':World} {l:List Nat} (h:Marked W l) (hB:∀ D,D ∈ l -> D < B) (hx:Turns B W W'):Marked W' l:=⟨h.nd,fun D hD=>by rw [hx.same (hB D hD)]; exact h.all D hD⟩
theorem Marked.cons {W:World} {l:List Nat} {D:Nat} (h:Marked W l) (hD:W.heap[D]?=some (.deferred (some []))) (hn:∀ E,E ∈ l -> E < D):Marked W (D :: l):=by
 refine ⟨List.nodup_cons.2 ⟨fun hm=>Nat.lt_irrefl _ (hn D hm),h.nd⟩,fun E hE=>?_⟩
 rcases List.mem_cons.1 hE with rfl | hE
 . exact hD
 . exact h.all E hE
theorem Q4x {F:Fence} {n:Nat} {P:Program} {fn:Func} {tmps:Array Value} {R:Ending -> World -> Prop} {n0:Nat} (J:World -> Prop) (hJ:∀ A B,J A -> Turns n0 A B -> J B)
    (hR:∀ W,J W -> ∃ v,(results fn tmps).run P W=.ok v W /\ R (.returned v) W) :
    ∀ (l:List Nat) (W:World),Marked W l -> (∀ D,D ∈ l -> n0 <= D) -> J W -> LeavesInM F n P fn tmps R (marks l) .returning W
 | [],W,_,_,h=>hR W h
 | D :: l,W,hm,hn,h=>by
   have hD:=hm.all D (List.mem_cons_self ..);have hlt:=hm.lt (List.mem_cons_self ..);refine ⟨by simp,.inl ⟨D,_,rfl,run_takeDeferred hD,Q4x J hJ hR l _ ⟨(List.nodup_cons.1 hm.nd).2,fun E hE=>?_⟩ (fun E hE=>hn E (List.mem_cons_of_mem _ hE)) (hJ _ _ h ⟨D,_,_,hn D (List.mem_cons_self ..),hD,rfl,rfl⟩)⟩⟩
   have hne:E ≠ D:=fun e=>(List.nodup_cons.1 hm.nd).1 (e ▸ hE);rw [World.putObj_heap_other hne];exact hm.all E (List.mem_cons_of_mem _ hE)
theorem Y6t {F:Fence} {n:Nat} {P:Program} {Q:Exit -> Act -> World -> Prop} {a:Act} {w:World} {c:Code} (j N k0:Nat) (I:Nat -> Act -> World -> Prop)
    (hj:∀ k a w,I k a w -> intOf (a.tmps.getD j undef)=(k:Int)) (h0:I k0 a w)
    (round:∀ k a w,I k a w -> ∀ K:Act -> World -> Prop,(∀ a' w',k < N -> I (k + 1) a' w' -> K a' w') -> c.wpIn F n P (Exit.then K Q) a w):(Code.loop c).wpIn F n P Q a w:=by
 refine wpIn_loop (fun a w=>∃ k,I k a w) (fun a _=>N - (intOf (a.tmps.getD j undef)).toNat) ⟨k0,h0⟩ ?_;rintro a w ⟨k,hk⟩;refine round k a w hk _ fun a' w' hlt h'=>⟨⟨k + 1,h'⟩,?_⟩;rw [hj _ _ _ h',hj _ _ _ hk];omega
def X2w (A:Array Value) (js:List Nat) (u:Nat -> Value):Array Value:=js.foldl (fun A j=>A.setIfInBounds j (u j)) A
theorem X5m {F:Fence} {n:Nat} {P:Program} {Q:Exit -> Act -> World -> Prop} {tmps:Array Value} {ds0:List Deferred} {w:World} {c:Code} (j N k0:Nat) (js:List Nat) (Ds0:List Nat) (R:Nat -> Act -> List Nat -> World -> Prop)
    (hj:∀ k a Ds w,R k a Ds w -> intOf (a.tmps.getD j undef)=(k:Int)) (hds:ds0=marks Ds0) (hself:X2w tmps js (fun i=>tmps.getD i undef)=tmps) (h0:R k0 ⟨tmps,ds0⟩ Ds0 w)
    (round:∀ k u Ds w,R k ⟨X2w tmps js u,marks Ds⟩ Ds w -> ∀ K:Act -> World -> Prop,
     (∀ a' w' Ds',k < N -> a'.tmps=X2w tmps js (fun i=>a'.tmps.getD i undef) -> a'.defers=marks Ds' -> R (k + 1) a' Ds' w' -> K a' w') -> c.wpIn F n P (Exit.then K Q) ⟨X2w tmps js u,marks Ds⟩ w) :
    (Code.loop c).wpIn F n P Q ⟨tmps,ds0⟩ w:=by
 refine Y6t j N k0 (fun k a w=>∃ Ds,a=⟨X2w tmps js (fun i=>a.tmps.getD i undef),marks Ds⟩ /\ R k a Ds w) (fun k a w ⟨Ds,_,h⟩=>hj k a Ds w h) ⟨Ds0,by rw [hself,hds],h0⟩ ?_
 rintro k a w ⟨Ds,ha,hR⟩ K hK;have key:∀ u,a=⟨X2w tmps js u,marks Ds⟩ -> c.wpIn F n P (Exit.then K Q) a w:=by
  rintro u rfl;refine round k u Ds w hR K fun a' w' Ds' hlt h1 h2 h3=>hK a' w' hlt ⟨Ds',?_,h3⟩;rw [<- h1,<- h2]
 exact key _ ha
theorem Y9t {n:Nat} {P:Program} {Q:Exit -> Act -> World -> Prop} {a:Act} {w:World} {c:Code} (h:c.wpIn Fence.wide n P (Exit.noGoto Q) a w):(Code.scope c).wpIn Fence.wide n P Q a w :=
 wpIn_wide.2 (wp_scope_straight (wpIn_wide.1 h))
end Go.Flow
namespace Go.Proofs
open Go.RowKit Go.Tw Go.Flow
attribute [local go_sem] Oper.semAt_some
def Y0p (q:Value × Grp):List Value:=[q.1,.int .i64 q.2.weight]
theorem Y0z (q:Value × Grp):(Y0p q).length=2:=rfl
def GrR (w:World) (gl:List (Value × Grp)):Prop:=∀ q ∈ gl,Q0q w 0 3 (.int .i64) q.1 q.2.members
theorem GrR.nil (w:World):GrR w []:=fun _ hq=>by simp at hq
theorem GrR.ext {w w':World} {gl:List (Value × Grp)} (h:GrR w gl) (hx:Ext w w'):GrR w' gl:=fun q hq=>(h q hq).below hx
theorem GrR.snoc {w:World} {gl:List (Value × Grp)} {q:Value × Grp} (h:GrR w gl) (hq:Q0q w 0 3 (.int .i64) q.1 q.2.members):GrR w (gl ++ [q]):=fun z hz=>by
 rcases List.mem_append.1 hz with hz | hz
 . exact h z hz
 . rw [List.mem_singleton.1 hz]; exact hq
def X4i (s:Q0b) (i:Nat):List Int:=(Q9e s i).map Int.ofNat
def Y6l (s:Q0b) (i:Nat):Grp:=⟨X4i s i,Y0x s (Q9e s i)⟩
def Q5a (s:Q0b) (k:Nat):List Grp:=(X1b (Y1p s) k).map (Y6l s)
theorem Y9h (s:Q0b):Q5a s s.members.length=Q5b s:=by rw [X2a]; rfl
theorem Y9z {s:Q0b} {k:Nat} (h:Z0m (Y1p s) k=true):Q5a s (k + 1)=Q5a s k ++ [Y6l s k]:=by
 unfold Q5a; rw [Q9y,if_pos h,List.map_append]; rfl
theorem Z3v {s:Q0b} {k:Nat} (h:Z0m (Y1p s) k=false):Q5a s (k + 1)=Q5a s k:=by
 unfold Q5a; rw [Q9y,if_neg (by simp [h]),List.append_nil]
def X3k (s:Q0b) (j i:Nat):List Int:=(Q4r (Y1p s) j i).map Int.ofNat
theorem X8p (s:Q0b) (j i:Nat):X3k s (j + 1) i=X3k s j i ++ if decide (Q0c s.members j=Q0c s.members i) then [(j:Int)] else []:=by
 unfold X3k;rw [X4r,List.map_append]
 by_cases h:Q0c s.members j=Q0c s.members i
 . rw [if_pos (by simpa [Y1p] using h),if_pos (by simpa using h)]; rfl
 . rw [if_neg (by simpa [Y1p] using h),if_neg (by simpa using h)]; rfl
theorem X5s (s:Q0b) (i:Nat):∀ j,(X3k s j i).length <= j
 | 0=>by simp [X3k,Q4r]
 | j + 1=>by
   have h:=X5s s i j;rw [X8p,List.length_append]
   split <;> simp <;> omega
def X7i (s:Q0b) (l:List Nat) (c j:Nat):Int:=((l.take j).map fun k=>if (Q2e s k).keeps s.limit (Q5u c s.ships.length) then Q0i s.members k else 0).sum
theorem X8b {s:Q0b} {l:List Nat} {c j:Nat} (hj:j < l.length):X7i s l c (j + 1)=X7i s l c j + if (Q2e s l[j]).keeps s.limit (Q5u c s.ships.length) then Q0i s.members l[j] else 0:=by
 unfold X7i;rw [List.take_succ_eq_append_getElem hj,List.map_append,List.sum_append]; simp
theorem Y2q (s:Q0b) (l:List Nat) (c:Nat):X7i s l c l.length=X7s s l c:=by unfold X7i X7s; rw [List.take_length]
theorem X9t {s:Q0b} (hv:Q1b s) {l:List Nat} (hl:∀ k ∈ l,k < s.members.length) (c:Nat):∀ j,j <= l.length -> 0 <= X7i s l c j /\ X7i s l c j <= 1000 * j
 | 0,_=>by simp [X7i]
 | j + 1,h=>by
   have ih:=X9t hv hl c j (by omega)
   have hw:=hv.weights l[j] (hl _ (List.getElem_mem (by omega)))
   rw [X8b (by omega)]
   split <;> omega
def Z1e (s:Q0b) (l:List Nat) (j:Nat):Int:=(List.range j).foldl (fun m n=>max m (X7s s l n)) 0
theorem Y2z (s:Q0b) (l:List Nat) (j:Nat):Z1e s l (j + 1)=max (Z1e s l j) (X7s s l j):=by
 unfold Z1e; rw [List.range_succ,List.foldl_append]; rfl
theorem Y4u {s:Q0b} (hv:Q1b s) {l:List Nat} (hl:∀ k ∈ l,k < s.members.length) (h8:l.length <= 8):∀ j,0 <= Z1e s l j /\ Z1e s l j <= 8000
 | 0=>by simp [Z1e]
 | j + 1=>by
   have ih:=Y4u hv hl h8 j;have h:=X9t hv hl j l.length (Nat.le_refl _);rw [Y2q] at h;rw [Y2z];omega
theorem Q8x (f:Nat -> List Int):∀ k,(X1b f k).length <= k
 | 0=>by simp [X1b]
 | k + 1=>by
   have:=Q8x f k;rw [Q9y,List.length_append]
   split <;> simp <;> omega
theorem Z7l {s:Q0b} (hv:Q1b s) (k:Nat):0 <= ((Q5a s k).map Grp.weight).sum /\ ((Q5a s k).map Grp.weight).sum <= 8000 * k:=by
 have hl:∀ i,0 <= (Y6l s i).weight /\ (Y6l s i).weight <= 8000:=fun i=>by
  have hm:∀ x ∈ Q9e s i,x < s.members.length:=fun x hx=>List.mem_range.1 (List.mem_filter.1 hx).1;have h8:(Q9e s i).length <= 8:=by
   have h1:(Q9e s i).length <= (List.range s.members.length).length:=List.length_filter_le ..;rw [List.length_range] at h1;have:=hv.some; omega
  exact Y4u hv hm h8 _
 have key:∀ l:List Nat,0 <= ((l.map (Y6l s)).map Grp.weight).sum /\ ((l.map (Y6l s)).map Grp.weight).sum <= 8000 * l.length:=by
  intro l
  induction l with
  | nil=>simp
  | cons x l ih =>
    have:=hl x;simp only [List.map_cons,List.sum_cons,List.length_cons];omega
 have h1:=key (X1b (Y1p s) k);have h2:=Q8x (Y1p s) k;unfold Q5a;omega
end Go.Proofs
namespace Go.Proofs
open Go.RowKit Go.Tw Go.Flow
attribute [local go_sem] Oper.semAt_some
theorem Tryz.Z8z:(Tryz.prog.info? 153).map (fun i=>(i.zero,i.size,i.bytes))=some (some (.agg #[.slice none 0 0,.int .i64 0]),2,32):=by kernel_rfl
theorem Y9f {w w0:World} {B:Nat} {T:TypeId} {v:Value} {qs:List (Value × Grp)} (h:Q0z w B T 2 Y0p v qs) (hl:qs.length <= 100000) (hr:∀ q ∈ qs,Q0d w0 q.1 q.2.members) (hx:Ext w0 w):Q4j w v (qs.map (·.2)):=by
 refine h.rowsOf (by simp) (by simp; omega) Y0z (fun j h1 h2=>?_) (fun c c' x hc h=>?_)
 . have hq:=List.getElem_mem h1
   simp only [List.getElem_map];exact ⟨(hr _ hq).ext hx,rfl⟩
 . exact ⟨by rw [<- hc 0 (by omega)]; exact h.1,by rw [<- hc 1 (by omega)]; exact h.2⟩
theorem Y5l (w:World) (v:Value) (p:List Grp) (hv:Q4j w v p) (hl:p.length <= 4096) :
    Calls Tryz.prog 75 #[v] w fun e w'=>∃ u,e=.returned u /\ Q4j w' u p /\ Ext w w':=by
 obtain ⟨i0,hi,hz0,hz1,hz2⟩:=info_parts Tryz.Z8z;obtain ⟨A,cap,rfl,-,hcap,hc⟩:=hv.opened;have HC:=hid hc;obtain ⟨n,hn⟩:∃ n,p.length=n:=⟨_,rfl⟩;have HN:=hid hn;rw [hn] at hl HC ⊢;clear hv hc hn hcap;go_enter Tryz.func75,Tryz.ntmps75;go_wp2_with fail
 go_loopw [3,8] (fun vo i wr=>∃ (k:Nat) (qs:List (Value × Grp)),k <= n /\ i=.int .i64 k /\ Q0z wr w.heap.size 153 2 Y0p vo qs /\ qs.map (·.2)=p.take k /\ (∀ q ∈ qs,Q0d w q.1 q.2.members) /\ Ext w wr) (fun _ i _=>n - (intOf i).toNat)
 case atStart=>exact ⟨0,[],Nat.zero_le _,rfl,Q0z.nil _ _ _ _ _,rfl,(fun q hq=>by simp at hq),Ext.refl _⟩
 case round =>
  obtain ⟨k,qs,hk,rfl,hown,hqs,hqr,hxr⟩:=hrel;have hqk:qs.length=k:=by rw [<- List.length_map (f:=(·.2)),hqs,List.length_take,HN.out]; omega
  have HQR:=hid hqr;have HQS:=hid hqs
  by_cases hlt:k < n
  . have hkI:(k:Int) < n:=by omega
    obtain ⟨b,off,x,rfl,hb,e0,e1,hi0⟩:=HC.out k hlt;replace e0:=hxr.cell e0;replace e1:=hxr.cell e1;obtain ⟨X,capx,rfl,-,-,-⟩:=hi0.opened;have hpk:p.take (k + 1)=p.take k ++ [⟨Q5i p k,Q8d p k⟩]:=by
     rw [List.take_succ_eq_append_getElem (by rw [HN.out]; exact hlt),Q5i,Q8d,Q0v _ (by rw [HN.out]; exact hlt)]
    have HI:=hid hi0;have HPK:=hid hpk;obtain ⟨cs,hcs⟩:∃ c,Q5i p k=c:=⟨_,rfl⟩;obtain ⟨cb,hcb⟩:∃ c,Q8d p k=c:=⟨_,rfl⟩;rw [hcs] at e0 HI HPK;rw [hcb] at e1 HPK;have hbx:=Ext.box wr (.cells #[.slice X cs.length capx,.int .i64 cb] 64);have HXR:=hid hxr;obtain ⟨wq,rfl⟩:∃ Z,Z=wr:=⟨_,rfl⟩;clear hqs hqr hi0 hpk hcs hcb;go_wp2_with (at_builtin; refine halted ?_);unfold Q1i;have hes:(wq.alloc (.cells #[.slice X cs.length capx,.int .i64 cb] 64)).heap.size=wq.heap.size + 1:=by simp
    obtain ⟨wb,hwb⟩:∃ Z,wq.alloc (.cells #[.slice X cs.length capx,.int .i64 cb] 64)=Z:=⟨_,rfl⟩;rw [hwb] at hbx hes ⊢;rw [<- hes];have hown1:=hown.below hbx;have hxb:=hxr.trans hbx;have HXB:=hid hxb;clear hown hwb
    (at_builtin; refine wpList_append_own _ rfl _ _ 119 rfl (w.heap.size) 153 i0 (.agg #[.slice none 0 0,.int .i64 0]) 2 32 Tryz.underlying119 hi hz0 hz1 hz2 rfl (by decide) _ _ _ rfl (World.ownsRow.alloc hown1 _) ⟨wb.heap.size,0,none⟩ 1 1 [.slice X cs.length capx,.int .i64 cb] rfl rfl ?_ ?_ ?_ ?_ ?_ ?_; exact X9i _ _ _; (focus (simp [Value.oneCell'])); (focus (unfold maxLen; omega)); (focus omega); (focus (have:=hxb.size; simp at this ⊢; omega)); intro v' w1 hown' hgrow _)
    have HX1:=hid (Q2w hxb hown1 (Nat.le_refl _) hgrow);have HOW:=hid (show Q0z w1 w.heap.size 153 2 Y0p v' (qs ++ [(.slice X cs.length capx,⟨cs,cb⟩)]) from Q0z.snoc hown')
    clear hgrow hown' hown1 hbx e0 e1 hxb;go_wp2;go_roundw
    case rel=>exact ⟨k + 1,qs ++ [(.slice X cs.length capx,⟨cs,cb⟩)],by omega,by go_num,HOW.out,by rw [List.map_append,HQS.out,HPK.out]; rfl,
     (fun q hq=>by
      rcases List.mem_append.1 hq with hq | hq
      . exact HQR.out q hq
      . rw [List.mem_singleton.1 hq]; exact HI.out),HX1.out⟩
    case measure=>simp [intOf]; omega
  . have hkI:¬ (k:Int) < n:=by omega
    have hkn:k=n:=by omega
    subst hkn;have hp:p.take k=p:=by rw [List.take_of_length_le (by rw [HN.out]; omega)]
    have hr:=Y9f hown (by omega) HQR.out hxr
    rw [HQS.out,hp] at hr;have HR:=hid hr;clear hown hqs hqr hr hp;go_wp2;go_ret;exact ⟨_,rfl,HR.out,hxr⟩
end Go.Proofs
