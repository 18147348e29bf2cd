/- Part of the proof of a law. -/
import Derived.Test.YthnobngcipaljaaGreatDoorPk03
import Derived.Laws.MakeOwn
import Derived.ChangeKeysEq
set_option maxRecDepth 1000000
set_option maxHeartbeats 64000000
set_option linter.unusedVariables false
set_option linter.unusedSimpArgs false
set_option linter.constructorNameAsVariable false
namespace Go.Proofs
open Go.RowKit Go.Tw Go.Flow Tryz
attribute [local go_sem] Oper.semAt_some
theorem fzb04 {a b:Nat} (h:a < b:=by rw [hbb]; simp only [Flow.size_put]; show _ < 29; decide):a < b:=h
theorem fzc04 {u:Type} {a b:u} (h:a=b:=by rw [hbb]; dsimp only; (try simp (discharger:=decide) only [Flow.eval_put_ne]); rw [Flow.Q0a (by simp only [Flow.size_put]; show _ < 29; decide)]; assumption):a=b:=h
theorem fze04 {u:Type} {a b:u} (h:a=b:=by rw [hbb]; dsimp only; (try simp (discharger:=decide) only [Flow.eval_put_ne]); rfl):a=b:=h
theorem Q6z (w:World) (v:Value) (l:List Bool) (hv:Q1v w v l) :
    Calls prog 129 #[v] w fun e w'=>e=.returned (.int .i64 (countB l)) /\ Ext w w':=by
 obtain ⟨A,Qq,rfl,hl,Kq,hc⟩:=hv.opened;clear hv;go_enter func129,ntmps129;go_wp2
 go_loopw [3,8] (fun n i wr=>∃ (k:Nat) (m:Int),k <= l.length /\ i=.int .i64 k /\ n=.int .i64 m /\ 0 <= m /\ m <= k /\ m + countB (l.drop k)=countB l /\ Ext w wr) (fun _ i _=>l.length - (intOf i).toNat)
 case atStart=>exact ⟨0,0,Nat.zero_le _,rfl,rfl,Int.le_refl _,Int.le_refl _,by simp,Ext.refl _⟩
 case round =>
  obtain ⟨k,m,hk,rfl,rfl,Xm,lW,hr,hx⟩:=hrel;have HR:=Lib.hid hr; clear hr
  by_cases Uq:k < l.length
  . obtain ⟨b,off,rfl,hb,Wq⟩:=hc k Uq
    replace Wq:=hx.cell Wq;have HD:=Lib.hid (Y5b Uq);clear hc;cases hb:bx l k
    . rw [hb] at Wq
      have HB:=Lib.hid hb; clear hb;go_wp2;go_roundw
      case rel=>exact ⟨k + 1,m,by omega,by go_num,rfl,Xm,by omega,by rw [<- HR.out,HD.out,Y1c,HB.out]; simp,hx⟩
      case measure=>simp [intOf]; omega
    . rw [hb] at Wq
      have HB:=Lib.hid hb; clear hb;go_wp2;go_roundw
      case rel=>exact ⟨k + 1,m + 1,by omega,by go_num,by go_num,by omega,by omega,by rw [<- HR.out,HD.out,Y1c,HB.out]; simp; omega,hx⟩
      case measure=>simp [intOf]; omega
  . clear hc
    go_wp2;go_ret;exact ⟨Q1m (by have:=HR.out; rw [List.drop_eq_nil_of_le (by omega)] at this; rw [<- this]; show m=m + 0; omega),hx⟩
def Q8j (w:World) (x:Value) (o:Option (List Bool)):Prop:=match o with
 | none=>x=.slice none 0 0
 | some b=>Q0q w 0 4 .bool x b
theorem Q8j.ext {w w':World} {x:Value} {o:Option (List Bool)} (h:Q8j w x o) (hx:Ext w w'):Q8j w' x o:=by
 cases o with
 | none=>exact h
 | some b=>exact Q0q.below h hx
theorem Q8j.turns {B:Nat} {w w':World} {x:Value} {o:Option (List Bool)} (h:Q8j w x o) (hx:Turns B w w'):Q8j w' x o:=by
 cases o with
 | none=>exact h
 | some b=>exact hx.own h
theorem X6n (w:World) (a:Addr) (n Qq:Nat):(binOp .eql 82 (.slice (some a) n Qq) (.slice none 0 0)).run prog w=.ok (.bool false) w:=by kernel_rfl
theorem X3s (w:World):(binOp .eql 82 (.slice none 0 0) (.slice none 0 0)).run prog w=.ok (.bool true) w:=by kernel_rfl
attribute [local go_sem ↓] X6n X3s
theorem Q7k (m:Mem) (lim:Int) (T:Nat):∀ n b,m.Q4s lim T n=some b -> b.length=T
 | 0,b,h=>by cases h
 | n + 1,b,h=>by
   unfold Mem.Q4s at h
   split at h
   . cases h; exact X3m n T
   . exact Q7k m lim T n b h
theorem Z4z {m:Mem} {lim:Int} {T n:Nat} (h:m.keeps lim (Q6n n T)=false):m.Q4s lim T (n + 1)=m.Q4s lim T n:=by
 show (if _ then _ else _)=_
 rw [if_neg (by rw [h]; simp)]
theorem Z0o {m:Mem} {lim:Int} {T n:Nat} (h:m.keeps lim (Q6n n T)=true) (h0:m.Q4s lim T n=none):m.Q4s lim T (n + 1)=some (Q6n n T):=by
 show (if _ then _ else _)=_
 rw [if_pos ⟨h,fun b hb=>by rw [h0] at hb; cases hb⟩]
theorem Y7w {m:Mem} {lim:Int} {T n:Nat} {b:List Bool} (h:m.keeps lim (Q6n n T)=true) (h0:m.Q4s lim T n=some b) (q:Bool) (hq:decide (countB (Q6n n T) < countB b)=q):m.Q4s lim T (n + 1)=some (if q then Q6n n T else b):=by
 show (if _ then _ else _)=_
 cases q with
 | true=>rw [if_pos ⟨h,fun b' hb=>by rw [h0] at hb; cases hb; exact of_decide_eq_true hq⟩]; rfl
 | false=>rw [if_neg (fun hn=>(of_decide_eq_false hq) (hn.2 b h0)),h0]; rfl
theorem Y4a (w:World) (v:Value) (m:Mem) (lim:Int) (T:Nat) (hv:X2i w v m) (hT:m.classes.length=T) (jJ:T <= 8) (cG:0 < T) (hm:OkM m T) :
    Calls prog 128 #[v,.int .i64 lim] w fun e w'=>∃ x,e=.returned x /\ Q8j w' x (m.Q4s lim T (2 ^ T)) /\ Ext w w':=by
 have HV:=Lib.hid hv;obtain ⟨x,y,z,rfl,hx,hy,hz⟩:=hv;obtain ⟨X,Sq,rfl,-,-,-⟩:=hx.opened;obtain ⟨Y,Jq,rfl,-,-,-⟩:=hy.opened;obtain ⟨Z,Cq,rfl,-,-,-⟩:=hz.opened;have HM:=Lib.hid hm;obtain ⟨lo,Sx⟩:∃ x,m.outside.length=x:=⟨_,rfl⟩;obtain ⟨li,mj⟩:∃ x,m.inflow.length=x:=⟨_,rfl⟩;rw [hT,Sx,mj] at HV ⊢;clear hx hy hz hm hT Sx mj;refine (callsIn_wide (n:=9)).1 ?_;refine callsIn_of_wp_marks func128 rfl trivial ?_ rfl;simp only [ntmps128,List.size_toArray,List.length_cons,List.length_nil,Nat.reduceAdd,Nat.reduceSub,Array.replicate_succ,Array.replicate_zero,List.push_toArray,List.append_toArray,List.nil_append,List.cons_append]
 gi_wp2_with (refine ⟨trivial,?_⟩; gi_at_call 112; refine halted ?_)
 change CallsIn _ _ _ _ _ (((w.alloc (.cells #[.string m.name,.int .i64 m.weight,.slice X T Sq,.slice Y lo Jq,.slice Z li Cq] 69)).alloc (.cells #[.int .i64 lim] 3)).alloc (.cells #[.slice none 0 0] 82)) _;obtain ⟨W,Mq,k0,k1,k2,Rq,eW⟩:=X0c w 69 #[.string m.name,.int .i64 m.weight,.slice X T Sq,.slice Y lo Jq,.slice Z li Cq] 3 #[.int .i64 lim] 82 #[.slice none 0 0];rw [Mq];clear Mq;refine (callsIn_wide.2 (Y5t W (T:Int))).mono ?_;rintro e w' ⟨rfl,S0,SQ,Ry⟩;rw [eW] at S0 SQ ⊢;replace k0:=k0.ext Ry;replace k1:=k1.ext Ry;replace k2:=k2.ext Ry;have HXW':=Lib.hid (Rq.out.trans Ry);obtain ⟨gm,fx⟩:∃ x,w.heap.size=x:=⟨_,rfl⟩;have NZ:=Lib.hid fx;rw [fx] at k0 k1 k2 S0 SQ ⊢;have K0:=Lib.hid k0;have K1:=Lib.hid k1;clear k0 k1 Ry fx Rq eW
 gi_wp2
 refine X2o (n:=9) rfl (by omega) (gf:=170) (lb:=#[.pointer (some ⟨gm + 1 + 1 + 1,0,none⟩)]) rfl trivial (enters_of func170 (by kernel_rfl) rfl)
  (X6a _ (gm + 1 + 1 + 1) T w' jJ S0) rfl (fun h1 h2=>Eq.trans h2 h1) (fun h=>h.same (by omega)) (fun h ho=>h.own ho)
  (fun k W=>∃ bv,Blk W (gm + 1 + 1) 82 #[bv] /\ Q8j W bv (m.Q4s lim T k) /\ Below (gm + 1 + 1) w' W)
  (fun k A B ⟨bv,h1,h2,h3⟩ hx=>⟨bv,h1.ext hx,h2.ext hx,Below.trans h3 (hx.mono (by have:=h1.lt; omega))⟩)
  (fun h ⟨bv,h1,h2,h3⟩=>⟨bv,h.blk h1,h2.turns h,Below.trans h3 (h.below (by omega))⟩)
  ⟨_,k2,rfl,Below.refl _ _⟩ ?frm ?assign ?body ?done
 case assign =>
  intro l x W K hK
  gi_wp2
  exact hK
 case done =>
  rintro D W hD ⟨bv,hb,Oy,hB⟩ hK;have Wq:=hb.cell 0
  gi_wp2
  refine ⟨by simp,.inl ⟨_,_,rfl,run_takeDeferred hK,?_⟩⟩
  have zw:Turns w'.heap.size W (W.putObj D (.deferred none)):=⟨D,_,_,hD,hK,rfl,rfl⟩;exact ⟨_,results_tmp rfl _ _ _,⟨bv,rfl,Oy.turns zw,Below.trans HXW'.out (Below.trans (hB.mono (by have:=NZ.out; omega)) (zw.below (by have:=HXW'.out.size; omega)))⟩⟩
 case body =>
  rintro l k v W hk ⟨bv,hb,Oy,hB⟩ hv;have Wm:(2:Nat) ^ T <= 2 ^ 8:=Nat.pow_le_pow_right (by omega) jJ
  have oq:=hB.size;have bG:=Lib.hid (K0.out.below hB (by omega))
  have jk:=Lib.hid (K1.out.below hB (by omega))
  have ik:=Lib.hid hb;have Vm:=Lib.hid (HV.out.ext (Below.trans HXW'.out (hB.mono (by have:=NZ.out; omega))))
  have Qy:=Lib.hid hB;have yk:=X3m k T;have my:=Z4z (m:=m) (lim:=lim) (T:=T) (n:=k);have yg:=Z0o (m:=m) (lim:=lim) (T:=T) (n:=k);have Qv:=fun b=>Y7w (m:=m) (lim:=lim) (T:=T) (n:=k) (b:=b);have R0:=Q7k m lim T k;obtain ⟨cl,hcl⟩:∃ x,Q6n k T=x:=⟨_,rfl⟩;rw [hcl] at hv yk my yg Qv;have gJ:=Lib.hid hv;obtain ⟨Av,cv,rfl,-⟩:=hv.shape;have RQ:=Lib.hid (fun (w1:World) (hx:Ext W w1)=>X0v w1 _ _ m lim cl (Vm.out.ext hx) ((gJ.out.bools (by omega)).ext hx) (by omega) (by rw [yk]; exact HM.out))
  have Rx:=Lib.hid (fun (w1:World) (hx:Ext W w1)=>Q6z w1 _ cl ((gJ.out.bools (by omega)).ext hx))
  have Zw:Hid (cl.length=T):=Lib.hid yk;obtain ⟨kp,Oj⟩:∃ x,m.keeps lim cl=x:=⟨_,rfl⟩;rw [Oj] at my yg Qv RQ;have Xq:=(Ext.refl W).drew;obtain ⟨st,tj⟩:∃ x,m.Q4s lim T k=x:=⟨_,rfl⟩;rw [tj] at Oy my yg Qv R0;have ce:=Lib.hid Oy;have qz:Hid (gm + 1 + 1 + 1 + 1 <= W.heap.size):=Lib.hid (by omega)
  clear hb hv hcl Oj tj oq Wm yk;cases kp with
  | false =>
    have J1:=Lib.hid (my rfl);have Kk:=RQ;clear my yg Qv Oy R0 hB
    gi_wp2
    refine Flow.X4i [.w,.w,.p,.w,.p,.w,.p,.p,.p,.w,.w,.w,.p,.p,.p] [0,1,2,3,4,5,6,7,8,9,10,11,12,13,14] [[],[],[],[0,1,2],[3],[4],[4,5],[4,6],[7],[7,8],[7],[7,9,10],[7,9,11],[4,7,12],[4,13]]
     [.c 0 (.agg #[.string m.name,.int .i64 m.weight,.slice X T Sq,.slice Y lo Jq,.slice Z li Cq]),.c 1 (.int .i64 lim),.c 2 (.slice Av cl.length cv),.c 3 (.bool false),.c 4 (.bool false),.c 5 (undef),.c 6 (undef),.c 7 (undef),.c 8 (undef),.c 9 (undef),.c 10 (undef),.c 11 (undef),.c 12 (undef),.c 13 (undef),.c 14 (.bool false)]
     (by kernel_rfl) (by kernel_rfl) rfl (by kernel_rfl) ⟨?g0,?g1,?g2,?g3,?g4,?g5,?g6,?g7,?g8,?g9,?g10,?g11,?g12,?g13,?g14,trivial⟩ ?post
    case g0=>
     intro v w1 hx;intro bb hbb;intro K hK;have o1:bb.eval (.tmp 2)=.pointer (some ⟨gm,0,none⟩):=fze04
     exact Q0k (.tmp 2) _ rfl Z6e Y3r o1 (bG.out.ext (Xq.trans hx)) rfl (hK _ _ (Ext.refl _) rfl)
    case g1=>
     intro v w1 hx;intro bb hbb;subst hbb;have n0:w1.cell? ⟨gm + 1,0,none⟩=some (.int .i64 lim):=(jk.out.ext (Xq.trans hx)).cell 0;intro K hK;go_simp;exact hK _ _ (Ext.refl _) rfl
    case g2=>
     intro v w1 hx;intro bb hbb;subst hbb;refine ⟨_,fun w=>?_,rfl⟩;go_simp
    case g3=>
     intro v w1 hx;(repeat intro (zq:v _=_));intro bb hbb;subst hbb;intro K hK;go_simp;refine Q0e (Kk.out w1 (Xq.trans hx)) ?_;rintro e w2 ⟨rfl,Nq⟩;exact ⟨_,rfl,hK _ _ Nq rfl⟩
    case g4 | g14=>
     intro v w1 hx;(repeat intro (zq:v _=_));intro bb hbb;subst hbb;refine ⟨_,fun w=>?_,rfl⟩;go_simp
    case g5 | g6 | g7 | g13=>
     intro v w1 hx;(repeat intro (zq:v _=_));intro bb hbb;exact Flow.Q1i (d:=16) rfl rfl fzb04 fzc04 rfl
    case g8 | g9 | g10 | g11 | g12=>
     intro v w1 hx;(repeat intro (zq:v _=_));intro bb hbb;exact Flow.Q6w (d:=19) rfl rfl fzb04 fzc04 rfl
    case post =>
     intro v w1 hx;(iterate 15 intro (zq:v _=_));simp only [Flow.All,Flow.acts,Act.put];go_simp;have HX:=Lib.hid (Xq.trans hx);clear hx Xq;(repeat clear zq)
     gi_wp2
     exact ⟨X8j HX.out,Below.block HX.out _ (by have:=qz.out; omega),⟨bv,ik.out.ext HX.out,by rw [J1.out]; exact ce.out.ext HX.out,Below.trans Qy.out (HX.out.mono (by have:=qz.out; omega))⟩⟩
  | true =>
    have Kk:=RQ;cases st with
    | none =>
      have J1:=Lib.hid (yg rfl rfl);replace Oy:bv=.slice none 0 0:=Oy;subst Oy;clear my yg Qv R0 hB
      gi_wp2
      refine Flow.X4i [.w,.w,.p,.w,.p,.w,.p,.p,.p,.w,.w,.w,.p,.p,.p] [0,1,2,3,4,5,6,7,8,9,10,11,12,13,14] [[],[],[],[0,1,2],[3],[4],[4,5],[4,6],[7],[7,8],[7],[7,9,10],[7,9,11],[4,7,12],[4,13]]
       [.c 0 (.agg #[.string m.name,.int .i64 m.weight,.slice X T Sq,.slice Y lo Jq,.slice Z li Cq]),.c 1 (.int .i64 lim),.c 2 (.slice Av cl.length cv),.c 3 (.bool true),.c 4 (.bool true),.c 5 (.slice none 0 0),.c 6 (.bool true),.c 7 (.bool true),.c 8 (undef),.c 9 (undef),.c 10 (undef),.c 11 (undef),.c 12 (undef),.c 13 (.bool true),.c 14 (.bool true)]
       (by kernel_rfl) (by kernel_rfl) rfl (by kernel_rfl) ⟨?g0,?g1,?g2,?g3,?g4,?g5,?g6,?g7,?g8,?g9,?g10,?g11,?g12,?g13,?g14,trivial⟩ ?post
      case g0=>
       intro v w1 hx;intro bb hbb;intro K hK;have o1:bb.eval (.tmp 2)=.pointer (some ⟨gm,0,none⟩):=fze04
       exact Q0k (.tmp 2) _ rfl Z6e Y3r o1 (bG.out.ext (Xq.trans hx)) rfl (hK _ _ (Ext.refl _) rfl)
      case g1=>
       intro v w1 hx;intro bb hbb;subst hbb;have n0:w1.cell? ⟨gm + 1,0,none⟩=some (.int .i64 lim):=(jk.out.ext (Xq.trans hx)).cell 0;intro K hK;go_simp;exact hK _ _ (Ext.refl _) rfl
      case g2=>
       intro v w1 hx;intro bb hbb;subst hbb;refine ⟨_,fun w=>?_,rfl⟩;go_simp
      case g3=>
       intro v w1 hx;(repeat intro (zq:v _=_));intro bb hbb;subst hbb;intro K hK;go_simp;refine Q0e (Kk.out w1 (Xq.trans hx)) ?_;rintro e w2 ⟨rfl,Nq⟩;exact ⟨_,rfl,hK _ _ Nq rfl⟩
      case g4 | g14=>
       intro v w1 hx;(repeat intro (zq:v _=_));intro bb hbb;subst hbb;refine ⟨_,fun w=>?_,rfl⟩;go_simp
      case g5=>
       intro v w1 hx;(repeat intro (zq:v _=_));intro bb hbb;refine Flow.Q0d (d:=16) rfl rfl fzb04 fzc04 ?_
       subst hbb;have n0:w1.cell? ⟨gm + 1 + 1,0,none⟩=some (.slice none 0 0):=(ik.out.ext (Xq.trans hx)).cell 0;intro K hK;go_simp;exact hK _ _ (Ext.refl _) rfl
      case g6 | g7 | g13=>
       intro v w1 hx;(repeat intro (zq:v _=_));intro bb hbb;refine Flow.Q0d (d:=16) rfl rfl fzb04 fzc04 ?_
       subst hbb;refine ⟨_,fun w=>?_,rfl⟩;go_simp
      case g8 | g9 | g10 | g11 | g12=>
       intro v w1 hx;(repeat intro (zq:v _=_));intro bb hbb;exact Flow.Q1i (d:=19) rfl rfl fzb04 fzc04 rfl
      case post =>
       intro v w1 hx;(iterate 15 intro (zq:v _=_));simp only [Flow.All,Flow.acts,Act.put];go_simp;have HX:=Lib.hid (Xq.trans hx);have ij:=ik.out.ext HX.out;have g3:w1.cell? ⟨gm + 1 + 1,0,none⟩=some (.slice none 0 0):=ij.cell 0;have gf:=ij.frozen 0;have D2:=Lib.hid ij;clear hx Xq ij;(repeat clear zq)
       gi_wp2
       exact ⟨(X8j HX.out).trans (KeepsOthers.setCell _ _ _),(Q3u _ _ _ _ (by show gm + 1 + 1 + 1 ≠ gm + 1 + 1; omega)).trans (Below.block HX.out _ (by have:=qz.out; omega)),
        ⟨.slice Av cl.length cv,D2.out.set 0 _,by rw [J1.out]; exact Z3p (gJ.out.below HX.out) D2.out (by decide),(Below.trans Qy.out (HX.out.mono (by have:=qz.out; omega))).setCell (p:=⟨gm + 1 + 1,0,none⟩) (Nat.le_refl _) _⟩⟩
    | some b =>
      obtain ⟨q,hq⟩:∃ q,decide (countB cl < countB b)=q:=⟨_,rfl⟩;have J1:=Lib.hid (Qv b rfl rfl q hq);have HQ:=Lib.hid hq;have mx:=R0 b rfl;obtain ⟨Ab,cb,rfl,-⟩:=(show Q0q W 0 4 .bool bv b from Oy).shape
      have M6:=Lib.hid (fun (w1:World) (hx:Ext W w1)=>Q6z w1 _ b ((Q0q.bools (show Q0q W 0 4 .bool _ b from Oy) (by omega)).ext hx))
      obtain ⟨ab,Z0⟩:∃ a,Ab=some a:=by
       rcases (show Q0q W 0 4 .bool _ b from Oy).2 with ⟨_,h0⟩ | ⟨g,Qq,cur,he,_⟩
       . omega
       . cases he; exact ⟨_,rfl⟩
      subst Z0;clear my yg Qv R0 hB Oy hq mx
      gi_wp2
      refine Flow.X4i [.w,.w,.p,.w,.p,.w,.p,.p,.p,.w,.w,.w,.p,.p,.p] [0,1,2,3,4,5,6,7,8,9,10,11,12,13,14] [[],[],[],[0,1,2],[3],[4],[4,5],[4,6],[7],[7,8],[7],[7,9,10],[7,9,11],[4,7,12],[4,13]]
       [.c 0 (.agg #[.string m.name,.int .i64 m.weight,.slice X T Sq,.slice Y lo Jq,.slice Z li Cq]),.c 1 (.int .i64 lim),.c 2 (.slice Av cl.length cv),.c 3 (.bool true),.c 4 (.bool true),.c 5 (.slice (some ab) b.length cb),.c 6 (.bool false),.c 7 (.bool false),.c 8 (.slice Av cl.length cv),.c 9 (.int .i64 (countB cl)),.c 10 (.slice (some ab) b.length cb),.c 11 (.int .i64 (countB b)),.c 12 (.bool (decide (countB cl < countB b))),.c 13 (.bool (decide (countB cl < countB b))),.c 14 (.bool (decide (countB cl < countB b)))]
       (by kernel_rfl) (by kernel_rfl) rfl (by kernel_rfl) ⟨?g0,?g1,?g2,?g3,?g4,?g5,?g6,?g7,?g8,?g9,?g10,?g11,?g12,?g13,?g14,trivial⟩ ?post
      case g0=>
       intro v w1 hx;intro bb hbb;intro K hK;have o1:bb.eval (.tmp 2)=.pointer (some ⟨gm,0,none⟩):=fze04
       exact Q0k (.tmp 2) _ rfl Z6e Y3r o1 (bG.out.ext (Xq.trans hx)) rfl (hK _ _ (Ext.refl _) rfl)
      case g1=>
       intro v w1 hx;intro bb hbb;subst hbb;have n0:w1.cell? ⟨gm + 1,0,none⟩=some (.int .i64 lim):=(jk.out.ext (Xq.trans hx)).cell 0;intro K hK;go_simp;exact hK _ _ (Ext.refl _) rfl
      case g2=>
       intro v w1 hx;intro bb hbb;subst hbb;refine ⟨_,fun w=>?_,rfl⟩;go_simp
      case g3=>
       intro v w1 hx;(repeat intro (zq:v _=_));intro bb hbb;subst hbb;intro K hK;go_simp;refine Q0e (Kk.out w1 (Xq.trans hx)) ?_;rintro e w2 ⟨rfl,Nq⟩;exact ⟨_,rfl,hK _ _ Nq rfl⟩
      case g4 | g14=>
       intro v w1 hx;(repeat intro (zq:v _=_));intro bb hbb;subst hbb;refine ⟨_,fun w=>?_,rfl⟩;go_simp
      case g5=>
       intro v w1 hx;(repeat intro (zq:v _=_));intro bb hbb;refine Flow.Q0d (d:=16) rfl rfl fzb04 fzc04 ?_
       subst hbb;have n0:w1.cell? ⟨gm + 1 + 1,0,none⟩=some (.slice (some ab) b.length cb):=(ik.out.ext (Xq.trans hx)).cell 0;intro K hK;go_simp;exact hK _ _ (Ext.refl _) rfl
      case g6 | g7 | g13=>
       intro v w1 hx;(repeat intro (zq:v _=_));intro bb hbb;refine Flow.Q0d (d:=16) rfl rfl fzb04 fzc04 ?_
       subst hbb;refine ⟨_,fun w=>?_,rfl⟩;go_simp
      case g8 | g12=>
       intro v w1 hx;(repeat intro (zq:v _=_));intro bb hbb;refine Flow.Q0d (d:=19) rfl rfl fzb04 fzc04 ?_
       subst hbb;refine ⟨_,fun w=>?_,rfl⟩;go_simp
      case g9=>
       intro v w1 hx;(repeat intro (zq:v _=_));intro bb hbb;refine Flow.Q0d (d:=19) rfl rfl fzb04 fzc04 ?_
       subst hbb;intro K hK;go_simp;refine Q0e (Rx.out w1 (Xq.trans hx)) ?_;rintro e w2 ⟨rfl,Nq⟩;exact ⟨_,rfl,hK _ _ Nq rfl⟩
      case g10=>
       intro v w1 hx;(repeat intro (zq:v _=_));intro bb hbb;refine Flow.Q0d (d:=19) rfl rfl fzb04 fzc04 ?_
       subst hbb;have n0:w1.cell? ⟨gm + 1 + 1,0,none⟩=some (.slice (some ab) b.length cb):=(ik.out.ext (Xq.trans hx)).cell 0;intro K hK;go_simp;exact hK _ _ (Ext.refl _) rfl
      case g11=>
       intro v w1 hx;(repeat intro (zq:v _=_));intro bb hbb;refine Flow.Q0d (d:=19) rfl rfl fzb04 fzc04 ?_
       subst hbb;intro K hK;go_simp;refine Q0e (M6.out w1 (Xq.trans hx)) ?_;rintro e w2 ⟨rfl,Nq⟩;exact ⟨_,rfl,hK _ _ Nq rfl⟩
      case post =>
       intro v w1 hx (q0:v 0=_) (q1:v 1=_) (q2:v 2=_) (q3:v 3=_) (q4:v 4=_) (q5:v 5=_) (q6:v 6=_) (q7:v 7=_) (q8:v 8=_) (q9:v 9=_) (q10:v 10=_) (q11:v 11=_) (q12:v 12=_) (q13:v 13=_) (q14:v 14=_);simp only [Flow.All,Flow.acts,Act.put];go_simp;rw [HQ.out];cases q with
       | false =>
         have HX:=Lib.hid (Xq.trans hx);clear hx Xq q0 q1 q2 q3 q4 q5 q6 q7 q8 q9 q10 q11 q12 q13 q14
         gi_wp2
         exact ⟨X8j HX.out,Below.block HX.out _ (by have:=qz.out; omega),⟨(.slice (some ab) b.length cb),ik.out.ext HX.out,by rw [J1.out]; exact ce.out.ext HX.out,Below.trans Qy.out (HX.out.mono (by have:=qz.out; omega))⟩⟩
       | true =>
         have HX:=Lib.hid (Xq.trans hx);have ij:=ik.out.ext HX.out;have g3:w1.cell? ⟨gm + 1 + 1,0,none⟩=some (.slice (some ab) b.length cb):=ij.cell 0;have gf:=ij.frozen 0;have D2:=Lib.hid ij;clear hx Xq ij q0 q1 q2 q3 q4 q5 q6 q7 q8 q9 q10 q11 q12 q13 q14
         gi_wp2
         exact ⟨(X8j HX.out).trans (KeepsOthers.setCell _ _ _),(Q3u _ _ _ _ (by show gm + 1 + 1 + 1 ≠ gm + 1 + 1; omega)).trans (Below.block HX.out _ (by have:=qz.out; omega)),
          ⟨.slice Av cl.length cv,D2.out.set 0 _,by rw [J1.out]; exact Z3p (gJ.out.below HX.out) D2.out (by decide),(Below.trans Qy.out (HX.out.mono (by have:=qz.out; omega))).setCell (p:=⟨gm + 1 + 1,0,none⟩) (Nat.le_refl _) _⟩⟩
end Go.Proofs
namespace Go.Tw
open Go.RowKit Go.Flow
section
variable {α:Type} {enc:α -> List Value} {k:Nat}
def Q3f (cs:Array Value) (o:Nat):List Value -> Array Value
 | []=>cs
 | v :: vs=>Q3f (cs.setIfInBounds o v) (o + 1) vs
theorem X2r (o:Nat):∀ (vs:List Value) (cs:Array Value) ,(Q3f cs o vs).size=cs.size:=by
 intro vs
 induction vs generalizing o with
 | nil=>intro cs; rfl
 | cons v vs ih=>intro cs; rw [Q3f,ih]; simp
theorem Q5e:∀ (vs:List Value) (o:Nat) (cs:Array Value) (j:Nat),o + vs.length <= cs.size -> (Q3f cs o vs)[j]?=if o <= j /\ j < o + vs.length then vs[j - o]? else cs[j]?
 | [],o,cs,j,_=>by rw [Q3f,if_neg (by simp only [List.length_nil]; omega)]
 | v :: vs,o,cs,j,h=>by
   rw [List.length_cons] at h;rw [Q3f,Q5e vs (o + 1) _ j (by simp; omega)]
   by_cases h1:o + 1 <= j /\ j < o + 1 + vs.length
   . rw [if_pos h1,if_pos (by rw [List.length_cons]; omega),show j - o=(j - (o + 1)) + 1 from by omega]; rfl
   . rw [if_neg h1]
     by_cases h2:j=o
     . subst h2
       rw [if_pos (by rw [List.length_cons]; omega),Nat.sub_self]
       rw [Array.getElem?_setIfInBounds];rw [if_pos rfl,if_pos (by omega)]; rfl
     . rw [if_neg (by rw [List.length_cons]; omega),Array.getElem?_setIfInBounds,if_neg (fun e=>h2 e.symm)]
theorem Q6v {P:Program} {g off:Nat} {T:TypeId}:∀ (vs:List Value) (i:Nat) (w:World) (cs:Array Value),Blk w g T cs -> (∀ u ∈ vs,u.oneCell'=true) -> off + i + vs.length <= cs.size ->
    ∃ w',(storeCells ⟨g,off,none⟩ vs i).run P w=.ok () w' /\ Blk w' g T (Q3f cs (off + i) vs) /\ (∀ n,n <= g -> Below n w w') /\ ∀ k,k ≠ g -> w'.heap[k]?=w.heap[k]?
 | [],i,w,cs,h,_,hi=>⟨w,by simp [storeCells],h,fun _ _=>Below.refl _ _,fun _ _=>rfl⟩
 | v :: vs,i,w,cs,h,h1,hi=>by
   rw [List.length_cons] at hi;have Uq:off + i < cs.size:=by omega
   have h0:=h.cell (off + i);rw [Array.getElem?_eq_getElem Uq] at h0;have ea:(⟨g,off,none⟩:Addr).add i=⟨g,off + i,none⟩:=by rw [addr_add]
   obtain ⟨w',hr,hb,hl,ho⟩:=Q6v (P:=P) (off:=off) vs (i + 1) (w.setCell ⟨g,off + i,none⟩ v) (cs.setIfInBounds (off + i) v) (h.set _ v) (fun u hu=>h1 u (List.mem_cons_of_mem _ hu)) (by rw [Array.size_setIfInBounds]; omega)
   refine ⟨w',?_,?_,fun n hn=>Below.trans ((Below.refl n w).setCell (p:=⟨g,off + i,none⟩) hn v) (hl n hn),fun k hk=>(ho k hk).trans (Below.heap_setCell _ _ _ _ hk)⟩
   . rw [storeCells,ea]
     simp only [Sem.run_bind,run_store P w _ v _ (h1 v (List.mem_cons_self ..)),h0,h.frozen (off + i),Bool.false_eq_true,if_false,Result.andThen_ok];exact hr
   . rw [Q3f]; exact hb
theorem X7q {P:Program} {K:Value -> World -> Prop} {o:Oper} {a:Act} {w:World} (p x:Operand) (T:TypeId) (ho:o.op=.store T p x)
    {n:Nat} (hS:∀ w,(sizeOf T).run P w=.ok n w) {g off:Nat} (hp:a.eval p=.pointer (some ⟨g,off,none⟩)) {BT:TypeId} {cs vs:Array Value} (hx:a.eval x=.agg vs) (hb:Blk w g BT cs) (hn:off + n <= cs.size) (hv:vs.size=n) (h1:∀ u ∈ vs.toList,u.oneCell'=true)
    (h:∀ v w',Blk w' g BT (Q3f cs off vs.toList) -> (∀ n,n <= g -> Below n w w') -> (∀ k,k ≠ g -> w'.heap[k]?=w.heap[k]?) -> K v w'):gives P K ((execOp a.eval o).run P w):=by
 obtain ⟨w',hr,Mk,hl,Y4⟩:=Q6v (P:=P) (off:=off) vs.toList 0 w cs hb h1 (by simp [hv]; omega)
 have hs:(storeVar T ⟨g,off,none⟩ (.agg vs)).run P w=.ok () w':=by
  have hc:(Value.agg vs).cells=vs:=rfl;unfold storeVar;simp only [Sem.run_bind,hS,Result.andThen_ok];rw [if_neg (by rw [hc]; simp [hv])]
  exact hr
 have Ck:(execOp a.eval o).run P w=.ok .skip w':=by
  unfold execOp;simp only [ho,hp,hx,Instr.storeAt,Instr.sureAddr,Sem.run_bind,Sem.run_pure,Result.andThen_ok,hs]
 rw [Ck];exact h _ _ Mk hl Y4
theorem Y9o {P:Program} {w:World} (dT sT ty elem:TypeId) (hu:P.underlying dT=some (.slice elem)) {sz:Nat} (hs:∀ w,(sizeOf elem).run P w=.ok sz w) (n dcap scap:Nat) {g:Nat} {T:TypeId} {cur:Array Value} (hb:Blk w g T cur) (sp:Option Addr) (cs:List Value) (Dq:cs.length=n * sz)
    (uy:∀ j v,cs[j]?=some v -> ∃ b off,sp=some ⟨b,off,none⟩ /\ w.cell? ⟨b,off + j,none⟩=some v) (Fz:cs.length <= cur.size) (h1:∀ v ∈ cs,v.oneCell'=true) :
    ∃ w',(Builtin.copy_ #[dT,sT] ty #[.slice (some ⟨g,0,none⟩) n dcap,.slice sp n scap]).run P w=.ok (goInt n) w' /\ Blk w' g T (Q3f cur 0 cs) /\ (∀ n,n <= g -> Below n w w') /\ ∀ k,k ≠ g -> w'.heap[k]?=w.heap[k]?:=by
 obtain ⟨w',hr,Mk,hl,Y4⟩:=Q6v (P:=P) (off:=0) cs 0 w cur hb h1 (by simp; exact Fz)
 refine ⟨w',?_,Mk,hl,Y4⟩;have Um:(Builtin.firstCells sz n (.slice sp n scap)).run P w=.ok cs.toArray w:=by
  cases sp with
  | none =>
    have:cs=[]:=by
     cases cs with
     | nil=>rfl
     | cons v vs=>obtain ⟨b,off,he,_⟩:=uy 0 v rfl; cases he
    subst this;simp [Builtin.firstCells]
  | some ad =>
    have Qk:=run_loadCells_list (P:=P) w ad cs (fun j v hv=>by
     obtain ⟨b,off,he,hc⟩:=uy j v hv;cases he;rw [addr_add]; exact hc)
    rw [Dq] at Qk
    simpa [Builtin.firstCells] using Qk
 simp [Builtin.copy_,run_underlying hu,Builtin.lenOf,hs,Um,hr]
end
end Go.Tw
namespace Go.Tw
open Go.RowKit
abbrev PV:=Plan × Value
def Q3g (q:PV):List Value:=[.int .i64 q.1.weight,.int .i64 q.1.closings,.int .i64 q.1.delay,q.2]
theorem Q4o (q:PV):(Q3g q).length=4:=rfl
def Z7k (x:Plan) (c:Value):Value:=.agg #[.int .i64 x.weight,.int .i64 x.closings,.int .i64 x.delay,c]
end Go.Tw
namespace Go.Proofs
open Go.RowKit Go.Tw Go.Flow Tryz
attribute [local go_sem] Oper.semAt_some
theorem Tryz.J7x (w:World):(isAgg 159).run prog w=.ok true w:=by kernel_rfl
theorem Tryz.X9k (w:World):(sizeOf 159).run prog w=.ok 4 w:=by kernel_rfl
def Q0v (w:World) (ps:List PV):Prop:=∀ q ∈ ps,Q0q w 0 9 .string q.2 q.1.closed
theorem Q0v.nil (w:World):Q0v w []:=fun _ hq=>by simp at hq
theorem Q0v.ext {w w':World} {ps:List PV} (h:Q0v w ps) (hx:Ext w w'):Q0v w' ps:=fun q hq=>(h q hq).below hx
theorem Q0v.snoc {w:World} {ps:List PV} {q:PV} (h:Q0v w ps) (hq:Q0q w 0 9 .string q.2 q.1.closed):Q0v w (ps ++ [q]):=fun z hz=>by
 rcases List.mem_append.1 hz with hz | hz
 . exact h z hz
 . rw [List.mem_singleton.1 hz]; exact hq
theorem Q0v.sub {w:World} {ps qs:List PV} (h:Q0v w ps) (hs:∀ q ∈ qs,q ∈ ps):Q0v w qs:=fun q hq=>h q (hs q hq)
theorem Q0v.shape {w:World} {ps:List PV} (h:Q0v w ps) {q:PV} (hq:q ∈ ps):∃ A n c,q.2=.slice A n c:=by
 obtain ⟨A,c,he,_⟩:=(h q hq).shape;exact ⟨A,_,c,he⟩
theorem Z4h {w:World} {ps:List PV} (h:Q0v w ps) {q:PV} (hq:q ∈ ps):∀ u ∈ Q3g q,u.oneCell'=true:=by
 obtain ⟨A,n,c,he⟩:=h.shape hq;intro u hu;simp only [Q3g,List.mem_cons,List.not_mem_nil,or_false] at hu
 rcases hu with rfl | rfl | rfl | rfl
 . rfl
 . rfl
 . rfl
 . rw [he]; rfl
theorem OwnP.cases {w:World} {B:Nat} {v:Value} {ps:List PV} (h:Q1d w B 159 4 Q3g v ps) :
    (v=.slice none 0 0 /\ ps=[]) ∨ ∃ g Qq cur,v=.slice (some ⟨g,0,none⟩) ps.length Qq /\ B <= g /\ Blk w g 159 cur /\ ps.length <= Qq /\ Qq <= maxLen /\ cur.size=Qq * 4 /\ cur.toList.take (ps.length * 4)=ps.flatMap Q3g:=by
 obtain ⟨h1,h2⟩:=h
 rcases h2 with ⟨rfl,h0⟩ | ⟨g,Qq,cur,rfl,Ux,hg,Kq,G1,oq,ht⟩
 . exact .inl ⟨rfl,List.length_eq_zero_iff.1 h0⟩
 . exact .inr ⟨g,Qq,cur,rfl,Ux,hg,Kq,G1,oq,ht⟩
theorem X3i {w:World} {g:Nat} {T:TypeId} {cur:Array Value} {ps:List PV} (hb:Blk w g T cur) (ht:cur.toList.take (ps.length * 4)=ps.flatMap Q3g) {j i:Nat} (hj:j < ps.length) (hi:i < 4):w.cell? ⟨g,j * 4 + i,none⟩=(Q3g ps[j])[i]?:=by
 rw [hb.cell,<- flat_get Q4o ps j i hj hi,<- ht,List.getElem?_take,if_pos (by omega)]
 simp
theorem Y3y (w:World) (x y:Plan) (A B:Option Addr) (n m c d:Nat) :
    Calls prog 228 #[Z7k x (.slice A n c),Z7k y (.slice B m d)] w fun e w'=>e=.returned (.bool (x.Q4y y)) /\ Ext w w':=by
 obtain ⟨x1,x2,x3,x4⟩:=x;obtain ⟨y1,y2,y3,y4⟩:=y;unfold Z7k;dsimp only;have k0:=Blk.made w 159 #[.int .i64 x1,.int .i64 x2,.int .i64 x3,.slice A n c];have x0:=Ext.box w (.cells #[.int .i64 x1,.int .i64 x2,.int .i64 x3,.slice A n c] 159);have k1:=Blk.made (w.alloc (.cells #[.int .i64 x1,.int .i64 x2,.int .i64 x3,.slice A n c] 159)) 159 #[.int .i64 y1,.int .i64 y2,.int .i64 y3,.slice B m d];have xx:=Ext.box (w.alloc (.cells #[.int .i64 x1,.int .i64 x2,.int .i64 x3,.slice A n c] 159)) (.cells #[.int .i64 y1,.int .i64 y2,.int .i64 y3,.slice B m d] 159);have es:(w.alloc (.cells #[.int .i64 x1,.int .i64 x2,.int .i64 x3,.slice A n c] 159)).heap.size=w.heap.size + 1:=by simp
 rw [es] at k1;replace k0:=k0.ext xx;have c0:=(k0).cell 0;have c1:=(k0).cell 1;have c2:=(k0).cell 2;simp only [Go.Tw.gA,Go.Tw.gB,Go.Tw.gC] at c0 c1 c2;have d0:=(k1).cell 0;have d1:=(k1).cell 1;have d2:=(k1).cell 2;simp only [Go.Tw.gA,Go.Tw.gB,Go.Tw.gC] at d0 d1 d2;have HX:=Lib.hid (x0.trans xx);have HQ:Hid ((⟨x1,x2,x3,x4⟩:Plan).Q4y ⟨y1,y2,y3,y4⟩=(decide (y1 <= x1) && decide (x2 <= y2) && decide (x3 <= y3))):=Lib.hid rfl;clear k0 k1 x0 xx es;go_enter func228,ntmps228
 by_cases h1:y1 <= x1
 . by_cases h2:x2 <= y2
   . by_cases h3:x3 <= y3
     . have HR:Hid ((⟨x1,x2,x3,x4⟩:Plan).Q4y ⟨y1,y2,y3,y4⟩=true):=Lib.hid (by rw [HQ.out]; simp [h1,h2,h3])
       go_wp2;go_ret;exact ⟨Q1b HR.out.symm,HX.out⟩
     . have HR:Hid ((⟨x1,x2,x3,x4⟩:Plan).Q4y ⟨y1,y2,y3,y4⟩=false):=Lib.hid (by rw [HQ.out]; simp [h1,h2,h3])
       go_wp2;go_ret;exact ⟨Q1b HR.out.symm,HX.out⟩
   . have HR:Hid ((⟨x1,x2,x3,x4⟩:Plan).Q4y ⟨y1,y2,y3,y4⟩=false):=Lib.hid (by rw [HQ.out]; simp [h1,h2])
     go_wp2;go_ret;exact ⟨Q1b HR.out.symm,HX.out⟩
 . have HR:Hid ((⟨x1,x2,x3,x4⟩:Plan).Q4y ⟨y1,y2,y3,y4⟩=false):=Lib.hid (by rw [HQ.out]; simp [h1])
   go_wp2;go_ret;exact ⟨Q1b HR.out.symm,HX.out⟩
def Y1y (g:Nat) (pre post:Array Value) (w:World) (t:Plan -> Bool):Prop :=
 ∀ W (y:Plan) (A:Option Addr) (n c:Nat),Ext w W -> Calls prog g (pre ++ #[Z7k y (.slice A n c)] ++ post) W fun e W'=>e=.returned (.bool (t y)) /\ Ext W W'
theorem X9r (w:World) (B:Nat) (v:Value) (ps:List PV) (g:Nat) (pre post:Array Value) (t:Plan -> Bool) (hv:Q1d w B 159 4 Q3g v ps) (hc:Q0v w ps) (hl:ps.length <= 100000)
    (eg:∀ args w,(callFunc g args).run prog w=.ok (.enter g args) w) (ht:Y1y g pre post w t) :
    Calls prog 247 #[v,.func (.func g) pre post] w fun e w'=>∃ r:Int,e=.returned (.int .i64 r) /\ ((r=-1 /\ ∀ q ∈ ps,t q.1=false) ∨ ∃ k:Nat,r=(k:Int) /\ ∃ q,ps[k]?=some q /\ t q.1=true /\ ∀ j q',j < k -> ps[j]?=some q' -> t q'.1=false) /\ Ext w w':=by
 have HC:=Lib.hid hc;have HT:=Lib.hid ht;obtain ⟨A,cv,nj,Gj⟩:∃ A cv,v=.slice A ps.length cv /\ Hid (∀ j (hj:j < ps.length),∃ gb,A=some ⟨gb,0,none⟩ /\ ∀ i,i < 4 -> w.cell? ⟨gb,j * 4 + i,none⟩=(Q3g ps[j])[i]?):=by
  rcases OwnP.cases hv with ⟨rfl,h0⟩ | ⟨gb,Qq,cur,rfl,_,hb,_,_,_,ey⟩
  . exact ⟨none,0,by rw [h0]; rfl,Lib.hid (fun j hj=>by rw [h0] at hj; simp at hj)⟩
  . exact ⟨_,Qq,rfl,Lib.hid (fun j hj=>⟨gb,rfl,fun i hi=>X3i hb ey hj hi⟩)⟩
 subst nj;obtain ⟨L,hL⟩:∃ L,ps.length=L:=⟨_,rfl⟩;have Zw:=Lib.hid hL;rw [hL] at hl ⊢;clear hv hc ht hL;go_enter func247,ntmps247;go_wp2
 go_loopw [8] (fun i wr=>∃ k:Nat,k <= L /\ i=.int .i64 k /\ (∀ j (hj:j < ps.length),j < k -> t ps[j].1=false) /\ Ext w wr) (fun i _=>L - (intOf i).toNat)
 case atStart=>exact ⟨0,Nat.zero_le _,rfl,fun j _ h=>absurd h (Nat.not_lt_zero _),Ext.refl _⟩
 case round =>
  obtain ⟨k,hk,rfl,my,hx⟩:=hrel;have aG:=Lib.hid my;have HX:=Lib.hid hx;clear my
  by_cases Uq:k < L
  . have Oj:k < ps.length:=by rw [Zw.out]; exact Uq
    have zj:(k:Int) < L:=by omega
    obtain ⟨gb,rfl,Wq⟩:=Gj.out k Oj;have e0:=hx.cell (Wq 0 (by omega))
    have e1:=hx.cell (Wq 1 (by omega))
    have e2:=hx.cell (Wq 2 (by omega))
    have e3:=hx.cell (Wq 3 (by omega))
    obtain ⟨A4,n4,c4,ox⟩:=HC.out.shape (List.getElem_mem Oj);have az:=Lib.hid (HT.out wr ps[k].1 A4 n4 c4 hx);have Za:Hid (∀ q,t ps[k].1=q -> t ps[k].1=q):=Lib.hid (fun _ h=>h);obtain ⟨q,hq⟩:∃ q,t ps[k].1=q:=⟨_,rfl⟩;have HQ:=Lib.hid hq;rw [hq] at az;have Jj:Hid (ps[k]?=some ps[k]):=Lib.hid (List.getElem?_eq_getElem Oj);obtain ⟨qk,xz⟩:∃ z,ps[k]=z:=⟨_,rfl⟩;rw [xz] at e0 e1 e2 e3 ox az HQ Jj;obtain ⟨⟨x1,x2,x3,x4⟩,xv⟩:=qk;replace ox:xv=.slice A4 n4 c4:=ox;subst ox;unfold Z7k at az;dsimp only at az;dsimp only at e0 e1 e2 e3;rw [Nat.add_zero] at e0;clear Oj Wq hq Za xz hx;cases q with
    | true =>
      go_wp2_with (refine az.out.mono ?_; rintro e w9 ⟨rfl,sj⟩);go_ret;exact ⟨k,rfl,.inr ⟨k,rfl,_,Jj.out,HQ.out,fun j q' hj G2=>by
       obtain ⟨h,rfl⟩:=List.getElem?_eq_some_iff.1 G2;exact aG.out j h hj⟩,HX.out.trans sj⟩
    | false =>
      go_wp2_with (refine az.out.mono ?_; rintro e w9 ⟨rfl,sj⟩);go_roundw
      case rel=>exact ⟨k + 1,by omega,by go_num,fun j h hj=>by
       by_cases qJ:j < k
       . exact aG.out j h qJ
       . have:j=k:=by omega
         subst this;have h2:=Jj.out;rw [List.getElem?_eq_getElem h] at h2;injection h2 with h2;rw [h2]; exact HQ.out,HX.out.trans sj⟩
      case measure=>simp [intOf]; omega
  . go_wp2
    go_ret;exact ⟨-1,rfl,.inl ⟨rfl,fun q hq=>by
     obtain ⟨j,hj,rfl⟩:=List.getElem_of_mem hq;exact aG.out j hj (by have:=Zw.out; omega)⟩,HX.out⟩
def a3 (a b c:Int):Array Value:=#[.int .i64 a,.int .i64 b,.int .i64 c]
theorem J6x (a b c:Int) (w:World):∀ i,i < 3 -> (part 3 (a3 a b c) (i * 1)).run prog w=.ok (.int .i64 (ix [a,b,c] i)) w
 | 0,_=>by kernel_rfl
 | 1,_=>by kernel_rfl
 | 2,_=>by kernel_rfl
theorem Y3w (a b c a' b' c':Int) (d:Nat) (w:World):∀ is:List Nat,(∀ i ∈ is,i < 3) -> (Op.eqItems (d + 1) 3 1 (a3 a b c) (a3 a' b' c') is).run prog w=.ok (is.all fun i=>ix [a,b,c] i == ix [a',b',c'] i) w
 | [],_=>rfl
 | i :: is,h=>by
   have hi:=h i (List.mem_cons_self ..);have ih:=Y3w a b c a' b' c' d w is (fun j hj=>h j (List.mem_cons_of_mem _ hj));rw [Op.eqItems];simp only [Sem.run_bind,J6x _ _ _ _ i hi,Result.andThen_ok,run_equalIn_int w d 3 .i64 .i64 _ _ underlying3];cases hq:(ix [a,b,c] i == ix [a',b',c'] i) with
   | true=>simp [ih,hq]
   | false=>simp [hq]
theorem Z7j (w:World) (a b c a' b' c':Int):(binOp .eql 195 (.agg (a3 a b c)) (.agg (a3 a' b' c'))).run prog w=.ok (.bool (a == a' && (b == b' && c == c'))) w:=by
 obtain ⟨i,hi⟩:∃ i,prog.info? 3=some i:=by
  have h:=info3;cases hh:prog.info? 3 with
  | none=>rw [hh] at h; cases h
  | some i=>exact ⟨i,rfl⟩
 have hu:prog.underlying 195=some (.array 3 3):=by kernel_rfl
 have hc:prog.cellsOf 3=1:=by kernel_rfl
 rw [run_eql_struct,show (10000:Nat)=9998 + 1 + 1 from rfl,run_equalIn_array w (9998 + 1) _ _ hu hi,hc,Y3w a b c a' b' c' 9998 w _ (fun i hi=>List.mem_range.1 hi)]
 have e:(List.range 3).all (fun i=>ix [a,b,c] i == ix [a',b',c'] i)=(a == a' && (b == b' && c == c')):=by
  rw [show List.range 3=[0,1,2] from rfl]
  simp [ix]
 rw [e];rfl
theorem Z6u (w:World) (a b c a' b' c':Int):(binOp .neq 195 (.agg (a3 a b c)) (.agg (a3 a' b' c'))).run prog w=.ok (.bool (!(a == a' && (b == b' && c == c')))) w:=by
 have h:=Z7j w a b c a' b' c';rw [run_eql_struct] at h;rw [run_neq_struct];generalize (Op.equalIn 10000 195 (.agg (a3 a b c)) (.agg (a3 a' b' c'))).run prog w=r at h ⊢;cases r with
 | ok x w1 =>
   simp only [Result.andThen_ok] at h ⊢;injection h with h1 h2;injection h1 with h1;rw [h1,h2]
 | _=>simp [Result.andThen] at h
theorem Tryz.J0r:prog.eqGuardType prog.depth 195=false:=by kernel_rfl
theorem Y7l {w:World} {o:Oper} {a:Act} (x y:Operand) {T2:TypeId} (Ow:o.op=.binOp .neq 195 x y T2) {b c d b' c' d':Int} (hx:a.eval x=.agg (a3 b c d)) (hy:a.eval y=.agg (a3 b' c' d')):(execOp a.eval o).run prog w=.ok (.value (.bool (!(b == b' && (c == c' && d == d'))))) w:=by
 unfold execOp;simp only [Ow,hx,hy,Sem.run_bind,run_eqGuard_agg w .neq 195 x y _ _ J0r,Result.andThen_ok,Z6u,Sem.run_pure]
theorem Tryz.J9u (w:World):(isAgg 195).run prog w=.ok true w:=by kernel_rfl
theorem Tryz.J8v (w:World):(sizeOf 195).run prog w=.ok 3 w:=by kernel_rfl
theorem Q0p (x:Int) (l:List Int):Q0o (x :: l)=if x=0 then Q0o l else x:=rfl
theorem X6e (e:Int):Q0s true e=e:=rfl
theorem X5v (e:Int):Q0s false e=0:=rfl
theorem J3m (s:Q0b) (p1 p2 p3 p4:Bool) (h1:((s.ships.length:Int) == 0)=p1) (h2:decide (6 < (s.ships.length:Int))=p2) (h3:((s.members.length:Int) == 0)=p3) (h4:decide (8 < (s.members.length:Int))=p4) {E:Int}
    (hE:Q0o [Q0j s.limit 0 1024,Q0s p1 12,Q0s p2 5,Q0z s.ships 1000,Q0s p3 12,Q0s p4 5]=E):s.err=if E=0 then Q4m s.Q3v s.members.length 0 else E:=by
 have d1:p1=true ↔ s.ships.length=0:=by rw [<- h1,beq_iff_eq]; omega
 have d2:p2=true ↔ 6 < s.ships.length:=by rw [<- h2,decide_eq_true_iff]; omega
 have d3:p3=true ↔ s.members.length=0:=by rw [<- h3,beq_iff_eq]; omega
 have d4:p4=true ↔ 8 < s.members.length:=by rw [<- h4,decide_eq_true_iff]; omega
 clear h1 h2 h3 h4
 by_cases c0:Q0j s.limit 0 1024=0
 . rw [Q0p,if_pos c0] at hE
   by_cases c1:s.ships.length=0
   . rw [Q0p,d1.2 c1,X6e] at hE
     rw [Z3o c0 c1,<- hE]; rfl
   . have e1:p1=false:=by cases p1 with | true=>exact absurd (d1.1 rfl) c1 | false=>rfl
     rw [Q0p,e1,X5v,if_pos rfl] at hE
     by_cases c2:6 < s.ships.length
     . rw [Q0p,d2.2 c2,X6e] at hE
       rw [Z3v c0 c1 c2,<- hE]; rfl
     . have e2:p2=false:=by cases p2 with | true=>exact absurd (d2.1 rfl) c2 | false=>rfl
       rw [Q0p,e2,X5v,if_pos rfl] at hE
       by_cases c3:Q0z s.ships 1000=0
       . rw [Q0p,if_pos c3] at hE
         rw [X8l c0 c1 c2 c3]
         by_cases c4:s.members.length=0
         . rw [Q0p,d3.2 c4,X6e] at hE
           rw [if_pos c4,<- hE]; rfl
         . have e3:p3=false:=by cases p3 with | true=>exact absurd (d3.1 rfl) c4 | false=>rfl
           rw [Q0p,e3,X5v,if_pos rfl] at hE;rw [if_neg c4]
           by_cases c5:8 < s.members.length
           . rw [Q0p,d4.2 c5,X6e] at hE
             rw [if_pos c5,<- hE]; rfl
           . have e4:p4=false:=by cases p4 with | true=>exact absurd (d4.1 rfl) c5 | false=>rfl
             rw [Q0p,e4,X5v,if_pos rfl] at hE;rw [if_neg c5,<- hE]; rfl
       . rw [Q0p,if_neg c3] at hE
         rw [Y7a c0 c1 c2 c3,<- hE,if_neg c3,X0j c3]
 . rw [Q0p,if_neg c0] at hE
   rw [<- hE,if_neg c0,Y9x c0,Q7j c0]
theorem Y7k (s:Q0b) (i:Nat) (sh:Bool) (nj:(!(((Q0c s.members i).length:Int) == (s.ships.length:Int) && (((Q1c s.members i).length:Int) == (s.ships.length:Int) && ((Q1f s.members i).length:Int) == (s.ships.length:Int))))=sh) {A B:Int}
    (hA:Q0o [Q0s (!nameB (Q1s s.members i)) 8,Q0s (Q4a s.members i) 9,Q0j (Q0n s.members i) 1 1000,Q0s sh 2]=A) (hB:Q0o [Q0z (Q0c s.members i) 9,Q0z (Q1c s.members i) 1024,Q0z (Q1f s.members i) 1024]=B):s.Q3v i=if A=0 then B else A:=by
 have d:sh=false ↔ ((Q0c s.members i).length=s.ships.length /\ (Q1c s.members i).length=s.ships.length /\ (Q1f s.members i).length=s.ships.length):=by
  rw [<- nj,Bool.not_eq_false',Bool.and_eq_true,Bool.and_eq_true,beq_iff_eq,beq_iff_eq,beq_iff_eq]; omega
 clear nj;cases hn:nameB (Q1s s.members i) with
 | false =>
   rw [hn,Bool.not_false,X6e,Q0p] at hA;rw [X8p hn,<- hA]; rfl
 | true =>
   rw [hn,Bool.not_true,X5v,Q0p,if_pos rfl] at hA;cases ht:Q4a s.members i with
   | true =>
     rw [ht,X6e,Q0p] at hA;rw [X6r hn ht,<- hA]; rfl
   | false =>
     rw [ht,X5v,Q0p,if_pos rfl] at hA
     by_cases hw:Q0j (Q0n s.members i) 1 1000=0
     . rw [Q0p,if_pos hw] at hA
       cases sh with
       | true =>
         rw [X7a hn ht hw (fun h=>by have:=d.2 h; cases this),<- hA]; rfl
       | false =>
         rw [Y1d hn ht hw (d.1 rfl),<- hA,hB]; rfl
     . rw [Q0p,if_neg hw] at hA
       rw [<- hA,if_neg hw,X4n hn ht hw,Q7j hw]
theorem Q2k (w:World) (v:Value) (s:Q0b) (hv:Q0i w v s) (hs:Q2r s) :
    Calls prog 46 #[v] w fun e w'=>e=.returned (.int .i64 s.err) /\ Ext w w':=by
 obtain ⟨a,b,rfl,h2⟩:=hv;obtain ⟨A,Tq,rfl,mw,-,-⟩:=h2.ships.opened;obtain ⟨B,Vq,rfl,ry,Lk,-⟩:=h2.members.opened;have H2:=Lib.hid h2;have Ya:=Lib.hid hs;have h7:=hs.ships;have h9:=hs.members;obtain ⟨p1,P7⟩:∃ x,((s.ships.length:Int) == 0)=x:=⟨_,rfl⟩;obtain ⟨p2,R6⟩:∃ x,decide (6 < (s.ships.length:Int))=x:=⟨_,rfl⟩;obtain ⟨p3,MZ⟩:∃ x,((s.members.length:Int) == 0)=x:=⟨_,rfl⟩;obtain ⟨p4,QQ⟩:∃ x,decide (8 < (s.members.length:Int))=x:=⟨_,rfl⟩;obtain ⟨E,hE⟩:∃ E,Q0o [Q0j s.limit 0 1024,Q0s p1 12,Q0s p2 5,Q0z s.ships 1000,Q0s p3 12,Q0s p4 5]=E:=⟨_,rfl⟩;have HE:Hid (∀ (w':World) (u:Value),Q0g w' u [Q0j s.limit 0 1024,Q0s p1 12,Q0s p2 5,Q0z s.ships 1000,Q0s p3 12,Q0s p4 5] -> Calls prog 96 #[u] w' fun e w''=>e=.returned (.int .i64 E) /\ w'=w''):=Lib.hid (by intro w' u h; rw [<- hE]; exact first_any _ _ _ h)
 have kW:=Lib.hid (J3m s p1 p2 p3 p4 P7 R6 MZ QQ hE);clear h2 hE hs;go_enter func46,ntmps46;go_wp2_with fail;change Code.wp _ _ _ _ (w.alloc (.cells #[.int .i64 s.limit,.slice A s.ships.length Tq,.slice B s.members.length Vq] 34));obtain ⟨W,Mq,k0,Rq,eW⟩:=Q2q w 34 #[.int .i64 s.limit,.slice A s.ships.length Tq,.slice B s.members.length Vq];rw [Mq];clear Mq;have K0:=Lib.hid k0;have c0_1:=k0.cell 1;simp only [Go.Tw.gA,Go.Tw.gB,Go.Tw.gC] at c0_1;have Xq:=(Ext.refl W).drew;clear k0;go_wp2;refine Flow.Q1h [.p,.w,.w,.p,.p,.w,.p,.p,.w,.p,.w,.w,.w,.p,.w,.p,.p,.w,.p,.w,.p,.p,.w,.w,.w,.p] [0,1,2,3,4,5,6,7,8,9,10,11,12,13,14,15,16,17,18,19,20,21,22,23,24,25] [[],[0],[1],[],[3],[2,4],[],[6],[5,7],[],[9],[8,10],[11],[],[13],[14],[15],[12,16],[],[18],[19],[20],[17,21],[2,5,8,12,17,22],[22,23],[0,1,2,3,4,5,6,7,8,9,10,11,12,13,14,15,16,17,18,19,20,21,22,23,24]]
  [.c 0 (.pointer (some ⟨w.heap.size,0,none⟩)),.c 1 (.int .i64 s.limit),.c 2 (.int .i64 (Q0j s.limit 0 1024)),.c 3 (.int .i64 (s.ships.length:Int)),.c 4 (.bool p1),.c 5 (.int .i64 (Q0s p1 12)),.c 6 (.int .i64 (s.ships.length:Int)),.c 7 (.bool p2),.c 8 (.int .i64 (Q0s p2 5)),.c 9 (.pointer (some ⟨w.heap.size,1,none⟩)),.c 10 (.slice A s.ships.length Tq),⟨fun v wz=>(fun v w'=>Q0g w' (v 11) (s.ships.map fun x=>Q0j x 0 1000)) v wz,by intro v a b hx h; exact Q0g.ext h hx⟩,.c 12 (.int .i64 (Q0z s.ships 1000)),.c 13 (.pointer (some ⟨w.heap.size,2,none⟩)),.c 14 (.slice B s.members.length Vq),.c 15 (.int .i64 ((s.members.length:Nat):Int)),.c 16 (.bool p3),.c 17 (.int .i64 (Q0s p3 12)),.c 18 (.pointer (some ⟨w.heap.size,2,none⟩)),.c 19 (.slice B s.members.length Vq),.c 20 (.int .i64 ((s.members.length:Nat):Int)),.c 21 (.bool p4),.c 22 (.int .i64 (Q0s p4 5)),⟨fun v wz=>Q0g wz (v 23) [Q0j s.limit 0 1024,Q0s p1 12,Q0s p2 5,Q0z s.ships 1000,Q0s p3 12,Q0s p4 5],fun _ _ _ hx h=>h.ext hx⟩,.c 24 (.int .i64 E),.c 25 (.int .i64 E)]
  (by kernel_rfl) rfl (by kernel_rfl) ⟨?g0,?g1,?g2,?g3,?g4,?g5,?g6,?g7,?g8,?g9,?g10,?g11,?g12,?g13,?g14,?g15,?g16,?g17,?g18,?g19,?g20,?g21,?g22,?g23,?g24,?g25,trivial⟩ ?post
 case g0 | g3 | g6 | g9 | g13 | g18=>
  intro v w1 hx;intro bb hbb;subst hbb;refine ⟨_,fun w=>?_,rfl⟩;go_simp
 case g1 | g10 | g14 | g19=>
  intro v w1 hx;(repeat intro (zq:v _=_));intro bb hbb;subst hbb;have n0:w1.cell? ⟨w.heap.size,0,none⟩=some (.int .i64 s.limit):=(K0.out.ext (Xq.trans hx)).cell 0;have n1:w1.cell? ⟨w.heap.size,1,none⟩=some (.slice A s.ships.length Tq):=(K0.out.ext (Xq.trans hx)).cell 1;have n2:w1.cell? ⟨w.heap.size,2,none⟩=some (.slice B s.members.length Vq):=(K0.out.ext (Xq.trans hx)).cell 2;intro K hK;go_simp;exact hK _ _ (Ext.refl _) rfl
 case g2=>
  intro v w1 hx;(repeat intro (zq:v _=_));intro bb hbb;subst hbb;intro K hK;go_simp;refine Q0e (X0i w1 s.limit) ?_;rintro e w2 ⟨rfl,rfl⟩;exact ⟨_,rfl,hK _ _ (Ext.refl _) rfl⟩
 case g4 | g7 | g15 | g16 | g20 | g21=>
  intro v w1 hx;(repeat intro (zq:v _=_));intro bb hbb;subst hbb;refine ⟨_,fun w=>?_,rfl⟩;go_simp
 case g5 | g8 | g17 | g22=>
  intro v w1 hx;(repeat intro (zq:v _=_));intro bb hbb;subst hbb;intro K hK;go_simp;refine Q0e (Q4u _ _ _) ?_;rintro e w2 ⟨rfl,rfl⟩;exact ⟨_,rfl,hK _ _ (Ext.refl _) rfl⟩
 case g11=>
  intro v w1 hx;(repeat intro (zq:v _=_));intro bb hbb;subst hbb;intro K hK;go_simp;refine Q0e (Y0d w1 _ s.ships (H2.out.ships.ext (Rq.out.trans (Xq.trans hx))) (by omega)) ?_
  rintro e w2 ⟨x,rfl,h1,Nq⟩;exact ⟨_,rfl,hK _ _ Nq h1⟩
 case g12=>
  intro v w1 hx (q11:(fun v w'=>Q0g w' (v 11) (s.ships.map fun x=>Q0j x 0 1000)) v w1);intro bb hbb;subst hbb;intro K hK;go_simp;refine Q0e (first_any w1 _ _ q11) ?_;rintro e w2 ⟨rfl,rfl⟩;exact ⟨_,rfl,hK _ _ (Ext.refl _) rfl⟩
 case g23=>
  intro v w1 hx;(repeat intro (zq:v _=_));intro bb hbb;subst hbb;intro K hK;go_simp;exact hK _ _ (Ext.box _ _) (Q3d (l:=[Q0j s.limit 0 1024,Q0s p1 12,Q0s p2 5,Q0z s.ships 1000,Q0s p3 12,Q0s p4 5]) (by simp))
 case g24=>
  intro v w1 hx (q22:v 22=_) (q23:Q0g w1 (v 23) [Q0j s.limit 0 1024,Q0s p1 12,Q0s p2 5,Q0z s.ships 1000,Q0s p3 12,Q0s p4 5]);intro bb hbb;subst hbb;intro K hK;go_simp;refine Q0e (HE.out _ _ q23) ?_;rintro e w2 ⟨rfl,rfl⟩;exact ⟨_,rfl,hK _ _ (Ext.refl _) rfl⟩
 case g25=>
  intro v w1 hx (q0:v 0=_) (q1:v 1=_) (q2:v 2=_) (q3:v 3=_) (q4:v 4=_) (q5:v 5=_) (q6:v 6=_) (q7:v 7=_) (q8:v 8=_) (q9:v 9=_) (q10:v 10=_) _ (q12:v 12=_) (q13:v 13=_) (q14:v 14=_) (q15:v 15=_) (q16:v 16=_) (q17:v 17=_) (q18:v 18=_) (q19:v 19=_) (q20:v 20=_) (q21:v 21=_) (q22:v 22=_) _ (q24:v 24=_);intro bb hbb;subst hbb;refine ⟨_,fun w=>?_,rfl⟩;go_simp
 case post =>
  intro v w1 hx (q0:v 0=_) (q1:v 1=_) (q2:v 2=_) (q3:v 3=_) (q4:v 4=_) (q5:v 5=_) (q6:v 6=_) (q7:v 7=_) (q8:v 8=_) (q9:v 9=_) (q10:v 10=_) (q11:(fun v w'=>Q0g w' (v 11) (s.ships.map fun x=>Q0j x 0 1000)) v w1) (q12:v 12=_) (q13:v 13=_) (q14:v 14=_) (q15:v 15=_) (q16:v 16=_) (q17:v 17=_) (q18:v 18=_) (q19:v 19=_);(iterate 3 intro (zq:v _=_));intro (q23:Q0g w1 (v 23) [Q0j s.limit 0 1024,Q0s p1 12,Q0s p2 5,Q0z s.ships 1000,Q0s p3 12,Q0s p4 5]);(iterate 1 intro (zq:v _=_));intro (q25:v 25=_);simp only [Flow.All,Flow.acts,Act.put];go_simp;have rk:=Lib.hid (Rq.out.trans (Xq.trans hx));have vz:=Lib.hid (K0.out.ext (Xq.trans hx));clear hx Xq c0_1 HE P7 R6 MZ QQ
  by_cases L6:E=0
  . have hne:(E != 0)=false:=by simp [L6]
    have Yw:Hid (s.err=Q4m s.Q3v s.members.length 0):=Lib.hid (by rw [kW.out,if_pos L6])
    have c0_2:=vz.out.cell 2;simp only [Go.Tw.gA,Go.Tw.gB,Go.Tw.gC] at c0_2;clear L6 kW;clear q0 q1 q2 q3 q4 q5 q6 q7 q8 q9 q10 q11 q12 q13 q14 q15 q16 q17 q18 q19 q23;(repeat clear zq);obtain ⟨V,rfl⟩:∃ X,X=w1:=⟨_,rfl⟩;go_wp2;clear c0_2
    go_loopw [45] (fun i wr=>∃ (k:Nat),k <= s.members.length /\ i=.int .i64 k /\ Q4m s.Q3v s.members.length k=s.err /\ Ext V wr) (fun i _=>s.members.length - (intOf i).toNat)
    case atStart=>exact ⟨0,Nat.zero_le _,rfl,Yw.out.symm,Ext.refl _⟩
    case round =>
     obtain ⟨k,hk,rfl,hr,Gq⟩:=hrel;have HR:=Lib.hid hr;have Pj:=Lib.hid Gq;have Z7:=Lib.hid (vz.out.ext Gq);clear hr Yw
     by_cases Uq:k < s.members.length
     . have H3:=H2.out.ext (rk.out.trans Gq)
       obtain ⟨_,_,hB,_,_,hc⟩:=H3.members.opened;cases hB;have mJ:Hid (∀ w',Ext wr w' -> ∀ j,j < k -> ∃ b off c1 c2 c3 c4,B=some ⟨b,off,none⟩ /\ w'.cell? ⟨b,off + j * 5,none⟩=some (.string (Q1s s.members j)) /\ w'.cell? ⟨b,off + j * 5 + 1,none⟩=some c1 /\ w'.cell? ⟨b,off + j * 5 + 2,none⟩=some c2 /\ w'.cell? ⟨b,off + j * 5 + 3,none⟩=some c3 /\ w'.cell? ⟨b,off + j * 5 + 4,none⟩=some c4):=Lib.hid (fun w' hx j hj=>by
        obtain ⟨b',off',x',y',z',hA,_,f0,f1,f2,f3,f4,_⟩:=hc j (by omega)
        exact ⟨b',off',_,_,_,_,hA,hx.cell f0,hx.cell f1,hx.cell f2,hx.cell f3,hx.cell f4⟩)
       obtain ⟨bm,off,x,y,z,rfl,Tk,e0,e1,e2,e3,e4,hx,hy,hz,nj⟩:=hc k Uq;obtain ⟨X,Sq,rfl,BW,-,-⟩:=hx.opened;obtain ⟨Y,Jq,rfl,AW,-,-⟩:=hy.opened;obtain ⟨Z,Cq,rfl,zW,-,-⟩:=hz.opened;have F8:=Ya.out.each k Uq;unfold X5y at F8;have M4:=X4k (f:=s.Q3v) Uq;rw [HR.out] at M4;obtain ⟨sh,F1⟩:∃ x,(!(((Q0c s.members k).length:Int) == (s.ships.length:Int) && (((Q1c s.members k).length:Int) == (s.ships.length:Int) && ((Q1f s.members k).length:Int) == (s.ships.length:Int))))=x:=⟨_,rfl⟩;obtain ⟨EA,PQ⟩:∃ E,Q0o [Q0s (!nameB (Q1s s.members k)) 8,Q0s (Q4a s.members k) 9,Q0j (Q0n s.members k) 1 1000,Q0s sh 2]=E:=⟨_,rfl⟩;obtain ⟨EB,fJ⟩:∃ E,Q0o [Q0z (Q0c s.members k) 9,Q0z (Q1c s.members k) 1024,Q0z (Q1f s.members k) 1024]=E:=⟨_,rfl⟩;have L4:=Y7k s k sh F1 PQ fJ;have y9:((List.range k).any fun j=>Q1s s.members j == Q1s s.members k)=Q4a s.members k:=rfl;obtain ⟨tw,LZ⟩:∃ x,Q4a s.members k=x:=⟨_,rfl⟩;rw [LZ] at y9 PQ;have Jg:=Lib.hid hx;have ae:=Lib.hid hy;have j3:=Lib.hid hz;have T8:=Lib.hid nj;obtain ⟨nm,Aj⟩:∃ x,Q1s s.members k=x:=⟨_,rfl⟩;obtain ⟨wt,lq⟩:∃ x,Q0n s.members k=x:=⟨_,rfl⟩;obtain ⟨lc,vj⟩:∃ x,Q0c s.members k=x:=⟨_,rfl⟩;obtain ⟨lo,Sx⟩:∃ x,Q1c s.members k=x:=⟨_,rfl⟩;obtain ⟨li,mj⟩:∃ x,Q1f s.members k=x:=⟨_,rfl⟩;rw [Aj] at e0 T8 y9 PQ F8;rw [lq] at e1 PQ;rw [vj] at e2 Jg F1 fJ F8 BW;rw [Sx] at e3 ae F1 fJ F8 AW;rw [mj] at e4 j3 F1 fJ F8 zW;obtain ⟨nb,hnb⟩:∃ x,nameB nm=x:=⟨_,rfl⟩;rw [hnb] at PQ;have T1:Hid (∀ w',Calls prog 124 #[.string nm] w' fun e w''=>e=.returned (.bool nb) /\ Ext w' w''):=Lib.hid (fun w'=>by rw [<- hnb]; exact Z6j w' nm T8.out)
       have HA:Hid (∀ (w':World) (u:Value),Q0g w' u [Q0s (!nb) 8,Q0s tw 9,Q0j wt 1 1000,Q0s sh 2] -> Calls prog 96 #[u] w' fun e w''=>e=.returned (.int .i64 EA) /\ w'=w''):=Lib.hid (by intro w' u h; rw [<- PQ]; exact first_any _ _ _ h)
       have HB:Hid (∀ (w':World) (u:Value),Q0g w' u [Q0z lc 9,Q0z lo 1024,Q0z li 1024] -> Calls prog 96 #[u] w' fun e w''=>e=.returned (.int .i64 EB) /\ w'=w''):=Lib.hid (by intro w' u h; rw [<- fJ]; exact first_any _ _ _ h)
       have JZ:=Lib.hid F1;have dX:Hid (∀ (w':World) (g Qq:Nat),Ext wr w' -> w'.cell? ⟨g,0,none⟩=some (.string nm) -> Calls prog 122 #[.slice (some ⟨bm,off,none⟩) k Qq,.func (.func 123) #[] #[.pointer (some ⟨g,0,none⟩)]] w' fun e w''=>e=.returned (.bool tw) /\ Ext w' w''):=Lib.hid (fun w' g Qq hx hB=>by
        have:=Z5m w' s.members k (some ⟨bm,off,none⟩) Qq g nm hB (by omega) (mJ.out w' hx)
        rwa [y9] at this)
       obtain ⟨Xa,Tr,GZ,Sr⟩:=F8;have vg:=Lib.hid L4;have K4:=Lib.hid M4;have c0_2:=Z7.out.cell 2;simp only [Go.Tw.gA,Go.Tw.gB,Go.Tw.gC] at c0_2;have zj:(k:Int) < s.members.length:=by omega
       clear hc H3 mJ hx hy hz nj M4 L4 Aj lq vj Sx mj hnb y9 LZ PQ fJ F1 BW AW zW Tk Xa T8;have Bq:=Ext.box wr (.cells #[.string nm,.int .i64 wt,.slice X lc.length Sq,.slice Y lo.length Jq,.slice Z li.length Cq] 69);have K3:=Blk.made wr 69 #[.string nm,.int .i64 wt,.slice X lc.length Sq,.slice Y lo.length Jq,.slice Z li.length Cq];replace c0_2:=Bq.cell c0_2;have d0:=K3.cell 0;have d2:=K3.cell 2;have d3:=K3.cell 3;have d4:=K3.cell 4;simp only [Go.Tw.gA,Go.Tw.gB,Go.Tw.gC] at d0 d2 d3 d4
       go_light
       go_wp2_with (go_at_call 122; refine (dX.out _ _ _ Bq d0).mono ?_; rintro e w4 ⟨rfl,fk⟩; replace d2:=fk.cell d2; replace d3:=fk.cell d3; replace d4:=fk.cell d4);obtain ⟨W,Mq,k0,Rq,eW⟩:=Q2q w4 195 #[.int .i64 (lc.length:Int),.int .i64 (lo.length:Int),.int .i64 (li.length:Int)];rw [Mq];clear Mq;have KB:=Lib.hid ((K3.ext fk).ext Rq.out);have KA:=Lib.hid k0;have kx:=Lib.hid ((rk.out.trans Gq).trans ((Bq.trans fk).trans Rq.out));have OZ:=Lib.hid ((Bq.trans fk).trans Rq.out);have yw:=Lib.hid (Gq.trans ((Bq.trans fk).trans Rq.out));have Xq:=(Ext.refl W).drew;clear k0 K3 d0 d2 d3 d4 c0_2 fk Gq Bq e0 e1 e2 e3 e4 dX;refine Flow.Q1h [.p,.w,.w,.p,.w,.p,.w,.p,.w,.w,.w,.p,.p,.p,.p,.p,.w,.w,.w,.p] [0,1,2,3,4,5,6,7,8,9,10,11,12,13,14,15,16,17,18,19] [[],[0],[1],[2],[2,3],[],[4,5],[],[7],[6,8],[],[],[],[],[11,12,13],[10,14],[9,15],[4,6,9,16],[16,17],[0,1,2,3,4,5,6,7,8,9,10,11,12,13,14,15,16,17,18]]
        [.c 0 (.pointer (some ⟨wr.heap.size,0,none⟩)),.c 1 (.string nm),.c 2 (.bool nb),.c 3 (.bool (!nb)),.c 4 (.int .i64 (Q0s (!nb) 8)),.c 5 (.bool tw),.c 6 (.int .i64 (Q0s tw 9)),.c 7 (.pointer (some ⟨wr.heap.size,1,none⟩)),.c 8 (.int .i64 wt),.c 9 (.int .i64 (Q0j wt 1 1000)),.c 10 (.agg (a3 lc.length lo.length li.length)),.c 11 (.int .i64 (s.ships.length:Int)),.c 12 (.int .i64 (s.ships.length:Int)),.c 13 (.int .i64 (s.ships.length:Int)),.c 14 (.agg #[.int .i64 (s.ships.length:Int),.int .i64 (s.ships.length:Int),.int .i64 (s.ships.length:Int)]),.c 15 (.bool sh),.c 16 (.int .i64 (Q0s sh 2)),⟨fun v wz=>Q0g wz (v 17) [Q0s (!nb) 8,Q0s tw 9,Q0j wt 1 1000,Q0s sh 2],fun _ _ _ hx h=>h.ext hx⟩,.c 18 (.int .i64 EA),.c 19 (.int .i64 EA)]
        (by kernel_rfl) rfl (by kernel_rfl) ⟨?g0,?g1,?g2,?g3,?g4,?g5,?g6,?g7,?g8,?g9,?g10,?g11,?g12,?g13,?g14,?g15,?g16,?g17,?g18,?g19,trivial⟩ ?post
       case g0 | g5 | g7 | g11 | g12 | g13=>
        intro v w1 hx;intro bb hbb;subst hbb;refine ⟨_,fun w=>?_,rfl⟩;go_simp
       case g1 | g8=>
        intro v w1 hx;(repeat intro (zq:v _=_));intro bb hbb;subst hbb;have n0:w1.cell? ⟨wr.heap.size,0,none⟩=some (.string nm):=(KB.out.ext (Xq.trans hx)).cell 0;have n1:w1.cell? ⟨wr.heap.size,1,none⟩=some (.int .i64 wt):=(KB.out.ext (Xq.trans hx)).cell 1;intro K hK;go_simp;exact hK _ _ (Ext.refl _) rfl
       case g2=>
        intro v w1 hx;(repeat intro (zq:v _=_));intro bb hbb;subst hbb;intro K hK;go_simp;refine Q0e (T1.out w1) ?_;rintro e w2 ⟨rfl,Nq⟩;exact ⟨_,rfl,hK _ _ Nq rfl⟩
       case g3 | g14=>
        intro v w1 hx;(repeat intro (zq:v _=_));intro bb hbb;subst hbb;refine ⟨_,fun w=>?_,rfl⟩;go_simp
       case g4 | g6 | g16=>
        intro v w1 hx;(repeat intro (zq:v _=_));intro bb hbb;subst hbb;intro K hK;go_simp;refine Q0e (Q4u _ _ _) ?_;rintro e w2 ⟨rfl,rfl⟩;exact ⟨_,rfl,hK _ _ (Ext.refl _) rfl⟩
       case g9=>
        intro v w1 hx;(repeat intro (zq:v _=_));intro bb hbb;subst hbb;intro K hK;go_simp;refine Q0e (Q8e w1 wt 1 1000) ?_;rintro e w2 ⟨rfl,rfl⟩;exact ⟨_,rfl,hK _ _ (Ext.refl _) rfl⟩
       case g10=>
        intro v w1 hx;intro bb hbb;intro K hK;have o1:bb.eval (.tmp 8)=.pointer (some ⟨w4.heap.size,0,none⟩):=fze04
        exact Q0k (.tmp 8) _ rfl J9u J8v o1 (KA.out.ext (Xq.trans hx)) rfl (hK _ _ (Ext.refl _) rfl)
       case g15=>
        intro v w1 hx;(repeat intro (zq:v _=_));intro bb hbb;have o1:bb.eval (.tmp 76)=.agg (a3 lc.length lo.length li.length):=by rw [hbb]; dsimp only; (try simp (discharger:=decide) only [eval_put_ne]); rw [Q0a (by simp only [size_put]; exact (by decide:76 < 106))]; assumption
        have o2:bb.eval (.tmp 80)=.agg (a3 s.ships.length s.ships.length s.ships.length):=by rw [hbb]; dsimp only; (try simp (discharger:=decide) only [eval_put_ne]); rw [Q0a (by simp only [size_put]; exact (by decide:80 < 106))]; assumption
        exact ⟨.bool sh,fun w=>(Y7l (.tmp 76) (.tmp 80) rfl o1 o2).trans (by rw [JZ.out]),rfl⟩
       case g17=>
        intro v w1 hx;(repeat intro (zq:v _=_));intro bb hbb;subst hbb;intro K hK;go_simp;exact hK _ _ (Ext.box _ _) (Q3d (l:=[Q0s (!nb) 8,Q0s tw 9,Q0j wt 1 1000,Q0s sh 2]) (by simp))
       case g18=>
        intro v w1 hx (q16:v 16=_) (q17:Q0g w1 (v 17) [Q0s (!nb) 8,Q0s tw 9,Q0j wt 1 1000,Q0s sh 2]);intro bb hbb;subst hbb;intro K hK;go_simp;refine Q0e (HA.out _ _ q17) ?_;rintro e w2 ⟨rfl,rfl⟩;exact ⟨_,rfl,hK _ _ (Ext.refl _) rfl⟩
       case g19=>
        intro v w1 hx (q0:v 0=_) (q1:v 1=_) (q2:v 2=_) (q3:v 3=_) (q4:v 4=_) (q5:v 5=_) (q6:v 6=_) (q7:v 7=_) (q8:v 8=_) (q9:v 9=_) (q10:v 10=_) (q11:v 11=_) (q12:v 12=_) (q13:v 13=_) (q14:v 14=_) (q15:v 15=_) (q16:v 16=_) _ (q18:v 18=_);intro bb hbb;subst hbb;refine ⟨_,fun w=>?_,rfl⟩;go_simp
       case post =>
        intro v w1 hx (q0:v 0=_) (q1:v 1=_) (q2:v 2=_) (q3:v 3=_) (q4:v 4=_) (q5:v 5=_) (q6:v 6=_) (q7:v 7=_) (q8:v 8=_) (q9:v 9=_) (q10:v 10=_) (q11:v 11=_) (q12:v 12=_) (q13:v 13=_) (q14:v 14=_);(iterate 2 intro (zq:v _=_));intro (q17:Q0g w1 (v 17) [Q0s (!nb) 8,Q0s tw 9,Q0j wt 1 1000,Q0s sh 2]);(iterate 1 intro (zq:v _=_));intro (q19:v 19=_);simp only [Flow.All,Flow.acts,Act.put];go_simp;have Wz:=Lib.hid (Xq.trans hx);clear hx Xq q0 q1 q2 q3 q4 q5 q6 q7 q8 q9 q10 q11 q12 q13 q14 q17 HA T1 JZ KA;(repeat clear zq)
        by_cases ha:EA=0
        . have Tm:(EA != 0)=false:=by simp [ha]
          have Zf:Hid (s.Q3v k=EB):=Lib.hid (by rw [vg.out,if_pos ha])
          have Wa:=Lib.hid (KB.out.ext Wz.out);have uj:=Lib.hid (kx.out.trans Wz.out);have Sm:=Lib.hid (yw.out.trans Wz.out);have OQ:=Lib.hid (OZ.out.trans Wz.out);have Xq:=(Ext.refl w1).drew;clear ha vg KB kx Wz yw;obtain ⟨U,rfl⟩:∃ X,X=w1:=⟨_,rfl⟩;go_wp2;refine Flow.Q1h [.p,.w,.w,.w,.p,.w,.w,.w,.p,.w,.w,.w,.w,.w,.p] [0,1,2,3,4,5,6,7,8,9,10,11,12,13,14] [[],[0],[1],[2],[],[4],[3,5],[6],[],[8],[7,9],[10],[3,7,11],[11,12],[0,1,2,3,4,5,6,7,8,9,10,11,12,13]]
           [.c 0 (.pointer (some ⟨wr.heap.size,2,none⟩)),.c 1 (.slice X lc.length Sq),⟨fun v wz=>(fun v w'=>Q0g w' (v 2) (lc.map fun x=>Q0j x 0 9)) v wz,by intro v a b hx h; exact Q0g.ext h hx⟩,.c 3 (.int .i64 (Q0z lc 9)),.c 4 (.pointer (some ⟨wr.heap.size,3,none⟩)),.c 5 (.slice Y lo.length Jq),⟨fun v wz=>(fun v w'=>Q0g w' (v 6) (lo.map fun x=>Q0j x 0 1024)) v wz,by intro v a b hx h; exact Q0g.ext h hx⟩,.c 7 (.int .i64 (Q0z lo 1024)),.c 8 (.pointer (some ⟨wr.heap.size,4,none⟩)),.c 9 (.slice Z li.length Cq),⟨fun v wz=>(fun v w'=>Q0g w' (v 10) (li.map fun x=>Q0j x 0 1024)) v wz,by intro v a b hx h; exact Q0g.ext h hx⟩,.c 11 (.int .i64 (Q0z li 1024)),⟨fun v wz=>Q0g wz (v 12) [Q0z lc 9,Q0z lo 1024,Q0z li 1024],fun _ _ _ hx h=>h.ext hx⟩,.c 13 (.int .i64 EB),.c 14 (.int .i64 EB)]
           (by kernel_rfl) rfl (by kernel_rfl) ⟨?g0,?g1,?g2,?g3,?g4,?g5,?g6,?g7,?g8,?g9,?g10,?g11,?g12,?g13,?g14,trivial⟩ ?post
          case g0 | g4 | g8=>
           intro v w1 hx;intro bb hbb;subst hbb;refine ⟨_,fun w=>?_,rfl⟩;go_simp
          case g1 | g5 | g9=>
           intro v w1 hx;(repeat intro (zq:v _=_));intro bb hbb;subst hbb;have n0:w1.cell? ⟨wr.heap.size,2,none⟩=some (.slice X lc.length Sq):=(Wa.out.ext (Xq.trans hx)).cell 2;have n1:w1.cell? ⟨wr.heap.size,3,none⟩=some (.slice Y lo.length Jq):=(Wa.out.ext (Xq.trans hx)).cell 3;have n2:w1.cell? ⟨wr.heap.size,4,none⟩=some (.slice Z li.length Cq):=(Wa.out.ext (Xq.trans hx)).cell 4;intro K hK;go_simp;exact hK _ _ (Ext.refl _) rfl
          case g2=>
           intro v w1 hx;(repeat intro (zq:v _=_));intro bb hbb;subst hbb;intro K hK;go_simp;refine Q0e (Q9j w1 _ lc (Jg.out.ext (OQ.out.trans (Xq.trans hx))) (by omega)) ?_
           rintro e w2 ⟨x,rfl,h1,Nq⟩;exact ⟨_,rfl,hK _ _ Nq h1⟩
          case g3=>
           intro v w1 hx (q2:(fun v w'=>Q0g w' (v 2) (lc.map fun x=>Q0j x 0 9)) v w1);intro bb hbb;subst hbb;intro K hK;go_simp;refine Q0e (first_any w1 _ _ q2) ?_;rintro e w2 ⟨rfl,rfl⟩;exact ⟨_,rfl,hK _ _ (Ext.refl _) rfl⟩
          case g6=>
           intro v w1 hx;(repeat intro (zq:v _=_));intro bb hbb;subst hbb;intro K hK;go_simp;refine Q0e (Q8w w1 _ lo (ae.out.ext (OQ.out.trans (Xq.trans hx))) (by omega)) ?_
           rintro e w2 ⟨x,rfl,h1,Nq⟩;exact ⟨_,rfl,hK _ _ Nq h1⟩
          case g7=>
           intro v w1 hx (q6:(fun v w'=>Q0g w' (v 6) (lo.map fun x=>Q0j x 0 1024)) v w1);intro bb hbb;subst hbb;intro K hK;go_simp;refine Q0e (first_any w1 _ _ q6) ?_;rintro e w2 ⟨rfl,rfl⟩;exact ⟨_,rfl,hK _ _ (Ext.refl _) rfl⟩
          case g10=>
           intro v w1 hx;(repeat intro (zq:v _=_));intro bb hbb;subst hbb;intro K hK;go_simp;refine Q0e (Q8w w1 _ li (j3.out.ext (OQ.out.trans (Xq.trans hx))) (by omega)) ?_
           rintro e w2 ⟨x,rfl,h1,Nq⟩;exact ⟨_,rfl,hK _ _ Nq h1⟩
          case g11=>
           intro v w1 hx (q10:(fun v w'=>Q0g w' (v 10) (li.map fun x=>Q0j x 0 1024)) v w1);intro bb hbb;subst hbb;intro K hK;go_simp;refine Q0e (first_any w1 _ _ q10) ?_;rintro e w2 ⟨rfl,rfl⟩;exact ⟨_,rfl,hK _ _ (Ext.refl _) rfl⟩
          case g12=>
           intro v w1 hx;(repeat intro (zq:v _=_));intro bb hbb;subst hbb;intro K hK;go_simp;exact hK _ _ (Ext.box _ _) (Q3d (l:=[Q0z lc 9,Q0z lo 1024,Q0z li 1024]) (by simp))
          case g13=>
           intro v w1 hx (q11:v 11=_) (q12:Q0g w1 (v 12) [Q0z lc 9,Q0z lo 1024,Q0z li 1024]);intro bb hbb;subst hbb;intro K hK;go_simp;refine Q0e (HB.out _ _ q12) ?_;rintro e w2 ⟨rfl,rfl⟩;exact ⟨_,rfl,hK _ _ (Ext.refl _) rfl⟩
          case g14=>
           intro v w1 hx (q0:v 0=_) (q1:v 1=_) _ (q3:v 3=_) (q4:v 4=_) (q5:v 5=_) _ (q7:v 7=_) (q8:v 8=_) (q9:v 9=_) _ (q11:v 11=_) _ (q13:v 13=_);intro bb hbb;subst hbb;refine ⟨_,fun w=>?_,rfl⟩;go_simp
          case post =>
           intro v w1 hx;(iterate 2 intro (zq:v _=_));intro (q2:(fun v w'=>Q0g w' (v 2) (lc.map fun x=>Q0j x 0 9)) v w1);(iterate 3 intro (zq:v _=_));intro (q6:(fun v w'=>Q0g w' (v 6) (lo.map fun x=>Q0j x 0 1024)) v w1);(iterate 3 intro (zq:v _=_));intro (q10:(fun v w'=>Q0g w' (v 10) (li.map fun x=>Q0j x 0 1024)) v w1);(iterate 1 intro (zq:v _=_));intro (q12:Q0g w1 (v 12) [Q0z lc 9,Q0z lo 1024,Q0z li 1024]);(iterate 1 intro (zq:v _=_));intro (q14:v 14=_);simp only [Flow.All,Flow.acts,Act.put];go_simp;have Wz:=Lib.hid (Xq.trans hx);clear hx Xq q2 q6 q10 q12;(repeat clear zq)
           by_cases hb:EB=0
           . have hnb:(EB != 0)=false:=by simp [hb]
             have Sj:Hid (Q4m s.Q3v s.members.length (k + 1)=s.err):=Lib.hid (by rw [K4.out,Zf.out,if_pos hb])
             clear hb;go_wp2;go_roundw
             case rel=>exact ⟨k + 1,by omega,by go_num,Sj.out,Sm.out.trans Wz.out⟩
             case measure=>simp [intOf]; omega
           . have hnb:(EB != 0)=true:=by simp [hb]
             have Sj:Hid (s.err=EB):=Lib.hid (by rw [K4.out,Zf.out,if_neg hb])
             clear hb;go_wp2;go_ret;exact ⟨Q1m Sj.out.symm,uj.out.trans Wz.out⟩
        . have Tm:(EA != 0)=true:=by simp [ha]
          have Sj:Hid (s.err=EA):=Lib.hid (by rw [K4.out,vg.out,if_neg ha,if_neg ha])
          clear ha;go_wp2;go_ret;exact ⟨Q1m Sj.out.symm,kx.out.trans Wz.out⟩
     . go_wp2
       go_ret;exact ⟨Q1m (by rw [<- HR.out,X6z (by omega)]),rk.out.trans Gq⟩
  . have hne:(E != 0)=true:=by simp [L6]
    have Yw:Hid (s.err=E):=Lib.hid (by rw [kW.out,if_neg L6])
    clear L6 kW;go_wp2;go_ret;exact ⟨Q1m Yw.out.symm,rk.out⟩
end Go.Proofs
namespace Go.Proofs
open Go.RowKit Go.Tw Go.Flow Tryz
def Y6d (x y:Int):Int:=if x < y then -1 else if y < x then 1 else 0
def cmpL:List Int -> List Int -> Int
 | [],[]=>0
 | [],_ :: _=>-1
 | _ :: _,[]=>1
 | x :: l,y :: m=>if x=y then cmpL l m else Y6d x y
def Y2o (a b:List Int):Int:=if Y6d a.length b.length=0 then cmpL a b else Y6d a.length b.length
theorem J1l {a b:List Int} {k:Nat} (ha:k < a.length) (hb:k < b.length):cmpL (a.drop k) (b.drop k)=if ix a k=ix b k then cmpL (a.drop (k + 1)) (b.drop (k + 1)) else Y6d (ix a k) (ix b k):=by
 rw [Q3j ha,Q3j hb]; rfl
theorem J6e {a b:List Int} {k:Nat} (ha:k < a.length) (hb:b.length <= k):cmpL (a.drop k) (b.drop k)=1:=by
 rw [Q3j ha,List.drop_eq_nil_of_le hb]; rfl
theorem J5n {a b:List Int} {k:Nat} (ha:a.length <= k) (hb:k < b.length):cmpL (a.drop k) (b.drop k)=-1:=by
 rw [Q3j hb,List.drop_eq_nil_of_le ha]; rfl
theorem cmpL_eq {a b:List Int} {k:Nat} (ha:a.length <= k) (hb:b.length <= k):cmpL (a.drop k) (b.drop k)=0:=by
 rw [List.drop_eq_nil_of_le hb,List.drop_eq_nil_of_le ha]; rfl
theorem X5r (w:World) (x y:Int) :
    Calls prog 189 #[.int .i64 x,.int .i64 y] w fun e w'=>e=.returned (.int .i64 (Y6d x y)) /\ w=w':=by
 unfold Y6d
 by_cases h1:x < y
 . rw [if_pos h1]
   go_enter func189,ntmps189;go_wp2;go_ret;exact ⟨rfl,rfl⟩
 . by_cases h2:y < x
   . rw [if_neg h1,if_pos h2]
     go_enter func189,ntmps189;go_wp2;go_ret;exact ⟨rfl,rfl⟩
   . rw [if_neg h1,if_neg h2]
     go_enter func189,ntmps189;go_wp2;go_ret;exact ⟨rfl,rfl⟩
theorem Y4l (w:World) (u v:Value) (a b:List Int) (hu:Q0g w u a) (hv:Q0g w v b) :
    Calls prog 190 #[u,v] w fun e w'=>e=.returned (.int .i64 (cmpL a b)) /\ w=w':=by
 obtain ⟨A,ca,rfl,mw,Cw,Xz⟩:=hu.opened;obtain ⟨B,cb,rfl,ry,Lk,Kj⟩:=hv.opened;clear hu hv;go_enter func190,ntmps190;go_wp2
 go_loop [11] (fun i=>∃ k:Nat,k <= a.length /\ i=.int .i64 k /\ cmpL (a.drop k) (b.drop k)=cmpL a b) (fun i=>a.length - (intOf i).toNat)
 case atStart=>exact ⟨0,Nat.zero_le _,rfl,rfl⟩
 case round =>
  obtain ⟨k,hk,rfl,hr⟩:=hrel;have HR:=Lib.hid hr; clear hr
  by_cases Uq:k < a.length
  . obtain ⟨b1,off1,rfl,Nx⟩:=Xz k Uq
    by_cases Kx:k < b.length
    . obtain ⟨b2,off2,rfl,Yx⟩:=Kj k Kx
      have HS:=Lib.hid (J1l Uq Kx);obtain ⟨x,hx⟩:∃ x,ix a k=x:=⟨_,rfl⟩;obtain ⟨y,hy⟩:∃ y,ix b k=y:=⟨_,rfl⟩;rw [hx,hy] at HS;rw [hx] at Nx;rw [hy] at Yx;clear hx hy Xz Kj
      by_cases he:x=y
      . have hz:(Y6d x y != 0)=false:=by unfold Y6d; subst he; simp
        have HE:=Lib.hid he; clear he;go_wp2_with (go_at_call 189; refine (X5r _ _ _).mono ?_; rintro e w' ⟨rfl,rfl⟩);go_round
        case rel=>exact ⟨k + 1,by omega,by go_num,by rw [<- HR.out,HS.out,if_pos HE.out]⟩
        case measure=>simp [intOf]; omega
      . have hz:(Y6d x y != 0)=true:=by
         unfold Y6d
         rcases Int.lt_or_gt_of_ne he with h | h
         . rw [if_pos h]; rfl
         . rw [if_neg (by omega),if_pos h]; rfl
        have HE:=Lib.hid he; clear he;go_wp2_with (go_at_call 189; refine (X5r _ _ _).mono ?_; rintro e w' ⟨rfl,rfl⟩);go_ret;exact ⟨Q1m (by rw [<- HR.out,HS.out,if_neg HE.out]),rfl⟩
    . have HS:=Lib.hid (J6e Uq (Nat.le_of_not_lt Kx))
      clear Xz Kj;go_wp2;go_ret;exact ⟨Q1m (by rw [<- HR.out,HS.out]),rfl⟩
  . have lj:k=a.length:=by omega
    by_cases Kx:a.length < b.length
    . have HS:=Lib.hid (J5n (Nat.le_of_not_lt Uq) (by rw [lj]; exact Kx))
      clear Xz Kj lj;go_wp2;go_ret;exact ⟨Q1m (by rw [<- HR.out,HS.out]),rfl⟩
    . have HS:=Lib.hid (cmpL_eq (Nat.le_of_not_lt Uq) (show b.length <= k by omega))
      clear Xz Kj lj;go_wp2;go_ret;exact ⟨Q1m (by rw [<- HR.out,HS.out]),rfl⟩
theorem Z4v (w:World) (g:Nat) (x y:Int) (h0:w.cell? ⟨g,0,none⟩=some (.int .i64 x)) (h1:w.cell? ⟨g,1,none⟩=some (.int .i64 y)) :
    Calls prog 188 #[.slice (some ⟨g,0,none⟩) 2 2] w fun e w'=>e=.returned (.int .i64 (if x=0 then y else x)) /\ w=w':=by
 have HC:Hid (∀ k,k < 2 -> w.cell? ⟨g,0 + k,none⟩=some (.int .i64 (ix [x,y] k))):=Lib.hid (fun k hk=>match k,hk with | 0,_=>h0 | 1,_=>h1)
 have HE:Hid (Q0o [x,y]=if x=0 then y else x):=Lib.hid (by
  show (if x=0 then (if y=0 then 0 else y) else x)=_
  split
  . split <;> simp_all
  . rfl)
 rw [<- HE.out];clear h0 h1;obtain ⟨l,hl⟩:∃ l,[x,y]=l:=⟨_,rfl⟩;have Qk:l.length=2:=by rw [<- hl]; rfl
 rw [hl] at HC ⊢;have O7:=Lib.hid Qk;clear HE hl Qk;go_enter func188,ntmps188;go_wp2
 go_loop [8] (fun i=>∃ k:Nat,k <= 2 /\ i=.int .i64 k /\ Q0o (l.drop k)=Q0o l) (fun i=>2 - (intOf i).toNat)
 case atStart=>exact ⟨0,Nat.zero_le _,rfl,rfl⟩
 case round =>
  obtain ⟨k,hk,rfl,hr⟩:=hrel;have HR:=Lib.hid hr; clear hr
  by_cases Uq:k < 2
  . have hc:=HC.out k Uq
    have tj:Q0o (l.drop k)=if ix l k=0 then Q0o (l.drop (k + 1)) else ix l k:=by rw [Q3j (by rw [O7.out]; exact Uq)]; rfl
    obtain ⟨z,hz⟩:∃ z,ix l k=z:=⟨_,rfl⟩;rw [hz] at hc tj;have Sj:=Lib.hid tj;rw [Nat.zero_add] at hc;clear tj hz
    by_cases he:z=0
    . have Rm:(z != 0)=false:=by simp [he]
      have HE:=Lib.hid he; clear he;go_wp2;go_round
      case rel=>exact ⟨k + 1,by omega,by go_num,by rw [<- HR.out,Sj.out,if_pos HE.out]⟩
      case measure=>simp [intOf]; omega
    . have Rm:(z != 0)=true:=by simp [he]
      have HE:=Lib.hid he; clear he;go_wp2;go_ret;exact ⟨Q1m (by rw [<- HR.out,Sj.out,if_neg HE.out]),rfl⟩
  . go_wp2
    go_ret;exact ⟨Q1m (by rw [<- HR.out,List.drop_eq_nil_of_le (by rw [O7.out]; omega)]; rfl),rfl⟩
theorem X7g (w:World) (u v:Value) (a b:List Int) (hu:Q0g w u a) (hv:Q0g w v b) :
    Calls prog 160 #[u,v] w fun e w'=>e=.returned (.int .i64 (Y2o a b)) /\ ∃ o,w'=w.alloc o:=by
 have HU:=Lib.hid hu;have HV:=Lib.hid hv;obtain ⟨A,ca,rfl,mw,Cw,Xz⟩:=hu.opened;obtain ⟨B,cb,rfl,ry,Lk,Kj⟩:=hv.opened;clear hu hv Xz Kj;have K6:Hid (∀ (x y:Int),Calls prog 188 #[.slice (some ⟨w.heap.size,0,none⟩) 2 2] (w.alloc (.cells #[.int .i64 x,.int .i64 y] 3)) fun e w'=>e=.returned (.int .i64 (if x=0 then y else x)) /\ (w.alloc (.cells #[.int .i64 x,.int .i64 y] 3))=w'):=Lib.hid (fun x y=>Z4v _ w.heap.size x y ((Blk.made _ _ _).cell 0) ((Blk.made _ _ _).cell 1))
 have HH:Hid ((if Y6d a.length b.length=0 then cmpL a b else Y6d a.length b.length)=Y2o a b):=Lib.hid rfl
 go_enter func160,ntmps160;go_wp2_with (first | (go_at_call 190; refine (Y4l _ _ _ a b HU.out HV.out).mono ?_; rintro e w' ⟨rfl,rfl⟩) | (go_at_call 189; refine (X5r _ _ _).mono ?_; rintro e w' ⟨rfl,rfl⟩) | (go_at_call 188; refine (K6.out _ _).mono ?_; rintro e w' ⟨rfl,rfl⟩; rw [HH.out]))
 go_ret;exact ⟨rfl,_,rfl⟩
theorem X2a (w:World) (u v:Value) (a b:List Int) (hu:Q0g w u a) (hv:Q0g w v b) :
    Calls prog 162 #[u,v] w fun e w'=>e=.returned (.bool (Y2o a b == 0)) /\ ∃ o,w'=w.alloc o:=by
 have HU:=Lib.hid hu;have HV:=Lib.hid hv;obtain ⟨A,ca,rfl,mw,Cw,Xz⟩:=hu.opened;obtain ⟨B,cb,rfl,ry,Lk,Kj⟩:=hv.opened;clear hu hv Xz Kj;go_enter func162,ntmps162;go_wp2_with (go_at_call 160; refine (X7g _ _ _ a b HU.out HV.out).mono ?_; rintro e w' ⟨rfl,o,rfl⟩);go_ret;exact ⟨rfl,_,rfl⟩
end Go.Proofs
namespace Go.Proofs
open Go.RowKit Go.Tw Go.Flow Go.Sort Tryz
theorem Z7r (x y:Int):Y6d x y < 0 ↔ x < y:=by unfold Y6d; split <;> (try split) <;> omega
theorem Y8k (x y:Int) (l m:List Int):cmpL (x :: l) (y :: m) < 0 ↔ x < y ∨ (x=y /\ cmpL l m < 0):=by
 show (if x=y then cmpL l m else Y6d x y) < 0 ↔ _
 split
 . rename_i h; simp [h]
 . rename_i h; rw [Z7r]; simp [h]
theorem Z0c:∀ a b:List Int,a.length=b.length -> (Q5k a b=true ↔ cmpL a b < 0)
 | [],[],_=>by simp [Q5k,cmpL]
 | [],_ :: _,h=>by simp at h
 | _ :: _,[],h=>by simp at h
 | x :: l,y :: m,h=>by
   rw [Y8k];show (if x=y then Q5k l m else decide (x < y))=true ↔ _
   split
   . rename_i Va
     rw [Z0c l m (by simpa using h)]
     simp [Va]
   . rename_i Va
     simp [Va]
theorem X4l (x y:Int):Y6d x y=0 ↔ x=y:=by unfold Y6d; split <;> (try split) <;> omega
theorem Y9k:∀ a b:List Int,cmpL a b=0 ↔ a=b
 | [],[]=>by simp [cmpL]
 | [],_ :: _=>by simp [cmpL]
 | _ :: _,[]=>by simp [cmpL]
 | x :: l,y :: m=>by
   show (if x=y then cmpL l m else Y6d x y)=0 ↔ _
   split
   . rename_i h; rw [Y9k l m]; simp [h]
   . rename_i h; rw [X4l]; simp [h]
theorem X3a (a b:List Int):Y2o a b=0 ↔ a=b:=by
 unfold Y2o
 split
 . exact Y9k a b
 . rename_i h
   constructor
   . intro k; exact absurd k h
   . intro k; subst k; exact absurd ((X4l _ _).2 rfl) h
theorem Q7i (a b:List Int):Y2o a b < 0 ↔ Q2f a b=true:=by
 unfold Y2o Q2f
 split
 . rename_i h
   have hl:a.length=b.length:=by have:=(X4l _ _).1 h; omega
   rw [if_pos hl];exact (Z0c a b hl).symm
 . rename_i h
   have hl:¬ a.length=b.length:=fun e=>h (by rw [e]; exact (X4l _ _).2 rfl)
   rw [if_neg hl,Z7r,decide_eq_true_iff];omega
theorem Z2r (a:List Int):¬ Y2o a a < 0:=by rw [Q7i]; exact Q7s a
theorem Y3b {a b c:List Int} (h1:Y2o a b < 0) (h2:Y2o b c < 0):Y2o a c < 0:=by rw [Q7i] at *; exact Q6u h1 h2
theorem Z4b (a b:List Int):Y2o a b < 0 ∨ a=b ∨ Y2o b a < 0:=by
 rw [Q7i,Q7i];cases h:Q2f a b with
 | true=>exact .inl rfl
 | false=>exact .inr (Y0s h)
theorem J4c (f:Nat -> List Int):SWO (ltOf fun x y:Nat=>Y2o (f x) (f y)) where
 irrefl x:=by simpa [ltOf] using Z2r (f x)
 trans x y z h1 h2:=by simp only [ltOf,decide_eq_true_eq] at *; exact Y3b h1 h2
 ntrans x y z h1 h2:=by
  simp only [ltOf,decide_eq_false_iff_not] at *;intro h
  rcases Z4b (f x) (f y) with h' | h' | h'
  . exact h1 h'
  . rw [h'] at h; exact h2 h
  . exact h2 (Y3b h' h)
def Sets (w:World) (vs:List Value) (ll:List (List Int)):Prop:=vs.length=ll.length /\ ∀ i,i < ll.length -> Q0q w 0 3 (.int .i64) (vs.getD i undef) (ll.getD i []) /\ (ll.getD i []).length <= 8
theorem Z2p {w W:World} {v:Value} {l:List Int} (h:Q0q w 0 3 (.int .i64) v l) (hb:∀ b,v.ownBlock=some b -> b < w.heap.size -> W.heap[b]?=w.heap[b]?):Q0q W 0 3 (.int .i64) v l:=by
 obtain ⟨h1,h2⟩:=h;refine ⟨h1,?_⟩
 rcases h2 with h2 | ⟨g,Qq,cur,hv,Ux,hg,r⟩
 . exact .inl h2
 . exact .inr ⟨g,Qq,cur,hv,Ux,(hb g (by rw [hv]; rfl) (Array.getElem?_eq_some_iff.1 hg).1).trans hg,r⟩
theorem Y5u {w:World} {v:Value} {l:List Int} {g:Nat} {cur:Array Value} {fr:Nat × Nat} (h:Q0q w 0 3 (.int .i64) v l) (hg:w.heap[g]?=some (.cells cur 166 fr)):v.ownBlock ≠ some g:=by
 intro e;obtain ⟨h1,h2⟩:=h
 rcases h2 with ⟨rfl,_⟩ | ⟨g',Qq,cur',rfl,Ux,sk,r⟩
 . cases e
 . obtain rfl:g'=g:=by simpa [Value.ownBlock] using e
   rw [hg] at sk;injection sk with h;injection h with _ h;exact absurd h (by decide)
theorem Sets.at {w W:World} {vs:List Value} {ll:List (List Int)} (h:Sets w vs ll) (hb:∀ v l,Q0q w 0 3 (.int .i64) v l -> ∀ b,v.ownBlock=some b -> b < w.heap.size -> W.heap[b]?=w.heap[b]?):Sets W vs ll :=
 ⟨h.1,fun i hi=>⟨Z2p (h.2 i hi).1 (hb _ _ (h.2 i hi).1),(h.2 i hi).2⟩⟩
theorem Sets.ext {w W:World} {vs:List Value} {ll:List (List Int)} (h:Sets w vs ll) (hx:Ext w W):Sets W vs ll:=h.at fun _ _ _ b _ hb=>Below.block hx b hb
theorem Sets.reads {w:World} {vs:List Value} {ll:List (List Int)} (h:Sets w vs ll):Reads w vs ll:=⟨h.1,fun i hi=>(h.2 i hi).1.ints (by have:=(h.2 i hi).2; omega)⟩
theorem Sets.nil (w:World):Sets w [] []:=⟨rfl,fun i hi=>by simp at hi⟩
theorem Sets.snoc {w:World} {vs:List Value} {ll:List (List Int)} {v:Value} {l:List Int} (h:Sets w vs ll) (hv:Q0q w 0 3 (.int .i64) v l) (hl:l.length <= 8):Sets w (vs ++ [v]) (ll ++ [l]):=by
 refine ⟨by simp [h.1],fun i hi=>?_⟩
 rw [List.length_append,List.length_singleton] at hi
 by_cases Uq:i < ll.length
 . have e1:(vs ++ [v]).getD i undef=vs.getD i undef:=by simp [List.getElem?_append_left (show i < vs.length by rw [h.1]; exact Uq)]
   have e2:(ll ++ [l]).getD i []=ll.getD i []:=by simp [List.getElem?_append_left Uq]
   rw [e1,e2]; exact h.2 i Uq
 . have e:i=ll.length:=by omega
   have e1:(vs ++ [v]).getD i undef=v:=by rw [e,<- h.1]; simp
   have e2:(ll ++ [l]).getD i []=l:=by rw [e]; simp
   rw [e1,e2]; exact ⟨hv,hl⟩
theorem Q6e {α:Type} [Inhabited α] (enc:α -> Value) (w:World) (blk off n:Nat) (d:Array α) (os:Array Obj) {k:Nat} (hk:k < w.heap.size) (hne:k ≠ blk):(sortWorld enc w blk off n d os).heap[k]?=w.heap[k]?:=by
 unfold sortWorld;rw [heap_grow_old _ _ (by rw [size_putRow]; exact hk)]
 show (w.heap.modify blk _)[k]?=_;rw [Array.getElem?_modify,if_neg (fun h=>hne h.symm)]
theorem Y2c {α:Type} [Inhabited α] (enc:α -> Value) (w:World) (blk off n:Nat) (d:Array α) (os:Array Obj):w.heap.size <= (sortWorld enc w blk off n d os).heap.size:=by
 unfold sortWorld;rw [size_grow,size_putRow]; show w.heap.size <= w.heap.size + _; omega
theorem X8o {α:Type} [Inhabited α] (enc:α -> Value) (w:World) (blk off n:Nat) (d:Array α) (os:Array Obj):w.grownBy (sortWorld enc w blk off n d os) (some blk) :=
 ⟨rfl,rfl,rfl,Y2c _ _ _ _ _ _ _,fun k hk hne=>Q6e _ _ _ _ _ _ _ hk (fun e=>hne (by rw [e]))⟩
theorem X9f {α:Type} [Inhabited α] (enc:α -> Value) (w:World) (blk off n:Nat) (d0 d:Array α) (os:Array Obj) (h0:Holds enc w blk off d0) (hs:d.size=d0.size) (hb:blk < w.heap.size):Holds enc (sortWorld enc w blk off n d os) blk off d:=by
 unfold sortWorld;exact holds_grow _ _ _ _ _ _ (by rw [size_putRow]; exact hb) (holds_putRow enc (Sort.ahead w n) blk off d0 d (holds_ahead _ _ _ _ _ _ h0) hs)
theorem Z9d {w:World} {v:Value} {l:List Int} {g:Nat} {cs:Array Value} {T:TypeId} (hT:T ≠ 3) (h:Q0q w 0 3 (.int .i64) v l) (hg:Blk w g T cs):v.ownBlock ≠ some g:=by
 intro e;obtain ⟨h1,h2⟩:=h
 rcases h2 with ⟨rfl,_⟩ | ⟨g',Qq,cur',rfl,Ux,sk,r⟩
 . cases e
 . obtain rfl:g'=g:=by simpa [Value.ownBlock] using e
   unfold Blk at hg;rw [hg] at sk;injection sk with h;injection h with _ h;exact hT h
theorem Y4e {α:Type} [Inhabited α] (enc:α -> Value) (w:World) (g n:Nat) (d:Array α) (os:Array Obj) {T:TypeId} {cur:Array Value} (hb:Blk w g T cur):∃ cur',Blk (sortWorld enc w g 0 n d os) g T cur' /\ cur'.size=cur.size:=by
 refine ⟨putCells enc 0 d cur,?_,by simp [putCells]⟩
 unfold Blk sortWorld;rw [heap_grow_old _ _ (by rw [size_putRow]; exact hb.lt)]
 show (w.heap.modify g _)[g]?=_;rw [Array.getElem?_modify,if_pos rfl];unfold Blk at hb;rw [hb]; rfl
def Sorted (ll:List (List Int)):Prop:=ll.Pairwise fun a b=>¬ Y2o b a < 0
def Z3l (w:World) (g:Nat) (cur vs:List Value) (ll:List (List Int)):Prop:=Blk w g 166 cur.toArray /\ cur.take vs.length=vs /\ Sets w vs ll
theorem J2r (w:World) (g Qq base:Nat) (vs:List Value) (ll:List (List Int)) (Yq:Q0q w base 166 idV (.slice (some ⟨g,0,none⟩) vs.length Qq) vs) (hs:Sets w vs ll) (Uv:ll.length <= 4096) :
    Calls prog 159 #[.slice (some ⟨g,0,none⟩) ll.length Qq,.func (.func 160) #[] #[]] w fun e w'=>e=.returned (.tuple #[]) /\ ∃ ll' cur vs',ll'.Perm ll /\ Sorted ll' /\ Z3l w' g cur vs' ll' /\ w.grownBy w' (some g):=by
 obtain ⟨cur,dy,Bj,Kq,nx⟩:∃ cur,w.heap[g]?=some (.cells cur 166 (0,0)) /\ g < w.heap.size /\ vs.length <= Qq /\ cur.toList.take vs.length=vs:=by
  obtain ⟨h1,h2⟩:=Yq
  rcases h2 with ⟨h2,_⟩ | ⟨g',cap',cur,hv,hb,hg,hc,hm,hz,ht⟩
  . cases h2
  . injection hv with e1 e2 e3
    injection e1 with e1;injection e1 with e1;subst e1; subst e3;refine ⟨cur,hg,(Array.getElem?_eq_some_iff.1 hg).1,hc,?_⟩;have hid:vs.map idV=vs:=by show vs.map id=vs; exact List.map_id vs
    rw [hid,Nat.mul_one] at ht;exact ht
 have Dq:=hs.1;obtain ⟨K,hK⟩:∃ K,ll.length=K:=⟨_,rfl⟩;rw [hK] at Dq Uv ⊢
 let z:Value:=.slice none 0 0
 let enc:Nat -> Value:=fun x=>vs.getD x z
 let cont:Nat -> List Int:=fun x=>ll.getD x []
 have NQ:∀ x W,(∀ k,k < w.heap.size -> k ≠ g -> W.heap[k]?=w.heap[k]?) -> Q0g W (enc x) (cont x):=by
  intro x W hW
  by_cases hx:x < K
  . have h1:=(hs.2 x (by omega)).1
    have h2:=Z2p (W:=W) h1 (fun b hb mx=>hW b mx (fun e=>Y5u h1 dy (by rw [<- e]; exact hb)))
    have h3:=h2.ints (by have:=(hs.2 x (by omega)).2; omega)
    have e1:vs.getD x undef=enc x:=by simp [enc,z,show x < vs.length by omega]
    rw [e1] at h3;exact h3
  . have e1:enc x=.slice none 0 0:=by simp [enc,z,show ¬ x < vs.length by omega,List.getD_eq_getElem?_getD]
    have e2:cont x=[]:=by simp [cont,List.getD_eq_getElem?_getD,List.getElem?_eq_none (show ll.length <= x by omega)]
    rw [e1,e2];exact Rows.nil 1 _ W
 have Pv:OneCell enc:=by
  intro x;obtain ⟨A,c,he,_⟩:=(NQ x w (fun _ _ _=>rfl)).opened
  rw [he]; rfl
 have hH:Holds enc w g 0 (Array.range K):=by
  intro j hj;rw [Array.size_range] at hj;have e1:(Array.range K)[j]! = j:=by rw [getElem!_pos _ j (by simpa using hj)]; simp
  rw [e1];refine ⟨?_,by simp [World.frozen?,dy]⟩
  have h1:=congrArg (fun l=>l[j]?) nx;rw [Nat.zero_add];simp only [List.getElem?_take,show j < vs.length by omega,if_true] at h1
  show (match w.heap[g]? with | some (.cells c _ _)=>_ | _=>_)=_
  rw [dy];simp only [Option.isSome_none,Bool.false_eq_true,if_false];rw [<- Array.getElem?_toList,h1];simp [enc,show j < vs.length by omega]
 have J4:CmpLays1 prog 160 #[] enc (fun x y=>Y2o (cont x) (cont y)) g 0 (Array.range K).size w:=by
  intro m os dk nW x y;have h:=X7g (sortWorld enc w g 0 m dk os) (enc x) (enc y) (cont x) (cont y) (NQ x _ (fun k hk hne=>Q6e _ _ _ _ _ _ _ hk hne)) (NQ y _ (fun k hk hne=>Q6e _ _ _ _ _ _ _ hk hne));exact h.mono fun e w' ⟨he,o,hw⟩=>⟨he,0,#[o],by rw [hw,alloc_eq_grow]; rfl⟩
 have eg:∀ args w,(callFunc 160 args).run prog w=.ok (.enter 160 args) w:=enters_of func160 (by kernel_rfl) rfl
 have MQ:=Any.slices_SortFunc J5s enc Pv (fun x y=>Y2o (cont x) (cont y)) (J4c cont) 160 #[] g 0 Qq (Array.range K) w eg J4 hH Bj (by rw [Array.size_range]; omega)
 rw [Array.size_range] at MQ;change Calls prog 159 _ _ _ at MQ;refine MQ.mono fun e w' ⟨he,d',n,os,hp,GZ,hw⟩=>⟨he,?_⟩;subst hw;obtain ⟨P7,_,MZ⟩:=hp;rw [Array.size_range] at P7;have E8:d'.toList.Perm (List.range K):=by
  have e1:d'.extract 0 K=d':=by rw [<- P7]; simp
  have e2:(Array.range K).extract 0 K=Array.range K:=by
   apply Array.toList_inj.1
   rw [Array.toList_extract,List.extract_eq_take_drop,List.drop_zero];exact List.take_of_length_le (by simp)
  rw [e1,e2] at MZ
  simpa using MZ
 have Bw:(List.range K).map cont=ll:=by
  apply List.ext_getElem
  . simp [hK]
  . intro i h1 h2; simp [cont,h2]
 obtain ⟨cur',Mk,Dk⟩:=Y4e enc w g n d' os (show Blk w g 166 cur from dy)
 have Qm:=X9f enc w g 0 n (Array.range K) d' os hH (by simp [P7]) Bj
 have hcl:K <= cur'.size:=by
  have:cur.toList.length=cur.size:=Array.length_toList;have h2:=congrArg List.length nx;rw [List.length_take] at h2;omega
 have Dv:(d'.toList.map enc).length=K:=by simp [P7]
 refine ⟨d'.toList.map cont,cur'.toList,d'.toList.map enc,by rw [<- Bw]; exact E8.map cont,?_,⟨by rw [Array.toArray_toList]; exact Mk,?_,?_,?_⟩,X8o _ _ _ _ _ _ _⟩
 . unfold Sorted
   rw [List.pairwise_map,List.pairwise_iff_getElem];intro i j hi hj hij;have Bg:i < d'.size:=by simpa using hi
   have Uw:j < d'.size:=by simpa using hj
   have h:=GZ i j (Nat.zero_le _) hij (by omega)
   rw [getElem!_pos d' i Bg,getElem!_pos d' j Uw] at h
   simpa [ltOf] using h
 . apply List.ext_getElem
   . rw [List.length_take,Dv,Array.length_toList]; omega
   . intro i h1 h2
     have hi:i < K:=by rw [Dv] at h2; exact h2
     have h3:=(Qm i (by omega)).1
     rw [Nat.zero_add,Mk.cell,Array.getElem?_eq_getElem (by omega),Option.some.injEq] at h3
     rw [List.getElem_take,Array.getElem_toList,h3,List.getElem_map,Array.getElem_toList,getElem!_pos d' i (by omega)]
 . simp
 . intro i hi
   have Bg:i < K:=by simpa [P7] using hi
   have hid:i < d'.size:=by omega
   have hx:d'[i] < K:=by
    have:=E8.mem_iff.1 (show d'[i] ∈ d'.toList from by simp)
    exact List.mem_range.1 this
   have h1:=hs.2 d'[i] (by omega)
   have e1:(d'.toList.map enc).getD i undef=vs.getD d'[i] undef:=by
    rw [List.getD_eq_getElem?_getD,List.getElem?_eq_getElem (by rw [Dv]; exact Bg),List.getElem_map,Array.getElem_toList]
    simp [enc,show d'[i] < vs.length by omega]
   have e2:(d'.toList.map cont).getD i []=ll.getD d'[i] []:=by
    rw [List.getD_eq_getElem?_getD,List.getElem?_eq_getElem (by simp [P7]; exact Bg),List.getElem_map,Array.getElem_toList]
    simp [cont]
   rw [e1,e2];refine ⟨Z2p h1.1 fun b hb mx=>Q6e _ _ _ _ _ _ _ mx fun e=>Y5u h1.1 dy (by rw [<- e]; exact hb),h1.2⟩
end Go.Proofs
namespace Go.Tw
open Go.RowKit Go.Flow
theorem Z0r {P:Program} {w:World} (t ty e:TypeId) (ht:P.underlying t=some (.slice e)) {g off:Nat} {T:TypeId} {cur:Array Value} (hb:Blk w g T cur) (n Qq:Nat) (hn:0 < n) (z:Value) (hz:∀ w,(zeroValue e).run P w=.ok z w) (h1:∀ v ∈ (Builtin.zeroCells z.cells n).toList,v.oneCell'=true) (Fz:off + (Builtin.zeroCells z.cells n).size <= cur.size) :
    ∃ w',(Builtin.clear_ #[t] ty #[.slice (some ⟨g,off,none⟩) n Qq]).run P w=.ok (.tuple #[]) w' /\ Blk w' g T (Q3f cur off (Builtin.zeroCells z.cells n).toList) /\ (∀ n,n <= g -> Below n w w') /\ ∀ k,k ≠ g -> w'.heap[k]?=w.heap[k]?:=by
 obtain ⟨w',hr,Mk,hl,Y4⟩:=Q6v (P:=P) (off:=off) (Builtin.zeroCells z.cells n).toList 0 w cur hb h1 (by simpa using Fz)
 refine ⟨w',?_,by simpa using Mk,hl,Y4⟩
 obtain ⟨m,rfl⟩:∃ m,n=m + 1:=⟨n - 1,by omega⟩
 simp [Builtin.clear_,run_underlying ht,hz,hr]
theorem X1r {P:Program} {w:World} {ops:Array Oper} {rest:List Oper} {o:Oper} {a:Act} {Q:Exit -> Act -> World -> Prop} (Ua:o.guard=none) (x:Operand) (t e:TypeId) (ho:o.op=.call { callee:=.builtin .clear,args:=#[x],argTypes:=#[t] }) (ht:P.underlying t=some (.slice e))
    {g off n Qq:Nat} (hn:0 < n) (hx:a.eval x=.slice (some ⟨g,off,none⟩) n Qq) {T:TypeId} {cur:Array Value} (hb:Blk w g T cur) (z:Value) (hz:∀ w,(zeroValue e).run P w=.ok z w) (h1:∀ v ∈ (Builtin.zeroCells z.cells n).toList,v.oneCell'=true) (Fz:off + (Builtin.zeroCells z.cells n).size <= cur.size)
    (hK:∀ w',Blk w' g T (Q3f cur off (Builtin.zeroCells z.cells n).toList) -> (∀ n,n <= g -> Below n w w') -> (∀ k,k ≠ g -> w'.heap[k]?=w.heap[k]?) -> wpList P ops Q rest (a.put o.dst (.tuple #[])) w'):wpList P ops Q (o :: rest) a w:=by
 refine wpList_plain Ua fun K' B3=>?_;unfold Oper.wp;obtain ⟨w',hr,Mk,hl,Y4⟩:=Z0r (P:=P) t o.type e ht hb n Qq hn z hz h1 Fz;have Ck:(execOp a.eval o).run P w=.ok (.value (.tuple #[])) w':=by
  unfold execOp;simp only [ho,resolve,invoke,builtin,Sem.run_bind,Sem.run_pure,Result.andThen_ok,List.map_toArray,List.map_cons,List.map_nil,hx,hr]
 rw [Ck];exact B3 _ _ (hK w' Mk hl Y4)
theorem X0f (n:Nat):(Builtin.zeroCells (Value.slice none 0 0).cells n).toList=List.replicate n (.slice none 0 0):=by
 apply List.ext_getElem?
 intro j;unfold Builtin.zeroCells
 by_cases hj:j < n
 . simp [Value.cells,hj,Nat.mod_one]
 . simp [Value.cells,hj]
end Go.Tw
namespace Go.Proofs
open Go.RowKit Go.Tw Go.Flow
structure Kept (ll r:List (List Int)) (j:Nat):Prop where
 asc:Asc r
 last:∃ r0,r=r0 ++ [ll.getD j []]
 mem:∀ x,x ∈ r ↔ x ∈ ll.take (j + 1)
theorem Kept.start {ll:List (List Int)} (h:0 < ll.length):Kept ll [ll.getD 0 []] 0 where
 asc:=by unfold Asc; simp
 last:=⟨[],rfl⟩
 mem x:=by rw [List.take_succ_eq_append_getElem h]; simp [h]
theorem X4o {ll:List (List Int)} {j:Nat} (hj:j + 1 < ll.length) (x:List Int):x ∈ ll.take (j + 2) ↔ x ∈ ll.take (j + 1) ∨ x=ll.getD (j + 1) []:=by
 have e:ll.getD (j + 1) []=ll[j + 1]:=by simp [hj]
 rw [show j + 2=(j + 1) + 1 from rfl,List.take_succ_eq_append_getElem hj,List.mem_append,List.mem_singleton,e]
theorem Kept.same {ll r:List (List Int)} {j:Nat} (h:Kept ll r j) (hj:j + 1 < ll.length) (he:ll.getD (j + 1) []=ll.getD j []):Kept ll r (j + 1) where
 asc:=h.asc
 last:=by rw [he]; exact h.last
 mem x:=by
  rw [X4o hj,h.mem x]
  constructor
  . exact .inl
  . rintro (k | k)
    . exact k
    . obtain ⟨r0,hr⟩:=h.last
      rw [<- h.mem x,k,he,hr]; simp
theorem Kept.snoc {ll r:List (List Int)} {j:Nat} (h:Kept ll r j) (hs:Sorted ll) (hj:j + 1 < ll.length) (he:ll.getD (j + 1) [] ≠ ll.getD j []):Kept ll (r ++ [ll.getD (j + 1) []]) (j + 1) where
 asc:=by
  have hb:Q2f (ll.getD j []) (ll.getD (j + 1) [])=true:=by
   have h1:=List.pairwise_iff_getElem.1 hs j (j + 1) (by omega) hj (by omega)
   have e1:ll.getD j []=ll[j]:=by simp [show j < ll.length by omega]
   have e2:ll.getD (j + 1) []=ll[j + 1]:=by simp [hj]
   rw [e1,e2] at he ⊢;rw [<- Q7i]
   rcases Z4b ll[j] ll[j + 1] with k | k | k
   . exact k
   . exact absurd k.symm he
   . exact absurd k h1
  obtain ⟨r0,hr⟩:=h.last;have ha:=h.asc;unfold Asc at ha ⊢;rw [List.pairwise_append];refine ⟨ha,List.pairwise_singleton _ _,?_⟩;intro a ham b Tk;rw [List.mem_singleton] at Tk;subst Tk;rw [hr,List.pairwise_append] at ha;rw [hr,List.mem_append,List.mem_singleton] at ham
  rcases ham with ham | ham
  . exact Q6u (ha.2.2 a ham _ (List.mem_singleton.2 rfl)) hb
  . subst ham; exact hb
 last:=⟨r,rfl⟩
 mem x:=by rw [X4o hj,List.mem_append,h.mem x,List.mem_singleton]
theorem Kept.all {ll r:List (List Int)} {j:Nat} (h:Kept ll r j) (hj:j + 1=ll.length):Asc r /\ ∀ x,x ∈ r ↔ x ∈ ll :=
 ⟨h.asc,fun x=>by rw [h.mem x,hj,List.take_length]⟩
theorem Kept.take_snoc {ll:List (List Int)} {j:Nat} (hj:j + 1 < ll.length):ll.take (j + 1) ++ [ll.getD (j + 1) []]=ll.take (j + 2):=by
 have e:ll.getD (j + 1) []=ll[j + 1]:=by simp [hj]
 rw [show j + 2=(j + 1) + 1 from rfl,List.take_succ_eq_append_getElem hj,e]
theorem Kept.first {ll:List (List Int)} (h:0 < ll.length):Kept ll (ll.take 1) 0:=by
 have e:ll.take 1=[ll.getD 0 []]:=by rw [List.take_succ_eq_append_getElem h]; simp [h]
 rw [e]; exact Kept.start h
theorem Tryz.J4d (w:World):(zeroValue 166).run Tryz.prog w=.ok (.slice none 0 0) w:=by kernel_rfl
theorem Tryz.J1v (w:World):(sizeOf 166).run Tryz.prog w=.ok 1 w:=by kernel_rfl
theorem Z3l.ext {w w':World} {g:Nat} {cur vs:List Value} {ll:List (List Int)} (h:Z3l w g cur vs ll) (hx:Ext w w'):Z3l w' g cur vs ll:=⟨h.1.ext hx,h.2.1,h.2.2.ext hx⟩
theorem Z3l.at {w:World} {g:Nat} {cur vs:List Value} {ll:List (List Int)} (h:Z3l w g cur vs ll) {k:Nat} (hk:k < ll.length) :
    w.cell? ⟨g,k,none⟩=some (vs.getD k undef) /\ Q0g w (vs.getD k undef) (ll.getD k []) /\ Q0q w 0 3 (.int .i64) (vs.getD k undef) (ll.getD k []) /\ (ll.getD k []).length <= 8:=by
 obtain ⟨hb,ht,hs⟩:=h;have hl:=hs.1;have h1:=hs.2 k hk;refine ⟨?_,h1.1.ints (by have:=h1.2; omega),h1.1,h1.2⟩
 rw [hb.cell,List.getElem?_toArray];have h2:=congrArg (fun l=>l[k]?) ht;simp only [List.getElem?_take,show k < vs.length by omega,if_true] at h2
 rw [h2];simp [show k < vs.length by omega]
theorem Z3l.reads {w:World} {g Qq:Nat} {cur vs:List Value} {ll:List (List Int)} (h:Z3l w g cur vs ll) (hl:ll.length <= 1000) (hc:ll.length <= Qq):Q3z w (.slice (some ⟨g,0,none⟩) ll.length Qq) ll :=
 ⟨fun k=>vs.getD k undef,⟨_,Qq,rfl,by omega,hc,fun j hj=>⟨g,0,rfl,by rw [Nat.zero_add]; exact (h.at (by omega)).1⟩⟩,fun j hj=>by
  have:=(h.at hj).2.1
  simpa [hj] using this⟩
end Go.Proofs
namespace Go.Proofs
open Go.RowKit Go.Tw Go.Flow Tryz
attribute [local go_sem] Oper.semAt_some
def Cpt (W wr:World) (g:Nat) (cur vs:List Value) (ll:List (List Int)) (K k2 kw:Nat):Prop :=
 ∃ cur' vr r,Z3l wr g cur' vr r /\ Kept ll r (K + k2 - 1) /\ r.length=kw /\ cur'.length=cur.length /\ (∀ j,K + k2 <= j -> cur'[j]?=cur[j]?) /\ (cur'[K + k2 - 1]?=cur[K + k2 - 1]?) /\ Sets wr vs ll /\ W.grownBy wr (some g)
theorem Q5i {a w w':World} {row:Option Nat} (h:a.grownBy w row) (hx:Ext w w'):a.grownBy w' row :=
 ⟨hx.os.trans h.os,hx.tape.trans h.tape,hx.output.trans h.output,Nat.le_trans h.size hx.size,fun i hi hr=>(hx.block i (Nat.lt_of_lt_of_le hi h.size)).trans (h.block i hi hr)⟩
theorem X1e {a w w':World} {g:Nat} (h:a.grownBy w (some g)) (hb:Below 0 w w') (ho:∀ k,k ≠ g -> w'.heap[k]?=w.heap[k]?):a.grownBy w' (some g) :=
 ⟨hb.os.trans h.os,hb.tape.trans h.tape,hb.output.trans h.output,Nat.le_trans h.size hb.size,fun i hi hr=>(ho i (fun e=>hr (by rw [e]))).trans (h.block i hi hr)⟩
theorem Q7a (w:World) (row:Option Nat):w.grownBy w row:=⟨rfl,rfl,rfl,Nat.le_refl _,fun _ _ _=>rfl⟩
theorem Q8p {a w w':World} {row:Option Nat} (h:a.grownBy w row) (k:w.grownBy w' row):a.grownBy w' row :=
 ⟨k.os.trans h.os,k.tape.trans h.tape,k.output.trans h.output,Nat.le_trans h.size k.size,fun i hi hr=>(k.block i (Nat.lt_of_lt_of_le hi h.size) hr).trans (h.block i hi hr)⟩
theorem X3x {w w':World} {vs:List Value} {ll:List (List Int)} {g:Nat} {cs:Array Value} (h:Sets w vs ll) (hb:Blk w g 166 cs) (ho:∀ k,k ≠ g -> w'.heap[k]?=w.heap[k]?):Sets w' vs ll :=
 h.at fun _ _ hv b Ta _=>ho b fun e=>Z9d (by decide) hv hb (by rw [Ta,e])
theorem Cpt.ext {W wr wr':World} {g:Nat} {cur vs:List Value} {ll:List (List Int)} {K k2 kw:Nat} (h:Cpt W wr g cur vs ll K k2 kw) (hx:Ext wr wr'):Cpt W wr' g cur vs ll K k2 kw:=by
 obtain ⟨cur',vr,r,ha,hk,hl,hcl,hj,D8,hs,hg⟩:=h;exact ⟨cur',vr,r,ha.ext hx,hk,hl,hcl,hj,D8,hs.ext hx,Q5i hg hx⟩
theorem Cpt.put {W wr w9:World} {g:Nat} {cur cur' vs vr:List Value} {ll r:List (List Int)} {K k2 kw:Nat} (ha:Z3l wr g cur' vr r) (Oj:Kept ll r (K + k2 - 1)) (Ov:r.length=kw) (hcl:cur'.length=cur.length) (C2:∀ j,K + k2 <= j -> cur'[j]?=cur[j]?) (E1:Sets wr vs ll) (hg:W.grownBy wr (some g))
    (hs:Sorted ll) (Uq:K + k2 < ll.length) (C8:kw + 1 <= K + k2) (Bw:ll.length <= cur.length) (hne:ll.getD (K + k2) [] ≠ ll.getD (K + k2 - 1) []) (Nj:Blk w9 g 166 (cur'.toArray.setIfInBounds kw (vs.getD (K + k2) undef))) (hl:Below 0 wr w9) (ho:∀ k,k ≠ g -> w9.heap[k]?=wr.heap[k]?):Cpt W w9 g cur vs ll K (k2 + 1) (kw + 1):=by
 have e1:K + k2 - 1 + 1=K + k2:=by omega
 have e2:K + (k2 + 1) - 1=K + k2:=by omega
 have J6:vr.length=kw:=by rw [<- Ov]; exact ha.2.2.1
 refine ⟨cur'.set kw (vs.getD (K + k2) undef),vr ++ [vs.getD (K + k2) undef],r ++ [ll.getD (K + k2) []],⟨?_,?_,?_⟩,?_,by rw [List.length_append,Ov]; rfl,by rw [List.length_set,hcl],fun j hj=>?_,?_,X3x E1 ha.1 ho,X1e hg hl ho⟩
 . rw [<- List.setIfInBounds_toArray]; exact Nj
 . rw [List.length_append,J6,List.length_singleton,List.take_succ_eq_append_getElem (by rw [List.length_set,hcl]; omega),List.getElem_set_self]
   congr 1
   rw [List.take_set_of_le (Nat.le_refl _)];have:=ha.2.1
   rwa [J6] at this
 . exact (X3x ha.2.2 ha.1 ho).snoc ((X3x E1 ha.1 ho).2 _ Uq).1 (E1.2 _ Uq).2
 . have h:=Oj.snoc hs (by rw [e1]; exact Uq) (by rw [e1]; exact hne)
   rw [e1] at h;rw [e2]; exact h
 . rw [List.getElem?_set_ne (by omega)]; exact C2 j (by omega)
 . rw [e2,List.getElem?_set_ne (by omega)]; exact C2 _ (Nat.le_refl _)
theorem Z3l.cleared {wr w9:World} {g kw:Nat} {cur' vr new:List Value} {r:List (List Int)} (ha:Z3l wr g cur' vr r) (hk:r.length=kw) (Fz:kw + new.length <= cur'.toArray.size) (Nj:Blk w9 g 166 (Q3f cur'.toArray kw new)) (ho:∀ k,k ≠ g -> w9.heap[k]?=wr.heap[k]?):Z3l w9 g (Q3f cur'.toArray kw new).toList vr r:=by
 have J6:vr.length=kw:=by rw [<- hk]; exact ha.2.2.1
 refine ⟨by rw [Array.toArray_toList]; exact Nj,?_,X3x ha.2.2 ha.1 ho⟩
 have h:=ha.2.1;rw [J6] at h ⊢;rw [<- h]
 apply List.ext_getElem?
 intro j;rw [List.getElem?_take,List.getElem?_take]
 by_cases hj:j < kw
 . rw [if_pos hj,if_pos hj,Array.getElem?_toList,Q5e _ _ _ _ Fz,if_neg (by omega),List.getElem?_toArray]
 . rw [if_neg hj,if_neg hj]
theorem Z2i (w:World) (g Qq:Nat) (cur vs:List Value) (ll:List (List Int)) (h0:0 < ll.length) (Uv:ll.length <= 1000) (Kq:ll.length <= Qq) (hcl:ll.length <= cur.length) (hs:Sorted ll) (hr:Z3l w g cur vs ll) :
    Calls prog 161 #[.slice (some ⟨g,0,none⟩) ll.length Qq,.func (.func 162) #[] #[]] w fun e w'=>∃ r,e=.returned (.slice (some ⟨g,0,none⟩) r.length Qq) /\ Q3z w' (.slice (some ⟨g,0,none⟩) r.length Qq) r /\ Asc r /\ (∀ x,x ∈ r ↔ x ∈ ll) /\ r.length <= ll.length /\ w.grownBy w' (some g):=by
 have HR:=Lib.hid hr;have HS:=Lib.hid hs;obtain ⟨n,hn⟩:∃ n,ll.length=n:=⟨_,rfl⟩;have HN:=Lib.hid hn;have Yf:Hid (w.grownBy w (some g)):=Lib.hid ⟨rfl,rfl,rfl,Nat.le_refl _,fun _ _ _=>rfl⟩;rw [hn] at h0 Uv Kq hcl ⊢;clear hr hs hn
 by_cases h2:n < 2
 . have Pm:(n:Int) < 2:=by omega
   have HK:Hid (Kept ll ll 0):=Lib.hid (by
    have:=Kept.first (ll:=ll) (by rw [HN.out]; exact h0)
    rwa [List.take_of_length_le (by rw [HN.out]; omega)] at this)
   have HE:Hid (n=ll.length):=Lib.hid HN.out.symm;clear h2;go_enter func161,ntmps161;go_wp2;go_ret;have hh:=HK.out.all (by have:=HN.out; omega)
   refine ⟨ll,by rw [HN.out]; rfl,HR.out.reads (by rw [HN.out]; omega) (by rw [HN.out]; exact Kq),hh.1,hh.2,by rw [HN.out]; exact Nat.le_refl _,Yf.out⟩
 have Pm:¬ (n:Int) < 2:=by omega
 go_enter func161,ntmps161;go_wp2
 go_loopw [5] (fun i wr=>∃ (K J:Nat),J + 1=K /\ K <= n /\ i=.int .i64 K /\ Kept ll (ll.take K) J /\ Ext w wr) (fun i _=>n - (intOf i).toNat)
 case atStart=>exact ⟨1,0,rfl,by omega,rfl,Kept.first (by rw [HN.out]; exact h0),Ext.refl _⟩
 case round =>
  obtain ⟨K,J,hJ,hK,rfl,B8,hx⟩:=hrel;have G4:=Lib.hid B8;have HX:=Lib.hid hx;have N4:=Lib.hid (HR.out.ext hx);clear B8
  by_cases Uq:K < n
  . have Rr:(K:Int) < n:=by omega
    have Om:(J:Int) < n:=by omega
    have Q1:IntKind.i64.wrap ((K:Int) - 1)=(J:Int):=by rw [show (K:Int) - 1=(J:Int) by omega]; exact Q2j _ (by omega) (by omega)
    obtain ⟨cK,iK,-,-⟩:=N4.out.at (k:=K) (by rw [HN.out]; exact Uq)
    obtain ⟨cJ,iJ,-,-⟩:=N4.out.at (k:=J) (by rw [HN.out]; omega)
    obtain ⟨lK,Sa⟩:∃ x,ll.getD K []=x:=⟨_,rfl⟩;obtain ⟨lJ,Ra⟩:∃ x,ll.getD J []=x:=⟨_,rfl⟩;rw [Sa] at iK;rw [Ra] at iJ;obtain ⟨vK,Wf⟩:∃ x,vs.getD K undef=x:=⟨_,rfl⟩;obtain ⟨vJ,Vf⟩:∃ x,vs.getD J undef=x:=⟨_,rfl⟩;rw [Wf] at cK iK;rw [Vf] at cJ iJ;have Nm:=Lib.hid iK;have Mm:=Lib.hid iJ;have P6:=Lib.hid Sa;have FZ:=Lib.hid Ra;obtain ⟨q,hq⟩:∃ q,(Y2o lK lJ == 0)=q:=⟨_,rfl⟩;have HQ:=Lib.hid hq;have Xq:=(Ext.refl wr).drew;clear Sa Ra Wf Vf iK iJ hq;go_wp2;refine Flow.Q1h [.p,.p,.p,.p,.w,.p,.p,.p,.p,.w,.w] [0,1,2,3,4,5,6,7,8,9,10] [[],[],[],[1,2],[3],[],[],[6],[5,7],[8],[0,4,9]]
     [.c 0 (.func (.func 162) #[] #[]),.c 1 (.slice (some ⟨g,0,none⟩) n Qq),.c 2 (.int .i64 (K:Int)),.c 3 (.pointer (some ⟨g,K,none⟩)),.c 4 (vK),.c 5 (.slice (some ⟨g,0,none⟩) n Qq),.c 6 (.int .i64 (K:Int)),.c 7 (.int .i64 (J:Int)),.c 8 (.pointer (some ⟨g,J,none⟩)),.c 9 (vJ),.c 10 (.bool q)]
     (by kernel_rfl) rfl (by kernel_rfl) ⟨?g0,?g1,?g2,?g3,?g4,?g5,?g6,?g7,?g8,?g9,?g10,trivial⟩ ?post
    case g0 | g1 | g2 | g5 | g6=>
     intro v w1 hx;intro bb hbb;subst hbb;refine ⟨_,fun w=>?_,rfl⟩;go_simp
    case g3 | g7 | g8=>
     intro v w1 hx;(repeat intro (zq:v _=_));intro bb hbb;subst hbb;refine ⟨_,fun w=>?_,rfl⟩;go_simp
    case g4 | g9=>
     intro v w1 hx;(repeat intro (zq:v _=_));intro bb hbb;subst hbb;have cK:=hx.cell cK;have cJ:=hx.cell cJ;intro K hK;go_simp;exact hK _ _ (Ext.refl _) rfl
    case g10=>
     intro v w1 hx;(repeat intro (zq:v _=_));intro bb hbb;subst hbb;have cK:=hx.cell cK;have cJ:=hx.cell cJ;intro L hL;go_simp;refine Q0e (X2a w1 _ _ lK lJ (Nm.out.ext (Xq.trans hx)) (Mm.out.ext (Xq.trans hx))) ?_;rintro e w2 ⟨rfl,o,rfl⟩;rw [HQ.out];exact ⟨_,rfl,hL _ _ (Ext.box _ _) rfl⟩
    case post =>
     intro v w1 hx (q0:v 0=_) (q1:v 1=_) (q2:v 2=_) (q3:v 3=_) (q4:v 4=_) (q5:v 5=_) (q6:v 6=_) (q7:v 7=_) (q8:v 8=_) (q9:v 9=_) (q10:v 10=_);simp only [Flow.All,Flow.acts,Act.put];go_simp;have rk:=Lib.hid (HX.out.trans (Xq.trans hx));have ug:=Lib.hid (N4.out.ext (Xq.trans hx));clear hx Xq cK cJ q0 q1 q2 q3 q4 q5 q6 q7 q8 q9 q10;obtain ⟨V,rfl⟩:∃ X,X=w1:=⟨_,rfl⟩;cases q with
     | false =>
       have Sj:Hid (Kept ll (ll.take (K + 1)) K):=Lib.hid (by
        have h:=G4.out.snoc HS.out (by rw [HN.out]; omega) (by
         rw [hJ,P6.out,FZ.out];intro e;have:=HQ.out;rw [(X3a lK lJ).2 e] at this;cases this)
        subst hJ
        rwa [Kept.take_snoc (by rw [HN.out]; omega)] at h)
       go_wp2;go_roundw
       case rel=>exact ⟨K + 1,K,rfl,by omega,by go_num,Sj.out,rk.out⟩
       case measure=>simp [intOf]; omega
     | true =>
       have fz:ll.getD K []=ll.getD J []:=by
        rw [P6.out,FZ.out];exact (X3a lK lJ).1 (by have:=HQ.out; simpa using this)
       have Sj:Hid (Cpt V V g cur vs ll K 1 K):=Lib.hid ⟨cur,vs.take K,ll.take K,⟨ug.out.1,by
           have h1:=ug.out.2.1;have h2:=ug.out.2.2.1;rw [List.length_take,Nat.min_eq_left (by rw [h2,HN.out]; omega),<- h1,List.take_take,Nat.min_eq_left (by rw [h2,HN.out]; omega)],⟨by rw [List.length_take,List.length_take,ug.out.2.2.1],fun i hi=>by
           rw [List.length_take,HN.out] at hi;have h:=ug.out.2.2.2 i (by rw [HN.out]; omega)
           have e1:(vs.take K).getD i undef=vs.getD i undef:=by simp [show i < K by omega]
           have e2:(ll.take K).getD i []=ll.getD i []:=by simp [show i < K by omega]
           rw [e1,e2]; exact h⟩⟩,by
           have h:=G4.out.same (by rw [HN.out]; omega) (by rw [hJ]; exact fz)
           rw [hJ] at h;rw [show K + 1 - 1=K by omega]; exact h,by rw [List.length_take,HN.out]; omega,rfl,fun _ _=>rfl,rfl,ug.out.2.2,⟨rfl,rfl,rfl,Nat.le_refl _,fun _ _ _=>rfl⟩⟩
       have s1:(K:Int) <= (n:Int):=by omega
       have s2:¬ n < K:=by omega
       have s3:¬ Qq=K:=by omega
       have s4:¬ Qq < K:=by omega
       have s5:¬ Qq < n:=by omega
       clear fz;have LQ:Hid (∀ kw k2 wr',1 <= k2 -> K + k2 < n -> Cpt V wr' g cur vs ll K k2 kw -> Y2o (ll.getD (K + k2) []) (ll.getD (K + k2 - 1) [])=0 -> Cpt V wr' g cur vs ll K (k2 + 1) kw):=Lib.hid (by
        rintro kw k2 wr' h1 Uq ⟨cur',vr,r,ha,hk,hl,Nv,hj,D8,hs,hg⟩ he;refine ⟨cur',vr,r,ha,?_,hl,Nv,fun j h=>hj j (by omega),hj _ (by omega),hs,hg⟩
        have h:=hk.same (by rw [HN.out]; omega) (by rw [show K + k2 - 1 + 1=K + k2 by omega]; exact (X3a _ _).1 he)
        rw [show K + k2 - 1 + 1=K + (k2 + 1) - 1 by omega] at h
        exact h)
       go_wp2;obtain ⟨m,hm⟩:∃ m,n - K=m:=⟨_,rfl⟩;obtain ⟨c2,Yx⟩:∃ c2,Qq - K=c2:=⟨_,rfl⟩;rw [hm,Yx]
       go_loopw [5,7] (fun kv iv wr=>∃ (kw k2:Nat),1 <= k2 /\ K + k2 <= n /\ kw + 1 <= K + k2 /\ kv=.int .i64 kw /\ iv=.int .i64 k2 /\ Cpt V wr g cur vs ll K k2 kw) (fun _ i _=>m - (intOf i).toNat)
       case atStart=>exact ⟨K,1,Nat.le_refl _,by omega,by omega,rfl,rfl,Sj.out⟩
       case round =>
        obtain ⟨kw,k2,h1,rj,C8,rfl,rfl,EZ⟩:=hrel;have HC:=Lib.hid EZ;clear EZ
        by_cases Kx:k2 < m
        . have Uf:(k2:Int) < m:=by omega
          obtain ⟨j2,Tf⟩:∃ j2,j2 + 1=k2:=⟨k2 - 1,by omega⟩
          have J9:IntKind.i64.wrap ((k2:Int) - 1)=(j2:Int):=by rw [show (k2:Int) - 1=(j2:Int) by omega]; exact Q2j _ (by omega) (by omega)
          have Lm:(j2:Int) < m:=by omega
          obtain ⟨cur',vr,r,ha,Oj,Ov,Nv,C2,D8,E1,hg⟩:=HC.out;have DZ:=ug.out;have cA:wr.cell? ⟨g,K + k2,none⟩=some (vs.getD (K + k2) undef):=by
           have h:=(DZ.at (k:=K + k2) (by rw [HN.out]; omega)).1
           rw [DZ.1.cell,List.getElem?_toArray] at h;rw [ha.1.cell,List.getElem?_toArray,C2 _ (Nat.le_refl _)]; exact h
          have cB:wr.cell? ⟨g,K + j2,none⟩=some (vs.getD (K + j2) undef):=by
           have h:=(DZ.at (k:=K + j2) (by rw [HN.out]; omega)).1
           rw [DZ.1.cell,List.getElem?_toArray] at h;rw [show K + k2 - 1=K + j2 by omega] at D8
           rw [ha.1.cell,List.getElem?_toArray,D8]; exact h
          have iA:=(E1.2 (K + k2) (by rw [HN.out]; omega)).1.ints (by have:=(E1.2 (K + k2) (by rw [HN.out]; omega)).2; omega)
          have iB:=(E1.2 (K + j2) (by rw [HN.out]; omega)).1.ints (by have:=(E1.2 (K + j2) (by rw [HN.out]; omega)).2; omega)
          have Qa:=E1.2 (K + k2) (by rw [HN.out]; omega)
          have jW:=LQ.out kw k2 wr h1 (by omega) HC.out
          rw [show K + k2 - 1=K + j2 by omega] at jW
          obtain ⟨lA,iW⟩:∃ x,ll.getD (K + k2) []=x:=⟨_,rfl⟩;obtain ⟨lB,gW⟩:∃ x,ll.getD (K + j2) []=x:=⟨_,rfl⟩;obtain ⟨vA,fW⟩:∃ x,vs.getD (K + k2) undef=x:=⟨_,rfl⟩;obtain ⟨vB,Pa⟩:∃ x,vs.getD (K + j2) undef=x:=⟨_,rfl⟩;rw [iW,fW] at iA Qa;rw [gW,Pa] at iB;rw [fW] at cA;rw [Pa] at cB;rw [iW,gW] at jW;have Km:=Lib.hid iA;have dW:=Lib.hid iB;have cW:=Lib.hid iW;have R1:=Lib.hid gW;have Jm:=Lib.hid fW;have bW:=Lib.hid Qa;have aW:=Lib.hid ha;have Oa:=Lib.hid Oj;have Dx:=Lib.hid Ov;have pz:=Lib.hid Nv;have Gm:=Lib.hid C2;have Ya:=Lib.hid E1;have HG:=Lib.hid hg;have fy:=Lib.hid jW;obtain ⟨q,hq⟩:∃ q,(Y2o lA lB == 0)=q:=⟨_,rfl⟩;have HQ:=Lib.hid hq;have Xq:=(Ext.refl wr).drew;clear iW gW fW Pa iA iB hq DZ Qa ha Oj Ov Nv C2 D8 E1 hg jW HC
          go_light
          go_wp2;refine Flow.Q1h [.p,.p,.p,.p,.w,.p,.p,.p,.p,.w,.w,.p] [0,1,2,3,4,5,6,7,8,9,10,11] [[],[],[],[1,2],[3],[],[],[6],[5,7],[8],[0,4,9],[10]]
           [.c 0 (.func (.func 162) #[] #[]),.c 1 (.slice (some ⟨g,K,none⟩) m c2),.c 2 (.int .i64 (k2:Int)),.c 3 (.pointer (some ⟨g,K + k2,none⟩)),.c 4 (vA),.c 5 (.slice (some ⟨g,K,none⟩) m c2),.c 6 (.int .i64 (k2:Int)),.c 7 (.int .i64 (j2:Int)),.c 8 (.pointer (some ⟨g,K + j2,none⟩)),.c 9 (vB),.c 10 (.bool q),.c 11 (.bool (!q))]
           (by kernel_rfl) rfl (by kernel_rfl) ⟨?g0,?g1,?g2,?g3,?g4,?g5,?g6,?g7,?g8,?g9,?g10,?g11,trivial⟩ ?post
          case g0 | g1 | g2 | g5 | g6=>
           intro v w1 hx;intro bb hbb;subst hbb;refine ⟨_,fun w=>?_,rfl⟩;go_simp
          case g3 | g7 | g8 | g11=>
           intro v w1 hx;(repeat intro (zq:v _=_));intro bb hbb;subst hbb;refine ⟨_,fun w=>?_,rfl⟩;go_simp
          case g4 | g9=>
           intro v w1 hx;(repeat intro (zq:v _=_));intro bb hbb;subst hbb;have cA:=hx.cell cA;have cB:=hx.cell cB;intro K hK;go_simp;exact hK _ _ (Ext.refl _) rfl
          case g10=>
           intro v w1 hx;(repeat intro (zq:v _=_));intro bb hbb;subst hbb;have cA:=hx.cell cA;have cB:=hx.cell cB;intro L hL;go_simp;refine Q0e (X2a w1 _ _ lA lB (Km.out.ext (Xq.trans hx)) (dW.out.ext (Xq.trans hx))) ?_;rintro e w2 ⟨rfl,o,rfl⟩;rw [HQ.out];exact ⟨_,rfl,hL _ _ (Ext.box _ _) rfl⟩
          case post =>
           intro v w1 hx;(iterate 12 intro (zq:v _=_));simp only [Flow.All,Flow.acts,Act.put];go_simp;have yw:=Lib.hid (Xq.trans hx);have CZ:=Lib.hid (aW.out.ext yw.out);have Na:=Lib.hid (Ya.out.ext yw.out);have ZY:=Lib.hid (Q5i HG.out yw.out);replace cA:=yw.out.cell (show wr.cell? ⟨g,K + k2,none⟩=some vA from cA)
           clear hx Xq cB;(repeat clear zq);obtain ⟨Y,rfl⟩:∃ X,X=w1:=⟨_,rfl⟩;cases q with
           | true =>
             have G6:=Lib.hid ((fy.out (by have:=HQ.out; simpa using this)).ext yw.out)
             clear cA;go_wp2;go_roundw
             case rel=>exact ⟨kw,k2 + 1,by omega,by omega,by omega,rfl,by go_num,G6.out⟩
             case measure=>simp [intOf]; omega
           | false =>
             have Fm:(kw:Int) < n:=by omega
             have Pv:=(bW.out.1.ints (by have:=bW.out.2; omega)).one
             have BZ:=(bW.out.1.ints (by have:=bW.out.2; omega)).cells
             have dj:Hid (vA.oneCell'=true):=Lib.hid Pv;have Ma:=Lib.hid BZ;have Em:Hid (kw < cur'.toArray.size):=Lib.hid (by rw [List.size_toArray,pz.out]; omega)
             have ek:Hid (ll.getD (K + k2) [] ≠ ll.getD (K + k2 - 1) []):=Lib.hid (by
              rw [show K + k2 - 1=K + j2 by omega,cW.out,R1.out]
              intro e;have:=HQ.out;rw [(X3a lA lB).2 e] at this;cases this)
             clear Pv BZ;go_wp2_with (refine X6c rfl _ _ 166 rfl J1v rfl rfl Ma.out dj.out CZ.out.1 Em.out ?_; intro w9 Nj Wj cj);go_roundw
             case rel=>exact ⟨kw + 1,k2 + 1,by omega,by omega,by omega,by go_num,by go_num,Cpt.put CZ.out Oa.out Dx.out pz.out Gm.out Na.out ZY.out HS.out (by rw [HN.out]; omega) C8 (by rw [HN.out]; exact hcl) ek.out (by rw [Jm.out]; exact Nj) (Wj 0 (Nat.zero_le _)) cj⟩
             case measure=>simp [intOf]; omega
        . have lW:¬ (k2:Int) < m:=by omega
          obtain ⟨cur',vr,r,ha,Oj,Ov,Nv,C2,D8,E1,hg⟩:=HC.out;have t1:(kw:Int) <= (n:Int):=by omega
          have t2:¬ n < kw:=by omega
          have t3:¬ Qq=kw:=by omega
          have t4:¬ Qq < kw:=by omega
          have t5:¬ Qq < n:=by omega
          have aW:=Lib.hid ha;have HG:=Lib.hid hg;have Dx:=Lib.hid Ov;have iz:=Lib.hid (Oj.all (by rw [HN.out]; omega))
          have tg:Hid (kw + (Builtin.zeroCells (Value.slice none 0 0).cells (n - kw)).size <= cur'.toArray.size):=Lib.hid (by
           rw [<- Array.length_toList,X0f,List.length_replicate,List.size_toArray,Nv]; omega)
          have aX:Hid (∀ v ∈ (Builtin.zeroCells (Value.slice none 0 0).cells (n - kw)).toList,v.oneCell'=true):=Lib.hid (by
           rw [X0f]; intro v hv; rw [List.eq_of_mem_replicate hv]; rfl)
          clear ha Oj Ov Nv C2 D8 E1 hg HC;go_wp2_with (refine X1r rfl _ 168 166 rfl underlying168 (show 0 < n - kw by omega) rfl aW.out.1 _ J4d aX.out tg.out ?_; intro w9 Nj Wj cj)
          go_ret;have hh:=aW.out.cleared Dx.out (by rw [Array.length_toList]; exact tg.out) Nj cj
          refine ⟨r,by rw [Dx.out]; rfl,hh.reads (by rw [Dx.out]; omega) (by rw [Dx.out]; omega),iz.out.1,iz.out.2,by rw [Dx.out]; omega,?_⟩
          exact X1e (Q8p (Q5i (Q7a w (some g)) rk.out) HG.out) (Wj 0 (Nat.zero_le _)) cj
  . have La:Hid (Kept ll ll J):=Lib.hid (by
     have:=G4.out
     rwa [List.take_of_length_le (by rw [HN.out]; omega)] at this)
    go_wp2;go_ret;have hh:=La.out.all (by have:=HN.out; omega)
    exact ⟨ll,by rw [HN.out]; rfl,N4.out.reads (by rw [HN.out]; omega) (by rw [HN.out]; exact Kq),hh.1,hh.2,by rw [HN.out]; exact Nat.le_refl _,Q5i Yf.out HX.out⟩
end Go.Proofs
namespace Go.Tw
open Go.RowKit Go.Flow
theorem Y8i:∀ (l:List PV) (k:Nat),(l.flatMap Q3g).take (k * 4)=(l.take k).flatMap Q3g
 | [],k=>by simp
 | q :: l,0=>by simp
 | q :: l,k + 1=>by
   rw [List.flatMap_cons,List.take_succ_cons,List.flatMap_cons,<- Y8i l k,List.take_append,Q4o];rw [List.take_of_length_le (by rw [Q4o]; omega),show (k + 1) * 4 - 4=k * 4 by omega]
theorem J1s (n:Nat):∀ v ∈ (Builtin.zeroCells (Value.agg #[.int .i64 0,.int .i64 0,.int .i64 0,.slice none 0 0]).cells n).toList,v.oneCell'=true:=by
 intro v hv;unfold Builtin.zeroCells at hv;rw [Array.toList_map,List.mem_map] at hv;obtain ⟨i,_,rfl⟩:=hv;have h4:i % 4=0 ∨ i % 4=1 ∨ i % 4=2 ∨ i % 4=3:=by omega
 show ((#[Value.int .i64 0,.int .i64 0,.int .i64 0,.slice none 0 0]:Array Value)[i % 4]!).oneCell'=true
 rcases h4 with h | h | h | h <;> rw [h] <;> rfl
theorem Z5u (n:Nat):(Builtin.zeroCells (Value.agg #[.int .i64 0,.int .i64 0,.int .i64 0,.slice none 0 0]).cells n).size=n * 4:=by
 unfold Builtin.zeroCells;simp [Value.cells]
end Go.Tw
namespace Go.Proofs
open Go.RowKit Go.Tw Go.Flow Tryz
attribute [local go_sem] Oper.semAt_some
theorem Y1y.ext {g:Nat} {pre post:Array Value} {w w':World} {t:Plan -> Bool} (h:Y1y g pre post w t) (hx:Ext w w'):Y1y g pre post w' t:=fun W y A n c hW=>h W y A n c (hx.trans hW)
theorem Y2f (w:World) (B:Nat) (v:Value) (ps:List PV) (g:Nat) (pre post:Array Value) (t:Plan -> Bool) (hv:Q1d w B 159 4 Q3g v ps) (hc:Q0v w ps) (hl:ps.length <= 100000)
    (eg:∀ args w,(callFunc g args).run prog w=.ok (.enter g args) w) (ht:Y1y g pre post w t) :
    Calls prog 226 #[v,.func (.func g) pre post] w fun e w'=>e=.returned (.bool (ps.any fun q=>t q.1)) /\ Ext w w':=by
 have HI:=Lib.hid (X9r w B v ps g pre post t hv hc hl eg ht);obtain ⟨A,cv,rfl⟩:∃ A cv,v=.slice A ps.length cv:=by
  obtain ⟨A,c,h,_⟩:=hv.shape;exact ⟨A,c,h⟩
 obtain ⟨L,hL⟩:∃ L,ps.length=L:=⟨_,rfl⟩;rw [hL] at HI ⊢;clear hv hc ht hL;go_enter func226,ntmps226;go_wp2_with (go_at_call 247; refine HI.out.mono ?_; rintro e w' ⟨r,rfl,hr,hx⟩; have HR:=Lib.hid hr; clear hr);go_ret;refine ⟨Q1b ?_,hx⟩
 rcases HR.out with ⟨rfl,h⟩ | ⟨k,rfl,q,hq,eJ,_⟩
 . rw [List.any_eq_false.2 (fun q hq=>by rw [h q hq]; simp)]; rfl
 . rw [List.any_eq_true.2 ⟨q,List.mem_of_getElem? hq,eJ⟩]
   simp
theorem K0l (w:World) (x:Plan) (A:Option Addr) (n c Bx:Nat) (hb:Blk w Bx 159 #[.int .i64 x.weight,.int .i64 x.closings,.int .i64 x.delay,.slice A n c]) :
    Y1y 227 #[] #[.pointer (some ⟨Bx,0,none⟩)] w (fun o=>o.Q4y x):=by
 intro W y A' n' c' hW;have HB:=Lib.hid (hb.ext hW);have Qy:=Lib.hid (fun W=>Y3y W y x A' A n' n c' c);obtain ⟨x1,x2,x3,x4⟩:=x;obtain ⟨y1,y2,y3,y4⟩:=y;unfold Z7k at Qy ⊢;dsimp only at Qy HB ⊢;obtain ⟨q,hq⟩:∃ q,(⟨y1,y2,y3,y4⟩:Plan).Q4y ⟨x1,x2,x3,x4⟩=q:=⟨_,rfl⟩;rw [hq] at Qy ⊢;have hx:=Ext.box W (.cells #[.int .i64 y1,.int .i64 y2,.int .i64 y3,.slice A' n' c'] 159);have k0:=Blk.made W 159 #[.int .i64 y1,.int .i64 y2,.int .i64 y3,.slice A' n' c'];have mz:=HB.out.ext hx;have c0:=(k0).cell 0;have c1:=(k0).cell 1;have c2:=(k0).cell 2;have c3:=(k0).cell 3;simp only [Go.Tw.gA,Go.Tw.gB,Go.Tw.gC] at c0 c1 c2 c3;have d0:=(mz).cell 0;have d1:=(mz).cell 1;have d2:=(mz).cell 2;have d3:=(mz).cell 3;simp only [Go.Tw.gA,Go.Tw.gB,Go.Tw.gC] at d0 d1 d2 d3;clear hb hW hq k0 mz;show Calls prog 227 #[.agg #[.int .i64 y1,.int .i64 y2,.int .i64 y3,.slice A' n' c'],.pointer (some ⟨Bx,0,none⟩)] W _;go_enter func227,ntmps227;go_wp2_with (go_at_call 228; refine (Qy.out _).mono ?_; rintro e w9 ⟨rfl,sj⟩);go_ret;exact ⟨rfl,hx.trans sj⟩
theorem K0m (w:World) (x:Plan) (A:Option Addr) (n c:Nat):Y1y 228 #[Z7k x (.slice A n c)] #[] w (fun o=>x.Q4y o):=fun W y A' n' c' _=>Y3y W x y A A' n n' c c'
structure Z4k (W wr:World) (g:Nat) (cur cur':Array Value) (ps:List PV) (t:Plan -> Bool) (J i:Nat):Prop where
 blk:Blk wr g 159 cur'
 size:cur'.size=cur.size
 len:((ps.take J).filter fun q=>!t q.1).length=i
 head:cur'.toList.take (i * 4)=((ps.take J).filter fun q=>!t q.1).flatMap Q3g
 rest:∀ k,J * 4 <= k -> cur'[k]?=cur[k]?
 grown:W.grownBy wr (some g)
 closed:Q0v wr ps
theorem Q0v.off {w w':World} {ps:List PV} {g:Nat} {cs:Array Value} (h:Q0v w ps) (hb:Blk w g 159 cs) (ho:∀ k,k < w.heap.size -> k ≠ g -> w'.heap[k]?=w.heap[k]?):Q0v w' ps:=fun q hq=>by
 obtain ⟨h1,h2⟩:=h q hq;refine ⟨h1,?_⟩
 rcases h2 with h2 | ⟨g',Qq,cur,hv,Ux,Bj,r⟩
 . exact .inl h2
 . refine .inr ⟨g',Qq,cur,hv,Ux,(ho g' (Array.getElem?_eq_some_iff.1 Bj).1 fun e=>?_).trans Bj,r⟩
   subst e;unfold Blk at hb;rw [hb] at Bj;injection Bj with h;injection h with _ h;exact absurd h (by decide)
theorem Z4k.ext {W wr wr':World} {g:Nat} {cur cur':Array Value} {ps:List PV} {t:Plan -> Bool} {J i:Nat} (h:Z4k W wr g cur cur' ps t J i) (hx:Ext wr wr'):Z4k W wr' g cur cur' ps t J i :=
 ⟨h.blk.ext hx,h.size,h.len,h.head,h.rest,Q5i h.grown hx,h.closed.ext hx⟩
theorem Z4k.skip {W wr:World} {g:Nat} {cur cur':Array Value} {ps:List PV} {t:Plan -> Bool} {J i:Nat} (h:Z4k W wr g cur cur' ps t J i) {q:PV} (hq:ps[J]?=some q) (ht:t q.1=true):Z4k W wr g cur cur' ps t (J + 1) i:=by
 obtain ⟨hJ,rfl⟩:=List.getElem?_eq_some_iff.1 hq;have e:(ps.take (J + 1)).filter (fun q=>!t q.1)=(ps.take J).filter fun q=>!t q.1:=by
  rw [List.take_succ_eq_append_getElem hJ,List.filter_append]; simp [ht]
 exact ⟨h.blk,h.size,by rw [e]; exact h.len,by rw [e]; exact h.head,fun k hk=>h.rest k (by omega),h.grown,h.closed⟩
theorem Z4k.put {W wr w9:World} {g Qq:Nat} {cur cur':Array Value} {ps:List PV} {t:Plan -> Bool} {J i:Nat} (h:Z4k W wr g cur cur' ps t J i) {q:PV} (hq:ps[J]?=some q) (ht:t q.1=false) (hi:i <= J) (oq:cur.size=Qq * 4) (hc:ps.length <= Qq)
    (hb:Blk w9 g 159 (Q3f cur' (i * 4) (Q3g q))) (hl:Below 0 wr w9) (ho:∀ k,k ≠ g -> w9.heap[k]?=wr.heap[k]?):Z4k W w9 g cur (Q3f cur' (i * 4) (Q3g q)) ps t (J + 1) (i + 1):=by
 obtain ⟨hJ,rfl⟩:=List.getElem?_eq_some_iff.1 hq;have e:(ps.take (J + 1)).filter (fun q=>!t q.1)=((ps.take J).filter fun q=>!t q.1) ++ [ps[J]]:=by
  rw [List.take_succ_eq_append_getElem hJ,List.filter_append]; simp [ht]
 have Fz:i * 4 + (Q3g ps[J]).length <= cur'.size:=by rw [h.size,oq,Q4o]; omega
 refine ⟨hb,by rw [X2r,h.size],by rw [e,List.length_append,h.len]; rfl,?_,fun k hk=>?_,X1e h.grown hl ho,h.closed.off h.blk fun k _ hk=>ho k hk⟩
 . rw [e,List.flatMap_append,<- h.head,List.flatMap_singleton]
   apply List.ext_getElem?
   intro k;rw [List.getElem?_take,Array.getElem?_toList,Q5e _ _ _ _ Fz,Q4o];have JQ:(cur'.toList.take (i * 4)).length=i * 4:=by rw [List.length_take,Array.length_toList,h.size,oq]; omega
   by_cases h1:k < i * 4
   . rw [if_pos (by omega),if_neg (by omega),List.getElem?_append_left (by rw [JQ]; exact h1),List.getElem?_take,if_pos h1,Array.getElem?_toList]
   . rw [List.getElem?_append_right (by rw [JQ]; omega),JQ]
     by_cases h2:k < (i + 1) * 4
     . rw [if_pos h2,if_pos (by omega)]
     . rw [if_neg h2]
       exact (List.getElem?_eq_none (by rw [Q4o]; omega)).symm
 . rw [Q5e _ _ _ _ Fz,Q4o,if_neg (by omega)]
   exact h.rest k (by omega)
theorem Z4k.start {W wr:World} {g:Nat} {cur:Array Value} {ps:List PV} {t:Plan -> Bool} {k:Nat} {q:PV} (hb:Blk W g 159 cur) (hx:Ext W wr) (ht:cur.toList.take (ps.length * 4)=ps.flatMap Q3g) (hc:Q0v W ps) (hq:ps[k]?=some q) (eJ:t q.1=true)
    (my:∀ j q',j < k -> ps[j]?=some q' -> t q'.1=false):Z4k W wr g cur cur ps t (k + 1) k:=by
 obtain ⟨hk,rfl⟩:=List.getElem?_eq_some_iff.1 hq;have e:(ps.take (k + 1)).filter (fun q=>!t q.1)=ps.take k:=by
  rw [List.take_succ_eq_append_getElem hk,List.filter_append,List.filter_eq_self.2]
  . simp [eJ]
  . intro z hz
    obtain ⟨j,hj,rfl⟩:=List.getElem_of_mem hz;rw [List.length_take] at hj;rw [List.getElem_take,my j ps[j] (by omega) (List.getElem?_eq_getElem (by omega))]; rfl
 refine ⟨hb.ext hx,rfl,by rw [e,List.length_take]; omega,?_,fun _ _=>rfl,Q5i (Q7a W _) hx,hc.ext hx⟩
 rw [e,<- Y8i,<- ht,List.take_take,Nat.min_eq_left (by omega)]
theorem Tryz.J8o (w:World):(zeroValue 159).run prog w=.ok (.agg #[.int .i64 0,.int .i64 0,.int .i64 0,.slice none 0 0]) w:=by kernel_rfl
theorem filter_none {ps:List PV} {t:Plan -> Bool} (h:∀ q ∈ ps,t q.1=false):(ps.filter fun q=>!t q.1)=ps:=List.filter_eq_self.2 fun q hq=>by rw [h q hq]; rfl
def J8l (v v':Value) (k:Nat):Prop:=∀ A n c,v=.slice A n c -> v'=.slice A k c
theorem Y7r (w:World) (B:Nat) (v:Value) (ps:List PV) (fg:Nat) (pre post:Array Value) (t:Plan -> Bool) (hv:Q1d w B 159 4 Q3g v ps) (hc:Q0v w ps) (hl:ps.length <= 100000)
    (eg:∀ args w,(callFunc fg args).run prog w=.ok (.enter fg args) w) (ht:∀ W,Y1y fg pre post W t) :
    Calls prog 229 #[v,.func (.func fg) pre post] w fun e w'=>∃ v',e=.returned v' /\ Q1d w' B 159 4 Q3g v' (ps.filter fun q=>!t q.1) /\ Q0v w' (ps.filter fun q=>!t q.1) /\ w.grownBy w' v.ownBlock /\ J8l v v' (ps.filter fun q=>!t q.1).length:=by
 have HI:=Lib.hid (X9r w B v ps fg pre post t hv hc hl eg (ht w));have HT:=Lib.hid ht;have HC:=Lib.hid hc
 rcases OwnP.cases hv with ⟨rfl,rfl⟩ | ⟨g,Qq,cur,rfl,Ux,hb,Kq,G1,oq,ey⟩
 . have HV:=Lib.hid hv
   clear hv hc ht;go_enter func229,ntmps229;go_wp2_with (go_at_call 247; refine HI.out.mono ?_; rintro e w5 ⟨r,rfl,hr,yq⟩; have vq:=Lib.hid yq; refine halted ?_);have O8:r=-1:=by
    rcases hr with ⟨h,_⟩ | ⟨k,_,q,hq,_⟩
    . exact h
    . simp at hq
   subst O8;clear hr yq;unfold Q1o;go_wp2;go_ret;exact ⟨_,rfl,HV.out.below vq.out,Q0v.nil _,Q5i (Q7a w _) vq.out,fun A n c h=>by cases h; rfl⟩
 . have HV:=Lib.hid hv
   have HB:=Lib.hid hb;have az:=Lib.hid ey;have qz:=Lib.hid oq;have GQ:=Lib.hid G1;have EQ:=Lib.hid Ux;obtain ⟨L,hL⟩:∃ L,ps.length=L:=⟨_,rfl⟩;have HL:=Lib.hid hL;rw [hL] at HI Kq hl ⊢;clear hv hb ey oq G1 Ux hc ht hL;go_enter func229,ntmps229;go_wp2_with (go_at_call 247; refine HI.out.mono ?_; rintro e w5 ⟨r,rfl,hr,yq⟩; have vq:=Lib.hid yq; refine halted ?_);have HR:=Lib.hid hr;clear hr yq;unfold Q1o
   by_cases O8:r=-1
   . subst O8
     have HN:Hid ((ps.filter fun q=>!t q.1)=ps):=Lib.hid (by
      rcases HR.out with ⟨_,h⟩ | ⟨k,h,_⟩
      . exact filter_none h
      . omega)
     go_wp2;go_ret;exact ⟨_,rfl,by rw [HN.out,<- HL.out]; exact HV.out.below vq.out,by rw [HN.out]; exact HC.out.ext vq.out,Q5i (Q7a w _) vq.out,fun A n c h=>by cases h; rw [HN.out,HL.out]; rfl⟩
   . obtain ⟨k0,rfl,q0,ny,eJ,my⟩:∃ k:Nat,r=(k:Int) /\ ∃ q,ps[k]?=some q /\ t q.1=true /\ ∀ j q',j < k -> ps[j]?=some q' -> t q'.1=false:=by
      rcases HR.out with ⟨h,_⟩ | h
      . exact absurd h O8
      . exact h
     have Ak:k0 < L:=by rw [<- HL.out]; exact (List.getElem?_eq_some_iff.1 ny).1
     have Sj:=Lib.hid (Z4k.start HB.out vq.out az.out HC.out ny eJ my);have nz:((k0:Int) == -1)=false:=by rw [beq_eq_false_iff_ne]; omega
     have mW:IntKind.i64.wrap ((k0:Int) + 1)=(k0:Int) + 1:=Q2j _ (by omega) (by omega)
     clear O8 ny eJ my;go_wp2
     go_loopw [5,6] (fun iv jv wr=>∃ (i J:Nat) (cur':Array Value),i < J /\ J <= L /\ iv=.int .i64 i /\ jv=.int .i64 J /\ Z4k w wr g cur cur' ps t J i) (fun _ jv _=>L - (intOf jv).toNat)
     case atStart=>exact ⟨k0,k0 + 1,cur,by omega,by omega,rfl,by go_num,Sj.out⟩
     case round =>
      obtain ⟨i,J,cur',Qr,Pr,rfl,rfl,AZ⟩:=hrel;have HD:=Lib.hid AZ;clear AZ
      by_cases Uq:J < L
      . have Om:(J:Int) < L:=by omega
        have V0:(i:Int) < L:=by omega
        have zZ:J < ps.length:=by rw [HL.out]; exact Uq
        have N7:Hid (ps[J]?=some ps[J]):=Lib.hid (List.getElem?_eq_getElem zZ);have Wq:∀ m,m < 4 -> wr.cell? ⟨g,J * 4 + m,none⟩=(Q3g ps[J])[m]?:=fun m hm=>by
         rw [HD.out.blk.cell,HD.out.rest _ (by omega),<- HB.out.cell]
         exact X3i HB.out az.out zZ hm
        have e0:=Wq 0 (by omega)
        have e1:=Wq 1 (by omega)
        have e2:=Wq 2 (by omega)
        have e3:=Wq 3 (by omega)
        obtain ⟨A4,n4,c4,ox⟩:=HD.out.closed.shape (List.getElem_mem zZ);have dj:=Lib.hid (Z4h HD.out.closed (List.getElem_mem zZ));have yZ:=Lib.hid (fun W=>HT.out W W ps[J].1 A4 n4 c4 (Ext.refl _));obtain ⟨q,hq⟩:∃ q,t ps[J].1=q:=⟨_,rfl⟩;have HQ:=Lib.hid hq;rw [hq] at yZ;obtain ⟨qk,xz⟩:∃ z,ps[J]=z:=⟨_,rfl⟩;rw [xz] at e0 e1 e2 e3 ox yZ HQ N7 dj;obtain ⟨⟨x1,x2,x3,x4⟩,xv⟩:=qk;replace ox:xv=.slice A4 n4 c4:=ox;subst ox;unfold Z7k at yZ;dsimp only at yZ;simp only [Q3g,List.getElem?_cons_zero,List.getElem?_cons_succ] at e0 e1 e2 e3;rw [Nat.add_zero] at e0;have Bq:=Ext.box wr (.cells #[.int .i64 x1,.int .i64 x2,.int .i64 x3,.slice A4 n4 c4] 159);have K3:=Blk.made wr 159 #[.int .i64 x1,.int .i64 x2,.int .i64 x3,.slice A4 n4 c4];have jq:=Lib.hid Bq;have My:=Lib.hid K3;have d0:=(K3).cell 0;have d1:=(K3).cell 1;have d2:=(K3).cell 2;have d3:=(K3).cell 3;simp only [Go.Tw.gA,Go.Tw.gB,Go.Tw.gC] at d0 d1 d2 d3;clear Wq hq xz Bq K3 zZ
        go_light
        go_wp2_with (refine (yZ.out _).mono ?_; rintro e w9 ⟨rfl,sj⟩; refine halted ?_);have uj:=Lib.hid (jq.out.trans sj);have xZ:=My.out.ext sj;have YY:=Lib.hid (HD.out.ext uj.out);have f0:=(xZ).cell 0;have f1:=(xZ).cell 1;have f2:=(xZ).cell 2;have f3:=(xZ).cell 3;simp only [Go.Tw.gA,Go.Tw.gB,Go.Tw.gC] at f0 f1 f2 f3;clear sj xZ d0 d1 d2 d3 e0 e1 e2 e3;unfold Q1o;cases q with
        | true =>
          have qy:=Lib.hid (YY.out.skip N7.out HQ.out);go_wp2;go_roundw
          case rel=>exact ⟨i,J + 1,cur',by omega,by omega,rfl,by go_num,qy.out⟩
          case measure=>simp [intOf]; omega
        | false =>
          have tg:Hid (i * 4 + 4 <= cur'.size):=Lib.hid (by rw [YY.out.size,qz.out]; omega)
          go_wp2_with (refine Q2i rfl ?_; refine X7q _ _ 159 rfl X9k (g:=g) (off:=i * 4) (by go_simp) (vs:=#[.int .i64 x1,.int .i64 x2,.int .i64 x3,.slice A4 n4 c4]) (by go_simp) YY.out.blk tg.out rfl dj.out ?_; intro vv w8 Sf dJ Rf; refine halted ?_)
          have qy:=Lib.hid (YY.out.put N7.out HQ.out (by omega) qz.out (by rw [HL.out]; exact Kq) Sf (dJ 0 (Nat.zero_le _)) Rf)
          clear Sf dJ Rf f0 f1 f2 f3;unfold Q1o;go_wp2;go_roundw
          case rel=>exact ⟨i + 1,J + 1,_,by omega,by omega,by go_num,by go_num,qy.out⟩
          case measure=>simp [intOf]; omega
      . have Dm:J=L:=by omega
        subst Dm;have t1:(i:Int) <= (J:Int):=by omega
        have t2:¬ J < i:=by omega
        have t3:¬ Qq=i:=by omega
        have t4:¬ Qq < i:=by omega
        have t5:¬ Qq < J:=by omega
        have tg:Hid (i * 4 + (Builtin.zeroCells (Value.agg #[.int .i64 0,.int .i64 0,.int .i64 0,.slice none 0 0]).cells (J - i)).size <= cur'.size):=Lib.hid (by
         rw [Z5u,HD.out.size,qz.out]; omega)
        go_wp2_with (refine X1r rfl _ 160 159 rfl underlying160 (show 0 < J - i by omega) rfl HD.out.blk _ J8o (J1s _) tg.out ?_; intro w9 Nj Wj cj; refine halted ?_)
        have sg:=Lib.hid Nj;have Cm:=Lib.hid (X1e HD.out.grown (Wj 0 (Nat.zero_le _)) cj);have D1:=Lib.hid (HD.out.closed.off HD.out.blk fun k _ hk=>cj k hk);clear Nj Wj cj;unfold Q1o;go_wp2;go_ret;have Dq:=HD.out.len;have Cy:=HD.out.head;rw [show ps.take J=ps from List.take_of_length_le (by rw [HL.out]; exact Nat.le_refl _)] at Dq Cy
        refine ⟨_,rfl,⟨?_,.inr ⟨g,Qq,_,by rw [Dq]; rfl,EQ.out,sg.out,by rw [Dq]; omega,GQ.out,by rw [X2r,HD.out.size,qz.out],?_⟩⟩,D1.out.sub fun q hq=>(List.mem_filter.1 hq).1,Cm.out,fun A n c h=>by cases h; rw [Dq]; rfl⟩
        . exact Q4c Q4o _
        . rw [Dq,<- Cy]
          apply List.ext_getElem?
          intro k;have hf:=tg.out;rw [<- Array.length_toList] at hf;rw [List.getElem?_take,List.getElem?_take,Array.getElem?_toList,Array.getElem?_toList,Q5e _ _ _ _ hf]
          by_cases hk:k < i * 4
          . rw [if_pos hk,if_pos hk,if_neg (by omega)]
          . rw [if_neg hk,if_neg hk]
end Go.Proofs
namespace Go.Flow
open Go.RowKit Go.Tw
structure Y8m (Rel:World -> World -> Prop) where
 D:(Nat -> Value) -> World -> Prop
 mono:∀ v w w',Rel w w' -> D v w -> D v w'
def Y8m.is {Rel:World -> World -> Prop} (j:Nat) (e:(Nat -> Value) -> Value):Y8m Rel:=⟨fun v _=>v j=e v,fun _ _ _ _ h=>h⟩
def Y8m.c {Rel:World -> World -> Prop} (j:Nat) (x:Value):Y8m Rel:=Y8m.is j fun _=>x
def Y8m.none {Rel:World -> World -> Prop}:Y8m Rel:=⟨fun _ _=>True,fun _ _ _ _ _=>trivial⟩
def J7n (Rel:World -> World -> Prop) (P:Program) (pre:Nat -> List Nat) (D:Nat -> (Nat -> Value) -> World -> Prop) (E:(Nat -> Value) -> World -> World -> Prop) (k:Kind) (o:Oper) (j:Nat) (b:Act) (v:Nat -> Value) (w1 w:World):Prop :=
 match k with
 | .plain=>∃ u,(∀ w,(execOp b.eval o).run P w=.ok (.value u) w) /\ D j (mask pre j (upd v j u)) w1
 | .world=>∀ K:Value -> World -> Prop,(∀ u w',Rel w1 w' -> D j (mask pre j (upd v j u)) w' -> K u w') -> gives P K ((execOp b.eval o).run P w1)
 | .last=>∀ K:Value -> World -> Prop,(∀ u w',E (mask pre j (upd v j u)) w1 w' -> K u w') -> gives P K ((execOp b.eval o).run P w)
theorem J4n {Rel:World -> World -> Prop} {P:Program} {ops:Array Oper} {pre:Nat -> List Nat} {D:Nat -> (Nat -> Value) -> World -> Prop} {T E:(Nat -> Value) -> World -> World -> Prop} {k:Kind} {o:Oper} {j:Nat} {b:Act} {v:Nat -> Value} {w1:World}
    (hk:k ≠ .last) (h:Guarded ops o b (J7n Rel P pre D E k o j b v w1 w1) (Pass pre D E k j v w1 w1)):vc P ops pre Rel D T E k o j b v w1:=by
 have h':(Region.wanted o (yielded ops b.tmps)=true /\ J7n Rel P pre D E k o j b v w1 w1) ∨ (Region.wanted o (yielded ops b.tmps)=false /\ Pass pre D E k j v w1 w1):=by
  unfold Guarded at h;cases hg:o.guard with
  | none=>rw [hg] at h; exact .inl ⟨by simp [Region.wanted,hg],h⟩
  | some g=>rw [hg] at h; exact h
 cases k with
 | plain=>exact h'.imp (fun ⟨a,u,b,c⟩=>⟨a,u,b,c⟩) id
 | world=>exact h'.imp (fun ⟨a,b⟩=>⟨a,b _ fun u w' h1 h2=>⟨h1,h2⟩⟩) id
 | last=>exact absurd rfl hk
theorem J2j {Rel:World -> World -> Prop} {P:Program} {ops:Array Oper} {pre:Nat -> List Nat} {D:Nat -> (Nat -> Value) -> World -> Prop} {T E:(Nat -> Value) -> World -> World -> Prop} {o:Oper} {j:Nat} {b:Act} {v:Nat -> Value} {w1:World}
    (h:∀ w,T v w1 w -> Guarded ops o b (J7n Rel P pre D E .last o j b v w1 w) (Pass pre D E .last j v w1 w)):vc P ops pre Rel D T E .last o j b v w1:=by
 intro w hT;have h:=h w hT;have h':(Region.wanted o (yielded ops b.tmps)=true /\ J7n Rel P pre D E .last o j b v w1 w) ∨ (Region.wanted o (yielded ops b.tmps)=false /\ Pass pre D E .last j v w1 w):=by
  unfold Guarded at h;cases hg:o.guard with
  | none=>rw [hg] at h; exact .inl ⟨by simp [Region.wanted,hg],h⟩
  | some g=>rw [hg] at h; exact h
 exact h'.imp (fun ⟨a,b⟩=>⟨a,b _ fun u w' h1=>h1⟩) id
section
variable {P:Program} {id:Nat} {Q:Exit -> Act -> World -> Prop} {a0:Act} {w:World} {ops:List Oper}
end
end Go.Flow
