/- Contracts: kept, weight, checkMember, checkMembers (of the program). Contracts: count, alone (of the program). Blocks of structs: their cells by a function of the place; stores, copies and clears of parts of a block. -/
import Derived.Test.YthnobngcipaljaaGreatDoorPn12
import Derived.Test.YthnobngcipaljaaGreatDoorPn11
import Derived.Test.YthnobngcipaljaaGreatDoorPn09
import Derived.Laws.MakeOwn
set_option maxRecDepth 1000000
set_option maxHeartbeats 64000000
set_option linter.unusedVariables false
set_option linter.unusedSimpArgs false
set_option linter.constructorNameAsVariable false
open Go.Lib (hid)
namespace Go.Proofs
open Go.RowKit Go.Tw Go.Flow
attribute [local go_sem] Oper.semAt_some
theorem Tryz.Z3z (w:World):(isAgg 69).run Tryz.prog w=.ok true w:=by kernel_rfl
theorem Tryz.Y2z (w:World):(sizeOf 69).run Tryz.prog w=.ok 5 w:=by kernel_rfl
theorem X3i {s:Q0b} (hS:Q0u s) {k n:Nat} (hk:k < s.members.length) (hn:n <= s.ships.length):OkM (Q1q s k) n:=by
 obtain ⟨_,h2,h3⟩:=hS.shaped k hk;refine ⟨?_,?_,fun j hj=>?_⟩
 . show n <= (Q0z s.members k).length; omega
 . show n <= (Q1f s.members k).length; omega
 . have hj':j < (Q1f s.members k).length:=hj
   have:=hS.inflow k hk (ix (Q1f s.members k) j) (by rw [Q4n hj']; exact List.getElem_mem hj')
   exact this
structure J0b (w:World) (M:Option Addr) (s:Q0b) (k:Nat) (b off capx capy capz:Nat) (X Y Z:Option Addr):Prop where
 addr:M=some ⟨b,off,none⟩
 lt:b < w.heap.size
 e0:w.cell? ⟨b,off + k * 5,none⟩=some (.string (Q1o s.members k))
 e1:w.cell? ⟨b,off + k * 5 + 1,none⟩=some (.int .i64 (Q0k s.members k))
 e2:w.cell? ⟨b,off + k * 5 + 2,none⟩=some (.slice X (Q0c s.members k).length capx)
 e3:w.cell? ⟨b,off + k * 5 + 3,none⟩=some (.slice Y (Q0z s.members k).length capy)
 e4:w.cell? ⟨b,off + k * 5 + 4,none⟩=some (.slice Z (Q1f s.members k).length capz)
 x:Q0e w (.slice X (Q0c s.members k).length capx) (Q0c s.members k)
 y:Q0e w (.slice Y (Q0z s.members k).length capy) (Q0z s.members k)
 z:Q0e w (.slice Z (Q1f s.members k).length capz) (Q1f s.members k)
theorem Q3a {w:World} {M:Option Addr} {cap:Nat} {s:Q0b} (h:X0b w (.slice M s.members.length cap) s.members) {k:Nat} (hk:k < s.members.length) :
    ∃ b off capx capy capz X Y Z,J0b w M s k b off capx capy capz X Y Z:=by
 obtain ⟨_,_,he,_,_,hc⟩:=h.opened;cases he;obtain ⟨b,off,x,y,z,hA,hb,e0,e1,e2,e3,e4,hx,hy,hz,_⟩:=hc k hk;obtain ⟨X,capx,rfl,-,-,-⟩:=hx.opened;obtain ⟨Y,capy,rfl,-,-,-⟩:=hy.opened;obtain ⟨Z,capz,rfl,-,-,-⟩:=hz.opened;exact ⟨b,off,capx,capy,capz,X,Y,Z,hA,hb,e0,e1,e2,e3,e4,hx,hy,hz⟩
theorem J0b.mem {w W:World} {M:Option Addr} {s:Q0b} {k b off capx capy capz:Nat} {X Y Z:Option Addr} (h:J0b w M s k b off capx capy capz X Y Z) (hx:Ext w W) :
    X3f W (.agg #[.string (Q1o s.members k),.int .i64 (Q0k s.members k),.slice X (Q0c s.members k).length capx,.slice Y (Q0z s.members k).length capy,.slice Z (Q1f s.members k).length capz]) (Q1q s k) :=
 ⟨_,_,_,rfl,h.x.ext hx,h.y.ext hx,h.z.ext hx⟩
theorem J0y (w:World) (v u:Value) (s:Q0b) (p:List Rul) (hv:Q0f w v s) (hu:Q4g w u (Q3j s p)) (hS:Q0u s) :
    Calls Tryz.prog 108 #[v,u] w fun e w'=>∃ x,e=.returned x /\ Q0e w' x (Q2o s p) /\ Ext w w':=by
 obtain ⟨i0,hi,hz0,hz1,hz2⟩:=info_parts Tryz.info3;have h8:=hS.some;have h6:=hS.tides;have HS:=hid hS;obtain ⟨a,b,rfl,h2⟩:=hv;obtain ⟨A,capa,rfl,-,-,-⟩:=h2.ships.opened;obtain ⟨M,capb,rfl,-,-,-⟩:=h2.members.opened;have H2:=hid h2;obtain ⟨U,capu,rfl,-,-,hcu⟩:=hu.opened;rw [Q3l] at hcu ⊢;have HCU:=hid hcu;clear h2 hu hcu hS;go_enter Tryz.func108,Tryz.ntmps108;go_wp2_with fail;change Code.wp _ _ _ _ (w.alloc (.cells #[.int .i64 s.limit,.slice A s.ships.length capa,.slice M s.members.length capb] 34));obtain ⟨W,hWW,k0,HXW,eW⟩:=Q1u w 34 #[.int .i64 s.limit,.slice A s.ships.length capa,.slice M s.members.length capb];rw [hWW];clear hWW;have K0:=hid k0;have c0_2:=k0.cell 2;simp only [Go.Tw.gA,Go.Tw.gB,Go.Tw.gC] at c0_2;obtain ⟨gs,hgs⟩:∃ x,w.heap.size=x:=⟨_,rfl⟩;rw [hgs] at K0 eW c0_2 ⊢;clear k0;go_wp2;clear c0_2
 go_loopw [5,11] (fun o i wr=>∃ (k:Nat),k <= s.members.length /\ i=.int .i64 k /\ Q0m wr W.heap.size 3 (.int .i64) o (Q3o s p k) /\ Ext W wr) (fun _ i _=>s.members.length - (intOf i).toNat)
 case atStart=>exact ⟨0,Nat.zero_le _,rfl,Q0m.nil _ _ _ _,Ext.refl _⟩
 case round =>
  obtain ⟨k,hk,rfl,hown,hxr⟩:=hrel;have HXR:=hid hxr;have HOW:=hid hown
  by_cases hlt:k < s.members.length
  . obtain ⟨bm,off,capx,capy,capz,X,Y,Z,hme⟩:=Q3a (H2.out.members.ext (HXW.out.trans hxr)) hlt
    have HMEM:=hid hme;have hA:=hme.addr;subst hA;have e0:=hme.e0;have e1:=hme.e1;have e2:=hme.e2;have e3:=hme.e3;have e4:=hme.e4;have HM2:=hid (fun W' hW=>hme.mem (W:=W') hW);obtain ⟨bu,ou,xk,hU,-,hxk,hbk⟩:=HCU.out k hlt;subst hU;rw [Q6y p hlt] at hbk;have hlen:(Q0i p (Q0c s.members k)).length=s.ships.length:=by rw [Q1p,(HS.out.shaped k hlt).1]
    have HLN:Hid ((Q0i p (Q0c s.members k)).length <= 9):=hid (by omega)
    have HOK:=hid (X3i HS.out hlt (n:=(Q0i p (Q0c s.members k)).length) (by omega))
    have hsuc:=X1y s p k;have hkd:Z4x s p k=(Q1q s k).keeps s.limit (Q0i p (Q0c s.members k)):=rfl;obtain ⟨cl,hcl⟩:∃ x,Q0i p (Q0c s.members k)=x:=⟨_,rfl⟩;rw [hcl] at hbk HLN HOK hkd;obtain ⟨q,hq⟩:∃ x,(Q1q s k).keeps s.limit cl=x:=⟨_,rfl⟩;rw [hkd,hq] at hsuc;have HQ:=hid hq;have HSUC:=hid hsuc;obtain ⟨nm,hnm⟩:∃ x,Q1o s.members k=x:=⟨_,rfl⟩;obtain ⟨wt,hwt⟩:∃ x,Q0k s.members k=x:=⟨_,rfl⟩;obtain ⟨lc,hlc⟩:∃ x,(Q0c s.members k).length=x:=⟨_,rfl⟩;obtain ⟨lo,hlo⟩:∃ x,(Q0z s.members k).length=x:=⟨_,rfl⟩;obtain ⟨li,hli⟩:∃ x,(Q1f s.members k).length=x:=⟨_,rfl⟩;rw [hnm] at e0 HM2;rw [hwt] at e1 HM2;rw [hlc] at e2 HM2;rw [hlo] at e3 HM2;rw [hli] at e4 HM2;obtain ⟨Uk,capk,rfl,-,-,-⟩:=hbk.opened;have HXK:=hid hxk;have HBK:=hid hbk;have hkI:(k:Int) < s.members.length:=by omega
    have hbox:=Ext.box wr (.cells #[.string nm,.int .i64 wt,.slice X lc capx,.slice Y lo capy,.slice Z li capz] 69);have K3:=Blk.made wr 69 #[.string nm,.int .i64 wt,.slice X lc capx,.slice Y lo capy,.slice Z li capz];have HXB:=hid hbox;clear hme hlen hkd hcl hq hsuc hnm hwt hlc hlo hli hbox hown hxr hxk hbk HMEM
    go_light
    go_wp2;obtain ⟨W5,hW5⟩:∃ X',wr.alloc (.cells #[.string nm,.int .i64 wt,.slice X lc capx,.slice Y lo capy,.slice Z li capz] 69)=X':=⟨_,rfl⟩;obtain ⟨g,hg⟩:∃ x,wr.heap.size=x:=⟨_,rfl⟩;rw [hW5] at HXB K3 ⊢;rw [hg] at K3 ⊢;have KR:=hid K3;have hdr:=(Ext.refl W5).drew;clear hW5 K3 e0 e1 e2 e3 e4 hg;refine Flow.Q1d [.w,.p,.w,.p,.p,.p,.w,.w] [0,1,2,3,4,5,6,7] [[],[],[1],[],[],[3,4],[5],[0,2,6]]
     [.c 0 (.agg #[.string nm,.int .i64 wt,.slice X lc capx,.slice Y lo capy,.slice Z li capz]),.c 1 (.pointer (some ⟨gs,0,none⟩)),.c 2 (.int .i64 s.limit),.c 3 (.slice (some ⟨bu,ou,none⟩) s.members.length capu),.c 4 (.int .i64 (k:Int)),.c 5 (.pointer (some ⟨bu,ou + k,none⟩)),.c 6 (.slice Uk cl.length capk),.c 7 (.bool q)]
     (by kernel_rfl) rfl (by kernel_rfl) ⟨?g0,?g1,?g2,?g3,?g4,?g5,?g6,?g7,trivial⟩ ?post
    case g0=>
     intro v w1 hx;intro bb hbb;intro K hK;have o1:bb.eval (.tmp 7)=.pointer (some ⟨g,0,none⟩):=by rw [hbb]; dsimp only; (try simp (discharger:=decide) only [eval_put_ne]); rfl
     exact Q0g (.tmp 7) _ rfl Tryz.Z3z Tryz.Y2z o1 (KR.out.ext (hdr.trans hx)) rfl (hK _ _ (Ext.refl _) rfl)
    case g1 | g3 | g4=>
     intro v w1 hx;intro bb hbb;subst hbb;refine ⟨_,fun w=>?_,rfl⟩;go_simp
    case g2 | g6=>
     intro v w1 hx;(repeat intro (zq:v _=_));intro bb hbb;subst hbb;have n0:w1.cell? ⟨gs,0,none⟩=some (.int .i64 s.limit):=(K0.out.ext (HXR.out.trans (HXB.out.trans (hdr.trans hx)))).cell 0;have n1:w1.cell? ⟨bu,ou + k,none⟩=some (.slice Uk cl.length capk):=(HXW.out.trans (HXR.out.trans (HXB.out.trans (hdr.trans hx)))).cell HXK.out;intro K hK;go_simp;exact hK _ _ (Ext.refl _) rfl
    case g5=>
     intro v w1 hx;(repeat intro (zq:v _=_));intro bb hbb;subst hbb;refine ⟨_,fun w=>?_,rfl⟩;go_simp
    case g7=>
     intro v w1 hx;(repeat intro (zq:v _=_));intro bb hbb;subst hbb;intro K hK;go_simp;refine Q0d (X0p w1 _ _ (Q1q s k) s.limit cl (HM2.out w1 (HXB.out.trans (hdr.trans hx))) (HBK.out.ext (HXW.out.trans (HXR.out.trans (HXB.out.trans (hdr.trans hx))))) HLN.out HOK.out) ?_;rintro e w2 ⟨rfl,hx2⟩;rw [HQ.out];exact ⟨_,rfl,hK _ _ hx2 rfl⟩
    case post =>
     intro v w1 hx;(iterate 8 intro (zq:v _=_));simp only [Flow.All,Flow.acts,Act.put];go_simp;have hxx:=HXR.out.trans (HXB.out.trans (hdr.trans hx));have hown:=HOW.out.below (HXB.out.trans (hdr.trans hx));have HXX:=hid hxx;clear hx hdr;(repeat clear zq);obtain ⟨w3,rfl⟩:∃ X,X=w1:=⟨_,rfl⟩;cases q with
     | true =>
       have HST:Hid (Q3o s p (k + 1)=Q3o s p k ++ [(k:Int)]):=hid (by rw [HSUC.out,if_pos (by trivial)])
       have hll:(Q3o s p k).length <= 4096:=by have:=Q7t s p k; omega
       have HOW3:=hid hown;have hx3:=HXX.out;clear hxx;go_wp2_with (at_builtin; refine wpList_append_own _ rfl _ _ 22 rfl (W.heap.size) 3 i0 (.int .i64 0) 1 8 Tryz.underlying22 hi hz0 hz1 hz2 rfl (by decide) _ _ _ rfl (World.ownsRow.alloc hown _) ⟨w3.heap.size,0,none⟩ 1 1 [.int .i64 (k:Int)] rfl rfl ?_ ?_ ?_ ?_ ?_ ?_; exact Q3i _ _ _; (focus (simp [Value.oneCell'])); (focus (unfold maxLen; omega)); (focus omega); (focus (have:=hx3.size; simp at this ⊢; omega)); intro v' w1 hown' hgrow _)
       have hx':=Q2e hx3 HOW3.out (Nat.le_refl _) hgrow;go_roundw
       case rel=>exact ⟨k + 1,by omega,by go_num,by rw [HST.out]; exact Q0m.snoc hown',hx'⟩
       case measure=>simp [intOf]; omega
     | false =>
       have HST:Hid (Q3o s p (k + 1)=Q3o s p k):=hid (by rw [HSUC.out]; simp)
       have HOW3:=hid hown;clear hown hxx;go_wp2;go_roundw
       case rel=>exact ⟨k + 1,by omega,by go_num,by rw [HST.out]; exact HOW3.out,HXX.out⟩
       case measure=>simp [intOf]; omega
  . have hke:k=s.members.length:=by omega
    subst hke;go_wp2;go_ret;exact ⟨_,rfl,by rw [<- X5l]; exact HOW.out.ints (by have:=Q7t s p s.members.length; omega),HXW.out.trans HXR.out⟩
end Go.Proofs
namespace Go.Proofs
open Go.RowKit Go.Tw Go.Flow
attribute [local go_sem] Oper.semAt_some
theorem Q6k (w:World) (v:Value) (l:List Bool) (hv:Q0r w v l) :
    Calls Tryz.prog 129 #[v] w fun e w'=>e=.returned (.int .i64 (countB l)) /\ Ext w w':=by
 obtain ⟨A,cap,rfl,hl,hcap,hc⟩:=hv.opened;clear hv;go_enter Tryz.func129,Tryz.ntmps129;go_wp2
 go_loopw [3,8] (fun n i wr=>∃ (k:Nat) (m:Int),k <= l.length /\ i=.int .i64 k /\ n=.int .i64 m /\ 0 <= m /\ m <= k /\ m + countB (l.drop k)=countB l /\ Ext w wr) (fun _ i _=>l.length - (intOf i).toNat)
 case atStart=>exact ⟨0,0,Nat.zero_le _,rfl,rfl,Int.le_refl _,Int.le_refl _,by simp,Ext.refl _⟩
 case round =>
  obtain ⟨k,m,hk,rfl,rfl,hm0,hmk,hr,hx⟩:=hrel;have HR:=hid hr; clear hr
  by_cases hlt:k < l.length
  . obtain ⟨b,off,rfl,hb,hcell⟩:=hc k hlt
    replace hcell:=hx.cell hcell;have HD:=hid (X9t hlt);clear hc;cases hb:bx l k
    . rw [hb] at hcell
      have HB:=hid hb; clear hb;go_wp2;go_roundw
      case rel=>exact ⟨k + 1,m,by omega,by go_num,rfl,hm0,by omega,by rw [<- HR.out,HD.out,Q8j,HB.out]; simp,hx⟩
      case measure=>simp [intOf]; omega
    . rw [hb] at hcell
      have HB:=hid hb; clear hb;go_wp2;go_roundw
      case rel=>exact ⟨k + 1,m + 1,by omega,by go_num,by go_num,by omega,by omega,by rw [<- HR.out,HD.out,Q8j,HB.out]; simp; omega,hx⟩
      case measure=>simp [intOf]; omega
  . clear hc
    go_wp2;go_ret;exact ⟨Q1b (by have:=HR.out; rw [List.drop_eq_nil_of_le (by omega)] at this; rw [<- this]; show m=m + 0; omega),hx⟩
def Q8m (w:World) (x:Value) (o:Option (List Bool)):Prop:=match o with
 | none=>x=.slice none 0 0
 | some b=>Q0m w 0 4 .bool x b
theorem Q8m.ext {w w':World} {x:Value} {o:Option (List Bool)} (h:Q8m w x o) (hx:Ext w w'):Q8m w' x o:=by
 cases o with
 | none=>exact h
 | some b=>exact Q0m.below h hx
theorem Q8m.turns {B:Nat} {w w':World} {x:Value} {o:Option (List Bool)} (h:Q8m w x o) (hx:Turns B w w'):Q8m w' x o:=by
 cases o with
 | none=>exact h
 | some b=>exact hx.own h
theorem X6b (w:World) (a:Addr) (n cap:Nat):(binOp .eql 82 (.slice (some a) n cap) (.slice none 0 0)).run Tryz.prog w=.ok (.bool false) w:=by kernel_rfl
theorem X2z (w:World):(binOp .eql 82 (.slice none 0 0) (.slice none 0 0)).run Tryz.prog w=.ok (.bool true) w:=by kernel_rfl
attribute [local go_sem ↓] X6b X2z
theorem Q6x (m:Mem) (lim:Int) (T:Nat):∀ n b,m.Q3r lim T n=some b -> b.length=T
 | 0,b,h=>by cases h
 | n + 1,b,h=>by
   unfold Mem.Q3r at h
   split at h
   . cases h; exact X0h n T
   . exact Q6x m lim T n b h
theorem Y2i {m:Mem} {lim:Int} {T n:Nat} (h:m.keeps lim (Q5g n T)=false):m.Q3r lim T (n + 1)=m.Q3r lim T n:=by
 show (if _ then _ else _)=_
 rw [if_neg (by rw [h]; simp)]
theorem X8x {m:Mem} {lim:Int} {T n:Nat} (h:m.keeps lim (Q5g n T)=true) (h0:m.Q3r lim T n=none):m.Q3r lim T (n + 1)=some (Q5g n T):=by
 show (if _ then _ else _)=_
 rw [if_pos ⟨h,fun b hb=>by rw [h0] at hb; cases hb⟩]
theorem X6c {m:Mem} {lim:Int} {T n:Nat} {b:List Bool} (h:m.keeps lim (Q5g n T)=true) (h0:m.Q3r lim T n=some b) (q:Bool) (hq:decide (countB (Q5g n T) < countB b)=q):m.Q3r lim T (n + 1)=some (if q then Q5g n T else b):=by
 show (if _ then _ else _)=_
 cases q with
 | true=>rw [if_pos ⟨h,fun b' hb=>by rw [h0] at hb; cases hb; exact of_decide_eq_true hq⟩]; rfl
 | false=>rw [if_neg (fun hn=>(of_decide_eq_false hq) (hn.2 b h0)),h0]; rfl
theorem Y2d (w:World) (v:Value) (m:Mem) (lim:Int) (T:Nat) (hv:X3f w v m) (hT:m.classes.length=T) (hT8:T <= 8) (hT0:0 < T) (hm:OkM m T) :
    Calls Tryz.prog 128 #[v,.int .i64 lim] w fun e w'=>∃ x,e=.returned x /\ Q8m w' x (m.Q3r lim T (2 ^ T)) /\ Ext w w':=by
 have HV:=hid hv;obtain ⟨x,y,z,rfl,hx,hy,hz⟩:=hv;obtain ⟨X,capx,rfl,-,-,-⟩:=hx.opened;obtain ⟨Y,capy,rfl,-,-,-⟩:=hy.opened;obtain ⟨Z,capz,rfl,-,-,-⟩:=hz.opened;have HM:=hid hm;obtain ⟨lo,hlo⟩:∃ x,m.outside.length=x:=⟨_,rfl⟩;obtain ⟨li,hli⟩:∃ x,m.inflow.length=x:=⟨_,rfl⟩;rw [hT,hlo,hli] at HV ⊢;clear hx hy hz hm hT hlo hli;refine (callsIn_wide (n:=9)).1 ?_;refine callsIn_of_wp_marks Tryz.func128 rfl trivial ?_ rfl;simp only [Tryz.ntmps128,List.size_toArray,List.length_cons,List.length_nil,Nat.reduceAdd,Nat.reduceSub,Array.replicate_succ,Array.replicate_zero,List.push_toArray,List.append_toArray,List.nil_append,List.cons_append]
 gi_wp2_with (refine ⟨trivial,?_⟩; gi_at_call 112; refine halted ?_)
 change CallsIn _ _ _ _ _ (((w.alloc (.cells #[.string m.name,.int .i64 m.weight,.slice X T capx,.slice Y lo capy,.slice Z li capz] 69)).alloc (.cells #[.int .i64 lim] 3)).alloc (.cells #[.slice none 0 0] 82)) _;obtain ⟨W,hWW,k0,k1,k2,HXW,eW⟩:=X1i w 69 #[.string m.name,.int .i64 m.weight,.slice X T capx,.slice Y lo capy,.slice Z li capz] 3 #[.int .i64 lim] 82 #[.slice none 0 0];rw [hWW];clear hWW;refine (callsIn_wide.2 (Y4r W (T:Int))).mono ?_;rintro e w' ⟨rfl,hbe,hse,hxe⟩;rw [eW] at hbe hse ⊢;replace k0:=k0.ext hxe;replace k1:=k1.ext hxe;replace k2:=k2.ext hxe;have HXW':=hid (HXW.out.trans hxe);obtain ⟨gm,hgm⟩:∃ x,w.heap.size=x:=⟨_,rfl⟩;have HGM:=hid hgm;rw [hgm] at k0 k1 k2 hbe hse ⊢;have K0:=hid k0;have K1:=hid k1;clear k0 k1 hxe hgm HXW eW
 gi_wp2
 refine X2d (n:=9) rfl (by omega) (gf:=170) (lb:=#[.pointer (some ⟨gm + 1 + 1 + 1,0,none⟩)]) rfl trivial (enters_of Tryz.func170 (by kernel_rfl) rfl)
  (X4v _ (gm + 1 + 1 + 1) T w' hT8 hbe) rfl (fun h1 h2=>Eq.trans h2 h1) (fun h=>h.same (by omega)) (fun h ho=>h.own ho)
  (fun k W=>∃ bv,Blk W (gm + 1 + 1) 82 #[bv] /\ Q8m W bv (m.Q3r lim T k) /\ Below (gm + 1 + 1) w' W)
  (fun k A B ⟨bv,h1,h2,h3⟩ hx=>⟨bv,h1.ext hx,h2.ext hx,Below.trans h3 (hx.mono (by have:=h1.lt; omega))⟩)
  (fun h ⟨bv,h1,h2,h3⟩=>⟨bv,h.blk h1,h2.turns h,Below.trans h3 (h.below (by omega))⟩)
  ⟨_,k2,rfl,Below.refl _ _⟩ ?frm ?assign ?body ?done
 case assign =>
  intro l x W K hK
  gi_wp2
  exact hK
 case done =>
  rintro D W hD ⟨bv,hb,hbr,hB⟩ hK;have hcell:=hb.cell 0
  gi_wp2
  refine ⟨by simp,.inl ⟨_,_,rfl,run_takeDeferred hK,?_⟩⟩
  have hturn:Turns w'.heap.size W (W.putObj D (.deferred none)):=⟨D,_,_,hD,hK,rfl,rfl⟩;exact ⟨_,results_tmp rfl _ _ _,⟨bv,rfl,hbr.turns hturn,Below.trans HXW'.out (Below.trans (hB.mono (by have:=HGM.out; omega)) (hturn.below (by have:=HXW'.out.size; omega)))⟩⟩
 case body =>
  rintro l k v W hk ⟨bv,hb,hbr,hB⟩ hv;have hTp:(2:Nat) ^ T <= 2 ^ 8:=Nat.pow_le_pow_right (by omega) hT8
  have hsz:=hB.size;have HB0:=hid (K0.out.below hB (by omega))
  have HB1:=hid (K1.out.below hB (by omega))
  have HBB:=hid hb;have HVW:=hid (HV.out.ext (Below.trans HXW'.out (hB.mono (by have:=HGM.out; omega))))
  have HBE:=hid hB;have hcll:=X0h k T;have hno:=Y2i (m:=m) (lim:=lim) (T:=T) (n:=k);have hnew:=X8x (m:=m) (lim:=lim) (T:=T) (n:=k);have hless:=fun b=>X6c (m:=m) (lim:=lim) (T:=T) (n:=k) (b:=b);have hal:=Q6x m lim T k;obtain ⟨cl,hcl⟩:∃ x,Q5g k T=x:=⟨_,rfl⟩;rw [hcl] at hv hcll hno hnew hless;have HOV:=hid hv;obtain ⟨Av,cv,rfl,-⟩:=hv.shape;have HKE0:=hid (fun (w1:World) (hx:Ext W w1)=>X0p w1 _ _ m lim cl (HVW.out.ext hx) ((HOV.out.bools (by omega)).ext hx) (by omega) (by rw [hcll]; exact HM.out))
  have HCO:=hid (fun (w1:World) (hx:Ext W w1)=>Q6k w1 _ cl ((HOV.out.bools (by omega)).ext hx))
  have HLL:Hid (cl.length=T):=hid hcll;obtain ⟨kp,hkp⟩:∃ x,m.keeps lim cl=x:=⟨_,rfl⟩;rw [hkp] at hno hnew hless HKE0;have hdr:=(Ext.refl W).drew;obtain ⟨st,hst⟩:∃ x,m.Q3r lim T k=x:=⟨_,rfl⟩;rw [hst] at hbr hno hnew hless hal;have HBR:=hid hbr;have HSZ:Hid (gm + 1 + 1 + 1 + 1 <= W.heap.size):=hid (by omega)
  clear hb hv hcl hkp hst hsz hTp hcll;cases kp with
  | false =>
    have HNX:=hid (hno rfl);have HKE:=HKE0;clear hno hnew hless hbr hal hB
    gi_wp2
    refine Flow.X2k [.w,.w,.p,.w,.p,.w,.p,.p,.p,.w,.w,.w,.p,.p,.p] [0,1,2,3,4,5,6,7,8,9,10,11,12,13,14] [[],[],[],[0,1,2],[3],[4],[4,5],[4,6],[7],[7,8],[7],[7,9,10],[7,9,11],[4,7,12],[4,13]]
     [.c 0 (.agg #[.string m.name,.int .i64 m.weight,.slice X T capx,.slice Y lo capy,.slice Z li capz]),.c 1 (.int .i64 lim),.c 2 (.slice Av cl.length cv),.c 3 (.bool false),.c 4 (.bool false),.c 5 (undef),.c 6 (undef),.c 7 (undef),.c 8 (undef),.c 9 (undef),.c 10 (undef),.c 11 (undef),.c 12 (undef),.c 13 (undef),.c 14 (.bool false)]
     (by kernel_rfl) (by kernel_rfl) rfl (by kernel_rfl) ⟨?g0,?g1,?g2,?g3,?g4,?g5,?g6,?g7,?g8,?g9,?g10,?g11,?g12,?g13,?g14,trivial⟩ ?post
    case g0=>
     intro v w1 hx;intro bb hbb;intro K hK;have o1:bb.eval (.tmp 2)=.pointer (some ⟨gm,0,none⟩):=by rw [hbb]; dsimp only; (try simp (discharger:=decide) only [eval_put_ne]); rfl
     exact Q0g (.tmp 2) _ rfl Tryz.Z3z Tryz.Y2z o1 (HB0.out.ext (hdr.trans hx)) rfl (hK _ _ (Ext.refl _) rfl)
    case g1=>
     intro v w1 hx;intro bb hbb;subst hbb;have n0:w1.cell? ⟨gm + 1,0,none⟩=some (.int .i64 lim):=(HB1.out.ext (hdr.trans hx)).cell 0;intro K hK;go_simp;exact hK _ _ (Ext.refl _) rfl
    case g2=>
     intro v w1 hx;intro bb hbb;subst hbb;refine ⟨_,fun w=>?_,rfl⟩;go_simp
    case g3=>
     intro v w1 hx;(repeat intro (zq:v _=_));intro bb hbb;subst hbb;intro K hK;go_simp;refine Q0d (HKE.out w1 (hdr.trans hx)) ?_;rintro e w2 ⟨rfl,hx2⟩;exact ⟨_,rfl,hK _ _ hx2 rfl⟩
    case g4 | g14=>
     intro v w1 hx;(repeat intro (zq:v _=_));intro bb hbb;subst hbb;refine ⟨_,fun w=>?_,rfl⟩;go_simp
    case g5 | g6 | g7 | g13=>
     intro v w1 hx;(repeat intro (zq:v _=_));intro bb hbb;exact Flow.Q1h (d:=16) rfl rfl (by rw [hbb]; simp only [size_put]; exact (by decide:16 < 29)) (by rw [hbb]; dsimp only; (try simp (discharger:=decide) only [eval_put_ne]); rw [Q0a (by simp only [size_put]; exact (by decide:16 < 29))]; assumption) rfl
    case g8 | g9 | g10 | g11 | g12=>
     intro v w1 hx;(repeat intro (zq:v _=_));intro bb hbb;exact Flow.X2u (d:=19) rfl rfl (by rw [hbb]; simp only [size_put]; exact (by decide:19 < 29)) (by rw [hbb]; dsimp only; (try simp (discharger:=decide) only [eval_put_ne]); rw [Q0a (by simp only [size_put]; exact (by decide:19 < 29))]; assumption) rfl
    case post =>
     intro v w1 hx;(iterate 15 intro (zq:v _=_));simp only [Flow.All,Flow.acts,Act.put];go_simp;have HX:=hid (hdr.trans hx);clear hx hdr;(repeat clear zq)
     gi_wp2
     exact ⟨Y0g HX.out,Below.block HX.out _ (by have:=HSZ.out; omega),⟨bv,HBB.out.ext HX.out,by rw [HNX.out]; exact HBR.out.ext HX.out,Below.trans HBE.out (HX.out.mono (by have:=HSZ.out; omega))⟩⟩
  | true =>
    have HKE:=HKE0;cases st with
    | none =>
      have HNX:=hid (hnew rfl rfl);replace hbr:bv=.slice none 0 0:=hbr;subst hbr;clear hno hnew hless hal hB
      gi_wp2
      refine Flow.X2k [.w,.w,.p,.w,.p,.w,.p,.p,.p,.w,.w,.w,.p,.p,.p] [0,1,2,3,4,5,6,7,8,9,10,11,12,13,14] [[],[],[],[0,1,2],[3],[4],[4,5],[4,6],[7],[7,8],[7],[7,9,10],[7,9,11],[4,7,12],[4,13]]
       [.c 0 (.agg #[.string m.name,.int .i64 m.weight,.slice X T capx,.slice Y lo capy,.slice Z li capz]),.c 1 (.int .i64 lim),.c 2 (.slice Av cl.length cv),.c 3 (.bool true),.c 4 (.bool true),.c 5 (.slice none 0 0),.c 6 (.bool true),.c 7 (.bool true),.c 8 (undef),.c 9 (undef),.c 10 (undef),.c 11 (undef),.c 12 (undef),.c 13 (.bool true),.c 14 (.bool true)]
       (by kernel_rfl) (by kernel_rfl) rfl (by kernel_rfl) ⟨?g0,?g1,?g2,?g3,?g4,?g5,?g6,?g7,?g8,?g9,?g10,?g11,?g12,?g13,?g14,trivial⟩ ?post
      case g0=>
       intro v w1 hx;intro bb hbb;intro K hK;have o1:bb.eval (.tmp 2)=.pointer (some ⟨gm,0,none⟩):=by rw [hbb]; dsimp only; (try simp (discharger:=decide) only [eval_put_ne]); rfl
       exact Q0g (.tmp 2) _ rfl Tryz.Z3z Tryz.Y2z o1 (HB0.out.ext (hdr.trans hx)) rfl (hK _ _ (Ext.refl _) rfl)
      case g1=>
       intro v w1 hx;intro bb hbb;subst hbb;have n0:w1.cell? ⟨gm + 1,0,none⟩=some (.int .i64 lim):=(HB1.out.ext (hdr.trans hx)).cell 0;intro K hK;go_simp;exact hK _ _ (Ext.refl _) rfl
      case g2=>
       intro v w1 hx;intro bb hbb;subst hbb;refine ⟨_,fun w=>?_,rfl⟩;go_simp
      case g3=>
       intro v w1 hx;(repeat intro (zq:v _=_));intro bb hbb;subst hbb;intro K hK;go_simp;refine Q0d (HKE.out w1 (hdr.trans hx)) ?_;rintro e w2 ⟨rfl,hx2⟩;exact ⟨_,rfl,hK _ _ hx2 rfl⟩
      case g4 | g14=>
       intro v w1 hx;(repeat intro (zq:v _=_));intro bb hbb;subst hbb;refine ⟨_,fun w=>?_,rfl⟩;go_simp
      case g5=>
       intro v w1 hx;(repeat intro (zq:v _=_));intro bb hbb;refine Flow.Q0o (d:=16) rfl rfl (by rw [hbb]; simp only [size_put]; exact (by decide:16 < 29)) (by rw [hbb]; dsimp only; (try simp (discharger:=decide) only [eval_put_ne]); rw [Q0a (by simp only [size_put]; exact (by decide:16 < 29))]; assumption) ?_
       subst hbb;have n0:w1.cell? ⟨gm + 1 + 1,0,none⟩=some (.slice none 0 0):=(HBB.out.ext (hdr.trans hx)).cell 0;intro K hK;go_simp;exact hK _ _ (Ext.refl _) rfl
      case g6 | g7 | g13=>
       intro v w1 hx;(repeat intro (zq:v _=_));intro bb hbb;refine Flow.Q0o (d:=16) rfl rfl (by rw [hbb]; simp only [size_put]; exact (by decide:16 < 29)) (by rw [hbb]; dsimp only; (try simp (discharger:=decide) only [eval_put_ne]); rw [Q0a (by simp only [size_put]; exact (by decide:16 < 29))]; assumption) ?_
       subst hbb;refine ⟨_,fun w=>?_,rfl⟩;go_simp
      case g8 | g9 | g10 | g11 | g12=>
       intro v w1 hx;(repeat intro (zq:v _=_));intro bb hbb;exact Flow.Q1h (d:=19) rfl rfl (by rw [hbb]; simp only [size_put]; exact (by decide:19 < 29)) (by rw [hbb]; dsimp only; (try simp (discharger:=decide) only [eval_put_ne]); rw [Q0a (by simp only [size_put]; exact (by decide:19 < 29))]; assumption) rfl
      case post =>
       intro v w1 hx;(iterate 15 intro (zq:v _=_));simp only [Flow.All,Flow.acts,Act.put];go_simp;have HX:=hid (hdr.trans hx);have hbx:=HBB.out.ext HX.out;have g3:w1.cell? ⟨gm + 1 + 1,0,none⟩=some (.slice none 0 0):=hbx.cell 0;have gf:=hbx.frozen 0;have HBX:=hid hbx;clear hx hdr hbx;(repeat clear zq)
       gi_wp2
       exact ⟨(Y0g HX.out).trans (KeepsOthers.setCell _ _ _),(Q3h _ _ _ _ (by show gm + 1 + 1 + 1 ≠ gm + 1 + 1; omega)).trans (Below.block HX.out _ (by have:=HSZ.out; omega)),
        ⟨.slice Av cl.length cv,HBX.out.set 0 _,by rw [HNX.out]; exact Z2l (HOV.out.below HX.out) HBX.out (by decide),(Below.trans HBE.out (HX.out.mono (by have:=HSZ.out; omega))).setCell (p:=⟨gm + 1 + 1,0,none⟩) (Nat.le_refl _) _⟩⟩
    | some b =>
      obtain ⟨q,hq⟩:∃ q,decide (countB cl < countB b)=q:=⟨_,rfl⟩;have HNX:=hid (hless b rfl rfl q hq);have HQ:=hid hq;have hbl:=hal b rfl;obtain ⟨Ab,cb,rfl,-⟩:=(show Q0m W 0 4 .bool bv b from hbr).shape
      have HCB:=hid (fun (w1:World) (hx:Ext W w1)=>Q6k w1 _ b ((Q0m.bools (show Q0m W 0 4 .bool _ b from hbr) (by omega)).ext hx))
      obtain ⟨ab,hab⟩:∃ a,Ab=some a:=by
       rcases (show Q0m W 0 4 .bool _ b from hbr).2 with ⟨_,h0⟩ | ⟨g,cap,cur,he,_⟩
       . omega
       . cases he; exact ⟨_,rfl⟩
      subst hab;clear hno hnew hless hal hB hbr hq hbl
      gi_wp2
      refine Flow.X2k [.w,.w,.p,.w,.p,.w,.p,.p,.p,.w,.w,.w,.p,.p,.p] [0,1,2,3,4,5,6,7,8,9,10,11,12,13,14] [[],[],[],[0,1,2],[3],[4],[4,5],[4,6],[7],[7,8],[7],[7,9,10],[7,9,11],[4,7,12],[4,13]]
       [.c 0 (.agg #[.string m.name,.int .i64 m.weight,.slice X T capx,.slice Y lo capy,.slice Z li capz]),.c 1 (.int .i64 lim),.c 2 (.slice Av cl.length cv),.c 3 (.bool true),.c 4 (.bool true),.c 5 (.slice (some ab) b.length cb),.c 6 (.bool false),.c 7 (.bool false),.c 8 (.slice Av cl.length cv),.c 9 (.int .i64 (countB cl)),.c 10 (.slice (some ab) b.length cb),.c 11 (.int .i64 (countB b)),.c 12 (.bool (decide (countB cl < countB b))),.c 13 (.bool (decide (countB cl < countB b))),.c 14 (.bool (decide (countB cl < countB b)))]
       (by kernel_rfl) (by kernel_rfl) rfl (by kernel_rfl) ⟨?g0,?g1,?g2,?g3,?g4,?g5,?g6,?g7,?g8,?g9,?g10,?g11,?g12,?g13,?g14,trivial⟩ ?post
      case g0=>
       intro v w1 hx;intro bb hbb;intro K hK;have o1:bb.eval (.tmp 2)=.pointer (some ⟨gm,0,none⟩):=by rw [hbb]; dsimp only; (try simp (discharger:=decide) only [eval_put_ne]); rfl
       exact Q0g (.tmp 2) _ rfl Tryz.Z3z Tryz.Y2z o1 (HB0.out.ext (hdr.trans hx)) rfl (hK _ _ (Ext.refl _) rfl)
      case g1=>
       intro v w1 hx;intro bb hbb;subst hbb;have n0:w1.cell? ⟨gm + 1,0,none⟩=some (.int .i64 lim):=(HB1.out.ext (hdr.trans hx)).cell 0;intro K hK;go_simp;exact hK _ _ (Ext.refl _) rfl
      case g2=>
       intro v w1 hx;intro bb hbb;subst hbb;refine ⟨_,fun w=>?_,rfl⟩;go_simp
      case g3=>
       intro v w1 hx;(repeat intro (zq:v _=_));intro bb hbb;subst hbb;intro K hK;go_simp;refine Q0d (HKE.out w1 (hdr.trans hx)) ?_;rintro e w2 ⟨rfl,hx2⟩;exact ⟨_,rfl,hK _ _ hx2 rfl⟩
      case g4 | g14=>
       intro v w1 hx;(repeat intro (zq:v _=_));intro bb hbb;subst hbb;refine ⟨_,fun w=>?_,rfl⟩;go_simp
      case g5=>
       intro v w1 hx;(repeat intro (zq:v _=_));intro bb hbb;refine Flow.Q0o (d:=16) rfl rfl (by rw [hbb]; simp only [size_put]; exact (by decide:16 < 29)) (by rw [hbb]; dsimp only; (try simp (discharger:=decide) only [eval_put_ne]); rw [Q0a (by simp only [size_put]; exact (by decide:16 < 29))]; assumption) ?_
       subst hbb;have n0:w1.cell? ⟨gm + 1 + 1,0,none⟩=some (.slice (some ab) b.length cb):=(HBB.out.ext (hdr.trans hx)).cell 0;intro K hK;go_simp;exact hK _ _ (Ext.refl _) rfl
      case g6 | g7 | g13=>
       intro v w1 hx;(repeat intro (zq:v _=_));intro bb hbb;refine Flow.Q0o (d:=16) rfl rfl (by rw [hbb]; simp only [size_put]; exact (by decide:16 < 29)) (by rw [hbb]; dsimp only; (try simp (discharger:=decide) only [eval_put_ne]); rw [Q0a (by simp only [size_put]; exact (by decide:16 < 29))]; assumption) ?_
       subst hbb;refine ⟨_,fun w=>?_,rfl⟩;go_simp
      case g8 | g12=>
       intro v w1 hx;(repeat intro (zq:v _=_));intro bb hbb;refine Flow.Q0o (d:=19) rfl rfl (by rw [hbb]; simp only [size_put]; exact (by decide:19 < 29)) (by rw [hbb]; dsimp only; (try simp (discharger:=decide) only [eval_put_ne]); rw [Q0a (by simp only [size_put]; exact (by decide:19 < 29))]; assumption) ?_
       subst hbb;refine ⟨_,fun w=>?_,rfl⟩;go_simp
      case g9=>
       intro v w1 hx;(repeat intro (zq:v _=_));intro bb hbb;refine Flow.Q0o (d:=19) rfl rfl (by rw [hbb]; simp only [size_put]; exact (by decide:19 < 29)) (by rw [hbb]; dsimp only; (try simp (discharger:=decide) only [eval_put_ne]); rw [Q0a (by simp only [size_put]; exact (by decide:19 < 29))]; assumption) ?_
       subst hbb;intro K hK;go_simp;refine Q0d (HCO.out w1 (hdr.trans hx)) ?_;rintro e w2 ⟨rfl,hx2⟩;exact ⟨_,rfl,hK _ _ hx2 rfl⟩
      case g10=>
       intro v w1 hx;(repeat intro (zq:v _=_));intro bb hbb;refine Flow.Q0o (d:=19) rfl rfl (by rw [hbb]; simp only [size_put]; exact (by decide:19 < 29)) (by rw [hbb]; dsimp only; (try simp (discharger:=decide) only [eval_put_ne]); rw [Q0a (by simp only [size_put]; exact (by decide:19 < 29))]; assumption) ?_
       subst hbb;have n0:w1.cell? ⟨gm + 1 + 1,0,none⟩=some (.slice (some ab) b.length cb):=(HBB.out.ext (hdr.trans hx)).cell 0;intro K hK;go_simp;exact hK _ _ (Ext.refl _) rfl
      case g11=>
       intro v w1 hx;(repeat intro (zq:v _=_));intro bb hbb;refine Flow.Q0o (d:=19) rfl rfl (by rw [hbb]; simp only [size_put]; exact (by decide:19 < 29)) (by rw [hbb]; dsimp only; (try simp (discharger:=decide) only [eval_put_ne]); rw [Q0a (by simp only [size_put]; exact (by decide:19 < 29))]; assumption) ?_
       subst hbb;intro K hK;go_simp;refine Q0d (HCB.out w1 (hdr.trans hx)) ?_;rintro e w2 ⟨rfl,hx2⟩;exact ⟨_,rfl,hK _ _ hx2 rfl⟩
      case post =>
       intro v w1 hx (q0:v 0=_) (q1:v 1=_) (q2:v 2=_) (q3:v 3=_) (q4:v 4=_) (q5:v 5=_) (q6:v 6=_) (q7:v 7=_) (q8:v 8=_) (q9:v 9=_) (q10:v 10=_) (q11:v 11=_) (q12:v 12=_) (q13:v 13=_) (q14:v 14=_);simp only [Flow.All,Flow.acts,Act.put];go_simp;rw [HQ.out];cases q with
       | false =>
         have HX:=hid (hdr.trans hx);clear hx hdr q0 q1 q2 q3 q4 q5 q6 q7 q8 q9 q10 q11 q12 q13 q14
         gi_wp2
         exact ⟨Y0g HX.out,Below.block HX.out _ (by have:=HSZ.out; omega),⟨(.slice (some ab) b.length cb),HBB.out.ext HX.out,by rw [HNX.out]; exact HBR.out.ext HX.out,Below.trans HBE.out (HX.out.mono (by have:=HSZ.out; omega))⟩⟩
       | true =>
         have HX:=hid (hdr.trans hx);have hbx:=HBB.out.ext HX.out;have g3:w1.cell? ⟨gm + 1 + 1,0,none⟩=some (.slice (some ab) b.length cb):=hbx.cell 0;have gf:=hbx.frozen 0;have HBX:=hid hbx;clear hx hdr hbx q0 q1 q2 q3 q4 q5 q6 q7 q8 q9 q10 q11 q12 q13 q14
         gi_wp2
         exact ⟨(Y0g HX.out).trans (KeepsOthers.setCell _ _ _),(Q3h _ _ _ _ (by show gm + 1 + 1 + 1 ≠ gm + 1 + 1; omega)).trans (Below.block HX.out _ (by have:=HSZ.out; omega)),
          ⟨.slice Av cl.length cv,HBX.out.set 0 _,by rw [HNX.out]; exact Z2l (HOV.out.below HX.out) HBX.out (by decide),(Below.trans HBE.out (HX.out.mono (by have:=HSZ.out; omega))).setCell (p:=⟨gm + 1 + 1,0,none⟩) (Nat.le_refl _) _⟩⟩
end Go.Proofs
namespace Go.Tw
open Go.RowKit Go.Flow
section
variable {α:Type} {enc:α -> List Value} {k:Nat}
def Q3m (cs:Array Value) (o:Nat):List Value -> Array Value
 | []=>cs
 | v :: vs=>Q3m (cs.setIfInBounds o v) (o + 1) vs
theorem X2q (o:Nat):∀ (vs:List Value) (cs:Array Value) ,(Q3m cs o vs).size=cs.size:=by
 intro vs
 induction vs generalizing o with
 | nil=>intro cs; rfl
 | cons v vs ih=>intro cs; rw [Q3m,ih]; simp
theorem Q5u:∀ (vs:List Value) (o:Nat) (cs:Array Value) (j:Nat),o + vs.length <= cs.size -> (Q3m cs o vs)[j]?=if o <= j /\ j < o + vs.length then vs[j - o]? else cs[j]?
 | [],o,cs,j,_=>by rw [Q3m,if_neg (by simp only [List.length_nil]; omega)]
 | v :: vs,o,cs,j,h=>by
   rw [List.length_cons] at h;rw [Q3m,Q5u vs (o + 1) _ j (by simp; omega)]
   by_cases h1:o + 1 <= j /\ j < o + 1 + vs.length
   . rw [if_pos h1,if_pos (by rw [List.length_cons]; omega),show j - o=(j - (o + 1)) + 1 from by omega]; rfl
   . rw [if_neg h1]
     by_cases h2:j=o
     . subst h2
       rw [if_pos (by rw [List.length_cons]; omega),Nat.sub_self]
       rw [Array.getElem?_setIfInBounds];rw [if_pos rfl,if_pos (by omega)]; rfl
     . rw [if_neg (by rw [List.length_cons]; omega),Array.getElem?_setIfInBounds,if_neg (fun e=>h2 e.symm)]
theorem Q8b {P:Program} {g off:Nat} {T:TypeId}:∀ (vs:List Value) (i:Nat) (w:World) (cs:Array Value),Blk w g T cs -> (∀ u ∈ vs,u.oneCell'=true) -> off + i + vs.length <= cs.size ->
    ∃ w',(storeCells ⟨g,off,none⟩ vs i).run P w=.ok () w' /\ Blk w' g T (Q3m cs (off + i) vs) /\ (∀ n,n <= g -> Below n w w') /\ ∀ k,k ≠ g -> w'.heap[k]?=w.heap[k]?
 | [],i,w,cs,h,_,hi=>⟨w,by simp [storeCells],h,fun _ _=>Below.refl _ _,fun _ _=>rfl⟩
 | v :: vs,i,w,cs,h,h1,hi=>by
   rw [List.length_cons] at hi;have hlt:off + i < cs.size:=by omega
   have h0:=h.cell (off + i);rw [Array.getElem?_eq_getElem hlt] at h0;have ea:(⟨g,off,none⟩:Addr).add i=⟨g,off + i,none⟩:=by rw [addr_add]
   obtain ⟨w',hr,hb,hl,ho⟩:=Q8b (P:=P) (off:=off) vs (i + 1) (w.setCell ⟨g,off + i,none⟩ v) (cs.setIfInBounds (off + i) v) (h.set _ v) (fun u hu=>h1 u (List.mem_cons_of_mem _ hu)) (by rw [Array.size_setIfInBounds]; omega)
   refine ⟨w',?_,?_,fun n hn=>Below.trans ((Below.refl n w).setCell (p:=⟨g,off + i,none⟩) hn v) (hl n hn),fun k hk=>(ho k hk).trans (Below.heap_setCell _ _ _ _ hk)⟩
   . rw [storeCells,ea]
     simp only [Sem.run_bind,run_store P w _ v _ (h1 v (List.mem_cons_self ..)),h0,h.frozen (off + i),Bool.false_eq_true,if_false,Result.andThen_ok];exact hr
   . rw [Q3m]; exact hb
theorem X7k {P:Program} {K:Value -> World -> Prop} {o:Oper} {a:Act} {w:World} (p x:Operand) (T:TypeId) (ho:o.op=.store T p x)
    {n:Nat} (hS:∀ w,(sizeOf T).run P w=.ok n w) {g off:Nat} (hp:a.eval p=.pointer (some ⟨g,off,none⟩)) {BT:TypeId} {cs vs:Array Value} (hx:a.eval x=.agg vs) (hb:Blk w g BT cs) (hn:off + n <= cs.size) (hv:vs.size=n) (h1:∀ u ∈ vs.toList,u.oneCell'=true)
    (h:∀ v w',Blk w' g BT (Q3m cs off vs.toList) -> (∀ n,n <= g -> Below n w w') -> (∀ k,k ≠ g -> w'.heap[k]?=w.heap[k]?) -> K v w'):gives P K ((execOp a.eval o).run P w):=by
 obtain ⟨w',hr,hb',hl,hoo⟩:=Q8b (P:=P) (off:=off) vs.toList 0 w cs hb h1 (by simp [hv]; omega)
 have hs:(storeVar T ⟨g,off,none⟩ (.agg vs)).run P w=.ok () w':=by
  have hc:(Value.agg vs).cells=vs:=rfl;unfold storeVar;simp only [Sem.run_bind,hS,Result.andThen_ok];rw [if_neg (by rw [hc]; simp [hv])]
  exact hr
 have hr2:(execOp a.eval o).run P w=.ok .skip w':=by
  unfold execOp;simp only [ho,hp,hx,Instr.storeAt,Instr.sureAddr,Sem.run_bind,Sem.run_pure,Result.andThen_ok,hs]
 rw [hr2];exact h _ _ hb' hl hoo
end
end Go.Tw
