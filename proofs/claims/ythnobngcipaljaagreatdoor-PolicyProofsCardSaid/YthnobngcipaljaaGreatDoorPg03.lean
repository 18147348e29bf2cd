/- Part of a proof. -/
import Derived.Test.YthnobngcipaljaaGreatDoorPg02
import Derived.Deep.DeepCutAuto
import Derived.RangeFuncNested
import Derived.RangeFuncBound
import Derived.RangeFuncLeaves
import Derived.RangeFuncFrom
import Derived.Shelf.RegionOpen
import Derived.OwnWalkIn
import Derived.TacticsInMore
import Derived.LoopNIn
import Derived.LoopIn
import Derived.Maps.OwnSet
import Derived.MapKept
import Derived.Laws.BytesArg
set_option maxRecDepth 1000000
set_option maxHeartbeats 64000000
set_option linter.unusedVariables false
set_option linter.unusedSimpArgs false
set_option linter.constructorNameAsVariable false
open Go.Lib (hid)
namespace Go.Tw
variable {s:Q0b}
theorem X1m (n t:Nat):(Q5l n t).length=t:=by simp [Q5l]
end Go.Tw
namespace Go.Proofs
open Go.RowKit Go.Tw Go.Flow Tryz
theorem Y4d (m:Mem) (l:List Bool) {k:Nat} (hk:k < l.length) (lv:Int):m.Q2r k lv (l.drop k)=(m.stepT k lv (bx l k)).1 :: m.Q2r (k + 1) (m.stepT k lv (bx l k)).2 (l.drop (k + 1)):=by
 rw [Y7g hk]; rfl
theorem X4g (m:Mem):∀ (l:List Bool) (t:Nat) (lv:Int),(m.Q2r t lv l).length=l.length
 | [],_,_=>rfl
 | _ :: l,t,lv=>by
   unfold Mem.Q2r;rw [List.length_cons,List.length_cons,X4g m l]
theorem J1f (m:Mem) (l:List Bool):(m.Q7b l).length=l.length:=X4g m l 0 0
theorem Y1x (w:World) (v u:Value) (s:Q0b) (i:Nat) (l:List Bool) (hv:Q0g w v s) (yz:i < s.members.length) (hu:Q1f w u l) (Pj:l.length <= 9) (Lx:l.length <= (Q2a s i).outside.length) (yx:l.length <= (Q2a s i).inflow.length)
    (hb:∀ x ∈ (Q2a s i).inflow,0 <= x /\ x <= 1024) :
    Calls prog 51 #[v,.int .i64 (i:Int),u] w fun e w'=>∃ x,e=.returned x /\ Q0e w' x ((Q2a s i).Q7b l) /\ Ext w w':=by
 obtain ⟨i0,hi,fq,mq,iq⟩:=info_parts info3;obtain ⟨a,b,rfl,h2⟩:=hv;obtain ⟨A,Uq,rfl,Ov,-,-⟩:=h2.ships.opened;obtain ⟨B,Wq,rfl,Nv,-,hc⟩:=h2.members.opened;obtain ⟨bm,off,x,y,z,rfl,Wv,e0,e1,e2,e3,e4,hx,hy,hz,-⟩:=hc i yz;have eY:Q0z s.members i=(Q2a s i).outside:=rfl;have eZ:Q1g s.members i=(Q2a s i).inflow:=rfl;rw [eY] at hy;rw [eZ] at hz;obtain ⟨X,Rq,rfl,-,-,-⟩:=hx.opened;obtain ⟨Y,Jq,rfl,-,-,MX⟩:=hy.opened;obtain ⟨Z,Bq,rfl,-,-,LX⟩:=hz.opened;obtain ⟨U,Rg,rfl,-,-,GZ⟩:=hu.opened;have J1:(i:Int) < s.members.length:=by omega
 obtain ⟨m,hm⟩:∃ x,Q2a s i=x:=⟨_,rfl⟩;rw [hm] at Lx yx hb MX LX hy hz e3 e4 ⊢;have Tl:=hid MX;have Sl:=hid LX;have dg:=hid GZ;have W9:Hid (∀ k,k < m.inflow.length -> 0 <= ix m.inflow k /\ ix m.inflow k <= 1024):=hid (fun k hk=>by rw [Q5i hk]; exact hb _ (List.getElem_mem hk))
 obtain ⟨nm,vj⟩:∃ x,Q1t s.members i=x:=⟨_,rfl⟩;obtain ⟨wt,Vj⟩:∃ x,Q0o s.members i=x:=⟨_,rfl⟩;obtain ⟨lc,mj⟩:∃ x,(Q0c s.members i).length=x:=⟨_,rfl⟩;rw [vj] at e0;rw [Vj] at e1;rw [mj] at e2;clear hc hx hy hz MX LX GZ hu h2 hm hb vj Vj mj eY eZ;go_enter func51,ntmps51;go_wp2_with fail;change Code.wp _ _ _ _ ((w.alloc (.cells #[.int .i64 s.limit,.slice A s.ships.length Uq,.slice (some ⟨bm,off,none⟩) s.members.length Wq] 25)).alloc (.cells #[.string nm,.int .i64 wt,.slice X lc Rq,.slice Y m.outside.length Jq,.slice Z m.inflow.length Bq] 68));obtain ⟨W,Nq,k0,k1,Sq,eW⟩:=Q3p w 25 #[.int .i64 s.limit,.slice A s.ships.length Uq,.slice (some ⟨bm,off,none⟩) s.members.length Wq] 68 #[.string nm,.int .i64 wt,.slice X lc Rq,.slice Y m.outside.length Jq,.slice Z m.inflow.length Bq];rw [Nq];clear Nq;have K1:=hid k1;clear k0 k1 e0 e1 e2 e3 e4 eW
 go_loopw [8,9,10] (fun lv o t wr=>∃ (k:Nat) (n:Int) (pk:List Int),k <= l.length /\ t=.int .i64 k /\ lv=.int .i64 n /\ (0 <= n /\ n <= 1024 * k) /\ pk.length=k /\ pk ++ m.Q2r k n (l.drop k)=m.Q7b l /\ Q0n wr W.heap.size 3 (.int .i64) o pk /\ Ext W wr) (fun _ _ t _=>l.length - (intOf t).toNat)
 case atStart=>exact ⟨0,0,[],Nat.zero_le _,rfl,rfl,⟨Int.le_refl _,by omega⟩,rfl,rfl,Q0n.nil _ _ _ _,Ext.refl _⟩
 case round =>
  obtain ⟨k,n,pk,hk,rfl,rfl,⟨JX,Yv⟩,Wx,hr,Yq,hx⟩:=hrel;have HR:=hid hr;clear hr
  by_cases Tq:k < l.length
  . obtain ⟨bu,ou,hU,_,rk⟩:=dg.out k Tq
    obtain ⟨by',oy,hY,GX⟩:=Tl.out k (by omega)
    obtain ⟨bz,oz,hZ,DQ⟩:=Sl.out k (by omega)
    subst hU hY hZ;have Pz:=W9.out k (by omega)
    have yj:=Y4d m l Tq n;replace rk:=(Sq.out.trans hx).cell rk;replace GX:=(Sq.out.trans hx).cell GX;replace DQ:=(Sq.out.trans hx).cell DQ;have k1:=K1.out.ext hx;have c3:=k1.cell 3;have c4:=k1.cell 4;simp only [Go.Tw.gA,Go.Tw.gB,Go.Tw.gC] at c3 c4;have Lj:(k:Int) < l.length:=by omega
    have qp:(k:Int) < m.outside.length:=by omega
    have pp:(k:Int) < m.inflow.length:=by omega
    clear k1;cases hq:bx l k with
    | true =>
      rw [hq] at rk yj;obtain ⟨x,ag⟩:∃ x,ix m.inflow k=x:=⟨_,rfl⟩;have b4:m.Q2r k n (l.drop k)=(n + x) :: m.Q2r (k + 1) (n + x) (l.drop (k + 1)):=by rw [yj,<- ag]; rfl
      rw [ag] at DQ Pz;have jy:IntKind.i64.wrap (n + x)=n + x:=Q3b _ (by omega) (by omega)
      have HS:=hid b4;have E3:Hid (0 <= n + x /\ n + x <= 1024 * ((k + 1:Nat):Int)):=hid (by omega)
      clear hq yj b4 ag
      go_light
      go_wp2_with (at_builtin; refine wpList_append_own _ rfl _ _ 22 rfl (W.heap.size) 3 i0 (.int .i64 0) 1 8 underlying22 hi fq mq iq rfl (by decide) _ _ _ rfl (World.ownsRow.alloc Yq _) ⟨wr.heap.size,0,none⟩ 1 1 [.int .i64 (n + x)] rfl rfl ?_ ?_ ?_ ?_ ?_ ?_; exact Q4d _ _ _; (focus (simp [Value.oneCell'])); (focus (unfold maxLen; omega)); (focus omega); (focus (have:=hx.size; simp at this ⊢; omega)); intro v' w1 Oq Pq _)
      have Mq:=Q2d hx Yq (Nat.le_refl _) Pq;go_roundw
      case rel=>exact ⟨k + 1,n + x,pk ++ [n + x],by omega,by go_num,rfl,E3.out,by simp [Wx],by rw [<- HR.out,HS.out]; simp,Q0n.snoc Oq,Mq⟩
      case measure=>simp [intOf]; omega
    | false =>
      rw [hq] at rk yj;obtain ⟨x,ag⟩:∃ x,ix m.outside k=x:=⟨_,rfl⟩;have b4:m.Q2r k n (l.drop k)=x :: m.Q2r (k + 1) 0 (l.drop (k + 1)):=by rw [yj,<- ag]; rfl
      rw [ag] at GX;have HS:=hid b4;clear hq yj b4 ag Pz
      go_light
      go_wp2_with (at_builtin; refine wpList_append_own _ rfl _ _ 22 rfl (W.heap.size) 3 i0 (.int .i64 0) 1 8 underlying22 hi fq mq iq rfl (by decide) _ _ _ rfl (World.ownsRow.alloc Yq _) ⟨wr.heap.size,0,none⟩ 1 1 [.int .i64 x] rfl rfl ?_ ?_ ?_ ?_ ?_ ?_; exact Q4d _ _ _; (focus (simp [Value.oneCell'])); (focus (unfold maxLen; omega)); (focus omega); (focus (have:=hx.size; simp at this ⊢; omega)); intro v' w1 Oq Pq _)
      have Mq:=Q2d hx Yq (Nat.le_refl _) Pq;go_roundw
      case rel=>exact ⟨k + 1,0,pk ++ [x],by omega,by go_num,rfl,⟨Int.le_refl _,by omega⟩,by simp [Wx],by rw [<- HR.out,HS.out]; simp,Q0n.snoc Oq,Mq⟩
      case measure=>simp [intOf]; omega
  . have Lj:¬ (k:Int) < l.length:=by omega
    have HF:Hid (pk=m.Q7b l):=hid (by rw [<- HR.out,List.drop_eq_nil_of_le (by omega)]; simp [Mem.Q2r])
    go_wp2;go_ret;exact ⟨_,rfl,by rw [<- HF.out]; exact Yq.ints (by omega),Sq.out.trans hx⟩
theorem Z3t (w:World) (v:Value) (l:List Int) (g:Nat) (c:Value) (p:Int -> Bool) (hv:Q0e w v l) (eg:∀ args w,(callFunc g args).run prog w=.ok (.enter g args) w)
    (hp:∀ W x,Ext w W -> x ∈ l -> Calls prog g #[.int .i64 x,c] W fun e W'=>e=.returned (.bool (p x)) /\ Ext W W') :
    Calls prog 176 #[v,.func (.func g) #[] #[c]] w fun e w'=>∃ r:Int,e=.returned (.int .i64 r) /\ decide (0 <= r)=l.any p /\ Ext w w':=by
 obtain ⟨A,Qq,rfl,hl,Kq,hc⟩:=hv.opened;have HP:=hid hp;have HC:=hid hc;clear hv hp hc;go_enter func176,ntmps176;go_wp2
 go_loopw [8] (fun i wr=>∃ k:Nat,k <= l.length /\ i=.int .i64 k /\ (l.drop k).any p=l.any p /\ Ext w wr) (fun i _=>l.length - (intOf i).toNat)
 case atStart=>exact ⟨0,Nat.zero_le _,rfl,rfl,Ext.refl _⟩
 case round =>
  obtain ⟨k,hk,rfl,hr,hx⟩:=hrel;have HR:=hid hr; clear hr
  by_cases Tq:k < l.length
  . obtain ⟨b,off,rfl,Xq⟩:=HC.out k Tq
    replace Xq:=hx.cell Xq;have tq:ix l k ∈ l:=by rw [Q5i Tq]; exact List.getElem_mem Tq
    have hd:=Q2v Tq;have qq:Hid (l.any p=(p (ix l k) || (l.drop (k + 1)).any p)):=hid (by rw [<- HR.out,hd,List.any_cons])
    obtain ⟨y,hy⟩:∃ y,ix l k=y:=⟨_,rfl⟩;have ov:=hid (HP.out wr (ix l k) hx tq);rw [hy] at ov Xq qq;obtain ⟨q,hq⟩:∃ q,p y=q:=⟨_,rfl⟩;rw [hq] at ov qq;clear hq hy hd tq;cases q with
    | true =>
      go_wp2_with (refine ov.out.mono ?_; rintro e w9 ⟨rfl,kx⟩);go_ret;exact ⟨k,rfl,by rw [qq.out]; simp,hx.trans kx⟩
    | false =>
      go_wp2_with (refine ov.out.mono ?_; rintro e w9 ⟨rfl,kx⟩);go_roundw
      case rel=>exact ⟨k + 1,by omega,by go_num,by rw [qq.out,Bool.false_or],hx.trans kx⟩
      case measure=>simp [intOf]; omega
  . go_wp2
    go_ret;exact ⟨-1,rfl,by rw [<- HR.out,List.drop_eq_nil_of_le (by omega)]; rfl,hx⟩
theorem X2k (w:World) (v:Value) (l:List Int) (g:Nat) (c:Value) (p:Int -> Bool) (hv:Q0e w v l) (eg:∀ args w,(callFunc g args).run prog w=.ok (.enter g args) w)
    (hp:∀ W x,Ext w W -> x ∈ l -> Calls prog g #[.int .i64 x,c] W fun e W'=>e=.returned (.bool (p x)) /\ Ext W W') :
    Calls prog 138 #[v,.func (.func g) #[] #[c]] w fun e w'=>e=.returned (.bool (l.any p)) /\ Ext w w':=by
 have HI:=hid (Z3t w v l g c p hv eg hp);obtain ⟨A,Qq,rfl,hl,Kq,hc⟩:=hv.opened;obtain ⟨q,hq⟩:∃ q,l.any p=q:=⟨_,rfl⟩;rw [hq] at HI ⊢;clear hv hc hp hq;go_enter func138,ntmps138;go_wp2_with (go_at_call 176; refine HI.out.mono ?_; rintro e w' ⟨r,rfl,hr,hx⟩; have HR:=hid hr; clear hr);go_ret;exact ⟨Q0x HR.out,hx⟩
def X3u (w:World) (v:Value) (m:Mem):Prop:=∃ x y z,v=.agg #[.string m.name,.int .i64 m.weight,x,y,z] /\ Q0e w x m.classes /\ Q0e w y m.outside /\ Q0e w z m.inflow
theorem X3u.ext {w w':World} {v:Value} {m:Mem} (h:X3u w v m) (hx:Ext w w'):X3u w' v m:=let ⟨x,y,z,e,h1,h2,h3⟩:=h; ⟨x,y,z,e,h1.ext hx,h2.ext hx,h3.ext hx⟩
structure OkM (m:Mem) (n:Nat):Prop where
 out:n <= m.outside.length
 inf:n <= m.inflow.length
 bd:∀ k,k < m.inflow.length -> 0 <= ix m.inflow k /\ ix m.inflow k <= 1024
theorem Y9t (w:World) (v:Value) (m:Mem) (t:Nat) (n:Int) (c:Bool) (hv:X3u w v m) (ho:t < m.outside.length) (hi:t < m.inflow.length) (hn:0 <= n /\ n <= 100000) (hb:0 <= ix m.inflow t /\ ix m.inflow t <= 1024) :
    Calls prog 173 #[v,.int .i64 (t:Int),.int .i64 n,.bool c] w fun e w'=>e=.returned (.tuple #[.int .i64 (m.stepT t n c).1,.int .i64 (m.stepT t n c).2]) /\ Ext w w':=by
 obtain ⟨x,y,z,rfl,hx,hy,hz⟩:=hv;obtain ⟨X,Rq,rfl,-,-,-⟩:=hx.opened;obtain ⟨Y,Jq,rfl,-,-,MX⟩:=hy.opened;obtain ⟨Z,Bq,rfl,-,-,LX⟩:=hz.opened;obtain ⟨by',oy,rfl,GX⟩:=MX t ho
 obtain ⟨bz,oz,rfl,DQ⟩:=LX t hi;have yq:=Ext.box w (.cells #[.string m.name,.int .i64 m.weight,.slice X m.classes.length Rq,.slice (some ⟨by',oy,none⟩) m.outside.length Jq,.slice (some ⟨bz,oz,none⟩) m.inflow.length Bq] 69)
 have K0:=Blk.made w 69 #[.string m.name,.int .i64 m.weight,.slice X m.classes.length Rq,.slice (some ⟨by',oy,none⟩) m.outside.length Jq,.slice (some ⟨bz,oz,none⟩) m.inflow.length Bq]
 have c0:=(K0).cell 0;have c1:=(K0).cell 1;have c2:=(K0).cell 2;have c3:=(K0).cell 3;have c4:=(K0).cell 4;simp only [Go.Tw.gA,Go.Tw.gB,Go.Tw.gC] at c0 c1 c2 c3 c4;replace GX:=yq.cell GX;replace DQ:=yq.cell DQ;have np:(t:Int) < m.outside.length:=by omega
 have MG:(t:Int) < m.inflow.length:=by omega
 clear hx hy hz MX LX K0;cases c with
 | true =>
   have HS:Hid (m.stepT t n true=(n + ix m.inflow t,n + ix m.inflow t)):=hid rfl;have jy:IntKind.i64.wrap (n + ix m.inflow t)=n + ix m.inflow t:=Q3b _ (by omega) (by omega)
   rw [HS.out];obtain ⟨d,hd⟩:∃ d,ix m.inflow t=d:=⟨_,rfl⟩;rw [hd] at DQ jy ⊢;clear hd hb;go_enter func173,ntmps173;go_wp2;go_ret2;exact ⟨rfl,yq⟩
 | false =>
   have HS:Hid (m.stepT t n false=(ix m.outside t,0)):=hid rfl;rw [HS.out];clear hb;go_enter func173,ntmps173;go_wp2;go_ret2;exact ⟨rfl,yq⟩
theorem Z5m {m:Mem} {t:Nat} {n:Int} {c:Bool} {k:Nat} (hn:0 <= n /\ n <= 1024 * k) (hb:0 <= ix m.inflow t /\ ix m.inflow t <= 1024):0 <= (m.stepT t n c).2 /\ (m.stepT t n c).2 <= 1024 * ((k + 1:Nat):Int):=by
 unfold Mem.stepT;cases c with
 | true=>simp only [if_true]; omega
 | false=>simp only [Bool.false_eq_true,if_false]; omega
theorem Y4i (w:World) (v u:Value) (m:Mem) (l:List Bool) (hv:X3u w v m) (hu:Q1f w u l) (Pj:l.length <= 9) (hm:OkM m l.length) :
    Calls prog 127 #[v,u] w fun e w'=>∃ x,e=.returned x /\ Q0e w' x (m.Q7b l) /\ Ext w w':=by
 obtain ⟨i0,hi,fq,mq,iq⟩:=info_parts info3;have HV:=hid hv;obtain ⟨x,y,z,rfl,hx,hy,hz⟩:=hv;obtain ⟨X,Rq,rfl,-,-,-⟩:=hx.opened;obtain ⟨Y,Jq,rfl,-,-,-⟩:=hy.opened;obtain ⟨Z,Bq,rfl,-,-,-⟩:=hz.opened;obtain ⟨U,Rg,rfl,-,-,GZ⟩:=hu.opened;have dg:=hid GZ;have HM:=hid hm;clear hx hy hz GZ hu hm;go_enter func127,ntmps127;go_wp2_with fail;change Code.wp _ _ _ _ (w.alloc (.cells #[.string m.name,.int .i64 m.weight,.slice X m.classes.length Rq,.slice Y m.outside.length Jq,.slice Z m.inflow.length Bq] 69));obtain ⟨W,Nq,k0,Sq,eW⟩:=Q1y w 69 #[.string m.name,.int .i64 m.weight,.slice X m.classes.length Rq,.slice Y m.outside.length Jq,.slice Z m.inflow.length Bq];rw [Nq];clear Nq;have K0:=hid k0;clear k0
 go_loopw [5,6,13] (fun o lv t wr=>∃ (k:Nat) (n:Int) (pk:List Int),k <= l.length /\ t=.int .i64 k /\ lv=.int .i64 n /\ (0 <= n /\ n <= 1024 * k) /\ pk.length=k /\ pk ++ m.Q2r k n (l.drop k)=m.Q7b l /\ Q0n wr W.heap.size 3 (.int .i64) o pk /\ Ext W wr) (fun _ _ t _=>l.length - (intOf t).toNat)
 case atStart=>exact ⟨0,0,[],Nat.zero_le _,rfl,rfl,⟨Int.le_refl _,by omega⟩,rfl,rfl,Q0n.nil _ _ _ _,Ext.refl _⟩
 case round =>
  obtain ⟨k,n,pk,hk,rfl,rfl,hn,Wx,hr,Yq,hx⟩:=hrel;have HR:=hid hr;have HN:=hid hn;have tz:=hid Wx;clear hr
  by_cases Tq:k < l.length
  . obtain ⟨bu,ou,rfl,-,rk⟩:=dg.out k Tq
    replace rk:=(Sq.out.trans hx).cell rk;have yj:=Y4d m l Tq n;have Pz:=HM.out.bd k (by have:=HM.out.inf; omega)
    have C1:=hid (Z5m (c:=bx l k) hn Pz);have Z5:=hid (fun wr (hx:Ext w wr)=>Y9t wr _ m k n (bx l k) (HV.out.ext hx) (by have:=HM.out.out; omega) (by have:=HM.out.inf; omega) ⟨hn.1,by omega⟩ Pz)
    obtain ⟨c,hc⟩:∃ c,bx l k=c:=⟨_,rfl⟩;rw [hc] at rk yj C1 Z5;obtain ⟨P,hP⟩:∃ P,(m.stepT k n c).1=P:=⟨_,rfl⟩;obtain ⟨Q,hQ⟩:∃ Q,(m.stepT k n c).2=Q:=⟨_,rfl⟩;rw [hP,hQ] at yj Z5;rw [hQ] at C1;have qq:=hid yj;have c0:=(K0.out.ext hx).cell 0;have c1:=(K0.out.ext hx).cell 1;have c2:=(K0.out.ext hx).cell 2;have c3:=(K0.out.ext hx).cell 3;have c4:=(K0.out.ext hx).cell 4;simp only [Go.Tw.gA,Go.Tw.gB,Go.Tw.gC] at c0 c1 c2 c3 c4;have Lj:(k:Int) < l.length:=by omega
    have aj:=hid hx;have lq:=hid Yq;have Mv:pk.length <= 4096:=by omega
    clear yj hP hQ hc hn Pz Yq Wx hx
    go_light
    go_wp2_with (first | (go_at_call 173; refine (Z5.out _ (Sq.out.trans aj.out)).mono ?_; rintro e w5 ⟨rfl,Cq⟩; have Yq:=lq.out.below Cq; have Kj:=aj.out.trans Cq) | (at_builtin; refine wpList_append_own _ rfl _ _ 22 rfl (W.heap.size) 3 i0 (.int .i64 0) 1 8 underlying22 hi fq mq iq rfl (by decide) _ _ _ rfl (World.ownsRow.alloc Yq _) ⟨w5.heap.size,0,none⟩ 1 1 [.int .i64 P] rfl rfl ?_ ?_ ?_ ?_ ?_ ?_; exact Q4d _ _ _; (focus (simp [Value.oneCell'])); (focus (unfold maxLen; omega)); (focus omega); (focus (have:=Kj.size; simp at this ⊢; omega)); intro v' w1 Oq Pq _))
    have Mq:=Q2d Kj Yq (Nat.le_refl _) Pq;go_roundw
    case rel=>exact ⟨k + 1,Q,pk ++ [P],by omega,by go_num,rfl,C1.out,by rw [List.length_append,tz.out]; rfl,by rw [<- HR.out,qq.out]; simp,Q0n.snoc Oq,Mq⟩
    case measure=>simp [intOf]; omega
  . have HF:Hid (pk=m.Q7b l):=hid (by rw [<- HR.out,List.drop_eq_nil_of_le (by omega)]; simp [Mem.Q2r])
    go_wp2;go_ret;exact ⟨_,rfl,by rw [<- HF.out]; exact Yq.ints (by omega),Sq.out.trans hx⟩
theorem Z2y (W:World) (x lim:Int) (B:Nat) (hB:W.cell? ⟨B,0,none⟩=some (.int .i64 lim)) :
    Calls prog 171 #[.int .i64 x,.pointer (some ⟨B,0,none⟩)] W fun e W'=>e=.returned (.bool (decide (lim < x))) /\ Ext W W':=by
 go_enter func171,ntmps171;go_wp2;go_ret;exact ⟨rfl,Ext.refl _⟩
theorem X1l (w:World) (v u:Value) (m:Mem) (lim:Int) (l:List Bool) (hv:X3u w v m) (hu:Q1f w u l) (Pj:l.length <= 9) (hm:OkM m l.length) :
    Calls prog 113 #[v,.int .i64 lim,u] w fun e w'=>e=.returned (.bool (m.keeps lim l)) /\ Ext w w':=by
 have HV:=hid hv;obtain ⟨x,y,z,rfl,hx,hy,hz⟩:=hv;obtain ⟨X,Rq,rfl,-,-,-⟩:=hx.opened;obtain ⟨Y,Jq,rfl,-,-,-⟩:=hy.opened;obtain ⟨Z,Bq,rfl,-,-,-⟩:=hz.opened;have HU:=hid hu;obtain ⟨U,Rg,rfl,-,-,-⟩:=hu.opened;have HM:=hid hm;have az:Hid (m.keeps lim l = !((m.Q7b l).any fun x=>decide (lim < x))):=hid rfl;have Gk:=hid (J1f m l);clear hx hy hz hu hm;go_enter func113,ntmps113;go_wp2_with fail;change Calls _ _ _ ((w.alloc (.cells #[.string m.name,.int .i64 m.weight,.slice X m.classes.length Rq,.slice Y m.outside.length Jq,.slice Z m.inflow.length Bq] 69)).alloc (.cells #[.int .i64 lim] 3)) _;obtain ⟨W,Nq,k0,k1,Sq,eW⟩:=Q3p w 69 #[.string m.name,.int .i64 m.weight,.slice X m.classes.length Rq,.slice Y m.outside.length Jq,.slice Z m.inflow.length Bq] 3 #[.int .i64 lim];rw [Nq];clear Nq;have K1:=hid k1;clear k0 k1;refine (Y4i _ _ _ m l (HV.out.ext Sq.out) (HU.out.ext Sq.out) Pj HM.out).mono ?_;rintro e w5 ⟨pv,rfl,hp,Cq⟩;have FZ:=hid (X2k w5 pv (m.Q7b l) 171 (.pointer (some ⟨w.heap.size + 1,0,none⟩)) (fun x=>decide (lim < x)) hp (enters_of func171 (by kernel_rfl) rfl) (fun W' x hx _=>Z2y W' x lim _ ((K1.out.ext (Cq.trans hx)).cell 0)))
 obtain ⟨q,hq⟩:∃ q,((m.Q7b l).any fun x=>decide (lim < x))=q:=⟨_,rfl⟩
 rw [hq] at FZ az;obtain ⟨P,Rl,rfl,-,-,-⟩:=hp.opened;have vq:=hid (Sq.out.trans Cq);clear hp Cq hq;go_wp2_with (go_at_call 138; refine FZ.out.mono ?_; rintro e w6 ⟨rfl,Kj⟩);go_ret;exact ⟨Q0x az.out.symm,vq.out.trans Kj⟩
end Go.Proofs
namespace Go.Tw
def Q3e (p:List Rul) (h:List Int):List Bool:=(p.filter fun r=>r.classes == h).map Rul.close
def X2u (p:List Rul) (l:List Int) (n:Nat):List Bool:=(List.range n).flatMap fun t=>Q3e p (l.take (t + 1))
theorem X6i:∀ {p:List Rul} {h:List Int},h ∉ p.map Rul.classes -> Q3e p h=[]
 | [],_,_=>rfl
 | r :: p,h,hm=>by
   unfold Q3e;rw [List.map_cons,List.mem_cons,not_or] at hm;rw [List.filter_cons,if_neg (by simpa using fun e=>hm.1 e.symm)]
   exact X6i hm.2
theorem Y1w:∀ {p:List Rul} {h:List Int},(p.map Rul.classes).Nodup -> h ∈ p.map Rul.classes -> Q3e p h=[look p h]
 | [],_,_,hm=>by cases hm
 | r :: p,h,hn,hm=>by
   rw [List.map_cons,List.nodup_cons] at hn
   by_cases hr:r.classes=h
   . subst hr
     have h0:=X6i hn.1;unfold Q3e look at *;rw [List.filter_cons,if_pos (by simp),List.map_cons,h0,List.find?_cons]
     simp
   . rw [List.map_cons,List.mem_cons] at hm
     have Ql:h ∈ p.map Rul.classes:=hm.resolve_left fun e=>hr e.symm;have ih:=Y1w hn.2 Ql;unfold Q3e look at *;rw [List.filter_cons,if_neg (by simpa using hr),ih,List.find?_cons]
     have:(r.classes == h)=false:=by simpa using hr
     rw [this]
theorem Y7r {l:List (List Int)} (h:Asc l):l.Nodup:=h.imp fun h e=>by subst e; exact Q8g _ h
theorem Q2p {h:List (List Int)} {p:List Rul}:Q0q h p=0 ↔ p.map Rul.classes=h:=by
 unfold Q0q
 constructor
 . intro e
   split at e
   . cases e
   . split at e
     . cases e
     . rename_i h2; exact Decidable.not_not.1 h2
 . intro e
   have hl:p.length=h.length:=by rw [<- e,List.length_map]
   rw [if_neg (fun hn=>hn hl),if_neg (fun hn=>hn e)]
theorem J5d {s:Q0b} (hs:s.Shaped) {p:List Rul} (hp:Q0q s.hist p=0) {i:Nat} (hi:i < s.members.length) (hl:(Q0c s.members i).length=s.ships.length):X2u p (Q0c s.members i) s.ships.length=Q0l p (Q0c s.members i):=by
 have he:=Q2p.1 hp;have hn:(p.map Rul.classes).Nodup:=by rw [he]; exact Y7r (Q0b.Y5v hs)
 unfold X2u Q0l;rw [hl];have:∀ l:List Nat,(∀ t ∈ l,t < s.ships.length) -> (l.flatMap fun t=>Q3e p ((Q0c s.members i).take (t + 1)))=l.map fun t=>look p ((Q0c s.members i).take (t + 1)):=by
  intro l
  induction l with
  | nil=>intro _; rfl
  | cons t l ih =>
    intro ht;rw [List.flatMap_cons,List.map_cons,ih fun u hu=>ht u (List.mem_cons_of_mem _ hu),Y1w hn]
    . rfl
    . rw [he]
      exact (Q0b.Q4r _ _).2 ⟨t,ht t (List.mem_cons_self ..),i,hi,rfl⟩
 exact this _ fun t ht=>List.mem_range.1 ht
end Go.Tw
namespace Go.Proofs
open Go.RowKit Go.Tw Go.Flow Tryz
attribute [local go_sem] Oper.semAt_some
theorem X0p {w:World} {A:Option Addr} {n Qq:Nat} {l:List Int} (h:Q0e w (.slice A n Qq) l) {k:Nat} (hk:k <= l.length):Q0e w (.slice A k Qq) (l.take k):=by
 obtain ⟨c,⟨A',cap',hv,hn,Kq,hc⟩,h2⟩:=h;injection hv with e1 e2 e3;subst e1 e2 e3;have kg:(l.take k).length=k:=by rw [List.length_take]; omega
 refine ⟨c,⟨A,Qq,by rw [kg],by omega,by omega,fun j hj=>hc j (by omega)⟩,fun j hj=>?_⟩
 rw [List.getElem_take];exact h2 j (by omega)
theorem Y4u (p:List Rul) (l:List Int) (t:Nat):X2u p l (t + 1)=X2u p l t ++ Q3e p (l.take (t + 1)):=by
 unfold X2u;rw [List.range_succ,List.flatMap_append];simp
theorem Y7m (p:List Rul) (h:List Int) {j:Nat} (hj:j < p.length):Q3e (p.take (j + 1)) h=if Q0k p j=h then Q3e (p.take j) h ++ [Q3a p j] else Q3e (p.take j) h:=by
 unfold Q3e Q0k Q3a;rw [List.take_succ_eq_append_getElem hj,List.filter_append,List.map_append,Q0t _ hj]
 by_cases h1:p[j].classes=h
 . rw [if_pos h1]; simp [h1]
 . rw [if_neg h1]; simp [h1]
theorem Y1m (p:List Rul) (h:List Int):(Q3e p h).length <= p.length:=by
 unfold Q3e;rw [List.length_map];exact List.length_filter_le _ _
theorem Y0g (p:List Rul) (l:List Int):∀ t,(X2u p l t).length <= t * p.length
 | 0=>by simp [X2u]
 | t + 1=>by
   rw [Y4u,List.length_append,Nat.add_mul,Nat.one_mul];have:=Y0g p l t;have:=Y1m p (l.take (t + 1));omega
theorem Tryz.X8o:(prog.info? 4).map (fun i=>(i.zero,i.size,i.bytes))=some (some (.bool false),1,1):=by kernel_rfl
theorem Y7b (w:World) (v u:Value) (s:Q0b) (p:List Rul) (i:Nat) (hv:Q0g w v s) (hu:Q0m w u p) (yz:i < s.members.length) (hl:(Q0c s.members i).length=s.ships.length) (ht:s.ships.length <= 8) (hp:p.length <= 100) :
    Calls prog 106 #[v,u,.int .i64 (i:Int)] w fun e w'=>∃ x,e=.returned x /\ Q1f w' x (X2u p (Q0c s.members i) s.ships.length) /\ Ext w w':=by
 obtain ⟨i0,hi,fq,mq,iq⟩:=info_parts X8o;obtain ⟨a,b,rfl,h2⟩:=hv;obtain ⟨rv,rfl,hr⟩:=hu;obtain ⟨A,Uq,rfl,Ov,-,-⟩:=h2.ships.opened;obtain ⟨B,Wq,rfl,Nv,-,hc⟩:=h2.members.opened;obtain ⟨R,Gq,rfl,Ce,-,Kx⟩:=hr.opened;obtain ⟨bm,off,x,y,z,rfl,Wv,e0,e1,e2,e3,e4,hx,hy,hz,-⟩:=hc i yz;obtain ⟨C,Oz,rfl,-,Z0,FX⟩:=hx.opened;have Uw:=hid Kx;have D4:=hid hx;have Zw:=hid e2;have J1:(i:Int) < s.members.length:=by omega
 rw [hl] at Z0;have CQ:=hid FX;obtain ⟨lc,mj⟩:∃ x,Q0c s.members i=x:=⟨_,rfl⟩;rw [mj] at hl D4 Zw CQ ⊢;rw [hl] at Zw;have Ak:=hid hl;clear hc hx hy hz FX Kx hr h2 mj e0 e1 e2 e3 e4 hl;go_enter func106,ntmps106;go_wp2_with fail;change Code.wp _ _ _ _ ((w.alloc (.cells #[.int .i64 s.limit,.slice A s.ships.length Uq,.slice (some ⟨bm,off,none⟩) s.members.length Wq] 25)).alloc (.cells #[.slice R p.length Gq] 47));obtain ⟨W,Nq,k0,k1,Sq,eW⟩:=Q3p w 25 #[.int .i64 s.limit,.slice A s.ships.length Uq,.slice (some ⟨bm,off,none⟩) s.members.length Wq] 47 #[.slice R p.length Gq];rw [Nq];clear Nq;have K0:=hid k0;have K1:=hid k1;obtain ⟨gs,bq⟩:∃ x,w.heap.size=x:=⟨_,rfl⟩;rw [bq] at K0 K1 eW ⊢;clear k0 k1
 go_loopw [7,8] (fun o t wr=>∃ (k:Nat),k <= s.ships.length /\ t=.int .i64 k /\ Q0n wr W.heap.size 4 .bool o (X2u p lc k) /\ Ext W wr) (fun _ t _=>s.ships.length - (intOf t).toNat)
 case atStart=>exact ⟨0,Nat.zero_le _,rfl,Q0n.nil _ _ _ _,Ext.refl _⟩
 case round =>
  obtain ⟨k,hk,rfl,Yq,Sk⟩:=hrel;have c1:=(K0.out.ext Sk).cell 1;simp only [Go.Tw.gA,Go.Tw.gB,Go.Tw.gC] at c1;have m7:=hid Sk;have lq:=hid Yq;clear Sk Yq
  by_cases Tq:k < s.ships.length
  . have Lj:(k:Int) < s.ships.length:=by omega
    obtain ⟨bc,oc,LG,_⟩:=CQ.out k (by rw [Ak.out]; exact Tq)
    subst LG
    go_light
    go_wp2_with fail
    go_loopw [7,9] (fun o j wr=>∃ (m:Nat),m <= p.length /\ j=.int .i64 m /\ Q0n wr W.heap.size 4 .bool o (X2u p lc k ++ Q3e (p.take m) (lc.take (k + 1))) /\ Ext W wr) (fun _ j _=>p.length - (intOf j).toNat)
    case atStart=>exact ⟨0,Nat.zero_le _,rfl,by rw [List.take_zero,show Q3e [] (lc.take (k + 1))=[] from rfl,List.append_nil]; exact lq.out,m7.out⟩
    case round =>
     obtain ⟨m,hm,rfl,Yq,Dq⟩:=hrel;have p0:=(K1.out.ext Dq).cell 0;simp only [Go.Tw.gA,Go.Tw.gB,Go.Tw.gC] at p0;have rq:=hid Dq;have Y0:=hid Yq;clear Dq Yq
     by_cases qw:m < p.length
     . obtain ⟨br,orr,xr,hR,_,lj,Yj,Zx⟩:=Uw.out m qw
       subst hR;have SG:(m:Int) < p.length:=by omega
       obtain ⟨Xr,cxr,rfl,-,-,-⟩:=Zx.opened;have fj:=Y7m p (lc.take (k + 1)) qw;obtain ⟨cl,hcl⟩:∃ x,Q0k p m=x:=⟨_,rfl⟩;obtain ⟨cb,Rj⟩:∃ x,Q3a p m=x:=⟨_,rfl⟩;rw [hcl] at lj Zx fj;rw [Rj] at Yj fj;have BQ:=hid Zx;have Gj:=hid fj;obtain ⟨sx,AQ⟩:∃ x,lc.take (k + 1)=x:=⟨_,rfl⟩;have Sw:Hid (Q0e w (.slice (some ⟨bc,oc,none⟩) (k + 1) Oz) sx):=hid (by rw [<- AQ]; rw [show (Value.slice (some ⟨bc,oc,none⟩) (k + 1) Oz)=.slice (some ⟨bc,oc,none⟩) (k + 1) Oz from rfl]; exact X0p D4.out (by rw [Ak.out]; omega))
       rw [AQ] at Gj Y0 ⊢;obtain ⟨q,hq⟩:∃ q,decide (cl=sx)=q:=⟨_,rfl⟩;have HQ:=hid hq;have V9:k + 1 <= Oz:=by omega
       have l7:(k:Int) + 1 <= (Oz:Int):=by omega
       have Y5:¬ ((0:Int) <= (k:Int) + 1 -> (Oz:Int) < (k:Int) + 1):=by omega
       have V5:¬ Oz=0:=by omega
       have U5:¬ (k:Int) + 1 < 0:=by omega
       have T5:((k:Int) + 1).toNat=k + 1:=by omega
       have Z2:IntKind.i64.wrap ((k:Int) + 1)=(k:Int) + 1:=Q3b _ (by omega) (by omega)
       have Vq:=(Ext.refl wr).drew;have Qg:=hid lj;have iz:=hid Yj;clear lj Yj Zx fj hcl Rj AQ hq;have D3:=hid Zw.out
       go_light
       go_wp2;refine Flow.Q1h [.p,.w,.p,.p,.p,.w,.p,.w,.p,.p,.p,.w,.p,.p,.p,.w] [0,1,2,3,4,5,6,7,8,9,10,11,12,13,14,15] [[],[0],[],[1,2],[3],[4],[],[6],[],[7,8],[9],[10],[],[12],[11,13],[5,14]]
        [.c 0 (.pointer (some ⟨gs + 1,0,none⟩)),.c 1 (.slice (some ⟨br,orr,none⟩) p.length Gq),.c 2 (.int .i64 (m:Int)),.c 3 (.pointer (some ⟨br,orr + m * 2,none⟩)),.c 4 (.pointer (some ⟨br,orr + m * 2,none⟩)),.c 5 (.slice Xr cl.length cxr),.c 6 (.pointer (some ⟨gs,2,none⟩)),.c 7 (.slice (some ⟨bm,off,none⟩) s.members.length Wq),.c 8 (.int .i64 (i:Int)),.c 9 (.pointer (some ⟨bm,off + i * 5,none⟩)),.c 10 (.pointer (some ⟨bm,off + i * 5 + 2,none⟩)),.c 11 (.slice (some ⟨bc,oc,none⟩) s.ships.length Oz),.c 12 (.int .i64 (k:Int)),.c 13 (.int .i64 ((k:Int) + 1)),.c 14 (.slice (some ⟨bc,oc,none⟩) (k + 1) Oz),.c 15 (.bool q)]
        (by kernel_rfl) rfl (by kernel_rfl) ⟨?g0,?g1,?g2,?g3,?g4,?g5,?g6,?g7,?g8,?g9,?g10,?g11,?g12,?g13,?g14,?g15,trivial⟩ ?post
       case g0 | g2 | g6 | g8 | g12=>
        intro v w1 hx;intro bb hbb;subst hbb;refine ⟨_,fun w=>?_,rfl⟩;go_simp
       case g1 | g5 | g7 | g11=>
        intro v w1 hx;(repeat intro (zq:v _=_));intro bb hbb;subst hbb;have n0:w1.cell? ⟨gs + 1,0,none⟩=some (.slice (some ⟨br,orr,none⟩) p.length Gq):=(K1.out.ext (rq.out.trans (Vq.trans hx))).cell 0;have n1:w1.cell? ⟨br,orr + m * 2,none⟩=some (.slice Xr cl.length cxr):=(Sq.out.trans (rq.out.trans (Vq.trans hx))).cell Qg.out;have n2:w1.cell? ⟨gs,2,none⟩=some (.slice (some ⟨bm,off,none⟩) s.members.length Wq):=(K0.out.ext (rq.out.trans (Vq.trans hx))).cell 2;have n3:w1.cell? ⟨bm,off + i * 5 + 2,none⟩=some (.slice (some ⟨bc,oc,none⟩) s.ships.length Oz):=(Sq.out.trans (rq.out.trans (Vq.trans hx))).cell D3.out;intro K hK;go_simp;exact hK _ _ (Ext.refl _) rfl
       case g3 | g4 | g9 | g10 | g13 | g14=>
        intro v w1 hx;(repeat intro (zq:v _=_));intro bb hbb;subst hbb;refine ⟨_,fun w=>?_,rfl⟩;go_simp
       case g15=>
        intro v w1 hx;(repeat intro (zq:v _=_));intro bb hbb;subst hbb;intro K hK;go_simp;refine Q0d (Q3k w1 _ _ cl sx (BQ.out.ext (Sq.out.trans (rq.out.trans (Vq.trans hx)))) (Sw.out.ext (Sq.out.trans (rq.out.trans (Vq.trans hx))))) ?_;rintro e w2 ⟨rfl,Mq⟩;rw [HQ.out];exact ⟨_,rfl,hK _ _ Mq rfl⟩
       case post =>
        intro v w1 hx;(iterate 16 intro (zq:v _=_));simp only [Flow.All,Flow.acts,Act.put];go_simp;have Zq:=rq.out.trans (Vq.trans hx);have Yq:=Y0.out.below (Vq.trans hx);have pp0:=(K1.out.ext Zq).cell 0;simp only [Go.Tw.gA,Go.Tw.gB,Go.Tw.gC] at pp0;have Rj:=(Sq.out.trans Zq).cell iz.out;have aj:=hid Zq;clear hx Vq Y5 V5 T5 U5 l7 Z2 p0;(repeat clear zq);obtain ⟨w3,rfl⟩:∃ X,X=w1:=⟨_,rfl⟩;cases q with
        | true =>
          have EZ:cl=sx:=of_decide_eq_true HQ.out;have qq:Hid (X2u p lc k ++ Q3e (p.take (m + 1)) sx=X2u p lc k ++ Q3e (p.take m) sx ++ [cb]):=hid (by rw [Gj.out,if_pos EZ,List.append_assoc])
          have DZ:=Y0g p lc k;have CZ:k * p.length <= 8 * 100:=Nat.mul_le_mul (by omega) hp
          have BZ:=Y1m (p.take m) sx;have AZ:(p.take m).length <= m:=by rw [List.length_take]; omega
          have Mv:(X2u p lc k ++ Q3e (p.take m) sx).length <= 4096:=by rw [List.length_append]; omega
          have Sx:=hid Yq;have Dj:=aj.out;clear EZ DZ CZ BZ AZ;go_wp2_with (at_builtin; refine wpList_append_own _ rfl _ _ 82 rfl (W.heap.size) 4 i0 (.bool false) 1 1 underlying82 hi fq mq iq rfl (by decide) _ _ _ rfl (World.ownsRow.alloc Yq _) ⟨w3.heap.size,0,none⟩ 1 1 [.bool cb] rfl rfl ?_ ?_ ?_ ?_ ?_ ?_; exact Q4d _ _ _; (focus (simp [Value.oneCell'])); (focus (unfold maxLen; omega)); (focus omega); (focus (have:=Dj.size; simp at this ⊢; omega)); intro v' w1 Oq Pq _)
          have hx':=Q2d Dj Sx.out (Nat.le_refl _) Pq;go_roundw
          case rel=>exact ⟨m + 1,by omega,by go_num,by rw [qq.out]; exact Q0n.snoc Oq,hx'⟩
          case measure=>simp [intOf]; omega
        | false =>
          have EZ:¬ cl=sx:=of_decide_eq_false HQ.out;have qq:Hid (Q3e (p.take (m + 1)) sx=Q3e (p.take m) sx):=hid (by rw [Gj.out,if_neg EZ])
          have Sx:=hid Yq;clear EZ Yq;go_wp2;go_roundw
          case rel=>exact ⟨m + 1,by omega,by go_num,by rw [qq.out]; exact Sx.out,aj.out⟩
          case measure=>simp [intOf]; omega
     . have SG:¬ (m:Int) < p.length:=by omega
       have aq:m=p.length:=by omega
       subst aq;have Pg:Hid (X2u p lc k ++ Q3e (p.take p.length) (lc.take (k + 1))=X2u p lc (k + 1)):=hid (by rw [List.take_length,Y4u])
       go_wp2;go_roundw
       case rel=>exact ⟨k + 1,by omega,by go_num,by rw [<- Pg.out]; exact Y0.out,rq.out⟩
       case measure=>simp [intOf]; omega
  . have Lj:¬ (k:Int) < s.ships.length:=by omega
    have Cj:k=s.ships.length:=by omega
    subst Cj;go_wp2;go_ret;exact ⟨_,rfl,lq.out.bools (by have:=Y0g p lc s.ships.length; have:s.ships.length * p.length <= 8 * 100:=Nat.mul_le_mul ht hp; omega),Sq.out.trans m7.out⟩
end Go.Proofs
namespace Go.Proofs
open Go.RowKit Go.Tw Go.Flow Tryz
theorem Z6i (h:List Int) (row:List (List Int)):(Q7t h row).length <= row.length + 1:=by
 unfold Q7t;have hb:=(posB h row row.length).1;dsimp only
 split
 . omega
 . rw [List.length_append,List.length_append,List.length_take,List.length_drop,List.length_singleton]
   omega
theorem X3h (s:Q0b) (t:Nat):∀ i,(s.Q6d t i).length <= i
 | 0=>by simp [Q0b.Q6d]
 | i + 1=>by
   have:=X3h s t i;have:=Z6i ((Q0c s.members i).take (t + 1)) (s.Q6d t i);unfold Q0b.Q6d;omega
theorem X4y (s:Q0b):∀ n,(s.Q6a n).length <= n * s.members.length
 | 0=>by simp [Q0b.Q6a]
 | n + 1=>by
   have:=X4y s n;have:=X3h s n s.members.length;unfold Q0b.Q6a;rw [List.length_append,Nat.add_mul,Nat.one_mul];omega
theorem X8p {s:Q0b} (hS:Q0w s):s.hist.length <= 48:=by
 have:=X4y s s.ships.length;have h2:s.ships.length * s.members.length <= 6 * 8:=Nat.mul_le_mul hS.tides.2 hS.some.2;unfold Q0b.hist;omega
theorem J2q {s:Q0b} (hS:Q0w s) {p:List Rul} (hp:Q0q s.hist p=0):p.length <= 48:=by
 have:=X8p hS;rw [<- Q2p.1 hp,List.length_map] at this;exact this
theorem Tryz.Q9r (w:World):(isAgg 25).run prog w=.ok true w:=by kernel_rfl
theorem Tryz.Q6r (w:World):(sizeOf 25).run prog w=.ok 3 w:=by kernel_rfl
theorem Tryz.X2l (w:World):(isAgg 47).run prog w=.ok true w:=by kernel_rfl
theorem Tryz.Q7r (w:World):(sizeOf 47).run prog w=.ok 1 w:=by kernel_rfl
theorem Tryz.K0z (w:World):(isAgg 99).run prog w=.ok true w:=by kernel_rfl
theorem Tryz.J2z (w:World):(sizeOf 99).run prog w=.ok 2 w:=by kernel_rfl
theorem X7x (w:World) (a b:Option Addr) (n c m d:Nat):(Instr.build 99 #[(0,.slice a n c),(1,.slice b m d)]).run prog w=.ok (.agg #[.slice a n c,.slice b m d]) w:=by kernel_rfl
theorem Y7x {w w':World} {g b k:Nat} {T:TypeId} {cs:Array Value} {x:Value} (hb:Blk w g T cs) (hx:∀ u ∈ cs.toList,u ≠ x) (ho:∀ k,k ≠ g -> w'.heap[k]?=w.heap[k]?) (h:w.cell? ⟨b,k,none⟩=some x):w'.cell? ⟨b,k,none⟩=some x:=by
 by_cases Qx:b=g
 . subst Qx
   rw [hb.cell] at h;have hm:x ∈ cs:=Array.mem_of_getElem? h;exact absurd rfl (hx x (Array.mem_toList_iff.2 hm))
 . rw [<- h]
   exact World.cell?_of_block (w:=w) (ho b Qx)
theorem Z7u {w w':World} {v:Value} {l:List Bool} {g:Nat} {T:TypeId} {cs:Array Value} (h:Q1f w v l) (hb:Blk w g T cs) (hx:∀ u ∈ cs.toList,∀ b,u ≠ .bool b) (ho:∀ k,k ≠ g -> w'.heap[k]?=w.heap[k]?):Q1f w' v l:=by
 obtain ⟨c,⟨A,Qq,hv,hn,Kq,hc⟩,h2⟩:=h;refine ⟨c,⟨A,Qq,hv,hn,Kq,fun j hj=>?_⟩,h2⟩;obtain ⟨b,off,hA,h⟩:=hc j hj;refine ⟨b,off,hA,?_⟩;have e:=h2 j (by omega)
 simp only [Nat.mul_one,Nat.add_zero] at e;rw [e] at h ⊢;exact Y7x hb (fun u hu=>hx u hu _) ho h
theorem J0t {w w':World} {v:Value} {l:List Int} {g:Nat} {T:TypeId} {cs:Array Value} (h:Q0e w v l) (hb:Blk w g T cs) (hx:∀ u ∈ cs.toList,∀ b,u ≠ .int .i64 b) (ho:∀ k,k ≠ g -> w'.heap[k]?=w.heap[k]?):Q0e w' v l:=by
 obtain ⟨c,⟨A,Qq,hv,hn,Kq,hc⟩,h2⟩:=h;refine ⟨c,⟨A,Qq,hv,hn,Kq,fun j hj=>?_⟩,h2⟩;obtain ⟨b,off,hA,h⟩:=hc j hj;refine ⟨b,off,hA,?_⟩;have e:=h2 j (by omega)
 simp only [Nat.mul_one,Nat.add_zero] at e;rw [e] at h ⊢;exact Y7x hb (fun u hu=>hx u hu _) ho h
attribute [local go_sem ↓] X7x
theorem Z1e (w:World) (v u:Value) (s:Q0b) (p:List Rul) (i:Nat) (hv:Q0g w v s) (hu:Q0m w u p) (hS:Q0w s) (hp:Q0q s.hist p=0) (yz:i < s.members.length) :
    Calls prog 106 #[v,u,.int .i64 (i:Int)] w fun e w'=>∃ x,e=.returned x /\ Q1f w' x (Q0l p (Q0c s.members i)) /\ Ext w w':=by
 have hl:=(hS.shaped i yz).1;have h:=Y7b w v u s p i hv hu yz hl (by have:=hS.tides.2; omega) (by have:=J2q hS hp; omega)
 rw [J5d hS.shaped hp yz hl] at h;exact h
theorem J1m (w:World) (v u:Value) (s:Q0b) (p:List Rul) (i:Nat) (hv:Q0g w v s) (hu:Q0m w u p) (hS:Q0w s) (hp:Q0q s.hist p=0) (yz:i < s.members.length) :
    Calls prog 60 #[v,u,.int .i64 (i:Int)] w fun e w'=>∃ x y,e=.returned (.agg #[x,y]) /\ Q1f w' x (Q0l p (Q0c s.members i)) /\ Q0e w' y ((Q2a s i).Q7b (Q0l p (Q0c s.members i))) /\ Ext w w':=by
 have Fq:=Q3i p (Q0c s.members i);have Aj:=hS.shaped i yz;have h6:=hS.tides.2;have sj:Hid (∀ (w:World) (v u:Value),Q0g w v s -> Q0m w u p -> Calls prog 106 #[v,u,.int .i64 (i:Int)] w fun e w'=>∃ x,e=.returned x /\ Q1f w' x (Q0l p (Q0c s.members i)) /\ Ext w w'):=hid (fun w v u h1 h2=>Z1e w v u s p i h1 h2 hS hp yz);have zQ:Hid (∀ (w:World) (v u:Value),Q0g w v s -> Q1f w u (Q0l p (Q0c s.members i)) -> Calls prog 51 #[v,.int .i64 (i:Int),u] w fun e w'=>∃ x,e=.returned x /\ Q0e w' x ((Q2a s i).Q7b (Q0l p (Q0c s.members i))) /\ Ext w w'):=hid (fun w v u h1 h2=>Y1x w v u s i _ h1 yz h2 (by omega) (by rw [Fq,Aj.1]; exact Nat.le_of_eq Aj.2.1.symm) (by rw [Fq,Aj.1]; exact Nat.le_of_eq Aj.2.2.symm) (hS.inflow i yz))
 obtain ⟨a,b,rfl,h2⟩:=hv;obtain ⟨rv,rfl,hr⟩:=hu;obtain ⟨A,Uq,rfl,-,-,-⟩:=h2.ships.opened;obtain ⟨B,Wq,rfl,-,-,-⟩:=h2.members.opened;obtain ⟨R,Gq,rfl,-,-,-⟩:=hr.opened;have H2:=hid h2;have HR:=hid hr;obtain ⟨cl,hcl⟩:∃ x,Q0l p (Q0c s.members i)=x:=⟨_,rfl⟩;obtain ⟨pk,Wx⟩:∃ x,(Q2a s i).Q7b (Q0l p (Q0c s.members i))=x:=⟨_,rfl⟩;rw [Wx] at zQ ⊢;rw [hcl] at zQ sj ⊢;clear h2 hr Fq Aj h6 hcl Wx hS hp;go_enter func60,ntmps60;go_wp2_with fail;change Calls _ _ _ (((w.alloc (.cells #[.int .i64 s.limit,.slice A s.ships.length Uq,.slice B s.members.length Wq] 25)).alloc (.cells #[.slice R p.length Gq] 47)).alloc (.cells #[.slice none 0 0,.slice none 0 0] 99)) _;obtain ⟨W,Nq,k0,k1,k2,Sq,eW⟩:=Q9s w 25 #[.int .i64 s.limit,.slice A s.ships.length Uq,.slice B s.members.length Wq] 47 #[.slice R p.length Gq] 99 #[.slice none 0 0,.slice none 0 0];rw [Nq];clear Nq;have K2:=hid k2;have aj:=hid Sq.out;refine (sj.out _ _ _ ⟨_,_,rfl,H2.out.ext Sq.out⟩ ⟨_,rfl,HR.out.ext Sq.out⟩).mono ?_;rintro e w1 ⟨x,rfl,hx,Yj⟩;obtain ⟨X,cx,rfl,-,-,-⟩:=hx.opened;have Yz:=hid hx;have iz:=hid (aj.out.trans Yj);have kk:=k0.ext Yj;have c0:=kk.cell 0;have c1:=kk.cell 1;have c2:=kk.cell 2;simp only [Go.Tw.gA,Go.Tw.gB,Go.Tw.gC] at c0 c1 c2;replace K2:=hid (K2.out.ext Yj);clear hx Yj kk k0 k1 k2;go_wp2_with fail;refine (zQ.out _ _ _ ⟨_,_,rfl,H2.out.ext iz.out⟩ Yz.out).mono ?_;rintro e w2 ⟨y,rfl,hy,Mq⟩;obtain ⟨Y,cy,rfl,-,-,-⟩:=hy.opened;have tz:=hid hy;replace Yz:=hid (Yz.out.ext Mq);replace K2:=hid (K2.out.ext Mq);have Ox:=hid (iz.out.trans Mq);have Qj:w.heap.size + 1 + 1 ≥ w.heap.size:=by omega
 clear hy Mq c0 c1 c2;go_wp2_with (refine Q0v rfl _ _ 99 rfl J2z rfl rfl K2.out rfl rfl ?_ ?_; (focus (intro u hu; simp only [List.mem_cons,List.not_mem_nil,or_false] at hu; rcases hu with rfl | rfl <;> rfl)); intro w9 Fj Pj cj)
 refine bodyPost_ret (Q2h results60 rfl Fj K0z J2z) rfl ?_;have hne:∀ u ∈ (#[Value.slice none 0 0,Value.slice none 0 0]:Array Value).toList,∃ a n c,u=.slice a n c:=by
  intro u hu;simp only [List.mem_cons,List.not_mem_nil,or_false] at hu
  rcases hu with rfl | rfl <;> exact ⟨_,_,_,rfl⟩
 refine ⟨_,_,rfl,Z7u Yz.out K2.out (fun u hu b e=>?_) cj,J0t tz.out K2.out (fun u hu b e=>?_) cj,Below.trans Ox.out (Pj _ Qj)⟩
 . obtain ⟨_,_,_,rfl⟩:=hne u hu; cases e
 . obtain ⟨_,_,_,rfl⟩:=hne u hu; cases e
end Go.Proofs
namespace Go.Tw
open Go.RowKit Go.Flow
def Off (O:Nat) (w w':World):Prop:=Below O w w' /\ w.heap.size <= w'.heap.size /\ ∀ b,b < w.heap.size -> b ≠ O -> w'.heap[b]?=w.heap[b]?
theorem Off.refl (O:Nat) (w:World):Off O w w:=⟨Below.refl _ _,Nat.le_refl _,fun _ _ _=>rfl⟩
theorem Off.ext {O:Nat} {a b c:World} (h:Off O a b) (hx:Ext b c) (hO:O <= b.heap.size):Off O a c :=
 ⟨h.1.trans (hx.mono hO),Nat.le_trans h.2.1 hx.size,fun k hk hne=>(Below.block hx k (Nat.lt_of_lt_of_le hk h.2.1)).trans (h.2.2 k hk hne)⟩
theorem Off.grown {O base n size:Nat} {e:TypeId} {v:Value} {xs:List Value} {a b c:World} (h:Off O a b) (Yq:b.ownsRow base e size v n xs) (hb:a.heap.size <= base) (hO:O <= a.heap.size) (hg:b.grownBy c v.ownBlock):Off O a c:=by
 have rx:Below O b c:=Below.grown (Below.refl _ _) hg (Nat.le_trans hO h.2.1) (fun k hk=>by have:=(Yq.lt k hk).1; omega)
 have U9:Below a.heap.size b c:=Below.grown (Below.refl _ _) hg h.2.1 (fun k hk=>by have:=(Yq.lt k hk).1; omega)
 exact ⟨h.1.trans rx,Nat.le_trans h.2.1 U9.size,fun k hk hne=>(U9.block k hk).trans (h.2.2 k hk hne)⟩
theorem Off.set {O:Nat} {a b:World} (h:Off O a b) (k:Nat) (u:Value):Off O a (b.setCell ⟨O,k,none⟩ u) :=
 ⟨h.1.setCell (p:=⟨O,k,none⟩) (Nat.le_refl _) u,by simpa using h.2.1,fun j hj hne=>(Below.heap_setCell _ _ _ _ hne).trans (h.2.2 j hj hne)⟩
theorem Q1b.off {α:Type} {w w':World} {base O k:Nat} {e:TypeId} {enc:α -> List Value} {v:Value} {l:List α} (h:Q1b w base e k enc v l) (hO:O < base) (hx:Off O w w'):Q1b w' base e k enc v l:=by
 obtain ⟨h1,h2⟩:=h;refine ⟨h1,?_⟩
 rcases h2 with h2 | ⟨g,Qq,cur,hv,hb,hg,r⟩
 . exact .inl h2
 . exact .inr ⟨g,Qq,cur,hv,hb,by rw [hx.2.2 g (Array.getElem?_eq_some_iff.1 hg).1 (by omega)]; exact hg,r⟩
theorem Q1b.setCell {α:Type} {w:World} {base k:Nat} {e:TypeId} {enc:α -> List Value} {v:Value} {l:List α} (h:Q1b w base e k enc v l) {p:Addr} (hp:p.block < base) (u:Value):Q1b (w.setCell p u) base e k enc v l :=
 h.only hp (Q3x w p u)
theorem Q4l {w w':World} {v cv:Value} {l:List Int} {base n size:Nat} {T e:TypeId} {xs:List Value} (h:Q0n w 0 T (Value.int .i64) v l) (Yq:w.ownsRow base e size cv n xs) (he:e ≠ T) (hg:w.grownBy w' cv.ownBlock):Q0n w' 0 T (Value.int .i64) v l:=by
 obtain ⟨h1,h2⟩:=h;refine ⟨h1,?_⟩
 rcases h2 with h2 | ⟨g,Qq,cur,hv,hb,Qj,r⟩
 . exact .inl h2
 . refine .inr ⟨g,Qq,cur,hv,hb,?_,r⟩
   rw [hg.block g (Array.getElem?_eq_some_iff.1 Qj).1 ?_]; exact Qj;intro e'
   rcases Yq.2 with ⟨rfl,_⟩ | ⟨g',_,cur',rfl,_,Lk,_⟩
   . cases e'
   . have e2:g=g':=by simpa [Value.ownBlock] using e'
     rw [e2,Lk] at Qj;injection Qj with Qj;injection Qj with _ h3 _;exact he h3
theorem Q7f {w w':World} {cv:Value} {base n size g:Nat} {T e:TypeId} {cs:Array Value} {xs:List Value} (h:Blk w g T cs) (Yq:w.ownsRow base e size cv n xs) (hb:g < base) (hg:w.grownBy w' cv.ownBlock):Blk w' g T cs:=by
 unfold Blk at *;rw [hg.block g (Array.getElem?_eq_some_iff.1 h).1 ?_]; exact h;intro e';have:=(Yq.lt g e'.symm).1;omega
theorem Q7h {w:World} {v u:Value} {l:List Int} {O k:Nat} {T S:TypeId} {cs:Array Value} (h:Q0n w 0 T (Value.int .i64) v l) (hb:Blk w O S cs) (hT:S ≠ T):Q0n (w.setCell ⟨O,k,none⟩ u) 0 T (Value.int .i64) v l:=by
 obtain ⟨h1,h2⟩:=h;refine ⟨h1,?_⟩
 rcases h2 with h2 | ⟨g,Qq,cur,hv,hbb,Qj,r⟩
 . exact .inl h2
 . refine .inr ⟨g,Qq,cur,hv,hbb,?_,r⟩
   rw [Below.heap_setCell _ _ _ _ ?_]; exact Qj;intro e';have e2:g=O:=e';unfold Blk at hb;rw [e2,hb] at Qj;injection Qj with Qj;injection Qj with _ h3 _;exact hT h3
theorem Q1b.rowsOf {α β:Type} {w:World} {base:Nat} {e:TypeId} {k:Nat} {enc:α -> List Value} {v:Value} {L:List α} {l:List β} {R:World -> (Nat -> Value) -> β -> Prop} (h:Q1b w base e k enc v L) (Fq:L.length=l.length) (hl:l.length <= 17592186043904)
    (hk:∀ x,(enc x).length=k) (hR:∀ j (h1:j < L.length) (h2:j < l.length),R w (fun i=>((enc L[j])[i]?).getD undef) l[j]) (Yg:∀ c c' x,(∀ i,i < k -> c i=c' i) -> R w c x -> R w c' x):Go.Tw.Rows k R w v l:=by
 refine ⟨fun j=>((L.flatMap enc)[j]?).getD undef,?_,fun j hj=>Yg _ _ _ (fun i hi=>?_) (hR j (by omega) hj)⟩
 . obtain ⟨_,h2⟩:=h
   rw [Fq] at h2
   rcases h2 with ⟨rfl,h0⟩ | ⟨g,Qq,cur,rfl,_,hg,Kq,_,_,mx⟩
   . exact ⟨none,0,by rw [h0],hl,by omega,fun j hj=>by rw [h0,Nat.zero_mul] at hj; omega⟩
   . refine ⟨some ⟨g,0,none⟩,Qq,rfl,hl,Kq,fun j hj=>⟨g,0,rfl,?_⟩⟩
     rw [Nat.zero_add];have h1:=congrArg (fun l=>l[j]?) mx;simp only [List.getElem?_take,hj,if_true] at h1;have Tq:j < (L.flatMap enc).length:=by rw [Q5s hk,Fq]; exact hj
     rw [List.getElem?_eq_getElem Tq] at h1;simp only [World.cell?,hg,List.getElem?_eq_getElem Tq,Option.getD_some]
     simpa using h1
 . show ((enc L[j])[i]?).getD undef=((L.flatMap enc)[j * k + i]?).getD undef
   rw [flat_get hk L j i (by omega) hi]
theorem Q2z {α:Type} {P:Program} {K:Value -> World -> Prop} {o:Oper} {a:Act} {w:World} (s x:Operand) (t:TypeId) (ho:o.op=.call { callee:=.builtin .append,args:=#[s,x],argTypes:=#[t,t] })
    (base:Nat) (e:TypeId) (i:TypeInfo) (z:Value) (k bytes:Nat) (ht:P.underlying t=some (.slice e)) (hi:P.info? e=some i) (hz:i.zero=some z) (zz:i.size=k) (M3:i.bytes=bytes) (Yy:z.cells.size=k) (vk:0 < k)
    (enc:α -> List Value) (hk:∀ x,(enc x).length=k) (v:Value) (xs:List α) (y:α) (hs:a.eval s=v) (Yq:Q1b w base e k enc v xs) (ad:Addr) (c:Nat) (hx:a.eval x=.slice (some ad) 1 c)
    (Jj:∀ j u,(enc y)[j]?=some u -> w.cell? (ad.add j)=some u) (h1:∀ u ∈ enc y,u.oneCell'=true)
    (Z7:xs.length + 1 <= 100000) (hb:bytes <= 1000) (kz:base <= w.heap.size)
    (h:∀ v' w',Q1b w' base e k enc v' (xs ++ [y]) -> w.grownBy w' v.ownBlock -> K v' w'):gives P K ((execOp a.eval o).run P w):=by
 obtain ⟨v',w',hr,h2,h3,h4⟩:=run_append_own (P:=P) w base t o.type e i z k bytes ht hi hz zz M3 Yy vk v xs.length (xs.flatMap enc) Yq ad 1 c (enc y) (by rw [hk]; omega) Jj h1 (by unfold maxLen; omega) (by
     have:(xs.length + 1) * bytes <= 100000 * 1000:=Nat.mul_le_mul Z7 hb;omega) kz
 unfold execOp;simp only [ho,resolve,invoke,builtin,Sem.run_bind,Sem.run_pure,Result.andThen_ok,List.map_toArray,List.map_cons,List.map_nil,hs,hx,hr];exact h v' w' (Q1b.snoc h2) h3
theorem Q6i {w:World} {g:Nat} {T:TypeId} {xs:List Value} (h:Blk w g T xs.toArray):∀ j u,xs[j]?=some u -> w.cell? ((⟨g,0,none⟩:Addr).add j)=some u:=by
 intro j u hu;rw [addr_add,Nat.zero_add,h.cell]
 simpa using hu
end Go.Tw
namespace Go.Proofs
open Go.RowKit Go.Tw Go.Flow
theorem Q0i {P:Program} {K:Value -> World -> Prop} {o:Oper} {a:Act} {w:World} (p:Operand) (T:TypeId) (ho:o.op=.load T p) (hA:∀ w,(isAgg T).run P w=.ok true w) {n:Nat} (hS:∀ w,(sizeOf T).run P w=.ok n w)
    {g:Nat} (hp:a.eval p=.pointer (some ⟨g,0,none⟩)) {BT:TypeId} {cs:Array Value} (hb:Blk w g BT cs) (hn:cs.size=n) (h:K (.agg cs) w):gives P K ((execOp a.eval o).run P w):=by
 subst hn;unfold execOp;simp only [ho,hp,Instr.loadAt,Instr.sureAddr,Sem.run_bind,Sem.run_pure,Result.andThen_ok,Q4o hb hA hS];exact h
theorem Q2i {P:Program} {K:Value -> World -> Prop} {o:Oper} {a:Act} {w:World} (p x:Operand) (T:TypeId) (ho:o.op=.store T p x)
    {n:Nat} (hS:∀ w,(sizeOf T).run P w=.ok n w) {g:Nat} (hp:a.eval p=.pointer (some ⟨g,0,none⟩)) {BT:TypeId} {cs vs:Array Value} (hx:a.eval x=.agg vs) (hb:Blk w g BT cs) (hn:cs.size=n) (hv:vs.size=n) (h1:∀ u ∈ vs.toList,u.oneCell'=true)
    (h:∀ v w',Blk w' g BT vs -> (∀ n,n <= g -> Below n w w') -> (∀ k,k ≠ g -> w'.heap[k]?=w.heap[k]?) -> K v w'):gives P K ((execOp a.eval o).run P w):=by
 obtain ⟨w',hr,Mk,hl,S5⟩:=X0g (P:=P) vs.toList 0 w cs hb h1 (by simp [hn,hv])
 have hs:(storeVar T ⟨g,0,none⟩ (.agg vs)).run P w=.ok () w':=by
  have hc:(Value.agg vs).cells=vs:=rfl;unfold storeVar;simp only [Sem.run_bind,hS,Result.andThen_ok];rw [if_neg (by rw [hc]; simp [hv])]
  exact hr
 have zk:(execOp a.eval o).run P w=.ok .skip w':=by
  unfold execOp;simp only [ho,hp,hx,Instr.storeAt,Instr.sureAddr,Sem.run_bind,Sem.run_pure,Result.andThen_ok,hs]
 rw [zk];exact h _ _ (by simpa using Mk) hl S5
theorem Q1r {P:Program} {w:World} {ops:Array Oper} {rest:List Oper} {o:Oper} {a:Act} {Q:Exit -> Act -> World -> Prop} (hg:o.guard=none)
    (h:gives P (fun u w'=>wpList P ops Q rest (a.put o.dst u) w') ((execOp a.eval o).run P w)):wpList P ops Q (o :: rest) a w :=
 wpList_plain hg fun K' F4=>by
  unfold Oper.wp;exact Q2x (Q5r (fun _ _ hk=>F4 _ _ hk) h)
theorem Y3q {K:Value -> World -> Prop} {o:Oper} {a:Act} {w:World} (x:Operand) (t e:TypeId) (ho:o.op=.makeSlice t x x) (i:TypeInfo) (z:Value) (k bytes:Nat) (ht:Tryz.prog.underlying t=some (.slice e)) (hi:Tryz.prog.info? e=some i) (hz:i.zero=some z) (hs:i.size=k) (M3:i.bytes=bytes)
    (n:Nat) (hx:a.eval x=.int .i64 n) (hn:n <= 1000) (hb:bytes <= 1000)
    (h:K (.slice (some ⟨w.heap.size,0,none⟩) n n) (w.alloc (.cells (madeCells z.cells (n * k)) e))):gives Tryz.prog K ((execOp a.eval o).run Tryz.prog w):=by
 have hnb:bytes * n <= 1000 * 1000:=Nat.mul_le_mul hb hn;have hr:=run_make (P:=Tryz.prog) w t e i z ht hi hz .i64 .i64 n n (by omega) (Int.le_refl _) (by rw [M3]; have:((bytes * n:Nat):Int) <= 1000000:=(by omega); rw [Int.natCast_mul] at this; omega) (by omega)
 simp only [Int.toNat_natCast,hs] at hr;unfold execOp;simp only [ho,hx,Sem.run_bind,hr,Result.andThen_ok,Sem.run_pure];exact h
theorem X5h {P:Program} {w:World} {ops:Array Oper} {rest:List Oper} {o:Oper} {a:Act} {Q:Exit -> Act -> World -> Prop} (hg:o.guard=none) (p x:Operand) (T:TypeId) (vw:o.op=.store T p x)
    (hT:∀ w,(sizeOf T).run P w=.ok 1 w) {g k:Nat} (hp:a.eval p=.pointer (some ⟨g,k,none⟩)) {u:Value} (hx:a.eval x=u) (hu:u.cells=#[u]) (h1:u.oneCell'=true) {BT:TypeId} {cs:Array Value} (hb:Blk w g BT cs) (hk:k < cs.size)
    (hK:∀ w',Blk w' g BT (cs.setIfInBounds k u) -> (∀ n,n <= g -> Below n w w') -> (∀ k,k ≠ g -> w'.heap[k]?=w.heap[k]?) -> wpList P ops Q rest (a.put o.dst undef) w'):wpList P ops Q (o :: rest) a w:=by
 refine wpList_plain hg fun K' F4=>?_;unfold Oper.wp;have h0:=hb.cell k;rw [Array.getElem?_eq_getElem hk] at h0;have hs:(storeVar T ⟨g,k,none⟩ u).run P w=.ok () (w.setCell ⟨g,k,none⟩ u):=by
  unfold storeVar;simp only [Sem.run_bind,hT,Result.andThen_ok,hu];rw [if_neg (by simp)]
  simp only [storeCells,Sem.run_bind,Sem.run_pure];have ea:(⟨g,k,none⟩:Addr).add 0=⟨g,k,none⟩:=by rw [addr_add,Nat.add_zero]
  rw [ea,run_store P w _ u _ h1];simp only [h0,hb.frozen k,Bool.false_eq_true,if_false,Result.andThen_ok]
 have zk:(execOp a.eval o).run P w=.ok .skip (w.setCell ⟨g,k,none⟩ u):=by
  unfold execOp;simp only [vw,hp,hx,Instr.storeAt,Instr.sureAddr,Sem.run_bind,Sem.run_pure,Result.andThen_ok,hs]
 rw [zk];exact F4 _ _ (hK _ (hb.set k u) (fun n hn=>(Below.refl n w).setCell (p:=⟨g,k,none⟩) hn u) (fun k' hk'=>Below.heap_setCell _ _ _ _ hk'))
end Go.Proofs
namespace Go.Proofs
open Go.RowKit Go.Tw Go.Flow Tryz
attribute [local go_sem] Oper.semAt_some
def J1d (s:Q0b) (p:List Rul) (i:Nat):Bool:=(Q2a s i).keeps s.limit (Q0l p (Q0c s.members i))
def Q5y (s:Q0b) (p:List Rul) (k:Nat):List Int:=((List.range k).filter (J1d s p)).map Int.ofNat
theorem Y4o (s:Q0b) (p:List Rul):Q5y s p s.members.length=Q2k s p:=rfl
theorem Y1s (s:Q0b) (p:List Rul) (k:Nat):Q5y s p (k + 1)=if J1d s p k then Q5y s p k ++ [(k:Int)] else Q5y s p k:=by
 unfold Q5y;rw [List.range_succ,List.filter_append,List.map_append]
 by_cases h:J1d s p k=true
 . rw [if_pos h]; simp [h]
 . rw [if_neg h]; simp [h]
theorem X1d (s:Q0b) (p:List Rul) (k:Nat):(Q5y s p k).length <= k:=by
 unfold Q5y;rw [List.length_map];exact Nat.le_trans (List.length_filter_le _ _) (by simp)
theorem X7r (w:World) (x y:Value):(Instr.field 99 (.agg #[x,y]) 1).run prog w=.ok y w:=by kernel_rfl
attribute [local go_sem ↓] X7r
theorem Y8w (w:World) (v u:Value) (s:Q0b) (p:List Rul) (hv:Q0g w v s) (hu:Q0m w u p) (hS:Q0w s) (hp:Q0q s.hist p=0) :
    Calls prog 30 #[v,u] w fun e w'=>∃ x,e=.returned x /\ Q0e w' x (Q2k s p) /\ Ext w w':=by
 obtain ⟨i0,hi,fq,mq,iq⟩:=info_parts info3;have h8:=hS.some.2;have Gk:Hid (∀ (w:World) (v u:Value) (i:Nat),i < s.members.length -> Q0g w v s -> Q0m w u p -> Calls prog 60 #[v,u,.int .i64 (i:Int)] w fun e w'=>∃ x y,e=.returned (.agg #[x,y]) /\ Q1f w' x (Q0l p (Q0c s.members i)) /\ Q0e w' y ((Q2a s i).Q7b (Q0l p (Q0c s.members i))) /\ Ext w w'):=hid (fun w v u i h h1 h2=>J1m w v u s p i h1 h2 hS hp h);obtain ⟨a,b,rfl,h2⟩:=hv;obtain ⟨rv,rfl,hr⟩:=hu;obtain ⟨A,Uq,rfl,-,-,-⟩:=h2.ships.opened;obtain ⟨B,Wq,rfl,-,-,-⟩:=h2.members.opened;obtain ⟨R,Gq,rfl,-,-,-⟩:=hr.opened;have H2:=hid h2;have HR:=hid hr;clear h2 hr hS hp;go_enter func30,ntmps30;go_wp2_with fail;change Code.wp _ _ _ _ ((w.alloc (.cells #[.int .i64 s.limit,.slice A s.ships.length Uq,.slice B s.members.length Wq] 25)).alloc (.cells #[.slice R p.length Gq] 47));obtain ⟨W,Nq,k0,k1,Sq,eW⟩:=Q3p w 25 #[.int .i64 s.limit,.slice A s.ships.length Uq,.slice B s.members.length Wq] 47 #[.slice R p.length Gq];rw [Nq];clear Nq;have K0:=hid k0;have K1:=hid k1;obtain ⟨gs,bq⟩:∃ x,w.heap.size=x:=⟨_,rfl⟩;rw [bq] at K0 K1 eW ⊢;clear k0 k1
 go_loopw [5,6] (fun o i wr=>∃ (k:Nat),k <= s.members.length /\ i=.int .i64 k /\ Q0n wr W.heap.size 3 (.int .i64) o (Q5y s p k) /\ Ext W wr) (fun _ i _=>s.members.length - (intOf i).toNat)
 case atStart=>exact ⟨0,Nat.zero_le _,rfl,Q0n.nil _ _ _ _,Ext.refl _⟩
 case round =>
  obtain ⟨k,hk,rfl,Yq,Dq⟩:=hrel;have c2:=(K0.out.ext Dq).cell 2;simp only [Go.Tw.gA,Go.Tw.gB,Go.Tw.gC] at c2;have rq:=hid Dq;have lq:=hid Yq;clear Dq Yq
  by_cases Tq:k < s.members.length
  . have Lj:(k:Int) < s.members.length:=by omega
    have fj:=Y1s s p k;have yQ:J1d s p k=Z9w s.limit ((Q2a s k).Q7b (Q0l p (Q0c s.members k))):=rfl;have tz:=hid (fun w v u h1 h2=>Gk.out w v u k Tq h1 h2);obtain ⟨pk,Wx⟩:∃ x,(Q2a s k).Q7b (Q0l p (Q0c s.members k))=x:=⟨_,rfl⟩;rw [Wx] at yQ tz;obtain ⟨q,hq⟩:∃ x,Z9w s.limit pk=x:=⟨_,rfl⟩;rw [yQ,hq] at fj;have HQ:=hid hq;have Gj:=hid fj;have Vq:=(Ext.refl wr).drew;clear fj yQ Wx hq
    go_light
    go_wp2;refine Flow.Q1h [.w,.w,.w,.p,.w,.p,.w] [0,1,2,3,4,5,6] [[],[],[],[],[1,2,3],[4],[0,4,5]]
     [.c 0 (.agg #[.int .i64 s.limit,.slice A s.ships.length Uq,.slice B s.members.length Wq]),.c 1 (.agg #[.int .i64 s.limit,.slice A s.ships.length Uq,.slice B s.members.length Wq]),.c 2 (.agg #[.slice R p.length Gq]),.c 3 (.int .i64 (k:Int)),⟨fun v wz=>(fun v w'=>∃ x y,v 4=.agg #[x,y] /\ Q0e w' y pk) v wz,by rintro v a b hx ⟨x,y,h1,h2⟩; exact ⟨x,y,h1,h2.ext hx⟩⟩,⟨fun v wz=>(fun v w'=>Q0e w' (v 5) pk) v wz,by intro v a b hx h; exact Q0e.ext h hx⟩,.c 6 (.bool (Z9w s.limit pk))]
     (by kernel_rfl) rfl (by kernel_rfl) ⟨?g0,?g1,?g2,?g3,?g4,?g5,?g6,trivial⟩ ?post
    case g0 | g1=>
     intro v w1 hx;intro bb hbb;intro K hK;have o1:bb.eval (.tmp 2)=.pointer (some ⟨gs,0,none⟩):=by rw [hbb]; dsimp only; (try simp (discharger:=decide) only [eval_put_ne]); rfl
     exact Q0i (.tmp 2) _ rfl Q9r Q6r o1 (K0.out.ext (rq.out.trans (Vq.trans hx))) rfl (hK _ _ (Ext.refl _) rfl)
    case g2=>
     intro v w1 hx;intro bb hbb;intro K hK;have o1:bb.eval (.tmp 3)=.pointer (some ⟨gs + 1,0,none⟩):=by rw [hbb]; dsimp only; (try simp (discharger:=decide) only [eval_put_ne]); rfl
     exact Q0i (.tmp 3) _ rfl X2l Q7r o1 (K1.out.ext (rq.out.trans (Vq.trans hx))) rfl (hK _ _ (Ext.refl _) rfl)
    case g3=>
     intro v w1 hx;intro bb hbb;subst hbb;refine ⟨_,fun w=>?_,rfl⟩;go_simp
    case g4=>
     intro v w1 hx;(repeat intro (zq:v _=_));intro bb hbb;subst hbb;intro K hK;go_simp;refine Q0d (tz.out w1 _ _ ⟨_,_,rfl,H2.out.ext (Sq.out.trans (rq.out.trans (Vq.trans hx)))⟩ ⟨_,rfl,HR.out.ext (Sq.out.trans (rq.out.trans (Vq.trans hx)))⟩) ?_;rintro e w2 ⟨x,y,rfl,h1,h2,Mq⟩;exact ⟨_,rfl,hK _ _ Mq ⟨x,y,rfl,h2⟩⟩
    case g5=>
     intro v w1 hx (q4:(fun v w'=>∃ x y,v 4=.agg #[x,y] /\ Q0e w' y pk) v w1);intro bb hbb;obtain ⟨x,y,e4,h4⟩:=q4;have o1:bb.eval (.tmp 18)=.agg #[x,y]:=by rw [hbb]; dsimp only; (try simp (discharger:=decide) only [eval_put_ne]); rw [Q0a (by simp only [size_put]; exact (by decide:18 < 26))]; exact e4
     refine ⟨y,fun w=>?_,h4⟩;go_simp
    case g6=>
     intro v w1 hx (q0:v 0=_) _ (q5:(fun v w'=>Q0e w' (v 5) pk) v w1);intro bb hbb;subst hbb;intro K hK;go_simp;refine Q0d (Z5b w1 _ _ s pk ⟨_,_,rfl,H2.out.ext (Sq.out.trans (rq.out.trans (Vq.trans hx)))⟩ q5) ?_;rintro e w2 ⟨rfl,Mq⟩;exact ⟨_,rfl,hK _ _ Mq rfl⟩
    case post =>
     intro v w1 hx;(iterate 4 intro (zq:v _=_));intro (q4:(fun v w'=>∃ x y,v 4=.agg #[x,y] /\ Q0e w' y pk) v w1) (q5:(fun v w'=>Q0e w' (v 5) pk) v w1);(iterate 1 intro (zq:v _=_));simp only [Flow.All,Flow.acts,Act.put];go_simp;have Zq:=rq.out.trans (Vq.trans hx);have Yq:=lq.out.below (Vq.trans hx);rw [HQ.out];have aj:=hid Zq;clear hx Vq q4 q5;(repeat clear zq);obtain ⟨w3,rfl⟩:∃ X,X=w1:=⟨_,rfl⟩;cases q with
     | true =>
       have qq:Hid (Q5y s p (k + 1)=Q5y s p k ++ [(k:Int)]):=hid (by rw [Gj.out,if_pos (by trivial)])
       have Mv:(Q5y s p k).length <= 4096:=by have:=X1d s p k; omega
       have Sx:=hid Yq;have Dj:=aj.out;clear Zq;go_wp2_with (at_builtin; refine wpList_append_own _ rfl _ _ 22 rfl (W.heap.size) 3 i0 (.int .i64 0) 1 8 underlying22 hi fq mq iq rfl (by decide) _ _ _ rfl (World.ownsRow.alloc Yq _) ⟨w3.heap.size,0,none⟩ 1 1 [.int .i64 (k:Int)] rfl rfl ?_ ?_ ?_ ?_ ?_ ?_; exact Q4d _ _ _; (focus (simp [Value.oneCell'])); (focus (unfold maxLen; omega)); (focus omega); (focus (have:=Dj.size; simp at this ⊢; omega)); intro v' w1 Oq Pq _)
       have hx':=Q2d Dj Sx.out (Nat.le_refl _) Pq;go_roundw
       case rel=>exact ⟨k + 1,by omega,by go_num,by rw [qq.out]; exact Q0n.snoc Oq,hx'⟩
       case measure=>simp [intOf]; omega
     | false =>
       have qq:Hid (Q5y s p (k + 1)=Q5y s p k):=hid (by rw [Gj.out]; simp)
       have Sx:=hid Yq;clear Yq Zq;go_wp2;go_roundw
       case rel=>exact ⟨k + 1,by omega,by go_num,by rw [qq.out]; exact Sx.out,aj.out⟩
       case measure=>simp [intOf]; omega
  . have Lj:¬ (k:Int) < s.members.length:=by omega
    have Cj:k=s.members.length:=by omega
    subst Cj;go_wp2;go_ret;exact ⟨_,rfl,by rw [<- Y4o]; exact lq.out.ints (by have:=X1d s p s.members.length; omega),Sq.out.trans rq.out⟩
end Go.Proofs
namespace Go.Proofs
open Go.RowKit Go.Tw Go.Flow
attribute [local go_sem] Oper.semAt_some
def Q5u (s:Q0b) (p:List Rul) (f:List Bool -> Int):Nat -> Int
 | 0=>0
 | k + 1=>Q5u s p f k + Q0o s.members k * f (Q0l p (Q0c s.members k))
theorem Y0j (s:Q0b) (p:List Rul) (f:List Bool -> Int):∀ k,k <= s.members.length -> Q5u s p f k=((s.members.take k).map fun m=>m.weight * f (Q0l p m.classes)).sum
 | 0,_=>by simp [Q5u]
 | k + 1,h=>by
   unfold Q5u;rw [Y0j s p f k (by omega),List.take_succ_eq_append_getElem (by omega),List.map_append,List.sum_append]
   unfold Q0o Q0c;rw [Q0t _ (show k < s.members.length by omega)]
   simp
theorem Y4r (s:Q0b) (p:List Rul) (f:List Bool -> Int):Q5u s p f s.members.length=(s.members.map fun m=>m.weight * f (Q0l p m.classes)).sum:=by
 rw [Y0j s p f _ (Nat.le_refl _),List.take_length]
theorem X9v {s:Q0b} (hS:Q0w s) (p:List Rul) {f:List Bool -> Int} {M:Int} (hM:0 <= M) (hf:∀ l:List Bool,l.length <= s.ships.length -> 0 <= f l /\ f l <= M):∀ k,k <= s.members.length -> 0 <= Q5u s p f k /\ Q5u s p f k <= k * (1000 * M)
 | 0,_=>by simp [Q5u]
 | k + 1,h=>by
   have ih:=X9v hS p hM hf k (by omega)
   have hw:=hS.weights k (by omega)
   have hc:=hf (Q0l p (Q0c s.members k)) (by rw [Q3i,(hS.shaped k (by omega)).1]; exact Nat.le_refl _)
   have h1:0 <= Q0o s.members k * f (Q0l p (Q0c s.members k)):=Int.mul_nonneg (by omega) hc.1
   have h2:Q0o s.members k * f (Q0l p (Q0c s.members k)) <= 1000 * M:=Int.mul_le_mul hw.2 hc.2 hc.1 (by omega)
   unfold Q5u;have h3:((k + 1:Nat):Int) * (1000 * M)=(k:Int) * (1000 * M) + 1000 * M:=by rw [Int.natCast_add,Int.add_mul]; simp
   rw [h3];omega
theorem J1j {s:Q0b} (hS:Q0w s) (l:List Bool) (hl:l.length <= s.ships.length):0 <= Q8a s l /\ Q8a s l <= 6000:=by
 unfold Q8a;have h6:=hS.tides.2;have:∀ k,k <= l.length -> 0 <= ((List.range k).map fun t=>if l.getD t false then ix s.ships t else 0).sum /\ ((List.range k).map fun t=>if l.getD t false then ix s.ships t else 0).sum <= k * 1000:=by
  intro k
  induction k with
  | zero=>intro _; simp
  | succ k ih =>
    intro hk;have:=ih (by omega)
    rw [List.range_succ,List.map_append,List.sum_append];have hd:=hS.delays (ix s.ships k) (by rw [Q5i (show k < s.ships.length by omega)]; exact List.getElem_mem _)
    have e:(List.map (fun t=>if l.getD t false=true then ix s.ships t else 0) [k]).sum=if l.getD k false=true then ix s.ships k else 0:=by simp
    rw [e]
    split <;> omega
 have:=this l.length (Nat.le_refl _);omega
theorem X4n {s:Q0b} (hS:Q0w s) (l:List Bool) (hl:l.length <= s.ships.length):0 <= countB l /\ countB l <= 6:=by
 have:=countB_le l;have:=hS.tides.2;omega
end Go.Proofs
namespace Go.Proofs
open Go.RowKit Go.Tw Go.Flow
theorem J5j (a b:Int) (h0:0 <= a) (hb:0 < b):Int.gcd b (a.tmod b)=Int.gcd a b:=by
 obtain ⟨n,rfl⟩:=Int.eq_ofNat_of_zero_le h0;obtain ⟨m,rfl⟩:=Int.eq_ofNat_of_zero_le (Int.le_of_lt hb);show Nat.gcd m (n % m)=Nat.gcd n m;rw [Nat.gcd_comm n m,Nat.gcd_comm m,<- Nat.gcd_rec]
theorem Ext.frozen {a b:World} (h:Ext a b) {p:Addr} (hp:p.block < a.heap.size):b.frozen? p=a.frozen? p:=by
 obtain ⟨_,_,_,_,h5⟩:=h;unfold World.frozen?; rw [h5 _ hp]
end Go.Proofs
namespace Go.Tw
def Z1w (f:Nat -> List Int) (i:Nat):Bool:=!(List.range i).any fun j=>f j == f i
def Q4j (f:Nat -> List Int) (k i:Nat):List Nat:=(List.range k).filter fun j=>f j == f i
def Q5p (f:Nat -> List Int) (k:Nat):List Nat:=(List.range k).filter (Z1w f)
def Q9c (f:Nat -> List Int) (out:List (List Nat)) (i:Nat):Nat:=out.findIdx fun g=>f (g.headD 0) == f i
def X4s (f:Nat -> List Int) (out:List (List Nat)) (i:Nat):List (List Nat) :=
 if Q9c f out i=out.length then out ++ [[i]] else out.modify (Q9c f out i) (· ++ [i])
def Q4z (f:Nat -> List Int):Nat -> List (List Nat)
 | 0=>[]
 | k + 1=>X4s f (Q4z f k) k
theorem Q8w {f:Nat -> List Int} {i:Nat}:Z1w f i=true ↔ ∀ j,j < i -> f j ≠ f i:=by
 unfold Z1w;simp only [Bool.not_eq_true',List.any_eq_false,List.mem_range,beq_iff_eq]
theorem Q7o (f:Nat -> List Int) (k i:Nat):Q4j f (k + 1) i=Q4j f k i ++ if f k == f i then [k] else []:=by
 unfold Q4j;rw [List.range_succ,List.filter_append]
 by_cases h:(f k == f i)=true
 . rw [if_pos h]; simp [h]
 . rw [if_neg h]; simp [h]
theorem Q8u {f:Nat -> List Int} {i:Nat} (h:Z1w f i=true):∀ {k:Nat},i < k -> (Q4j f k i).head?=some i
 | 0,hk=>absurd hk (Nat.not_lt_zero _)
 | k + 1,hk=>by
   rw [Q7o]
   by_cases hi:i < k
   . rw [List.head?_append,Q8u h hi]; rfl
   . have e:i=k:=by omega
     subst e;have:Q4j f i i=[]:=by
      unfold Q4j;rw [List.filter_eq_nil_iff];intro j hj KG;exact Q8w.1 h j (List.mem_range.1 hj) (by simpa using KG)
     rw [this,if_pos (by simp)]
     rfl
theorem Q9n (f:Nat -> List Int) (k:Nat):Q5p f (k + 1)=Q5p f k ++ if Z1w f k then [k] else []:=by
 unfold Q5p;rw [List.range_succ,List.filter_append]
 by_cases h:Z1w f k=true
 . rw [if_pos h]; simp [h]
 . rw [if_neg h]; simp [h]
theorem X4l {β:Type} {p q:β -> Bool}:∀ {l:List β},(∀ x ∈ l,p x=q x) -> l.findIdx p=l.findIdx q
 | [],_=>rfl
 | x :: l,h=>by
   rw [List.findIdx_cons,List.findIdx_cons,h x (List.mem_cons_self ..),X4l fun y hy=>h y (List.mem_cons_of_mem _ hy)]
theorem X6j {β γ:Type} (g:β -> γ) (p:γ -> Bool):∀ l:List β,(l.map g).findIdx p=l.findIdx (p ∘ g)
 | []=>rfl
 | x :: l=>by rw [List.map_cons,List.findIdx_cons,List.findIdx_cons,X6j g p l]; rfl
theorem X3j {β γ:Type} (g:β -> List γ) (k:γ) (P:β -> Bool):∀ {l:List β},l.Pairwise (fun a b=>¬ (P a=true /\ P b=true)) -> l.findIdx P < l.length -> (l.map g).modify (l.findIdx P) (· ++ [k])=l.map fun i=>g i ++ if P i then [k] else []
 | [],_,h=>absurd h (by simp)
 | x :: l,hp,h=>by
   rw [List.findIdx_cons] at h ⊢;have xQ:=List.pairwise_cons.1 hp
   by_cases hx:P x=true
   . rw [hx]
     simp only [cond_true,List.map_cons,List.modify_zero_cons];rw [if_pos hx]
     congr 1
     refine List.map_congr_left fun i hi=>?_;rw [if_neg (fun Xz=>xQ.1 i hi ⟨hx,Xz⟩),List.append_nil]
   . have hx':P x=false:=by simpa using hx
     rw [hx'] at h ⊢;simp only [cond_false,List.map_cons,List.length_cons] at h ⊢;rw [List.modify_succ_cons,X3j g k P xQ.2 (by omega),if_neg hx,List.append_nil]
theorem X3n (f:Nat -> List Int):∀ k,Q4z f k=(Q5p f k).map (Q4j f k)
 | 0=>rfl
 | k + 1=>by
   unfold Q4z;rw [X3n f k];have JG:Q9c f ((Q5p f k).map (Q4j f k)) k=(Q5p f k).findIdx fun i=>f i == f k:=by
    unfold Q9c;rw [X6j];refine X4l fun i hi=>?_;have hm:=List.mem_filter.1 hi;have hh:=Q8u hm.2 (List.mem_range.1 hm.1);show (f ((Q4j f k i).headD 0) == f k)=_;rw [List.headD_eq_head?_getD,hh];rfl
   unfold X4s;rw [JG,List.length_map,Q9n,List.map_append]
   by_cases hr:Z1w f k=true
   . have hne:=Q8w.1 hr
     have Kk:(Q5p f k).findIdx (fun i=>f i == f k)=(Q5p f k).length:=by
      rw [List.findIdx_eq_length];intro i hi;have:=hne i (List.mem_range.1 (List.mem_filter.1 hi).1)
      simpa using this
     rw [if_pos Kk,if_pos hr]
     congr 1
     . refine List.map_congr_left fun i hi=>?_
       have:=hne i (List.mem_range.1 (List.mem_filter.1 hi).1);rw [Q7o,if_neg (by simpa using fun e=>this e.symm),List.append_nil]
     . rw [List.map_singleton,Q7o,if_pos (by simp)]
       have:Q4j f k k=[]:=by
        unfold Q4j;rw [List.filter_eq_nil_iff];intro j hj KG;exact hne j (List.mem_range.1 hj) (by simpa using KG)
       rw [this]; rfl
   . have GG:∃ j,j < k /\ f j=f k:=by
      apply Classical.byContradiction
      intro mw;exact hr (Q8w.2 fun j hj e=>mw ⟨j,hj,e⟩)
     have V2:∃ r,r ∈ Q5p f k /\ f r=f k:=by
      obtain ⟨j,hj,e⟩:=GG;have:∀ n,n <= j -> (∃ m,m <= n /\ f m=f k) -> ∃ r,r <= n /\ Z1w f r=true /\ f r=f k:=by
       intro n
       induction n with
       | zero =>
         rintro _ ⟨m,hm,em⟩;obtain rfl:m=0:=by omega
         exact ⟨0,Nat.le_refl _,Q8w.2 fun j hj=>absurd hj (Nat.not_lt_zero _),em⟩
       | succ n ih =>
         rintro hn ⟨m,hm,em⟩
         by_cases dq:∃ m,m <= n /\ f m=f k
         . obtain ⟨r,h1,h2,h3⟩:=ih (by omega) dq
           exact ⟨r,by omega,h2,h3⟩
         . have e1:m=n + 1:=by
            apply Classical.byContradiction
            intro hne;exact dq ⟨m,by omega,em⟩
           subst e1;refine ⟨n + 1,Nat.le_refl _,Q8w.2 fun j hj e2=>dq ⟨j,by omega,e2.trans em⟩,em⟩
      obtain ⟨r,h1,h2,h3⟩:=this j (Nat.le_refl _) ⟨j,Nat.le_refl _,e⟩;exact ⟨r,List.mem_filter.2 ⟨List.mem_range.2 (by omega),h2⟩,h3⟩
     have Tq:(Q5p f k).findIdx (fun i=>f i == f k) < (Q5p f k).length:=by
      obtain ⟨r,h1,h2⟩:=V2;exact List.findIdx_lt_length_of_exists ⟨r,h1,by simpa using h2⟩
     rw [if_neg (by omega),if_neg hr,List.map_nil,List.append_nil]
     have vQ:(Q5p f k).Pairwise (fun a b=>¬ ((f a == f k)=true /\ (f b == f k)=true)):=by
      have hs:(Q5p f k).Pairwise (· < ·):=List.pairwise_lt_range.filter _;refine hs.imp_of_mem ?_;rintro a b ha hb ly ⟨h1,h2⟩;have EG:=Q8w.1 (List.mem_filter.1 hb).2 a ly;exact EG ((by simpa using h1:f a=f k).trans (by simpa using h2:f b=f k).symm)
     rw [X3j (Q4j f k) k (fun i=>f i == f k) vQ Tq];refine List.map_congr_left fun i _=>?_;rw [Q7o]
     by_cases h:f i=f k
     . rw [if_pos (by simpa using h),if_pos (by simpa using h.symm)]
     . rw [if_neg (by simpa using h),if_neg (by simpa using fun e=>h e.symm)]
theorem Y4t {f:Nat -> List Int} {k i:Nat} (hi:i < k):((Q4j f k i).head? == some i)=Z1w f i:=by
 by_cases h:Z1w f i=true
 . rw [Q8u h hi,h]; simp
 . have h':Z1w f i=false:=by simpa using h
   rw [h',beq_eq_false_iff_ne];intro hh;have GG:∃ j,j < i /\ f j=f i:=by
    apply Classical.byContradiction
    intro mw;exact h (Q8w.2 fun j hj e=>mw ⟨j,hj,e⟩)
   obtain ⟨j,hj,e⟩:=GG;have hs:(Q4j f k i).Pairwise (· < ·):=List.pairwise_lt_range.filter _;have hm:j ∈ Q4j f k i:=List.mem_filter.2 ⟨List.mem_range.2 (by omega),by simpa using e⟩
   cases hl:Q4j f k i with
   | nil=>rw [hl] at hm; cases hm
   | cons x l =>
     rw [hl] at hh hs hm;injection hh with hh;subst hh
     rcases List.mem_cons.1 hm with rfl | hm
     . omega
     . have:=(List.pairwise_cons.1 hs).1 j hm
       omega
def Q8h (s:Q0b) (i:Nat):List Int:=Q0c s.members i
theorem X5r (s:Q0b) (i:Nat):X1y s i=Q4j (Q8h s) s.members.length i:=rfl
theorem X1g (s:Q0b):Q1k s=(Q5p (Q8h s) s.members.length).map fun i=>⟨(Q4j (Q8h s) s.members.length i).map Int.ofNat,X4p s (Q4j (Q8h s) s.members.length i)⟩:=by
 unfold Q1k Q5p;simp only [X5r]
 congr 1
 refine List.filter_congr fun i hi=>?_;exact Y4t (List.mem_range.1 hi)
theorem Q9f (s:Q0b):Q1k s=(Q4z (Q8h s) s.members.length).map fun l=>⟨l.map Int.ofNat,X4p s l⟩:=by
 rw [X1g,X3n,List.map_map];rfl
end Go.Tw
namespace Go.Tw
def Q8o (s:Q0b) (need:Int) (p:List Rul) (l:List Int):Bool:=l.any (fun i=>!has (Q2k s p) i) || decide (Q1u s l < need)
def Q4s (s:Q0b) (need:Int) (p:List Rul) (l:List Int):Int:=Q0h [Q0f need 0 8000,Q0q s.hist p,Q1z s l,if Q8o s need p l then 22 else 0]
def Q8z (s:Q0b) (need:Int) (p:List Rul) (l:List Int):Int:=if s.err ≠ 0 then s.err else Q4s s need p l
theorem Y8u {s:Q0b} {l:List Int}:Q1z s l=0 ↔ l.length <= 8 /\ ∀ i,i < l.length -> (0 <= ix l i /\ ix l i < s.members.length) /\ (0 < i -> ix l (i - 1) < ix l i):=by
 unfold Q1z
 by_cases h8:8 < l.length
 . rw [if_pos h8]
   constructor
   . intro h; cases h
   . intro h; omega
 . rw [if_neg h8,Q1n]
   constructor
   . intro h
     refine ⟨by omega,fun i hi=>?_⟩
     have:=h _ (List.mem_map.2 ⟨i,List.mem_range.2 hi,rfl⟩)
     split at this
     . cases this
     . split at this
       . cases this
       . rename_i h1 h2
         exact ⟨by omega,fun h0=>by
          apply Classical.byContradiction
          intro hn;exact h2 ⟨h0,by omega⟩⟩
   . rintro ⟨_,h⟩ e he
     obtain ⟨i,hi,rfl⟩:=List.mem_map.1 he;have hh:=h i (List.mem_range.1 hi);rw [if_neg (by omega),if_neg (fun hn=>by have:=hh.2 hn.1; omega)]
theorem X1s (s:Q0b) (p:List Rul):∀ x ∈ Q2k s p,0 <= x /\ x < s.members.length:=by
 intro x hx;obtain ⟨i,hi,rfl⟩:=List.mem_map.1 hx;have:=List.mem_range.1 (List.mem_filter.1 hi).1;exact ⟨Int.natCast_nonneg i,Int.ofNat_lt.2 this⟩
theorem kept_len (s:Q0b) (p:List Rul):(Q2k s p).length <= s.members.length:=by
 unfold Q2k;rw [List.length_map];exact Nat.le_trans (List.length_filter_le _ _) (by simp)
def Q6c (s:Q0b) (need:Int) (l:List Grp):Int:=if s.err ≠ 0 then s.err else if Q0f need 0 8000 ≠ 0 then 3 else if (l.map fun g=>(g.members,g.weight)) ≠ ((Q1k s).map fun g=>(g.members,g.weight)) ∨ need <= Q4u s then 22 else 0
end Go.Tw
namespace Go.Proofs
open Go.RowKit Go.Tw Go.Flow
attribute [local go_sem] Oper.semAt_some
theorem Z8j {s:Q0b} (hS:Q0w s) {l:List Int} (h:∀ x ∈ l,0 <= x /\ x < s.members.length):(l.length:Int) <= Q1u s l /\ Q1u s l <= 1000 * l.length:=by
 induction l with
 | nil=>exact ⟨Int.le_refl _,by simp [Q1u]⟩
 | cons x l ih =>
   have h1:=ih fun y hy=>h y (List.mem_cons_of_mem _ hy);have hx:=h x (List.mem_cons_self ..);have hw:=hS.weights x.toNat (by omega)
   have e:Q1u s (x :: l)=Q0o s.members x.toNat + Q1u s l:=by simp [Q1u]
   rw [e,List.length_cons];omega
theorem Tryz.J6d (w:World):(isAgg 107).run Tryz.prog w=.ok true w:=by kernel_rfl
theorem Tryz.Y5q (w:World):(sizeOf 107).run Tryz.prog w=.ok 2 w:=by kernel_rfl
end Go.Proofs
namespace Go.Proofs
open Go.RowKit Go.Tw Go.Flow Tryz
def codeF (n T k i:Nat):Bool:=if T - k <= i then n.testBit (T - 1 - i) else false
def codeCells (n T k:Nat):Array Value:=((List.range T).map fun i=>Value.bool (codeF n T k i)).toArray
theorem Q5b (n T k:Nat):(codeCells n T k).size=T:=by simp [codeCells]
theorem Y2c (n T:Nat):madeCells #[.bool false] (T * 1)=codeCells n T 0:=by
 apply Array.ext_getElem?
 intro i
 by_cases hi:i < T
 . rw [Array.getElem?_eq_getElem (by rw [size_madeCells]; omega),Array.getElem?_eq_getElem (by rw [Q5b]; exact hi)]
   unfold madeCells codeCells codeF;simp [hi,Nat.mod_one];omega
 . rw [Array.getElem?_eq_none (by rw [size_madeCells]; omega),Array.getElem?_eq_none (by rw [Q5b]; omega)]
theorem Y3e (n:Nat) {T k:Nat} (hk:k < T):(codeCells n T k).setIfInBounds (T - 1 - k) (.bool (n.testBit k))=codeCells n T (k + 1):=by
 apply Array.ext_getElem?
 intro i;rw [Array.getElem?_setIfInBounds]
 by_cases hi:i < T
 . by_cases he:T - 1 - k=i
   . subst he
     rw [if_pos rfl,if_pos (by rw [Q5b]; exact hi)]
     unfold codeCells codeF;simp [hi];rw [decide_eq_true (by omega),Bool.true_and]
     congr 1
     omega
   . rw [if_neg he]
     unfold codeCells codeF;simp only [List.getElem?_toArray,List.getElem?_map,List.getElem?_range hi,Option.map_some]
     congr 2
     by_cases h1:T - k <= i
     . rw [if_pos h1,if_pos (by omega)]
     . rw [if_neg h1,if_neg (by omega)]
 . rw [if_neg (by omega),Array.getElem?_eq_none (by rw [Q5b]; omega),Array.getElem?_eq_none (by rw [Q5b]; omega)]
theorem Y5d (n T:Nat):codeCells n T T=((Q5l n T).map Value.bool).toArray:=by
 unfold codeCells Q5l codeF;rw [List.map_map]
 congr 1
 refine List.map_congr_left fun i _=>?_;simp
theorem J0c {w:World} {g:Nat} {T:TypeId} {l:List Bool} (h:Blk w g T (l.map Value.bool).toArray) (hl:l.length <= 1000):Q1f w (.slice (some ⟨g,0,none⟩) l.length l.length) l:=by
 refine ⟨fun j=>.bool (l.getD j false),⟨some ⟨g,0,none⟩,l.length,rfl,by omega,Nat.le_refl _,fun j hj=>⟨g,0,rfl,?_⟩⟩,fun j hj=>?_⟩
 . have Sv:j < l.length:=by omega
   rw [h.cell]; simp [Sv]
 . simp [hj]
theorem J3x (n k:Nat):(((n / 2 ^ k:Nat):Int).tmod 2 == 1)=n.testBit k:=by
 rw [Nat.testBit_eq_decide_div_mod_eq,show ((n / 2 ^ k:Nat):Int).tmod 2=((n / 2 ^ k % 2:Nat):Int) from (Int.ofNat_tmod _ 2).symm]
 by_cases h:n / 2 ^ k % 2=1
 . rw [h]; rfl
 . rw [decide_eq_false h,beq_eq_false_iff_ne]; omega
theorem Z9m (n k:Nat):((n / 2 ^ k:Nat):Int).tdiv 2=((n / 2 ^ (k + 1):Nat):Int):=by
 rw [show ((n / 2 ^ k:Nat):Int).tdiv 2=((n / 2 ^ k / 2:Nat):Int) from (Int.ofNat_tdiv _ 2).symm,Nat.div_div_eq_div_mul,<- Nat.pow_succ]
theorem Tryz.Z5e (w:World):(sizeOf 4).run prog w=.ok 1 w:=by kernel_rfl
theorem Z7p (w:World) (n T:Nat) (hn:n < 2 ^ 62) (hT:T <= 12) :
    Calls prog 130 #[.int .i64 (n:Int),.int .i64 (T:Int)] w fun e w'=>∃ x,e=.returned x /\ Q1f w' x (Q5l n T) /\ Ext w w':=by
 obtain ⟨i0,hi,fq,mq,iq⟩:=info_parts X8o;go_enter func130,ntmps130;go_upto_region 1 with fail
 go_step
 refine Q1r rfl ?_;go_simp;refine Q1r rfl ?_;refine Y3q (.tmp 7) _ _ rfl i0 _ 1 1 underlying82 hi fq mq iq T rfl (by omega) (by decide) ?_
 have hb:=Blk.made w 4 (madeCells (Value.bool false).cells (T * 1));have hx:=Ext.box w (.cells (madeCells (Value.bool false).cells (T * 1)) 4);obtain ⟨W,hW⟩:∃ X,w.alloc (.cells (madeCells (Value.bool false).cells (T * 1)) 4)=X:=⟨_,rfl⟩;rw [hW] at hb hx ⊢;rw [show madeCells (Value.bool false).cells (T * 1)=codeCells n T 0 from Y2c n T] at hb
 have HB:=hid hb;have HX:=hid hx;obtain ⟨g,hg⟩:∃ x,w.heap.size=x:=⟨_,rfl⟩;rw [hg] at HB ⊢;clear hW hb hx;go_wp2
 go_loopw [0,6] (fun c t wr=>∃ (k:Nat),k <= T /\ t=.int .i64 ((T:Int) - 1 - (k:Int)) /\ c=.int .i64 ((n / 2 ^ k:Nat):Int) /\ Blk wr g 4 (codeCells n T k) /\ Below g W wr) (fun _ t _=>((intOf t) + 1).toNat)
 case atStart=>exact ⟨0,Nat.zero_le _,by go_num,by simp,HB.out,Below.refl _ _⟩
 case round =>
  obtain ⟨k,hk,rfl,rfl,ez,rx⟩:=hrel;have Kv:=hid ez;have lw:=hid rx;clear ez rx
  by_cases Tq:k < T
  . have h0:(0:Int) <= (T:Int) - 1 - (k:Int):=by omega
    have h1:(T:Int) - 1 - (k:Int) < (T:Int):=by omega
    have h2:((T:Int) - 1 - (k:Int)).toNat=T - 1 - k:=by omega
    have Rj:=J3x n k;have T7:=Z9m n k;have U2:n / 2 ^ k <= n:=Nat.div_le_self _ _;have R5:=hid (Y3e n Tq);have uQ:n / 2 ^ (k + 1) <= n / 2 ^ k:=by rw [Nat.pow_succ,<- Nat.div_div_eq_div_mul]; exact Nat.div_le_self _ _
    obtain ⟨c,hc⟩:∃ x,n / 2 ^ k=x:=⟨_,rfl⟩;obtain ⟨c2,Xx⟩:∃ x,n / 2 ^ (k + 1)=x:=⟨_,rfl⟩;rw [hc] at Rj T7 U2 uQ ⊢;rw [Xx] at T7 uQ;have rj:=hid Xx;obtain ⟨q,hq⟩:∃ x,n.testBit k=x:=⟨_,rfl⟩;rw [hq] at Rj R5;have Ol:((c:Int) % 2 == 1)=q:=by rw [<- Rj,Int.tmod_eq_emod_of_nonneg (by omega)]
    have S1:wrap64 (c2:Int)=c2:=by unfold wrap64; omega
    clear hc Xx hq
    go_light
    have Xq:wr.cell? ⟨g,T - 1 - k,none⟩=some (.bool (codeF n T k (T - 1 - k))):=by
     rw [Kv.out.cell];unfold codeCells;simp [show T - 1 - k < T by omega]
    have zZ:=Kv.out.frozen (T - 1 - k);obtain ⟨b0,S7⟩:∃ x,codeF n T k (T - 1 - k)=x:=⟨_,rfl⟩;rw [S7] at Xq;clear S7 Rj;have DG:=hid (Kv.out.set (T - 1 - k) (.bool q));have CG:=hid (lw.out.setCell (p:=⟨g,T - 1 - k,none⟩) (Nat.le_refl _) (.bool q));have Nl:=hid S1;clear uQ U2 hn S1;go_wp2;go_roundw
    case rel=>exact ⟨k + 1,by omega,congrArg (Value.int .i64) (by omega),by rw [rj.out,Nl.out],by rw [<- R5.out]; exact DG.out,CG.out⟩
    case measure=>simp [intOf]; omega
  . have Cj:k=T:=by omega
    subst Cj;have h0:¬ (0:Int) <= (k:Int) - 1 - (k:Int):=by omega
    have HF:Hid (Blk wr g 4 ((Q5l n k).map Value.bool).toArray):=hid (by rw [<- Y5d]; exact Kv.out)
    have hcl:(Q5l n k).length=k:=X1m n k;go_wp2;go_ret;refine ⟨_,rfl,?_,Below.trans HX.out (lw.out.mono (by omega))⟩
    have h:=J0c HF.out (by omega)
    rw [hcl] at h;exact h
def J0p (P:Prop) (w w':World) (e:Ending):Prop:=∃ q,e=.returned (.bool q) /\ (q=true ↔ P) /\ Ext w w'
theorem qno {P:Prop} {w w':World} (h:¬ P) (hx:Ext w w'):J0p P w w' (.returned (.bool false)):=⟨false,rfl,⟨fun k=>(by cases k),fun k=>absurd k h⟩,hx⟩
theorem K1j {P:Prop} {w w':World} (h:P) (hx:Ext w w'):J0p P w w' (.returned (.bool true)):=⟨true,rfl,⟨fun _=>h,fun _=>rfl⟩,hx⟩
def X4t (s:Q0b) (i:Nat):Prop:=(Q1t s.members i).size <= 60 /\ (Q0c s.members i).length <= 8 /\ (Q0z s.members i).length <= 8 /\ (Q1g s.members i).length <= 8
structure Q3v (s:Q0b):Prop where
 ships:s.ships.length <= 7
 members:s.members.length <= 9
 each:∀ i,i < s.members.length -> X4t s i
theorem Z7g (w:World) (v:Value) (s:Q0b) (hv:Q0g w v s) :
    Calls prog 15 #[v] w fun e w'=>J0p (Q3v s) w w' e:=by
 obtain ⟨a,b,rfl,h2⟩:=hv;obtain ⟨A,Uq,rfl,Ov,-,-⟩:=h2.ships.opened;obtain ⟨B,Wq,rfl,Nv,-,hc⟩:=h2.members.opened;have HC:=hid hc;clear h2 hc;have Wy:Hid (¬ s.ships.length <= 7 -> ¬ Q3v s):=hid (fun h hs=>h hs.ships);have NX:Hid (¬ s.members.length <= 9 -> ¬ Q3v s):=hid (fun h hs=>h hs.members);have yZ:Hid (∀ i,i < s.members.length -> ¬ X4t s i -> ¬ Q3v s):=hid (fun i hi h hs=>h (hs.each i hi))
 by_cases h7:7 < s.ships.length
 . have T9:(7:Int) < s.ships.length:=by omega
   have HF:=hid (Wy.out (by omega))
   clear h7;go_enter func15,ntmps15;go_wp2;go_ret;exact qno HF.out (Ext.box _ _)
 have T9:¬ (7:Int) < s.ships.length:=by omega
 by_cases h9:9 < s.members.length
 . have Ae:(9:Int) < s.members.length:=by omega
   have HF:=hid (NX.out (by omega))
   clear h9 h7;go_enter func15,ntmps15;go_wp2;go_ret;exact qno HF.out (Ext.box _ _)
 have Ae:¬ (9:Int) < s.members.length:=by omega
 have Og:Hid ((∀ i,i < s.members.length -> X4t s i) -> Q3v s):=hid (fun h=>⟨by omega,by omega,h⟩)
 clear h7 h9;go_enter func15,ntmps15;go_wp2_with fail;change Code.wp _ _ _ _ (w.alloc (.cells #[.int .i64 s.limit,.slice A s.ships.length Uq,.slice B s.members.length Wq] 25));obtain ⟨W,Nq,k0,Sq,eW⟩:=Q1y w 25 #[.int .i64 s.limit,.slice A s.ships.length Uq,.slice B s.members.length Wq];rw [Nq];clear Nq;have K0:=hid k0;clear k0 T9 Ae
 go_loopw [3] (fun i wr=>∃ k:Nat,k <= s.members.length /\ i=.int .i64 k /\ (∀ j,j < k -> X4t s j) /\ Ext W wr) (fun i _=>s.members.length - (intOf i).toNat)
 case atStart=>exact ⟨0,Nat.zero_le _,rfl,fun j hj=>absurd hj (Nat.not_lt_zero j),Ext.refl _⟩
 case round =>
  obtain ⟨k,hk,rfl,oq,Dq⟩:=hrel;have zx:=hid oq;have c2:=(K0.out.ext Dq).cell 2;simp only [Go.Tw.gA,Go.Tw.gB,Go.Tw.gC] at c2;have rq:=hid Dq;clear oq Dq
  by_cases Tq:k < s.members.length
  . have Lj:(k:Int) < s.members.length:=by omega
    obtain ⟨bm,off,x,y,z,rfl,-,e0,e1,e2,e3,e4,hx,hy,hz,-⟩:=HC.out k Tq;obtain ⟨X,Rq,rfl,-,-,-⟩:=hx.opened;obtain ⟨Y,Jq,rfl,-,-,-⟩:=hy.opened;obtain ⟨Z,Bq,rfl,-,-,-⟩:=hz.opened;replace e0:=(Sq.out.trans rq.out).cell e0;replace e1:=(Sq.out.trans rq.out).cell e1;replace e2:=(Sq.out.trans rq.out).cell e2;replace e3:=(Sq.out.trans rq.out).cell e3;replace e4:=(Sq.out.trans rq.out).cell e4;have Q5:Hid (X4t s k ↔ (Q1t s.members k).size <= 60 /\ (Q0c s.members k).length <= 8 /\ (Q0z s.members k).length <= 8 /\ (Q1g s.members k).length <= 8):=hid Iff.rfl;have P5:=hid (yZ.out k Tq);obtain ⟨nm,vj⟩:∃ x,Q1t s.members k=x:=⟨_,rfl⟩;obtain ⟨wt,Vj⟩:∃ x,Q0o s.members k=x:=⟨_,rfl⟩;obtain ⟨n1,Yv⟩:∃ x,(Q0c s.members k).length=x:=⟨_,rfl⟩;obtain ⟨n2,OX⟩:∃ x,(Q0z s.members k).length=x:=⟨_,rfl⟩;obtain ⟨n3,ze⟩:∃ x,(Q1g s.members k).length=x:=⟨_,rfl⟩;rw [vj] at e0 Q5;rw [Vj] at e1;rw [Yv] at e2 Q5;rw [OX] at e3 Q5;rw [ze] at e4 Q5;clear hx hy hz vj Vj Yv OX ze
    by_cases g0:60 < nm.size
    . have g0I:(60:Int) < (nm.size:Int):=by omega
      have HF:=hid (P5.out (fun h=>by have:=(Q5.out.1 h).1; omega))
      clear g0
      go_light
      go_wp2;go_ret;exact qno HF.out (Ext.trans Sq.out (Ext.trans rq.out (Ext.box _ _)))
    have g0I:¬ (60:Int) < (nm.size:Int):=by omega
    by_cases g1:8 < n1
    . have g1I:(8:Int) < (n1:Int):=by omega
      have HF:=hid (P5.out (fun h=>by have:=(Q5.out.1 h).2.1; omega))
      clear g0 g1
      go_light
      go_wp2;go_ret;exact qno HF.out (Ext.trans Sq.out (Ext.trans rq.out (Ext.box _ _)))
    have g1I:¬ (8:Int) < (n1:Int):=by omega
    by_cases g2:8 < n2
    . have g2I:(8:Int) < (n2:Int):=by omega
      have HF:=hid (P5.out (fun h=>by have:=(Q5.out.1 h).2.2.1; omega))
      clear g0 g1 g2
      go_light
      go_wp2;go_ret;exact qno HF.out (Ext.trans Sq.out (Ext.trans rq.out (Ext.box _ _)))
    have g2I:¬ (8:Int) < (n2:Int):=by omega
    by_cases g3:8 < n3
    . have g3I:(8:Int) < (n3:Int):=by omega
      have HF:=hid (P5.out (fun h=>by have:=(Q5.out.1 h).2.2.2; omega))
      clear g0 g1 g2 g3
      go_light
      go_wp2;go_ret;exact qno HF.out (Ext.trans Sq.out (Ext.trans rq.out (Ext.box _ _)))
    have g3I:¬ (8:Int) < (n3:Int):=by omega
    have HT:=hid (Q5.out.2 ⟨by omega,by omega,by omega,by omega⟩)
    clear g0 g1 g2 g3
    go_light
    go_wp2;go_roundw
    case rel=>exact ⟨k + 1,by omega,by go_num,fun j hj=>by
     by_cases C3:j=k
     . rw [C3]; exact HT.out
     . exact zx.out j (by omega),Ext.trans rq.out (Ext.box _ _)⟩
    case measure=>simp [intOf]; omega
  . have Lj:¬ (k:Int) < s.members.length:=by omega
    have Cj:k=s.members.length:=by omega
    subst Cj;have HT:=hid (Og.out zx.out);go_wp2;go_ret;exact K1j HT.out (Sq.out.trans rq.out)
structure Y3h (p:List Rul):Prop where
 rules:p.length <= 49
 each:∀ i,i < p.length -> (Q0k p i).length <= 8
theorem X7h (w:World) (v:Value) (p:List Rul) (hv:Q0m w v p) :
    Calls prog 27 #[v] w fun e w'=>J0p (Y3h p) w w' e:=by
 obtain ⟨rv,rfl,hr⟩:=hv;obtain ⟨R,Gq,rfl,Ce,-,Kx⟩:=hr.opened;have HC:=hid Kx;clear hr Kx;have Wy:Hid (¬ p.length <= 49 -> ¬ Y3h p):=hid (fun h hs=>h hs.rules);have yZ:Hid (∀ i,i < p.length -> ¬ (Q0k p i).length <= 8 -> ¬ Y3h p):=hid (fun i hi h hs=>h (hs.each i hi))
 by_cases h7:49 < p.length
 . have T9:(49:Int) < p.length:=by omega
   have HF:=hid (Wy.out (by omega))
   clear h7;go_enter func27,ntmps27;go_wp2;go_ret;exact qno HF.out (Ext.box _ _)
 have T9:¬ (49:Int) < p.length:=by omega
 have Og:Hid ((∀ i,i < p.length -> (Q0k p i).length <= 8) -> Y3h p):=hid (fun h=>⟨by omega,h⟩)
 clear h7;go_enter func27,ntmps27;go_wp2_with fail;change Code.wp _ _ _ _ (w.alloc (.cells #[.slice R p.length Gq] 47));obtain ⟨W,Nq,k0,Sq,eW⟩:=Q1y w 47 #[.slice R p.length Gq];rw [Nq];clear Nq;have K0:=hid k0;clear k0 T9
 go_loopw [3] (fun i wr=>∃ k:Nat,k <= p.length /\ i=.int .i64 k /\ (∀ j,j < k -> (Q0k p j).length <= 8) /\ Ext W wr) (fun i _=>p.length - (intOf i).toNat)
 case atStart=>exact ⟨0,Nat.zero_le _,rfl,fun j hj=>absurd hj (Nat.not_lt_zero j),Ext.refl _⟩
 case round =>
  obtain ⟨k,hk,rfl,oq,Dq⟩:=hrel;have zx:=hid oq;have c0:=(K0.out.ext Dq).cell 0;simp only [Go.Tw.gA,Go.Tw.gB,Go.Tw.gC] at c0;have rq:=hid Dq;clear oq Dq
  by_cases Tq:k < p.length
  . have Lj:(k:Int) < p.length:=by omega
    obtain ⟨br,off,x,rfl,-,e0,e1,hx⟩:=HC.out k Tq;obtain ⟨X,Rq,rfl,-,-,-⟩:=hx.opened;replace e0:=(Sq.out.trans rq.out).cell e0;have P5:=hid (yZ.out k Tq);have mp:=hid (rfl:(Q0k p k).length=(Q0k p k).length);obtain ⟨n1,Yv⟩:∃ x,(Q0k p k).length=x:=⟨_,rfl⟩;rw [Yv] at e0 P5;have HN:=hid Yv;clear hx Yv e1
    by_cases g1:8 < n1
    . have g1I:(8:Int) < (n1:Int):=by omega
      have HF:=hid (P5.out (by omega))
      clear g1
      go_light
      go_wp2;go_ret;exact qno HF.out (Ext.trans Sq.out rq.out)
    have g1I:¬ (8:Int) < (n1:Int):=by omega
    have HT:Hid ((Q0k p k).length <= 8):=hid (by rw [HN.out]; omega)
    clear g1
    go_light
    go_wp2;go_roundw
    case rel=>exact ⟨k + 1,by omega,by go_num,fun j hj=>by
     by_cases C3:j=k
     . rw [C3]; exact HT.out
     . exact zx.out j (by omega),rq.out⟩
    case measure=>simp [intOf]; omega
  . have Lj:¬ (k:Int) < p.length:=by omega
    have Cj:k=p.length:=by omega
    subst Cj;have HT:=hid (Og.out zx.out);go_wp2;go_ret;exact K1j HT.out (Sq.out.trans rq.out)
structure Y3l (l:List Grp):Prop where
 groups:l.length <= 9
 each:∀ i,i < l.length -> (Q1w l i).length <= 9
theorem X6u (w:World) (v:Value) (l:List Grp) (hv:Q1q w v l) :
    Calls prog 70 #[v] w fun e w'=>J0p (Y3l l) w w' e:=by
 obtain ⟨R,Gq,rfl,Ce,-,Kx⟩:=hv.opened;have HC:=hid Kx;clear hv Kx;have Wy:Hid (¬ l.length <= 9 -> ¬ Y3l l):=hid (fun h hs=>h hs.groups);have yZ:Hid (∀ i,i < l.length -> ¬ (Q1w l i).length <= 9 -> ¬ Y3l l):=hid (fun i hi h hs=>h (hs.each i hi))
 by_cases h7:9 < l.length
 . have T9:(9:Int) < l.length:=by omega
   have HF:=hid (Wy.out (by omega))
   clear h7;go_enter func70,ntmps70;go_wp2;go_ret;exact qno HF.out (Ext.refl _)
 have T9:¬ (9:Int) < l.length:=by omega
 have Og:Hid ((∀ i,i < l.length -> (Q1w l i).length <= 9) -> Y3l l):=hid (fun h=>⟨by omega,h⟩)
 clear h7;go_enter func70,ntmps70;go_wp2_with fail;clear T9
 go_loopw [3] (fun i wr=>∃ k:Nat,k <= l.length /\ i=.int .i64 k /\ (∀ j,j < k -> (Q1w l j).length <= 9) /\ Ext w wr) (fun i _=>l.length - (intOf i).toNat)
 case atStart=>exact ⟨0,Nat.zero_le _,rfl,fun j hj=>absurd hj (Nat.not_lt_zero j),Ext.refl _⟩
 case round =>
  obtain ⟨k,hk,rfl,oq,Dq⟩:=hrel;have zx:=hid oq;have rq:=hid Dq;clear oq Dq
  by_cases Tq:k < l.length
  . have Lj:(k:Int) < l.length:=by omega
    obtain ⟨br,off,x,rfl,-,e0,e1,hx⟩:=HC.out k Tq;obtain ⟨X,Rq,rfl,-,-,-⟩:=hx.opened;replace e0:=rq.out.cell e0;have P5:=hid (yZ.out k Tq);obtain ⟨n1,Yv⟩:∃ x,(Q1w l k).length=x:=⟨_,rfl⟩;rw [Yv] at e0 P5;have HN:=hid Yv;clear hx Yv e1
    by_cases g1:9 < n1
    . have g1I:(9:Int) < (n1:Int):=by omega
      have HF:=hid (P5.out (by omega))
      clear g1
      go_light
      go_wp2;go_ret;exact qno HF.out (rq.out)
    have g1I:¬ (9:Int) < (n1:Int):=by omega
    have HT:Hid ((Q1w l k).length <= 9):=hid (by rw [HN.out]; omega)
    clear g1
    go_light
    go_wp2;go_roundw
    case rel=>exact ⟨k + 1,by omega,by go_num,fun j hj=>by
     by_cases C3:j=k
     . rw [C3]; exact HT.out
     . exact zx.out j (by omega),rq.out⟩
    case measure=>simp [intOf]; omega
  . have Lj:¬ (k:Int) < l.length:=by omega
    have Cj:k=l.length:=by omega
    subst Cj;have HT:=hid (Og.out zx.out);go_wp2;go_ret;exact K1j HT.out (rq.out)
end Go.Proofs
namespace Go.Tw
open Go.RowKit Go.Flow
def idV (x:Value):Value:=x
def Reads (w:World) (vs:List Value) (ll:List (List Int)):Prop:=vs.length=ll.length /\ ∀ i,i < ll.length -> Q0e w (vs.getD i undef) (ll.getD i [])
theorem Reads.ext {w w':World} {vs:List Value} {ll:List (List Int)} (h:Reads w vs ll) (hx:Ext w w'):Reads w' vs ll:=⟨h.1,fun i hi=>(h.2 i hi).ext hx⟩
theorem Q0e.below {w w':World} {B:Nat} {v:Value} {l:List Int} (h:Q0e w v l) (hb:Below B w w') (dq:∀ b o c,v=.slice (some ⟨b,o,none⟩) l.length c -> l ≠ [] -> b < B):Q0e w' v l:=by
 obtain ⟨c,⟨A,Qq,hv,hn,Kq,hc⟩,h2⟩:=h;refine ⟨c,⟨A,Qq,hv,hn,Kq,fun j hj=>?_⟩,h2⟩;obtain ⟨b,off,hA,h⟩:=hc j hj;refine ⟨b,off,hA,?_⟩;have:b < B:=dq b off Qq (by rw [hv,hA]) (fun e=>by rw [e] at hj; simp at hj)
 exact (hb.cell (p:=⟨b,off + j,none⟩) this).trans h
theorem Reads.snoc {w:World} {vs:List Value} {ll:List (List Int)} {v:Value} {l:List Int} (h:Reads w vs ll) (hv:Q0e w v l):Reads w (vs ++ [v]) (ll ++ [l]):=by
 refine ⟨by simp [h.1],fun i hi=>?_⟩
 rw [List.length_append,List.length_singleton] at hi
 by_cases Tq:i < ll.length
 . have e1:(vs ++ [v]).getD i undef=vs.getD i undef:=by simp [List.getElem?_append_left (show i < vs.length by rw [h.1]; exact Tq)]
   have e2:(ll ++ [l]).getD i []=ll.getD i []:=by simp [List.getElem?_append_left Tq]
   rw [e1,e2]; exact h.2 i Tq
 . have e:i=ll.length:=by omega
   have e1:(vs ++ [v]).getD i undef=v:=by rw [e,<- h.1]; simp
   have e2:(ll ++ [l]).getD i []=l:=by rw [e]; simp
   rw [e1,e2]; exact hv
theorem Y0y {α:Type} (x d:α):∀ (n:Nat) (xs:List α) (i:Nat),n <= xs.length -> (xs.take n ++ [x] ++ xs.drop n).getD i d=if i < n then xs.getD i d else if i=n then x else xs.getD (i - 1) d
 | 0,xs,i,_=>by cases i <;> simp
 | n + 1,[],i,h=>by simp at h
 | n + 1,y :: ys,0,_=>by simp
 | n + 1,y :: ys,i + 1,h=>by
   have:=Y0y x d n ys i (by simpa using h)
   simp only [List.take_succ_cons,List.drop_succ_cons,List.cons_append,List.getD_cons_succ,this]
   by_cases h1:i < n
   . have Oy:i + 1 < n + 1:=by omega
     simp only [h1,Oy,if_true]
   . have Oy:¬ (i + 1 < n + 1):=by omega
     by_cases h2:i=n
     . subst h2
       simp
     . have b6:¬ (i + 1=n + 1):=by omega
       obtain ⟨m,rfl⟩:∃ m,i=m + 1:=⟨i - 1,by omega⟩
       simp only [h1,Oy,h2,b6,if_false];simp
theorem Reads.insert {w:World} {vs:List Value} {ll:List (List Int)} {v:Value} {l:List Int} {n:Nat} (h:Reads w vs ll) (hv:Q0e w v l) (hn:n <= ll.length):Reads w (vs.take n ++ [v] ++ vs.drop n) (ll.take n ++ [l] ++ ll.drop n):=by
 have hl:=h.1;refine ⟨by simp [hl],fun i hi=>?_⟩
 rw [Y0y _ _ _ _ _ (by omega),Y0y _ _ _ _ _ hn]
 simp only [List.length_append,List.length_take,List.length_drop,List.length_singleton] at hi
 split
 . exact h.2 i (by omega)
 . split
   . exact hv
   . exact h.2 (i - 1) (by omega)
theorem Q0n.K0t {w:World} {base:Nat} {e:TypeId} {v:Value} {vs:List Value} {ll:List (List Int)} (h:Q0n w base e idV v vs) (hr:Reads w vs ll) (hl:ll.length <= 17592186043904):Q4g w v ll:=by
 refine ⟨fun k=>vs.getD k undef,?_,fun j hj=>?_⟩
 . rw [<- hr.1]
   exact h.row (by rw [hr.1]; exact hl) _ (fun k hk=>by simp [hk,idV])
 . have:=hr.2 j hj
   rw [Q0t _ hj] at this
   simpa using this
theorem Q4g.opened {w:World} {v:Value} {ll:List (List Int)} (h:Q4g w v ll) :
    ∃ A Qq,v=.slice A ll.length Qq /\ ll.length <= 17592186043904 /\ ll.length <= Qq /\ ∀ k,k < ll.length -> ∃ b off m,A=some ⟨b,off,none⟩ /\ b < w.heap.size /\ w.cell? ⟨b,off + k,none⟩=some m /\ Q0e w m (ll.getD k []):=by
 obtain ⟨c,⟨A,Qq,hv,hn,Kq,hc⟩,h2⟩:=h;refine ⟨A,Qq,hv,hn,Kq,fun k hk=>?_⟩;obtain ⟨b,off,hA,h⟩:=hc k (by omega)
 refine ⟨b,off,c k,hA,World.block_lt_of_cell? w _ h,h,?_⟩;have:=h2 k hk;simp only [Nat.mul_one,Nat.add_zero] at this;rw [Q0t _ hk]; exact this
theorem Q0n.cells {α:Type} {w:World} {base:Nat} {e:TypeId} {enc:α -> Value} {v:Value} {xs:List α} (h:Q0n w base e enc v xs) :
    ∃ A c,v=.slice A xs.length c /\ xs.length <= c /\ (∀ j (hj:j < xs.length),∃ g,A=some ⟨g,0,none⟩ /\ base <= g /\ g < w.heap.size /\ w.cell? ⟨g,0 + j,none⟩=some (enc xs[j])):=by
 obtain ⟨_,h2⟩:=h
 rcases h2 with ⟨rfl,h0⟩ | ⟨g,Qq,cur,rfl,hb,hg,Kq,_,_,mx⟩
 . exact ⟨none,0,by rw [h0],by omega,fun j hj=>by omega⟩
 . refine ⟨some ⟨g,0,none⟩,Qq,rfl,Kq,fun j hj=>⟨g,rfl,hb,(Array.getElem?_eq_some_iff.1 hg).1,?_⟩⟩
   rw [Nat.zero_add];have h1:=congrArg (fun l=>l[j]?) mx;simp only [Nat.mul_one,List.getElem?_take,hj,if_true,List.getElem?_map,List.getElem?_eq_getElem hj,Option.map_some] at h1;simp only [World.cell?,hg]
   simpa using h1
theorem Q0n.cells2 {α:Type} {w:World} {base:Nat} {e:TypeId} {enc:α -> Value} {v:Value} {xs:List α} (h:Q0n w base e enc v xs) :
    (v=.slice none 0 0 /\ xs=[]) ∨ ∃ g c,v=.slice (some ⟨g,0,none⟩) xs.length c /\ xs.length <= c /\ base <= g /\ g < w.heap.size /\ ∀ j (hj:j < xs.length),w.cell? ⟨g,0 + j,none⟩=some (enc xs[j]):=by
 obtain ⟨_,h2⟩:=h
 rcases h2 with ⟨rfl,h0⟩ | ⟨g,Qq,cur,rfl,hb,hg,Kq,_,_,mx⟩
 . exact .inl ⟨rfl,List.length_eq_zero_iff.1 h0⟩
 . refine .inr ⟨g,Qq,rfl,Kq,hb,(Array.getElem?_eq_some_iff.1 hg).1,fun j hj=>?_⟩
   rw [Nat.zero_add];have h1:=congrArg (fun l=>l[j]?) mx;simp only [Nat.mul_one,List.getElem?_take,hj,if_true,List.getElem?_map,List.getElem?_eq_getElem hj,Option.map_some] at h1;simp only [World.cell?,hg]
   simpa using h1
theorem Q0n.weaken {α:Type} {w:World} {base base':Nat} {e:TypeId} {enc:α -> Value} {v:Value} {xs:List α} (h:Q0n w base e enc v xs) (hb:base' <= base):Q0n w base' e enc v xs:=by
 obtain ⟨h1,h2⟩:=h;refine ⟨h1,?_⟩
 rcases h2 with h2 | ⟨g,Qq,cur,hv,Qx,r⟩
 . exact .inl h2
 . exact .inr ⟨g,Qq,cur,hv,Nat.le_trans hb Qx,r⟩
theorem Q0e.one {w:World} {v:Value} {l:List Int} (h:Q0e w v l):(idV v).oneCell'=true:=by
 obtain ⟨A,Qq,rfl,_⟩:=h.opened;rfl
theorem Q0e.cells {w:World} {v:Value} {l:List Int} (h:Q0e w v l):v.cells=#[v]:=by
 obtain ⟨A,Qq,rfl,_⟩:=h.opened;rfl
theorem Reads.one {w:World} {vs:List Value} {ll:List (List Int)} (h:Reads w vs ll):∀ y ∈ vs,(idV y).oneCell'=true:=by
 intro y hy;obtain ⟨i,hi,rfl⟩:=List.getElem_of_mem hy;have:=h.2 i (by rw [<- h.1]; exact hi)
 rw [Q0t _ hi] at this;exact this.one
def Q3j (w:World) (v:Value) (B:Nat) (e:TypeId):Prop:=∃ g,v=.slice (some ⟨g,0,none⟩) 0 0 /\ B <= g /\ w.heap[g]?=some (.cells #[] e (0,0))
theorem Q3j.ext {w w':World} {v:Value} {B:Nat} {e:TypeId} (h:Q3j w v B e) (hx:Ext w w'):Q3j w' v B e :=
 let ⟨g,h1,h2,h3⟩:=h; ⟨g,h1,h2,(Below.block hx g (Array.getElem?_eq_some_iff.1 h3).1).trans h3⟩
theorem Q3j.made (w:World) (B:Nat) (e:TypeId) (h:B <= w.heap.size):Q3j (w.alloc (.cells #[] e)) (.slice (some ⟨w.heap.size,0,none⟩) 0 0) B e:=⟨_,rfl,h,heap_alloc_new w _⟩
def Q3q (w:World) (v:Value) (x:Value):Prop:=∃ g,v=.slice (some ⟨g,0,none⟩) 1 1 /\ w.cell? ⟨g,0,none⟩=some x
theorem Q3q.ext {w w':World} {v x:Value} (h:Q3q w v x) (hx:Ext w w'):Q3q w' v x:=let ⟨g,h1,h2⟩:=h; ⟨g,h1,hx.cell h2⟩
theorem Q3q.made (w:World) (x:Value) (e:TypeId):Q3q (w.alloc (.cells #[x] e)) (.slice (some ⟨w.heap.size,0,none⟩) 1 1) x:=⟨_,rfl,Y5o _ _ _ _⟩
theorem Q3q.src {w:World} {v x:Value} (h:Q3q w v x):Src w idV v [x]:=by
 obtain ⟨g,rfl,hc⟩:=h;refine ⟨_,_,rfl,fun j hj=>⟨g,0,rfl,?_⟩⟩;obtain rfl:j=0:=by rw [List.length_singleton] at hj; omega
 exact hc
theorem Y0t {w w1 w2:World} (hx:Ext w.drew w1) (hb:Below w.heap.size w1 w2):Ext w w2:=Below.trans (((Ext.refl w).drew).trans hx) hb
theorem Q0e.made (w:World) (xs:List Int) (e:TypeId) (h:xs.length <= 17592186043904):Q0e (w.alloc (.cells (xs.map (Value.int .i64)).toArray e)) (.slice (some ⟨w.heap.size,0,none⟩) xs.length xs.length) xs:=by
 refine ⟨fun k=>((xs.map (Value.int .i64))[k]?).getD undef,⟨_,_,rfl,h,Nat.le_refl _,fun j hj=>⟨_,0,rfl,?_⟩⟩,fun j hj=>?_⟩
 . have Sv:j < xs.length:=by omega
   rw [Nat.zero_add,Y5o];simp [Sv]
 . simp [hj]
end Go.Tw
namespace Go.Tw
open Go.RowKit
def Q1o (p:Prop):Prop:=p
theorem halted {p:Prop} (h:Q1o p):p:=h
def Q3l:World -> Value -> List (List Bool) -> Prop:=Rows 1 fun w c x=>Q1f w (c 0) x
theorem Q3l.ext {w w':World} {v:Value} {l:List (List Bool)} (h:Q3l w v l) (hx:Ext w w'):Q3l w' v l:=Rows.ext (fun _ _ _ _ hx h=>h.ext hx) h hx
theorem Q3l.opened {w:World} {v:Value} {ll:List (List Bool)} (h:Q3l w v ll) :
    ∃ A Qq,v=.slice A ll.length Qq /\ ll.length <= 17592186043904 /\ ll.length <= Qq /\ ∀ k,k < ll.length -> ∃ b off x,A=some ⟨b,off,none⟩ /\ b < w.heap.size /\
     w.cell? ⟨b,off + k,none⟩=some x /\ Q1f w x (ll.getD k []):=by
 obtain ⟨c,⟨A,Qq,hv,hn,Kq,hc⟩,h2⟩:=h;refine ⟨A,Qq,hv,by omega,by omega,fun k hk=>?_⟩
 obtain ⟨b,off,hA,h0⟩:=hc k (by omega)
 refine ⟨b,off,c k,hA,World.block_lt_of_cell? w _ h0,h0,?_⟩;have h3:=h2 k hk;rw [Q0t _ hk]
 simpa using h3
def X2h (w:World) (vs:List Value) (ll:List (List Bool)):Prop:=vs.length=ll.length /\ ∀ i,i < ll.length -> Q1f w (vs.getD i undef) (ll.getD i [])
theorem X2h.nil (w:World):X2h w [] []:=⟨rfl,fun _ hi=>absurd hi (Nat.not_lt_zero _)⟩
theorem X2h.ext {w w':World} {vs:List Value} {ll:List (List Bool)} (h:X2h w vs ll) (hx:Ext w w'):X2h w' vs ll:=⟨h.1,fun i hi=>(h.2 i hi).ext hx⟩
theorem X2h.snoc {w:World} {vs:List Value} {ll:List (List Bool)} {v:Value} {l:List Bool} (h:X2h w vs ll) (hv:Q1f w v l):X2h w (vs ++ [v]) (ll ++ [l]):=by
 refine ⟨by simp [h.1],fun i hi=>?_⟩
 by_cases Tq:i < ll.length
 . have e1:(vs ++ [v]).getD i undef=vs.getD i undef:=by simp [List.getD_eq_getElem?_getD,List.getElem?_append_left (show i < vs.length by rw [h.1]; exact Tq)]
   have e2:(ll ++ [l]).getD i []=ll.getD i []:=by simp [List.getD_eq_getElem?_getD,List.getElem?_append_left Tq]
   rw [e1,e2]; exact h.2 i Tq
 . have he:i=ll.length:=by simp at hi; omega
   subst he;have e1:(vs ++ [v]).getD ll.length undef=v:=by rw [<- h.1]; simp
   have e2:(ll ++ [l]).getD ll.length []=l:=by simp
   rw [e1,e2]; exact hv
theorem Q0n.K0s {w:World} {base:Nat} {e:TypeId} {v:Value} {vs:List Value} {ll:List (List Bool)} (h:Q0n w base e idV v vs) (hr:X2h w vs ll) (hl:ll.length <= 17592186043904):Q3l w v ll:=by
 refine ⟨fun k=>vs.getD k undef,?_,fun j hj=>?_⟩
 . rw [<- hr.1]
   exact h.row (by rw [hr.1]; exact hl) _ (fun k hk=>by simp [hk,idV])
 . have:=hr.2 j hj
   rw [Q0t _ hj] at this
   simpa using this
theorem Y3y {α β:Type} {w w':World} {b1 b2:Nat} {T E:TypeId} {enc:α -> Value} {enc':β -> Value} {u v:Value} {l:List α} {us:List β} (h:Q0n w b1 T enc u l) (ho:Q0n w b2 E enc' v us) (BG:T ≠ E) (hg:w.grownBy w' v.ownBlock):Q0n w' b1 T enc u l:=by
 obtain ⟨h1,h2⟩:=h;refine ⟨h1,?_⟩
 rcases h2 with h2 | ⟨g,Qq,cur,hv,Qx,Qj,r⟩
 . exact .inl h2
 . refine .inr ⟨g,Qq,cur,hv,Qx,(hg.block g (Array.getElem?_eq_some_iff.1 Qj).1 fun e=>?_).trans Qj,r⟩
   obtain ⟨o1,o2⟩:=ho
   rcases o2 with ⟨rfl,_⟩ | ⟨g',cap',cur',rfl,_,Lk,_⟩
   . cases e
   . obtain rfl:g'=g:=by simpa [Value.ownBlock,eq_comm] using e
     rw [Qj] at Lk;injection Lk with h;injection h with _ h;exact BG h
theorem Z6a {α:Type} {w:World} {b g k:Nat} {T S:TypeId} {enc:α -> Value} {u x:Value} {l:List α} {cs:Array Value} (h:Q0n w b T enc u l) (hb:Blk w g S cs) (Ml:S ≠ T):Q0n (w.setCell ⟨g,k,none⟩ x) b T enc u l:=by
 obtain ⟨h1,h2⟩:=h;refine ⟨h1,?_⟩
 rcases h2 with h2 | ⟨g',Qq,cur,hv,Qx,Qj,r⟩
 . exact .inl h2
 . refine .inr ⟨g',Qq,cur,hv,Qx,?_,r⟩
   rw [Q3x w ⟨g,k,none⟩ x g' (fun e=>?_)]; exact Qj;have e':g'=g:=e;subst e';unfold Blk at hb;rw [hb] at Qj;injection Qj with h;injection h with _ h;exact Ml h
def X1v {α:Type} (w:World) (T:TypeId) (enc:α -> Value) (vs:List Value) (ll:List (List α)):Prop:=vs.length=ll.length /\ ∀ i,i < ll.length -> Q0n w 0 T enc (vs.getD i undef) (ll.getD i [])
section
variable {α:Type} {w w':World} {T:TypeId} {enc:α -> Value} {vs:List Value} {ll:List (List α)}
theorem X1v.nil (w:World) (T:TypeId) (enc:α -> Value):X1v w T enc [] []:=⟨rfl,fun _ hi=>absurd hi (Nat.not_lt_zero _)⟩
theorem X1v.ext (h:X1v w T enc vs ll) (hx:Ext w w'):X1v w' T enc vs ll:=⟨h.1,fun i hi=>(h.2 i hi).below hx⟩
theorem X1v.grown {β:Type} {b2:Nat} {E:TypeId} {enc':β -> Value} {v:Value} {us:List β} (h:X1v w T enc vs ll) (ho:Q0n w b2 E enc' v us) (BG:T ≠ E) (hg:w.grownBy w' v.ownBlock):X1v w' T enc vs ll :=
 ⟨h.1,fun i hi=>Y3y (h.2 i hi) ho BG hg⟩
theorem X1v.snoc {v:Value} {l:List α} {b:Nat} (h:X1v w T enc vs ll) (hv:Q0n w b T enc v l):X1v w T enc (vs ++ [v]) (ll ++ [l]):=by
 refine ⟨by simp [h.1],fun i hi=>?_⟩
 by_cases Tq:i < ll.length
 . have e1:(vs ++ [v]).getD i undef=vs.getD i undef:=by simp [List.getD_eq_getElem?_getD,List.getElem?_append_left (show i < vs.length by rw [h.1]; exact Tq)]
   have e2:(ll ++ [l]).getD i []=ll.getD i []:=by simp [List.getD_eq_getElem?_getD,List.getElem?_append_left Tq]
   rw [e1,e2]; exact h.2 i Tq
 . have he:i=ll.length:=by simp at hi; omega
   subst he;have e1:(vs ++ [v]).getD ll.length undef=v:=by rw [<- h.1]; simp
   have e2:(ll ++ [l]).getD ll.length []=l:=by simp
   rw [e1,e2]; exact hv.weaken (Nat.zero_le _)
end
theorem X1v.J9r {w:World} {T:TypeId} {vs:List Value} {ll:List (List Bool)} (h:X1v w T .bool vs ll) (hl:∀ i,i < ll.length -> (ll.getD i []).length <= 17592186043904):X2h w vs ll:=⟨h.1,fun i hi=>(h.2 i hi).bools (hl i hi)⟩
end Go.Tw
namespace Go.Flow
open Go.RowKit Go.Tw
def J0v (F:Fence) (n:Nat) (P:Program) (g:Nat) (lb:Array Value) (N:Nat) (R:Nat -> Value -> World -> Prop) (Kp:World -> World -> Prop) (w:World):Prop :=
 ∀ (l:Nat) (J:Nat -> World -> Prop) (W:World),Ext w W -> (∀ k A B,J k A -> Ext A B -> J k B) ->
  (∀ k v W1,k < N -> J k W1 -> R k v W1 -> YieldAt F (n - 1) P l #[v] W1 fun e W'=>e=.returned (.bool true) /\ J (k + 1) W' /\ Kp W1 W') ->
  J 0 W -> CallsIn F n P g (#[.func (.yield l) #[] #[]] ++ lb) W fun e W'=>(∃ v,e=.returned v) /\ J N W'
def Turns (B:Nat) (A A':World):Prop:=∃ l o o',B <= l /\ A.heap[l]?=some o /\ o.isCells=false /\ A'=A.putObj l o'
theorem Turns.cells {B:Nat} {A A':World} (h:Turns B A A') {b:Nat} {o:Obj} (hb:A.heap[b]?=some o) (hc:o.isCells=true):A'.heap[b]?=some o:=by
 obtain ⟨l,o1,o',hB,hl,hn,rfl⟩:=h;have hne:b ≠ l:=fun e=>by subst e; rw [hb] at hl; cases hl; rw [hc] at hn; cases hn
 rw [World.putObj_heap_other hne]; exact hb
theorem Turns.cell {B:Nat} {A A':World} (h:Turns B A A') {p:Addr} {v:Value} (hp:A.cell? p=some v):A'.cell? p=some v:=by
 have Tq:=World.block_lt_of_cell? A p hp;have hb:A.heap[p.block]?=some A.heap[p.block]:=Array.getElem?_eq_getElem Tq;have hc:A.heap[p.block].isCells=true:=by
  unfold World.cell? at hp;rw [hb] at hp;cases ho:A.heap[p.block] <;> rw [ho] at hp <;> simp_all [Obj.isCells]
 have ux:=h.cells hb hc;unfold World.cell? at hp ⊢;rw [ux]; rw [hb] at hp; exact hp
theorem Y1f {W W':World} (h:Ext W W'):KeepsOthers W W':=⟨h.size,fun k o hk _=>by rw [h.block k (Array.getElem?_eq_some_iff.1 hk).1]; exact hk⟩
def J2y (Kp:World -> World -> Prop) (I:Nat -> World -> Prop) (k:Nat) (W:World):Exit -> Act -> World -> Prop
 | .normal,_,W'=>KeepsOthers W W' /\ Kp W W' /\ I (k + 1) W'
 | _,_,_=>False
theorem X2w {F:Fence} {n:Nat} {P:Program} {g:Operand} {ps:Array Tmp} {assign body:Code} {Q:Exit -> Act -> World -> Prop} {a:Act} {w:World}
    (j7:F.round=none) (h1:1 <= n) {gf:Nat} {lb:Array Value} (hg:a.eval g=.func (.func gf) #[] lb) (Ll:F.fn gf) (eg:∀ args w,(callFunc gf args).run P w=.ok (.enter gf args) w)
    {N:Nat} {R:Nat -> Value -> World -> Prop} {Kp:World -> World -> Prop} (AG:J0v F (n - 1) P gf lb N R Kp w) (EX:ps.size=1)
    (ye:∀ {A B C:World},Kp A B -> Kp B C -> Kp A C) (xe:∀ {A A':World},Turns w.heap.size A A' -> Kp A A')
    (Kl:∀ {k v} {A A':World},Turns w.heap.size A A' -> R k v A -> R k v A')
    (I:Nat -> World -> Prop) (ve:∀ k A B,I k A -> Ext A B -> I k B) (zG:∀ {k} {A A':World},Turns w.heap.size A A' -> I k A -> I k A') (h0:I 0 w) (a₁:Value -> Act)
    (i7:∀ (l:Nat) (v:Value) (W:World) (K:Act -> World -> Prop),K (a₁ v) W ->
     assign.wpIn (F.inRound l) (n - 1 - 1) P (Exit.then K (fun _ _ _=>False)) { tmps:=(ps.zip #[v]).foldl (fun t (p,v)=>t.setIfInBounds p v) a.tmps,defers:=[] } W)
    (xZ:∀ (l k:Nat) (v:Value) (W:World),k < N -> I k W -> R k v W -> body.wpIn (F.inRound l) (n - 1 - 1) P (J2y Kp I k W) (a₁ v) W)
    (Cz:∀ (D:Nat) (W:World),w.heap.size <= D -> I N W -> W.heap[D]?=some (.deferred (some [])) -> Q .normal { a with defers:={ target:=.collected D,args:=#[] } :: a.defers } W) :
    (Code.rangeFunc g ps assign body).wpIn F n P Q a w:=by
 refine wpIn_rangeFunc fun fn yG=>?_;rw [j7];obtain ⟨st,yj⟩:∃ st:LoopState -> Loop,st=fun s=>{ state:=s,pending:=none,fn,tmps:=a.tmps,params:=ps,assign,body,defers:=w.heap.size }:=⟨_,rfl⟩
 have stp:∀ s,(st s).pending=none:=fun s=>by rw [yj]
 have sts:∀ s,(st s).state=s:=fun s=>by rw [yj]
 have stu:∀ s s',({ (st s) with state:=s' }:Loop)=st s':=fun s s'=>by rw [yj]
 have ste:∀ s s',({ (st s) with state:=s',pending:=none }:Loop)=st s':=fun s s'=>by rw [yj]
 obtain ⟨W1,qW⟩:∃ W1,(w.alloc (.deferred (some []))).alloc (.loop (st .ready))=W1:=⟨_,rfl⟩;have Yj:Ext w W1:=by rw [<- qW]; exact ((Ext.refl w).alloc _).alloc _
 have Jl:W1.heap[w.heap.size]?=some (.deferred (some [])):=by
  rw [<- qW]; show ((w.heap.push _).push _)[w.heap.size]?=_; simp [Array.getElem?_push]
 have Gl:W1.heap[w.heap.size + 1]?=some (.loop (st .ready)):=by
  have:=World.alloc_heap_new (w.alloc (.deferred (some []))) (.loop (st .ready));rw [World.size_alloc] at this;rw [<- qW]; exact this
 refine ⟨w.heap.size + 1,[{ target:=.collected w.heap.size,args:=#[] }],W1,{ target:=.fn (.func gf) lb,args:=#[.func (.yield (w.heap.size + 1)) #[] #[]] },W1,gf,
  #[.func (.yield (w.heap.size + 1)) #[] #[]] ++ lb,W1,?_,?_,?_,?_,fun _=>h1,?_⟩
 . rw [<- qW,yj]; exact run_enterLoop_outer _ _ _ _ _
 . simp only [resolve,hg]; simp [go_sem]
 . intro f' ue; simp [Target.leads] at ue; subst ue; exact Ll
 . simp [invoke,go_sem,eg]
 refine (AG (w.heap.size + 1) (fun k W=>I k W /\ W.heap[w.heap.size + 1]?=some (.loop (st .ready)) /\ W.heap[w.heap.size]?=some (.deferred (some []))) W1 Yj ?grow ?round
  ⟨ve 0 _ _ h0 Yj,Gl,Jl⟩).mono ?done
 case grow =>
  rintro k A B ⟨hi,hl,hd⟩ hx;exact ⟨ve k A B hi hx,by rw [Below.block hx _ (Array.getElem?_eq_some_iff.1 hl).1]; exact hl,by rw [Below.block hx _ (Array.getElem?_eq_some_iff.1 hd).1]; exact hd⟩
 case round =>
  rintro k v W hk ⟨hi,hl,hd⟩ hr;have Tq:=(Array.getElem?_eq_some_iff.1 hl).1;have hy:=run_yield (P:=P) (args:=#[v]) hl (by rw [yj]; simp [EX])
  rw [yj] at hy;refine ⟨fn,_,assign,body,hy,roundIn_of_wpIn yG (i7 _ v W _ ⟨_,run_beginRound hl (sts _),?_⟩)⟩;rw [stu];obtain ⟨V,hV⟩:∃ V,W.putObj (w.heap.size + 1) (.loop (st .busy))=V:=⟨_,rfl⟩;have Lw:Turns w.heap.size W V:=⟨_,_,_,by omega,hl,rfl,hV.symm⟩
  have zw:V.heap[w.heap.size + 1]?=some (.loop (st .busy)):=by rw [<- hV]; exact World.putObj_heap_same Tq
  have te:V.heap[w.heap.size]?=some (.deferred (some [])):=by rw [<- hV]; exact (World.putObj_heap_other (by omega)).trans hd
  rw [hV];refine wpIn_mono (xZ _ k v V hk (zG Lw hi) (Kl Lw hr)) ?_;rintro e a3 W3 hp;cases e with
  | normal =>
    obtain ⟨xG,Oj,vZ⟩:=hp;have mg:=xG.same _ _ zw rfl;have Ug:=run_endRound (P:=P) none mg;refine ⟨_,_,Ug,rfl,?_,?_⟩
    . have e1:({ (st .busy) with state:=if (none:Option Code).isNone then .ready else .done,pending:=none }:Loop)=st .ready:=by rw [yj]; rfl
      rw [e1];have tQ:Turns w.heap.size W3 (W3.putObj (w.heap.size + 1) (.loop (st .ready))):=⟨_,_,_,by omega,mg,rfl,rfl⟩
      exact ⟨zG tQ vZ,World.putObj_heap_same (Array.getElem?_eq_some_iff.1 mg).1,(World.putObj_heap_other (by omega)).trans (xG.same _ _ te rfl)⟩
    . exact ye (xe Lw) (ye Oj (xe ⟨_,_,_,by omega,mg,rfl,rfl⟩))
  | ret=>exact hp.elim
  | exit id=>exact hp.elim
  | goto t=>exact hp.elim
  | panic ch=>exact hp.elim
  | outgrown=>exact hp.elim
 case done =>
  rintro e W2 ⟨⟨v,rfl⟩,hi,hl,hd⟩;have he:=run_endLoop (P:=P) hl (by rw [sts]; simp)
  rw [stp] at he;exact ⟨none,_,he,Cz _ _ (Nat.le_refl _) (zG ⟨_,_,_,by omega,hl,rfl,rfl⟩ hi) ((World.putObj_heap_other (by omega)).trans hd)⟩
theorem Y6l {ops:Array Oper} {b:Act} {o:Oper} {j:Nat} {want:Bool} {d:Tmp} {T F:Prop} (hg:o.guard=some (j,want)) (hd:(ops[j]?).bind (·.dst)=some d) (pq:d < b.tmps.size) (hv:b.eval (.tmp d)=undef) (h:F):Guarded ops o b T F:=by
 unfold Guarded;rw [hg];refine .inr ⟨?_,h⟩;have h2:b.tmps[d]?=some undef:=by
  have:b.tmps.getD d undef=undef:=hv;rw [Array.getD_eq_getD_getElem?,Array.getElem?_eq_getElem pq] at this;rw [Array.getElem?_eq_getElem pq];exact congrArg some this
 unfold Region.wanted;rw [hg];show (yielded ops b.tmps j == some want)=_;have:yielded ops b.tmps j=none:=by
  unfold yielded;rw [hd];show (match b.tmps[d]? with | some (.bool b)=>some b | _=>none)=_
  rw [h2]; rfl
 rw [this]; rfl
theorem Turns.below {B n:Nat} {A A':World} (h:Turns B A A') (hn:n <= B):Below n A A':=by
 obtain ⟨l,o,o',hB,hl,_,rfl⟩:=h;have Tq:=(Array.getElem?_eq_some_iff.1 hl).1;refine Below.grown (Below.refl n A) (grownBy_putObj' A l o') (by omega) (fun k e=>by cases e; omega)
theorem Turns.own {α:Type} {B b:Nat} {A A':World} (h:Turns B A A') {T:TypeId} {enc:α -> Value} {v:Value} {l:List α} (ho:Q0n A b T enc v l):Q0n A' b T enc v l:=by
 obtain ⟨h1,h2⟩:=ho;refine ⟨h1,?_⟩
 rcases h2 with h2 | ⟨g,Qq,cur,hv,Qx,Qj,r⟩
 . exact .inl h2
 . exact .inr ⟨g,Qq,cur,hv,Qx,h.cells Qj rfl,r⟩
theorem Turns.blk {B g:Nat} {A A':World} (h:Turns B A A') {T:TypeId} {cs:Array Value} (hb:Blk A g T cs):Blk A' g T cs:=h.cells hb rfl
theorem Turns.same {B b:Nat} {A A':World} (h:Turns B A A') (hb:b < B):A'.heap[b]?=A.heap[b]?:=by
 obtain ⟨l,o,o',hB,hl,_,rfl⟩:=h;exact World.putObj_heap_other (by omega)
end Go.Flow
namespace Go.Proofs
open Go.RowKit Go.Tw Go.Flow Tryz
attribute [local go_sem] Oper.semAt_some
theorem J6f {n:Nat} (h:n < 62):wrap64 (2 ^ n)=((2 ^ n:Nat):Int):=by
 have h1:(2:Nat) ^ n < 2 ^ 62:=Nat.pow_lt_pow_right (by omega) h
 have h2:((2 ^ n:Nat):Int)=2 ^ n:=by simp
 rw [<- h2];obtain ⟨m,hm⟩:∃ m,2 ^ n=m:=⟨_,rfl⟩;rw [hm] at h1 ⊢;unfold wrap64; omega
theorem Z9t {s:Nat} (hs:s < 2 ^ 62) (i:Nat):(bits .and .i64 ((s:Int) / 2 ^ i) 1 == 1)=s.testBit i:=by
 have h1:(s:Int) / 2 ^ i=((s / 2 ^ i:Nat):Int):=by simp
 have h2:bits .and .i64 ((s / 2 ^ i:Nat):Int) 1=((s / 2 ^ i &&& 1:Nat):Int):=K2c (a:=s / 2 ^ i) (b:=1) (Nat.lt_of_le_of_lt (Nat.div_le_self _ _) hs) (by decide)
 rw [h1,h2,Nat.and_one_is_mod,K1u];have h3:s / 2 ^ i % 2=0 ∨ s / 2 ^ i % 2=1:=by omega
 rcases h3 with h | h <;> rw [h] <;> rfl
theorem Y6x (w:World) (n:Int) :
    Calls prog 112 #[.int .i64 n] w fun e w'=>e=.returned (.func (.func 170) #[] #[.pointer (some ⟨w.heap.size,0,none⟩)]) /\ Blk w' w.heap.size 3 #[.int .i64 n] /\ w'.heap.size=w.heap.size + 1 /\ Ext w w':=by
 go_enter func112,ntmps112;go_wp2;go_ret;exact ⟨rfl,Blk.made _ _ _,by simp,Ext.box _ _⟩
def X5v (n T k:Nat):List Bool:=(List.range k).map fun i=>n.testBit (T - 1 - i)
theorem Z2r (n T k:Nat):X5v n T (k + 1)=X5v n T k ++ [n.testBit (T - 1 - k)]:=by unfold X5v; rw [List.range_succ,List.map_append]; rfl
theorem Z6k (n T k:Nat):(X5v n T k).length=k:=by simp [X5v]
theorem Z7b (n T:Nat):X5v n T T=Q5l n T:=rfl
def J5y (Be:Nat) (A B:World):Prop:=B.heap[Be]?=A.heap[Be]?
theorem X5p (m Be T:Nat) (w:World) (hT:T <= 8) (hb:Blk w Be 3 #[.int .i64 (T:Int)]) :
    J0v Fence.wide m prog 170 #[.pointer (some ⟨Be,0,none⟩)] (2 ^ T) (fun k v W=>Q0n W 0 4 .bool v (Q5l k T)) (J5y Be) w:=by
 obtain ⟨i0,hi,fq,mq,iq⟩:=info_parts X8o;intro l J W hW hJ hY h0;have vG:=hb.ext hW;have Xq:W.cell? ⟨Be,0,none⟩=some (.int .i64 (T:Int)):=vG.cell 0;have p1:=J6f (n:=T) (by omega)
 obtain ⟨N,hN⟩:∃ N,2 ^ T=N:=⟨_,rfl⟩;rw [hN] at p1 hY ⊢;have jp:N <= 256:=by rw [<- hN]; exact Nat.pow_le_pow_right (n:=2) (by omega) hT
 have O5:=hid vG;clear hb vG hN hW;refine callsIn_of_wp func170 rfl trivial ?_ rfl;simp only [ntmps170,List.size_toArray,List.length_cons,List.length_nil,Nat.reduceAdd,Nat.reduceSub,Array.replicate_succ,Array.replicate_zero,List.push_toArray,List.append_toArray,List.nil_append,List.cons_append]
 gi_wp2
 clear Xq
 gi_loopw [8] (fun p wr=>∃ k:Nat,k <= N /\ p=.int .i64 k /\ J k wr /\ Blk wr Be 3 #[.int .i64 (T:Int)]) (fun p _=>N - (intOf p).toNat)
 case atStart=>exact ⟨0,Nat.zero_le _,rfl,h0,O5.out⟩
 case round =>
  obtain ⟨k,hk,rfl,pW,qj⟩:=hrel
  by_cases Tq:k < N
  . have Lj:(k:Int) < N:=by omega
    have F1:wr.cell? ⟨Be,0,none⟩=some (.int .i64 (T:Int)):=qj.cell 0;have Ng:=hid qj;have uG:=hid pW;have HY:=hid (fun v W1 h1 h2=>hY k v W1 Tq h1 h2);clear pW qj;obtain ⟨wo,rfl⟩:∃ X,X=wr:=⟨_,rfl⟩
    gi_wp2
    clear F1
    gi_loopw [4,12] (fun o t w2=>∃ j:Nat,j <= T /\ t=.int .i64 j /\ Q0n w2 wo.heap.size 4 .bool o (X5v k T j) /\ Ext wo w2) (fun _ t _=>T - (intOf t).toNat)
    case atStart=>exact ⟨0,Nat.zero_le _,rfl,Q0n.nil _ _ _ _,Ext.refl _⟩
    case round =>
     obtain ⟨j,hj,rfl,Yq,Mq⟩:=hrel;have Mg:=Ng.out.ext Mq;have Xx:wr.cell? ⟨Be,0,none⟩=some (.int .i64 (T:Int)):=Mg.cell 0
     by_cases ip:j < T
     . have Q7:(j:Int) < T:=by omega
       have uZ:IntKind.i64.wrap ((T:Int) - 1)=(T:Int) - 1:=Q3b _ (by omega) (by omega)
       have T1:IntKind.i64.wrap ((T:Int) - 1 - (j:Int))=(T:Int) - 1 - (j:Int):=Q3b _ (by omega) (by omega)
       have DX:((T:Int) - 1 - (j:Int)).toNat=T - 1 - j:=by omega
       have fp:¬ (T:Int) - 1 - (j:Int) < 0:=by omega
       have se:min (T - 1 - j) 64=T - 1 - j:=by omega
       have Fk:=Z9t (s:=k) (by omega) (T - 1 - j)
       have R5:=hid (Z2r k T j);obtain ⟨q,hq⟩:∃ x,k.testBit (T - 1 - j)=x:=⟨_,rfl⟩;rw [hq] at Fk R5;have Mv:(X5v k T j).length <= 4096:=by rw [Z6k]; omega
       clear hq Mg
       gi_wp2_with (gi_at_builtin; refine wpListIn_append_own _ rfl _ _ 82 rfl (wo.heap.size) 4 i0 (.bool false) 1 1 underlying82 hi fq mq iq rfl (by decide) _ _ _ rfl (World.ownsRow.alloc Yq _) ⟨wr.heap.size,0,none⟩ 1 1 [.bool q] rfl rfl ?_ ?_ ?_ ?_ ?_ ?_; exact Q4d _ _ _; (focus (simp [Value.oneCell'])); (focus (unfold maxLen; omega)); (focus omega); (focus (have:=Mq.size; simp at this ⊢; omega)); intro v' w1 Oq Pq _)
       have hx':=Q2d Mq Yq (Nat.le_refl _) Pq;go_roundw
       case rel=>exact ⟨j + 1,by omega,by go_num,by rw [R5.out]; exact Q0n.snoc Oq,hx'⟩
       case measure=>simp [intOf]; omega
     . have Q7:¬ (j:Int) < T:=by omega
       have N5:j=T:=by omega
       subst N5;have lq:=hid Yq;have Ox:=hid Mq;have tG:=hid (hJ _ _ _ uG.out Mq);have Fl:=HY.out _ wr tG.out (by rw [<- Z7b]; exact Yq.weaken (Nat.zero_le _))
       obtain ⟨fn,tmps,assign,body,hy,hR⟩:=Fl;clear Yq Mq Mg
       gi_wp2
       refine ⟨fun h=>by simp [Fence.wide] at h,hR.mono ?_⟩
       rintro e W3 ⟨rfl,qe,Oj⟩;have Jv:Blk W3 Be 3 #[.int .i64 (j:Int)]:=by
        have h:=Ng.out.ext Ox.out;unfold Blk at h ⊢;unfold J5y at Oj;rw [Oj]; exact h
       have S2:=hid Jv;have sG:=hid qe;clear qe Jv Oj
       gi_wp2
       go_roundw
       case rel=>exact ⟨k + 1,by omega,by go_num,sG.out,S2.out⟩
       case measure=>simp [intOf]; omega
  . have Lj:¬ (k:Int) < N:=by omega
    have Cj:k=N:=by omega
    subst Cj;have uG:=hid pW;clear pW
    gi_wp2
    go_end0
    exact ⟨⟨_,rfl⟩,uG.out⟩
end Go.Proofs
namespace Go.Tw
theorem Q7i {p:List Rul} {k:Nat} (hk:k < p.length):Q0k p k=p[k].classes:=by unfold Q0k; rw [Q0t _ hk]
theorem J0k {p:List Rul} {k:Nat} (hk:k < p.length):Q3a p k=p[k].close:=by unfold Q3a; rw [Q0t _ hk]
theorem J4h (p:List Rul) (n:Nat):(Z1n p n).length=p.length:=by simp [Z1n]
theorem Y8y (p:List Rul) (n:Nat):(Z1n p n).map Rul.classes=p.map Rul.classes:=by
 refine List.ext_getElem (by simp [Z1n]) fun i h1 h2=>?_
 have hi:i < p.length:=by simpa using h2
 simp [Z1n,Q7i hi]
theorem Z9c {h:List (List Int)} {p:List Rul} {n:Nat} (hp:Q0q h p=0):Q0q h (Z1n p n)=0:=by
 rw [Q2p] at hp ⊢;rw [Y8y,hp]
end Go.Tw
namespace Go.Tw
open Go.RowKit Go.Flow
def X4a (s:ByteArray):List (ByteArray × Value) -> Option Value
 | []=>none
 | p :: l=>if (s == p.1)=true then some p.2 else X4a s l
def Z4r (s:ByteArray) (v:Value):List (ByteArray × Value) -> List (ByteArray × Value)
 | []=>[(s,v)]
 | p :: l=>if (s == p.1)=true then (s,v) :: l else p :: Z4r s v l
def Q6u (w:World) (b:Nat) (l:List (ByteArray × Value)):Prop :=
 ∃ a clock,w.heap[b]?=some (.map a clock) /\ a.toList.map (fun e=>(e.key,e.val))=l.map fun p=>(Value.string p.1,p.2)
theorem Q6u.made (w:World):Q6u (w.alloc (.map #[] 0)) w.heap.size []:=⟨#[],0,by show (w.heap.push _)[w.heap.size]?=_; simp,rfl⟩
theorem Q6u.ext {w w':World} {b:Nat} {l:List (ByteArray × Value)} (h:Q6u w b l) (hx:Ext w w'):Q6u w' b l:=by
 obtain ⟨a,c,hb,he⟩:=h;exact ⟨a,c,by rw [Below.block hx b (Array.getElem?_eq_some_iff.1 hb).1]; exact hb,he⟩
theorem Q6u.lt {w:World} {b:Nat} {l:List (ByteArray × Value)} (h:Q6u w b l):b < w.heap.size:=by
 obtain ⟨a,c,hb,_⟩:=h;exact (Array.getElem?_eq_some_iff.1 hb).1
theorem Y1o (s:ByteArray):∀ (es:List MapEntry) (l:List (ByteArray × Value)) (i:Nat),es.map (fun e=>(e.key,e.val))=l.map (fun p=>(Value.string p.1,p.2)) ->
    ∃ r,Instr.findNow .string (.string s) es i=some r /\ r.map (·.2)=X4a s l
 | [],[],i,_=>⟨none,rfl,rfl⟩
 | [],_ :: _,_,h=>by simp at h
 | _ :: _,[],_,h=>by simp at h
 | e :: es,p :: l,i,h=>by
   simp only [List.map_cons,List.cons.injEq,Prod.mk.injEq] at h;obtain ⟨⟨h1,h2⟩,h3⟩:=h;unfold Instr.findNow X4a;simp only [h1,Instr.sameNow,h2];cases hs:(s == p.1) with
   | true=>exact ⟨some (i,p.2),by simp,by simp⟩
   | false =>
     obtain ⟨r,hr,hf⟩:=Y1o s es l (i + 1) h3;exact ⟨r,by simpa using hr,by simpa using hf⟩
theorem J4c (s:ByteArray):(s == s)=true:=str_eq rfl
theorem J6u {a b:ByteArray} (h:(a == b)=true):a=b:=by
 cases hb:decide (a=b) with
 | true=>exact of_decide_eq_true hb
 | false=>rw [X3g (of_decide_eq_false hb)] at h; cases h
theorem Y4h (s:ByteArray):∀ (es:List MapEntry) (l:List (ByteArray × Value)) (i:Nat),es.map (fun e=>(e.key,e.val))=l.map (fun p=>(Value.string p.1,p.2)) ->
    (Instr.findNow .string (.string s) es i=some none /\ ∀ v,Z4r s v l=l ++ [(s,v)]) ∨
    (∃ j x,Instr.findNow .string (.string s) es i=some (some (i + j,x)) /\ j < es.length /\ (∃ e,es[j]?=some e /\ e.key=.string s) /\ ∀ v e,e.key=Value.string s -> e.val=v ->
     (es.set j e).map (fun e=>(e.key,e.val))=(Z4r s v l).map (fun p=>(Value.string p.1,p.2)))
 | [],[],i,_=>.inl ⟨rfl,fun v=>rfl⟩
 | [],_ :: _,_,h=>by simp at h
 | _ :: _,[],_,h=>by simp at h
 | e :: es,p :: l,i,h=>by
   simp only [List.map_cons,List.cons.injEq,Prod.mk.injEq] at h;obtain ⟨⟨h1,h2⟩,h3⟩:=h;cases hs:(s == p.1) with
   | true =>
     have bw:=J6u hs;refine .inr ⟨0,e.val,?_,by simp,⟨e,rfl,by rw [h1,bw]⟩,fun v e' h4 h5=>?_⟩
     . unfold Instr.findNow
       simp only [h1,Instr.sameNow,hs]; rfl
     . unfold Z4r
       rw [if_pos hs];simp [h4,h5,h3]
   | false =>
     have hn:¬ (s == p.1)=true:=by rw [hs]; simp
     rcases Y4h s es l (i + 1) h3 with ⟨ha,hb⟩ | ⟨j,x,ha,hj,⟨e0,M5,vk⟩,hb⟩
     . refine .inl ⟨?_,fun v=>?_⟩
       . unfold Instr.findNow
         simp only [h1,Instr.sameNow,hs]; exact ha
       . unfold Z4r
         rw [if_neg hn,hb v]; rfl
     . refine .inr ⟨j + 1,x,?_,by simp; omega,⟨e0,by simpa using M5,vk⟩,fun v e' h4 h5=>?_⟩
       . unfold Instr.findNow
         simp only [h1,Instr.sameNow,hs];rw [show i + (j + 1)=i + 1 + j from by omega]; exact ha
       . unfold Z4r
         rw [if_neg hn];simp only [List.set_cons_succ,List.map_cons,h1,h2];rw [hb v e' h4 h5]
theorem X5l {P:Program} {w:World} {r:Nat} {es:Array MapEntry} {clock:Nat} (hb:w.heap[r]?=some (.map es clock)):(getObj r).run P w=.ok (.map es clock) w:=by
 simp [getObj,Sem.run,hb]
theorem Y3i {P:Program} {w:World} {r:Nat} {es:Array MapEntry} {clock:Nat} (o:Obj) (hb:w.heap[r]?=some (.map es clock)):(setObj r o).run P w=.ok () { w with heap:=w.heap.setIfInBounds r o }:=by
 simp [setObj,Sem.run,hb]
theorem X4u {P:Program} {w:World} {k:TypeId} (hk:P.underlying k=some .string) (e:Bool) (s:ByteArray) (n:Nat):(Instr.checkKey e (n + 1) k (.string s)).run P w=.ok () w:=by
 unfold Instr.checkKey;simp only [Sem.run_bind,run_underlying hk,Result.andThen_ok,Sem.run_pure]
theorem Y2n {P:Program} {w:World} {b:Nat} {l:List (ByteArray × Value)} (h:Q6u w b l) {t k e:TypeId} (ht:P.underlying t=some (.map k e)) (hk:P.underlying k=some .string) {z:Value} (hz:(zeroValue e).run P w=.ok z w) (s:ByteArray) (ok:Bool) :
    (Instr.lookup t (.map (some b)) (.string s) ok).run P w=.ok (if ok then .tuple #[(X4a s l).getD z,.bool (X4a s l).isSome] else (X4a s l).getD z) w:=by
 obtain ⟨a,clock,hb,he⟩:=h;obtain ⟨r,hr,hf⟩:=Y1o s a.toList l 0 he;unfold Instr.lookup;simp only [Sem.run_bind,run_underlying ht,Result.andThen_ok,X5l hb,Sem.run_pure,X4u hk _ s 9999,Instr.findKey,run_underlying hk,hr];rw [<- hf];cases r with
 | none=>simp only [Sem.run_bind,hz,Result.andThen_ok,Sem.run_pure]; cases ok <;> rfl
 | some p=>cases ok <;> rfl
theorem Z3a {P:Program} {w:World} {b:Nat} {l:List (ByteArray × Value)} (h:Q6u w b l) {t k e:TypeId} (ht:P.underlying t=some (.map k e)) (hk:P.underlying k=some .string) (s:ByteArray) (v:Value) :
    ∃ w',(Instr.mapUpdate t (.map (some b)) (.string s) v).run P w=.ok () w' /\ Q6u w' b (Z4r s v l) /\ (∀ n,n <= b -> Below n w w') /\ w.grownBy w' (some b):=by
 obtain ⟨a,clock,hb,he⟩:=h;have Tq:=(Array.getElem?_eq_some_iff.1 hb).1;have rx:∀ o n,n <= b -> Below n w { w with heap:=w.heap.setIfInBounds b o }:=fun o n hn =>
  ⟨rfl,rfl,rfl,by simp,fun k hk'=>by show (w.heap.setIfInBounds b o)[k]?=_; rw [Array.getElem?_setIfInBounds_ne (by omega)]⟩
 have Xy:∀ o,w.grownBy { w with heap:=w.heap.setIfInBounds b o } (some b):=fun o =>
  ⟨rfl,rfl,rfl,by simp,fun k _ hk'=>by show (w.heap.setIfInBounds b o)[k]?=_; rw [Array.getElem?_setIfInBounds_ne (fun e=>hk' (by rw [e]))]⟩
 rcases Y4h s a.toList l 0 he with ⟨hr,hp⟩ | ⟨j,x,hr,hj,⟨e0,M5,vk⟩,hp⟩
 . refine ⟨{ w with heap:=w.heap.setIfInBounds b (.map (a.push ⟨.string s,v,clock⟩) (clock + 1)) },?_,⟨a.push ⟨.string s,v,clock⟩,clock + 1,?_,?_⟩,rx _,Xy _⟩
   . unfold Instr.mapUpdate
     simp only [Sem.run_bind,run_underlying ht,Result.andThen_ok,X5l hb,Sem.run_pure,X4u hk _ s 9999,Instr.findKey,run_underlying hk,hr];exact Y3i _ hb
   . show (w.heap.setIfInBounds b _)[b]?=_; simp [Tq]
   . rw [hp v]; simp [he]
 . rw [Nat.zero_add] at hr
   have tZ:a[j]?=some e0:=by simpa using M5
   refine ⟨{ w with heap:=w.heap.setIfInBounds b (.map (a.modify j fun e=>{ e with key:=.string s,val:=v }) clock) },?_,⟨a.modify j fun e=>{ e with key:=.string s,val:=v },clock,?_,?_⟩,rx _,Xy _⟩
   . unfold Instr.mapUpdate
     simp only [Sem.run_bind,run_underlying ht,Result.andThen_ok,X5l hb,Sem.run_pure,X4u hk _ s 9999,Instr.findKey,run_underlying hk,hr,tZ,Option.map_some,Option.getD_some,vk];have MQ:(Instr.keyThatStays (.string s) (.string s)).run P w=.ok (.string s) w:=by
      unfold Instr.keyThatStays;rw [if_pos (by unfold Instr.sameBits; exact J4c s)]; rfl
     simp only [MQ,Result.andThen_ok];exact Y3i _ hb
   . show (w.heap.setIfInBounds b _)[b]?=_; simp [Tq]
   . have:=hp v { e0 with key:=.string s,val:=v } rfl rfl
     rw [<- this]
     congr 1
     apply List.ext_getElem?
     intro i;rw [Array.getElem?_toList,Array.getElem?_modify,List.getElem?_set]
     by_cases hij:j=i
     . subst hij
       have Cl:j < a.size:=by simpa using hj
       simp only [tZ,Option.map_some,if_true,Array.length_toList,Cl]
     . simp [hij]
end Go.Tw
namespace Go.Tw
open Go.RowKit
theorem Y8x (s k:ByteArray) (v:Value):∀ l,X4a k (Z4r s v l)=if k=s then some v else X4a k l
 | []=>by
   unfold Z4r X4a
   by_cases h:k=s
   . rw [if_pos (str_eq h),if_pos h]
   . rw [if_neg (by rw [X3g h]; simp),if_neg h]; rfl
 | p :: l=>by
   unfold Z4r
   by_cases hs:s=p.1
   . rw [if_pos (str_eq hs)]
     by_cases h:k=s
     . simp only [X4a]; rw [if_pos (str_eq h),if_pos h]
     . simp only [X4a]; rw [if_neg (by rw [X3g h]; simp),if_neg h,if_neg (by rw [<- hs,X3g h]; simp)]
   . rw [if_neg (by rw [X3g hs]; simp)]
     simp only [X4a]
     by_cases hk:k=p.1
     . rw [if_pos (str_eq hk),if_pos (str_eq hk),if_neg (fun e=>hs (by rw [<- e,hk]))]
     . have h1:¬ (k == p.1)=true:=by rw [X3g hk]; simp
       rw [if_neg h1,Y8x s k v l]
       by_cases h:k=s
       . rw [if_pos h,if_pos h]
       . rw [if_neg h,if_neg h,if_neg h1]
def Q8f (p:List Rul):Nat -> List (ByteArray × Value)
 | 0=>[]
 | k + 1=>Z4r (Q7g (Q0k p k)) (.bool (Q3a p k)) (Q8f p k)
theorem J1z (p:List Rul) (r:Rul) (h:List Int) (hn:h=r.classes -> h ∉ p.map Rul.classes):look (p ++ [r]) h=if h=r.classes then r.close else look p h:=by
 unfold look;rw [List.find?_append]
 by_cases he:h=r.classes
 . have h0:p.find? (fun x=>x.classes == h)=none:=by
    rw [List.find?_eq_none];intro x hx Vy;exact hn he (List.mem_map.2 ⟨x,hx,by simpa using Vy⟩)
   rw [h0,if_pos he];simp [he]
 . rw [if_neg he]
   have h1:(r.classes == h)=false:=by rw [beq_eq_false_iff_ne]; exact fun e=>he e.symm
   cases hf:p.find? (fun x=>x.classes == h) with
   | some x=>simp
   | none=>simp [h1]
theorem Z5g {p:List Rul} (hn:(p.map Rul.classes).Nodup) (hd:∀ k,k < p.length -> Digits (Q0k p k)) {h:List Int} (hh:Digits h) :
    ∀ k,k <= p.length -> (X4a (Q7g h) (Q8f p k)).getD (.bool false)=.bool (look (p.take k) h)
 | 0,_=>rfl
 | k + 1,hk=>by
   have Tq:k < p.length:=by omega
   rw [Q8f,Y8x,List.take_succ_eq_append_getElem Tq];have rG:h=p[k].classes -> h ∉ (p.take k).map Rul.classes:=by
    rintro rfl hm;obtain ⟨x,hx,he⟩:=List.mem_map.1 hm;obtain ⟨j,hj,rfl⟩:=List.getElem_of_mem hx;rw [List.length_take] at hj;rw [List.getElem_take] at he;have vQ:=List.pairwise_iff_getElem.1 hn j k (by simp; omega) (by simpa using Tq) (by omega)
    simp only [List.getElem_map] at vQ;exact vQ he
   rw [J1z _ _ _ rG]
   by_cases he:h=p[k].classes
   . rw [if_pos he,if_pos (by rw [he,Q7i Tq]),J0k Tq]; rfl
   . rw [if_neg he,if_neg (fun e=>he (by rw [Z4w hh (hd k Tq) e,Q7i Tq]))]
     exact Z5g hn hd hh k (by omega)
theorem Y9e {p:List Rul} (hn:(p.map Rul.classes).Nodup) (hd:∀ k,k < p.length -> Digits (Q0k p k)) {h:List Int} (hh:Digits h) :
    (X4a (Q7g h) (Q8f p p.length)).getD (.bool false)=.bool (look p h):=by
 rw [Z5g hn hd hh _ (Nat.le_refl _),List.take_length]
end Go.Tw
namespace Go.Proofs
open Go.RowKit Go.Tw Go.Flow Tryz
theorem Tryz.K0y:(prog.info? 5).map (fun i=>(i.zero,i.size,i.bytes))=some (some (.int .u8 0),1,1):=by kernel_rfl
theorem J2a (W:World) (x:Int) (h:0 <= x /\ x <= 9) :
    Calls prog 165 #[.int .i64 x] W fun e W'=>e=.returned (.int .u8 x) /\ W=W':=by
 have hc:(convert 3 5 (.int .i64 x)).run prog W=.ok (.int .u8 x) W:=by
  have hw:IntKind.u8.wrap x=x:=by simp [IntKind.wrap,IntKind.bits,IntKind.signed]; omega
  have h1:prog.underlying 3=some (.int .i64):=by kernel_rfl
  have h2:prog.underlying 5=some (.int .u8):=by kernel_rfl
  simp [convert,run_underlying h1,run_underlying h2,Conv.intToInt,hw]
 go_enter func165,ntmps165;go_wp2;go_ret;exact ⟨rfl,rfl⟩
theorem J3g (l:List Int) {k:Nat} (hk:k < l.length):l.take k ++ [ix l k]=l.take (k + 1):=by
 rw [List.take_succ_eq_append_getElem hk,Q5i hk]
theorem Y2q (w:World) (v:Value) (l:List Int) (hv:Q0e w v l) (lx:l.length <= 4096) (hd:Digits l) :
    Calls prog 164 #[v,.func (.func 165) #[] #[]] w fun e w'=>∃ x,e=.returned x /\ Q0n w' w.heap.size 5 (.int .u8) x l /\ Ext w w':=by
 obtain ⟨i0,hi,fq,mq,iq⟩:=info_parts K0y;obtain ⟨A,Qq,rfl,hl,Kq,hc⟩:=hv.opened;have HC:=hid hc;have HD:=hid hd;clear hv hc hd;go_enter func164,ntmps164;go_wp2
 go_loopw [5,10] (fun o i wr=>∃ (k:Nat),k <= l.length /\ i=.int .i64 k /\ Q0n wr w.heap.size 5 (.int .u8) o (l.take k) /\ Ext w wr) (fun _ i _=>l.length - (intOf i).toNat)
 case atStart=>exact ⟨0,Nat.zero_le _,rfl,Q0n.nil _ _ _ _,Ext.refl _⟩
 case round =>
  obtain ⟨k,hk,rfl,Yq,hx⟩:=hrel;have Fq:(l.take k).length=k:=by rw [List.length_take]; omega
  by_cases Tq:k < l.length
  . obtain ⟨b,off,rfl,Xq⟩:=HC.out k Tq
    have tk:=hid (J3g l Tq);have oW:=HD.out (ix l k) (by rw [Q5i Tq]; exact List.getElem_mem Tq)
    obtain ⟨s,hs⟩:∃ s,ix l k=s:=⟨_,rfl⟩;rw [hs] at Xq tk oW;have o7:=hid (J2a wr s oW);replace Xq:=hx.cell Xq;have Mv:(l.take k).length <= 4096:=by omega
    clear hs Fq oW;go_wp2_with (first | (refine o7.out.mono ?_; rintro e w9 ⟨rfl,rfl⟩) | (at_builtin; refine wpList_append_own _ rfl _ _ 212 rfl (w.heap.size) 5 i0 (.int .u8 0) 1 1 underlying212 hi fq mq iq rfl (by decide) _ _ _ rfl (World.ownsRow.alloc Yq _) ⟨wr.heap.size,0,none⟩ 1 1 [.int .u8 s] rfl rfl ?_ ?_ ?_ ?_ ?_ ?_; exact Q4d _ _ _; (focus (simp [Value.oneCell'])); (focus (unfold maxLen; omega)); (focus omega); (focus (have:=hx.size; simp at this ⊢; omega)); intro v' w1 Oq Pq _))
    have hx':=Q2d hx Yq (Nat.le_refl _) Pq;go_wp2;go_roundw
    case rel=>exact ⟨k + 1,by omega,by go_num,by rw [<- tk.out]; exact Q0n.snoc Oq,hx'⟩
    case measure=>simp [intOf]; omega
  . have HE:Hid (l.take k=l):=hid (List.take_of_length_le (by omega))
    rw [HE.out] at Yq;have Qz:=hid Yq;clear Yq Fq;go_wp2;go_ret;exact ⟨_,rfl,Qz.out,hx⟩
theorem Y6s (w:World) {base:Nat} {u:Value} {l:List Int} (hu:Q0n w base 5 (.int .u8) u l) :
    (convert 212 9 u).run prog w=.ok (.string (Q7g l)) w:=by
 have h1:prog.underlying 212=some (.slice 5):=by kernel_rfl
 have h2:prog.underlying 5=some (.int .u8):=by kernel_rfl
 have h3:prog.underlying 9=some .string:=by kernel_rfl
 rcases hu.cells2 with ⟨rfl,rfl⟩ | ⟨g,c,rfl,-,-,-,Xq⟩
 . rw [run_convert_bytes_nil w _ _ h1 h2 0 0 _ h3]; rfl
 . rw [run_convert_bytes_arg w _ _ h1 h2 g 0 l.length c l rfl (fun i hi=>by rw [Xq i hi]; simp [hi]) _ h3]; rfl
theorem Y5r (w:World) (v:Value) (l:List Int) (hv:Q0e w v l) (lx:l.length <= 4096) (hd:Digits l) :
    Calls prog 102 #[v] w fun e w'=>e=.returned (.string (Q7g l)) /\ Ext w w':=by
 have HM:=hid (Y2q w v l hv lx hd);obtain ⟨A,Qq,rfl,-,-,-⟩:=hv.opened;clear hv hd;go_enter func102,ntmps102;go_wp2_with fail;refine HM.out.mono ?_;rintro e w5 ⟨u,rfl,hu,Cq⟩;have P7:=Y6s w5 hu;have HX:=hid Cq;clear hu Cq;go_wp2;go_ret;exact ⟨rfl,HX.out⟩
end Go.Proofs
