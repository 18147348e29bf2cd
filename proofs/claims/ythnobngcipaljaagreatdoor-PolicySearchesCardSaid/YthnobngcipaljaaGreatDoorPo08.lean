/- Contract of the reference: Follow. Contracts: a member's step, its Q3e, keeps. The closings of a policy as the reference makes them (each rule that fits is put behind) are those of the specification: plain lists, no program is in sight. Contract of the reference: closings. Contract of the reference: Play. Worlds that differ from an earlier one in one block alone; slices of structs appended to in such a world. A whole load of a block inside a drawn region. Contract of the reference: Kept. Contracts of the reference: Closings, Delay. The contract of the reference's Lowest. The groups as the reference makes them are those of the specification: plain lists, no program is in sight. Certificates and refusals: what is accepted and what is not; plain lists, no program is in sight. Contract of the reference: Chance. -/
import Derived.Test.YthnobngcipaljaaGreatDoorPo07
import Derived.Test.YthnobngcipaljaaGreatDoorPo05
import Derived.Test.YthnobngcipaljaaGreatDoorPo03
import Derived.Test.YthnobngcipaljaaGreatDoorPo04
set_option maxRecDepth 1000000
set_option maxHeartbeats 64000000
set_option linter.unusedVariables false
set_option linter.unusedSimpArgs false
set_option linter.constructorNameAsVariable false
namespace Go.Proofs
open Go.RowKit Go.Tw Go.Flow
theorem Y0z (m:Mem) (l:List Bool) {k:Nat} (hk:k < l.length) (lv:Int):m.Q1w k lv (l.drop k) = (m.stepT k lv (bx l k)).1 :: m.Q1w (k + 1) (m.stepT k lv (bx l k)).2 (l.drop (k + 1)):=by
 rw [X6z hk]; rfl
theorem X1c (m:Mem):∀ (l:List Bool) (t:Nat) (lv:Int),(m.Q1w t lv l).length = l.length
 | [],_,_=>rfl
 | _ :: l,t,lv=>by
   unfold Mem.Q1w;rw [List.length_cons,List.length_cons,X1c m l]
theorem Z4k (m:Mem) (l:List Bool):(m.Q3e l).length = l.length:=X1c m l 0 0
theorem X0v (w:World) (v u:Value) (s:Q0b) (i:Nat) (l:List Bool) (hv:Q0h w v s) (him:i < s.members.length) (hu:Q0x w u l) (hl9:l.length <= 9) (hlo:l.length <= (Q1l s i).outside.length) (hli:l.length <= (Q1l s i).inflow.length)
    (hb:∀ x ∈ (Q1l s i).inflow,0 <= x /\ x <= 1024) :
    Calls Tryz.prog 51 #[v,.int .i64 (i:Int),u] w fun e w'=>∃ x,e = .returned x /\ Q0d w' x ((Q1l s i).Q3e l) /\ Ext w w':=by
 obtain ⟨i0,hi,hz0,hz1,hz2⟩:=info_parts Tryz.info3;obtain ⟨a,b,rfl,h2⟩:=hv;obtain ⟨A,capa,rfl,hla,-,-⟩:=h2.ships.opened;obtain ⟨B,capb,rfl,hlb,-,hc⟩:=h2.members.opened;obtain ⟨bm,off,x,y,z,rfl,hbm,e0,e1,e2,e3,e4,hx,hy,hz,-⟩:=hc i him;have eY:Q0r s.members i = (Q1l s i).outside:=rfl;have eZ:Q0z s.members i = (Q1l s i).inflow:=rfl;rw [eY] at hy;rw [eZ] at hz;obtain ⟨X,capx,rfl,-,-,-⟩:=hx.opened;obtain ⟨Y,capy,rfl,-,-,hcY⟩:=hy.opened;obtain ⟨Z,capz,rfl,-,-,hcZ⟩:=hz.opened;obtain ⟨U,capu,rfl,-,-,hcU⟩:=hu.opened;have hiI:(i:Int) < s.members.length:=by omega
 obtain ⟨m,hm⟩:∃ x,Q1l s i = x:=⟨_,rfl⟩;rw [hm] at hlo hli hb hcY hcZ hy hz e3 e4 ⊢;have HCY:=Lib.hid hcY;have HCZ:=Lib.hid hcZ;have HCU:=Lib.hid hcU;have HBD:Hid (∀ k,k < m.inflow.length -> 0 <= ix m.inflow k /\ ix m.inflow k <= 1024):=Lib.hid (fun k hk=>by rw [Q4w hk]; exact hb _ (List.getElem_mem hk))
 obtain ⟨nm,hnm⟩:∃ x,Q1k s.members i = x:=⟨_,rfl⟩;obtain ⟨wt,hwt⟩:∃ x,Q0k s.members i = x:=⟨_,rfl⟩;obtain ⟨lc,hlc⟩:∃ x,(Q0c s.members i).length = x:=⟨_,rfl⟩;rw [hnm] at e0;rw [hwt] at e1;rw [hlc] at e2;clear hc hx hy hz hcY hcZ hcU hu h2 hm hb hnm hwt hlc eY eZ;go_enter Tryz.func51,Tryz.ntmps51;go_wp2_with fail;change Code.wp _ _ _ _ ((w.alloc (.cells #[.int .i64 s.limit,.slice A s.ships.length capa,.slice (some ⟨bm,off,none⟩) s.members.length capb] 25)).alloc (.cells #[.string nm,.int .i64 wt,.slice X lc capx,.slice Y m.outside.length capy,.slice Z m.inflow.length capz] 68));obtain ⟨W,hWW,k0,k1,HXW,eW⟩:=Q4e w 25 #[.int .i64 s.limit,.slice A s.ships.length capa,.slice (some ⟨bm,off,none⟩) s.members.length capb] 68 #[.string nm,.int .i64 wt,.slice X lc capx,.slice Y m.outside.length capy,.slice Z m.inflow.length capz];rw [hWW];clear hWW;have K1:=Lib.hid k1;clear k0 k1 e0 e1 e2 e3 e4 eW
 go_loopw [8,9,10] (fun lv o t wr=>∃ (k:Nat) (n:Int) (pk:List Int),k <= l.length /\ t = .int .i64 k /\ lv = .int .i64 n /\ (0 <= n /\ n <= 1024 * k) /\ pk.length = k /\ pk ++ m.Q1w k n (l.drop k) = m.Q3e l /\ Q0t wr W.heap.size 3 (.int .i64) o pk /\ Ext W wr) (fun _ _ t _=>l.length - (intOf t).toNat)
 case atStart=>exact ⟨0,0,[],Nat.zero_le _,rfl,rfl,⟨Int.le_refl _,by omega⟩,rfl,rfl,Q0t.nil _ _ _ _,Ext.refl _⟩
 case round =>
  obtain ⟨k,n,pk,hk,rfl,rfl,⟨hn0,hn1⟩,hpk,hr,hown,hx⟩:=hrel;have HR:=Lib.hid hr;clear hr
  by_cases hlt:k < l.length
  . obtain ⟨bu,ou,hU,_,hcu⟩:=HCU.out k hlt
    obtain ⟨by',oy,hY,hcy⟩:=HCY.out k (by omega)
    obtain ⟨bz,oz,hZ,hcz⟩:=HCZ.out k (by omega)
    subst hU hY hZ;have hbd:=HBD.out k (by omega)
    have hst:=Y0z m l hlt n;replace hcu:=(HXW.out.trans hx).cell hcu;replace hcy:=(HXW.out.trans hx).cell hcy;replace hcz:=(HXW.out.trans hx).cell hcz;have k1:=K1.out.ext hx;have c3:=k1.cell 3;have c4:=k1.cell 4;simp only [Go.Tw.gA,Go.Tw.gB,Go.Tw.gC] at c3 c4;have hkI:(k:Int) < l.length:=by omega
    have hkY:(k:Int) < m.outside.length:=by omega
    have hkZ:(k:Int) < m.inflow.length:=by omega
    clear k1;cases hq:bx l k with
    | true =>
      rw [hq] at hcu hst;obtain ⟨x,hxv⟩:∃ x,ix m.inflow k = x:=⟨_,rfl⟩;have hst2:m.Q1w k n (l.drop k) = (n + x) :: m.Q1w (k + 1) (n + x) (l.drop (k + 1)):=by rw [hst,<- hxv]; rfl
      rw [hxv] at hcz hbd;have hwr:IntKind.i64.wrap (n + x) = n + x:=Q2p _ (by omega) (by omega)
      have HS:=Lib.hid hst2;have HB2:Hid (0 <= n + x /\ n + x <= 1024 * ((k + 1:Nat):Int)):=Lib.hid (by omega)
      clear hq hst hst2 hxv
      go_light
      go_wp2_with (at_builtin; refine wpList_append_own _ rfl _ _ 22 rfl (W.heap.size) 3 i0 (.int .i64 0) 1 8 Tryz.underlying22 hi hz0 hz1 hz2 rfl (by decide) _ _ _ rfl (World.ownsRow.alloc hown _) ⟨wr.heap.size,0,none⟩ 1 1 [.int .i64 (n + x)] rfl rfl ?_ ?_ ?_ ?_ ?_ ?_; exact Q4b _ _ _; (focus (simp [Value.oneCell'])); (focus (unfold maxLen; omega)); (focus omega); (focus (have:=hx.size; simp at this ⊢; omega)); intro v' w1 hown' hgrow _)
      have hx2:=Q2l hx hown (Nat.le_refl _) hgrow;go_roundw
      case rel=>exact ⟨k + 1,n + x,pk ++ [n + x],by omega,by go_num,rfl,HB2.out,by simp [hpk],by rw [<- HR.out,HS.out]; simp,Q0t.snoc hown',hx2⟩
      case measure=>simp [intOf]; omega
    | false =>
      rw [hq] at hcu hst;obtain ⟨x,hxv⟩:∃ x,ix m.outside k = x:=⟨_,rfl⟩;have hst2:m.Q1w k n (l.drop k) = x :: m.Q1w (k + 1) 0 (l.drop (k + 1)):=by rw [hst,<- hxv]; rfl
      rw [hxv] at hcy;have HS:=Lib.hid hst2;clear hq hst hst2 hxv hbd
      go_light
      go_wp2_with (at_builtin; refine wpList_append_own _ rfl _ _ 22 rfl (W.heap.size) 3 i0 (.int .i64 0) 1 8 Tryz.underlying22 hi hz0 hz1 hz2 rfl (by decide) _ _ _ rfl (World.ownsRow.alloc hown _) ⟨wr.heap.size,0,none⟩ 1 1 [.int .i64 x] rfl rfl ?_ ?_ ?_ ?_ ?_ ?_; exact Q4b _ _ _; (focus (simp [Value.oneCell'])); (focus (unfold maxLen; omega)); (focus omega); (focus (have:=hx.size; simp at this ⊢; omega)); intro v' w1 hown' hgrow _)
      have hx2:=Q2l hx hown (Nat.le_refl _) hgrow;go_roundw
      case rel=>exact ⟨k + 1,0,pk ++ [x],by omega,by go_num,rfl,⟨Int.le_refl _,by omega⟩,by simp [hpk],by rw [<- HR.out,HS.out]; simp,Q0t.snoc hown',hx2⟩
      case measure=>simp [intOf]; omega
  . have hkI:¬ (k:Int) < l.length:=by omega
    have HF:Hid (pk = m.Q3e l):=Lib.hid (by rw [<- HR.out,List.drop_eq_nil_of_le (by omega)]; simp [Mem.Q1w])
    go_wp2;go_ret;exact ⟨_,rfl,by rw [<- HF.out]; exact hown.ints (by omega),HXW.out.trans hx⟩
end Go.Proofs
namespace Go.Proofs
open Go.RowKit Go.Tw Go.Flow
theorem Y7f (w:World) (v:Value) (l:List Int) (g:Nat) (c:Value) (p:Int -> Bool) (hv:Q0d w v l) (eg:∀ args w,(callFunc g args).run Tryz.prog w = .ok (.enter g args) w)
    (hp:∀ W x,Ext w W -> x ∈ l -> Calls Tryz.prog g #[.int .i64 x,c] W fun e W'=>e = .returned (.bool (p x)) /\ Ext W W') :
    Calls Tryz.prog 176 #[v,.func (.func g) #[] #[c]] w fun e w'=>∃ r:Int,e = .returned (.int .i64 r) /\ decide (0 <= r) = l.any p /\ Ext w w':=by
 obtain ⟨A,cap,rfl,hl,hcap,hc⟩:=hv.opened;have HP:=Lib.hid hp;have HC:=Lib.hid hc;clear hv hp hc;go_enter Tryz.func176,Tryz.ntmps176;go_wp2
 go_loopw [8] (fun i wr=>∃ k:Nat,k <= l.length /\ i = .int .i64 k /\ (l.drop k).any p = l.any p /\ Ext w wr) (fun i _=>l.length - (intOf i).toNat)
 case atStart=>exact ⟨0,Nat.zero_le _,rfl,rfl,Ext.refl _⟩
 case round =>
  obtain ⟨k,hk,rfl,hr,hx⟩:=hrel;have HR:=Lib.hid hr; clear hr
  by_cases hlt:k < l.length
  . obtain ⟨b,off,rfl,hcell⟩:=HC.out k hlt
    replace hcell:=hx.cell hcell;have hmem:ix l k ∈ l:=by rw [Q4w hlt]; exact List.getElem_mem hlt
    have hd:=Q3b hlt;have HST:Hid (l.any p = (p (ix l k) || (l.drop (k + 1)).any p)):=Lib.hid (by rw [<- HR.out,hd,List.any_cons])
    obtain ⟨y,hy⟩:∃ y,ix l k = y:=⟨_,rfl⟩;have HPY:=Lib.hid (HP.out wr (ix l k) hx hmem);rw [hy] at HPY hcell HST;obtain ⟨q,hq⟩:∃ q,p y = q:=⟨_,rfl⟩;rw [hq] at HPY HST;clear hq hy hd hmem;cases q with
    | true =>
      go_wp2_with (refine HPY.out.mono ?_; rintro e w9 ⟨rfl,hx9⟩);go_ret;exact ⟨k,rfl,by rw [HST.out]; simp,hx.trans hx9⟩
    | false =>
      go_wp2_with (refine HPY.out.mono ?_; rintro e w9 ⟨rfl,hx9⟩);go_roundw
      case rel=>exact ⟨k + 1,by omega,by go_num,by rw [HST.out,Bool.false_or],hx.trans hx9⟩
      case measure=>simp [intOf]; omega
  . go_wp2
    go_ret;exact ⟨-1,rfl,by rw [<- HR.out,List.drop_eq_nil_of_le (by omega)]; rfl,hx⟩
theorem X9r (w:World) (v:Value) (l:List Int) (g:Nat) (c:Value) (p:Int -> Bool) (hv:Q0d w v l) (eg:∀ args w,(callFunc g args).run Tryz.prog w = .ok (.enter g args) w)
    (hp:∀ W x,Ext w W -> x ∈ l -> Calls Tryz.prog g #[.int .i64 x,c] W fun e W'=>e = .returned (.bool (p x)) /\ Ext W W') :
    Calls Tryz.prog 138 #[v,.func (.func g) #[] #[c]] w fun e w'=>e = .returned (.bool (l.any p)) /\ Ext w w':=by
 have HI:=Lib.hid (Y7f w v l g c p hv eg hp);obtain ⟨A,cap,rfl,hl,hcap,hc⟩:=hv.opened;obtain ⟨q,hq⟩:∃ q,l.any p = q:=⟨_,rfl⟩;rw [hq] at HI ⊢;clear hv hc hp hq;go_enter Tryz.func138,Tryz.ntmps138;go_wp2_with (go_at_call 176; refine HI.out.mono ?_; rintro e w' ⟨r,rfl,hr,hx⟩; have HR:=Lib.hid hr; clear hr);go_ret;exact ⟨Q0s HR.out,hx⟩
def X1r (w:World) (v:Value) (m:Mem):Prop:=∃ x y z,v = .agg #[.string m.name,.int .i64 m.weight,x,y,z] /\ Q0d w x m.classes /\ Q0d w y m.outside /\ Q0d w z m.inflow
theorem X1r.ext {w w':World} {v:Value} {m:Mem} (h:X1r w v m) (hx:Ext w w'):X1r w' v m:=let ⟨x,y,z,e,h1,h2,h3⟩:=h; ⟨x,y,z,e,h1.ext hx,h2.ext hx,h3.ext hx⟩
structure OkM (m:Mem) (n:Nat):Prop where
 out:n <= m.outside.length
 inf:n <= m.inflow.length
 bd:∀ k,k < m.inflow.length -> 0 <= ix m.inflow k /\ ix m.inflow k <= 1024
theorem Y5w (w:World) (v:Value) (m:Mem) (t:Nat) (n:Int) (c:Bool) (hv:X1r w v m) (ho:t < m.outside.length) (hi:t < m.inflow.length) (hn:0 <= n /\ n <= 100000) (hb:0 <= ix m.inflow t /\ ix m.inflow t <= 1024) :
    Calls Tryz.prog 173 #[v,.int .i64 (t:Int),.int .i64 n,.bool c] w fun e w'=>e = .returned (.tuple #[.int .i64 (m.stepT t n c).1,.int .i64 (m.stepT t n c).2]) /\ Ext w w':=by
 obtain ⟨x,y,z,rfl,hx,hy,hz⟩:=hv;obtain ⟨X,capx,rfl,-,-,-⟩:=hx.opened;obtain ⟨Y,capy,rfl,-,-,hcY⟩:=hy.opened;obtain ⟨Z,capz,rfl,-,-,hcZ⟩:=hz.opened;obtain ⟨by',oy,rfl,hcy⟩:=hcY t ho
 obtain ⟨bz,oz,rfl,hcz⟩:=hcZ t hi;have hbox:=Ext.box w (.cells #[.string m.name,.int .i64 m.weight,.slice X m.classes.length capx,.slice (some ⟨by',oy,none⟩) m.outside.length capy,.slice (some ⟨bz,oz,none⟩) m.inflow.length capz] 69)
 have K0:=Blk.made w 69 #[.string m.name,.int .i64 m.weight,.slice X m.classes.length capx,.slice (some ⟨by',oy,none⟩) m.outside.length capy,.slice (some ⟨bz,oz,none⟩) m.inflow.length capz]
 have c0:=(K0).cell 0;have c1:=(K0).cell 1;have c2:=(K0).cell 2;have c3:=(K0).cell 3;have c4:=(K0).cell 4;simp only [Go.Tw.gA,Go.Tw.gB,Go.Tw.gC] at c0 c1 c2 c3 c4;replace hcy:=hbox.cell hcy;replace hcz:=hbox.cell hcz;have htO:(t:Int) < m.outside.length:=by omega
 have htI:(t:Int) < m.inflow.length:=by omega
 clear hx hy hz hcY hcZ K0;cases c with
 | true =>
   have HS:Hid (m.stepT t n true = (n + ix m.inflow t,n + ix m.inflow t)):=Lib.hid rfl;have hwr:IntKind.i64.wrap (n + ix m.inflow t) = n + ix m.inflow t:=Q2p _ (by omega) (by omega)
   rw [HS.out];obtain ⟨d,hd⟩:∃ d,ix m.inflow t = d:=⟨_,rfl⟩;rw [hd] at hcz hwr ⊢;clear hd hb;go_enter Tryz.func173,Tryz.ntmps173;go_wp2;go_ret2;exact ⟨rfl,hbox⟩
 | false =>
   have HS:Hid (m.stepT t n false = (ix m.outside t,0)):=Lib.hid rfl;rw [HS.out];clear hb;go_enter Tryz.func173,Tryz.ntmps173;go_wp2;go_ret2;exact ⟨rfl,hbox⟩
theorem Z0p {m:Mem} {t:Nat} {n:Int} {c:Bool} {k:Nat} (hn:0 <= n /\ n <= 1024 * k) (hb:0 <= ix m.inflow t /\ ix m.inflow t <= 1024):0 <= (m.stepT t n c).2 /\ (m.stepT t n c).2 <= 1024 * ((k + 1:Nat):Int):=by
 unfold Mem.stepT;cases c with
 | true=>simp only [if_true]; omega
 | false=>simp only [Bool.false_eq_true,if_false]; omega
theorem X4d (w:World) (v u:Value) (m:Mem) (l:List Bool) (hv:X1r w v m) (hu:Q0x w u l) (hl9:l.length <= 9) (hm:OkM m l.length) :
    Calls Tryz.prog 127 #[v,u] w fun e w'=>∃ x,e = .returned x /\ Q0d w' x (m.Q3e l) /\ Ext w w':=by
 obtain ⟨i0,hi,hz0,hz1,hz2⟩:=info_parts Tryz.info3;have HV:=Lib.hid hv;obtain ⟨x,y,z,rfl,hx,hy,hz⟩:=hv;obtain ⟨X,capx,rfl,-,-,-⟩:=hx.opened;obtain ⟨Y,capy,rfl,-,-,-⟩:=hy.opened;obtain ⟨Z,capz,rfl,-,-,-⟩:=hz.opened;obtain ⟨U,capu,rfl,-,-,hcU⟩:=hu.opened;have HCU:=Lib.hid hcU;have HM:=Lib.hid hm;clear hx hy hz hcU hu hm;go_enter Tryz.func127,Tryz.ntmps127;go_wp2_with fail;change Code.wp _ _ _ _ (w.alloc (.cells #[.string m.name,.int .i64 m.weight,.slice X m.classes.length capx,.slice Y m.outside.length capy,.slice Z m.inflow.length capz] 69));obtain ⟨W,hWW,k0,HXW,eW⟩:=Q1q w 69 #[.string m.name,.int .i64 m.weight,.slice X m.classes.length capx,.slice Y m.outside.length capy,.slice Z m.inflow.length capz];rw [hWW];clear hWW;have K0:=Lib.hid k0;clear k0
 go_loopw [5,6,13] (fun o lv t wr=>∃ (k:Nat) (n:Int) (pk:List Int),k <= l.length /\ t = .int .i64 k /\ lv = .int .i64 n /\ (0 <= n /\ n <= 1024 * k) /\ pk.length = k /\ pk ++ m.Q1w k n (l.drop k) = m.Q3e l /\ Q0t wr W.heap.size 3 (.int .i64) o pk /\ Ext W wr) (fun _ _ t _=>l.length - (intOf t).toNat)
 case atStart=>exact ⟨0,0,[],Nat.zero_le _,rfl,rfl,⟨Int.le_refl _,by omega⟩,rfl,rfl,Q0t.nil _ _ _ _,Ext.refl _⟩
 case round =>
  obtain ⟨k,n,pk,hk,rfl,rfl,hn,hpk,hr,hown,hx⟩:=hrel;have HR:=Lib.hid hr;have HN:=Lib.hid hn;have HPK:=Lib.hid hpk;clear hr
  by_cases hlt:k < l.length
  . obtain ⟨bu,ou,rfl,-,hcu⟩:=HCU.out k hlt
    replace hcu:=(HXW.out.trans hx).cell hcu;have hst:=Y0z m l hlt n;have hbd:=HM.out.bd k (by have:=HM.out.inf; omega)
    have HLB:=Lib.hid (Z0p (c:=bx l k) hn hbd);have HCALL:=Lib.hid (fun wr (hx:Ext w wr)=>Y5w wr _ m k n (bx l k) (HV.out.ext hx) (by have:=HM.out.out; omega) (by have:=HM.out.inf; omega) ⟨hn.1,by omega⟩ hbd)
    obtain ⟨c,hc⟩:∃ c,bx l k = c:=⟨_,rfl⟩;rw [hc] at hcu hst HLB HCALL;obtain ⟨P,hP⟩:∃ P,(m.stepT k n c).1 = P:=⟨_,rfl⟩;obtain ⟨Q,hQ⟩:∃ Q,(m.stepT k n c).2 = Q:=⟨_,rfl⟩;rw [hP,hQ] at hst HCALL;rw [hQ] at HLB;have HST:=Lib.hid hst;have c0:=(K0.out.ext hx).cell 0;have c1:=(K0.out.ext hx).cell 1;have c2:=(K0.out.ext hx).cell 2;have c3:=(K0.out.ext hx).cell 3;have c4:=(K0.out.ext hx).cell 4;simp only [Go.Tw.gA,Go.Tw.gB,Go.Tw.gC] at c0 c1 c2 c3 c4;have hkI:(k:Int) < l.length:=by omega
    have HXX:=Lib.hid hx;have HOW:=Lib.hid hown;have hll:pk.length <= 4096:=by omega
    clear hst hP hQ hc hn hbd hown hpk hx
    go_light
    go_wp2_with (first | (go_at_call 173; refine (HCALL.out _ (HXW.out.trans HXX.out)).mono ?_; rintro e w5 ⟨rfl,hx5⟩; have hown:=HOW.out.below hx5; have hx6:=HXX.out.trans hx5) | (at_builtin; refine wpList_append_own _ rfl _ _ 22 rfl (W.heap.size) 3 i0 (.int .i64 0) 1 8 Tryz.underlying22 hi hz0 hz1 hz2 rfl (by decide) _ _ _ rfl (World.ownsRow.alloc hown _) ⟨w5.heap.size,0,none⟩ 1 1 [.int .i64 P] rfl rfl ?_ ?_ ?_ ?_ ?_ ?_; exact Q4b _ _ _; (focus (simp [Value.oneCell'])); (focus (unfold maxLen; omega)); (focus omega); (focus (have:=hx6.size; simp at this ⊢; omega)); intro v' w1 hown' hgrow _))
    have hx2:=Q2l hx6 hown (Nat.le_refl _) hgrow;go_roundw
    case rel=>exact ⟨k + 1,Q,pk ++ [P],by omega,by go_num,rfl,HLB.out,by rw [List.length_append,HPK.out]; rfl,by rw [<- HR.out,HST.out]; simp,Q0t.snoc hown',hx2⟩
    case measure=>simp [intOf]; omega
  . have HF:Hid (pk = m.Q3e l):=Lib.hid (by rw [<- HR.out,List.drop_eq_nil_of_le (by omega)]; simp [Mem.Q1w])
    go_wp2;go_ret;exact ⟨_,rfl,by rw [<- HF.out]; exact hown.ints (by omega),HXW.out.trans hx⟩
theorem Y7q (W:World) (x lim:Int) (B:Nat) (hB:W.cell? ⟨B,0,none⟩ = some (.int .i64 lim)) :
    Calls Tryz.prog 171 #[.int .i64 x,.pointer (some ⟨B,0,none⟩)] W fun e W'=>e = .returned (.bool (decide (lim < x))) /\ Ext W W':=by
 go_enter Tryz.func171,Tryz.ntmps171;go_wp2;go_ret;exact ⟨rfl,Ext.refl _⟩
theorem Q9o (w:World) (v u:Value) (m:Mem) (lim:Int) (l:List Bool) (hv:X1r w v m) (hu:Q0x w u l) (hl9:l.length <= 9) (hm:OkM m l.length) :
    Calls Tryz.prog 113 #[v,.int .i64 lim,u] w fun e w'=>e = .returned (.bool (m.keeps lim l)) /\ Ext w w':=by
 have HV:=Lib.hid hv;obtain ⟨x,y,z,rfl,hx,hy,hz⟩:=hv;obtain ⟨X,capx,rfl,-,-,-⟩:=hx.opened;obtain ⟨Y,capy,rfl,-,-,-⟩:=hy.opened;obtain ⟨Z,capz,rfl,-,-,-⟩:=hz.opened;have HU:=Lib.hid hu;obtain ⟨U,capu,rfl,-,-,-⟩:=hu.opened;have HM:=Lib.hid hm;have HKE:Hid (m.keeps lim l = !((m.Q3e l).any fun x=>decide (lim < x))):=Lib.hid rfl;have HPL:=Lib.hid (Z4k m l);clear hx hy hz hu hm;go_enter Tryz.func113,Tryz.ntmps113;go_wp2_with fail;change Calls _ _ _ ((w.alloc (.cells #[.string m.name,.int .i64 m.weight,.slice X m.classes.length capx,.slice Y m.outside.length capy,.slice Z m.inflow.length capz] 69)).alloc (.cells #[.int .i64 lim] 3)) _;obtain ⟨W,hWW,k0,k1,HXW,eW⟩:=Q4e w 69 #[.string m.name,.int .i64 m.weight,.slice X m.classes.length capx,.slice Y m.outside.length capy,.slice Z m.inflow.length capz] 3 #[.int .i64 lim];rw [hWW];clear hWW;have K1:=Lib.hid k1;clear k0 k1;refine (X4d _ _ _ m l (HV.out.ext HXW.out) (HU.out.ext HXW.out) hl9 HM.out).mono ?_;rintro e w5 ⟨pv,rfl,hp,hx5⟩;have HCF:=Lib.hid (X9r w5 pv (m.Q3e l) 171 (.pointer (some ⟨w.heap.size + 1,0,none⟩)) (fun x=>decide (lim < x)) hp (enters_of Tryz.func171 (by kernel_rfl) rfl) (fun W' x hx _=>Y7q W' x lim _ ((K1.out.ext (hx5.trans hx)).cell 0)))
 obtain ⟨q,hq⟩:∃ q,((m.Q3e l).any fun x=>decide (lim < x)) = q:=⟨_,rfl⟩
 rw [hq] at HCF HKE;obtain ⟨P,capp,rfl,-,-,-⟩:=hp.opened;have HX5:=Lib.hid (HXW.out.trans hx5);clear hp hx5 hq;go_wp2_with (go_at_call 138; refine HCF.out.mono ?_; rintro e w6 ⟨rfl,hx6⟩);go_ret;exact ⟨Q0s HKE.out.symm,HX5.out.trans hx6⟩
end Go.Proofs
namespace Go.Tw
theorem Z5s {l:List (List Int)} (h:Asc l):l.Nodup:=h.imp fun h e=>by subst e; exact Q6q _ h
theorem Q4g {h:List (List Int)} {p:List Rul}:Q2g h p = 0 ↔ p.map Rul.classes = h:=by
 unfold Q2g
 constructor
 . intro e
   split at e
   . cases e
   . split at e
     . cases e
     . rename_i h2; exact Decidable.not_not.1 h2
 . intro e
   have hl:p.length = h.length:=by rw [<- e,List.length_map]
   rw [if_neg (fun hn=>hn hl),if_neg (fun hn=>hn e)]
end Go.Tw
namespace Go.Proofs
open Go.RowKit Go.Tw Go.Flow
attribute [local go_sem] Oper.semAt_some
theorem X6x {w:World} {A:Option Addr} {n cap:Nat} {l:List Int} (h:Q0d w (.slice A n cap) l) {k:Nat} (hk:k <= l.length):Q0d w (.slice A k cap) (l.take k):=by
 obtain ⟨c,⟨A',cap',hv,hn,hcap,hc⟩,h2⟩:=h;injection hv with e1 e2 e3;subst e1 e2 e3;have hlk:(l.take k).length = k:=by rw [List.length_take]; omega
 refine ⟨c,⟨A,cap,by rw [hlk],by omega,by omega,fun j hj=>hc j (by omega)⟩,fun j hj=>?_⟩
 rw [List.getElem_take];exact h2 j (by omega)
theorem Tryz.X5z:(Tryz.prog.info? 4).map (fun i=>(i.zero,i.size,i.bytes)) = some (some (.bool false),1,1):=by kernel_rfl
end Go.Proofs
namespace Go.Proofs
open Go.RowKit Go.Tw Go.Flow
theorem Z0z (h:List Int) (row:List (List Int)):(X0h h row).length <= row.length + 1:=by
 unfold X0h;have hb:=(posB h row row.length).1;dsimp only
 split
 . omega
 . rw [List.length_append,List.length_append,List.length_take,List.length_drop,List.length_singleton]
   omega
theorem Y3y (s:Q0b) (t:Nat):∀ i,(s.X2l t i).length <= i
 | 0=>by simp [Q0b.X2l]
 | i + 1=>by
   have:=Y3y s t i;have:=Z0z ((Q0c s.members i).take (t + 1)) (s.X2l t i);unfold Q0b.X2l;omega
theorem Y0h (s:Q0b):∀ n,(s.Q7x n).length <= n * s.members.length
 | 0=>by simp [Q0b.Q7x]
 | n + 1=>by
   have:=Y0h s n;have:=Y3y s n s.members.length;unfold Q0b.Q7x;rw [List.length_append,Nat.add_mul,Nat.one_mul];omega
theorem Z7m {s:Q0b} (hS:Q0y s):s.hist.length <= 48:=by
 have:=Y0h s s.ships.length;have h2:s.ships.length * s.members.length <= 6 * 8:=Nat.mul_le_mul hS.tides.2 hS.some.2;unfold Q0b.hist;omega
theorem Tryz.Y9z (w:World):(isAgg 25).run Tryz.prog w = .ok true w:=by kernel_rfl
theorem Tryz.Y2p (w:World):(sizeOf 25).run Tryz.prog w = .ok 3 w:=by kernel_rfl
theorem Tryz.J2n (w:World):(isAgg 47).run Tryz.prog w = .ok true w:=by kernel_rfl
theorem Tryz.J0b (w:World):(sizeOf 47).run Tryz.prog w = .ok 1 w:=by kernel_rfl
theorem X5o (w:World) (a b:Option Addr) (n c m d:Nat):(Instr.build 99 #[(0,.slice a n c),(1,.slice b m d)]).run Tryz.prog w = .ok (.agg #[.slice a n c,.slice b m d]) w:=by kernel_rfl
attribute [local go_sem ↓] X5o
end Go.Proofs
namespace Go.Tw
open Go.RowKit Go.Flow
def Off (O:Nat) (w w':World):Prop:=Below O w w' /\ w.heap.size <= w'.heap.size /\ ∀ b,b < w.heap.size -> b ≠ O -> w'.heap[b]? = w.heap[b]?
theorem Off.refl (O:Nat) (w:World):Off O w w:=⟨Below.refl _ _,Nat.le_refl _,fun _ _ _=>rfl⟩
theorem Off.ext {O:Nat} {a b c:World} (h:Off O a b) (hx:Ext b c) (hO:O <= b.heap.size):Off O a c :=
 ⟨h.1.trans (hx.mono hO),Nat.le_trans h.2.1 hx.size,fun k hk hne=>(Below.block hx k (Nat.lt_of_lt_of_le hk h.2.1)).trans (h.2.2 k hk hne)⟩
theorem Off.grown {O base n size:Nat} {e:TypeId} {v:Value} {xs:List Value} {a b c:World} (h:Off O a b) (hown:b.ownsRow base e size v n xs) (hb:a.heap.size <= base) (hO:O <= a.heap.size) (hg:b.grownBy c v.ownBlock):Off O a c:=by
 have hbel:Below O b c:=Below.grown (Below.refl _ _) hg (Nat.le_trans hO h.2.1) (fun k hk=>by have:=(hown.lt k hk).1; omega)
 have hbel2:Below a.heap.size b c:=Below.grown (Below.refl _ _) hg h.2.1 (fun k hk=>by have:=(hown.lt k hk).1; omega)
 exact ⟨h.1.trans hbel,Nat.le_trans h.2.1 hbel2.size,fun k hk hne=>(hbel2.block k hk).trans (h.2.2 k hk hne)⟩
theorem Off.set {O:Nat} {a b:World} (h:Off O a b) (k:Nat) (u:Value):Off O a (b.setCell ⟨O,k,none⟩ u) :=
 ⟨h.1.setCell (p:=⟨O,k,none⟩) (Nat.le_refl _) u,by simpa using h.2.1,fun j hj hne=>(Below.heap_setCell _ _ _ _ hne).trans (h.2.2 j hj hne)⟩
theorem Q1d.off {α:Type} {w w':World} {base O k:Nat} {e:TypeId} {enc:α -> List Value} {v:Value} {l:List α} (h:Q1d w base e k enc v l) (hO:O < base) (hx:Off O w w'):Q1d w' base e k enc v l:=by
 obtain ⟨h1,h2⟩:=h;refine ⟨h1,?_⟩
 rcases h2 with h2 | ⟨g,cap,cur,hv,hb,hg,r⟩
 . exact .inl h2
 . exact .inr ⟨g,cap,cur,hv,hb,by rw [hx.2.2 g (Array.getElem?_eq_some_iff.1 hg).1 (by omega)]; exact hg,r⟩
theorem Q1d.setCell {α:Type} {w:World} {base k:Nat} {e:TypeId} {enc:α -> List Value} {v:Value} {l:List α} (h:Q1d w base e k enc v l) {p:Addr} (hp:p.block < base) (u:Value):Q1d (w.setCell p u) base e k enc v l :=
 h.only hp (Q2q w p u)
theorem Q4t {w w':World} {v cv:Value} {l:List Int} {base n size:Nat} {T e:TypeId} {xs:List Value} (h:Q0t w 0 T (Value.int .i64) v l) (hown:w.ownsRow base e size cv n xs) (he:e ≠ T) (hg:w.grownBy w' cv.ownBlock):Q0t w' 0 T (Value.int .i64) v l:=by
 obtain ⟨h1,h2⟩:=h;refine ⟨h1,?_⟩
 rcases h2 with h2 | ⟨g,cap,cur,hv,hb,hgl,r⟩
 . exact .inl h2
 . refine .inr ⟨g,cap,cur,hv,hb,?_,r⟩
   rw [hg.block g (Array.getElem?_eq_some_iff.1 hgl).1 ?_]; exact hgl;intro e'
   rcases hown.2 with ⟨rfl,_⟩ | ⟨g',_,cur',rfl,_,hg',_⟩
   . cases e'
   . have e2:g = g':=by simpa [Value.ownBlock] using e'
     rw [e2,hg'] at hgl;injection hgl with hgl;injection hgl with _ h3 _;exact he h3
theorem Q9q {w w':World} {cv:Value} {base n size g:Nat} {T e:TypeId} {cs:Array Value} {xs:List Value} (h:Blk w g T cs) (hown:w.ownsRow base e size cv n xs) (hb:g < base) (hg:w.grownBy w' cv.ownBlock):Blk w' g T cs:=by
 unfold Blk at *;rw [hg.block g (Array.getElem?_eq_some_iff.1 h).1 ?_]; exact h;intro e';have:=(hown.lt g e'.symm).1;omega
theorem X2m {w:World} {v u:Value} {l:List Int} {O k:Nat} {T S:TypeId} {cs:Array Value} (h:Q0t w 0 T (Value.int .i64) v l) (hb:Blk w O S cs) (hT:S ≠ T):Q0t (w.setCell ⟨O,k,none⟩ u) 0 T (Value.int .i64) v l:=by
 obtain ⟨h1,h2⟩:=h;refine ⟨h1,?_⟩
 rcases h2 with h2 | ⟨g,cap,cur,hv,hbb,hgl,r⟩
 . exact .inl h2
 . refine .inr ⟨g,cap,cur,hv,hbb,?_,r⟩
   rw [Below.heap_setCell _ _ _ _ ?_]; exact hgl;intro e';have e2:g = O:=e';unfold Blk at hb;rw [e2,hb] at hgl;injection hgl with hgl;injection hgl with _ h3 _;exact hT h3
theorem Q1d.rowsOf {α β:Type} {w:World} {base:Nat} {e:TypeId} {k:Nat} {enc:α -> List Value} {v:Value} {L:List α} {l:List β} {R:World -> (Nat -> Value) -> β -> Prop} (h:Q1d w base e k enc v L) (hlen:L.length = l.length) (hl:l.length <= 17592186043904)
    (hk:∀ x,(enc x).length = k) (hR:∀ j (h1:j < L.length) (h2:j < l.length),R w (fun i=>((enc L[j])[i]?).getD undef) l[j]) (hloc:∀ c c' x,(∀ i,i < k -> c i = c' i) -> R w c x -> R w c' x):Go.Tw.Rows k R w v l:=by
 refine ⟨fun j=>((L.flatMap enc)[j]?).getD undef,?_,fun j hj=>hloc _ _ _ (fun i hi=>?_) (hR j (by omega) hj)⟩
 . obtain ⟨_,h2⟩:=h
   rw [hlen] at h2
   rcases h2 with ⟨rfl,h0⟩ | ⟨g,cap,cur,rfl,_,hg,hcap,_,_,htake⟩
   . exact ⟨none,0,by rw [h0],hl,by omega,fun j hj=>by rw [h0,Nat.zero_mul] at hj; omega⟩
   . refine ⟨some ⟨g,0,none⟩,cap,rfl,hl,hcap,fun j hj=>⟨g,0,rfl,?_⟩⟩
     rw [Nat.zero_add];have h1:=congrArg (fun l=>l[j]?) htake;simp only [List.getElem?_take,hj,if_true] at h1;have hlt:j < (L.flatMap enc).length:=by rw [X1i hk,hlen]; exact hj
     rw [List.getElem?_eq_getElem hlt] at h1;simp only [World.cell?,hg,List.getElem?_eq_getElem hlt,Option.getD_some]
     simpa using h1
 . show ((enc L[j])[i]?).getD undef = ((L.flatMap enc)[j * k + i]?).getD undef
   rw [flat_get hk L j i (by omega) hi]
theorem Q2x {α:Type} {P:Program} {K:Value -> World -> Prop} {o:Oper} {a:Act} {w:World} (s x:Operand) (t:TypeId) (ho:o.op = .call { callee:=.builtin .append,args:=#[s,x],argTypes:=#[t,t] })
    (base:Nat) (e:TypeId) (i:TypeInfo) (z:Value) (k bytes:Nat) (ht:P.underlying t = some (.slice e)) (hi:P.info? e = some i) (hz:i.zero = some z) (hsize:i.size = k) (hby:i.bytes = bytes) (hzs:z.cells.size = k) (hk0:0 < k)
    (enc:α -> List Value) (hk:∀ x,(enc x).length = k) (v:Value) (xs:List α) (y:α) (hs:a.eval s = v) (hown:Q1d w base e k enc v xs) (ad:Addr) (c:Nat) (hx:a.eval x = .slice (some ad) 1 c)
    (hnews:∀ j u,(enc y)[j]? = some u -> w.cell? (ad.add j) = some u) (h1:∀ u ∈ enc y,u.oneCell' = true)
    (h63:xs.length + 1 <= 100000) (hb:bytes <= 1000) (hbase:base <= w.heap.size)
    (h:∀ v' w',Q1d w' base e k enc v' (xs ++ [y]) -> w.grownBy w' v.ownBlock -> K v' w'):gives P K ((execOp a.eval o).run P w):=by
 obtain ⟨v',w',hr,h2,h3,h4⟩:=run_append_own (P:=P) w base t o.type e i z k bytes ht hi hz hsize hby hzs hk0 v xs.length (xs.flatMap enc) hown ad 1 c (enc y) (by rw [hk]; omega) hnews h1 (by unfold maxLen; omega) (by
     have:(xs.length + 1) * bytes <= 100000 * 1000:=Nat.mul_le_mul h63 hb;omega) hbase
 unfold execOp;simp only [ho,resolve,invoke,builtin,Sem.run_bind,Sem.run_pure,Result.andThen_ok,List.map_toArray,List.map_cons,List.map_nil,hs,hx,hr];exact h v' w' (Q1d.snoc h2) h3
theorem Q6g {w:World} {g:Nat} {T:TypeId} {xs:List Value} (h:Blk w g T xs.toArray):∀ j u,xs[j]? = some u -> w.cell? ((⟨g,0,none⟩:Addr).add j) = some u:=by
 intro j u hu;rw [addr_add,Nat.zero_add,h.cell]
 simpa using hu
end Go.Tw
namespace Go.Proofs
open Go.RowKit Go.Tw Go.Flow
theorem Q0l {P:Program} {K:Value -> World -> Prop} {o:Oper} {a:Act} {w:World} (p:Operand) (T:TypeId) (ho:o.op = .load T p) (hA:∀ w,(isAgg T).run P w = .ok true w) {n:Nat} (hS:∀ w,(sizeOf T).run P w = .ok n w)
    {g:Nat} (hp:a.eval p = .pointer (some ⟨g,0,none⟩)) {BT:TypeId} {cs:Array Value} (hb:Blk w g BT cs) (hn:cs.size = n) (h:K (.agg cs) w):gives P K ((execOp a.eval o).run P w):=by
 subst hn;unfold execOp;simp only [ho,hp,Instr.loadAt,Instr.sureAddr,Sem.run_bind,Sem.run_pure,Result.andThen_ok,Q3h hb hA hS];exact h
theorem Q2c {P:Program} {K:Value -> World -> Prop} {o:Oper} {a:Act} {w:World} (p x:Operand) (T:TypeId) (ho:o.op = .store T p x)
    {n:Nat} (hS:∀ w,(sizeOf T).run P w = .ok n w) {g:Nat} (hp:a.eval p = .pointer (some ⟨g,0,none⟩)) {BT:TypeId} {cs vs:Array Value} (hx:a.eval x = .agg vs) (hb:Blk w g BT cs) (hn:cs.size = n) (hv:vs.size = n) (h1:∀ u ∈ vs.toList,u.oneCell' = true)
    (h:∀ v w',Blk w' g BT vs -> (∀ n,n <= g -> Below n w w') -> (∀ k,k ≠ g -> w'.heap[k]? = w.heap[k]?) -> K v w'):gives P K ((execOp a.eval o).run P w):=by
 obtain ⟨w',hr,hb',hl,hoo⟩:=Q8l (P:=P) vs.toList 0 w cs hb h1 (by simp [hn,hv])
 have hs:(storeVar T ⟨g,0,none⟩ (.agg vs)).run P w = .ok () w':=by
  have hc:(Value.agg vs).cells = vs:=rfl;unfold storeVar;simp only [Sem.run_bind,hS,Result.andThen_ok];rw [if_neg (by rw [hc]; simp [hv])]
  exact hr
 have hr2:(execOp a.eval o).run P w = .ok .skip w':=by
  unfold execOp;simp only [ho,hp,hx,Instr.storeAt,Instr.sureAddr,Sem.run_bind,Sem.run_pure,Result.andThen_ok,hs]
 rw [hr2];exact h _ _ (by simpa using hb') hl hoo
theorem Q1m {P:Program} {w:World} {ops:Array Oper} {rest:List Oper} {o:Oper} {a:Act} {Q:Exit -> Act -> World -> Prop} (hg:o.guard = none)
    (h:gives P (fun u w'=>wpList P ops Q rest (a.put o.dst u) w') ((execOp a.eval o).run P w)):wpList P ops Q (o :: rest) a w :=
 wpList_plain hg fun K' hK'=>by
  unfold Oper.wp;exact Q2a (Q4c (fun _ _ hk=>hK' _ _ hk) h)
theorem Z1q {K:Value -> World -> Prop} {o:Oper} {a:Act} {w:World} (x:Operand) (t e:TypeId) (ho:o.op = .makeSlice t x x) (i:TypeInfo) (z:Value) (k bytes:Nat) (ht:Tryz.prog.underlying t = some (.slice e)) (hi:Tryz.prog.info? e = some i) (hz:i.zero = some z) (hs:i.size = k) (hby:i.bytes = bytes)
    (n:Nat) (hx:a.eval x = .int .i64 n) (hn:n <= 1000) (hb:bytes <= 1000)
    (h:K (.slice (some ⟨w.heap.size,0,none⟩) n n) (w.alloc (.cells (madeCells z.cells (n * k)) e))):gives Tryz.prog K ((execOp a.eval o).run Tryz.prog w):=by
 have hnb:bytes * n <= 1000 * 1000:=Nat.mul_le_mul hb hn;have hr:=run_make (P:=Tryz.prog) w t e i z ht hi hz .i64 .i64 n n (by omega) (Int.le_refl _) (by rw [hby]; have:((bytes * n:Nat):Int) <= 1000000:=(by omega); rw [Int.natCast_mul] at this; omega) (by omega)
 simp only [Int.toNat_natCast,hs] at hr;unfold execOp;simp only [ho,hx,Sem.run_bind,hr,Result.andThen_ok,Sem.run_pure];exact h
theorem X3s {P:Program} {w:World} {ops:Array Oper} {rest:List Oper} {o:Oper} {a:Act} {Q:Exit -> Act -> World -> Prop} (hg:o.guard = none) (p x:Operand) (T:TypeId) (hop:o.op = .store T p x)
    (hT:∀ w,(sizeOf T).run P w = .ok 1 w) {g k:Nat} (hp:a.eval p = .pointer (some ⟨g,k,none⟩)) {u:Value} (hx:a.eval x = u) (hu:u.cells = #[u]) (h1:u.oneCell' = true) {BT:TypeId} {cs:Array Value} (hb:Blk w g BT cs) (hk:k < cs.size)
    (hK:∀ w',Blk w' g BT (cs.setIfInBounds k u) -> (∀ n,n <= g -> Below n w w') -> (∀ k,k ≠ g -> w'.heap[k]? = w.heap[k]?) -> wpList P ops Q rest (a.put o.dst undef) w'):wpList P ops Q (o :: rest) a w:=by
 refine wpList_plain hg fun K' hK'=>?_;unfold Oper.wp;have h0:=hb.cell k;rw [Array.getElem?_eq_getElem hk] at h0;have hs:(storeVar T ⟨g,k,none⟩ u).run P w = .ok () (w.setCell ⟨g,k,none⟩ u):=by
  unfold storeVar;simp only [Sem.run_bind,hT,Result.andThen_ok,hu];rw [if_neg (by simp)]
  simp only [storeCells,Sem.run_bind,Sem.run_pure];have ea:(⟨g,k,none⟩:Addr).add 0 = ⟨g,k,none⟩:=by rw [addr_add,Nat.add_zero]
  rw [ea,run_store P w _ u _ h1];simp only [h0,hb.frozen k,Bool.false_eq_true,if_false,Result.andThen_ok]
 have hr2:(execOp a.eval o).run P w = .ok .skip (w.setCell ⟨g,k,none⟩ u):=by
  unfold execOp;simp only [hop,hp,hx,Instr.storeAt,Instr.sureAddr,Sem.run_bind,Sem.run_pure,Result.andThen_ok,hs]
 rw [hr2];exact hK' _ _ (hK _ (hb.set k u) (fun n hn=>(Below.refl n w).setCell (p:=⟨g,k,none⟩) hn u) (fun k' hk'=>Below.heap_setCell _ _ _ _ hk'))
end Go.Proofs
namespace Go.Proofs
open Go.RowKit Go.Tw Go.Flow
attribute [local go_sem] Oper.semAt_some
def Z8c (s:Q0b) (p:List Rul) (i:Nat):Bool:=(Q1l s i).keeps s.limit (Q0o p (Q0c s.members i))
def Q6v (s:Q0b) (p:List Rul) (k:Nat):List Int:=((List.range k).filter (Z8c s p)).map Int.ofNat
theorem Z2l (s:Q0b) (p:List Rul):Q6v s p s.members.length = Q3r s p:=rfl
theorem Y7y (s:Q0b) (p:List Rul) (k:Nat):Q6v s p (k + 1) = if Z8c s p k then Q6v s p k ++ [(k:Int)] else Q6v s p k:=by
 unfold Q6v;rw [List.range_succ,List.filter_append,List.map_append]
 by_cases h:Z8c s p k = true
 . rw [if_pos h]; simp [h]
 . rw [if_neg h]; simp [h]
theorem Y0f (s:Q0b) (p:List Rul) (k:Nat):(Q6v s p k).length <= k:=by
 unfold Q6v;rw [List.length_map];exact Nat.le_trans (List.length_filter_le _ _) (by simp)
theorem X5t (w:World) (x y:Value):(Instr.field 99 (.agg #[x,y]) 1).run Tryz.prog w = .ok y w:=by kernel_rfl
attribute [local go_sem ↓] X5t
end Go.Proofs
namespace Go.Proofs
open Go.RowKit Go.Tw Go.Flow
attribute [local go_sem] Oper.semAt_some
def Q4j (s:Q0b) (p:List Rul) (f:List Bool -> Int):Nat -> Int
 | 0=>0
 | k + 1=>Q4j s p f k + Q0k s.members k * f (Q0o p (Q0c s.members k))
theorem X6y (s:Q0b) (p:List Rul) (f:List Bool -> Int):∀ k,k <= s.members.length -> Q4j s p f k = ((s.members.take k).map fun m=>m.weight * f (Q0o p m.classes)).sum
 | 0,_=>by simp [Q4j]
 | k + 1,h=>by
   unfold Q4j;rw [X6y s p f k (by omega),List.take_succ_eq_append_getElem (by omega),List.map_append,List.sum_append]
   unfold Q0k Q0c;rw [Q0v _ (show k < s.members.length by omega)]
   simp
theorem Y1a (s:Q0b) (p:List Rul) (f:List Bool -> Int):Q4j s p f s.members.length = (s.members.map fun m=>m.weight * f (Q0o p m.classes)).sum:=by
 rw [X6y s p f _ (Nat.le_refl _),List.take_length]
theorem X7r {s:Q0b} (hS:Q0y s) (p:List Rul) {f:List Bool -> Int} {M:Int} (hM:0 <= M) (hf:∀ l:List Bool,l.length <= s.ships.length -> 0 <= f l /\ f l <= M):∀ k,k <= s.members.length -> 0 <= Q4j s p f k /\ Q4j s p f k <= k * (1000 * M)
 | 0,_=>by simp [Q4j]
 | k + 1,h=>by
   have ih:=X7r hS p hM hf k (by omega)
   have hw:=hS.weights k (by omega)
   have hc:=hf (Q0o p (Q0c s.members k)) (by rw [Q2r,(hS.shaped k (by omega)).1]; exact Nat.le_refl _)
   have h1:0 <= Q0k s.members k * f (Q0o p (Q0c s.members k)):=Int.mul_nonneg (by omega) hc.1
   have h2:Q0k s.members k * f (Q0o p (Q0c s.members k)) <= 1000 * M:=Int.mul_le_mul hw.2 hc.2 hc.1 (by omega)
   unfold Q4j;have h3:((k + 1:Nat):Int) * (1000 * M) = (k:Int) * (1000 * M) + 1000 * M:=by rw [Int.natCast_add,Int.add_mul]; simp
   rw [h3];omega
theorem Z5r {s:Q0b} (hS:Q0y s) (l:List Bool) (hl:l.length <= s.ships.length):0 <= Q6i s l /\ Q6i s l <= 6000:=by
 unfold Q6i;have h6:=hS.tides.2;have:∀ k,k <= l.length -> 0 <= ((List.range k).map fun t=>if l.getD t false then ix s.ships t else 0).sum /\ ((List.range k).map fun t=>if l.getD t false then ix s.ships t else 0).sum <= k * 1000:=by
  intro k
  induction k with
  | zero=>intro _; simp
  | succ k ih =>
    intro hk;have:=ih (by omega)
    rw [List.range_succ,List.map_append,List.sum_append];have hd:=hS.delays (ix s.ships k) (by rw [Q4w (show k < s.ships.length by omega)]; exact List.getElem_mem _)
    have e:(List.map (fun t=>if l.getD t false = true then ix s.ships t else 0) [k]).sum = if l.getD k false = true then ix s.ships k else 0:=by simp
    rw [e]
    split <;> omega
 have:=this l.length (Nat.le_refl _);omega
theorem X2f {s:Q0b} (hS:Q0y s) (l:List Bool) (hl:l.length <= s.ships.length):0 <= countB l /\ countB l <= 6:=by
 have:=countB_le l;have:=hS.tides.2;omega
end Go.Proofs
namespace Go.Proofs
open Go.RowKit Go.Tw Go.Flow
theorem Z7p (a b:Int) (h0:0 <= a) (hb:0 < b):Int.gcd b (a.tmod b) = Int.gcd a b:=by
 obtain ⟨n,rfl⟩:=Int.eq_ofNat_of_zero_le h0;obtain ⟨m,rfl⟩:=Int.eq_ofNat_of_zero_le (Int.le_of_lt hb);show Nat.gcd m (n % m) = Nat.gcd n m;rw [Nat.gcd_comm n m,Nat.gcd_comm m,<- Nat.gcd_rec]
theorem Ext.frozen {a b:World} (h:Ext a b) {p:Addr} (hp:p.block < a.heap.size):b.frozen? p = a.frozen? p:=by
 obtain ⟨_,_,_,_,h5⟩:=h;unfold World.frozen?; rw [h5 _ hp]
end Go.Proofs
namespace Go.Tw
def Z1k (f:Nat -> List Int) (i:Nat):Bool:=!(List.range i).any fun j=>f j == f i
def Q5a (f:Nat -> List Int) (k i:Nat):List Nat:=(List.range k).filter fun j=>f j == f i
def X1k (f:Nat -> List Int) (k:Nat):List Nat:=(List.range k).filter (Z1k f)
theorem Y9l {f:Nat -> List Int} {i:Nat}:Z1k f i = true ↔ ∀ j,j < i -> f j ≠ f i:=by
 unfold Z1k;simp only [Bool.not_eq_true',List.any_eq_false,List.mem_range,beq_iff_eq]
theorem X7z (f:Nat -> List Int) (k i:Nat):Q5a f (k + 1) i = Q5a f k i ++ if f k == f i then [k] else []:=by
 unfold Q5a;rw [List.range_succ,List.filter_append]
 by_cases h:(f k == f i) = true
 . rw [if_pos h]; simp [h]
 . rw [if_neg h]; simp [h]
theorem X7u {f:Nat -> List Int} {i:Nat} (h:Z1k f i = true):∀ {k:Nat},i < k -> (Q5a f k i).head? = some i
 | 0,hk=>absurd hk (Nat.not_lt_zero _)
 | k + 1,hk=>by
   rw [X7z]
   by_cases hi:i < k
   . rw [List.head?_append,X7u h hi]; rfl
   . have e:i = k:=by omega
     subst e;have:Q5a f i i = []:=by
      unfold Q5a;rw [List.filter_eq_nil_iff];intro j hj hji;exact Y9l.1 h j (List.mem_range.1 hj) (by simpa using hji)
     rw [this,if_pos (by simp)]
     rfl
theorem X0u (f:Nat -> List Int) (k:Nat):X1k f (k + 1) = X1k f k ++ if Z1k f k then [k] else []:=by
 unfold X1k;rw [List.range_succ,List.filter_append]
 by_cases h:Z1k f k = true
 . rw [if_pos h]; simp [h]
 . rw [if_neg h]; simp [h]
theorem Y0k {f:Nat -> List Int} {k i:Nat} (hi:i < k):((Q5a f k i).head? == some i) = Z1k f i:=by
 by_cases h:Z1k f i = true
 . rw [X7u h hi,h]; simp
 . have h':Z1k f i = false:=by simpa using h
   rw [h',beq_eq_false_iff_ne];intro hh;have hex:∃ j,j < i /\ f j = f i:=by
    apply Classical.byContradiction
    intro hno;exact h (Y9l.2 fun j hj e=>hno ⟨j,hj,e⟩)
   obtain ⟨j,hj,e⟩:=hex;have hs:(Q5a f k i).Pairwise (· < ·):=List.pairwise_lt_range.filter _;have hm:j ∈ Q5a f k i:=List.mem_filter.2 ⟨List.mem_range.2 (by omega),by simpa using e⟩
   cases hl:Q5a f k i with
   | nil=>rw [hl] at hm; cases hm
   | cons x l =>
     rw [hl] at hh hs hm;injection hh with hh;subst hh
     rcases List.mem_cons.1 hm with rfl | hm
     . omega
     . have:=(List.pairwise_cons.1 hs).1 j hm
       omega
def Y6o (s:Q0b) (i:Nat):List Int:=Q0c s.members i
theorem X3v (s:Q0b) (i:Nat):X0a s i = Q5a (Y6o s) s.members.length i:=rfl
theorem X3e (s:Q0b):Q5j s = (X1k (Y6o s) s.members.length).map fun i=>⟨(Q5a (Y6o s) s.members.length i).map Int.ofNat,Y4u s (Q5a (Y6o s) s.members.length i)⟩:=by
 unfold Q5j X1k;simp only [X3v]
 congr 1
 refine List.filter_congr fun i hi=>?_;exact Y0k (List.mem_range.1 hi)
end Go.Tw
namespace Go.Tw
theorem Q9s (s:Q0b) (p:List Rul):∀ x ∈ Q3r s p,0 <= x /\ x < s.members.length:=by
 intro x hx;obtain ⟨i,hi,rfl⟩:=List.mem_map.1 hx;have:=List.mem_range.1 (List.mem_filter.1 hi).1;exact ⟨Int.natCast_nonneg i,Int.ofNat_lt.2 this⟩
theorem kept_len (s:Q0b) (p:List Rul):(Q3r s p).length <= s.members.length:=by
 unfold Q3r;rw [List.length_map];exact Nat.le_trans (List.length_filter_le _ _) (by simp)
end Go.Tw
namespace Go.Proofs
open Go.RowKit Go.Tw Go.Flow
attribute [local go_sem] Oper.semAt_some
theorem Z1m {s:Q0b} (hS:Q0y s) {l:List Int} (h:∀ x ∈ l,0 <= x /\ x < s.members.length):(l.length:Int) <= Q2e s l /\ Q2e s l <= 1000 * l.length:=by
 induction l with
 | nil=>exact ⟨Int.le_refl _,by simp [Q2e]⟩
 | cons x l ih =>
   have h1:=ih fun y hy=>h y (List.mem_cons_of_mem _ hy);have hx:=h x (List.mem_cons_self ..);have hw:=hS.weights x.toNat (by omega)
   have e:Q2e s (x :: l) = Q0k s.members x.toNat + Q2e s l:=by simp [Q2e]
   rw [e,List.length_cons];omega
theorem Tryz.Z9i (w:World):(isAgg 107).run Tryz.prog w = .ok true w:=by kernel_rfl
theorem Tryz.Y2n (w:World):(sizeOf 107).run Tryz.prog w = .ok 2 w:=by kernel_rfl
end Go.Proofs
