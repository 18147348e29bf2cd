/- Contract of the reference: dry. Contracts of the reference: delay, Weight. Contract of the reference: Weight. Contract of the reference: all. Contracts of the reference: CheckNeed, OnlyMembers. The region theorem in a round of a range over a function: the body of such a loop is walked in the fence of a round; all else as in Flow and FlowL. The region theorems with the frame under a name at every operation. Guarded operations of a region: the guard looked up in the frame under a name. -/
import Derived.Test.YthnobngcipaljaaGreatDoorPn05
import Derived.OrdersIn
import Derived.RangeFuncCalls
import Derived.TacticsIn
set_option maxRecDepth 1000000
set_option maxHeartbeats 64000000
set_option linter.unusedVariables false
set_option linter.unusedSimpArgs false
set_option linter.constructorNameAsVariable false
open Go.Lib (hid)
namespace Go.Proofs
open Go.RowKit Go.Tw Go.Flow
def Z0v (lim:Int) (l:List Int):Bool:=!(l.any fun x=>decide (lim < x))
theorem Y7n (lim x:Int) (l:List Int):Z0v lim (x :: l)=(!decide (lim < x) && Z0v lim l):=by simp [Z0v]
theorem Z7p (m:Mem) (lim:Int) (c:List Bool):m.keeps lim c=Z0v lim (m.Q3z c):=rfl
theorem Y4w (w:World) (v u:Value) (s:Q0b) (l:List Int) (hv:Q0f w v s) (hu:Q0e w u l) :
    Calls Tryz.prog 104 #[v,u] w fun e w'=>e=.returned (.bool (Z0v s.limit l)) /\ Ext w w':=by
 obtain ⟨a,b,rfl,h2⟩:=hv;obtain ⟨A,capa,rfl,-,-,-⟩:=h2.ships.opened;obtain ⟨B,capb,rfl,-,-,-⟩:=h2.members.opened;obtain ⟨U,cap,rfl,hl,hcap,hc⟩:=hu.opened;clear hu h2;have hxW:=Ext.box w (.cells #[.int .i64 s.limit,.slice A s.ships.length capa,.slice B s.members.length capb] 25);have k0:=Blk.made w 25 #[.int .i64 s.limit,.slice A s.ships.length capa,.slice B s.members.length capb];have c0:=k0.cell 0;simp only [Go.Tw.gA,Go.Tw.gB] at c0;clear k0;have HX:=hid hxW; clear hxW;go_enter Tryz.func104,Tryz.ntmps104;go_wp2
 go_loopw [5] (fun i wr=>∃ k:Nat,k <= l.length /\ i=.int .i64 k /\ Z0v s.limit (l.drop k)=Z0v s.limit l /\ Ext (w.alloc (.cells #[.int .i64 s.limit,.slice A s.ships.length capa,.slice B s.members.length capb] 25)) wr) (fun i _=>l.length - (intOf i).toNat)
 case atStart=>exact ⟨0,Nat.zero_le _,rfl,rfl,Ext.refl _⟩
 case round =>
  obtain ⟨k,hk,rfl,hr,hx⟩:=hrel;have HR:=hid hr; clear hr;replace c0:=hx.cell c0
  by_cases hlt:k < l.length
  . obtain ⟨b,off,rfl,hcell⟩:=hc k hlt
    replace hcell:=(HX.out.trans hx).cell hcell;have HD:=hid (Q3d hlt);have i1:(k:Int) < l.length:=by omega
    clear hc
    by_cases hz:s.limit < ix l k
    . have HZ:Hid (decide (s.limit < ix l k)=true):=by exact decide_eq_true hz
      go_wp2
      go_quiet (fail)
      all_goals go_wp2
      go_ret;exact ⟨Q0w (by rw [<- HR.out,HD.out,Y7n,HZ.out]; rfl),HX.out.trans (hx.drewN _)⟩
    . have HZ:Hid (decide (s.limit < ix l k)=false):=by exact decide_eq_false hz
      have hz':ix l k <= s.limit:=by omega
      go_wp2
      go_quiet (fail)
      all_goals go_wp2
      go_roundw
      case rel=>exact ⟨k + 1,by omega,by go_num,by rw [<- HR.out,HD.out,Y7n,HZ.out]; rfl,hx.drewN _⟩
      case measure=>simp [intOf]; omega
  . clear hc
    go_wp2;go_ret;exact ⟨Q0w (by rw [<- HR.out,List.drop_eq_nil_of_le (by omega)]; rfl),HX.out.trans hx⟩
end Go.Proofs
namespace Go.Proofs
open Go.RowKit Go.Tw Go.Flow
def X1z (s:Q0b) (l:List Bool) (k:Nat):Int:=((List.range k).map fun t=>if bx l t then ix s.ships t else 0).sum
theorem X6f (s:Q0b) (l:List Bool) (k:Nat):X1z s l (k + 1)=X1z s l k + if bx l k then ix s.ships k else 0:=by
 unfold X1z;rw [List.range_succ,List.map_append,List.sum_append]; simp
theorem X5o {s:Q0b} (hv:Q0u s) (l:List Bool):∀ k,k <= s.ships.length -> 0 <= X1z s l k /\ X1z s l k <= 1000 * k
 | 0,_=>⟨Int.le_refl _,Int.le_refl _⟩
 | k + 1,h=>by
   obtain ⟨h1,h2⟩:=X5o hv l k (by omega)
   have:=hv.delays _ (List.getElem_mem (show k < s.ships.length by omega))
   rw [<- Q4n] at this;rw [X6f]
   split <;> omega
theorem Z5u (w:World) (v u:Value) (s:Q0b) (l:List Bool) (hv:Q0f w v s) (hu:Q0r w u l) (hs:Q0u s) (hle:l.length <= s.ships.length) :
    Calls Tryz.prog 107 #[v,u] w fun e w'=>e=.returned (.int .i64 (Q3f s l)) /\ Ext w w':=by
 obtain ⟨a,b,rfl,h2⟩:=hv;obtain ⟨A,capa,rfl,hla,hcapa,hca⟩:=h2.ships.opened;obtain ⟨B,capb,rfl,-,-,-⟩:=h2.members.opened;obtain ⟨U,cap,rfl,hl,hcap,hc⟩:=hu.opened;clear hu h2;have hxW:=Ext.box w (.cells #[.int .i64 s.limit,.slice A s.ships.length capa,.slice B s.members.length capb] 25);have k0:=Blk.made w 25 #[.int .i64 s.limit,.slice A s.ships.length capa,.slice B s.members.length capb];have c1:=k0.cell 1;simp only [Go.Tw.gA,Go.Tw.gB,Go.Tw.gC] at c1;clear k0;have HX:=hid hxW; clear hxW;have HS:=hid hs; clear hs;have HT:Hid (s.ships.length <= 6):=HS.out.tides.2;go_enter Tryz.func107,Tryz.ntmps107;go_wp2
 go_loopw [5,6] (fun n i wr=>∃ (k:Nat) (m:Int),k <= l.length /\ i=.int .i64 k /\ n=.int .i64 m /\ m=X1z s l k /\ Ext (w.alloc (.cells #[.int .i64 s.limit,.slice A s.ships.length capa,.slice B s.members.length capb] 25)) wr) (fun _ i _=>l.length - (intOf i).toNat)
 case atStart=>exact ⟨0,0,Nat.zero_le _,rfl,rfl,rfl,Ext.refl _⟩
 case round =>
  obtain ⟨k,m,hk,rfl,rfl,hr,hx⟩:=hrel;have HR:=hid hr; clear hr;replace c1:=hx.cell c1
  by_cases hlt:k < l.length
  . obtain ⟨b,off,rfl,-,hcell⟩:=hc k hlt
    obtain ⟨b',off',rfl,hcell'⟩:=hca k (by omega)
    replace hcell:=(HX.out.trans hx).cell hcell;replace hcell':=(HX.out.trans hx).cell hcell';have i1:(k:Int) < s.ships.length:=by omega
    have hb1:=X5o HS.out l k (by omega)
    have hb2:=X5o HS.out l (k + 1) (by omega)
    have HSU:=hid (X6f s l k);have ht:=HT.out;rw [<- HR.out] at hb1;clear hc hca;cases hb:bx l k
    . rw [hb] at hcell
      have HB:=hid hb; clear hb hb1 hb2;go_wp2;go_roundw
      case rel=>exact ⟨k + 1,m,by omega,by go_num,rfl,by rw [HSU.out,HB.out,HR.out]; simp,hx⟩
      case measure=>simp [intOf]; omega
    . rw [hb] at hcell
      have hsum:X1z s l (k + 1)=m + ix s.ships k:=by rw [HSU.out,hb,HR.out]; simp
      rw [hsum] at hb2;have HSM:=hid hsum; clear hsum;have HB:=hid hb; clear hb;have i2:0 <= m + ix s.ships k:=hb2.1;have i3:m + ix s.ships k <= 100000:=by omega
      clear hb1 hb2;go_wp2;go_roundw
      case rel=>exact ⟨k + 1,m + ix s.ships k,by omega,by go_num,by go_num,HSM.out.symm,hx⟩
      case measure=>simp [intOf]; omega
  . clear hc hca
    go_wp2;go_ret;exact ⟨Q1b (by rw [HR.out,show k=l.length by omega]; rfl),HX.out.trans hx⟩
end Go.Proofs
namespace Go.Proofs
open Go.RowKit Go.Tw Go.Flow
def Q3w (s:Q0b) (l:List Int) (k:Nat):Int:=Q1k s (l.take k)
theorem Q8f {s:Q0b} {l:List Int} {k:Nat} (hk:k < l.length):Q3w s l (k + 1)=Q3w s l k + Q0k s.members (ix l k).toNat:=by
 unfold Q3w Q1k;rw [List.take_add_one,List.getElem?_eq_getElem hk,List.map_append,List.sum_append,Q4n hk]; simp
theorem X1m {s:Q0b} (hv:Q0u s) {l:List Int} (hl:∀ x ∈ l,0 <= x /\ x < s.members.length):∀ k,k <= l.length -> 0 <= Q3w s l k /\ Q3w s l k <= 1000 * k
 | 0,_=>⟨Int.le_refl _,Int.le_refl _⟩
 | k + 1,h=>by
   obtain ⟨h1,h2⟩:=X1m hv hl k (by omega)
   have h3:=hl _ (List.getElem_mem (show k < l.length by omega))
   rw [<- Q4n] at h3;have:=hv.weights (ix l k).toNat (by omega)
   rw [Q8f (by omega)]
   omega
theorem X1u (w:World) (v u:Value) (s:Q0b) (l:List Int) (hv:Q0f w v s) (hu:Q0e w u l) (hs:Q0u s) (hin:∀ x ∈ l,0 <= x /\ x < s.members.length) (hle:l.length <= 4096) :
    Calls Tryz.prog 29 #[v,u] w fun e w'=>e=.returned (.int .i64 (Q1k s l)) /\ Ext w w':=by
 obtain ⟨a,b,rfl,h2⟩:=hv;obtain ⟨A,capa,rfl,-,-,-⟩:=h2.ships.opened;obtain ⟨B,capb,rfl,hlb,hcapb,hcb⟩:=h2.members.opened;obtain ⟨U,cap,rfl,hl,hcap,hc⟩:=hu.opened;clear hu h2;have hxW:=Ext.box w (.cells #[.int .i64 s.limit,.slice A s.ships.length capa,.slice B s.members.length capb] 25);have k0:=Blk.made w 25 #[.int .i64 s.limit,.slice A s.ships.length capa,.slice B s.members.length capb];have c2:=k0.cell 2;simp only [Go.Tw.gA,Go.Tw.gB,Go.Tw.gC] at c2;clear k0;have HX:=hid hxW; clear hxW;have HS:=hid hs; clear hs;have HIN:=hid hin; clear hin;have HM:Hid (s.members.length <= 8):=HS.out.some.2;go_enter Tryz.func29,Tryz.ntmps29;go_wp2
 go_loopw [5,6] (fun n i wr=>∃ (k:Nat) (m:Int),k <= l.length /\ i=.int .i64 k /\ n=.int .i64 m /\ m=Q3w s l k /\ Ext (w.alloc (.cells #[.int .i64 s.limit,.slice A s.ships.length capa,.slice B s.members.length capb] 25)) wr) (fun _ i _=>l.length - (intOf i).toNat)
 case atStart=>exact ⟨0,0,Nat.zero_le _,rfl,rfl,rfl,Ext.refl _⟩
 case round =>
  obtain ⟨k,m,hk,rfl,rfl,hr,hx⟩:=hrel;have HR:=hid hr; clear hr;replace c2:=hx.cell c2
  by_cases hlt:k < l.length
  . obtain ⟨b,off,rfl,hcell⟩:=hc k hlt
    have h3:=HIN.out _ (List.getElem_mem hlt);rw [<- Q4n hlt] at h3;obtain ⟨j,hj⟩:∃ j:Nat,ix l k=j:=⟨(ix l k).toNat,by omega⟩
    obtain ⟨b',off',x,y,z,rfl,-,-,hcell',-⟩:=hcb j (by omega)
    replace hcell:=(HX.out.trans hx).cell hcell;replace hcell':=(HX.out.trans hx).cell hcell';have hb2:=X1m HS.out HIN.out (k + 1) (by omega)
    have hsum:Q3w s l (k + 1)=m + Q0k s.members j:=by rw [Q8f hlt,HR.out,hj,Int.toNat_natCast]
    rw [hsum] at hb2;rw [hj] at hcell h3;have HSM:=hid hsum; clear hsum;have i1:(k:Int) < l.length:=by omega
    have i0:(j:Int) < s.members.length:=h3.2;have i2:0 <= m + Q0k s.members j:=hb2.1;have i3:m + Q0k s.members j <= 10000000:=by omega
    clear hb2 h3 hj hc hcb;go_wp2
    go_quiet (fail)
    all_goals go_wp2
    go_roundw
    case rel=>exact ⟨k + 1,m + Q0k s.members j,by omega,by go_num,by go_num,HSM.out.symm,hx.drewN _⟩
    case measure=>simp [intOf]; omega
  . clear hc hcb
    go_wp2;go_ret;exact ⟨Q1b (by rw [HR.out,show k=l.length by omega,Q3w,List.take_length]),HX.out.trans hx⟩
end Go.Proofs
namespace Go.Proofs
open Go.RowKit Go.Tw Go.Flow
def X7x (k:Nat):List Int:=(List.range k).map Int.ofNat
theorem Z1g (k:Nat):X7x (k + 1)=X7x k ++ [(k:Int)]:=by
 unfold X7x; rw [List.range_succ,List.map_append]; rfl
theorem Z4t (k:Nat):(X7x k).length=k:=by simp [X7x]
theorem J1m (w:World) (v:Value) (s:Q0b) (hv:Q0f w v s) (hm:s.members.length <= 4096) :
    Calls Tryz.prog 135 #[v] w fun e w'=>∃ u,e=.returned u /\ Q0e w' u (allL s) /\ Ext w w':=by
 obtain ⟨i0,hi,hz0,hz1,hz2⟩:=info_parts Tryz.info3;obtain ⟨a,b,rfl,h2⟩:=hv;obtain ⟨A,capa,rfl,-,-,-⟩:=h2.ships.opened;obtain ⟨B,capb,rfl,-,-,-⟩:=h2.members.opened;clear h2;have hw:=Ext.box w (.cells #[.int .i64 s.limit,.slice A s.ships.length capa,.slice B s.members.length capb] 25);have k0:=Blk.made w 25 #[.int .i64 s.limit,.slice A s.ships.length capa,.slice B s.members.length capb];have c2:=k0.cell 2;simp only [Go.Tw.gA,Go.Tw.gB,Go.Tw.gC] at c2;clear k0;go_enter Tryz.func135,Tryz.ntmps135;go_wp2;obtain ⟨W,hW⟩:∃ W,w.alloc (.cells #[.int .i64 s.limit,.slice A s.ships.length capa,.slice B s.members.length capb] 25)=W:=⟨_,rfl⟩;rw [hW] at c2 hw ⊢;clear hW
 go_loopw [3,4] (fun o i wr=>∃ (k:Nat),k <= s.members.length /\ i=.int .i64 k /\ Q0m wr W.heap.size 3 (.int .i64) o (X7x k) /\ Ext W wr) (fun _ i _=>s.members.length - (intOf i).toNat)
 case atStart=>exact ⟨0,Nat.zero_le _,rfl,Q0m.nil _ _ _ _,Ext.refl _⟩
 case round =>
  obtain ⟨k,hk,rfl,hown,hx⟩:=hrel;have d2:=hx.cell c2;clear c2;have hle:=Z4t k
  by_cases hlt:k < s.members.length
  . go_wp2_with (at_builtin; refine wpList_append_own _ rfl _ _ 22 rfl (W.heap.size) 3 i0 (.int .i64 0) 1 8 Tryz.underlying22 hi hz0 hz1 hz2 rfl (by decide) _ _ _ rfl (World.ownsRow.alloc hown _) ⟨wr.heap.size,0,none⟩ 1 1 [.int .i64 k] rfl rfl ?_ ?_ ?_ ?_ ?_ ?_; exact Q3i _ _ _; (focus (simp [Value.oneCell'])); (focus (unfold maxLen; omega)); (focus omega); (focus (have:=hx.size; simp at this ⊢; omega)); intro v' w1 hown' hgrow _)
    have hx2:=Q2e hx hown (Nat.le_refl _) hgrow;go_roundw
    case rel=>exact ⟨k + 1,by omega,by go_num,by rw [Z1g]; exact Q0m.snoc hown',hx2⟩
    case measure=>simp [intOf]; omega
  . go_wp2
    go_ret;exact ⟨_,rfl,by rw [show allL s=X7x k from by rw [show k=s.members.length from by omega]; rfl]; exact hown.ints (by omega),hw.trans hx⟩
end Go.Proofs
namespace Go.Proofs
open Go.RowKit Go.Tw Go.Flow
def Q7g (s:Q0b) (l:List Int) (i:Nat):Int:=if ix l i < 0 ∨ (s.members.length:Int) <= ix l i then 10 else if 0 < i /\ ix l i <= ix l (i - 1) then 11 else 0
def Q7d (s:Q0b) (l:List Int) (k:Nat):Int:=Q0l (((List.range l.length).map (Q7g s l)).drop k)
theorem Y3y {s:Q0b} {l:List Int} {k:Nat} (hk:k < l.length):Q7d s l k=if Q7g s l k=0 then Q7d s l (k + 1) else Q7g s l k:=by
 unfold Q7d;rw [List.drop_eq_getElem_cons (by simpa using hk),List.getElem_map,List.getElem_range]; rfl
theorem Y8r {s:Q0b} {l:List Int} {k:Nat} (hk:l.length <= k):Q7d s l k=0:=by
 unfold Q7d;rw [List.drop_eq_nil_of_le (by simpa using hk)]; rfl
theorem X6t (w:World) (v u:Value) (s:Q0b) (l:List Int) (hv:Q0f w v s) (hu:Q0e w u l) :
    Calls Tryz.prog 35 #[v,u] w fun e w'=>e=.returned (.int .i64 (Q3t s l)) /\ Ext w w':=by
 obtain ⟨a,b,rfl,h2⟩:=hv;obtain ⟨A,capa,rfl,-,-,-⟩:=h2.ships.opened;obtain ⟨B,capb,rfl,hlb,-,-⟩:=h2.members.opened;obtain ⟨U,cap,rfl,hl,hcap,hc⟩:=hu.opened;clear hu h2;have hw:=Ext.box w (.cells #[.int .i64 s.limit,.slice A s.ships.length capa,.slice B s.members.length capb] 25);have k0:=Blk.made w 25 #[.int .i64 s.limit,.slice A s.ships.length capa,.slice B s.members.length capb];have c2:=k0.cell 2;simp only [Go.Tw.gA,Go.Tw.gB,Go.Tw.gC] at c2;clear k0;have HW:=hid hw; clear hw
 by_cases h8:8 < l.length
 . have HE:Hid (Q3t s l=5):=by exact if_pos h8
   have h8':(8:Int) < l.length:=by omega
   go_enter Tryz.func35,Tryz.ntmps35;go_wp2;go_ret;exact ⟨Q1b HE.out.symm,HW.out⟩
 have HE:Hid (Q3t s l=Q7d s l 0):=by exact if_neg h8
 have h8':(l.length:Int) <= 8:=by omega
 go_enter Tryz.func35,Tryz.ntmps35;go_wp2;obtain ⟨W,hW⟩:∃ W,w.alloc (.cells #[.int .i64 s.limit,.slice A s.ships.length capa,.slice B s.members.length capb] 25)=W:=⟨_,rfl⟩;rw [hW] at c2 HW ⊢;clear hW
 go_loopw [5] (fun i wr=>∃ k:Nat,k <= l.length /\ i=.int .i64 k /\ Q7d s l k=Q7d s l 0 /\ Ext W wr) (fun i _=>l.length - (intOf i).toNat)
 case atStart=>exact ⟨0,Nat.zero_le _,rfl,rfl,Ext.refl _⟩
 case round =>
  obtain ⟨k,hk,rfl,hr,hx⟩:=hrel;have HR:=hid hr; clear hr;have d2:=hx.cell c2
  by_cases hlt:k < l.length
  . obtain ⟨b,off,rfl,hcell⟩:=hc k hlt
    have hcp:=fun h=>hc (k - 1) h;replace hcell:=(HW.out.trans hx).cell hcell;have HST:=hid (Y3y (s:=s) hlt);have i1:(k:Int) < l.length:=by omega
    clear c2
    by_cases h0:ix l k < 0
    . have HA:Hid (Q7g s l k=10):=by exact if_pos (.inl h0)
      clear hc hcp;go_wp2
      go_quiet (fail)
      all_goals go_wp2
      go_ret;exact ⟨Q1b (by rw [HE.out,<- HR.out,HST.out,HA.out]; rfl),HW.out.trans (hx.drewN _)⟩
    by_cases h1:(s.members.length:Int) <= ix l k
    . have HA:Hid (Q7g s l k=10):=by exact if_pos (.inr h1)
      have h0':0 <= ix l k:=by omega
      clear hc hcp;go_wp2
      go_quiet (fail)
      all_goals go_wp2
      go_ret;exact ⟨Q1b (by rw [HE.out,<- HR.out,HST.out,HA.out]; rfl),HW.out.trans (hx.drewN _)⟩
    have h0':0 <= ix l k:=by omega
    have h1':ix l k < (s.members.length:Int):=by omega
    by_cases hk0:k=0
    . have HA:Hid (Q7g s l k=0):=by exact (if_neg (by omega)).trans (if_neg (by omega))
      have j1:(k:Int) <= 0:=by omega
      have j1':k <= 0:=by omega
      have j1a:decide (0 < k)=false:=by exact decide_eq_false (by omega)
      have j1b:decide ((0:Int) < (k:Int))=false:=by exact decide_eq_false (by omega)
      clear hc hcp hk0;go_wp2
      go_quiet (fail)
      all_goals go_wp2
      go_quiet (fail)
      all_goals go_wp2
      go_roundw
      case rel=>exact ⟨k + 1,by omega,by go_num,by rw [<- HR.out,HST.out,if_pos HA.out],hx.drewN _⟩
      case measure=>simp [intOf]; omega
    . obtain ⟨b',off',hA,hcell'⟩:=hcp (by omega)
      cases hA;replace hcell':=(HW.out.trans hx).cell hcell';have j1:(0:Int) < k:=by omega
      have j1':0 < k:=by omega
      have j1a:decide (0 < k)=true:=by exact decide_eq_true (by omega)
      have j1b:decide ((0:Int) < (k:Int))=true:=by exact decide_eq_true (by omega)
      have j2:(0:Int) <= (k:Int) - 1:=by omega
      have j3:(k:Int) - 1 < l.length:=by omega
      have j4:((k:Int) - 1).toNat=k - 1:=by omega
      clear hc hcp
      by_cases h2:ix l k <= ix l (k - 1)
      . have HA:Hid (Q7g s l k=11):=by exact (if_neg (by omega)).trans (if_pos ⟨by omega,h2⟩)
        go_wp2
        go_quiet (fail)
        all_goals go_wp2
        go_quiet (fail)
        all_goals go_wp2
        go_ret;exact ⟨Q1b (by rw [HE.out,<- HR.out,HST.out,HA.out]; rfl),HW.out.trans ((hx.drewN _).drewN _)⟩
      . have HA:Hid (Q7g s l k=0):=by exact (if_neg (by omega)).trans (if_neg (fun h=>h2 h.2))
        have h2':ix l (k - 1) < ix l k:=by omega
        go_wp2
        go_quiet (fail)
        all_goals go_wp2
        go_quiet (fail)
        all_goals go_wp2
        go_roundw
        case rel=>exact ⟨k + 1,by omega,by go_num,by rw [<- HR.out,HST.out,if_pos HA.out],hx.drewN _⟩
        case measure=>simp [intOf]; omega
  . clear hc
    go_wp2;go_ret;exact ⟨Q1b (by rw [HE.out,<- HR.out,Y8r (by omega)]),HW.out.trans hx⟩
end Go.Proofs
namespace Go.Flow
open Go.RowKit Go.Tw
abbrev rnd (l:Nat):Fence:=Fence.wide.inRound l
section
variable {P:Program} {ops:Array Oper} {pre:Nat -> List Nat}
theorem Q9d {l n:Nat} {o:Oper} {a:Act} {K:Act -> World -> Prop} {Q:Exit -> Act -> World -> Prop} {r:Result Next} (h:gives P (fun v w=>K (a.put o.dst v) w) r):o.uponIn (rnd l) n P a K Q r:=by
 cases r with
 | ok n' w =>
   cases n' <;> simp only [gives,Oper.uponIn] at h ⊢
   case value=>exact h
   case skip=>exact h
   case enter =>
    refine ⟨fun hd=>by simp [rnd,Fence.inRound,Fence.wide] at hd,CallsIn.inRound l (callsIn_wide.2 (h.mono fun e w ⟨u,he,hu⟩=>?_))⟩
    subst he; exact hu
   case row =>
    exact ⟨fun hd=>by simp [rnd,Fence.inRound,Fence.wide] at hd,fun c cs _=>let ⟨v,w',hr,hs⟩:=h c cs; ⟨v,w',hr,stepsIn_wide.2 hs⟩⟩
 | halt x w=>exact h.elim
theorem X7h (tail:List Nat) (kind:Nat -> Kind) {Rel:World -> World -> Prop} {D:Nat -> (Nat -> Value) -> World -> Prop} {E:Nat -> (Nat -> Value) -> World -> World -> Prop}
    {id:Nat} {Q:Exit -> Act -> World -> Prop} {a0:Act} {w:World} {l n:Nat} (hm:P.follows .mixedOrders=true) (hnd:∀ (j:Nat) (o:Oper),ops[j]?=some o -> ∀ c,o.op ≠ .defer c) (hok:Ok ops pre)
    (htail:∀ i (h:i < tail.length),tail[i] < ops.size) (hchain:∀ i k (hi:i < tail.length) (hk:k < tail.length),i < k -> tail[i] ∈ pre tail[k])
    (hlate:∀ j,j < ops.size -> j ∉ tail -> ∀ k ∈ pre j,k ∉ tail) (hkind:∀ j,j < ops.size -> (kind j=.last ↔ j ∈ tail)) (hearly:∀ j,j < ops.size -> kind j=.world -> ∀ s ∈ tail,j ∈ pre s)
    (hrefl:∀ w,Rel w w) (htrans:∀ a b c,Rel a b -> Rel b c -> Rel a c) (hmono:∀ k,k < ops.size -> ∀ v w w',Rel w w' -> D k v w -> D k v w')
    (hvc:∀ j o,ops[j]?=some o -> j ∉ tail -> ∀ v w1,Rel w.drew w1 -> (∀ k ∈ pre j,D k (mask pre k v) w1) -> vc P ops pre Rel D (fun _ _ _=>False) (fun _ _ _=>False) (kind j) o j (act (fun k=>decide (k < j)) v ops.toList 0 a0) v w1)
    (hvl:∀ c (hc:c < tail.length) o,ops[tail[c]]?=some o -> ∀ v w1,Rel w.drew w1 -> (∀ k ∈ pre tail[c],k ∉ tail -> D k (mask pre k v) w1) -> vc P ops pre Rel D (Tail pre tail E c) (E c) .last o tail[c] (act (fun k=>decide (k < tail[c])) v ops.toList 0 a0) v w1)
    (hpost:∀ v w1 w',Rel w.drew w1 -> (∀ k,k < ops.size -> k ∉ tail -> D k (mask pre k v) w1) -> Tail pre tail E tail.length v w1 w' -> Q .normal (act (fun _=>true) v ops.toList 0 a0) w') :
    (Code.region id ops true).wpIn (rnd l) n P Q a0 w:=by
 refine wpIn_region_any hm ?_;have hclosed:∀ (X:Nat -> Bool),(∀ j o,ops[j]?=some o -> X j=true -> ∀ e ∈ o.after,Region.binds .any e=true -> X e.on=true) ->
     ∀ j o,ops[j]?=some o -> (∀ e ∈ o.after,Region.binds .any e=true -> X e.on=true) -> ∀ i ∈ pre j,X i=true:=by
  intro X hX j
  induction j using Nat.strongRecOn with
  | _ j ih =>
    intro o ho hall i hi;obtain ⟨e,he,hb,hc⟩:=hok.pre j o ho i hi
    rcases hc with rfl | hc
    . exact hall e he hb
    . have hlt:=hok.edge j o ho e he hb
      have hj:j < ops.size:=(Array.getElem?_eq_some_iff.1 ho).1;have ho':ops[e.on]?=some ops[e.on]:=Array.getElem?_eq_getElem (by omega)
      exact ih e.on hlt _ ho' (hX e.on _ ho' (hall e he hb)) i hc
 have main:∀ (fuel:Nat) (listed:Array Bool) (a:Act) (wc:World),listed.size=ops.size -> left ops.size listed <= fuel ->
     (∀ j o,ops[j]?=some o -> listed.getD j false=true -> ∀ e ∈ o.after,Region.binds .any e=true -> listed.getD e.on false=true) ->
     (∃ v w1 c,Inv ops pre Rel D E tail [] a0 w.drew (fun k=>listed.getD k false) v w1 c a wc) -> wpAnyIn (rnd l) n P .any ops Q fuel listed a wc:=by
  intro fuel;have hdone:∀ (listed:Array Bool) (a:Act) (wc:World),listed.size=ops.size ->
      (∃ v w1 c,Inv ops pre Rel D E tail [] a0 w.drew (fun k=>listed.getD k false) v w1 c a wc) -> Region.ready .any ops listed=[] -> Q .normal a wc:=by
   rintro listed a wc hsz ⟨v,w1,c,hI⟩ hr;have hall:∀ j,j < ops.size -> listed.getD j false=true:=by
    intro j
    induction j using Nat.strongRecOn with
    | _ j ih =>
      intro hj;cases hx:listed.getD j false with
      | true=>rfl
      | false =>
        have hmem:j ∈ Region.ready .any ops listed:=mem_ready.2 ⟨by rw [Q3c (by omega)]; exact hx,ops[j],Array.getElem?_eq_getElem hj,fun e he hb =>
         have hlt:=hok.edge j _ (Array.getElem?_eq_getElem hj) e he hb
         ih e.on hlt (by omega)⟩
        rw [hr] at hmem;cases hmem
   have hact:a=act (fun _=>true) v ops.toList 0 a0:=by
    rw [hI.act];refine X1q (by rw [Q2s,Q2s]) fun t=>Q6d _ _ _ _ t _ 0 _ _ rfl rfl fun k o ho _=>⟨?_,fun _=>rfl⟩
    rw [Nat.zero_add];exact hall k (by simpa using (List.getElem?_eq_some_iff.1 ho).1)
   rw [hact];refine hpost v w1 wc hI.rel (fun k hk hks=>hI.facts k (hall k hk) hks) ?_;have hl:=hI.last;have hc:c=tail.length:=by
    rcases Nat.lt_or_ge c tail.length with h | h
    . have h1:listed.getD tail[c] false=false:=hI.after c h (Nat.le_refl _)
      have h2:=hall _ (htail c h);rw [h2] at h1; cases h1
    . have:=hI.count; omega
   rw [hc] at hl;exact hl
  induction fuel with
  | zero =>
    intro listed a wc hsz hleft _ hI;have hr:Region.ready .any ops listed=[]:=by
     refine List.eq_nil_iff_forall_not_mem.2 fun j hj=>?_;obtain ⟨hun,o,ho,_⟩:=mem_ready.1 hj;have hlt:j < ops.size:=(Array.getElem?_eq_some_iff.1 ho).1;have:=X0s hsz hlt hun;omega
    exact ⟨hr,hdone listed a wc hsz hI hr⟩
  | succ fuel ih =>
    intro listed a wc hsz hleft hcl hI;refine ⟨hdone listed a wc hsz hI,fun j hj=>?_⟩;obtain ⟨v,w1,c,hI⟩:=hI;obtain ⟨hun,o,ho,hall⟩:=mem_ready.1 hj;have hlt:j < ops.size:=(Array.getElem?_eq_some_iff.1 ho).1;have hunf:listed.getD j false=false:=by rw [<- Q3c (by omega)]; exact hun
    have hpre:=hclosed (fun k=>listed.getD k false) hcl j o ho hall;have hol:ops.toList[j]?=some o:=by simpa using ho
    have hfree:∀ k,k < ops.size -> listed.getD k false=true -> j ∉ pre k:=by
     intro k hk hx hmem;have ho':ops[k]?=some ops[k]:=Array.getElem?_eq_getElem hk;have h2:listed.getD j false=true:=hclosed (fun k=>listed.getD k false) hcl k _ ho' (hcl k _ ho' hx) j hmem;rw [hunf] at h2; cases h2
    have hlater:∀ k o',j < k -> ops[k]?=some o' -> listed.getD k false=true -> o.apart ops o'=true:=by
     intro k o' hk ho' hx
     rcases hok.apart j k o o' hk ho ho' with h | h
     . exact h
     . exact absurd h (hfree k (Array.getElem?_eq_some_iff.1 ho').1 hx)
    have hlooks:∀ t ∈ o.looksAt ops,a.tmps[t]?=(act (fun k=>decide (k < j)) v ops.toList 0 a0).tmps[t]?:=by
     intro t ht;rw [hI.act];refine Q6d _ _ _ _ t _ 0 _ _ rfl rfl fun k o' ho' hd=>?_;rw [Nat.zero_add];refine ⟨?_,fun _=>rfl⟩;have ho'':ops[k]?=some o':=by simpa using ho'
     rcases Nat.lt_trichotomy k j with hk | hk | hk
     . simp only [hk,decide_true]
       rcases hok.apart k j o' o hk ho'' ho with h | h
       . exact absurd ht ((Oper.apart_spec h).1 t hd)
       . exact hpre k h
     . subst hk
       simp [hunf]
     . have hnlt:¬ k < j:=by omega
       simp only [hnlt,decide_false];cases hx:listed.getD k false with
       | false=>rfl
       | true=>exact absurd ht ((Oper.apart_spec (hlater k o' hk ho'' hx)).2.2 t hd)
    have hexec:execOp a.eval o=execOp (act (fun k=>decide (k < j)) v ops.toList 0 a0).eval o:=execOp_congr o (fun cs b=>hok.sel j o cs b ho) (eval_congr o hlooks);have hwant:Region.wanted o (yielded ops a.tmps)=Region.wanted o (yielded ops (act (fun k=>decide (k < j)) v ops.toList 0 a0).tmps):=Q9k o hlooks;have hput:∀ u,a.put o.dst u=act (fun k=>if k=j then true else listed.getD k false) (upd v j u) ops.toList 0 a0:=by
     intro u;rw [hI.act];refine Y4u hol hunf fun k o' hk ho' hx=>?_;cases hd:o.dst with
     | none=>exact .inr rfl
     | some d=>exact .inl ((Oper.apart_spec (hlater k o' hk (by simpa using ho') hx)).2.1 d hd)
    have hX:(fun k=>(listed.setIfInBounds j true).getD k false)=fun k=>if k=j then true else listed.getD k false:=by
     funext k
     split
     . rename_i hk; subst hk; simp [hsz,hlt]
     . rename_i hk; exact getD_set_ne false (Ne.symm hk)
    have hwhich:j ∈ tail -> ∃ h:c < tail.length,tail[c]=j:=by
     intro hmem;obtain ⟨i,hi,he⟩:=List.getElem_of_mem hmem;have hci:c <= i:=by
      rcases Nat.lt_or_ge i c with h | h
      . have:=hI.before i hi h
        simp only [he] at this;rw [hunf] at this; cases this
      . exact h
     have:c=i:=by
      rcases Nat.lt_or_ge c i with h | h
      . have hx:=hpre tail[c] (by rw [<- he]; exact hchain c i (by omega) hi h)
        have h1:=hI.after c (by omega) (Nat.le_refl _)
        rw [hx] at h1; cases h1
      . omega
     subst this;exact ⟨hi,he⟩
    have hnext:∀ (u:Value) (w1' wc':World) (c':Nat),Rel w1 w1' -> (j ∉ tail -> D j (mask pre j (upd v j u)) w1') -> (j ∉ tail -> c'=c) -> (j ∈ tail -> c'=c + 1) ->
        Tail pre tail E c' (upd v j u) w1' wc' -> wpAnyIn (rnd l) n P .any ops Q fuel (listed.setIfInBounds j true) (a.put o.dst u) wc':=by
     intro u w1' wc' c' hrel hD hc1 hc2 hE;refine ih _ _ _ (by simpa using hsz) (by have:=X0s hsz hlt hun; omega) (fun k ok hok' hx e he hb=>?_) ⟨upd v j u,w1',c',⟨by rw [hX]; exact hput u,htrans _ _ _ hI.rel hrel,fun k hx hks=>?_,?_,fun i hi hic=>?_,fun i hi hic=>?_,hE,fun _ h=>(nomatch h),fun _ h=>(nomatch h)⟩⟩
     . by_cases hkj:k=j
       . subst hkj
         rw [ho] at hok';cases hok';exact getD_set_true (hall e he hb)
       . rw [getD_set_ne false (Ne.symm hkj)] at hx
         exact getD_set_true (hcl k ok hok' hx e he hb)
     . rw [congrFun hX k] at hx
       by_cases hkj:k=j
       . subst hkj; exact hD hks
       . rw [if_neg hkj] at hx
         have hksz:k < ops.size:=by
          rcases Nat.lt_or_ge k ops.size with h | h
          . exact h
          . rw [<- hsz] at h; simp [Array.getElem?_eq_none h] at hx
         rw [X0q (Ne.symm hkj) (hfree k hksz hx)];exact hmono k hksz _ _ _ hrel (hI.facts k hx hks)
     . by_cases hjt:j ∈ tail
       . obtain ⟨h,_⟩:=hwhich hjt
         rw [hc2 hjt]; omega
       . rw [hc1 hjt]; exact hI.count
     . rw [congrFun hX]
       by_cases hij:tail[i]=j
       . rw [if_pos hij]
       . rw [if_neg hij]
         by_cases hjt:j ∈ tail
         . obtain ⟨h,he⟩:=hwhich hjt
           rw [hc2 hjt] at hic;have:i ≠ c:=fun e=>hij (by subst e; exact he)
           exact hI.before i hi (by omega)
         . rw [hc1 hjt] at hic; exact hI.before i hi hic
     . rw [congrFun hX]
       by_cases hjt:j ∈ tail
       . obtain ⟨h,he⟩:=hwhich hjt
         rw [hc2 hjt] at hic;rw [if_neg (fun e=>by
          have h1:=hchain c i h hi (by omega)
          rw [e,he] at h1;obtain ⟨e',he',hb',hcc⟩:=hok.pre j o ho j h1;have hl:=hok.edge j o ho e' he' hb';have h2:listed.getD j false=true:=hpre j h1;rw [hunf] at h2; cases h2)]
         exact hI.after i hi (by omega)
       . rw [hc1 hjt] at hic
         rw [if_neg (fun e=>hjt (by rw [<- e]; exact List.getElem_mem hi))]
         exact hI.after i hi hic
    have htailkeep:j ∉ tail -> ∀ u,Tail pre tail E c (upd v j u) w1 wc:=by
     intro hjt u;have hl:=hI.last;cases c with
     | zero=>exact hl
     | succ c =>
       have hct:c < tail.length:=by have:=hI.count; omega
       change E c (mask pre (tail.getD c 0) v) w1 wc at hl;show E c (mask pre (tail.getD c 0) (upd v j u)) w1 wc;have e:tail.getD c 0=tail[c]:=by simp [hct]
       rw [e] at hl ⊢;rw [X0q (fun h=>hjt (by rw [h]; exact List.getElem_mem hct)) (hfree _ (htail c hct) (hI.before c hct (by omega)))]
       exact hl
    unfold wpOpIn;simp only [ho];rw [hwant]
    by_cases hjt:j ∈ tail
    . obtain ⟨hc,he⟩:=hwhich hjt
      have hv:=hvl c hc o (by rw [he]; exact ho) v w1 hI.rel (fun k hk hkt=>hI.facts k (hpre k (by rw [<- he]; exact hk)) hkt) wc hI.last
      rw [he] at hv;have hT:∀ u w',E c (mask pre j (upd v j u)) w1 w' -> Tail pre tail E (c + 1) (upd v j u) w1 w':=by
       intro u w' h;show E c (mask pre (tail.getD c 0) (upd v j u)) w1 w';have e:tail.getD c 0=j:=by simp [hc,he]
       rw [e]; exact h
      rcases hv with ⟨hwt,hg⟩ | ⟨hwf,hD⟩
      . rw [if_pos hwt]
        refine ⟨fun _ _=>trivial,?_⟩;rw [show (rnd l).round=some l from rfl,Oper.semAt_some l _ _ (hnd j o ho)]
        rw [hexec];exact Q9d (Q4y (fun u w' h=>hnext u w1 w' (c + 1) (hrefl _) (fun h=>absurd hjt h) (fun h=>absurd hjt h) (fun _=>rfl) (hT u w' h)) hg)
      . rw [if_neg (by rw [hwf]; simp)]
        refine ⟨fun _ _=>trivial,?_⟩;exact hnext undef w1 wc (c + 1) (hrefl _) (fun h=>absurd hjt h) (fun h=>absurd hjt h) (fun _=>rfl) (hT _ _ hD)
    . have hfacts:∀ k ∈ pre j,D k (mask pre k v) w1:=fun k hk=>hI.facts k (hpre k hk) (hlate j hlt hjt k hk)
      have hv:=hvc j o ho hjt v w1 hI.rel hfacts;cases hk:kind j with
      | plain =>
        rw [hk] at hv
        rcases hv with ⟨hwt,u,hrun,hD⟩ | ⟨hwf,hD⟩
        . rw [if_pos hwt]
          refine ⟨fun _ _=>trivial,?_⟩;rw [show (rnd l).round=some l from rfl,Oper.semAt_some l _ _ (hnd j o ho)]
          rw [hexec,hrun wc];exact hnext u w1 wc c (hrefl _) (fun _=>hD) (fun _=>rfl) (fun h=>absurd h hjt) (htailkeep hjt u)
        . rw [if_neg (by rw [hwf]; simp)]
          refine ⟨fun _ _=>trivial,?_⟩;exact hnext undef w1 wc c (hrefl _) (fun _=>hD) (fun _=>rfl) (fun h=>absurd h hjt) (htailkeep hjt undef)
      | world =>
        have hc0:c=0:=by
         rcases Nat.eq_zero_or_pos c with h | h
         . exact h
         . have h0:0 < tail.length:=by have:=hI.count; omega
           have hx:=hI.before 0 h0 h;exact absurd (hearly j hlt hk tail[0] (List.getElem_mem h0)) (hfree _ (htail 0 h0) hx)
        subst hc0;have hwc:wc=w1:=hI.last;subst hwc;rw [hk] at hv
        rcases hv with ⟨hwt,hg⟩ | ⟨hwf,hD⟩
        . rw [if_pos hwt]
          refine ⟨fun _ _=>trivial,?_⟩;rw [show (rnd l).round=some l from rfl,Oper.semAt_some l _ _ (hnd j o ho)]
          rw [hexec];exact Q9d (Q4y (fun u w' h=>hnext u w' w' 0 h.1 (fun _=>h.2) (fun _=>rfl) (fun h=>absurd h hjt) rfl) hg)
        . rw [if_neg (by rw [hwf]; simp)]
          refine ⟨fun _ _=>trivial,?_⟩;exact hnext undef wc wc 0 (hrefl _) (fun _=>hD) (fun _=>rfl) (fun h=>absurd h hjt) rfl
      | last=>exact absurd ((hkind j hlt).1 hk) hjt
 refine main ops.size _ a0 _ (by simp) ?_ (fun j o _ hx=>?_) ⟨fun _=>undef,w.drew,0,?_,hrefl _,fun k hx=>?_,Nat.zero_le _,fun i _ h=>absurd h (Nat.not_lt_zero _),fun i _ _=>?_,rfl,fun _ h=>(nomatch h),fun _ h=>(nomatch h)⟩
 . exact Nat.le_trans (List.countP_le_length) (by simp)
 . have:=Q3b ops.size j
   rw [this] at hx; cases hx
 . refine (X1q (by rw [Q2s]) fun t=>?_)
   have:∀ (l:List Oper) (i:Nat) (a:Act),act (fun k=>(Array.replicate ops.size false).getD k false) (fun _=>undef) l i a=a:=by
    intro l; induction l with
    | nil=>intro i a; rfl
    | cons o l ih=>intro i a; rw [act,ih,Q3b]; rfl
   rw [this]
 . have:=Q3b ops.size k
   rw [this] at hx; cases hx
 . exact Q3b ops.size _
end
def X8e (l:List Oper):Bool:=l.all fun o=>match o.op with | .defer _=>false | _=>true
theorem Y9h {l:List Oper} (h:X8e l=true):∀ (j:Nat) (o:Oper),l.toArray[j]?=some o -> ∀ c,o.op ≠ .defer c:=by
 intro j o ho c hc;have hm:o ∈ l:=List.mem_of_getElem? (by simpa using ho)
 have:=List.all_eq_true.1 h o hm;simp [hc] at this
section
variable {P:Program} {id:Nat} {Q:Exit -> Act -> World -> Prop} {a0:Act} {w:World} {ops:List Oper}
theorem Z8m {l n:Nat} (kl:List Kind) (jl:List Nat) (pl:List (List Nat)) (tail:List Nat) (Dl:List Spec) (El:List ((Nat -> Value) -> World -> World -> Prop))
    (hm:P.follows .mixedOrders=true) (hnd:X8e ops=true) (hjl:jl=List.range' 0 ops.length) (hok:okL ops pl kl tail El.length=true)
    (hvc:X7m P ops.toArray (lookup pl []) tail w.drew (fun k=>(lookup Dl .none k).D) El (fun _ w1 w=>w=w1) ops kl jl (fun _=>a0))
    (hpost:∀ v w1,Ext w.drew w1 -> All (lookup pl []) (fun k=>(lookup Dl .none k).D) v w1 tail jl (∀ w',endOf (lookup pl []) v w1 w' tail El -> Q .normal (acts v ops jl a0) w')) :
    (Code.region id ops.toArray true).wpIn (rnd l) n P Q a0 w:=by
 subst hjl;simp only [Y4p] at hpost;simp only [okL,Bool.and_eq_true,List.all_eq_true,List.mem_range,beq_iff_eq,Bool.or_eq_true,Bool.not_eq_true',List.contains_eq_mem,decide_eq_true_eq,decide_eq_false_iff_not] at hok;obtain ⟨⟨⟨⟨⟨⟨hok,hlen⟩,htail⟩,hn⟩,hchain⟩,hlate⟩,hearly⟩:=hok;have hmem:∀ j,j ∈ tail ↔ j < ops.length /\ isLast (lookup kl .plain j)=true:=by intro j; rw [htail,List.mem_filter,List.mem_range]
 have hk:∀ j,isLast (lookup kl .plain j)=true ↔ lookup kl .plain j=.last:=by intro j; cases lookup kl .plain j <;> simp [isLast]
 have hlk:lasts kl 0=tail:=by
  rw [X7n,htail,hlen,List.range_eq_range'];rfl
 have hEl:∀ n,n < (lasts kl 0).length -> El[n]?=some ((fun c=>(El[c]?).getD fun _ _ _=>True) (0 + n)):=by
  intro n hn';rw [hlk,<- hn] at hn';simp [hn']
 have hend:∀ v w1 w',Tail (lookup pl []) tail (fun c=>(El[c]?).getD fun _ _ _=>True) tail.length v w1 w' -> endOf (lookup pl []) v w1 w' tail El:=by
  intro v w1 w' h;have gen:∀ (tl:List Nat) (el:List ((Nat -> Value) -> World -> World -> Prop)),el.length=tl.length -> (tl=[] -> w'=w1) -> (∀ (hne:tl ≠ []),((el[tl.length - 1]?).getD fun _ _ _=>True) (mask (lookup pl []) (tl.getD (tl.length - 1) 0) v) w1 w') -> endOf (lookup pl []) v w1 w' tl el:=by
   intro tl
   induction tl with
   | nil=>intro el _ h0 _; cases el <;> exact h0 rfl
   | cons j tl ih =>
     intro el hl _ h1;cases el with
     | nil=>simp at hl
     | cons E el =>
       cases tl with
       | nil=>cases el with
         | nil=>simpa [endOf] using h1 (by simp)
         | cons _ _=>simp at hl
       | cons j' tl=>cases el with
         | nil=>simp at hl
         | cons E' el =>
           show endOf _ v w1 w' (j' :: tl) (E' :: el);exact ih _ (by simpa using hl) (fun h=>by simp at h) (fun _=>by simpa using h1 (by simp))
  refine gen tail El hn.symm.symm (fun h0=>?_) (fun hne=>?_)
  . rw [h0] at h; exact h
  . obtain ⟨m,hm⟩:∃ m,tail.length=m + 1:=⟨tail.length - 1,by have:=List.length_pos_iff.2 hne; omega⟩
    rw [hm] at h;rw [hm,Nat.add_sub_cancel];exact h
 refine X7h tail (lookup kl .plain) (Rel:=Ext) (D:=fun k=>(lookup Dl .none k).D) (E:=fun c=>(El[c]?).getD fun _ _ _=>True) hm (Y9h hnd) (J3e hok)
  (fun i hi=>by simpa using ((hmem _).1 (List.getElem_mem hi)).1) (fun i k hi hk hik=>by have:=hchain k hk i hik; simpa [hi,hk] using this)
  (fun j hjl hjs k hk'=>?_) (fun j hjl=>?_) (fun j hjl hjw s hs=>?_)
  Ext.refl (fun _ _ _=>Ext.trans) (fun k _ v w w' hx hd=>(lookup Dl .none k).mono v w w' hx hd) (fun j o ho hjs v w1 hx hf=>?_) (fun c hc o ho v w1 hx hf=>?_) (fun v w1 w' hx hf hE=>?_)
 . rcases hlate j (by simpa using hjl) with h | h
   . exact absurd ((hmem j).2 ⟨by simpa using hjl,h⟩) hjs
   . exact h k hk'
 . rw [hmem,hk]; simp at hjl; simp [hjl]
 . rcases hearly j (by simpa using hjl) with h | h
   . rw [hjw] at h; simp [X9u] at h
   . exact h s hs
 . have hjl:j < ops.length:=by simpa using (Array.getElem?_eq_some_iff.1 ho).1
   have:=Z0s ops kl El _ 0 _ hlen hvc j o (by simpa using ho) (fun h=>hjs ((hmem j).2 ⟨hjl,(hk j).2 h⟩)) v w1 hx (by simpa using hf)
   rw [Nat.zero_add] at this;have e:=Q4x v ops 0 j a0;rw [Nat.zero_add] at e
   simpa [e] using this
 . have:=Q9f (fun c=>(El[c]?).getD fun _ _ _=>True) ops kl El 0 _ 0 hlen (by rw [hlk]; rfl) hEl hvc c (by rw [hlk]; exact hc) tail[c] o (by simp [hc]) (by simpa using ho) v w1 hx (by simpa using hf)
   rw [Nat.zero_add,Nat.zero_add] at this;have e:=Q4x v ops 0 tail[c] a0;rw [Nat.zero_add] at e
   simpa [e] using this
 . exact (hpost v w1 hx).out (fun k hk hks=>hf k (by simpa using hk) hks) w' (hend v w1 w' hE)
theorem J0d {l n:Nat} (kl:List Kind) (jl:List Nat) (pl:List (List Nat)) (Dl:List Spec)
    (hm:P.follows .mixedOrders=true) (hnd:X8e ops=true) (hjl:jl=List.range' 0 ops.length) (hok:okL ops pl kl [] 0=true)
    (hvc:X7m P ops.toArray (lookup pl []) [] w.drew (fun k=>(lookup Dl .none k).D) [] (fun _ w1 w=>w=w1) ops kl jl (fun _=>a0))
    (hpost:∀ v w1,Ext w.drew w1 -> All (lookup pl []) (fun k=>(lookup Dl .none k).D) v w1 [] jl (Q .normal (acts v ops jl a0) w1)) :
    (Code.region id ops.toArray true).wpIn (rnd l) n P Q a0 w :=
 Z8m kl jl pl [] Dl [] hm hnd hjl hok hvc (fun v w1 hx=>by
  have:=hpost v w1 hx;have gen:∀ (jl:List Nat) (G G':Prop),(G -> G') -> All (lookup pl []) (fun k=>(lookup Dl .none k).D) v w1 [] jl G -> All (lookup pl []) (fun k=>(lookup Dl .none k).D) v w1 [] jl G':=by
   intro jl
   induction jl with
   | nil=>intro G G' h hG; exact h hG
   | cons j jl ih =>
     intro G G' h hG;simp only [All,List.contains_nil,Bool.false_eq_true,if_false] at hG ⊢;exact fun hd=>ih G G' h (hG hd)
  exact gen _ _ _ (fun h w' (hE:w'=w1)=>hE ▸ h) this)
end
end Go.Flow
namespace Go.Flow
open Go.RowKit Go.Tw
def Z0o (P:Program) (ops:Array Oper) (pre:Nat -> List Nat) (tail:List Nat) (w0:World) (D:Nat -> (Nat -> Value) -> World -> Prop):List ((Nat -> Value) -> World -> World -> Prop) -> ((Nat -> Value) -> World -> World -> Prop) -> List Oper -> List Kind -> List Nat -> ((Nat -> Value) -> Act) -> Prop
 | El,T,o :: l,k :: kl,j :: jl,b =>
   match k,El with
   | .last,E :: El=>(∀ v w1,Ext w0 w1 -> Facts pre D v w1 ((pre j).filter fun i=>!tail.contains i) (∀ w,T v w1 w -> ∀ bb,bb=b v -> Guarded ops o bb (Due P pre D E .last o j bb v w1 w) (Pass pre D E .last j v w1 w))) /\
      Z0o P ops pre tail w0 D El (fun v w1 w=>E (mask pre j v) w1 w) l kl jl (fun v=>(b v).put o.dst (v j))
   | .last,[]=>False
   | k,El=>(∀ v w1,Ext w0 w1 -> Facts pre D v w1 (pre j) (∀ bb,bb=b v -> Guarded ops o bb (Due P pre D (fun _ _ _=>False) k o j bb v w1 w1) (Pass pre D (fun _ _ _=>False) k j v w1 w1))) /\ Z0o P ops pre tail w0 D El T l kl jl (fun v=>(b v).put o.dst (v j))
 | _,_,_,_,_,_=>True
theorem X5g {pre:Nat -> List Nat} {D:Nat -> (Nat -> Value) -> World -> Prop} {v:Nat -> Value} {w:World} {G G':Prop} (h:G -> G'):∀ {l:List Nat},Facts pre D v w l G -> Facts pre D v w l G'
 | [],hg=>h hg
 | _ :: _,hg=>fun hd=>X5g h (hg hd)
theorem X1w {P:Program} {ops:Array Oper} {pre:Nat -> List Nat} {tail:List Nat} {w0:World} {D:Nat -> (Nat -> Value) -> World -> Prop}:∀ (l:List Oper) (kl:List Kind) (jl:List Nat) (El:List ((Nat -> Value) -> World -> World -> Prop)) (T:(Nat -> Value) -> World -> World -> Prop) (b:(Nat -> Value) -> Act),
    Z0o P ops pre tail w0 D El T l kl jl b -> X7m P ops pre tail w0 D El T l kl jl b
 | [],_,_,_,_,_,_=>by simp [X7m]
 | _ :: _,[],_,_,_,_,_=>by simp [X7m]
 | _ :: _,_ :: _,[],_,_,_,_=>by simp [X7m]
 | o :: l,.last :: kl,j :: jl,E :: El,T,b,h=>⟨h.1,X1w l kl jl El _ _ h.2⟩
 | o :: l,.last :: kl,j :: jl,[],T,b,h=>h
 | o :: l,.plain :: kl,j :: jl,El,T,b,h=>⟨fun v w1 hx=>X5g (fun hg=>hg _ rfl) (h.1 v w1 hx),X1w l kl jl El _ _ h.2⟩
 | o :: l,.world :: kl,j :: jl,El,T,b,h=>⟨fun v w1 hx=>X5g (fun hg=>hg _ rfl) (h.1 v w1 hx),X1w l kl jl El _ _ h.2⟩
section
variable {P:Program} {ops:List Oper} {id:Nat} {Q:Exit -> Act -> World -> Prop} {a0:Act} {w:World}
theorem Q4c (kl:List Kind) (jl:List Nat) (pl:List (List Nat)) (tail:List Nat) (Dl:List Spec) (El:List ((Nat -> Value) -> World -> World -> Prop))
    (hm:P.follows .mixedOrders=true) (hjl:jl=List.range' 0 ops.length) (hok:okL ops pl kl tail El.length=true)
    (hvc:Z0o P ops.toArray (lookup pl []) tail w.drew (fun k=>(lookup Dl .none k).D) El (fun _ w1 w=>w=w1) ops kl jl (fun _=>a0))
    (hpost:∀ v w1,Ext w.drew w1 -> All (lookup pl []) (fun k=>(lookup Dl .none k).D) v w1 tail jl (∀ w',endOf (lookup pl []) v w1 w' tail El -> Q .normal (acts v ops jl a0) w')) :
    (Code.region id ops.toArray true).wp P Q a0 w:=region kl jl pl tail Dl El hm hjl hok (X1w _ _ _ _ _ _ hvc) hpost
theorem Q1d (kl:List Kind) (jl:List Nat) (pl:List (List Nat)) (Dl:List Spec)
    (hm:P.follows .mixedOrders=true) (hjl:jl=List.range' 0 ops.length) (hok:okL ops pl kl [] 0=true)
    (hvc:Z0o P ops.toArray (lookup pl []) [] w.drew (fun k=>(lookup Dl .none k).D) [] (fun _ w1 w=>w=w1) ops kl jl (fun _=>a0))
    (hpost:∀ v w1,Ext w.drew w1 -> All (lookup pl []) (fun k=>(lookup Dl .none k).D) v w1 [] jl (Q .normal (acts v ops jl a0) w1)) :
    (Code.region id ops.toArray true).wp P Q a0 w:=J2n kl jl pl Dl hm hjl hok (X1w _ _ _ _ _ _ hvc) hpost
theorem Z3b {l n:Nat} (kl:List Kind) (jl:List Nat) (pl:List (List Nat)) (tail:List Nat) (Dl:List Spec) (El:List ((Nat -> Value) -> World -> World -> Prop))
    (hm:P.follows .mixedOrders=true) (hnd:X8e ops=true) (hjl:jl=List.range' 0 ops.length) (hok:okL ops pl kl tail El.length=true)
    (hvc:Z0o P ops.toArray (lookup pl []) tail w.drew (fun k=>(lookup Dl .none k).D) El (fun _ w1 w=>w=w1) ops kl jl (fun _=>a0))
    (hpost:∀ v w1,Ext w.drew w1 -> All (lookup pl []) (fun k=>(lookup Dl .none k).D) v w1 tail jl (∀ w',endOf (lookup pl []) v w1 w' tail El -> Q .normal (acts v ops jl a0) w')) :
    (Code.region id ops.toArray true).wpIn (rnd l) n P Q a0 w:=Z8m kl jl pl tail Dl El hm hnd hjl hok (X1w _ _ _ _ _ _ hvc) hpost
theorem X2k {l n:Nat} (kl:List Kind) (jl:List Nat) (pl:List (List Nat)) (Dl:List Spec)
    (hm:P.follows .mixedOrders=true) (hnd:X8e ops=true) (hjl:jl=List.range' 0 ops.length) (hok:okL ops pl kl [] 0=true)
    (hvc:Z0o P ops.toArray (lookup pl []) [] w.drew (fun k=>(lookup Dl .none k).D) [] (fun _ w1 w=>w=w1) ops kl jl (fun _=>a0))
    (hpost:∀ v w1,Ext w.drew w1 -> All (lookup pl []) (fun k=>(lookup Dl .none k).D) v w1 [] jl (Q .normal (acts v ops jl a0) w1)) :
    (Code.region id ops.toArray true).wpIn (rnd l) n P Q a0 w:=J0d kl jl pl Dl hm hnd hjl hok (X1w _ _ _ _ _ _ hvc) hpost
end
end Go.Flow
namespace Go.Flow
open Go.RowKit Go.Tw
theorem Y7e {ops:Array Oper} {b:Act} {o:Oper} {j:Nat} {want x:Bool} {d:Tmp} (hg:o.guard=some (j,want)) (hd:(ops[j]?).bind (·.dst)=some d) (hsz:d < b.tmps.size) (hv:b.eval (.tmp d)=.bool x):Region.wanted o (yielded ops b.tmps)=(x == want):=by
 have h2:b.tmps[d]?=some (.bool x):=by
  have:b.tmps.getD d undef=.bool x:=hv;rw [Array.getD_eq_getD_getElem?,Array.getElem?_eq_getElem hsz] at this;rw [Array.getElem?_eq_getElem hsz];exact congrArg some this
 unfold Region.wanted;rw [hg];show (yielded ops b.tmps j == some want)=_;have:yielded ops b.tmps j=some x:=by
  unfold yielded;rw [hd];show (match b.tmps[d]? with | some (.bool b)=>some b | _=>none)=_
  rw [h2]
 rw [this];cases x <;> cases want <;> rfl
theorem Q0o {ops:Array Oper} {b:Act} {o:Oper} {j:Nat} {want:Bool} {d:Tmp} {T F:Prop} (hg:o.guard=some (j,want)) (hd:(ops[j]?).bind (·.dst)=some d) (hsz:d < b.tmps.size) (hv:b.eval (.tmp d)=.bool want) (h:T):Guarded ops o b T F:=by
 have:=Y7e hg hd hsz hv;unfold Guarded;rw [hg];exact .inl ⟨by rw [this]; cases want <;> rfl,h⟩
theorem Q1h {ops:Array Oper} {b:Act} {o:Oper} {j:Nat} {want:Bool} {d:Tmp} {T F:Prop} (hg:o.guard=some (j,want)) (hd:(ops[j]?).bind (·.dst)=some d) (hsz:d < b.tmps.size) (hv:b.eval (.tmp d)=.bool (!want)) (h:F):Guarded ops o b T F:=by
 have:=Y7e hg hd hsz hv;unfold Guarded;rw [hg];exact .inr ⟨by rw [this]; cases want <;> rfl,h⟩
end Go.Flow
