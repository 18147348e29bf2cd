/- Small aids for the uses of the region theorem and for boxes. What the functions of chapter 5 come to, in plain lists and numbers: no program is in sight here. Contracts of the reference: before, count, dry. The last operations of a region: the frame under a name, its slots looked up one by one (to reckon the frame out runs away). Contract of the reference: Weight. Contracts of the reference: CheckNeed, OnlyMembers. Plain law: the greatest weight and the best cost over the plans are those over all policies by their codes. Plain law: what PolicyBest says of the greatest weight, the best cost and the groups. Contract of the reference: Play. Certificates and refusals: what is accepted and what is not; plain lists, no program is in sight. Contract of the reference: coded. A list of lists that a call makes and appends to. What an argument of four numbers reads as. Lists of lists whose parts are the call's own. -/
import Derived.Test.YthnobngcipaljaaGreatDoorPp35
set_option maxRecDepth 1000000
set_option maxHeartbeats 64000000
set_option linter.unusedVariables false
set_option linter.unusedSimpArgs false
set_option linter.constructorNameAsVariable false
open Go.Lib (hid)
namespace Go.Tw
open Go.RowKit Go.Flow
theorem J2m {α:Type} {P:Program} {K:Value -> World -> Prop} {o:Oper} {a:Act} {w:World} (s x:Operand) (t:TypeId) (ho:o.op=.call { callee:=.builtin .append,args:=#[s,x],argTypes:=#[t,t] })
    (base:Nat) (e:TypeId) (i:TypeInfo) (z:Value) (bytes:Nat) (ht:P.underlying t=some (.slice e)) (hi:P.info? e=some i) (hz:i.zero=some z) (hsize:i.size=1) (hby:i.bytes=bytes) (hzs:z.cells.size=1)
    (enc:α -> Value) (v src:Value) (ys:List α) (hs:a.eval s=v) (hv:∃ g,v=.slice (some ⟨g,0,none⟩) 0 0 /\ base <= g /\ w.heap[g]?=some (.cells #[] e (0,0))) (hx:a.eval x=src) (hsrc:Src w enc src ys) (h1:∀ y ∈ ys,(enc y).oneCell'=true)
    (h63:ys.length <= 4398046511104) (hb:bytes <= 32) (hbase:base <= w.heap.size)
    (h:∀ v' w',Q0q w' base e enc v' ys -> Ext w w' -> K v' w'):gives P K ((execOp a.eval o).run P w):=by
 obtain ⟨g,rfl,hbg,hg⟩:=hv;have hown:Q0q w base e enc (.slice (some ⟨g,0,none⟩) 0 0) ([]:List α):=⟨by simp,.inr ⟨g,0,#[],rfl,hbg,hg,Nat.le_refl _,Nat.zero_le _,rfl,by simp⟩⟩
 obtain ⟨A,c,rfl,hc⟩:=hsrc;cases ys with
 | nil =>
   unfold execOp;simp only [ho,resolve,invoke,builtin,Sem.run_bind,Sem.run_pure,Result.andThen_ok,List.map_toArray,List.map_cons,List.map_nil,hs,hx];rw [List.length_nil,Q7q (P:=P) w t o.type e i ht hi _ A 0 0 c (Nat.le_refl _)];exact h _ _ hown (Ext.refl _)
 | cons y ys =>
   obtain ⟨b0,off0,rfl,_⟩:=hc 0 (by simp)
   have hnews:∀ j u,((y :: ys).map enc)[j]?=some u -> w.cell? ((⟨b0,off0,none⟩:Addr).add j)=some u:=fun j u hu=>by
    rw [List.getElem?_map] at hu
    rcases Nat.lt_or_ge j (y :: ys).length with hj | hj
    . rw [List.getElem?_eq_getElem hj] at hu
      simp only [Option.map_some,Option.some.injEq] at hu;obtain ⟨b',off',hA,hcell⟩:=hc j hj;cases hA;rw [<- hu,addr_add]; exact hcell
    . rw [List.getElem?_eq_none hj] at hu; cases hu
   have hbytes:(y :: ys).length * bytes <= 140737488355328:=by
    have:(y :: ys).length * bytes <= 4398046511104 * 32:=Nat.mul_le_mul h63 hb;omega
   obtain ⟨v',w',hr,h2,h3,h4⟩:=run_append_own (P:=P) w base t o.type e i z 1 bytes ht hi hz hsize hby hzs (by decide) _ 0 (([]:List α).map enc) hown ⟨b0,off0,none⟩ (y :: ys).length c ((y :: ys).map enc) (by simp) hnews (fun u hu=>by obtain ⟨y,hy,rfl⟩:=List.mem_map.1 hu; exact h1 y hy) (by unfold maxLen; omega) (by rw [Nat.zero_add]; exact hbytes) hbase
   have hgr:=run_append_grow (P:=P) w t o.type e i z ht hi hz ⟨g,0,none⟩ 0 0 [] (by simp) (by simp) ⟨b0,off0,none⟩ (y :: ys).length c ((y :: ys).map enc) (by rw [hsize]; simp) hnews (by simp) (by simp only [List.length_cons] at h63 ⊢; omega) (by rw [hby]; exact growslice_fits (by simp) (by rw [Nat.zero_add]; exact hbytes))
   rw [hr] at hgr;injection hgr with hv' hw';unfold execOp;simp only [ho,resolve,invoke,builtin,Sem.run_bind,Sem.run_pure,Result.andThen_ok,List.map_toArray,List.map_cons,List.map_nil,hs,hx,hr];refine h v' w' ?_ (by rw [hw']; exact ((Ext.refl w).drew).alloc _)
   unfold Q0q
   simpa using h2
end Go.Tw
namespace Go.Tw
namespace Q0b
end Q0b
namespace Q0b
end Q0b
def always (s:Q0b) (c:Bool):List Rul:=s.hist.map fun h=>⟨h,c⟩
namespace Mem
end Mem
def J2v (s:Q0b) (l:List Int):Int:=if 8 < l.length then 5 else
 Q0g ((List.range l.length).map fun i=>if ix l i < 0 ∨ (s.members.length:Int) <= ix l i then 10 else if 0 < i /\ ix l i <= ix l (i - 1) then 11 else 0)
namespace Mem
end Mem
end Go.Tw
namespace Go.Proofs
open Go.RowKit Go.Tw Go.Flow
theorem J6s {a b:List Int} {k:Nat} (ha:k < a.length) (hb:k < b.length):Q5y (a.drop k) (b.drop k)=if ix a k=ix b k then Q5y (a.drop (k + 1)) (b.drop (k + 1)) else decide (ix a k < ix b k):=by
 rw [Q3b ha,Q3b hb]; rfl
theorem J3g (w:World) (u v:Value) (l m:List Int) (hu:Q0d w u l) (hv:Q0d w v m) (hlen:l.length=m.length) :
    Calls Tryz.prog 117 #[u,v] w fun e w'=>e=.returned (.bool (Q5y l m)) /\ Ext w w':=by
 obtain ⟨A,cap,rfl,hl,hcap,hc⟩:=hu.opened;obtain ⟨A',cap',rfl,hl',hcap',hc'⟩:=hv.opened;clear hu hv;have i0:l.length <= m.length:=by omega
 have HLEN:=hid hlen; clear hlen;go_enter Tryz.func117,Tryz.ntmps117;go_wp2
 go_loopw [5] (fun i wr=>∃ k:Nat,k <= l.length /\ i=.int .i64 k /\ Q5y (l.drop k) (m.drop k)=Q5y l m /\ Ext w wr) (fun i _=>l.length - (intOf i).toNat)
 case atStart=>exact ⟨0,Nat.zero_le _,rfl,rfl,Ext.refl _⟩
 case round =>
  obtain ⟨k,hk,rfl,hr,hx⟩:=hrel;have HR:=hid hr; clear hr
  by_cases hlt:k < l.length
  . obtain ⟨b,off,rfl,hcell⟩:=hc k hlt
    obtain ⟨b',off',rfl,hcell'⟩:=hc' k (by omega)
    replace hcell:=hx.cell hcell;replace hcell':=hx.cell hcell';clear hc hc';have i1:(k:Int) < l.length:=by omega
    have i2:(k:Int) < m.length:=by omega
    have hst:=J6s hlt (show k < m.length by omega)
    have HST:=hid hst; clear hst
    by_cases hx0:ix l k=ix m k
    . have hx1:(ix l k != ix m k)=false:=by simp [hx0]
      have HX:=hid hx0; clear hx0;go_wp2
      go_quiet (fail)
      all_goals go_wp2
      go_roundw
      case rel=>exact ⟨k + 1,by omega,by go_num,by rw [<- HR.out,HST.out,if_pos HX.out],hx.drewN _⟩
      case measure=>simp [intOf]; omega
    . have hx1:(ix l k != ix m k)=true:=by simp [hx0]
      have HX:=hid hx0; clear hx0;go_wp2
      go_quiet (fail)
      all_goals go_wp2
      go_quiet (fail)
      all_goals go_wp2
      go_ret;exact ⟨Q0u (by rw [<- HR.out,HST.out,if_neg HX.out]),(hx.drewN _).drewN _⟩
  . clear hc hc'
    go_wp2;go_ret;exact ⟨Q0u (by rw [<- HR.out,List.drop_eq_nil_of_le (by omega)]; rfl),hx⟩
end Go.Proofs
namespace Go.Flow
open Go.RowKit Go.Tw
theorem J2k {a:Act} {u:Value} {x:Operand}:(a.put none u).eval x=a.eval x:=rfl
end Go.Flow
namespace Go.Proofs
open Go.RowKit Go.Tw Go.Flow
theorem J3q (w:World) (v u:Value) (s:Q0b) (l:List Int) (hv:Q0h w v s) (hu:Q0d w u l) (hs:Q1b s) (hin:∀ x ∈ l,0 <= x /\ x < s.members.length) (hle:l.length <= 4096) :
    Calls Tryz.prog 29 #[v,u] w fun e w'=>e=.returned (.int .i64 (Q2c s l)) /\ Ext w w':=by
 obtain ⟨a,b,rfl,h2⟩:=hv;obtain ⟨A,capa,rfl,-,-,-⟩:=h2.ships.opened;obtain ⟨B,capb,rfl,hlb,hcapb,hcb⟩:=h2.members.opened;obtain ⟨U,cap,rfl,hl,hcap,hc⟩:=hu.opened;clear hu h2;have hxW:=Ext.box w (.cells #[.int .i64 s.limit,.slice A s.ships.length capa,.slice B s.members.length capb] 25);have k0:=Blk.made w 25 #[.int .i64 s.limit,.slice A s.ships.length capa,.slice B s.members.length capb];have c2:=k0.cell 2;simp only [Go.Tw.gA,Go.Tw.gB,Go.Tw.gC] at c2;clear k0;have HX:=hid hxW; clear hxW;have HS:=hid hs; clear hs;have HIN:=hid hin; clear hin;have HM:Hid (s.members.length <= 8):=HS.out.some.2;go_enter Tryz.func29,Tryz.ntmps29;go_wp2
 go_loopw [5,6] (fun n i wr=>∃ (k:Nat) (m:Int),k <= l.length /\ i=.int .i64 k /\ n=.int .i64 m /\ m=Q4d s l k /\ Ext (w.alloc (.cells #[.int .i64 s.limit,.slice A s.ships.length capa,.slice B s.members.length capb] 25)) wr) (fun _ i _=>l.length - (intOf i).toNat)
 case atStart=>exact ⟨0,0,Nat.zero_le _,rfl,rfl,rfl,Ext.refl _⟩
 case round =>
  obtain ⟨k,m,hk,rfl,rfl,hr,hx⟩:=hrel;have HR:=hid hr; clear hr;replace c2:=hx.cell c2
  by_cases hlt:k < l.length
  . obtain ⟨b,off,rfl,hcell⟩:=hc k hlt
    have h3:=HIN.out _ (List.getElem_mem hlt);rw [<- Q4s hlt] at h3;obtain ⟨j,hj⟩:∃ j:Nat,ix l k=j:=⟨(ix l k).toNat,by omega⟩
    obtain ⟨b',off',x,y,z,rfl,-,-,hcell',-⟩:=hcb j (by omega)
    replace hcell:=(HX.out.trans hx).cell hcell;replace hcell':=(HX.out.trans hx).cell hcell';have hb2:=X5d HS.out HIN.out (k + 1) (by omega)
    have hsum:Q4d s l (k + 1)=m + Q0i s.members j:=by rw [X1d hlt,HR.out,hj,Int.toNat_natCast]
    rw [hsum] at hb2;rw [hj] at hcell h3;have HSM:=hid hsum; clear hsum;have i1:(k:Int) < l.length:=by omega
    have i0:(j:Int) < s.members.length:=h3.2;have i2:0 <= m + Q0i s.members j:=hb2.1;have i3:m + Q0i s.members j <= 10000000:=by omega
    clear hb2 h3 hj hc hcb;go_wp2
    go_quiet (fail)
    all_goals go_wp2
    go_roundw
    case rel=>exact ⟨k + 1,m + Q0i s.members j,by omega,by go_num,by go_num,HSM.out.symm,hx.drewN _⟩
    case measure=>simp [intOf]; omega
  . clear hc hcb
    go_wp2;go_ret;exact ⟨Q1d (by rw [HR.out,show k=l.length by omega,Q4d,List.take_length]),HX.out.trans hx⟩
end Go.Proofs
namespace Go.Proofs
open Go.RowKit Go.Tw Go.Flow
theorem J4h (w:World) (x:Int) :
    Calls Tryz.prog 23 #[.int .i64 x] w fun e w'=>e=.returned (.int .i64 (Q0f x 0 8000)) /\ w=w':=by
 go_enter Tryz.func23,Tryz.ntmps23;go_wp2_with (go_at_call 87; refine (Q2a _ x 0 8000).mono ?_; rintro e w' ⟨rfl,rfl⟩);go_ret;exact ⟨rfl,rfl⟩
def J2p (s:Q0b) (l:List Int) (i:Nat):Int:=if ix l i < 0 ∨ (s.members.length:Int) <= ix l i then 10 else if 0 < i /\ ix l i <= ix l (i - 1) then 11 else 0
def J2o (s:Q0b) (l:List Int) (k:Nat):Int:=Q0g (((List.range l.length).map (J2p s l)).drop k)
theorem J5g {s:Q0b} {l:List Int} {k:Nat} (hk:k < l.length):J2o s l k=if J2p s l k=0 then J2o s l (k + 1) else J2p s l k:=by
 unfold J2o;rw [List.drop_eq_getElem_cons (by simpa using hk),List.getElem_map,List.getElem_range]; rfl
theorem J5o {s:Q0b} {l:List Int} {k:Nat} (hk:l.length <= k):J2o s l k=0:=by
 unfold J2o;rw [List.drop_eq_nil_of_le (by simpa using hk)]; rfl
theorem J2u (w:World) (v u:Value) (s:Q0b) (l:List Int) (hv:Q0h w v s) (hu:Q0d w u l) :
    Calls Tryz.prog 35 #[v,u] w fun e w'=>e=.returned (.int .i64 (J2v s l)) /\ Ext w w':=by
 obtain ⟨a,b,rfl,h2⟩:=hv;obtain ⟨A,capa,rfl,-,-,-⟩:=h2.ships.opened;obtain ⟨B,capb,rfl,hlb,-,-⟩:=h2.members.opened;obtain ⟨U,cap,rfl,hl,hcap,hc⟩:=hu.opened;clear hu h2;have hw:=Ext.box w (.cells #[.int .i64 s.limit,.slice A s.ships.length capa,.slice B s.members.length capb] 25);have k0:=Blk.made w 25 #[.int .i64 s.limit,.slice A s.ships.length capa,.slice B s.members.length capb];have c2:=k0.cell 2;simp only [Go.Tw.gA,Go.Tw.gB,Go.Tw.gC] at c2;clear k0;have HW:=hid hw; clear hw
 by_cases h8:8 < l.length
 . have HE:Hid (J2v s l=5):=by exact if_pos h8
   have h8':(8:Int) < l.length:=by omega
   go_enter Tryz.func35,Tryz.ntmps35;go_wp2;go_ret;exact ⟨Q1d HE.out.symm,HW.out⟩
 have HE:Hid (J2v s l=J2o s l 0):=by exact if_neg h8
 have h8':(l.length:Int) <= 8:=by omega
 go_enter Tryz.func35,Tryz.ntmps35;go_wp2;obtain ⟨W,hW⟩:∃ W,w.alloc (.cells #[.int .i64 s.limit,.slice A s.ships.length capa,.slice B s.members.length capb] 25)=W:=⟨_,rfl⟩;rw [hW] at c2 HW ⊢;clear hW
 go_loopw [5] (fun i wr=>∃ k:Nat,k <= l.length /\ i=.int .i64 k /\ J2o s l k=J2o s l 0 /\ Ext W wr) (fun i _=>l.length - (intOf i).toNat)
 case atStart=>exact ⟨0,Nat.zero_le _,rfl,rfl,Ext.refl _⟩
 case round =>
  obtain ⟨k,hk,rfl,hr,hx⟩:=hrel;have HR:=hid hr; clear hr;have d2:=hx.cell c2
  by_cases hlt:k < l.length
  . obtain ⟨b,off,rfl,hcell⟩:=hc k hlt
    have hcp:=fun h=>hc (k - 1) h;replace hcell:=(HW.out.trans hx).cell hcell;have HST:=hid (J5g (s:=s) hlt);have i1:(k:Int) < l.length:=by omega
    clear c2
    by_cases h0:ix l k < 0
    . have HA:Hid (J2p s l k=10):=by exact if_pos (.inl h0)
      clear hc hcp;go_wp2
      go_quiet (fail)
      all_goals go_wp2
      go_ret;exact ⟨Q1d (by rw [HE.out,<- HR.out,HST.out,HA.out]; rfl),HW.out.trans (hx.drewN _)⟩
    by_cases h1:(s.members.length:Int) <= ix l k
    . have HA:Hid (J2p s l k=10):=by exact if_pos (.inr h1)
      have h0':0 <= ix l k:=by omega
      clear hc hcp;go_wp2
      go_quiet (fail)
      all_goals go_wp2
      go_ret;exact ⟨Q1d (by rw [HE.out,<- HR.out,HST.out,HA.out]; rfl),HW.out.trans (hx.drewN _)⟩
    have h0':0 <= ix l k:=by omega
    have h1':ix l k < (s.members.length:Int):=by omega
    by_cases hk0:k=0
    . have HA:Hid (J2p s l k=0):=by exact (if_neg (by omega)).trans (if_neg (by omega))
      have j1:(k:Int) <= 0:=by omega
      have j1':k <= 0:=by omega
      have j1a:decide (0 < k)=false:=by exact decide_eq_false (by omega)
      have j1b:decide ((0:Int) < (k:Int))=false:=by exact decide_eq_false (by omega)
      clear hc hcp hk0;go_wp2
      go_quiet (fail)
      all_goals go_wp2
      go_quiet (fail)
      all_goals go_wp2
      go_roundw
      case rel=>exact ⟨k + 1,by omega,by go_num,by rw [<- HR.out,HST.out,if_pos HA.out],hx.drewN _⟩
      case measure=>simp [intOf]; omega
    . obtain ⟨b',off',hA,hcell'⟩:=hcp (by omega)
      cases hA;replace hcell':=(HW.out.trans hx).cell hcell';have j1:(0:Int) < k:=by omega
      have j1':0 < k:=by omega
      have j1a:decide (0 < k)=true:=by exact decide_eq_true (by omega)
      have j1b:decide ((0:Int) < (k:Int))=true:=by exact decide_eq_true (by omega)
      have j2:(0:Int) <= (k:Int) - 1:=by omega
      have j3:(k:Int) - 1 < l.length:=by omega
      have j4:((k:Int) - 1).toNat=k - 1:=by omega
      clear hc hcp
      by_cases h2:ix l k <= ix l (k - 1)
      . have HA:Hid (J2p s l k=11):=by exact (if_neg (by omega)).trans (if_pos ⟨by omega,h2⟩)
        go_wp2
        go_quiet (fail)
        all_goals go_wp2
        go_quiet (fail)
        all_goals go_wp2
        go_ret;exact ⟨Q1d (by rw [HE.out,<- HR.out,HST.out,HA.out]; rfl),HW.out.trans ((hx.drewN _).drewN _)⟩
      . have HA:Hid (J2p s l k=0):=by exact (if_neg (by omega)).trans (if_neg (fun h=>h2 h.2))
        have h2':ix l (k - 1) < ix l k:=by omega
        go_wp2
        go_quiet (fail)
        all_goals go_wp2
        go_quiet (fail)
        all_goals go_wp2
        go_roundw
        case rel=>exact ⟨k + 1,by omega,by go_num,by rw [<- HR.out,HST.out,if_pos HA.out],hx.drewN _⟩
        case measure=>simp [intOf]; omega
  . clear hc
    go_wp2;go_ret;exact ⟨Q1d (by rw [HE.out,<- HR.out,J5o (by omega)]),HW.out.trans hx⟩
end Go.Proofs
namespace Go.Tw
variable {s:Q0b}
def J2l (s:Q0b) (n:Nat):List Rul:=(List.range s.hist.length).map fun i=>⟨s.hist.getD i [],n.testBit i⟩
theorem J3s:∀ (m:Nat) (g:Nat -> Bool),∃ n,n < 2 ^ m /\ ∀ i,i < m -> n.testBit i=g i
 | 0,_=>⟨0,by decide,fun i h=>absurd h (Nat.not_lt_zero _)⟩
 | m + 1,g=>by
   obtain ⟨n,hn,h⟩:=J3s m g;cases hg:g m
   . refine ⟨n,by rw [Nat.pow_succ]; omega,fun i hi=>?_⟩
     by_cases e:i=m
     . subst e; rw [hg,Nat.testBit_lt_two_pow hn]
     . exact h i (by omega)
   . refine ⟨2 ^ m + n,by rw [Nat.pow_succ]; omega,fun i hi=>?_⟩
     by_cases e:i=m
     . subst e; rw [hg,Nat.testBit_two_pow_add_eq,Nat.testBit_lt_two_pow hn]; rfl
     . rw [Nat.testBit_two_pow_add_gt (by omega)]; exact h i (by omega)
theorem J3c {α:Type} (g:α -> Int):∀ (l:List α) (a:Int),a <= l.foldl (fun m x=>max m (g x)) a /\ (∀ x ∈ l,g x <= l.foldl (fun m x=>max m (g x)) a) /\
    (l.foldl (fun m x=>max m (g x)) a=a ∨ ∃ x ∈ l,l.foldl (fun m x=>max m (g x)) a=g x)
 | [],a=>⟨Int.le_refl _,fun _ h=>absurd h (by simp),.inl rfl⟩
 | y :: l,a=>by
   obtain ⟨h1,h2,h3⟩:=J3c g l (max a (g y));rw [List.foldl_cons];refine ⟨by omega,fun x hx=>?_,?_⟩
   . rcases List.mem_cons.1 hx with e | e
     . subst e; omega
     . exact h2 x e
   . rcases h3 with h3 | ⟨x,hx,h3⟩
     . by_cases e:a <= g y
       . exact .inr ⟨y,List.mem_cons_self,by omega⟩
       . exact .inl (by omega)
     . exact .inr ⟨x,List.mem_cons_of_mem _ hx,h3⟩
end Go.Tw
namespace Go.Tw
variable {s:Q0b}
theorem J6f {α:Type} {g h:α -> Int}:∀ {l:List α},(∀ x ∈ l,g x <= h x) -> (l.map g).sum <= (l.map h).sum
 | [],_=>Int.le_refl _
 | x :: l,hh=>by
   have h1:=hh x List.mem_cons_self;have h2:=J6f (l:=l) fun y hy=>hh y (List.mem_cons_of_mem _ hy);rw [List.map_cons,List.sum_cons,List.map_cons,List.sum_cons]; omega
theorem sum_add {α:Type} (g h:α -> Int):∀ l:List α,(l.map fun x=>g x + h x).sum=(l.map g).sum + (l.map h).sum
 | []=>rfl
 | x :: l=>by simp only [List.map_cons,List.sum_cons,sum_add g h l]; omega
theorem J6d {α β:Type} (F:α -> β -> Int) (m:List β):∀ l:List α,(l.map fun a=>(m.map fun b=>F a b).sum).sum=(m.map fun b=>(l.map fun a=>F a b).sum).sum
 | []=>by simp only [List.map_nil,List.sum_nil]; rw [X0p]
 | x :: l=>by simp only [List.map_cons,List.sum_cons,J6d F m l]; rw [sum_add]
theorem J4x {α:Type} {g:α -> Int} {l:List α} (h:∀ x ∈ l,0 <= g x):0 <= (l.map g).sum:=by
 have:=J6f (g:=fun _=>0) h
 rwa [X0p] at this
theorem J7i {α:Type} {g:α -> Int}:∀ {l:List α} {a:α},a ∈ l -> (∀ x ∈ l,0 <= g x) -> g a <= (l.map g).sum
 | [],_,h,_=>absurd h (by simp)
 | x :: l,a,h,h0=>by
   rw [List.map_cons,List.sum_cons];have h1:=J4x (g:=g) (l:=l) fun y hy=>h0 y (List.mem_cons_of_mem _ hy)
   rcases List.mem_cons.1 h with e | e
   . subst e; omega
   . have:=J7i e fun y hy=>h0 y (List.mem_cons_of_mem _ hy)
     have:=h0 x List.mem_cons_self; omega
theorem J5c (hv:Q1b s) (p:List Rul):0 <= Q2c s (Q3r s p):=by
 refine J4x fun i hi=>?_;obtain ⟨k,hk,rfl⟩:=List.mem_map.1 hi;have:=(hv.weights k (List.mem_range.1 (List.mem_filter.1 hk).1)).1;show 0 <= Q0i s.members k;omega
theorem J3l (hf:Fine s) (p:List Rul):∃ x ∈ Q2j s,Q2c s (Q3r s p) <= x.weight /\ x.closings <= Q4z s p /\ x.delay <= X2t s p:=by
 rw [<- Z5v hf,<- Y3m hf,<- Z3k hf];exact Y5s hf _
theorem J3k (x:Plan) (hx:x ∈ Q2j s):x.weight <= Z5c s:=(J3c Plan.weight (Q2j s) 0).2.1 x hx
theorem J5p (hf:Fine s) (p:List Rul):Q2c s (Q3r s p) <= Z5c s:=by
 obtain ⟨x,hx,e,-,-⟩:=J3l hf p;exact Int.le_trans e (J3k x hx)
theorem J2y:0 <= Z5c s:=(J3c Plan.weight (Q2j s) 0).1
theorem J3x (hv:Q1b s):∃ x ∈ Q2j s,x.weight=Z5c s:=by
 rcases (J3c Plan.weight (Q2j s) 0).2.2 with h | ⟨x,hx,h⟩
 . obtain ⟨x,hx,e,-,-⟩:=J3l hv.toFine []
   have h1:=J5c hv [];have h2:=J3k x hx;have h3:Z5c s=0:=h;exact ⟨x,hx,by omega⟩
 . exact ⟨x,hx,h.symm⟩
theorem J3j (need:Int):Best need ((Q2j s).map tri) ((Y2s s need).map fun x=>(x.closings,x.delay)) /\ ∀ x,Y2s s need=some x -> x ∈ Q2j s /\ need <= x.weight:=by
 have:=X7o need (Q2j s) [] none (fun t ht=>absurd ht (by simp)) (fun x hx=>by cases hx)
 simpa [Y2s] using this
theorem J3b (hv:Q1b s) (need:Int):(Y2s s need).isSome=true ↔ need <= Z5c s:=by
 obtain ⟨h1,h2⟩:=J3j (s:=s) need
 constructor
 . intro h
   obtain ⟨x,hx⟩:=Option.isSome_iff_exists.1 h;obtain ⟨k1,k2⟩:=h2 x hx;exact Int.le_trans k2 (J3k x k1)
 . intro h
   obtain ⟨x,hx,e⟩:=J3x hv;cases hb:Y2s s need with
   | some y=>rfl
   | none =>
     rw [hb] at h1;have:x.weight < need:=h1 (tri x) (List.mem_map.2 ⟨x,hx,rfl⟩);omega
theorem J6t {x:Plan} (h:Y2s s (Z5c s)=some x):x.weight=Z5c s:=by
 obtain ⟨k1,k2⟩:=(J3j (s:=s) _).2 x h;exact Int.le_antisymm (J3k x k1) k2
theorem J4v {need:Int} {x:Plan} (h:Y2s s need=some x) (y:Plan) (hy:y ∈ Q2j s) (hn:need <= y.weight):x.closings < y.closings ∨ x.closings=y.closings /\ x.delay <= y.delay:=by
 have h1:=(J3j (s:=s) need).1;rw [h] at h1;exact h1.2 (tri y) (List.mem_map.2 ⟨y,hy,rfl⟩) hn
theorem J5x (hv:Q1b s) {need:Int} (p:List Rul) (hn:need <= Q2c s (Q3r s p)) :
    ∃ x,Y2s s need=some x /\ (x.closings < Q4z s p ∨ x.closings=Q4z s p /\ x.delay <= X2t s p):=by
 obtain ⟨y,hy,e1,e2,e3⟩:=J3l hv.toFine p;obtain ⟨x,hx⟩:=Option.isSome_iff_exists.1 ((J3b hv need).2 (Int.le_trans hn (Int.le_trans e1 (J3k y hy))));refine ⟨x,hx,?_⟩;have:=J4v hx y hy (by omega)
 omega
theorem J6w {need more:Int} {x y:Plan} (hx:Y2s s need=some x) (hy:Y2s s more=some y) (h:need <= more):x.closings < y.closings ∨ x.closings=y.closings /\ x.delay <= y.delay:=by
 obtain ⟨k1,k2⟩:=(J3j (s:=s) _).2 y hy;exact J4v hx y k1 (by omega)
theorem J6x:∀ l:List Bool,∃ n,n < 2 ^ l.length /\ Q5u n l.length=l:=by
 intro l;obtain ⟨n,hn,h⟩:=J3s l.length fun i=>l.getD (l.length - 1 - i) false
 refine ⟨n,hn,?_⟩;unfold Q5u
 apply List.ext_getElem (by simp)
 intro i h1 h2;simp only [List.getElem_map,List.getElem_range];rw [h _ (by omega),Q0v _ (by omega)]
 congr 1
 omega
theorem J7d (s:Q0b) (l:List Nat) (n:Nat) (hn:n < 2 ^ s.ships.length):X7s s l n <= Y0x s l :=
 (J3c (X7s s l) (List.range (2 ^ s.ships.length)) 0).2.1 n (List.mem_range.2 hn)
def J7c (s:Q0b):List Nat:=(List.range s.members.length).filter fun i=>(Q9e s i).head? == some i
theorem J3a {i k:Nat}:k ∈ Q9e s i ↔ k < s.members.length /\ Q0c s.members k=Q0c s.members i:=by simp [Q9e]
theorem same_eq {i k:Nat} (h:Q0c s.members k=Q0c s.members i):Q9e s k=Q9e s i:=by unfold Q9e; rw [h]
theorem J7w {k:Nat} (hk:k < s.members.length):∃ r ∈ J7c s,k ∈ Q9e s r:=by
 have hmem:k ∈ Q9e s k:=J3a.2 ⟨hk,rfl⟩;obtain ⟨r,t,e⟩:∃ r t,Q9e s k=r :: t:=by cases h:Q9e s k with | nil=>rw [h] at hmem; cases hmem | cons a b=>exact ⟨a,b,rfl⟩
 have hr:r ∈ Q9e s k:=by rw [e]; exact List.mem_cons_self
 obtain ⟨h1,h2⟩:=J3a.1 hr;have e2:=same_eq h2;refine ⟨r,List.mem_filter.2 ⟨List.mem_range.2 h1,?_⟩,by rw [e2]; exact hmem⟩
 rw [e2,e]; simp
theorem J6l (hv:Q1b s) (p:List Rul):Q2c s (Q3r s p) <= Y7i s:=by
 have hb:Y7i s=((J7c s).map fun r=>Y0x s (Q9e s r)).sum:=by unfold Y7i Q5b J7c; rw [List.map_map]; rfl
 rw [hb];have hw:Q2c s (Q3r s p)=((List.range s.members.length).map fun k=>if (Q2e s k).keeps s.limit (Q0m p (Q2e s k).classes) then Q0i s.members k else 0).sum:=by
  unfold Q2c Q3r;rw [List.map_map,Q9h]; rfl
 rw [hw]
 let g:Nat -> Int:=fun k=>if (Q2e s k).keeps s.limit (Q0m p (Q2e s k).classes) then Q0i s.members k else 0
 have h0:∀ k ∈ List.range s.members.length,0 <= g k:=fun k hk=>by
  have:=(hv.weights k (List.mem_range.1 hk)).1;dsimp only [g]
  split <;> omega
 show ((List.range s.members.length).map g).sum <= _;have h1:((List.range s.members.length).map g).sum <= ((List.range s.members.length).map fun k=>((J7c s).map fun r=>if Q0c s.members k == Q0c s.members r then g k else 0).sum).sum:=by
  refine J6f fun k hk=>?_;obtain ⟨r,hr,hkr⟩:=J7w (List.mem_range.1 hk);have e:=J7i (g:=fun r=>if Q0c s.members k == Q0c s.members r then g k else 0) hr fun x _=>by
   split
   . exact h0 k hk
   . exact Int.le_refl _
  simp only [(J3a.1 hkr).2,beq_self_eq_true,if_true] at e
  simpa only [(J3a.1 hkr).2] using e
 refine Int.le_trans h1 ?_;rw [J6d];refine J6f fun r hr=>?_;have hr':=List.mem_range.1 (List.mem_filter.1 hr).1;rw [Q9h];show ((Q9e s r).map g).sum <= _;have hl:(Q0m p (Q2e s r).classes).length=s.ships.length:=by rw [Q2n]; exact (hv.shaped r hr').1
 obtain ⟨n,hn,e⟩:=J6x (Q0m p (Q2e s r).classes);rw [hl] at hn e;refine Int.le_trans (Int.le_of_eq ?_) (J7d s _ n hn);unfold X7s
 congr 1
 apply List.map_congr_left
 intro k hk;have hc:(Q2e s k).classes=(Q2e s r).classes:=(J3a.1 hk).2;show (if _ then _ else _)=_
 rw [hc,e]
theorem J4z (hv:Q1b s):Z5c s <= Y7i s:=by
 obtain ⟨x,hx,e⟩:=J3x hv;have:=(Z5r hv.toFine hx).1;rw [<- e,<- this]; exact J6l hv _
end Go.Tw
namespace Go.Proofs
open Go.RowKit Go.Tw Go.Flow
theorem Tryz.J3v (w:World):(isAgg 25).run Tryz.prog w=.ok true w:=by kernel_rfl
theorem Tryz.J2x (w:World):(sizeOf 25).run Tryz.prog w=.ok 3 w:=by kernel_rfl
attribute [local go_sem ↓] X3l
end Go.Proofs
namespace Go.Tw
theorem J5l {s:Q0b} {l:List Int}:J2v s l=0 ↔ l.length <= 8 /\ ∀ i,i < l.length -> (0 <= ix l i /\ ix l i < s.members.length) /\ (0 < i -> ix l (i - 1) < ix l i):=by
 unfold J2v
 by_cases h8:8 < l.length
 . rw [if_pos h8]
   constructor
   . intro h; cases h
   . intro h; omega
 . rw [if_neg h8,Q1r]
   constructor
   . intro h
     refine ⟨by omega,fun i hi=>?_⟩
     have:=h _ (List.mem_map.2 ⟨i,List.mem_range.2 hi,rfl⟩)
     split at this
     . cases this
     . split at this
       . cases this
       . rename_i h1 h2
         exact ⟨by omega,fun h0=>by
          apply Classical.byContradiction
          intro hn;exact h2 ⟨h0,by omega⟩⟩
   . rintro ⟨_,h⟩ e he
     obtain ⟨i,hi,rfl⟩:=List.mem_map.1 he;have hh:=h i (List.mem_range.1 hi);rw [if_neg (by omega),if_neg (fun hn=>by have:=hh.2 hn.1; omega)]
theorem J5w (s:Q0b) (p:List Rul):(Q3r s p).Pairwise (· < ·):=by
 unfold Q3r;rw [List.pairwise_map];exact (List.pairwise_lt_range.filter _).imp fun h=>Int.ofNat_lt.2 h
theorem J5r {s:Q0b} (h8:s.members.length <= 8) (p:List Rul):J2v s (Q3r s p)=0:=by
 rw [J5l];refine ⟨Nat.le_trans (kept_len s p) h8,fun i hi=>⟨?_,fun h0=>?_⟩⟩
 . rw [Q4s hi]; exact Q8t s p _ (List.getElem_mem hi)
 . rw [Q4s hi,Q4s (show i - 1 < (Q3r s p).length by omega)]
   exact List.pairwise_iff_getElem.1 (J5w s p) (i - 1) i (by omega) hi (by omega)
end Go.Tw
namespace Go.Proofs
open Go.RowKit Go.Tw Go.Flow
theorem J6e (n k:Nat):(((n / 2 ^ k:Nat):Int).tmod 2 == 1)=n.testBit k:=by
 rw [Nat.testBit_eq_decide_div_mod_eq,show ((n / 2 ^ k:Nat):Int).tmod 2=((n / 2 ^ k % 2:Nat):Int) from (Int.ofNat_tmod _ 2).symm]
 by_cases h:n / 2 ^ k % 2=1
 . rw [h]; rfl
 . rw [decide_eq_false h,beq_eq_false_iff_ne]; omega
theorem J6u (n k:Nat):((n / 2 ^ k:Nat):Int).tdiv 2=((n / 2 ^ (k + 1):Nat):Int):=by
 rw [show ((n / 2 ^ k:Nat):Int).tdiv 2=((n / 2 ^ k / 2:Nat):Int) from (Int.ofNat_tdiv _ 2).symm,Nat.div_div_eq_div_mul,<- Nat.pow_succ]
end Go.Proofs
namespace Go.Tw
open Go.RowKit Go.Flow
theorem J3u {α:Type} (x d:α):∀ (n:Nat) (xs:List α) (i:Nat),n <= xs.length -> (xs.take n ++ [x] ++ xs.drop n).getD i d=if i < n then xs.getD i d else if i=n then x else xs.getD (i - 1) d
 | 0,xs,i,_=>by cases i <;> simp
 | n + 1,[],i,h=>by simp at h
 | n + 1,y :: ys,0,_=>by simp
 | n + 1,y :: ys,i + 1,h=>by
   have:=J3u x d n ys i (by simpa using h)
   simp only [List.take_succ_cons,List.drop_succ_cons,List.cons_append,List.getD_cons_succ,this]
   by_cases h1:i < n
   . have h1':i + 1 < n + 1:=by omega
     simp only [h1,h1',if_true]
   . have h1':¬ (i + 1 < n + 1):=by omega
     by_cases h2:i=n
     . subst h2
       simp
     . have h2':¬ (i + 1=n + 1):=by omega
       obtain ⟨m,rfl⟩:∃ m,i=m + 1:=⟨i - 1,by omega⟩
       simp only [h1,h1',h2,h2',if_false];simp
theorem Reads.insert {w:World} {vs:List Value} {ll:List (List Int)} {v:Value} {l:List Int} {n:Nat} (h:Reads w vs ll) (hv:Q0d w v l) (hn:n <= ll.length):Reads w (vs.take n ++ [v] ++ vs.drop n) (ll.take n ++ [l] ++ ll.drop n):=by
 have hl:=h.1;refine ⟨by simp [hl],fun i hi=>?_⟩
 rw [J3u _ _ _ _ _ (by omega),J3u _ _ _ _ _ hn]
 simp only [List.length_append,List.length_take,List.length_drop,List.length_singleton] at hi
 split
 . exact h.2 i (by omega)
 . split
   . exact hv
   . exact h.2 (i - 1) (by omega)
theorem J3y {w w1 w2:World} (hx:Ext w.drew w1) (hb:Below w.heap.size w1 w2):Ext w w2:=Below.trans (((Ext.refl w).drew).trans hx) hb
end Go.Tw
namespace Go.Proofs
open Go.RowKit Go.Tw Go.ChangeShapes Go.WideShapes Go.Deep
theorem Tryz.cQ4:Tryz.prog.cellsOf 54=4:=by kernel_rfl
theorem Tryz.cQ1:Tryz.prog.cellsOf 3=1:=by kernel_rfl
theorem J5n {H:Type} {enc:TypeId × Value -> H} {W:World} {b0:Nat} {v:Value} {d:DataW H} {ps:List MemPlace} (hv:Value.okWide Tryz.prog W .any b0 54 v) (h:DataW.Trod enc Tryz.prog W 0 (fun _=>true) true 54 v d ps) :
    ∃ a b c e:Int,v=.agg #[.int .i64 a,.int .i64 b,.int .i64 c,.int .i64 e] /\ ∀ z ∈ [a,b,c,e],z < 2 ^ 63:=by
 have hu:Tryz.prog.underlying 54=some (.array 4 3):=Tryz.underlying54;simp only [Value.okWide,hu] at hv;obtain ⟨cs,rfl,hsz,_⟩:=hv;rw [Tryz.cQ4] at hsz;obtain ⟨c0,c1,c2,c3,rfl⟩:∃ a b c d,cs=#[a,b,c,d]:=by
  obtain ⟨l⟩:=cs
  match l,hsz with
  | [a,b,c,d],_=>exact ⟨a,b,c,d,rfl⟩
 obtain ⟨fuel,hf⟩:=h;obtain ⟨xs,m,rfl,_,_,hl,hx⟩:=DataW.trod_array hu hf;have h0:=hx 0 (by omega)
 have h1:=hx 1 (by omega)
 have h2:=hx 2 (by omega)
 have h3:=hx 3 (by omega)
 simp only [Value.cells,Tryz.cQ1,List.drop_zero,Nat.zero_mul,Nat.one_mul,Nat.mul_one,List.take_succ_cons,List.take_zero,List.drop_succ_cons] at h0 h1 h2 h3;rw [List.getElem?_eq_getElem (by omega)] at h0 h1 h2 h3
 obtain ⟨z0,e0,_,w0⟩:=DataW.trod_int Tryz.underlying3 h0;obtain ⟨z1,e1,_,w1⟩:=DataW.trod_int Tryz.underlying3 h1;obtain ⟨z2,e2,_,w2⟩:=DataW.trod_int Tryz.underlying3 h2;obtain ⟨z3,e3,_,w3⟩:=DataW.trod_int Tryz.underlying3 h3;simp only [List.cons.injEq,and_true] at e0 e1 e2 e3;subst e0;subst e1;subst e2;subst e3;have b0:=bounds_i64 w0;have b1:=bounds_i64 w1;have b2:=bounds_i64 w2;have b3:=bounds_i64 w3;refine ⟨z0,z1,z2,z3,rfl,fun z hz=>?_⟩;simp only [List.mem_cons,List.not_mem_nil,or_false] at hz
 rcases hz with rfl | rfl | rfl | rfl <;> omega
end Go.Proofs
namespace Go.Proofs
open Go.RowKit Go.Tw Go.Flow
theorem Tryz.info22:(Tryz.prog.info? 22).map (fun i=>(i.zero,i.size,i.bytes))=some (some (.slice none 0 0),1,24):=by kernel_rfl
theorem RL.insert {w:World} {vs:List Value} {ll:List (List Int)} {v:Value} {l:List Int} {n:Nat} (h:RL w vs ll) (hv:Q0q w 0 3 (.int .i64) v l) (hn:n <= ll.length):RL w (vs.take n ++ [v] ++ vs.drop n) (ll.take n ++ [l] ++ ll.drop n):=by
 obtain ⟨h1,h2⟩:=h;refine ⟨by simp [h1],fun i hi=>?_⟩
 have hlen:(ll.take n ++ [l] ++ ll.drop n).length=ll.length + 1:=by simp; omega
 rw [hlen] at hi;rw [J3u v undef n vs i (by omega),J3u l [] n ll i hn]
 by_cases h3:i < n
 . rw [if_pos h3,if_pos h3]; exact h2 i (by omega)
 . rw [if_neg h3,if_neg h3]
   by_cases h4:i=n
   . rw [if_pos h4,if_pos h4]; exact hv
   . rw [if_neg h4,if_neg h4]; exact h2 (i - 1) (by omega)
theorem J6h {α:Type} (a b:List α) (d:α) (j:Nat):(a ++ b).getD j d=if j < a.length then a.getD j d else b.getD (j - a.length) d:=by
 by_cases h:j < a.length
 . rw [if_pos h]; simp [List.getElem?_append_left h]
 . rw [if_neg h]; simp [List.getElem?_append_right (show a.length <= j by omega)]
theorem RL.app {w:World} {vs us:List Value} {ll mm:List (List Int)} (h:RL w vs ll) (k:RL w us mm):RL w (vs ++ us) (ll ++ mm):=by
 refine ⟨by simp [h.1,k.1],fun j hj=>?_⟩
 rw [J6h,J6h,h.1];rw [List.length_append] at hj
 by_cases h3:j < ll.length
 . rw [if_pos h3,if_pos h3]; exact h.2 j h3
 . rw [if_neg h3,if_neg h3]; exact k.2 _ (by omega)
theorem J3p {K:Value -> World -> Prop} {o:Oper} {a:Act} {w:World} (s x:Operand) (ho:o.op=.call { callee:=.builtin .append,args:=#[s,x],argTypes:=#[72,72] })
    {B:Nat} {v u:Value} {L M:List (List Int)} (hs:a.eval s=v) (h1:LL w B v L) (hx:a.eval x=u) (h2:LL w B u M) (hL:L.length <= 2000) (hM:M.length <= 2000) (hB:B <= w.heap.size)
    (hK:∀ v' w',LL w' B v' (L ++ M) -> Below B w w' -> K v' w'):gives Tryz.prog K ((execOp a.eval o).run Tryz.prog w):=by
 obtain ⟨i0,hi,hz0,hz1,hz2⟩:=info_parts Tryz.info22;obtain ⟨vs,o1,m1⟩:=h1;obtain ⟨us,o2,m2⟩:=h2;have l1:=m1.1;have l2:=m2.1;exact Q5d s x 72 ho B 22 i0 (.slice none 0 0) 24 Tryz.underlying72 hi hz0 hz1 hz2 rfl idV v u vs us hs o1 hx (Y7q o2) m2.one (by omega) (by decide) hB fun v' w' hown hg=>hK _ _ ⟨vs ++ us,hown,(m1.grown o1 (by decide) hg).app (m2.grown o1 (by decide) hg)⟩ (below_grown o1 hg (Nat.le_refl _) hB)
theorem J6k {w:World} {b o n c:Nat} {l:List Int} (h:Q0d w (.slice (some ⟨b,o,none⟩) n c) l) (hn:l.length=n):∀ j u,(l.map (Value.int .i64))[j]?=some u -> w.cell? ((⟨b,o,none⟩:Addr).add j)=some u:=by
 subst hn;obtain ⟨A,cap,hv,hl,hcap,hc⟩:=h.opened;cases hv;intro j u hj;rw [List.getElem?_map] at hj;obtain ⟨y,hy,rfl⟩:=Option.map_eq_some_iff.1 hj;obtain ⟨hjl,rfl⟩:=List.getElem?_eq_some_iff.1 hy;obtain ⟨b',off',he,hcell⟩:=hc j hjl;cases he;rw [addr_add,hcell,Q4s hjl]
theorem J5u {h:List Int} {row:List (List Int)} {n:Nat} (hn:n=Q2x h row row.length) (h0:n=0 ∨ row.getD (n - 1) [] ≠ h):Q9j h row=row.take n ++ [h] ++ row.drop n:=by
 unfold Q9j;simp only [<- hn];rw [if_neg];rintro ⟨h1,h2⟩
 rcases h0 with h0 | h0
 . omega
 . exact h0 h2
theorem J7a {h:List Int} {row:List (List Int)} {n:Nat} (hn:n=Q2x h row row.length) (h0:0 < n) (he:row.getD (n - 1) []=h):Q9j h row=row:=by
 unfold Q9j;simp only [<- hn];rw [if_pos ⟨h0,he⟩]
theorem J6m {s:Q0b} {t i:Nat} (hi:i <= s.members.length) (h:∀ k,k < s.members.length -> t + 1 <= (Q0c s.members k).length):∀ j,j < (s.X0s t i).length -> ((s.X0s t i).getD j []).length=t + 1:=by
 intro j hj;rw [Q0v _ hj];obtain ⟨k,hk,he⟩:=(Q0b.X4u t _ i).1 (List.getElem_mem hj);rw [he,List.length_take];have:=h k (by omega)
 omega
theorem J5s {s:Q0b} (hS:Q1b s) {w:World} {B:Nat} {x:Value} (h:LL w B x s.hist):Q2z w x s.hist:=by
 refine h.read (by have:=Z5n hS; omega) fun j hj=>?_
 rw [Q0v _ hj];have:=Z2v hS _ (List.getElem_mem hj);omega
theorem J6g {s:Q0b} (hS:Q1b s):0 < s.hist.length:=by
 refine List.length_pos_of_mem (a:=(Q0c s.members 0).take (0 + 1)) ?_;exact (Q0b.Q4n _ _).2 ⟨0,hS.tides.1,0,hS.some.1,rfl⟩
theorem J5v {α:Type} {w:World} {base base' k:Nat} {e:TypeId} {enc:α -> List Value} {v:Value} {l:List α} (h:Q0z w base e k enc v l) (hb:base' <= base):Q0z w base' e k enc v l:=by
 obtain ⟨h1,h2⟩:=h;refine ⟨h1,?_⟩
 rcases h2 with h2 | ⟨g,cap,cur,hv,hbg,r⟩
 . exact .inl h2
 . exact .inr ⟨g,cap,cur,hv,Nat.le_trans hb hbg,r⟩
theorem J5j (w:World) (a:Option Addr) (n c:Nat) (b:Bool):(Instr.build 115 #[(0,.slice a n c),(1,.bool b)]).run Tryz.prog w=.ok (.agg #[.slice a n c,.bool b]) w:=by kernel_rfl
theorem J6q (w:World) (a:Option Addr) (n c:Nat) (b:Bool):(Instr.buildSlice 45 1 #[(0,.agg #[.slice a n c,.bool b])]).run Tryz.prog w=.ok (.slice (some ⟨w.heap.size,0,none⟩) 1 1) (w.alloc (.cells #[.slice a n c,.bool b] 115)):=by kernel_rfl
theorem Tryz.J7m (w:World):(sizeOf 45).run Tryz.prog w=.ok 1 w:=by kernel_rfl
end Go.Proofs
