/- Contracts: weight, checkMember, checkMembers (of the program). Contracts of the law's own functions: season, rules. Contracts: slices.Clone of a history; histories of the program. Contract: slices.Equal of lists of numbers. -/
import Derived.Test.YthnobngcipaljaaGreatDoorPn13
import Derived.Test.YthnobngcipaljaaGreatDoorPn10
import Derived.Test.YthnobngcipaljaaGreatDoorPn02
import Derived.Test.YthnobngcipaljaaGreatDoorPn07
import Derived.Test.YthnobngcipaljaaGreatDoorPn16
import Derived.Test.YthnobngcipaljaaGreatDoorPn05
import Derived.Test.YthnobngcipaljaaGreatDoorPn11
import Derived.Test.YthnobngcipaljaaGreatDoorPn09
set_option maxRecDepth 1000000
set_option maxHeartbeats 64000000
set_option linter.unusedVariables false
set_option linter.unusedSimpArgs false
set_option linter.constructorNameAsVariable false
open Go.Lib (hid)
namespace Go.Proofs
open Go.RowKit Go.Tw Go.Flow
attribute [local go_sem] Oper.semAt_some
theorem X6a (w:World) (v u:Value) (s:Q0b) (l:List Int) (hv:Q0f w v s) (hu:Q0e w u l) (hs:Q0u s) (hin:∀ x ∈ l,0 <= x /\ x < s.members.length) (hle:l.length <= 4096) :
    Calls Tryz.prog 134 #[v,u] w fun e w'=>e=.returned (.int .i64 (Q1k s l)) /\ Ext w w':=by
 obtain ⟨a,b,rfl,h2⟩:=hv;obtain ⟨A,capa,rfl,-,-,-⟩:=h2.ships.opened;obtain ⟨B,capb,rfl,hlb,hcapb,hcb⟩:=h2.members.opened;obtain ⟨U,cap,rfl,hl,hcap,hc⟩:=hu.opened;clear hu h2;have hxW:=Ext.box w (.cells #[.int .i64 s.limit,.slice A s.ships.length capa,.slice B s.members.length capb] 34);have k0:=Blk.made w 34 #[.int .i64 s.limit,.slice A s.ships.length capa,.slice B s.members.length capb];have c2:=k0.cell 2;simp only [Go.Tw.gA,Go.Tw.gB,Go.Tw.gC] at c2;clear k0;have HX:=hid hxW; clear hxW;have HS:=hid hs; clear hs;have HIN:=hid hin; clear hin;have HM:Hid (s.members.length <= 8):=HS.out.some.2;go_enter Tryz.func134,Tryz.ntmps134;go_wp2
 go_loopw [5,10] (fun n i wr=>∃ (k:Nat) (m:Int),k <= l.length /\ i=.int .i64 k /\ n=.int .i64 m /\ m=Q3w s l k /\ Ext (w.alloc (.cells #[.int .i64 s.limit,.slice A s.ships.length capa,.slice B s.members.length capb] 34)) wr) (fun _ i _=>l.length - (intOf i).toNat)
 case atStart=>exact ⟨0,0,Nat.zero_le _,rfl,rfl,rfl,Ext.refl _⟩
 case round =>
  obtain ⟨k,m,hk,rfl,rfl,hr,hx⟩:=hrel;have HR:=hid hr; clear hr;replace c2:=hx.cell c2
  by_cases hlt:k < l.length
  . obtain ⟨b,off,rfl,hcell⟩:=hc k hlt
    have h3:=HIN.out _ (List.getElem_mem hlt);rw [<- Q4n hlt] at h3;obtain ⟨j,hj⟩:∃ j:Nat,ix l k=j:=⟨(ix l k).toNat,by omega⟩
    obtain ⟨b',off',x,y,z,rfl,-,-,hcell',-⟩:=hcb j (by omega)
    replace hcell:=(HX.out.trans hx).cell hcell;replace hcell':=(HX.out.trans hx).cell hcell';have hb2:=X1m HS.out HIN.out (k + 1) (by omega)
    have hsum:Q3w s l (k + 1)=m + Q0k s.members j:=by rw [Q8f hlt,HR.out,hj,Int.toNat_natCast]
    rw [hsum] at hb2;rw [hj] at hcell h3;have HSM:=hid hsum; clear hsum;have i1:(k:Int) < l.length:=by omega
    have i0:(j:Int) < s.members.length:=h3.2;have i2:0 <= m + Q0k s.members j:=hb2.1;have i3:m + Q0k s.members j <= 10000000:=by omega
    clear hb2 h3 hj hc hcb;go_wp2;go_roundw
    case rel=>exact ⟨k + 1,m + Q0k s.members j,by omega,by go_num,by go_num,HSM.out.symm,hx⟩
    case measure=>simp [intOf]; omega
  . clear hc hcb
    go_wp2;go_ret;exact ⟨Q1b (by rw [HR.out,show k=l.length by omega,Q3w,List.take_length]),HX.out.trans hx⟩
def X2e (s:Q0b) (n:Int):Bool:=decide (n < 0) || decide ((s.members.length:Int) <= n)
theorem Q1z (w:World) (v:Value) (s:Q0b) (n:Int) (hv:Q0f w v s) :
    Calls Tryz.prog 111 #[v,.int .i64 n] w fun e w'=>e=.returned (.int .i64 (Q0v (X2e s n) 10)) /\ Ext w w':=by
 obtain ⟨a,b,rfl,h2⟩:=hv;obtain ⟨A,capa,rfl,-,-,-⟩:=h2.ships.opened;obtain ⟨B,capb,rfl,-,-,-⟩:=h2.members.opened;have k0:=Blk.made w 34 #[.int .i64 s.limit,.slice A s.ships.length capa,.slice B s.members.length capb];have HX:=hid (Ext.box w (.cells #[.int .i64 s.limit,.slice A s.ships.length capa,.slice B s.members.length capb] 34));have c2:=k0.cell 2;simp only [Go.Tw.gA,Go.Tw.gB,Go.Tw.gC] at c2;clear h2 k0;go_enter Tryz.func111,Tryz.ntmps111
 by_cases h0:n < 0
 . have HQ:Hid (X2e s n=true):=hid (by unfold X2e; simp [h0])
   go_wp2_with (refine (Q3y _ _ _).mono ?_; rintro e w5 ⟨rfl,rfl⟩);go_ret;exact ⟨Q1b (by rw [HQ.out]),HX.out⟩
 . obtain ⟨q,hq⟩:∃ q,decide ((s.members.length:Int) <= n)=q:=⟨_,rfl⟩
   have HQ:Hid (X2e s n=q):=hid (by unfold X2e; rw [hq]; simp [h0])
   go_wp2_with (refine (Q3y _ _ _).mono ?_; rintro e w5 ⟨rfl,rfl⟩);go_ret;exact ⟨Q1b (by rw [HQ.out]),HX.out⟩
def Y6z (s:Q0b) (l:List Int) (i:Nat):Int:=if ix l i < 0 ∨ (s.members.length:Int) <= ix l i then 10 else if 0 < i /\ ix l i <= ix l (i - 1) then 11 else 0
theorem Y8u (s:Q0b) (l:List Int) (h:¬ 8 < l.length):Q3t s l=Q2v (Y6z s l) l.length 0:=by
 unfold Q3t; rw [if_neg h]; rfl
theorem Z0g (s:Q0b) (l:List Int) (i:Nat):Q0l [Q0v (X2e s (ix l i)) 10,Q0v (decide (0 < i) && decide (ix l i <= ix l (i - 1))) 11]=Y6z s l i:=by
 unfold Y6z X2e Q0v Q0l Q0l Q0l
 by_cases h0:ix l i < 0 <;> by_cases h1:(s.members.length:Int) <= ix l i <;> by_cases h2:0 < i <;> by_cases h3:ix l i <= ix l (i - 1) <;> simp [h0,h1,h2,h3]
theorem Tryz.Y0z (w:World):(isAgg 34).run Tryz.prog w=.ok true w:=by kernel_rfl
theorem Tryz.X1e (w:World):(sizeOf 34).run Tryz.prog w=.ok 3 w:=by kernel_rfl
theorem X7b (w:World) (v u:Value) (s:Q0b) (l:List Int) (hv:Q0f w v s) (hu:Q0e w u l) :
    Calls Tryz.prog 133 #[v,u] w fun e w'=>e=.returned (.int .i64 (Q3t s l)) /\ Ext w w':=by
 obtain ⟨a,b,rfl,h2⟩:=hv;obtain ⟨A,capa,rfl,-,-,-⟩:=h2.ships.opened;obtain ⟨B,capb,rfl,-,-,-⟩:=h2.members.opened;have H2:=hid h2;obtain ⟨U,cap,rfl,hl,hcap,hc⟩:=hu.opened;have HC:=hid hc;have HER:Hid (¬ 8 < l.length -> Q3t s l=Q2v (Y6z s l) l.length 0):=hid (Y8u s l);have HMA:Hid (8 < l.length -> Q3t s l=5):=hid (fun h=>by unfold Q3t; rw [if_pos h])
 have hxW:=Ext.box w (.cells #[.int .i64 s.limit,.slice A s.ships.length capa,.slice B s.members.length capb] 34);clear h2 hu hc;go_enter Tryz.func133,Tryz.ntmps133
 by_cases h8:8 < l.length
 . have h8I:(8:Int) < l.length:=by omega
   have HF:=hid (HMA.out h8);clear h8;go_wp2;go_ret;exact ⟨Q1b HF.out.symm,hxW⟩
 . have h8I:¬ (8:Int) < l.length:=by omega
   have HF:=hid (HER.out h8);clear hxW;go_upto_region 1 with fail;change Code.wp _ _ _ _ (w.alloc (.cells #[.int .i64 s.limit,.slice A s.ships.length capa,.slice B s.members.length capb] 34));obtain ⟨W,hWW,k0,HXW,eW⟩:=Q1u w 34 #[.int .i64 s.limit,.slice A s.ships.length capa,.slice B s.members.length capb];rw [hWW];clear hWW;have K0:=hid k0;clear k0;go_wp2
   go_loopw [13] (fun i wr=>∃ k:Nat,k <= l.length /\ i=.int .i64 k /\ Q2v (Y6z s l) l.length k=Q2v (Y6z s l) l.length 0 /\ Ext W wr) (fun i _=>l.length - (intOf i).toNat)
   case atStart=>exact ⟨0,Nat.zero_le _,rfl,rfl,Ext.refl _⟩
   case round =>
    obtain ⟨k,hk,rfl,hr,hx⟩:=hrel;have HR:=hid hr;have HX:=hid hx;clear hr hx
    by_cases hlt:k < l.length
    . obtain ⟨bu,ou,rfl,hcu⟩:=HC.out k hlt
      have HCP:Hid (0 < k -> w.cell? ⟨bu,ou + (k - 1),none⟩=some (.int .i64 (ix l (k - 1)))):=hid (fun h=>by
       obtain ⟨b',o',he,hc'⟩:=HC.out (k - 1) (by omega)
       cases he; exact hc')
      replace hcu:=(HXW.out.trans HX.out).cell hcu;have HST:=hid (Q8k (f:=Y6z s l) hlt);have HFI:=hid (Z0g s l k);obtain ⟨x,hxv⟩:∃ x,ix l k=x:=⟨_,rfl⟩;obtain ⟨y,hyv⟩:∃ x,ix l (k - 1)=x:=⟨_,rfl⟩;rw [hxv] at hcu HFI;rw [hyv] at HCP HFI;obtain ⟨E,hE⟩:∃ x,Y6z s l k=x:=⟨_,rfl⟩;rw [hE] at HST HFI;obtain ⟨q,hq⟩:∃ q,X2e s x=q:=⟨_,rfl⟩;have HQ:=hid hq;rw [hq] at HFI;have hkI:(k:Int) < l.length:=by omega
      have kk:=K0.out.ext HX.out;have c0:=(kk).cell 0;have c1:=(kk).cell 1;have c2:=(kk).cell 2;simp only [Go.Tw.gA,Go.Tw.gB,Go.Tw.gC] at c0 c1 c2;have HIS:Hid (Q0f wr (.agg #[.int .i64 s.limit,.slice A s.ships.length capa,.slice B s.members.length capb]) s):=hid ⟨_,_,rfl,H2.out.ext (HXW.out.trans HX.out)⟩;clear hxv hyv hE hq kk
      go_light
      by_cases h0:0 < k
      . have h0I:(0:Int) < (k:Int):=by omega
        have HPC:=hid (HCP.out h0);have hwk:IntKind.i64.wrap ((k:Int) - 1)=(k:Int) - 1:=Q2h _ (by omega) (by omega)
        have hk1:(k:Int) - 1 < l.length:=by omega
        have hk3:((k:Int) - 1).toNat=k - 1:=by omega
        have hmx:1 < k -> max (0:Int) ((k:Int) - 1)=(k:Int) - 1:=fun _=>by omega
        have HF2:Hid (Q0l [Q0v q 10,Q0v (decide (x <= y)) 11]=E):=hid (by rw [<- HFI.out]; simp [h0])
        by_cases h1:1 < k
        . have h1I:(1:Int) < (k:Int):=by omega
          have hmy:=hmx h1;clear hmx;have hk2:(0:Int) <= (k:Int) - 1:=by omega
          clear h0
          by_cases hE0:E=0
          . have heb:(E != 0)=false:=by simp [hE0]
            have HZ:=hid hE0;clear hE0;go_wp2_with (first | (go_at_call 111; refine (Q1z _ _ s x HIS.out).mono ?_; rw [HQ.out]; rintro e w5 ⟨rfl,hx5⟩; have HX5:=hid (HX.out.trans hx5); have hpc:=(HXW.out.trans HX5.out).cell HPC.out) | (go_at_call 119; refine (Q3y _ _ _).mono ?_; rintro e w6 ⟨rfl,rfl⟩) | (go_at_call 96; refine (first_any _ _ [Q0v q 10,Q0v (decide (x <= y)) 11] (Q2i (by simp))).mono ?_; rw [HF2.out]; rintro e w7 ⟨rfl,rfl⟩))
            go_roundw
            case rel=>exact ⟨k + 1,by omega,by go_num,by rw [<- HR.out,HST.out,if_pos HZ.out],HX5.out.trans (Ext.box _ _)⟩
            case measure=>simp [intOf]; omega
          . have heb:(E != 0)=true:=by simp [hE0]
            have HZ:=hid hE0;clear hE0;go_wp2_with (first | (go_at_call 111; refine (Q1z _ _ s x HIS.out).mono ?_; rw [HQ.out]; rintro e w5 ⟨rfl,hx5⟩; have HX5:=hid (HX.out.trans hx5); have hpc:=(HXW.out.trans HX5.out).cell HPC.out) | (go_at_call 119; refine (Q3y _ _ _).mono ?_; rintro e w6 ⟨rfl,rfl⟩) | (go_at_call 96; refine (first_any _ _ [Q0v q 10,Q0v (decide (x <= y)) 11] (Q2i (by simp))).mono ?_; rw [HF2.out]; rintro e w7 ⟨rfl,rfl⟩))
            go_ret;exact ⟨Q1b (by rw [HF.out,<- HR.out,HST.out,if_neg HZ.out]),HXW.out.trans (HX5.out.trans (Ext.box _ _))⟩
        . have hk1e:k=1:=by omega
          clear hmx;subst hk1e;replace HPC:Hid (w.cell? ⟨bu,ou,none⟩=some (.int .i64 y)):=hid HPC.out;clear h0 h1
          by_cases hE0:E=0
          . have heb:(E != 0)=false:=by simp [hE0]
            have HZ:=hid hE0;clear hE0;go_wp2_with (first | (go_at_call 111; refine (Q1z _ _ s x HIS.out).mono ?_; rw [HQ.out]; rintro e w5 ⟨rfl,hx5⟩; have HX5:=hid (HX.out.trans hx5); have hpc:=(HXW.out.trans HX5.out).cell HPC.out) | (go_at_call 119; refine (Q3y _ _ _).mono ?_; rintro e w6 ⟨rfl,rfl⟩) | (go_at_call 96; refine (first_any _ _ [Q0v q 10,Q0v (decide (x <= y)) 11] (Q2i (by simp))).mono ?_; rw [HF2.out]; rintro e w7 ⟨rfl,rfl⟩))
            go_roundw
            case rel=>exact ⟨1 + 1,by omega,by go_num,by rw [<- HR.out,HST.out,if_pos HZ.out],HX5.out.trans (Ext.box _ _)⟩
            case measure=>simp [intOf]; omega
          . have heb:(E != 0)=true:=by simp [hE0]
            have HZ:=hid hE0;clear hE0;go_wp2_with (first | (go_at_call 111; refine (Q1z _ _ s x HIS.out).mono ?_; rw [HQ.out]; rintro e w5 ⟨rfl,hx5⟩; have HX5:=hid (HX.out.trans hx5); have hpc:=(HXW.out.trans HX5.out).cell HPC.out) | (go_at_call 119; refine (Q3y _ _ _).mono ?_; rintro e w6 ⟨rfl,rfl⟩) | (go_at_call 96; refine (first_any _ _ [Q0v q 10,Q0v (decide (x <= y)) 11] (Q2i (by simp))).mono ?_; rw [HF2.out]; rintro e w7 ⟨rfl,rfl⟩))
            go_ret;exact ⟨Q1b (by rw [HF.out,<- HR.out,HST.out,if_neg HZ.out]),HXW.out.trans (HX5.out.trans (Ext.box _ _))⟩
      . have hk0:k=0:=by omega
        subst hk0;rw [Nat.add_zero] at hcu;have HF2:Hid (Q0l [Q0v q 10,Q0v false 11]=E):=hid (by rw [<- HFI.out]; simp)
        clear h0
        by_cases hE0:E=0
        . have heb:(E != 0)=false:=by simp [hE0]
          have HZ:=hid hE0;clear hE0;go_wp2_with (first | (go_at_call 111; refine (Q1z _ _ s x HIS.out).mono ?_; rw [HQ.out]; rintro e w5 ⟨rfl,hx5⟩; have HX5:=hid (HX.out.trans hx5)) | (go_at_call 119; refine (Q3y _ _ _).mono ?_; rintro e w6 ⟨rfl,rfl⟩) | (go_at_call 96; refine (first_any _ _ [Q0v q 10,Q0v false 11] (Q2i (by simp))).mono ?_; rw [HF2.out]; rintro e w7 ⟨rfl,rfl⟩))
          go_roundw
          case rel=>exact ⟨0 + 1,by omega,by go_num,by rw [HST.out,if_pos HZ.out],HX5.out.trans (Ext.box _ _)⟩
          case measure=>simp [intOf]; omega
        . have heb:(E != 0)=true:=by simp [hE0]
          have HZ:=hid hE0;clear hE0;go_wp2_with (first | (go_at_call 111; refine (Q1z _ _ s x HIS.out).mono ?_; rw [HQ.out]; rintro e w5 ⟨rfl,hx5⟩; have HX5:=hid (HX.out.trans hx5)) | (go_at_call 119; refine (Q3y _ _ _).mono ?_; rintro e w6 ⟨rfl,rfl⟩) | (go_at_call 96; refine (first_any _ _ [Q0v q 10,Q0v false 11] (Q2i (by simp))).mono ?_; rw [HF2.out]; rintro e w7 ⟨rfl,rfl⟩))
          go_ret;exact ⟨Q1b (by rw [HF.out,HST.out,if_neg HZ.out]),HXW.out.trans (HX5.out.trans (Ext.box _ _))⟩
    . go_wp2
      go_ret;exact ⟨Q1b (by rw [HF.out,<- HR.out,Q8z (by omega)]),HXW.out.trans HX.out⟩
end Go.Proofs
namespace Go.Proofs
open Go.RowKit Go.Tw Go.Flow
attribute [local go_sem] Oper.semAt_some
theorem X5a {α:Type} {k n:Nat} {R:World -> (Nat -> Value) -> α -> Prop} {w:World} {g:Nat} {T:TypeId} {cs:Array Value} {l:List α} (h:Blk w g T cs) (hl:l.length=n) (hn:n <= 1000) (hsz:cs.size=n * k)
    (hR:∀ i (hi:i < l.length),R w (fun j=>cs.getD (i * k + j) undef) l[i]):Go.Tw.Rows k R w (.slice (some ⟨g,0,none⟩) n n) l:=by
 subst hl;refine ⟨fun j=>cs.getD j undef,⟨some ⟨g,0,none⟩,l.length,rfl,by omega,Nat.le_refl _,fun j hj=>⟨g,0,rfl,?_⟩⟩,hR⟩
 have hj':j < cs.size:=by omega
 rw [Nat.zero_add,h.cell];show cs[j]?=some (cs.getD j undef);rw [Array.getD_eq_getD_getElem?,Array.getElem?_eq_getElem hj'];rfl
theorem Q1t {w:World} {g:Nat} {T:TypeId} {cs:Array Value} {l:List Int} {n:Nat} (h:Blk w g T cs) (hc:cs=(l.map (Value.int .i64)).toArray) (hl:l.length=n) (hn:n <= 1000):Q0e w (.slice (some ⟨g,0,none⟩) n n) l:=by
 subst hc;refine X5a (k:=1) h hl hn (by simp [hl]) fun i hi=>?_
 show (List.map (Value.int .i64) l).toArray.getD (i * 1 + 0) undef=_;simp [hi]
theorem Tryz.J5u (w:World):(isAgg 38).run Tryz.prog w=.ok true w:=by kernel_rfl
theorem Tryz.J3s (w:World):(sizeOf 38).run Tryz.prog w=.ok 1 w:=by kernel_rfl
theorem Z3d (b:UInt8):Short ⟨#[b]⟩:=by show (1:Nat) <= _; omega
theorem Q2r (w:World) :
    Calls Tryz.prog 90 #[] w fun e w'=>∃ u,e=.returned u /\ Q0f w' u Q0q /\ Ext w w':=by
 go_enter Tryz.func90,Tryz.ntmps90;go_wp2_with fail;have k0:=Blk.made w 34 #[.int .i64 30,.slice (some ⟨w.heap.size + 1,0,none⟩) 2 2,.slice (some ⟨w.heap.size + 1 + 1 + 1 + 1 + 1 + 1 + 1 + 1 + 1 + 1 + 1,0,none⟩) 3 3];have x0:=Ext.box w (.cells #[.int .i64 30,.slice (some ⟨w.heap.size + 1,0,none⟩) 2 2,.slice (some ⟨w.heap.size + 1 + 1 + 1 + 1 + 1 + 1 + 1 + 1 + 1 + 1 + 1,0,none⟩) 3 3] 34);have es0:(w.alloc (.cells #[.int .i64 30,.slice (some ⟨w.heap.size + 1,0,none⟩) 2 2,.slice (some ⟨w.heap.size + 1 + 1 + 1 + 1 + 1 + 1 + 1 + 1 + 1 + 1 + 1,0,none⟩) 3 3] 34)).heap.size=w.heap.size + 1:=by simp
 obtain ⟨X0,hX0⟩:∃ X,w.alloc (.cells #[.int .i64 30,.slice (some ⟨w.heap.size + 1,0,none⟩) 2 2,.slice (some ⟨w.heap.size + 1 + 1 + 1 + 1 + 1 + 1 + 1 + 1 + 1 + 1 + 1,0,none⟩) 3 3] 34)=X:=⟨_,rfl⟩;rw [hX0] at k0 x0 es0 ⊢;clear hX0;have k1:=Blk.made X0 3 #[.int .i64 5,.int .i64 7];have x1:=Ext.box X0 (.cells #[.int .i64 5,.int .i64 7] 3);have es1:(X0.alloc (.cells #[.int .i64 5,.int .i64 7] 3)).heap.size=X0.heap.size + 1:=by simp
 obtain ⟨X1,hX1⟩:∃ X,X0.alloc (.cells #[.int .i64 5,.int .i64 7] 3)=X:=⟨_,rfl⟩;rw [hX1] at k1 x1 es1 ⊢;clear hX1;have k2:=Blk.made X1 3 #[.int .i64 0,.int .i64 0];have x2:=Ext.box X1 (.cells #[.int .i64 0,.int .i64 0] 3);have es2:(X1.alloc (.cells #[.int .i64 0,.int .i64 0] 3)).heap.size=X1.heap.size + 1:=by simp
 obtain ⟨X2,hX2⟩:∃ X,X1.alloc (.cells #[.int .i64 0,.int .i64 0] 3)=X:=⟨_,rfl⟩;rw [hX2] at k2 x2 es2 ⊢;clear hX2;have k3:=Blk.made X2 3 #[.int .i64 20,.int .i64 40];have x3:=Ext.box X2 (.cells #[.int .i64 20,.int .i64 40] 3);have es3:(X2.alloc (.cells #[.int .i64 20,.int .i64 40] 3)).heap.size=X2.heap.size + 1:=by simp
 obtain ⟨X3,hX3⟩:∃ X,X2.alloc (.cells #[.int .i64 20,.int .i64 40] 3)=X:=⟨_,rfl⟩;rw [hX3] at k3 x3 es3 ⊢;clear hX3;have k4:=Blk.made X3 3 #[.int .i64 10,.int .i64 10];have x4:=Ext.box X3 (.cells #[.int .i64 10,.int .i64 10] 3);have es4:(X3.alloc (.cells #[.int .i64 10,.int .i64 10] 3)).heap.size=X3.heap.size + 1:=by simp
 obtain ⟨X4,hX4⟩:∃ X,X3.alloc (.cells #[.int .i64 10,.int .i64 10] 3)=X:=⟨_,rfl⟩;rw [hX4] at k4 x4 es4 ⊢;clear hX4;have k5:=Blk.made X4 3 #[.int .i64 0,.int .i64 1];have x5:=Ext.box X4 (.cells #[.int .i64 0,.int .i64 1] 3);have es5:(X4.alloc (.cells #[.int .i64 0,.int .i64 1] 3)).heap.size=X4.heap.size + 1:=by simp
 obtain ⟨X5,hX5⟩:∃ X,X4.alloc (.cells #[.int .i64 0,.int .i64 1] 3)=X:=⟨_,rfl⟩;rw [hX5] at k5 x5 es5 ⊢;clear hX5;have k6:=Blk.made X5 3 #[.int .i64 40,.int .i64 20];have x6:=Ext.box X5 (.cells #[.int .i64 40,.int .i64 20] 3);have es6:(X5.alloc (.cells #[.int .i64 40,.int .i64 20] 3)).heap.size=X5.heap.size + 1:=by simp
 obtain ⟨X6,hX6⟩:∃ X,X5.alloc (.cells #[.int .i64 40,.int .i64 20] 3)=X:=⟨_,rfl⟩;rw [hX6] at k6 x6 es6 ⊢;clear hX6;have k7:=Blk.made X6 3 #[.int .i64 10,.int .i64 25];have x7:=Ext.box X6 (.cells #[.int .i64 10,.int .i64 25] 3);have es7:(X6.alloc (.cells #[.int .i64 10,.int .i64 25] 3)).heap.size=X6.heap.size + 1:=by simp
 obtain ⟨X7,hX7⟩:∃ X,X6.alloc (.cells #[.int .i64 10,.int .i64 25] 3)=X:=⟨_,rfl⟩;rw [hX7] at k7 x7 es7 ⊢;clear hX7;have k8:=Blk.made X7 3 #[.int .i64 0,.int .i64 1];have x8:=Ext.box X7 (.cells #[.int .i64 0,.int .i64 1] 3);have es8:(X7.alloc (.cells #[.int .i64 0,.int .i64 1] 3)).heap.size=X7.heap.size + 1:=by simp
 obtain ⟨X8,hX8⟩:∃ X,X7.alloc (.cells #[.int .i64 0,.int .i64 1] 3)=X:=⟨_,rfl⟩;rw [hX8] at k8 x8 es8 ⊢;clear hX8;have k9:=Blk.made X8 3 #[.int .i64 20,.int .i64 20];have x9:=Ext.box X8 (.cells #[.int .i64 20,.int .i64 20] 3);have es9:(X8.alloc (.cells #[.int .i64 20,.int .i64 20] 3)).heap.size=X8.heap.size + 1:=by simp
 obtain ⟨X9,hX9⟩:∃ X,X8.alloc (.cells #[.int .i64 20,.int .i64 20] 3)=X:=⟨_,rfl⟩;rw [hX9] at k9 x9 es9 ⊢;clear hX9;have k10:=Blk.made X9 3 #[.int .i64 10,.int .i64 10];have x10:=Ext.box X9 (.cells #[.int .i64 10,.int .i64 10] 3);have es10:(X9.alloc (.cells #[.int .i64 10,.int .i64 10] 3)).heap.size=X9.heap.size + 1:=by simp
 obtain ⟨X10,hX10⟩:∃ X,X9.alloc (.cells #[.int .i64 10,.int .i64 10] 3)=X:=⟨_,rfl⟩;rw [hX10] at k10 x10 es10 ⊢;clear hX10;have k11:=Blk.made X10 69 #[.string ⟨#[97]⟩,.int .i64 2,.slice (some ⟨w.heap.size + 1 + 1,0,none⟩) 2 2,.slice (some ⟨w.heap.size + 1 + 1 + 1,0,none⟩) 2 2,.slice (some ⟨w.heap.size + 1 + 1 + 1 + 1,0,none⟩) 2 2,.string ⟨#[98]⟩,.int .i64 1,.slice (some ⟨w.heap.size + 1 + 1 + 1 + 1 + 1,0,none⟩) 2 2,.slice (some ⟨w.heap.size + 1 + 1 + 1 + 1 + 1 + 1,0,none⟩) 2 2,.slice (some ⟨w.heap.size + 1 + 1 + 1 + 1 + 1 + 1 + 1,0,none⟩) 2 2,.string ⟨#[99]⟩,.int .i64 1,.slice (some ⟨w.heap.size + 1 + 1 + 1 + 1 + 1 + 1 + 1 + 1,0,none⟩) 2 2,.slice (some ⟨w.heap.size + 1 + 1 + 1 + 1 + 1 + 1 + 1 + 1 + 1,0,none⟩) 2 2,.slice (some ⟨w.heap.size + 1 + 1 + 1 + 1 + 1 + 1 + 1 + 1 + 1 + 1,0,none⟩) 2 2];have x11:=Ext.box X10 (.cells #[.string ⟨#[97]⟩,.int .i64 2,.slice (some ⟨w.heap.size + 1 + 1,0,none⟩) 2 2,.slice (some ⟨w.heap.size + 1 + 1 + 1,0,none⟩) 2 2,.slice (some ⟨w.heap.size + 1 + 1 + 1 + 1,0,none⟩) 2 2,.string ⟨#[98]⟩,.int .i64 1,.slice (some ⟨w.heap.size + 1 + 1 + 1 + 1 + 1,0,none⟩) 2 2,.slice (some ⟨w.heap.size + 1 + 1 + 1 + 1 + 1 + 1,0,none⟩) 2 2,.slice (some ⟨w.heap.size + 1 + 1 + 1 + 1 + 1 + 1 + 1,0,none⟩) 2 2,.string ⟨#[99]⟩,.int .i64 1,.slice (some ⟨w.heap.size + 1 + 1 + 1 + 1 + 1 + 1 + 1 + 1,0,none⟩) 2 2,.slice (some ⟨w.heap.size + 1 + 1 + 1 + 1 + 1 + 1 + 1 + 1 + 1,0,none⟩) 2 2,.slice (some ⟨w.heap.size + 1 + 1 + 1 + 1 + 1 + 1 + 1 + 1 + 1 + 1,0,none⟩) 2 2] 69);have es11:(X10.alloc (.cells #[.string ⟨#[97]⟩,.int .i64 2,.slice (some ⟨w.heap.size + 1 + 1,0,none⟩) 2 2,.slice (some ⟨w.heap.size + 1 + 1 + 1,0,none⟩) 2 2,.slice (some ⟨w.heap.size + 1 + 1 + 1 + 1,0,none⟩) 2 2,.string ⟨#[98]⟩,.int .i64 1,.slice (some ⟨w.heap.size + 1 + 1 + 1 + 1 + 1,0,none⟩) 2 2,.slice (some ⟨w.heap.size + 1 + 1 + 1 + 1 + 1 + 1,0,none⟩) 2 2,.slice (some ⟨w.heap.size + 1 + 1 + 1 + 1 + 1 + 1 + 1,0,none⟩) 2 2,.string ⟨#[99]⟩,.int .i64 1,.slice (some ⟨w.heap.size + 1 + 1 + 1 + 1 + 1 + 1 + 1 + 1,0,none⟩) 2 2,.slice (some ⟨w.heap.size + 1 + 1 + 1 + 1 + 1 + 1 + 1 + 1 + 1,0,none⟩) 2 2,.slice (some ⟨w.heap.size + 1 + 1 + 1 + 1 + 1 + 1 + 1 + 1 + 1 + 1,0,none⟩) 2 2] 69)).heap.size=X10.heap.size + 1:=by simp
 obtain ⟨X11,hX11⟩:∃ X,X10.alloc (.cells #[.string ⟨#[97]⟩,.int .i64 2,.slice (some ⟨w.heap.size + 1 + 1,0,none⟩) 2 2,.slice (some ⟨w.heap.size + 1 + 1 + 1,0,none⟩) 2 2,.slice (some ⟨w.heap.size + 1 + 1 + 1 + 1,0,none⟩) 2 2,.string ⟨#[98]⟩,.int .i64 1,.slice (some ⟨w.heap.size + 1 + 1 + 1 + 1 + 1,0,none⟩) 2 2,.slice (some ⟨w.heap.size + 1 + 1 + 1 + 1 + 1 + 1,0,none⟩) 2 2,.slice (some ⟨w.heap.size + 1 + 1 + 1 + 1 + 1 + 1 + 1,0,none⟩) 2 2,.string ⟨#[99]⟩,.int .i64 1,.slice (some ⟨w.heap.size + 1 + 1 + 1 + 1 + 1 + 1 + 1 + 1,0,none⟩) 2 2,.slice (some ⟨w.heap.size + 1 + 1 + 1 + 1 + 1 + 1 + 1 + 1 + 1,0,none⟩) 2 2,.slice (some ⟨w.heap.size + 1 + 1 + 1 + 1 + 1 + 1 + 1 + 1 + 1 + 1,0,none⟩) 2 2] 69)=X:=⟨_,rfl⟩;rw [hX11] at k11 x11 es11 ⊢;clear hX11;replace k0:=((((((((((k0.ext x1).ext x2).ext x3).ext x4).ext x5).ext x6).ext x7).ext x8).ext x9).ext x10).ext x11;replace k1:=(((((((((k1.ext x2).ext x3).ext x4).ext x5).ext x6).ext x7).ext x8).ext x9).ext x10).ext x11;replace k2:=((((((((k2.ext x3).ext x4).ext x5).ext x6).ext x7).ext x8).ext x9).ext x10).ext x11;replace k3:=(((((((k3.ext x4).ext x5).ext x6).ext x7).ext x8).ext x9).ext x10).ext x11;replace k4:=((((((k4.ext x5).ext x6).ext x7).ext x8).ext x9).ext x10).ext x11;replace k5:=(((((k5.ext x6).ext x7).ext x8).ext x9).ext x10).ext x11;replace k6:=((((k6.ext x7).ext x8).ext x9).ext x10).ext x11;replace k7:=(((k7.ext x8).ext x9).ext x10).ext x11;replace k8:=((k8.ext x9).ext x10).ext x11;replace k9:=(k9.ext x10).ext x11;replace k10:=k10.ext x11;have e0:X0.heap.size=w.heap.size + 1:=by omega
 have e1:X1.heap.size=w.heap.size + 1 + 1:=by omega
 have e2:X2.heap.size=w.heap.size + 1 + 1 + 1:=by omega
 have e3:X3.heap.size=w.heap.size + 1 + 1 + 1 + 1:=by omega
 have e4:X4.heap.size=w.heap.size + 1 + 1 + 1 + 1 + 1:=by omega
 have e5:X5.heap.size=w.heap.size + 1 + 1 + 1 + 1 + 1 + 1:=by omega
 have e6:X6.heap.size=w.heap.size + 1 + 1 + 1 + 1 + 1 + 1 + 1:=by omega
 have e7:X7.heap.size=w.heap.size + 1 + 1 + 1 + 1 + 1 + 1 + 1 + 1:=by omega
 have e8:X8.heap.size=w.heap.size + 1 + 1 + 1 + 1 + 1 + 1 + 1 + 1 + 1:=by omega
 have e9:X9.heap.size=w.heap.size + 1 + 1 + 1 + 1 + 1 + 1 + 1 + 1 + 1 + 1:=by omega
 have e10:X10.heap.size=w.heap.size + 1 + 1 + 1 + 1 + 1 + 1 + 1 + 1 + 1 + 1 + 1:=by omega
 have e11:X11.heap.size=w.heap.size + 1 + 1 + 1 + 1 + 1 + 1 + 1 + 1 + 1 + 1 + 1 + 1:=by omega
 rw [e0] at k1;rw [e1] at k2;rw [e2] at k3;rw [e3] at k4;rw [e4] at k5;rw [e5] at k6;rw [e6] at k7;rw [e7] at k8;rw [e8] at k9;rw [e9] at k10;rw [e10] at k11;have HXW:Hid (Ext w X11):=hid (Ext.trans (Ext.trans (Ext.trans (Ext.trans (Ext.trans (Ext.trans (Ext.trans (Ext.trans (Ext.trans (Ext.trans (Ext.trans (x0) x1) x2) x3) x4) x5) x6) x7) x8) x9) x10) x11);have eW:X11.heap.size=w.heap.size + 1 + 1 + 1 + 1 + 1 + 1 + 1 + 1 + 1 + 1 + 1 + 1:=e11;clear x0 es0 e0 x1 es1 e1 x2 es2 e2 x3 es3 e3 x4 es4 e4 x5 es5 e5 x6 es6 e6 x7 es7 e7 x8 es8 e8 x9 es9 e9 x10 es10 e10 x11 es11 e11;obtain ⟨W,hWW⟩:∃ W,X11=W:=⟨_,rfl⟩;rw [hWW] at HXW eW ⊢ k0 k1 k2 k3 k4 k5 k6 k7 k8 k9 k10 k11;clear hWW;refine bodyPost_ret (Q1w Tryz.results90 rfl k0 Tryz.Y0z Tryz.X1e) rfl ?_;refine ⟨_,rfl,⟨_,_,rfl,⟨Q1t (l:=[5,7]) k1 rfl rfl (by omega),?_⟩⟩,HXW.out⟩
 refine X5a k11 rfl (by omega) rfl fun i hi=>?_
 have:i=0 ∨ i=1 ∨ i=2:=by simp [Q0q] at hi; omega
 rcases this with rfl | rfl | rfl
 . exact ⟨rfl,rfl,Q1t (l:=[0,0]) k2 rfl rfl (by omega),Q1t (l:=[20,40]) k3 rfl rfl (by omega),Q1t (l:=[10,10]) k4 rfl rfl (by omega),Z3d _⟩
 . exact ⟨rfl,rfl,Q1t (l:=[0,1]) k5 rfl rfl (by omega),Q1t (l:=[40,20]) k6 rfl rfl (by omega),Q1t (l:=[10,25]) k7 rfl rfl (by omega),Z3d _⟩
 . exact ⟨rfl,rfl,Q1t (l:=[0,1]) k8 rfl rfl (by omega),Q1t (l:=[20,20]) k9 rfl rfl (by omega),Q1t (l:=[10,10]) k10 rfl rfl (by omega),Z3d _⟩
theorem Q5w (w:World) (a b c:Bool) :
    Calls Tryz.prog 91 #[.bool a,.bool b,.bool c] w fun e w'=>∃ u,e=.returned u /\ Q0j w' u (X2l a b c) /\ Ext w w':=by
 go_enter Tryz.func91,Tryz.ntmps91;go_wp2_with fail;have k0:=Blk.made w 38 #[.slice (some ⟨w.heap.size + 1 + 1 + 1 + 1,0,none⟩) 3 3];have x0:=Ext.box w (.cells #[.slice (some ⟨w.heap.size + 1 + 1 + 1 + 1,0,none⟩) 3 3] 38);have es0:(w.alloc (.cells #[.slice (some ⟨w.heap.size + 1 + 1 + 1 + 1,0,none⟩) 3 3] 38)).heap.size=w.heap.size + 1:=by simp
 obtain ⟨X0,hX0⟩:∃ X,w.alloc (.cells #[.slice (some ⟨w.heap.size + 1 + 1 + 1 + 1,0,none⟩) 3 3] 38)=X:=⟨_,rfl⟩;rw [hX0] at k0 x0 es0 ⊢;clear hX0;have k1:=Blk.made X0 3 #[.int .i64 0];have x1:=Ext.box X0 (.cells #[.int .i64 0] 3);have es1:(X0.alloc (.cells #[.int .i64 0] 3)).heap.size=X0.heap.size + 1:=by simp
 obtain ⟨X1,hX1⟩:∃ X,X0.alloc (.cells #[.int .i64 0] 3)=X:=⟨_,rfl⟩;rw [hX1] at k1 x1 es1 ⊢;clear hX1;have k2:=Blk.made X1 3 #[.int .i64 0,.int .i64 0];have x2:=Ext.box X1 (.cells #[.int .i64 0,.int .i64 0] 3);have es2:(X1.alloc (.cells #[.int .i64 0,.int .i64 0] 3)).heap.size=X1.heap.size + 1:=by simp
 obtain ⟨X2,hX2⟩:∃ X,X1.alloc (.cells #[.int .i64 0,.int .i64 0] 3)=X:=⟨_,rfl⟩;rw [hX2] at k2 x2 es2 ⊢;clear hX2;have k3:=Blk.made X2 3 #[.int .i64 0,.int .i64 1];have x3:=Ext.box X2 (.cells #[.int .i64 0,.int .i64 1] 3);have es3:(X2.alloc (.cells #[.int .i64 0,.int .i64 1] 3)).heap.size=X2.heap.size + 1:=by simp
 obtain ⟨X3,hX3⟩:∃ X,X2.alloc (.cells #[.int .i64 0,.int .i64 1] 3)=X:=⟨_,rfl⟩;rw [hX3] at k3 x3 es3 ⊢;clear hX3;have k4:=Blk.made X3 167 #[.slice (some ⟨w.heap.size + 1,0,none⟩) 1 1,.bool a,.slice (some ⟨w.heap.size + 1 + 1,0,none⟩) 2 2,.bool b,.slice (some ⟨w.heap.size + 1 + 1 + 1,0,none⟩) 2 2,.bool c];have x4:=Ext.box X3 (.cells #[.slice (some ⟨w.heap.size + 1,0,none⟩) 1 1,.bool a,.slice (some ⟨w.heap.size + 1 + 1,0,none⟩) 2 2,.bool b,.slice (some ⟨w.heap.size + 1 + 1 + 1,0,none⟩) 2 2,.bool c] 167);have es4:(X3.alloc (.cells #[.slice (some ⟨w.heap.size + 1,0,none⟩) 1 1,.bool a,.slice (some ⟨w.heap.size + 1 + 1,0,none⟩) 2 2,.bool b,.slice (some ⟨w.heap.size + 1 + 1 + 1,0,none⟩) 2 2,.bool c] 167)).heap.size=X3.heap.size + 1:=by simp
 obtain ⟨X4,hX4⟩:∃ X,X3.alloc (.cells #[.slice (some ⟨w.heap.size + 1,0,none⟩) 1 1,.bool a,.slice (some ⟨w.heap.size + 1 + 1,0,none⟩) 2 2,.bool b,.slice (some ⟨w.heap.size + 1 + 1 + 1,0,none⟩) 2 2,.bool c] 167)=X:=⟨_,rfl⟩;rw [hX4] at k4 x4 es4 ⊢;clear hX4;replace k0:=(((k0.ext x1).ext x2).ext x3).ext x4;replace k1:=((k1.ext x2).ext x3).ext x4;replace k2:=(k2.ext x3).ext x4;replace k3:=k3.ext x4;have e0:X0.heap.size=w.heap.size + 1:=by omega
 have e1:X1.heap.size=w.heap.size + 1 + 1:=by omega
 have e2:X2.heap.size=w.heap.size + 1 + 1 + 1:=by omega
 have e3:X3.heap.size=w.heap.size + 1 + 1 + 1 + 1:=by omega
 have e4:X4.heap.size=w.heap.size + 1 + 1 + 1 + 1 + 1:=by omega
 rw [e0] at k1;rw [e1] at k2;rw [e2] at k3;rw [e3] at k4;have HXW:Hid (Ext w X4):=hid (Ext.trans (Ext.trans (Ext.trans (Ext.trans (x0) x1) x2) x3) x4);have eW:X4.heap.size=w.heap.size + 1 + 1 + 1 + 1 + 1:=e4;clear x0 es0 e0 x1 es1 e1 x2 es2 e2 x3 es3 e3 x4 es4 e4;obtain ⟨W,hWW⟩:∃ W,X4=W:=⟨_,rfl⟩;rw [hWW] at HXW eW ⊢ k0 k1 k2 k3 k4;clear hWW;refine bodyPost_ret (Q1w Tryz.results91 rfl k0 Tryz.J5u Tryz.J3s) rfl ?_;refine ⟨_,rfl,⟨_,rfl,?_⟩,HXW.out⟩;refine X5a k4 rfl (by omega) rfl fun i hi=>?_
 have:i=0 ∨ i=1 ∨ i=2:=by simp [X2l] at hi; omega
 rcases this with rfl | rfl | rfl
 . exact ⟨Q1t (l:=[0]) k1 rfl rfl (by omega),rfl⟩
 . exact ⟨Q1t (l:=[0,0]) k2 rfl rfl (by omega),rfl⟩
 . exact ⟨Q1t (l:=[0,1]) k3 rfl rfl (by omega),rfl⟩
end Go.Proofs
namespace Go.Proofs
open Go.RowKit Go.Tw Go.Flow
def Y4v (l:List Int) (k:Nat):List (List Int):=(List.range k).map fun t=>l.take (t + 1)
theorem Z4p (l:List Int) (k:Nat):Y4v l (k + 1)=Y4v l k ++ [l.take (k + 1)]:=by unfold Y4v; rw [List.range_succ,List.map_append]; rfl
theorem Y6a (l:List Int) (k:Nat):(Y4v l k).length=k:=by unfold Y4v; simp
def Y5e (s:Q0b) (i:Nat):List (List Int):=(s.members.take i).flatMap fun m=>Y4v m.classes m.classes.length
theorem Y1y (s:Q0b) {i:Nat} (hi:i < s.members.length):Y5e s (i + 1)=Y5e s i ++ Y4v (Q0c s.members i) (Q0c s.members i).length:=by
 unfold Y5e Q0c;rw [List.take_succ_eq_append_getElem hi,List.flatMap_append,Q0t _ hi]; simp
theorem Z8y (s:Q0b):Y5e s s.members.length=s.X9h:=by unfold Y5e; rw [List.take_length]; rfl
theorem Y0a {s:Q0b} (hS:Q0u s):∀ i,i <= s.members.length -> (Y5e s i).length=i * s.ships.length
 | 0,_=>by simp [Y5e]
 | i + 1,h=>by
   rw [Y1y s (by omega),List.length_append,Y0a hS i (by omega),Y6a,(hS.shaped i (by omega)).1,Nat.add_mul,Nat.one_mul]
theorem Y7z (w:World) (a:Addr) (n cap:Nat):(binOp .eql 166 (.slice (some a) n cap) (.slice none 0 0)).run Tryz.prog w=.ok (.bool false) w:=by kernel_rfl
attribute [local go_sem ↓] Y7z
theorem Z4b (w:World) (a:Addr) (n cap:Nat) (l:List Int) (hv:Q0e w (.slice (some a) n cap) l) (hn:n=l.length) (hle:l.length <= 4096) :
    Calls Tryz.prog 158 #[.slice (some a) n cap] w fun e w'=>∃ u,e=.returned u /\ Q0m w' w.heap.size 3 (.int .i64) u l /\ Ext w w':=by
 obtain ⟨i0,hi,hz0,hz1,hz2⟩:=info_parts Tryz.info3;subst hn;obtain ⟨A,cap',he,hl,hcap,hc⟩:=hv.opened;injection he with e1 _ e3;subst e1 e3;have hx:=Ext.box w (.cells #[] 3);have hown:Q0m (w.alloc (.cells #[] 3)) w.heap.size 3 (Value.int .i64) (.slice (some ⟨w.heap.size,0,none⟩) 0 0) []:=World.ownsRow_made w #[] 0 (Nat.le_refl _) (by unfold maxLen; omega) rfl
 have HSRC:Hid (∀ j u,(l.map (Value.int .i64))[j]?=some u -> (w.alloc (.cells #[] 3)).cell? (a.add j)=some u):=hid (by
  intro j u hj;rw [List.getElem?_map] at hj;obtain ⟨y,hy,rfl⟩:=Option.map_eq_some_iff.1 hj;obtain ⟨hjl,rfl⟩:=List.getElem?_eq_some_iff.1 hy;obtain ⟨b,off,he,hcell⟩:=hc j hjl;cases he;rw [addr_add,hx.cell hcell,Q4n hjl])
 have HONE:Hid (∀ u ∈ l.map (Value.int .i64),u.oneCell'=true):=hid (by intro u hu; obtain ⟨y,_,rfl⟩:=List.mem_map.1 hu; rfl)
 have HL2:Hid ((l.map (Value.int .i64)).length=l.length * 1):=hid (by simp)
 clear hv hc;go_enter Tryz.func158,Tryz.ntmps158;go_wp2_with (at_builtin; refine wpList_append_own _ rfl _ _ 166 rfl (w.heap.size) 3 i0 (.int .i64 0) 1 8 Tryz.underlying166 hi hz0 hz1 hz2 rfl (by decide) _ _ _ rfl hown a l.length cap (l.map (Value.int .i64)) rfl HL2.out HSRC.out HONE.out ?_ ?_ ?_ ?_; (focus (unfold maxLen; simp; omega)); (focus (simp; omega)); (focus (simp)); intro v' w4 hown' hgrow _; refine halted ?_)
 have hx4:Ext w w4:=Below.trans hx (below_grown hown hgrow (Nat.le_refl _) hx.size);have hown2:Q0m w4 w.heap.size 3 (.int .i64) v' l:=by
  unfold Q0m;rw [show l.length=0 + l.length from (Nat.zero_add _).symm]
  exact hown'
 clear hown' hgrow hown hx;unfold Q1j;go_wp2;go_ret;exact ⟨_,rfl,hown2,hx4⟩
theorem Tryz.J1a:(Tryz.prog.info? 166).map (fun i=>(i.zero,i.size,i.bytes))=some (some (.slice none 0 0),1,24):=by kernel_rfl
theorem Z0b {W W':World} {base:Nat} {v:Value} {vs us:List Value} {ll:List (List Int)} (h:Q0m W base 166 idV v us) (hs:Sets W vs ll) (hg:W.grownBy W' v.ownBlock):Sets W' vs ll:=by
 refine hs.at fun u l hu b hb hbl=>hg.block b hbl fun e=>?_;obtain ⟨h1,h2⟩:=h
 rcases h2 with ⟨rfl,_⟩ | ⟨g,cap,cur,rfl,hbg,hgc,r⟩
 . cases e
 . have:b=g:=by simpa [Value.ownBlock] using e
   subst this;exact Y4n hu hgc hb
theorem Q6j {α:Type} {W W':World} {base:Nat} {e:TypeId} {enc:α -> Value} {v:Value} {l:List α} {g:Nat} {T:TypeId} {cs:Array Value} (hb:Blk W g T cs) (h:Q0m W base e enc v l) (hT:T ≠ e) (hg:W.grownBy W' v.ownBlock):Blk W' g T cs:=by
 have hb2:=hb;unfold Blk at hb ⊢;refine (hg.block g (Array.getElem?_eq_some_iff.1 hb).1 fun e'=>?_).trans hb;obtain ⟨h1,h2⟩:=h
 rcases h2 with ⟨rfl,_⟩ | ⟨g',cap,cur,rfl,hbg,hgc,r⟩
 . cases e'
 . have:g=g':=by simpa [Value.ownBlock] using e'
   subst this;rw [hb] at hgc;injection hgc with h;injection h with _ h;exact hT h
theorem Q8o (w:World) (v:Value) (s:Q0b) (hv:Q0f w v s) (hS:Q0u s) :
    Calls Tryz.prog 99 #[v] w fun e w'=>∃ x,e=.returned x /\ Q3q w' x s.hist /\ Ext w w':=by
 obtain ⟨i0,hi,hz0,hz1,hz2⟩:=info_parts Tryz.J1a;have h8:=hS.some;have h6:=hS.tides;have HS:=hid hS;obtain ⟨a,b,rfl,h2⟩:=hv;obtain ⟨A,capa,rfl,-,-,-⟩:=h2.ships.opened;obtain ⟨B,capb,rfl,-,-,-⟩:=h2.members.opened;have H2:=hid h2;clear h2 hS;go_enter Tryz.func99,Tryz.ntmps99;go_wp2_with fail;change Code.wp _ _ _ _ (w.alloc (.cells #[.int .i64 s.limit,.slice A s.ships.length capa,.slice B s.members.length capb] 34));obtain ⟨W,hWW,k0,HXW,eW⟩:=Q1u w 34 #[.int .i64 s.limit,.slice A s.ships.length capa,.slice B s.members.length capb];rw [hWW];clear hWW;have K0:=hid k0;have c0_2:=k0.cell 2;simp only [Go.Tw.gA,Go.Tw.gB,Go.Tw.gC] at c0_2;clear k0;go_wp2;clear c0_2
 go_loopw [3,10] (fun o iv wr=>∃ (i:Nat) (vs:List Value),i <= s.members.length /\ iv=.int .i64 i /\ Q0m wr W.heap.size 166 idV o vs /\ Sets wr vs (Y5e s i) /\ Ext W wr) (fun _ i _=>s.members.length - (intOf i).toNat)
 case atStart=>exact ⟨0,[],Nat.zero_le _,rfl,Q0m.nil _ _ _ _,Sets.nil _,Ext.refl _⟩
 case round =>
  obtain ⟨i,vs,him,rfl,hown,hsets,hxr⟩:=hrel;have HXR:=hid hxr;have HOW:=hid hown;have HSE:=hid hsets;clear hown hsets
  by_cases hlt:i < s.members.length
  . have H3:=H2.out.ext (HXW.out.trans hxr)
    have H4:=H2.out.ext HXW.out;obtain ⟨_,_,hB,_,_,hc⟩:=H3.members.opened;cases hB;obtain ⟨bm,off,x,y,z,rfl,hbm,e0,e1,e2,e3,e4,hx,hy,hz,hsh⟩:=hc i hlt;have hIW:Q0e W x (Q0c s.members i):=by
     obtain ⟨_,_,hB',_,_,hc'⟩:=H4.members.opened;cases hB';obtain ⟨bm',off',x',y',z',hA',_,f0,f1,f2,f3,f4,hx',_⟩:=hc' i hlt;cases hA';have:=hxr.cell f2;rw [e2] at this;cases this;exact hx'
    have HIW:=hid hIW;obtain ⟨X,capx,rfl,-,hcapx,hcx⟩:=hx.opened;obtain ⟨Y,capy,rfl,-,-,-⟩:=hy.opened;obtain ⟨Z,capz,rfl,-,-,-⟩:=hz.opened;have hT:=(HS.out.shaped i hlt).1;have HRT:=hid (Y1y s hlt);have HRL:=hid (Y0a HS.out i him);obtain ⟨nm,hnm⟩:∃ x,Q1o s.members i=x:=⟨_,rfl⟩;obtain ⟨wt,hwt⟩:∃ x,Q0k s.members i=x:=⟨_,rfl⟩;obtain ⟨lc,hlc⟩:∃ x,Q0c s.members i=x:=⟨_,rfl⟩;obtain ⟨lo,hlo⟩:∃ x,Q0z s.members i=x:=⟨_,rfl⟩;obtain ⟨li,hli⟩:∃ x,Q1f s.members i=x:=⟨_,rfl⟩;rw [hnm] at e0;rw [hwt] at e1;rw [hlc] at e2 HIW HRT hT hcapx hcx;rw [hlo] at e3;rw [hli] at e4;have hiI:(i:Int) < s.members.length:=by omega
    have hlc0:0 < lc.length:=by omega
    obtain ⟨bX,oX,hX,-⟩:=hcx 0 hlc0;subst hX;have hbox:=Ext.box wr (.cells #[.string nm,.int .i64 wt,.slice (some ⟨bX,oX,none⟩) lc.length capx,.slice Y lo.length capy,.slice Z li.length capz] 69);have K3:=Blk.made wr 69 #[.string nm,.int .i64 wt,.slice (some ⟨bX,oX,none⟩) lc.length capx,.slice Y lo.length capy,.slice Z li.length capz];have d2:=K3.cell 2;simp only [Go.Tw.gA,Go.Tw.gB,Go.Tw.gC] at d2;obtain ⟨T,hTT⟩:∃ T,s.ships.length=T:=⟨_,rfl⟩;have HTT:=hid hTT;have HXB:=hid hbox;have HOB:=hid (HOW.out.below hbox);have HSB:=hid (HSE.out.ext hbox);have HK3:=hid K3;rw [hTT] at hT HRL;have HT:=hid hT;clear hc H3 H4 hIW hx hy hz hsh hnm hwt hlc hlo hli hbm hbox K3 hcx hT hTT
    go_light
    go_wp2;obtain ⟨V,hV⟩:∃ V,wr.alloc (.cells #[.string nm,.int .i64 wt,.slice (some ⟨bX,oX,none⟩) lc.length capx,.slice Y lo.length capy,.slice Z li.length capz] 69)=V:=⟨_,rfl⟩;obtain ⟨gb,hgb⟩:∃ x,wr.heap.size=x:=⟨_,rfl⟩;rw [hV] at HXB HOB HSB HK3 ⊢;rw [hgb] at HK3 ⊢;clear hV hgb d2 e0 e1 e2 e3 e4;have HXV:=hid (hxr.trans HXB.out);clear hxr
    go_loopw [3,17] (fun o tv wr=>∃ (t:Nat) (vs:List Value),t <= lc.length /\ tv=.int .i64 t /\ Q0m wr W.heap.size 166 idV o vs /\ Sets wr vs (Y5e s i ++ Y4v lc t) /\ Blk wr gb 69 #[.string nm,.int .i64 wt,.slice (some ⟨bX,oX,none⟩) lc.length capx,.slice Y lo.length capy,.slice Z li.length capz] /\ Ext W wr) (fun _ t _=>lc.length - (intOf t).toNat)
    case atStart=>exact ⟨0,vs,Nat.zero_le _,rfl,HOB.out,by rw [show Y4v lc 0=[] from rfl,List.append_nil]; exact HSB.out,HK3.out,HXV.out⟩
    case round =>
     obtain ⟨t,vs,htl,rfl,hown,hsets,hbk,hxw⟩:=hrel;have hvl:vs.length <= 4096:=by
      have h1:=hsets.1;have h2:=HRL.out;rw [List.length_append,Y6a,h2] at h1;have h3:i * T <= 8 * 6:=Nat.mul_le_mul (by omega) (by have:=HTT.out; omega)
      have:=HT.out;have:=HTT.out;omega
     by_cases htl2:t < lc.length
     . have hlc6:lc.length <= 6:=by have:=HT.out; have:=HTT.out; omega
       have d2:=hbk.cell 2;simp only [Go.Tw.gA,Go.Tw.gB,Go.Tw.gC] at d2;have HSUC:=hid (Z4p lc t);have HPRE:=hid (Q9q (HIW.out.ext hxw) (show t + 1 <= lc.length by omega))
       have HPL:Hid ((lc.take (t + 1)).length=t + 1):=hid (by rw [List.length_take]; omega)
       obtain ⟨lp,hlp⟩:∃ x,lc.take (t + 1)=x:=⟨_,rfl⟩;rw [hlp] at HSUC HPRE HPL;have hkcI:(t:Int) + 1 <= (capx:Int):=by omega
       have hkc1:¬ ((0:Int) <= (t:Int) + 1 -> (capx:Int) < (t:Int) + 1):=by omega
       have hkc2:¬ capx=0:=by omega
       have hkc4:¬ (t:Int) + 1 < 0:=by omega
       have hkc3:((t:Int) + 1).toNat=t + 1:=by omega
       have hwk:IntKind.i64.wrap ((t:Int) + 1)=(t:Int) + 1:=Q2h _ (by omega) (by omega)
       have htI:(t:Int) < lc.length:=by omega
       have HO:=hid hown;have HSE2:=hid hsets;have HBK:=hid hbk;clear hown hsets hbk hlp
       go_light
       go_wp2_with (first | (go_at_call 158; refine (Z4b _ _ _ _ lp HPRE.out HPL.out.symm (by rw [HPL.out]; omega)).mono ?_; rintro e w5 ⟨u,rfl,hu,hx5⟩; obtain ⟨bu,cu,hue,-⟩:=hu.shape; rw [HPL.out] at hue; subst hue; have HU:=hid hu; have hown:=HO.out.below hx5; have hx6:=hxw.trans hx5; have HX5:=hid hx5; clear hu) | (at_builtin; refine wpList_append_own _ rfl _ _ 168 rfl (W.heap.size) 166 i0 (.slice none 0 0) 1 24 Tryz.underlying168 hi hz0 hz1 hz2 rfl (by decide) _ _ _ rfl (World.ownsRow.alloc hown _) ⟨w5.heap.size,0,none⟩ 1 1 [.slice bu (t + 1) cu] rfl rfl ?_ ?_ ?_ ?_ ?_ ?_; exact Q3i _ _ _; (focus (simp [Value.oneCell'])); (focus (unfold maxLen; omega)); (focus omega); (focus (have:=hx6.size; simp at this ⊢; omega)); intro v' w1 hown' hgrow _))
       have hx':=Q2e hx6 hown (Nat.le_refl _) hgrow;have hbx:=Ext.box w5 (.cells #[.slice bu (t + 1) cu] 166);have hs5:=Z0b (hown.below hbx) (((HSE2.out.ext HX5.out).snoc (HU.out.weaken (Nat.zero_le _)) (by rw [HPL.out]; omega)).ext hbx) hgrow
       have hb5:=Q6j ((HBK.out.ext HX5.out).ext hbx) (hown.below hbx) (by decide) hgrow
       have HS5:=hid hs5;have HB5:=hid hb5;clear hs5 hb5;go_roundw
       case rel=>exact ⟨t + 1,vs ++ [.slice bu (t + 1) cu],by omega,by go_num,Q0m.snoc (x:=Value.slice bu (t + 1) cu) hown',by rw [HSUC.out,<- List.append_assoc]; exact HS5.out,HB5.out,hx'⟩
       case measure=>simp [intOf]; omega
     . have hte:t=lc.length:=by omega
       subst hte;have HO:=hid hown;have HSE2:=hid hsets;clear hown hsets hbk;go_wp2;go_roundw
       case rel=>exact ⟨i + 1,vs,by omega,by go_num,HO.out,by rw [HRT.out]; exact HSE2.out,hxw⟩
       case measure=>simp [intOf]; omega
  . have hie:i=s.members.length:=by omega
    subst hie;have HRA:=hid (Z8y s);have hln:=Y0a HS.out _ (Nat.le_refl _);have hvl:vs.length=s.members.length * s.ships.length:=by rw [HSE.out.1,hln]
    have hv1:1 <= s.members.length * s.ships.length:=Nat.mul_le_mul h8.1 h6.1;have hv2:s.members.length * s.ships.length <= 8 * 6:=Nat.mul_le_mul h8.2 h6.2;obtain ⟨N,hN⟩:∃ N,s.members.length * s.ships.length=N:=⟨_,rfl⟩;rw [hN] at hln hvl hv1 hv2;obtain ⟨h1,h2⟩:=HOW.out
    rcases h2 with ⟨_,h2⟩ | ⟨g,cap,cur0,hv,hbg,hg,hcapN,-⟩
    . exfalso; omega
    subst hv;clear h1 hg;rw [HRA.out] at HSE hln;have HLN:=hid hln;have HSORT:=hid (Z9v wr g cap W.heap.size vs s.X9h HOW.out HSE.out (by omega))
    have hvn:vs.length=N:=hvl;rw [hvn];rw [hln] at HSORT;clear hN hvl;go_wp2_with (go_at_call 159; refine HSORT.out.mono ?_; rintro e w5 ⟨rfl,ll',cur,vs',hp,hso,hr5,hg5⟩; refine halted ?_);have hll:ll'.length=N:=by rw [hp.length_eq]; exact HLN.out
    have hcur:ll'.length <= cur.length:=by
     have h1:=congrArg List.length hr5.2.1;rw [List.length_take] at h1;have h2:=hr5.2.2.1;omega
    have hcmp:=Z1i w5 g cap cur vs' ll' (by omega) (by omega) (by omega) hcur hso hr5
    rw [hll] at hcmp;have HCMP:=hid hcmp;have HP:=hid hp;have HG5:=hid hg5;have HXR1:=hid hxr;clear hcmp hp hso hr5 hg5 hxr hcur hll HOW HSE HSORT;unfold Q1j;go_wp2_with (go_at_call 161; refine HCMP.out.mono ?_; rintro e w6 ⟨r,rfl,hir,ha,hm,-,hg6⟩);go_ret;have hr:r=s.hist:=Q0b.J2w (fun k hk=>HS.out.shaped k hk) ha (fun x=>by rw [hm x]; exact HP.out.mem_iff)
    subst hr;have hg:=Q8p HG5.out hg6;exact ⟨_,rfl,hir,HXW.out.trans (Below.grown HXR1.out hg HXR1.out.size (fun k hk=>by cases hk; exact hbg))⟩
end Go.Proofs
namespace Go.Proofs
open Go.RowKit Go.Tw Go.Flow
attribute [local go_sem] Oper.semAt_some
theorem Z4g (w:World) (u v:Value) (a b:List Int) (hu:Q0e w u a) (hv:Q0e w v b) :
    Calls Tryz.prog 143 #[u,v] w fun e w'=>e=.returned (.bool (decide (a=b))) /\ Ext w w':=by
 obtain ⟨A,capa,rfl,hla,hcapa,hca⟩:=hu.opened;obtain ⟨B,capb,rfl,hlb,hcapb,hcb⟩:=hv.opened;clear hu hv;go_enter Tryz.func143,Tryz.ntmps143
 by_cases hl:a.length=b.length
 . have hne:((a.length:Int) != (b.length:Int))=false:=by simp [hl]
   go_wp2
   go_loopw [13] (fun i wr=>∃ k:Nat,k <= a.length /\ i=.int .i64 k /\ decide (a.drop k=b.drop k)=decide (a=b) /\ Ext w wr) (fun i _=>a.length - (intOf i).toNat)
   case atStart=>exact ⟨0,Nat.zero_le _,rfl,rfl,Ext.refl _⟩
   case round =>
    obtain ⟨k,hk,rfl,hr,hx⟩:=hrel;have HR:=hid hr; clear hr
    by_cases hlt:k < a.length
    . have hlt2:k < b.length:=by omega
      obtain ⟨b1,off1,rfl,hc1⟩:=hca k hlt;obtain ⟨b2,off2,rfl,hc2⟩:=hcb k hlt2;replace hc1:=hx.cell hc1;replace hc2:=hx.cell hc2;have HD1:=hid (Q3d hlt);have HD2:=hid (Q3d hlt2);clear hca hcb
      by_cases h0:ix a k=ix b k
      . have hx1:(ix a k != ix b k)=false:=by simp [h0]
        have H0:=hid h0; clear h0;go_wp2
        go_quiet (fail)
        all_goals go_wp2
        go_roundw
        case rel=>exact ⟨k + 1,by omega,by go_num,by rw [<- HR.out,HD1.out,HD2.out,X0f H0.out],hx.drewN _⟩
        case measure=>simp [intOf]; omega
      . have hx1:(ix a k != ix b k)=true:=by simp [h0]
        have H0:=hid h0; clear h0;go_wp2
        go_quiet (fail)
        all_goals go_wp2
        go_ret;exact ⟨Q0w (by rw [<- HR.out,HD1.out,HD2.out,Q9t H0.out]),hx.drewN _⟩
    . clear hca hcb
      go_wp2;go_ret;exact ⟨Q0w (by rw [<- HR.out,List.drop_eq_nil_of_le (by omega),List.drop_eq_nil_of_le (by omega)]; rfl),hx⟩
 . have hne:((a.length:Int) != (b.length:Int))=true:=by simp; omega
   have HL:Hid (decide (a=b)=false):=hid (decide_eq_false (fun h=>hl (by rw [h])))
   clear hl hca hcb;go_wp2;go_ret;exact ⟨Q0w (by rw [HL.out]),Ext.refl _⟩
end Go.Proofs
