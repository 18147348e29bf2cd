/- The contract of the reference's States and Fails. Contracts: Fails, the other events, sets without an element, cut sets and path sets, minimal ones. Contracts: which nodes fail; cut sets and path sets as bits. -/
import Derived.Test.YthfanledageoeaaGreatDoorYb05
import Derived.Test.YthfanledageoeaaGreatDoorYb07
set_option linter.unusedVariables false
set_option linter.unusedSimpArgs false
set_option linter.constructorNameAsVariable false
namespace Go.Proofs
open Go.RowKit Go.Tw Go.Flow
theorem Tryz.info4:(Tryz.prog.info? 4).map (fun i=>(i.zero,i.size,i.bytes)) = some (some (.bool false),1,1):=by kernel_rfl
def anyTo (t:Tree) (ev:Nat → Bool) (i n:Nat):Bool:=(List.range n).any fun k=>ev (t.basics.length + k) && has (cMembers t.causes k) i
theorem anyTo_succ (t:Tree) (ev:Nat → Bool) (i n:Nat):anyTo t ev i (n + 1) = (anyTo t ev i n || (ev (t.basics.length + n) && has (cMembers t.causes n) i)):=by
 unfold anyTo; rw [List.range_succ,List.any_append]; simp
def upTo (t:Tree) (ev:Nat → Bool) (n:Nat):List Bool:=(List.range n).map (t.basicB ev)
theorem upTo_succ (t:Tree) (ev:Nat → Bool) (n:Nat):upTo t ev (n + 1) = upTo t ev n ++ [t.basicB ev n]:=by
 unfold upTo; rw [List.range_succ,List.map_append]; rfl
theorem upTo_len (t:Tree) (ev:Nat → Bool) (n:Nat):(upTo t ev n).length = n:=by simp [upTo]
theorem basic_of (t:Tree) (ev:Nat → Bool) (i:Nat):t.basicB ev i = (ev i || anyTo t ev i t.causes.length):=rfl
theorem gatesB_len (t:Tree) (ev:Nat → Bool) (n:Nat):(t.gatesB ev n).length = t.basics.length + n:=by
 induction n with
 | zero=>simp [Tree.gatesB,Tree.basicsB]
 | succ n ih=>rw [Tree.gatesB,List.length_append,ih]; rfl
def failTo (out:List Bool) (inp:List Int) (n:Nat):Nat:=(inp.take n).countP fun x=>bx out x.toNat
theorem failTo_succ (out:List Bool) (inp:List Int) (n:Nat) (h:n < inp.length):failTo out inp (n + 1) = failTo out inp n + if bx out (ix inp n).toNat then 1 else 0:=by
 unfold failTo
 rw [List.take_succ_eq_append_getElem h,List.countP_append,ix_eq h]
 simp [List.countP_cons]
theorem failTo_le (out:List Bool) (inp:List Int) (n:Nat):failTo out inp n ≤ n:=Nat.le_trans (List.countP_le_length) (List.length_take_le _ _)
set_option maxRecDepth 100000 in
set_option maxHeartbeats 2000000 in
theorem States_any (w:World) (v u:Value) (t:Tree) (l:List Int) (hfit:Fit t) (ht:IsTree w v t) (hl:IsInts w u l) :
    Calls Tryz.prog 53 #[v,u] w fun e w'=>∃ x,e = .returned x ∧ IsBools w' x (t.states (evL l)) ∧ Ext w w':=by
 obtain ⟨i0,hi,hz0,hz1,hz2⟩:=info_parts Tryz.info4
 obtain ⟨hnb,hnc,hng,hinp⟩:=hfit
 obtain ⟨a,b,c,rfl,h3⟩:=ht
 have c0:=cell_new w #[a,b,c] 26 0
 have c1:=cell_new w #[a,b,c] 26 1
 have c2:=cell_new w #[a,b,c] 26 2
 obtain ⟨A,cap,rfl,hl1,hcap,hc⟩:=h3.basics.opened
 obtain ⟨A',cap',rfl,hl',hcap',hc'⟩:=h3.causes.opened
 obtain ⟨A2,cap2,rfl,hl2,hcap2,hc2⟩:=h3.gates.opened
 clear h3 hc
 have HL:=Lib.hid hl
 clear hl
 have HI:=Lib.hid hinp; clear hinp
 go_enter Tryz.func53,Tryz.ntmps53
 go_wp2
 obtain ⟨W,hW⟩:∃ W,w.alloc (.cells #[.slice A t.basics.length cap,.slice A' t.causes.length cap',.slice A2 t.gates.length cap2] 26) = W:=⟨_,rfl⟩
 have hxW:Ext w W:=by rw [← hW]; exact Ext.box _ _
 have hsz:W.heap.size = w.heap.size + 1:=by rw [← hW]; simp
 rw [hW] at c0 c1 c2 ⊢
 simp only [List.getElem?_toArray,List.getElem?_cons_zero,List.getElem?_cons_succ] at c0 c1 c2
 have HW:=Lib.hid hW; clear hW
 have HC2:=Lib.hid c2
 have HS:=Lib.hid hsz
 go_loopw [5,6,7,8] (fun o i _ _ wr=>∃ (k:Nat),k ≤ t.basics.length ∧ i = .int .i64 k ∧ Own1 wr W.heap.size 4 Value.bool o (upTo t (evL l) k) ∧ Ext W wr) (fun _ i _ _ _=>t.basics.length - (intOf i).toNat)
 case atStart=>exact ⟨0,Nat.zero_le _,rfl,Own1.nil _ _ _ _,Ext.refl _⟩
 case round =>
  obtain ⟨k,hk,rfl,hown,hx⟩:=hrel
  have d0:=hx.cell c0
  have d1:=hx.cell c1
  have d2:=hx.cell c2
  have hle:=upTo_len t (evL l) k
  have HLE:=Lib.hid hle; clear hle
  by_cases hlt:k < t.basics.length
  · go_wp2_with (go_at_call 97; refine (HasInt_any _ _ l _ (HL.out.ext (hxW.trans hx))).mono ?_; rintro e w' ⟨rfl,rfl⟩)
    go_loop [7,8] (fun s i=>∃ (j:Nat),j ≤ t.causes.length ∧ i = .int .i64 j ∧ s = .bool (evL l k || anyTo t (evL l) k j)) (fun _ i=>t.causes.length - (intOf i).toNat)
    case atStart=>exact ⟨0,Nat.zero_le _,rfl,by simp [anyTo,evL]⟩
    case round =>
     obtain ⟨j,hj,rfl,rfl⟩:=hrel
     obtain ⟨s,hs⟩:∃ s,(evL l k || anyTo t (evL l) k j) = s:=⟨_,rfl⟩
     rw [hs]
     by_cases hlj:j < t.causes.length
     · obtain ⟨b,off,m,rfl,hb,e0,e1,e2,hM,_⟩:=hc' j hlj
       clear hc' hc2
       replace e2:=hx.cell (hxW.cell e2)
       have HMM:=Lib.hid (hM.ext (hxW.trans hx))
       clear hM e0 e1
       have hnext:(evL l k || anyTo t (evL l) k (j + 1)) = (s || (has l ((t.basics.length:Int) + (j:Int)) && has (cMembers t.causes j) (k:Int))):=by
        rw [anyTo_succ,← Bool.or_assoc,hs]
        unfold evL
        rw [show ((t.basics.length + j:Nat):Int) = (t.basics.length:Int) + (j:Int) from by omega]
       have HN:=Lib.hid hnext; clear hnext
       have HSS:=Lib.hid hs; clear hs
       cases s with
       | true =>
         go_wp2
         go_round
         case rel=>exact ⟨j + 1,by omega,by go_num,by rw [HN.out]; rfl⟩
         case measure=>simp [intOf]; omega
       | false =>
         cases hev:has l ((t.basics.length:Int) + (j:Int)) with
         | false =>
           go_wp2_with (go_at_call 97; refine (HasInt_any _ _ l _ (HL.out.ext (hxW.trans hx))).mono ?_; rintro e w' ⟨rfl,rfl⟩)
           go_round
           case rel=>exact ⟨j + 1,by omega,by go_num,by rw [HN.out,hev]; rfl⟩
           case measure=>simp [intOf]; omega
         | true =>
           go_wp2_with (go_at_call 97; first | ((with_reducible refine (HasInt_any _ _ l _ (HL.out.ext (hxW.trans hx))).mono ?_); rintro e w' ⟨rfl,rfl⟩) | ((with_reducible refine (HasInt_any _ _ _ _ HMM.out).mono ?_); rintro e w' ⟨rfl,rfl⟩))
           go_round
           case rel=>exact ⟨j + 1,by omega,by go_num,by rw [HN.out,hev]; rfl⟩
           case measure=>simp [intOf]; omega
     · clear hc' hc2
       have hbas:t.basicB (evL l) k = s:=by rw [basic_of,← hs,show j = t.causes.length from by omega]
       have HBB:=Lib.hid hbas; clear hbas
       have HSS:=Lib.hid hs; clear hs
       have hlen2:(upTo t (evL l) k).length ≤ 1000:=by rw [HLE.out]; omega
       go_wp2_with (at_builtin; refine wpList_append_own _ rfl _ _ 86 rfl (W.heap.size) 4 i0 (.bool false) 1 1 Tryz.underlying86 hi hz0 hz1 hz2 rfl (by decide) _ _ _ rfl (World.ownsRow.alloc hown _) ⟨wr.heap.size,0,none⟩ 1 1 [.bool s] rfl rfl ?_ ?_ ?_ ?_ ?_ ?_; exact one_new _ _ _; (focus (simp [Value.oneCell'])); (focus (unfold maxLen; omega)); (focus omega); (focus (have:=hx.size; simp at this ⊢; omega)); intro v' w1 hown' hgrow _)
       have hx':=ext_grown hx hown (Nat.le_refl _) hgrow
       go_wp2
       go_roundw
       case rel=>exact ⟨k + 1,by omega,by go_num,by rw [upTo_succ,HBB.out]; exact Own1.snoc hown',hx'⟩
       case measure=>simp [intOf]; omega
  · clear hc'
    have hown0:Own1 wr W.heap.size 4 Value.bool u5 (t.gatesB (evL l) 0):=by
     have e:t.gatesB (evL l) 0 = upTo t (evL l) k:=by rw [show k = t.basics.length from by omega]; rfl
     rw [e]; exact hown
    clear hown HLE
    go_wp2
    go_loopw [5,9] (fun o i wr=>∃ (g:Nat),g ≤ t.gates.length ∧ i = .int .i64 g ∧ Own1 wr W.heap.size 4 Value.bool o (t.gatesB (evL l) g) ∧ Ext W wr) (fun _ i _=>t.gates.length - (intOf i).toNat)
    case atStart=>exact ⟨0,Nat.zero_le _,rfl,hown0,hx⟩
    case round =>
     clear hown0 d0 d1 d2 c0 c1 c2 hx
     obtain ⟨g,hg,rfl,hown,hx⟩:=hrel
     have d2:=hx.cell HC2.out
     by_cases hlg:g < t.gates.length
     · obtain ⟨b,off,m,rfl,hb,e0,e1,e2,hM,hks⟩:=hc2 g hlg
       clear hc2
       replace e0:=hx.cell (hxW.cell e0)
       replace e1:=hx.cell (hxW.cell e1)
       replace e2:=hx.cell (hxW.cell e2)
       obtain ⟨A3,cap3,rfl,hl3,hcap3,hc3⟩:=(hM.ext (hxW.trans hx)).opened
       clear hM
       have HIN:=Lib.hid (HI.out g hlg)
       go_light
       have hlen:=gatesB_len t (evL l) g
       have HOB:Hid (IsBools wr u5 (t.gatesB (evL l) g)):=hown.bools (by omega)
       have e0':=cell_new wr #[.string (gKind t.gates g),.int .i64 (gNeed t.gates g),.slice A3 (gInputs t.gates g).length cap3] 103 0
       go_wp2
       obtain ⟨W2,hW2⟩:∃ W2,wr.alloc (.cells #[.string (gKind t.gates g),.int .i64 (gNeed t.gates g),.slice A3 (gInputs t.gates g).length cap3] 103) = W2:=⟨_,rfl⟩
       have hx2:Ext wr W2:=by rw [← hW2]; exact Ext.box _ _
       have f0:W2.cell? ⟨wr.heap.size,0,none⟩ = some (.string (gKind t.gates g)):=by rw [← hW2]; exact cell_new _ _ _ _
       have f1:W2.cell? ⟨wr.heap.size,1,none⟩ = some (.int .i64 (gNeed t.gates g)):=by rw [← hW2]; exact cell_new _ _ _ _
       have f2:W2.cell? ⟨wr.heap.size,2,none⟩ = some (.slice A3 (gInputs t.gates g).length cap3):=by rw [← hW2]; exact cell_new _ _ _ _
       rw [hW2]
       have hown2:=hown.below hx2
       have hxx:=hx.trans hx2
       clear e0' hW2 hown
       go_loop [11,12] (fun n i=>∃ (j:Nat),j ≤ (gInputs t.gates g).length ∧ i = .int .i64 j ∧ n = .int .i64 (failTo (t.gatesB (evL l) g) (gInputs t.gates g) j)) (fun _ i=>(gInputs t.gates g).length - (intOf i).toNat)
       case atStart=>exact ⟨0,Nat.zero_le _,rfl,rfl⟩
       case round =>
        obtain ⟨j,hj,rfl,rfl⟩:=hrel
        by_cases hlj:j < (gInputs t.gates g).length
        · obtain ⟨b3,off3,rfl,hcell⟩:=hc3 j hlj
          replace hcell:=hx2.cell hcell
          clear hc3
          have hin:=HIN.out (ix (gInputs t.gates g) j) (by rw [ix_eq hlj]; exact List.getElem_mem hlj)
          obtain ⟨p,hp⟩:=Int.eq_ofNat_of_zero_le hin.1
          have hpl:p < (t.gatesB (evL l) g).length:=by omega
          obtain ⟨A4,cap4,rfl,_,_,hc4⟩:=(HOB.out).opened
          obtain ⟨b4,off4,rfl,hb4,hcell4⟩:=hc4 p hpl
          replace hcell4:=hx2.cell hcell4
          clear hc4
          have hfs:=failTo_succ (t.gatesB (evL l) g) (gInputs t.gates g) j hlj
          rw [hp,Int.toNat_natCast] at hfs
          have hfl:=failTo_le (t.gatesB (evL l) g) (gInputs t.gates g) j
          obtain ⟨q,hq⟩:∃ q,failTo (t.gatesB (evL l) g) (gInputs t.gates g) j = q:=⟨_,rfl⟩
          rw [hq] at hfs hfl ⊢
          rw [hp] at hcell
          have i1:(p:Int) < ((t.gatesB (evL l) g).length:Int):=by omega
          go_light
          have HFS:=Lib.hid hfs
          have HQ:=Lib.hid hq
          have HP:=Lib.hid hp
          clear hfs hq hp
          cases hbv:bx (t.gatesB (evL l) g) p with
          | true =>
            go_wp2
            go_round
            case rel=>exact ⟨j + 1,by omega,by go_num,by rw [HFS.out,hbv]; rfl⟩
            case measure=>simp [intOf]; omega
          | false =>
            go_wp2
            go_round
            case rel=>exact ⟨j + 1,by omega,by go_num,by rw [HFS.out,hbv]; rfl⟩
            case measure=>simp [intOf]; omega
        · clear hc3
          have hfin:failTo (t.gatesB (evL l) g) (gInputs t.gates g) j = failing (t.gatesB (evL l) g) (gInputs t.gates g):=by
           unfold failTo failing; rw [List.take_of_length_le (by omega)]
          have hfl:failing (t.gatesB (evL l) g) (gInputs t.gates g) ≤ 17592186043904:=by
           rw [← hfin]; exact Nat.le_trans (failTo_le _ _ _) (by omega)
          rw [hfin]
          have hlen2:(t.gatesB (evL l) g).length ≤ 10000:=by omega
          have hstep:t.gatesB (evL l) (g + 1) = t.gatesB (evL l) g ++ [gateB (t.gatesB (evL l) g) (gKind t.gates g) (gNeed t.gates g) (gInputs t.gates g)]:=rfl
          have HST:=Lib.hid hstep
          have HB:=Lib.hid hb
          clear hfin hlen hstep hb HIN
          obtain ⟨q,hq⟩:∃ q,failing (t.gatesB (evL l) g) (gInputs t.gates g) = q:=⟨_,rfl⟩
          rw [hq] at hfl ⊢
          have HQ:=Lib.hid hq; clear hq
          by_cases hk1:gKind t.gates g = sAnd
          · have hgb:gateB (t.gatesB (evL l) g) (gKind t.gates g) (gNeed t.gates g) (gInputs t.gates g) = decide ((gInputs t.gates g).length ≤ q):=by
             unfold gateB needOf; rw [if_pos hk1,HQ.out]; simp
            rw [hk1] at f0
            unfold sAnd at f0
            have HGB:=Lib.hid hgb
            have HK1:=Lib.hid hk1
            clear hgb hk1
            go_wp2_with (at_builtin; refine wpList_append_own _ rfl _ _ 86 rfl (W.heap.size) 4 i0 (.bool false) 1 1 Tryz.underlying86 hi hz0 hz1 hz2 rfl (by decide) _ _ _ rfl (World.ownsRow.alloc hown2 _) ⟨W2.heap.size,0,none⟩ 1 1 [.bool (decide ((gInputs t.gates g).length ≤ q))] rfl rfl ?_ ?_ ?_ ?_ ?_ ?_; exact one_new _ _ _; (focus (simp [Value.oneCell'])); (focus (unfold maxLen; omega)); (focus omega); (focus (have:=hxx.size; simp at this ⊢; omega)); intro v' w1 hown' hgrow _)
            have hx':=ext_grown hxx hown2 (Nat.le_refl _) hgrow
            go_roundw
            case rel=>exact ⟨g + 1,by omega,by go_num,by rw [HST.out,HGB.out]; exact Own1.snoc hown',hx'⟩
            case measure=>simp [intOf]; omega
          · have hb1:=toList_ne and_list hk1
            by_cases hk2:gKind t.gates g = sOr
            · have hgb:gateB (t.gatesB (evL l) g) (gKind t.gates g) (gNeed t.gates g) (gInputs t.gates g) = decide ((1:Int) ≤ (q:Int)):=by
               unfold gateB needOf; rw [if_neg hk1,if_pos hk2,HQ.out]
              rw [hk2] at f0
              unfold sOr at f0
              have HGB:=Lib.hid hgb
              have HK1:=Lib.hid hk1
              have HK2:=Lib.hid hk2
              clear hgb hk1 hk2 hb1
              go_wp2_with (at_builtin; refine wpList_append_own _ rfl _ _ 86 rfl (W.heap.size) 4 i0 (.bool false) 1 1 Tryz.underlying86 hi hz0 hz1 hz2 rfl (by decide) _ _ _ rfl (World.ownsRow.alloc hown2 _) ⟨W2.heap.size,0,none⟩ 1 1 [.bool (decide ((1:Int) ≤ (q:Int)))] rfl rfl ?_ ?_ ?_ ?_ ?_ ?_; exact one_new _ _ _; (focus (simp [Value.oneCell'])); (focus (unfold maxLen; omega)); (focus omega); (focus (have:=hxx.size; simp at this ⊢; omega)); intro v' w1 hown' hgrow _)
              have hx':=ext_grown hxx hown2 (Nat.le_refl _) hgrow
              go_roundw
              case rel=>exact ⟨g + 1,by omega,by go_num,by rw [HST.out,HGB.out]; exact Own1.snoc hown',hx'⟩
              case measure=>simp [intOf]; omega
            · have hb2:=toList_ne or_list hk2
              have hgb:gateB (t.gatesB (evL l) g) (gKind t.gates g) (gNeed t.gates g) (gInputs t.gates g) = decide (gNeed t.gates g ≤ (q:Int)):=by
               unfold gateB needOf; rw [if_neg hk1,if_neg hk2,HQ.out]
              have HGB:=Lib.hid hgb
              have HK1:=Lib.hid hk1
              have HK2:=Lib.hid hk2
              clear hgb hk1 hk2
              go_wp2_with (at_builtin; refine wpList_append_own _ rfl _ _ 86 rfl (W.heap.size) 4 i0 (.bool false) 1 1 Tryz.underlying86 hi hz0 hz1 hz2 rfl (by decide) _ _ _ rfl (World.ownsRow.alloc hown2 _) ⟨W2.heap.size,0,none⟩ 1 1 [.bool (decide (gNeed t.gates g ≤ (q:Int)))] rfl rfl ?_ ?_ ?_ ?_ ?_ ?_; exact one_new _ _ _; (focus (simp [Value.oneCell'])); (focus (unfold maxLen; omega)); (focus omega); (focus (have:=hxx.size; simp at this ⊢; omega)); intro v' w1 hown' hgrow _)
              have hx':=ext_grown hxx hown2 (Nat.le_refl _) hgrow
              go_roundw
              case rel=>exact ⟨g + 1,by omega,by go_num,by rw [HST.out,HGB.out]; exact Own1.snoc hown',hx'⟩
              case measure=>simp [intOf]; omega
     · clear hc2 HI
       have e:t.states (evL l) = t.gatesB (evL l) g:=by rw [show g = t.gates.length from by omega]; rfl
       have HE:=Lib.hid e; clear e
       have hlen:=gatesB_len t (evL l) g
       go_wp2
       go_ret
       exact ⟨_,rfl,by rw [HE.out]; exact hown.bools (by omega),hxW.trans hx⟩
end Go.Proofs
namespace Go.Proofs
open Go.RowKit Go.Tw Go.Flow
theorem states_len (t:Tree) (ev:Nat → Bool):(t.states ev).length = t.nodes:=gatesB_len t ev _
set_option maxHeartbeats 400000 in
theorem Fails_any (w:World) (v u:Value) (t:Tree) (l:List Int) (hfit:Fit t) (hn:1 ≤ t.nodes) (ht:IsTree w v t) (hl:IsInts w u l) :
    Calls Tryz.prog 52 #[v,u] w fun e w'=>e = .returned (.bool (t.fails (evL l))) ∧ Ext w w':=by
 obtain ⟨a,b,c,rfl,h3⟩:=ht
 have hw:=Ext.box w (.cells #[a,b,c] 26)
 have HT:=Lib.hid (h3.ext hw)
 have HL:=Lib.hid (hl.ext hw)
 have HF:=Lib.hid hfit
 have hlen:=states_len t (evL l)
 have hnn:t.nodes ≤ 3000:=by unfold Tree.nodes; have:=hfit.nb; have:=hfit.ng; omega
 clear h3 hl hfit
 go_enter Tryz.func52,Tryz.ntmps52
 go_wp2_with fail
 refine (States_any _ _ _ t l HF.out ⟨_,_,_,rfl,HT.out⟩ HL.out).mono ?_
 rintro e w1 ⟨x,rfl,hb,hx⟩
 obtain ⟨A,cap,rfl,_,hcap,hc⟩:=hb.opened
 obtain ⟨b',off,rfl,hb',hcell⟩:=hc ((t.states (evL l)).length - 1) (by omega)
 obtain ⟨m,hm⟩:∃ m,(t.states (evL l)).length = m + 1:=⟨(t.states (evL l)).length - 1,by omega⟩
 clear hc hb
 rw [hm] at hcell hcap ⊢
 rw [Nat.add_sub_cancel] at hcell
 have HM:=Lib.hid hm
 have hm':m ≤ 3000:=by omega
 have HLEN:=Lib.hid hlen
 clear hm hlen
 go_wp2
 go_ret
 exact ⟨ret_bool (by unfold Tree.fails; rw [show t.nodes - 1 = m from by have:=HLEN.out; have:=HM.out; omega]),hw.trans hx⟩
def othersTo (n:Nat) (l:List Int):List Int:=((List.range n).map Int.ofNat).filter fun x=>!has l x
theorem othersTo_succ (n:Nat) (l:List Int):othersTo (n + 1) l = othersTo n l ++ if has l (n:Int) then [] else [(n:Int)]:=by
 unfold othersTo
 rw [List.range_succ,List.map_append,List.filter_append]
 cases h:has l (n:Int) <;> simp [h]
theorem othersTo_len (n:Nat) (l:List Int):(othersTo n l).length ≤ n:=by
 unfold othersTo; exact Nat.le_trans (List.length_filter_le _ _) (by simp)
set_option maxRecDepth 100000 in
set_option maxHeartbeats 400000 in
theorem Others_any (w:World) (v u:Value) (t:Tree) (l:List Int) (hn:t.size ≤ 100000) (ht:IsTree w v t) (hl:IsInts w u l) :
    Calls Tryz.prog 88 #[v,u] w fun e w'=>∃ x,e = .returned x ∧ IsInts w' x (others t.size l) ∧ Ext w w':=by
 obtain ⟨i0,hi,hz0,hz1,hz2⟩:=info_parts Tryz.info3
 obtain ⟨a,b,c,rfl,h3⟩:=ht
 have hw:=Ext.box w (.cells #[a,b,c] 26)
 have c0:=cell_new w #[a,b,c] 26 0
 have c1:=cell_new w #[a,b,c] 26 1
 have c2:=cell_new w #[a,b,c] 26 2
 have HT:=Lib.hid (h3.ext hw)
 have HL:=Lib.hid (hl.ext hw)
 clear h3 hl
 go_enter Tryz.func88,Tryz.ntmps88
 go_wp2
 obtain ⟨W,hW⟩:∃ W,w.alloc (.cells #[a,b,c] 26) = W:=⟨_,rfl⟩
 have hsz:W.heap.size = w.heap.size + 1:=by rw [← hW]; simp
 rw [hW] at c0 c1 c2 hw HT HL ⊢
 simp only [List.getElem?_toArray,List.getElem?_cons_zero,List.getElem?_cons_succ] at c0 c1 c2
 clear hW
 go_loopw [5,6] (fun o i wr=>∃ (k:Nat),k ≤ t.size ∧ i = .int .i64 k ∧ Own1 wr W.heap.size 3 (.int .i64) o (othersTo k l) ∧ Ext W wr) (fun _ i _=>t.size - (intOf i).toNat)
 case atStart=>exact ⟨0,Nat.zero_le _,rfl,Own1.nil _ _ _ _,Ext.refl _⟩
 case round =>
  obtain ⟨k,hk,rfl,hown,hx⟩:=hrel
  have d0:=hx.cell c0
  have d1:=hx.cell c1
  have d2:=hx.cell c2
  clear c0 c1 c2
  have hle:=othersTo_len k l
  go_wp2_with fail
  refine (Size_any _ _ t ⟨_,_,_,rfl,HT.out.ext hx⟩).mono ?_
  rintro e w1 ⟨rfl,hx1⟩
  replace hown:=hown.below hx1
  have hx':=hx.trans hx1
  clear hx d0 d1 d2 hx1
  by_cases hlt:k < t.size
  · cases hh:has l (k:Int) with
    | true =>
      go_wp2_with (go_at_call 97; refine (HasInt_any _ _ l _ (HL.out.ext hx')).mono ?_; rintro e w' ⟨rfl,rfl⟩)
      go_roundw
      case rel=>exact ⟨k + 1,by omega,by go_num,by rw [othersTo_succ,hh]; simpa using hown,hx'⟩
      case measure=>simp [intOf]; omega
    | false =>
      go_wp2_with (first | (go_at_call 97; refine (HasInt_any _ _ l _ (HL.out.ext hx')).mono ?_; rintro e w' ⟨rfl,rfl⟩) | (at_builtin; refine wpList_append_own _ rfl _ _ 39 rfl (W.heap.size) 3 i0 (.int .i64 0) 1 8 Tryz.underlying39 hi hz0 hz1 hz2 rfl (by decide) _ _ _ rfl (World.ownsRow.alloc hown _) ⟨w1.heap.size,0,none⟩ 1 1 [.int .i64 k] rfl rfl ?_ ?_ ?_ ?_ ?_ ?_; exact one_new _ _ _; (focus (simp [Value.oneCell'])); (focus (unfold maxLen; omega)); (focus omega); (focus (have:=hx'.size; simp at this ⊢; omega)); intro v' w1 hown' hgrow _))
      have hx2:=ext_grown hx' hown (Nat.le_refl _) hgrow
      go_roundw
      case rel=>exact ⟨k + 1,by omega,by go_num,by rw [othersTo_succ,hh]; exact Own1.snoc hown',hx2⟩
      case measure=>simp [intOf]; omega
  · go_wp2
    go_ret
    exact ⟨_,rfl,by rw [show others t.size l = othersTo k l from by rw [show k = t.size from by omega]; rfl]; exact hown.ints (by omega),hw.trans hx'⟩
end Go.Proofs
namespace Go.Proofs
open Go.RowKit Go.Tw Go.Flow
theorem bit_and1 {s:Nat} (hs:s < 2 ^ 62) (i:Nat):(bits .and .i64 ((s:Int) / 2 ^ i) 1 == 1) = s.testBit i:=by
 have h1:(s:Int) / 2 ^ i = ((s / 2 ^ i:Nat):Int):=by simp
 have h2:bits .and .i64 ((s / 2 ^ i:Nat):Int) 1 = ((s / 2 ^ i &&& 1:Nat):Int):=and64 (a:=s / 2 ^ i) (b:=1) (Nat.lt_of_le_of_lt (Nat.div_le_self _ _) hs) (by decide)
 rw [h1,h2,Nat.and_one_is_mod,bitAt]
 have h3:s / 2 ^ i % 2 = 0 ∨ s / 2 ^ i % 2 = 1:=by omega
 rcases h3 with h | h <;> rw [h] <;> rfl
set_option maxRecDepth 100000 in
set_option maxHeartbeats 1000000 in
theorem failing_any (w:World) (fv gv:Value) (t:Tree) (c:List Int) (s:Nat) (hv:Valid t) (hs:s < 2 ^ t.size) (hn:IsNo w fv gv t) :
    Calls Tryz.prog 108 #[noV t c fv gv,.int .i64 s] w fun e w'=>e = .returned (.int .i64 (packB (t.states (evN s)):Nat)) ∧ Ext w w':=by
 obtain ⟨hf,hg⟩:=hn
 obtain ⟨A,cap,rfl,hl1,hcap,hc⟩:=hf.opened
 obtain ⟨A2,cap2,rfl,hl2,hcap2,hc2⟩:=hg.opened
 rw [masks_len] at hl1 hcap hc
 have hsz:=hv.size
 have hng:=hv.ng'
 have hnb:=hv.nb
 have HV:=Lib.hid hv
 have HC:=Lib.hid hc
 have HC2:=Lib.hid hc2
 have hsb:t.basics.length ≤ 12:=by unfold Tree.size at hsz; omega
 have hs12:s < 2 ^ 62:=Nat.lt_of_lt_of_le hs (Nat.pow_le_pow_right (by omega) (by omega))
 have HS:=Lib.hid hs12
 clear hf hg hc hc2 hv hs hs12
 unfold noV
 rw [masks_len]
 go_enter Tryz.func108,Tryz.ntmps108
 go_wp2
 obtain ⟨W,hW⟩:∃ W,w.alloc (.cells #[.int .i64 t.size,.slice A t.size cap,.int .i64 (ix c 0),.int .i64 (ix c 1),.int .i64 (ix c 2),.int .i64 (ix c 3),.int .i64 (ix c 4),.int .i64 (ix c 5),.int .i64 (ix c 6),.int .i64 (ix c 7),.int .i64 (ix c 8),.int .i64 (ix c 9),.int .i64 (ix c 10),.int .i64 (ix c 11),.int .i64 t.basics.length,.slice A2 t.gates.length cap2] 110) = W:=⟨_,rfl⟩
 have hxW:Ext w W:=by rw [← hW]; exact Ext.box _ _
 have n14:W.cell? ⟨w.heap.size,14,none⟩ = some (.int .i64 t.basics.length):=by rw [← hW]; exact cell_new _ _ _ 14
 have n15:W.cell? ⟨w.heap.size,15,none⟩ = some (.slice A2 t.gates.length cap2):=by rw [← hW]; exact cell_new _ _ _ 15
 rw [hW]
 clear hW
 go_loop [5,14] (fun o i=>∃ (k:Nat),k ≤ t.size ∧ i = .int .i64 k ∧ o = .int .i64 (t.orTo s k:Nat)) (fun _ i=>t.size - (intOf i).toNat)
 case atStart=>exact ⟨0,Nat.zero_le _,rfl,rfl⟩
 case round =>
  obtain ⟨k,hk,rfl,rfl⟩:=hrel
  by_cases hlt:k < t.size
  · obtain ⟨b,off,rfl,hcell⟩:=HC.out k hlt
    rw [masks_ix hlt] at hcell
    replace hcell:=hxW.cell hcell
    have hm:=HV.out.maskAt_lt hlt
    have ho:=HV.out.orTo_lt s k hk
    have hp12:(2:Nat) ^ t.basics.length ≤ 2 ^ 12:=Nat.pow_le_pow_right (by omega) hsb
    have hor:=or64 (a:=t.orTo s k) (b:=t.maskAt k) (by omega) (by omega)
    have HO:Hid (t.orTo s (k + 1) = if s.testBit k then t.orTo s k ||| t.maskAt k else t.orTo s k):=by exact (rfl:t.orTo s (k + 1) = _)
    have hb1:=bit_and1 HS.out k
    obtain ⟨o,he⟩:∃ o,t.orTo s k = o:=⟨_,rfl⟩
    obtain ⟨m,hme⟩:∃ m,t.maskAt k = m:=⟨_,rfl⟩
    rw [he,hme] at hor HO
    rw [hme] at hcell
    rw [he]
    clear he hme hm ho hp12
    cases hb:s.testBit k with
    | true =>
      rw [hb] at HO hb1
      clear hb
      go_wp2
      go_round
      case rel=>exact ⟨k + 1,by omega,by go_num,by rw [HO.out]; rfl⟩
      case measure=>simp [intOf]; omega
    | false =>
      rw [hb] at HO hb1
      clear hb
      go_wp2
      go_round
      case rel=>exact ⟨k + 1,by omega,by go_num,by rw [HO.out]; rfl⟩
      case measure=>simp [intOf]; omega
  · have e0:t.orTo s k = packB (t.gatesB (evN s) 0):=by rw [show k = t.size from by omega,HV.out.orTo_all]; rfl
    rw [e0]
    clear e0
    go_wp2
    go_loopw [5,31] (fun o i wr=>∃ (g:Nat),g ≤ t.gates.length ∧ i = .int .i64 g ∧ o = .int .i64 (packB (t.gatesB (evN s) g):Nat) ∧ Ext W wr) (fun _ i _=>t.gates.length - (intOf i).toNat)
    case atStart=>exact ⟨0,Nat.zero_le _,rfl,rfl,Ext.refl _⟩
    case round =>
     obtain ⟨g,hg,rfl,rfl,hx⟩:=hrel
     replace n14:=hx.cell n14
     replace n15:=hx.cell n15
     by_cases hlg:g < t.gates.length
     · obtain ⟨b,off,rfl,hbl,g0,g1⟩:=HC2.out g hlg
       replace g0:=hx.cell (hxW.cell g0)
       replace g1:=hx.cell (hxW.cell g1)
       have hm:=HV.out.gmask_lt hlg
       have ho:=HV.out.gates_bd (evN s) hg
       have HST:=Lib.hid (HV.out.step (evN s) hlg)
       have hand:=and64 (a:=packB (t.gatesB (evN s) g)) (b:=(t.gt g).1) (by omega) (by omega)
       have hor:=or_step (a:=packB (t.gatesB (evN s) g)) (n:=t.basics.length + g) (by omega) (by omega)
       obtain ⟨o,he⟩:∃ o,packB (t.gatesB (evN s) g) = o:=⟨_,rfl⟩
       obtain ⟨m,hme⟩:∃ m,(t.gt g).1 = m:=⟨_,rfl⟩
       obtain ⟨q,hq⟩:∃ q,(t.gt g).2 = q:=⟨_,rfl⟩
       rw [he,hme,hq] at HST
       rw [he,hme] at hand
       rw [he] at ho hor
       rw [hme] at g0 hm
       rw [hq] at g1
       rw [he]
       clear he hme hq hbl
       have hlt64:o &&& m < 2 ^ 64:=Nat.lt_of_le_of_lt Nat.and_le_right (by omega)
       obtain ⟨r,hr⟩:∃ r,o &&& m = r:=⟨_,rfl⟩
       rw [hr] at HST hand hlt64
       clear hr
       obtain ⟨p,hp⟩:∃ p,popN r 64 = p:=⟨_,rfl⟩
       rw [hp] at HST
       have HON:Hid (∀ w',Calls Tryz.prog 137 #[.int .u64 r] w' fun e w''=>e = .returned (.int .i64 (p:Nat)) ∧ w' = w''):=by
        exact (by intro w'; rw [← hp]; exact Ones_any w' r hlt64:∀ w',Calls Tryz.prog 137 #[.int .u64 r] w' fun e w''=>e = .returned (.int .i64 (p:Nat)) ∧ w' = w'')
       have hwr:IntKind.u64.wrap (r:Int) = (r:Int):=wrapUN (by omega)
       clear hp hlt64 hm ho
       go_light
       go_wp2
       obtain ⟨W2,hW2⟩:∃ W2,wr.alloc (.cells #[.int .i64 m,.int .i64 q] 166) = W2:=⟨_,rfl⟩
       have hx2:Ext wr W2:=by rw [← hW2]; exact Ext.box _ _
       have k0:W2.cell? ⟨wr.heap.size,0,none⟩ = some (.int .i64 m):=by rw [← hW2]; exact cell_new _ _ _ 0
       have k1:W2.cell? ⟨wr.heap.size,1,none⟩ = some (.int .i64 q):=by rw [← hW2]; exact cell_new _ _ _ 1
       rw [hW2]
       replace n14:=hx2.cell n14
       have hxr:=hx.trans hx2
       clear hW2
       refine Flow.region0 [.plain,.plain,.world,.plain,.world,.world,.plain,.world,.plain] [0,1,2,3,4,5,6,7,8] [[],[],[1],[0,1,2],[0,1,2,3],[0,1,2,3,4],[],[6],[0,1,2,3,4,5,6,7]]
        [.is 0 (fun v=>.int .i64 (o:Nat)),.is 1 (fun v=>.pointer (some ⟨wr.heap.size,0,none⟩)),.is 2 (fun v=>.int .i64 (m:Nat)),.is 3 (fun v=>.int .i64 (r:Nat)),.is 4 (fun v=>.int .u64 (r:Nat)),.is 5 (fun v=>.int .i64 (p:Nat)),.is 6 (fun v=>.pointer (some ⟨wr.heap.size,1,none⟩)),.is 7 (fun v=>.int .i64 q),.is 8 (fun v=>.bool (decide (q ≤ (p:Int))))]
        (by kernel_rfl) rfl (by kernel_rfl) ⟨?g0,?g1,?g2,?g3,?g4,?g5,?g6,?g7,?g8,trivial⟩ ?post
       case g0 =>
        intro v w1 hx
        have k0:=hx.cell k0
        have k1:=hx.cell k1
        refine ⟨_,fun w=>?_,rfl⟩
        go_simp
       case g1 =>
        intro v w1 hx
        have k0:=hx.cell k0
        have k1:=hx.cell k1
        refine ⟨_,fun w=>?_,rfl⟩
        go_simp
       case g2 =>
        intro v w1 hx (q1:v 1 = .pointer (some ⟨wr.heap.size,0,none⟩))
        have k0:=hx.cell k0
        have k1:=hx.cell k1
        intro K hK
        go_simp
        exact hK _ _ (Ext.refl _) rfl
       case g3 =>
        intro v w1 hx (q0:v 0 = .int .i64 (o:Nat)) (q1:v 1 = .pointer (some ⟨wr.heap.size,0,none⟩)) (q2:v 2 = .int .i64 (m:Nat))
        have k0:=hx.cell k0
        have k1:=hx.cell k1
        refine ⟨_,fun w=>?_,rfl⟩
        go_simp
       case g4 =>
        intro v w1 hx (q0:v 0 = .int .i64 (o:Nat)) (q1:v 1 = .pointer (some ⟨wr.heap.size,0,none⟩)) (q2:v 2 = .int .i64 (m:Nat)) (q3:v 3 = .int .i64 (r:Nat))
        have k0:=hx.cell k0
        have k1:=hx.cell k1
        intro K hK
        go_simp
        exact hK _ _ (Ext.refl _) rfl
       case g5 =>
        intro v w1 hx (q0:v 0 = .int .i64 (o:Nat)) (q1:v 1 = .pointer (some ⟨wr.heap.size,0,none⟩)) (q2:v 2 = .int .i64 (m:Nat)) (q3:v 3 = .int .i64 (r:Nat)) (q4:v 4 = .int .u64 (r:Nat))
        have k0:=hx.cell k0
        have k1:=hx.cell k1
        intro K hK
        go_simp
        refine gives_call (HON.out _) ?_
        rintro e w2 ⟨rfl,rfl⟩
        exact ⟨_,rfl,hK _ _ (Ext.refl _) rfl⟩
       case g6 =>
        intro v w1 hx
        have k0:=hx.cell k0
        have k1:=hx.cell k1
        refine ⟨_,fun w=>?_,rfl⟩
        go_simp
       case g7 =>
        intro v w1 hx (q6:v 6 = .pointer (some ⟨wr.heap.size,1,none⟩))
        have k0:=hx.cell k0
        have k1:=hx.cell k1
        intro K hK
        go_simp
        exact hK _ _ (Ext.refl _) rfl
       case g8 =>
        intro v w1 hx (q0:v 0 = .int .i64 (o:Nat)) (q1:v 1 = .pointer (some ⟨wr.heap.size,0,none⟩)) (q2:v 2 = .int .i64 (m:Nat)) (q3:v 3 = .int .i64 (r:Nat)) (q4:v 4 = .int .u64 (r:Nat)) (q5:v 5 = .int .i64 (p:Nat)) (q6:v 6 = .pointer (some ⟨wr.heap.size,1,none⟩)) (q7:v 7 = .int .i64 q)
        have k0:=hx.cell k0
        have k1:=hx.cell k1
        refine ⟨_,fun w=>?_,rfl⟩
        go_simp
       case post =>
        intro v w1 hx (q0:v 0 = .int .i64 (o:Nat)) (q1:v 1 = .pointer (some ⟨wr.heap.size,0,none⟩)) (q2:v 2 = .int .i64 (m:Nat)) (q3:v 3 = .int .i64 (r:Nat)) (q4:v 4 = .int .u64 (r:Nat)) (q5:v 5 = .int .i64 (p:Nat)) (q6:v 6 = .pointer (some ⟨wr.heap.size,1,none⟩)) (q7:v 7 = .int .i64 q) (q8:v 8 = .bool (decide (q ≤ (p:Int))))
        simp only [Flow.All,Flow.acts,Act.put]
        go_simp
        replace n14:=((Ext.refl W2).drew.trans hx).cell n14
        by_cases hd:q ≤ (p:Int)
        · rw [if_pos hd] at HST
          rw [decide_eq_true hd]
          clear hd
          go_wp2
          go_roundw
          case rel=>exact ⟨g + 1,by omega,by go_num,by rw [HST.out],hxr.trans ((Ext.refl W2).drew.trans hx)⟩
          case measure=>simp [intOf]; omega
        · rw [if_neg hd] at HST
          rw [decide_eq_false hd]
          clear hd
          go_wp2
          go_roundw
          case rel=>exact ⟨g + 1,by omega,by go_num,by rw [HST.out],hxr.trans ((Ext.refl W2).drew.trans hx)⟩
          case measure=>simp [intOf]; omega
     · go_wp2
       go_ret
       exact ⟨ret_int (by rw [show g = t.gates.length from by omega]; rfl),hxW.trans hx⟩
end Go.Proofs
